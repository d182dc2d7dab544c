/-
  cutroomref37.Copy.
-/
import Derived.Test.YtnefbeplgfdkkaaGreatDoorJb30
import Derived.Test.YtnefbeplgfdkkaaGreatDoorJb08
namespace Go.Proofs.YtnefbeplgfdkkaaGreatDoor
open Go.RowKit

/-- 'append([]T{}, x...)': a row of the call's own in new memory. -/
theorem gives_append_new {P : Program} {o : Oper} {a : Act} {w : World} (s x : Operand) (t e : TypeId) (ho : o.op = .call { callee := .builtin .append, args := #[s, x], argTypes := #[t, t] }) (base : Nat) (n c b : Nat) (size bytes : Nat)
    (ht : P.underlying t = some (.slice e)) {ie : TypeInfo} {z : Value} (hie : P.info? e = some ie) (hz : ie.zero = some z) (hsize : ie.size = size) (hby : ie.bytes = bytes) (hzs : z.cells.size = size) (hsz : 0 < size)
    (hs : a.eval s = .slice (some ⟨b, 0, none⟩) 0 0) (hb : Blk w b e #[]) (hbb : base ≤ b) (A : Option Addr) (cs : List Value) (S : Nat → Prop) (hx : a.eval x = .slice A n c) (hr : Row w S size A n c cs) (h1 : ∀ u ∈ cs, u.oneCell' = true)
    (hn : n * bytes ≤ 140737488355328) (hnm : n ≤ maxLen) (hbase : base ≤ w.heap.size) :
    gives P o a w fun v' w' => w'.ownsRow base e size v' n cs ∧ Keep none_ w w' := by
  subst hsize hby
  have own0 : w.ownsRow base e ie.size (.slice (some ⟨b, 0, none⟩) 0 0) 0 [] := ⟨by simp, .inr ⟨b, 0, #[], rfl, hbb, hb, Nat.le_refl _, Nat.zero_le _, by simp, by simp⟩⟩
  have hl := hr.len
  by_cases h0 : n = 0
  · subst h0
    have hcs : cs = [] := List.eq_nil_of_length_eq_zero (by simpa using hl)
    subst hcs
    have hrun : (Builtin.append_ #[t, t] o.type #[.slice (some ⟨b, 0, none⟩) 0 0, .slice A 0 c]).run P w = .ok (.slice (some ⟨b, 0, none⟩) 0 0) w := by
      cases A <;> simp [Builtin.append_, run_underlying ht, sizeOf, typeInfo, hie, Builtin.lenOf, Builtin.firstCells, loadCells, loadCellsFrom, storeCells]
    unfold gives execOp
    simp only [ho, resolve, invoke, builtin, Sem.run_bind, Sem.run_pure, Result.andThen_ok, List.map_toArray, List.map_cons, List.map_nil, hs, hx, hrun]
    exact ⟨own0, Keep.refl _ _⟩
  · obtain ⟨b2, o2, rfl, -, hc⟩ := hr.at_ (by omega)
    have hnews : ∀ j u, cs[j]? = some u → w.cell? ((⟨b2, o2, none⟩ : Addr).add j) = some u := fun j u hu => by rw [Addr.add_mid]; exact hc j u hu
    unfold maxLen at hnm
    obtain ⟨v', w', hrun, ho', -, -⟩ := run_append_own (P := P) w base t o.type e ie z ie.size ie.bytes ht hie hz rfl rfl hzs hsz _ 0 [] own0 ⟨b2, o2, none⟩ n c cs hl hnews h1 (by unfold maxLen; omega) (by simpa using hn) hbase
    have hrun2 := run_append_grow (P := P) w t o.type e ie z ht hie hz ⟨b, 0, none⟩ 0 0 [] (by simp) (fun j v h => by simp at h) ⟨b2, o2, none⟩ n c cs hl hnews (by omega) (by omega) (growslice_fits (by omega) (by simpa using hn))
    rw [hrun] at hrun2
    simp only [Result.ok.injEq] at hrun2
    obtain ⟨rfl, rfl⟩ := hrun2
    unfold gives execOp
    simp only [ho, resolve, invoke, builtin, Sem.run_bind, Sem.run_pure, Result.andThen_ok, List.map_toArray, List.map_cons, List.map_nil, hs, hx, hrun]
    exact ⟨by simpa using ho', ((Keep.refl none_ w).drew).alloc _⟩

/-- The facts of the three copies. -/
def rcopCalm (wr : World) (np nj nw : Nat) (c1 c2 c3 : List Value) : Calm where
  R := fun _ => Keep none_
  G := fun _ => Keep none_ wr
  eff := [2, 5, 6, 9, 10, 13]
  T := fun k _ v w' => match k with
    | 2 => madeT wr.heap.size 9 #[] (fun a => .slice (some a) 0 0) v w'
    | 6 => madeT wr.heap.size 57 #[] (fun a => .slice (some a) 0 0) v w'
    | 10 => madeT wr.heap.size 107 #[] (fun a => .slice (some a) 0 0) v w'
    | 5 => w'.ownsRow wr.heap.size 9 1 v np c1
    | 9 => w'.ownsRow wr.heap.size 57 7 v nj c2
    | _ => w'.ownsRow wr.heap.size 107 2 v nw c3
  anc := fun k => if k = 5 then [2] else if k = 9 then [6] else if k = 13 then [10] else []
  own := fun _ _ _ => False
theorem rcopCalm_good (wr : World) (np nj nw : Nat) (c1 c2 c3 : List Value) : (rcopCalm wr np nj nw c1 c2 c3).Good where
  mono := fun _ _ h => h
  size := fun _ _ _ h => h.size
  stable := fun _ k _ v w1 w2 _ _ h hR => by
    simp only [rcopCalm] at h ⊢
    split at h
    · exact h.stable (S := none_) hR fun _ e => e.elim
    · exact h.stable (S := none_) hR fun _ e => e.elim
    · exact h.stable (S := none_) hR fun _ e => e.elim
    · exact own_keep (S := none_) h hR (fun _ _ e => e)
    · exact own_keep (S := none_) h hR (fun _ _ e => e)
    · exact own_keep (S := none_) h hR (fun _ _ e => e)
theorem rcopCalm_at {wr : World} {np nj nw : Nat} {c1 c2 c3 : List Value} (x : (rcopCalm wr np nj nw c1 c2 c3).Sub) : Keep none_ wr ((rcopCalm wr np nj nw c1 c2 c3).at_ x) := by
  obtain ⟨x, n, _, h⟩ := x
  exact h

set_option maxRecDepth 100000 in
set_option maxHeartbeats 1000000 in
theorem rcopy_raw (now : Int) (Ap Aj Aw : Option Addr) (np cp nj cj nw cw : Nat) (c1 c2 c3 : List Value) (S : Nat → Prop) (w : World) (r1 : Row w S 1 Ap np cp c1) (r2 : Row w S 7 Aj nj cj c2) (r3 : Row w S 2 Aw nw cw c3)
    (p1 : ∀ u ∈ c1, u.oneCell' = true) (p2 : ∀ u ∈ c2, u.oneCell' = true) (p3 : ∀ u ∈ c3, u.oneCell' = true) (n1 : np ≤ 65536) (n2 : nj ≤ 65536) (n3 : nw ≤ 65536) :
    Calls Tryz.prog 40 #[.agg #[.int .i64 now, .slice Ap np cp, .slice Aj nj cj, .slice Aw nw cw]] w (CopiedPost now np nj nw c1 c2 c3 w) := by
  obtain ⟨ie1, z1, hie1, hz1, hs1, hb1, hzs1⟩ := info_all (P := Tryz.prog) (t := 9) (n := 1) (b := 16) (by kernel_rfl)
  obtain ⟨ie2, z2, hie2, hz2, hs2, hb2, hzs2⟩ := info_all (P := Tryz.prog) (t := 57) (n := 7) (b := 104) (by kernel_rfl)
  obtain ⟨ie3, z3, hie3, hz3, hs3, hb3, hzs3⟩ := info_all (P := Tryz.prog) (t := 107) (n := 2) (b := 24) (by kernel_rfl)
  have I1 := Lib.hid (And.intro hie1 (And.intro hz1 (And.intro hs1 (And.intro hb1 hzs1))))
  have I2 := Lib.hid (And.intro hie2 (And.intro hz2 (And.intro hs2 (And.intro hb2 hzs2))))
  have I3 := Lib.hid (And.intro hie3 (And.intro hz3 (And.intro hs3 (And.intro hb3 hzs3))))
  have R1 := Lib.hid r1
  have R2 := Lib.hid r2
  have R3 := Lib.hid r3
  have P1 := Lib.hid p1
  have P2 := Lib.hid p2
  have P3 := Lib.hid p3
  clear r1 r2 r3 p1 p2 p3 hie1 hz1 hs1 hb1 hzs1 hie2 hz2 hs2 hb2 hzs2 hie3 hz3 hs3 hb3 hzs3
  obtain ⟨W0, hW0⟩ : ∃ W0, W0 = (w.alloc (.cells #[.int .i64 now, .slice Ap np cp, .slice Aj nj cj, .slice Aw nw cw] 48)).alloc (.cells #[.int .i64 0, .slice none 0 0, .slice none 0 0, .slice none 0 0] 48) := ⟨_, rfl⟩
  obtain ⟨b0, b1, k0⟩ := two (w := w) (t0 := 48) (c0 := #[.int .i64 now, .slice Ap np cp, .slice Aj nj cj, .slice Aw nw cw]) (t1 := 48) (c1 := #[.int .i64 0, .slice none 0 0, .slice none 0 0, .slice none 0 0]) (w1 := W0) (hW0 ▸ Keep.refl none_ W0)
  have zs := zero_state
  go_enter Tryz.func40, Tryz.ntmps40
  go_upto_region 1 with (fail)
  rw [← hW0]
  clear hW0
  have gd := rcopCalm_good W0 np nj nw c1 c2 c3
  have ne : Nonempty (rcopCalm W0 np nj nw c1 c2 c3).Sub := ⟨⟨W0, 0, Nat.zero_le _, Keep.refl _ _⟩⟩
  have x0 := fun x => (b0.keep (rcopCalm_at (np := np) (nj := nj) (nw := nw) (c1 := c1) (c2 := c2) (c3 := c3) x) (fun e => e)).cell 0
  have x1 := fun x => (b0.keep (rcopCalm_at (np := np) (nj := nj) (nw := nw) (c1 := c1) (c2 := c2) (c3 := c3) x) (fun e => e)).cell 1
  have x2 := fun x => (b0.keep (rcopCalm_at (np := np) (nj := nj) (nw := nw) (c1 := c1) (c2 := c2) (c3 := c3) x) (fun e => e)).cell 2
  have x3 := fun x => (b0.keep (rcopCalm_at (np := np) (nj := nj) (nw := nw) (c1 := c1) (c2 := c2) (c3 := c3) x) (fun e => e)).cell 3
  simp only [List.getElem?_toArray, List.getElem?_cons_zero, List.getElem?_cons_succ] at x0 x1 x2 x3
  refine wp_region_calm (rcopCalm W0 np nj nw c1 c2 c3) [0, 1, 2, 3, 4, 5, 6, 7, 8, 9, 10, 11, 12, 13, 14] [15] 18 (by kernel_rfl) (by kernel_rfl) rfl gd (Keep.refl _ _).drew ?_
  simp only [pairs, List.filterMap_cons, List.filterMap_nil, List.getElem?_toArray, List.getElem?_cons_succ, List.getElem?_cons_zero, Option.map_some]
  repeat (refine Calm.walk_quiet ne rfl rfl rfl (fun K hK => ?_); go_big_quiet_op; refine hK _ ?_; clear hK K)
  refine Calm.walk_eff rfl rfl (fun n w3 hn hG _ => ?_) ?_
  · have hG' : Keep none_ W0 w3 := hG
    unfold gives
    go_simp
    exact ⟨⟨w3.heap.size, hG'.size, rfl, Blk.new _ _ _⟩, (Keep.refl _ _).alloc _, hG'.alloc _, fun _ h => h.elim⟩
  intro vq w3 hT
  obtain ⟨q1, -, rfl, -⟩ : madeT W0.heap.size 9 #[] (fun a => .slice (some a) 0 0) vq w3 := hT
  clear w3
  go_frame
  repeat (refine Calm.walk_quiet ne rfl rfl rfl (fun K hK => ?_); go_big_quiet_op; refine hK _ ?_; clear hK K)
  refine Calm.walk_eff rfl rfl (fun n w3 hn hG hAF => ?_) ?_
  · have hG' : Keep none_ W0 w3 := hG
    obtain ⟨g1, g2⟩ := madeT.slice (show madeT W0.heap.size 9 #[] (fun a => .slice (some a) 0 0) (.slice (some ⟨q1, 0, none⟩) 0 0) w3 from (hAF 2 List.mem_cons_self _ rfl ⟨rfl, rfl⟩).1)
    refine gives_mono (gives_append_new (.tmp 5) (.tmp 7) 44 9 rfl W0.heap.size np cp q1 1 16 Tryz.underlying44 I1.out.1 I1.out.2.1 I1.out.2.2.1 I1.out.2.2.2.1 I1.out.2.2.2.2 (by decide) rfl g2 g1 Ap c1 S rfl (R1.out.keep (k0.trans hG').weak) P1.out (by omega) (by unfold maxLen; omega) hG'.size) ?_
    rintro v' w' ⟨hv, hk⟩
    exact ⟨hv, hk, hG'.trans hk, fun _ h => h.elim⟩
  intro vq w3 hT
  have hT' : w3.ownsRow W0.heap.size 9 1 vq np c1 := hT
  obtain ⟨A1, d1, rfl, -⟩ := own_row (S := none_) hT' (fun _ _ e => e)
  clear hT hT' w3
  go_frame
  repeat (refine Calm.walk_quiet ne rfl rfl rfl (fun K hK => ?_); go_big_quiet_op; refine hK _ ?_; clear hK K)
  refine Calm.walk_eff rfl rfl (fun n w3 hn hG _ => ?_) ?_
  · have hG' : Keep none_ W0 w3 := hG
    unfold gives
    go_simp
    exact ⟨⟨w3.heap.size, hG'.size, rfl, Blk.new _ _ _⟩, (Keep.refl _ _).alloc _, hG'.alloc _, fun _ h => h.elim⟩
  intro vq w3 hT
  obtain ⟨q2, -, rfl, -⟩ : madeT W0.heap.size 57 #[] (fun a => .slice (some a) 0 0) vq w3 := hT
  clear w3
  go_frame
  repeat (refine Calm.walk_quiet ne rfl rfl rfl (fun K hK => ?_); go_big_quiet_op; refine hK _ ?_; clear hK K)
  refine Calm.walk_eff rfl rfl (fun n w3 hn hG hAF => ?_) ?_
  · have hG' : Keep none_ W0 w3 := hG
    obtain ⟨g1, g2⟩ := madeT.slice (show madeT W0.heap.size 57 #[] (fun a => .slice (some a) 0 0) (.slice (some ⟨q2, 0, none⟩) 0 0) w3 from (hAF 6 List.mem_cons_self _ rfl ⟨rfl, rfl⟩).1)
    refine gives_mono (gives_append_new (.tmp 9) (.tmp 11) 45 57 rfl W0.heap.size nj cj q2 7 104 Tryz.underlying45 I2.out.1 I2.out.2.1 I2.out.2.2.1 I2.out.2.2.2.1 I2.out.2.2.2.2 (by decide) rfl g2 g1 Aj c2 S rfl (R2.out.keep (k0.trans hG').weak) P2.out (by omega) (by unfold maxLen; omega) hG'.size) ?_
    rintro v' w' ⟨hv, hk⟩
    exact ⟨hv, hk, hG'.trans hk, fun _ h => h.elim⟩
  intro vq w3 hT
  have hT' : w3.ownsRow W0.heap.size 57 7 vq nj c2 := hT
  obtain ⟨A2, d2, rfl, -⟩ := own_row (S := none_) hT' (fun _ _ e => e)
  clear hT hT' w3
  go_frame
  repeat (refine Calm.walk_quiet ne rfl rfl rfl (fun K hK => ?_); go_big_quiet_op; refine hK _ ?_; clear hK K)
  refine Calm.walk_eff rfl rfl (fun n w3 hn hG _ => ?_) ?_
  · have hG' : Keep none_ W0 w3 := hG
    unfold gives
    go_simp
    exact ⟨⟨w3.heap.size, hG'.size, rfl, Blk.new _ _ _⟩, (Keep.refl _ _).alloc _, hG'.alloc _, fun _ h => h.elim⟩
  intro vq w3 hT
  obtain ⟨q3, -, rfl, -⟩ : madeT W0.heap.size 107 #[] (fun a => .slice (some a) 0 0) vq w3 := hT
  clear w3
  go_frame
  repeat (refine Calm.walk_quiet ne rfl rfl rfl (fun K hK => ?_); go_big_quiet_op; refine hK _ ?_; clear hK K)
  refine Calm.walk_eff rfl rfl (fun n w3 hn hG hAF => ?_) ?_
  · have hG' : Keep none_ W0 w3 := hG
    obtain ⟨g1, g2⟩ := madeT.slice (show madeT W0.heap.size 107 #[] (fun a => .slice (some a) 0 0) (.slice (some ⟨q3, 0, none⟩) 0 0) w3 from (hAF 10 List.mem_cons_self _ rfl ⟨rfl, rfl⟩).1)
    refine gives_mono (gives_append_new (.tmp 13) (.tmp 15) 46 107 rfl W0.heap.size nw cw q3 2 24 Tryz.underlying46 I3.out.1 I3.out.2.1 I3.out.2.2.1 I3.out.2.2.2.1 I3.out.2.2.2.2 (by decide) rfl g2 g1 Aw c3 S rfl (R3.out.keep (k0.trans hG').weak) P3.out (by omega) (by unfold maxLen; omega) hG'.size) ?_
    rintro v' w' ⟨hv, hk⟩
    exact ⟨hv, hk, hG'.trans hk, fun _ h => h.elim⟩
  intro vq w3 hT
  have hT' : w3.ownsRow W0.heap.size 107 2 vq nw c3 := hT
  obtain ⟨A3, d3, rfl, -⟩ := own_row (S := none_) hT' (fun _ _ e => e)
  clear hT hT' w3
  go_frame
  skip
  refine Calm.walk_build 48 _ rfl ne rfl rfl #[.int .i64 now, .slice A1 np d1, .slice A2 nj d2, .slice A3 nw d3] (by kernel_rfl) ?_
  go_frame
  intro w3 hG hD
  have k03 : Keep none_ W0 w3 := hG
  have o1 : w3.ownsRow W0.heap.size 9 1 (.slice A1 np d1) np c1 := (hD.1 5 rfl _ rfl ⟨rfl, rfl⟩).1
  have o2 : w3.ownsRow W0.heap.size 57 7 (.slice A2 nj d2) nj c2 := (hD.1 9 rfl _ rfl ⟨rfl, rfl⟩).1
  have o3 : w3.ownsRow W0.heap.size 107 2 (.slice A3 nw d3) nw c3 := (hD.1 13 rfl _ rfl ⟨rfl, rfl⟩).1
  clear hD hG ne gd x0 x1 x2 x3
  simp only [pickOps, List.filterMap_cons, List.filterMap_nil, List.getElem?_toArray, List.getElem?_cons_succ, List.getElem?_cons_zero]
  refine wpList_store_blk rfl 48 (.tmp 2) (.tmp 17) rfl (w.heap.size + 1) 48 _ _ rfl rfl (b1.keep k03 (fun e => e)) rfl (by kernel_rfl) (by simp [Value.oneCell']) ?_
  intro w4 b4 k4 s4
  go_frame
  have l1 := b1.lt
  have far : ∀ b, W0.heap.size ≤ b → ¬ one (w.heap.size + 1) b := fun b h e => by unfold one at e; omega
  have q1 := own_keep o1 k4 (fun b hb => far b (o1.lt b hb).1)
  have q2 := own_keep o2 k4 (fun b hb => far b (o2.lt b hb).1)
  have q3 := own_keep o3 k4 (fun b hb => far b (o3.lt b hb).1)
  have lW : w.heap.size ≤ W0.heap.size := k0.size
  have kk : Keep none_ w w4 := (k0.trans k03).own k4 (by omega)
  go_wp2_with fail
  refine bodyPost_ret (v := .agg #[.int .i64 now, .slice A1 np d1, .slice A2 nj d2, .slice A3 nw d3]) (results_cell Tryz.results40 rfl (run_loadVar_blk b4 Tryz.underlying48 rfl (by kernel_rfl))) rfl ⟨_, _, _, rfl, own_base q1 lW, own_base q2 lW, own_base q3 lW, kk⟩
end Go.Proofs.YtnefbeplgfdkkaaGreatDoor
/-
  'append(s, x...)' writes behind what s holds, and nowhere else.
-/
namespace Go.Proofs.YtnefbeplgfdkkaaGreatDoor
open Go.RowKit

/-- What an append of m elements (news) to a row of n elements leaves of every row of that type. -/
def Pre (n m size : Nat) (e : TypeId) (news : List Value) (w w' : World) : Prop := ∀ (g : Nat) (cur : Array Value), w.heap[g]? = some (.cells cur e (0, 0)) →
  ∃ cur', w'.heap[g]? = some (.cells cur' e (0, 0)) ∧ (cur' = cur ∨ ((n + m) * size ≤ cur.size ∧ 0 < m ∧ cur' = (cur.toList.take (n * size) ++ news ++ cur.toList.drop (n * size + news.length)).toArray))
theorem Pre.same {n m size : Nat} {e : TypeId} {news : List Value} {w w' : World} (h : Keep none_ w w') : Pre n m size e news w w' := fun g cur hg =>
  ⟨cur, (h.block g (Array.getElem?_eq_some_iff.1 hg).1 (fun e => e)).trans hg, .inl rfl⟩
theorem Pre.own {n m size : Nat} {e : TypeId} {news : List Value} {w w' : World} (h : Pre n m size e news w w') (hl : news.length = m * size) {base n' : Nat} {v : Value} {xs : List Value} (hn : n' ≤ n) (ho : w.ownsRow base e size v n' xs) : w'.ownsRow base e size v n' xs := by
  obtain ⟨h1, h2⟩ := ho
  refine ⟨h1, h2.imp id ?_⟩
  rintro ⟨g, cap, cur, e1, e2, e3, e4, e5, e6, e7⟩
  obtain ⟨cur', f1, f2⟩ := h g cur e3
  rcases f2 with rfl | ⟨f2, -, rfl⟩
  · exact ⟨g, cap, _, e1, e2, f1, e4, e5, e6, e7⟩
  · have hns : n' * size ≤ n * size := Nat.mul_le_mul_right _ hn
    have hmn : (n + m) * size = n * size + m * size := Nat.add_mul _ _ _
    refine ⟨g, cap, _, e1, e2, f1, e4, e5, ?_, ?_⟩
    · simp only [List.size_toArray, List.length_append, List.length_take, List.length_drop, Array.length_toList]
      omega
    · rw [← e7, List.toList_toArray, List.append_assoc, List.take_append_of_le_length (by simp; omega), List.take_take, Nat.min_eq_left hns]
theorem Pre.one {n m : Nat} {e : TypeId} {news : List Value} {w w' : World} (h : Pre n m 1 e news w w') (hl : news.length = m) {b : Nat} {u : Value} (hb : Blk w b e #[u]) (hu : n = 0 → m = 1 → news = [u]) : Blk w' b e #[u] := by
  obtain ⟨cur', f1, f2⟩ := h b _ hb
  rcases f2 with rfl | ⟨f2, f3, rfl⟩
  · exact f1
  · simp at f2
    obtain rfl : n = 0 := by omega
    obtain rfl : m = 1 := by omega
    obtain rfl := hu rfl rfl
    have f3 : w'.heap[b]? = some (.cells #[u] e (0, 0)) := by simpa using f1
    exact f3
theorem Pre.zero {n m : Nat} {e : TypeId} {news : List Value} {w w' : World} (h : Pre n m 1 e news w w') {b : Nat} (hb : Blk w b e #[]) : Blk w' b e #[] := by
  obtain ⟨cur', f1, f2⟩ := h b _ hb
  rcases f2 with rfl | ⟨f2, f3, -⟩
  · exact f1
  · simp at f2
    omega

theorem gives_append_pre {P : Program} {o : Oper} {a : Act} {w : World} (s x : Operand) (t e : TypeId) (ho : o.op = .call { callee := .builtin .append, args := #[s, x], argTypes := #[t, t] }) (base : Nat) (size bytes : Nat)
    (ht : P.underlying t = some (.slice e)) {ie : TypeInfo} {z : Value} (hie : P.info? e = some ie) (hz : ie.zero = some z) (hsize : ie.size = size) (hby : ie.bytes = bytes) (hzs : z.cells.size = size) (hsz : 0 < size)
    (v : Value) (n : Nat) (xs : List Value) (hs : a.eval s = v) (hown : w.ownsRow base e size v n xs) (A : Option Addr) (m c : Nat) (news : List Value) (S : Nat → Prop) (hx : a.eval x = .slice A m c) (hr : Row w S size A m c news) (h1 : ∀ u ∈ news, u.oneCell' = true)
    (hn : (n + m) * bytes ≤ 140737488355328) (hnm : n + m ≤ maxLen) (hbase : base ≤ w.heap.size) :
    gives P o a w fun v' w' => w'.ownsRow base e size v' (n + m) (xs ++ news) ∧ Keep (ofBlk v) w w' ∧ Pre n m size e news w w' := by
  subst hsize hby
  have hl := hr.len
  by_cases h0 : m = 0
  · subst h0
    have hcs : news = [] := List.eq_nil_of_length_eq_zero (by simpa using hl)
    subst hcs
    have hrun : (Builtin.append_ #[t, t] o.type #[v, .slice A 0 c]).run P w = .ok v w := by
      rcases hown.2 with ⟨rfl, rfl⟩ | ⟨g, cap, cur, rfl, -, -, hnc, -⟩ <;> cases A <;> simp [Builtin.append_, run_underlying ht, sizeOf, typeInfo, Builtin.lenOf, Builtin.firstCells, loadCells, loadCellsFrom, storeCells, *]
    unfold gives execOp
    simp only [ho, resolve, invoke, builtin, Sem.run_bind, Sem.run_pure, Result.andThen_ok, List.map_toArray, List.map_cons, List.map_nil, hs, hx, hrun]
    exact ⟨by simpa using hown, (Keep.refl _ _), Pre.same (Keep.refl _ _)⟩
  · obtain ⟨b2, o2, rfl, -, hc⟩ := hr.at_ (by omega)
    have hnews : ∀ j u, news[j]? = some u → w.cell? ((⟨b2, o2, none⟩ : Addr).add j) = some u := fun j u hu => by rw [Addr.add_mid]; exact hc j u hu
    obtain ⟨v', w', hrun, ho', hgr, -⟩ := run_append_own (P := P) w base t o.type e ie z ie.size ie.bytes ht hie hz rfl rfl hzs hsz v n xs hown ⟨b2, o2, none⟩ m c news hl hnews h1 hnm hn hbase
    have hp : Pre n m ie.size e news w w' := by
      unfold maxLen at hnm
      rcases hown.2 with ⟨rfl, rfl⟩ | ⟨g, cap, cur, rfl, hbg, hg, hnc, hcm, hcs, htake⟩
      · have hr2 := run_append_nil (P := P) w t o.type e ie z ht hie hz ⟨b2, o2, none⟩ m c news hl hnews (by omega) (by omega) (by simp only [Nat.zero_add] at hn; omega)
        rw [hrun] at hr2
        simp only [Result.ok.injEq] at hr2
        obtain ⟨-, rfl⟩ := hr2
        exact Pre.same (((Keep.refl none_ w).drew).alloc _)
      · by_cases hroom : n + m ≤ cap
        · have hmul : (n + m) * ie.size ≤ cap * ie.size := Nat.mul_le_mul_right _ hroom
          have hmn : (n + m) * ie.size = n * ie.size + m * ie.size := Nat.add_mul _ _ _
          have hr2 := run_append_room (P := P) w t o.type e ie ht hie g n cap cur hg ⟨b2, o2, none⟩ m c news hl hnews h1 hroom (by omega)
          rw [hrun] at hr2
          simp only [Result.ok.injEq] at hr2
          obtain ⟨-, rfl⟩ := hr2
          intro g' cur' hg'
          by_cases hgg : g' = g
          · subst hgg
            rw [hg] at hg'
            injection hg' with hg'
            injection hg' with hg'
            subst hg'
            exact ⟨_, setRow_heap w _ _ _ e _ hg, .inr ⟨by omega, by omega, rfl⟩⟩
          · exact ⟨cur', (setRow_other w g g' _ hgg).trans hg', .inl rfl⟩
        · have holds : ∀ j u, xs[j]? = some u → w.cell? ((⟨g, 0, none⟩ : Addr).add j) = some u := hown.cells (g := g) rfl
          have hr2 := run_append_grow (P := P) w t o.type e ie z ht hie hz ⟨g, 0, none⟩ n cap xs hown.1 holds ⟨b2, o2, none⟩ m c news hl hnews (by omega) (by omega) (growslice_fits (by omega) hn)
          rw [hrun] at hr2
          simp only [Result.ok.injEq] at hr2
          obtain ⟨-, rfl⟩ := hr2
          exact Pre.same (((Keep.refl none_ w).drew).alloc _)
    unfold gives execOp
    simp only [ho, resolve, invoke, builtin, Sem.run_bind, Sem.run_pure, Result.andThen_ok, List.map_toArray, List.map_cons, List.map_nil, hs, hx, hrun]
    exact ⟨ho', Keep.ofGrown hgr, hp⟩
end Go.Proofs.YtnefbeplgfdkkaaGreatDoor
