/-
  The state that a step works on: a variable whose lists are its own; alive, join, die.
-/
import Derived.Test.YtnefbeplgfdkkaaGreatDoorJb07
import Derived.Test.YtnefbeplgfdkkaaGreatDoorJb08
namespace Go.Proofs.YtnefbeplgfdkkaaGreatDoor
open Go.RowKit

def wkCells (l : List Wk) : List Value := l.flatMap fun x => [.string x.name, .bool x.dead]
/-- Where the lists of a state lie (from base on), and what its jobs need and have made (below lo). -/
structure Bs where
  base : Nat
  lo : Nat
  le : lo ≤ base
instance : CoeOut Bs Nat := ⟨Bs.base⟩
def inn (b : Bs) : Nat → Prop := ge b.lo
theorem inn_ge {b : Bs} (x : Nat) (h : ge b x) : inn b x := Nat.le_trans b.le h
def OwnJobs (w : World) (base : Bs) (v : Value) (l : List Jb) : Prop :=
  ∃ css : List (List Value), css.length = l.length ∧ (∀ x ∈ css, x.length = 7) ∧ w.ownsRow base 57 7 v l.length css.flatten ∧ ∀ (i : Nat) (cs : List Value) (x : Jb), css[i]? = some cs → l[i]? = some x → JbOf w (inn base) cs x
/-- Block g is a state whose three lists lie in memory from 'base' on; what its jobs need and have made lies below. -/
structure Aft (w : World) (base : Bs) (g : Nat) (vp vj vw : Value) (s : St) : Prop where
  blk : Blk w g 48 #[.int .i64 s.now, vp, vj, vw]
  ge_ : base ≤ g
  strs : w.ownsRow base 9 1 vp s.present.length (s.present.map Value.string)
  jobs : OwnJobs w base vj s.jobs
  wks : w.ownsRow base 107 2 vw s.workers.length (wkCells s.workers)

theorem wkCells_eq (l : List Wk) : wkCells l = (l.map fun x => [Value.string x.name, .bool x.dead]).flatten := by simp [wkCells, List.flatMap]
theorem ElemsOf_wks {w : World} {base : Nat} {v : Value} {l : List Wk} {S : Nat → Prop} (h : w.ownsRow base 107 2 v l.length (wkCells l)) (hS : ∀ b, base ≤ b → ¬ S b) : ∃ A c, v = .slice A l.length c ∧ WorkersOf w S (.slice A l.length c) l := by
  obtain ⟨A, c, rfl, hr⟩ := own_row (S := S) h hS
  rw [wkCells_eq] at hr
  refine ⟨A, c, rfl, ElemsOf.of_row rfl (by simp) (fun x hx => ?_) hr (fun i cs x hi hx => ?_)⟩
  · obtain ⟨y, -, rfl⟩ := List.mem_map.1 hx
    rfl
  · rw [List.getElem?_map, hx] at hi
    simp only [Option.map_some, Option.some.injEq] at hi
    exact hi.symm
theorem ElemsOf_jobs {w : World} {base : Bs} {v : Value} {l : List Jb} (h : OwnJobs w base v l) : ∃ A c, v = .slice A l.length c ∧ JobsOf w none_ (.slice A l.length c) l := by
  obtain ⟨css, h1, h2, h3, h4⟩ := h
  obtain ⟨A, c, rfl, hr⟩ := own_row (S := none_) h3 (fun _ _ e => e)
  refine ⟨A, c, rfl, ElemsOf.of_row rfl h1 h2 hr (fun i cs x hi hx => ?_)⟩
  obtain ⟨vn, vi, e, g1, g2⟩ := h4 i cs x hi hx
  refine ⟨vn, vi, e, ?_, ?_⟩
  · obtain ⟨A, n, c, e, r⟩ := g1
    exact ⟨A, n, c, e, r.free⟩
  · exact ItemsOf.weak g2

def wkIdx (ws : List Wk) (x : ByteArray) : Int := idxOf (fun y => strEq y.name x) ws 0
def jbIdx (js : List Jb) (x : ByteArray) : Int := idxOf (fun y => strEq y.name x) js 0
/-- 37.3: a worker that is there and not dead. -/
def aliveE (ws : List Wk) (x : ByteArray) : Int := if wkIdx ws x < 0 then 7 else match ws[(wkIdx ws x).toNat]? with
  | some y => if y.dead then 14 else 0
  | none => 0
theorem idx_cases {α : Type} (p : α → Bool) (l : List α) : idxOf p l 0 = -1 ∨ ∃ (k : Nat) (h : k < l.length), idxOf p l 0 = (k : Int) ∧ p l[k] = true := by
  rcases idxOf_range p l 0 with ⟨h, -⟩ | ⟨k, hk, h1, h2, -⟩
  · exact .inl h
  · exact .inr ⟨k, hk, by rw [h1]; simp, h2⟩

set_option maxHeartbeats 400000 in
theorem alive_any (ws : List Wk) (A : Option Addr) (n c g : Nat) (S : Nat → Prop) (x : ByteArray) (w : World) (hc : w.cell? ⟨g, 3, none⟩ = some (.slice A n c)) (h : WorkersOf w S (.slice A n c) ws) :
    Calls Tryz.prog 101 #[.pointer (some ⟨g, 0, none⟩), .string x] w fun e w' => e = .returned (.int .i64 (aliveE ws x)) ∧ Keep none_ w w' := by
  obtain ⟨hl, h1, h2⟩ := h.facts
  unfold maxLen at h2
  have WK := Lib.hid (worker_any ws A n c g S x w hc h)
  have ans : aliveE ws x = if wkIdx ws x < 0 then 7 else match ws[(wkIdx ws x).toNat]? with
    | some y => if y.dead then 14 else 0
    | none => 0 := rfl
  rcases idx_cases (fun y : Wk => strEq y.name x) ws with hi | ⟨k, hk, hi, -⟩
  · rw [hi] at WK
    have e1 : aliveE ws x = 7 := by rw [ans, wkIdx, hi]; rfl
    have ANS := Lib.hid e1
    clear ans e1 hi hl
    go_enter Tryz.func101, Tryz.ntmps101
    go_wp2_with (go_at_call 100; refine WK.out.mono ?_; rintro e w5 ⟨rfl, k5⟩)
    go_ret
    exact ⟨ret_int ANS.out.symm, k5⟩
  · rw [hi] at WK
    have e1 : aliveE ws x = if ws[k].dead then 14 else 0 := by
      rw [ans, wkIdx, hi, if_neg (by omega), Int.toNat_natCast, List.getElem?_eq_getElem hk]
    have hkn : k < n := by omega
    have hkn' : (k : Int) < n := by omega
    obtain ⟨b, o, rfl, -, hkl, cs, -, hrg, hcs⟩ := h.elem k hkn
    generalize ws[k] = y at hcs e1
    subst hcs
    have c1 : w.cell? ⟨b, o + k * 2 + 1, none⟩ = some (.bool y.dead) := hrg 1 _ rfl
    have ANS := Lib.hid e1
    clear ans e1 hi hl hrg
    cases hd : y.dead with
    | true =>
      rw [hd] at c1 ANS
      clear hd
      go_enter Tryz.func101, Tryz.ntmps101
      go_upto_region 2 with (go_at_call 100; refine WK.out.mono ?_; rintro e w5 ⟨rfl, k5⟩)
      have d1 := k5.cell c1 (fun e => e)
      have d2 := k5.cell hc (fun e => e)
      go_wp2
      go_ret
      exact ⟨ret_int (by rw [ANS.out]; rfl), k5⟩
    | false =>
      rw [hd] at c1 ANS
      clear hd
      go_enter Tryz.func101, Tryz.ntmps101
      go_upto_region 2 with (go_at_call 100; refine WK.out.mono ?_; rintro e w5 ⟨rfl, k5⟩)
      have d1 := k5.cell c1 (fun e => e)
      have d2 := k5.cell hc (fun e => e)
      go_wp2
      go_ret
      exact ⟨ret_int (by rw [ANS.out]; rfl), k5⟩

section
variable {P : Program} {ops : Array Oper} {rest : List Oper} {op : Oper} {a : Act} {w : World} {Q : Exit → Act → World → Prop}
/-- 'append(s, x)' onto a row of the call's own: it alone changes. -/
theorem wpList_append_blk (s x : Operand) (t e : TypeId) (ho : op.op = .call { callee := .builtin .append, args := #[s, x], argTypes := #[t, t] }) (hgd : op.guard = none) (base : Nat) (zv : Value) (size bytes : Nat)
    (ht : P.underlying t = some (.slice e)) (hinfo : (P.info? e).map (fun i => (i.zero, i.size, i.bytes)) = some (some zv, size, bytes)) (hzs : zv.cells.size = size) (hsz : 0 < size)
    (v : Value) (n : Nat) (xs : List Value) (hs : a.eval s = v) (hown : w.ownsRow base e size v n xs) (b : Nat) (us : Array Value) (hx : a.eval x = .slice (some ⟨b, 0, none⟩) 1 1) (hb : Blk w b e us) (hus : us.size = size) (h1 : ∀ u ∈ us.toList, u.oneCell' = true)
    (hn : (n + 1) * (bytes + 1) ≤ 140737488355328) (hbase : base ≤ w.heap.size)
    (h : ∀ A' c' w', w'.ownsRow base e size (.slice A' (n + 1) c') (n + 1) (xs ++ us.toList) → Keep (ofBlk v) w w' → wpList P ops Q rest (a.put op.dst (.slice A' (n + 1) c')) w') : wpList P ops Q (op :: rest) a w := by
  obtain ⟨i, hi, hz0, hz1, hz2⟩ := info_parts hinfo
  have hbb : (n + 1) * bytes ≤ (n + 1) * (bytes + 1) := Nat.mul_le_mul_left _ (by omega)
  have hnn : (n + 1) * 1 ≤ (n + 1) * (bytes + 1) := Nat.mul_le_mul_left _ (by omega)
  refine wpList_append_own w hgd s x t ho base e i zv size bytes ht hi hz0 hz1 hz2 hzs hsz v n xs hs hown ⟨b, 0, none⟩ 1 1 us.toList hx (by simp [hus]) (fun j u hu => ?_) h1 (by unfold maxLen; omega) (by omega) hbase fun v' w' h2 h3 _ => ?_
  · rw [Addr.add_mid, Nat.zero_add, hb.cell]
    simpa using hu
  · obtain ⟨A', c', rfl, -⟩ := own_row (S := none_) h2 (fun _ _ e => e)
    exact h A' c' w' h2 (Keep.ofGrown h3)
end
/-! A row of the call's own: its cells, a store into it. -/
theorem own_cases {w : World} {base : Nat} {e : TypeId} {size : Nat} {v : Value} {n : Nat} {xs : List Value} (h : w.ownsRow base e size v n xs) (hn : 0 < n) : ∃ b cap cur, v = .slice (some ⟨b, 0, none⟩) n cap ∧ base ≤ b ∧ Blk w b e cur ∧ n ≤ cap ∧ cap ≤ maxLen ∧ cur.size = cap * size ∧ cur.toList.take (n * size) = xs := by
  rcases h.2 with ⟨-, h0⟩ | ⟨g, cap, cur, e1, e2, e3, r⟩
  · omega
  · exact ⟨g, cap, cur, e1, e2, e3, r⟩
theorem own_set {w : World} {base : Nat} {e : TypeId} {size : Nat} {b n cap : Nat} {xs : List Value} (h : w.ownsRow base e size (.slice (some ⟨b, 0, none⟩) n cap) n xs) (i : Nat) (u : Value) : (w.setCell ⟨b, i, none⟩ u).ownsRow base e size (.slice (some ⟨b, 0, none⟩) n cap) n (xs.set i u) := by
  refine ⟨by rw [List.length_set]; exact h.1, ?_⟩
  rcases h.2 with ⟨h0, -⟩ | ⟨g, cap', cur, e1, e2, e3, r1, r2, r3, r4⟩
  · cases h0
  · simp only [Value.slice.injEq, Option.some.injEq, Addr.mk.injEq, and_true, true_and] at e1
    obtain ⟨rfl, rfl⟩ := e1
    refine .inr ⟨b, cap, cur.setIfInBounds i u, rfl, e2, Blk.set_ (g := b) e3 i u, r1, r2, by simpa using r3, ?_⟩
    rw [← r4, Array.toList_setIfInBounds, List.take_set]
theorem own_apart {w : World} {base : Nat} {e e' : TypeId} {size : Nat} {v : Value} {n : Nat} {xs : List Value} {b : Nat} {cs : Array Value} (h : w.ownsRow base e size v n xs) (hb : Blk w b e' cs) (hne : e ≠ e') : ∀ x, v.ownBlock = some x → ¬ one b x := by
  rintro x hx rfl
  rcases h.2 with ⟨rfl, -⟩ | ⟨g, cap, cur, rfl, e2, e3, r⟩
  · cases hx
  · simp only [Value.ownBlock, Option.some.injEq] at hx
    subst hx
    exact (Blk.ne_ (g := g) (g' := g) e3 hb hne) rfl
theorem OwnJobs.keep {w w' : World} {S : Nat → Prop} {base : Bs} {v : Value} {l : List Jb} (h : OwnJobs w base v l) (k : Keep S w w') (hS : ∀ b, S b → base ≤ b) (hv : ∀ b, v.ownBlock = some b → ¬ S b) : OwnJobs w' base v l := by
  obtain ⟨css, h1, h2, h3, h4⟩ := h
  exact ⟨css, h1, h2, own_keep h3 k hv, fun i cs x hi hx => (h4 i cs x hi hx).keep (k.mono (fun b e => inn_ge b (hS b e)))⟩
theorem Aft.keep {w w' : World} {base : Bs} {g : Nat} {vp vj vw : Value} {s : St} (h : Aft w base g vp vj vw s) (k : Keep none_ w w') : Aft w' base g vp vj vw s :=
  ⟨h.blk.keep k (fun e => e), h.ge_, own_keep h.strs k (fun _ _ e => e), h.jobs.keep k (fun _ e => e.elim) (fun _ _ e => e), own_keep h.wks k (fun _ _ e => e)⟩
theorem Aft.now_lt {w : World} {base : Bs} {g : Nat} {vp vj vw : Value} {s : St} (h : Aft w base g vp vj vw s) : g < w.heap.size := h.blk.lt

theorem Aft.setWk {w : World} {base : Bs} {g b c : Nat} {vp vj : Value} {s : St} (h : Aft w base g vp vj (.slice (some ⟨b, 0, none⟩) s.workers.length c) s) (hn : 0 < s.workers.length) (i : Nat) (u : Value) {ws : List Wk} (hl : ws.length = s.workers.length) (hs : (wkCells s.workers).set i u = wkCells ws) :
    Aft (w.setCell ⟨b, i, none⟩ u) base g vp vj (.slice (some ⟨b, 0, none⟩) s.workers.length c) { s with workers := ws } ∧ Keep (ge base) w (w.setCell ⟨b, i, none⟩ u) := by
  obtain ⟨b', cap, cur, eV, hb1, hb2, hb3⟩ := own_cases h.wks hn
  simp only [Value.slice.injEq, Option.some.injEq, Addr.mk.injEq, and_true, true_and] at eV
  obtain ⟨rfl, rfl⟩ := eV
  have k : Keep (one b) w (w.setCell ⟨b, i, none⟩ u) := (Keep.refl (one b) w).setCell (p := ⟨b, i, none⟩) (.inl rfl) u
  obtain ⟨css, j1, j2, j3, j4⟩ := h.jobs
  refine ⟨⟨h.blk.far (p := ⟨b, i, none⟩) (h.blk.ne_ hb2 (by decide)) u, h.ge_, own_keep h.strs k (own_apart h.strs hb2 (by decide)), h.jobs.keep k (fun x e => by cases e; exact hb1) (own_apart j3 hb2 (by decide)), ?_⟩, k.mono (fun x e => by cases e; exact hb1)⟩
  have := own_set h.wks i u
  rw [hs] at this
  simp only [hl]
  exact this
theorem wk_info : (Tryz.prog.info? 107).map (fun i => (i.zero, i.size, i.bytes)) = some (some (.agg #[.string ⟨#[]⟩, .bool false]), 2, 24) := by kernel_rfl
theorem wkCells_snoc (l : List Wk) (x : Wk) : wkCells (l ++ [x]) = wkCells l ++ [.string x.name, .bool x.dead] := by simp [wkCells]
theorem own_apart2 {w : World} {base base' : Nat} {e e' : TypeId} {size size' : Nat} {v v' : Value} {n n' : Nat} {xs xs' : List Value} (h : w.ownsRow base e size v n xs) (h' : w.ownsRow base' e' size' v' n' xs') (hne : e ≠ e') : ∀ x, v.ownBlock = some x → ¬ ofBlk v' x := by
  intro x hx hx'
  rcases h'.2 with ⟨rfl, -⟩ | ⟨g, cap, cur, rfl, e2, e3, r⟩
  · cases hx'
  · simp only [ofBlk, Value.ownBlock, Option.some.injEq] at hx'
    subst hx'
    exact own_apart h (b := g) e3 hne g hx rfl
theorem Aft.newWk {w w6 : World} {base : Bs} {g : Nat} {vp vj vw v6 : Value} {s : St} {x : Wk} (h : Aft w base g vp vj vw s) (k : Keep (ofBlk vw) w w6) (o : w6.ownsRow base 107 2 v6 (s.workers.length + 1) (wkCells s.workers ++ [.string x.name, .bool x.dead])) :
    Aft (w6.setCell ⟨g, 3, none⟩ v6) base g vp vj v6 { s with workers := s.workers ++ [x] } ∧ Keep (ge base) w (w6.setCell ⟨g, 3, none⟩ v6) := by
  obtain ⟨css, j1, j2, j3, j4⟩ := h.jobs
  have nog : ¬ ofBlk vw g := fun e => own_apart h.wks h.blk (by decide) g e rfl
  have b6 := h.blk.keep k nog
  have s6 := own_keep h.strs k (own_apart2 h.strs h.wks (by decide))
  have q6 : OwnJobs w6 base vj s.jobs := h.jobs.keep k (fun b e => own_ge h.wks b e) (own_apart2 j3 h.wks (by decide))
  obtain ⟨css', i1, i2, i3, i4⟩ := q6
  have kg : Keep (one g) w6 (w6.setCell ⟨g, 3, none⟩ v6) := (Keep.refl (one g) w6).setCell (p := ⟨g, 3, none⟩) (.inl rfl) v6
  refine ⟨⟨?_, h.ge_, own_keep s6 kg (own_apart s6 b6 (by decide)), OwnJobs.keep ⟨css', i1, i2, i3, i4⟩ kg (fun b e => by cases e; exact h.ge_) (own_apart i3 b6 (by decide)), ?_⟩, (k.mono (fun b e => own_ge h.wks b e)).trans (kg.mono (fun b e => by cases e; exact h.ge_))⟩
  · have := b6.set_ 3 v6
    simpa using this
  · have := own_keep o kg (own_apart o b6 (by decide))
    simp only [wkCells_snoc, List.length_append, List.length_cons, List.length_nil]
    exact this
/-- 37.3: join. -/
def joinE (s : St) (x : ByteArray) : Int := if wkIdx s.workers x < 0 then (if 32 ≤ s.workers.length then 18 else 0) else match s.workers[(wkIdx s.workers x).toNat]? with
  | some y => if y.dead then 0 else 8
  | none => 0
def joinS (s : St) (x : ByteArray) : St := if wkIdx s.workers x < 0 then (if 32 ≤ s.workers.length then s else { s with workers := s.workers ++ [⟨x, false⟩] }) else match s.workers[(wkIdx s.workers x).toNat]? with
  | some y => if y.dead then { s with workers := s.workers.set (wkIdx s.workers x).toNat ⟨y.name, false⟩ } else s
  | none => s
/-- What a method of the state leaves. -/
def MethPost (base : Bs) (g : Nat) (r : Int) (s' : St) (w : World) (e : Ending) (w' : World) : Prop := ∃ vp vj vw, e = .returned (.int .i64 r) ∧ Aft w' base g vp vj vw s' ∧ Keep (ge base) w w'
theorem wkCells_set : ∀ (l : List Wk) (k : Nat) (h : k < l.length) (d : Bool), (wkCells l).set (k * 2 + 1) (.bool d) = wkCells (l.set k ⟨l[k].name, d⟩)
  | [], _, h, _ => by simp at h
  | x :: l, 0, _, d => by simp [wkCells]
  | x :: l, k + 1, h, d => by
    have ih := wkCells_set l k (by simpa using h) d
    have e : ∀ l : List Wk, wkCells (x :: l) = [.string x.name, .bool x.dead] ++ wkCells l := fun l => by simp [wkCells]
    rw [e, List.set_append_right _ _ (by simp; omega), List.set_cons_succ, e]
    simp only [List.length_cons, List.length_nil, List.getElem_cons_succ]
    rw [show (k + 1) * 2 + 1 - (0 + 1 + 1) = k * 2 + 1 by omega, ih]

set_option maxRecDepth 100000 in
set_option maxHeartbeats 400000 in
theorem join_any (s : St) (vp vj vw : Value) (base : Bs) (g : Nat) (x : ByteArray) (w : World) (h : Aft w base g vp vj vw s) :
    Calls Tryz.prog 77 #[.pointer (some ⟨g, 0, none⟩), .string x] w (MethPost base g (joinE s x) (joinS s x) w) := by
  obtain ⟨A, c, rfl, hw⟩ := ElemsOf_wks (S := none_) h.wks (fun _ _ e => e)
  have c3 := h.blk.cell 3
  simp only [List.getElem?_toArray, List.getElem?_cons_zero, List.getElem?_cons_succ] at c3
  obtain ⟨-, h1, h2⟩ := hw.facts
  unfold maxLen at h2
  have WK := Lib.hid (worker_any s.workers A s.workers.length c g none_ x w c3 hw)
  have HA := Lib.hid h
  have ansE : joinE s x = if wkIdx s.workers x < 0 then (if 32 ≤ s.workers.length then 18 else 0) else match s.workers[(wkIdx s.workers x).toNat]? with
    | some y => if y.dead then 0 else 8
    | none => 0 := rfl
  have ansS : joinS s x = if wkIdx s.workers x < 0 then (if 32 ≤ s.workers.length then s else { s with workers := s.workers ++ [⟨x, false⟩] }) else match s.workers[(wkIdx s.workers x).toNat]? with
    | some y => if y.dead then { s with workers := s.workers.set (wkIdx s.workers x).toNat ⟨y.name, false⟩ } else s
    | none => s := rfl
  rcases idx_cases (fun y : Wk => strEq y.name x) s.workers with hi | ⟨k, hk, hi, -⟩
  · rw [hi] at WK
    by_cases h32 : 32 ≤ s.workers.length
    · have h32' : (32 : Int) ≤ s.workers.length := by omega
      have E1 := Lib.hid (show joinE s x = 18 by rw [ansE, wkIdx, hi, if_pos (by decide), if_pos h32])
      have E2 := Lib.hid (show joinS s x = s by rw [ansS, wkIdx, hi, if_pos (by decide), if_pos h32])
      clear ansE ansS hi hw h
      go_enter Tryz.func77, Tryz.ntmps77
      go_upto_region 2 with (go_at_call 100; refine WK.out.mono ?_; rintro e w5 ⟨rfl, k5⟩)
      have d2 := k5.cell c3 (fun e => e)
      go_wp2
      go_ret
      exact ⟨_, _, _, ret_int E1.out.symm, by rw [E2.out]; exact HA.out.keep k5, k5.weak⟩
    · have h32' : ¬ (32 : Int) ≤ s.workers.length := by omega
      have E1 := Lib.hid (show joinE s x = 0 by rw [ansE, wkIdx, hi, if_pos (by decide), if_neg h32])
      have E2 := Lib.hid (show joinS s x = { s with workers := s.workers ++ [⟨x, false⟩] } by rw [ansS, wkIdx, hi, if_pos (by decide), if_neg h32])
      clear ansE ansS hi hw h
      go_enter Tryz.func77, Tryz.ntmps77
      go_upto_region 2 with (go_at_call 100; refine WK.out.mono ?_; rintro e w5 ⟨rfl, k5⟩)
      have d2 := k5.cell c3 (fun e => e)
      have H5 := Lib.hid (HA.out.keep k5)
      have lg := H5.out.blk.lt
      have d3 : w5.frozen? ⟨g, 3, none⟩ = false := H5.out.blk.frozen 3
      have k5' := Lib.hid k5
      clear k5
      have t1 : True := trivial
      have KA : Keep none_ w5 (w5.alloc (.cells #[.string x, .bool false] 107)) := (Keep.refl none_ w5).alloc _
      have H6 := Lib.hid (H5.out.keep KA)
      have far := own_apart H6.out.wks H6.out.blk (by decide)
      have nog : ¬ ofBlk (.slice A s.workers.length c) g := fun e => far g e rfl
      have B6 := Lib.hid H6.out.blk
      have hbs := H5.out.ge_
      clear far KA
      go_wp2_with (have _t := t1; refine wpList_append_blk (.tmp 37) (.tmp 40) 46 107 rfl rfl base (.agg #[.string ⟨#[]⟩, .bool false]) 2 24 Tryz.underlying46 wk_info rfl (by decide) (.slice A s.workers.length c) s.workers.length (wkCells s.workers) rfl H6.out.wks w5.heap.size #[.string x, .bool false] rfl (Blk.new _ _ _) rfl (by simp [Value.oneCell']) (by omega) (by simp; omega) ?_; intro A6 c6 w6 o6 k6; have B7 := B6.out.keep k6 nog; have y3 := B7.cell 3; have z3 := B7.frozen 3; simp only [List.getElem?_toArray, List.getElem?_cons_zero, List.getElem?_cons_succ] at y3; have O6 := Lib.hid o6; have B8 := Lib.hid B7; clear o6 B7; go_frame; clear _t t1)
      go_ret
      obtain ⟨q1, q2⟩ := H6.out.newWk (x := ⟨x, false⟩) k6 O6.out
      exact ⟨_, _, _, ret_int E1.out.symm, by rw [E2.out]; exact q1, k5'.out.weak.trans (((Keep.refl none_ w5).alloc _).weak.trans q2)⟩
  · rw [hi] at WK
    have hkn' : (k : Int) < s.workers.length := by omega
    have e1 : joinE s x = if s.workers[k].dead then 0 else 8 := by
      rw [ansE, wkIdx, hi, if_neg (by omega), Int.toNat_natCast, List.getElem?_eq_getElem hk]
    have e2 : joinS s x = if s.workers[k].dead then { s with workers := s.workers.set k ⟨s.workers[k].name, false⟩ } else s := by
      rw [ansS, wkIdx, hi, if_neg (by omega), Int.toNat_natCast, List.getElem?_eq_getElem hk]
    obtain ⟨b, cap, cur, eV, hb1, hb2, hb3⟩ := own_cases h.wks (by omega)
    simp only [Value.slice.injEq, true_and] at eV
    obtain ⟨rfl, rfl⟩ := eV
    obtain ⟨b', o', eA, -, hkl, cs, -, hrg, hcs⟩ := hw.elem k hk
    simp only [Option.some.injEq, Addr.mk.injEq, and_true] at eA
    obtain ⟨rfl, rfl⟩ := eA
    have setE := wkCells_set s.workers k hk false
    generalize s.workers[k] = y at hcs e1 e2 setE
    subst hcs
    have c1 : w.cell? ⟨b, 0 + k * 2 + 1, none⟩ = some (.bool y.dead) := hrg 1 _ rfl
    have f1 := hb2.frozen (0 + k * 2 + 1)
    rw [Nat.zero_add] at c1 f1
    have E1 := Lib.hid e1
    have E2 := Lib.hid e2
    have SE := Lib.hid setE
    clear ansE ansS e1 e2 hi hrg setE hb3 hw h
    cases hd : y.dead with
    | true =>
      rw [hd] at c1 E1 E2
      clear hd
      go_enter Tryz.func77, Tryz.ntmps77
      go_upto_region 2 with (go_at_call 100; refine WK.out.mono ?_; rintro e w5 ⟨rfl, k5⟩)
      have d1 := k5.cell c1 (fun e => e)
      have d2 := k5.cell c3 (fun e => e)
      have hb5 := hb2.keep k5 (fun e => e)
      have d3 := hb5.frozen (k * 2 + 1)
      have H5 := Lib.hid (HA.out.keep k5)
      clear hb5
      go_wp2
      go_ret
      obtain ⟨q1, q2⟩ := H5.out.setWk (by omega) (k * 2 + 1) (.bool false) (by simp) SE.out
      exact ⟨_, _, _, ret_int (by rw [E1.out]; rfl), by rw [E2.out]; exact q1, k5.weak.trans q2⟩
    | false =>
      rw [hd] at c1 E1 E2
      clear hd
      go_enter Tryz.func77, Tryz.ntmps77
      go_upto_region 2 with (go_at_call 100; refine WK.out.mono ?_; rintro e w5 ⟨rfl, k5⟩)
      have d1 := k5.cell c1 (fun e => e)
      have d2 := k5.cell c3 (fun e => e)
      go_wp2
      go_ret
      exact ⟨_, _, _, ret_int (by rw [E1.out]; rfl), by rw [E2.out]; exact HA.out.keep k5, k5.weak⟩
end Go.Proofs.YtnefbeplgfdkkaaGreatDoor
