/-
  The law ProxyHeaders: the walk.
-/
import Derived.Test.YtnpkhbcbbbpjhaaAwake
import Derived.Test.YtnpkhbcbbbpjhaaTseq
import Derived.Test.YtnpkhbcbbbpjhaaBuild
namespace Go.Proofs.Ytnpkhbcbbbpjhaa
open Go.RowKit

theorem gives_buildSlice {P : Program} {o : Oper} {a : Act} {w : World} {X : Value → World → Prop} (t e : TypeId) (len : Nat) (parts : Array (Nat × Operand)) (ho : o.op = .buildSlice t len parts) {ie : TypeInfo} {z : Value} (hu : P.underlying t = some (.slice e)) (hie : P.info? e = some ie) (hz : ie.zero = some z) (hsmall : ¬ len * ie.size > 2 ^ 24) (hpos : ¬ len * ie.size = 0)
    (vs : List (Nat × Value)) (hvs : parts.toList.map (fun p => (p.1, a.eval p.2)) = vs) (h : Contig (fun i => some (i * ie.size, ie.size)) 0 vs) (hs : (allCells vs).length = len * ie.size)
    (hX : X (.slice (some ⟨w.heap.size, 0, none⟩) len len) (w.alloc (.cells (allCells vs).toArray e))) : gives P o a w X := by
  subst hvs
  rw [← Array.toList_map] at h hs hX
  unfold gives execOp
  simp only [ho, Sem.run_bind, run_buildSlice_whole w t e len _ hu hie hz hsmall hpos h hs, Result.andThen_ok, Sem.run_pure]
  exact hX
theorem wpList_buildSlice_whole {P : Program} {ops : Array Oper} {rest : List Oper} {op : Oper} {a : Act} {w : World} {Q : Exit → Act → World → Prop} (t e : TypeId) (len : Nat) (parts : Array (Nat × Operand)) (ho : op.op = .buildSlice t len parts) (hgd : op.guard = none) {ie : TypeInfo} {z : Value} (hu : P.underlying t = some (.slice e)) (hie : P.info? e = some ie) (hz : ie.zero = some z) (hsmall : ¬ len * ie.size > 2 ^ 24) (hpos : ¬ len * ie.size = 0)
    (vs : List (Nat × Value)) (hvs : parts.toList.map (fun p => (p.1, a.eval p.2)) = vs) (h : Contig (fun i => some (i * ie.size, ie.size)) 0 vs) (hs : (allCells vs).length = len * ie.size)
    (hK : ∀ w', Blk w' w.heap.size e (allCells vs).toArray → Keep none_ w w' → wpList P ops Q rest (a.put op.dst (.slice (some ⟨w.heap.size, 0, none⟩) len len)) w') : wpList P ops Q (op :: rest) a w := by
  subst hvs
  rw [← Array.toList_map] at h hs hK
  refine wpList_plain hgd fun K hK' => ?_
  unfold Oper.wp execOp
  simp only [ho, Sem.run_bind, run_buildSlice_whole w t e len _ hu hie hz hsmall hpos h hs, Result.andThen_ok, Sem.run_pure]
  exact hK' _ _ (hK _ (Blk.new _ _ _) ((Keep.refl _ _).alloc _))
theorem rangeAt_mid {w : World} {b : Nat} {t : TypeId} (p q r : List Value) {cs : List Value} (h : Blk w b t cs.toArray) (e : cs = p ++ (q ++ r)) (n : Nat) (hn : p.length = n) : w.rangeAt b n q := fun j v hv => by
  rw [h.cell, e]
  have hj : j < q.length := (List.getElem?_eq_some_iff.1 hv).1
  simp only [List.getElem?_toArray]
  rw [List.getElem?_append_right (by omega), show n + j - p.length = j by omega, List.getElem?_append_left hj]
  exact hv
theorem fourB {w W0 : World} {t0 t1 t2 t3 : TypeId} {c0 c1 c2 c3 : Array Value} (k : Keep none_ ((((w.alloc (.cells c0 t0)).alloc (.cells c1 t1)).alloc (.cells c2 t2)).alloc (.cells c3 t3)) W0) :
    Blk W0 w.heap.size t0 c0 ∧ Blk W0 (w.heap.size + 1) t1 c1 ∧ Blk W0 (w.heap.size + 1 + 1) t2 c2 ∧ Blk W0 (w.heap.size + 1 + 1 + 1) t3 c3 ∧ Keep none_ w W0 := by
  refine ⟨?_, ?_, ?_, ?_, ((((Keep.refl _ _).alloc _).alloc _).alloc _).alloc _ |>.trans k⟩
  · exact ((((Blk.new w t0 c0).alloc _).alloc _).alloc _).keep k (fun e => e)
  · have := (((Blk.new (w.alloc (.cells c0 t0)) t1 c1).alloc (.cells c2 t2)).alloc (.cells c3 t3)).keep k (fun e => e)
    simpa using this
  · have := ((Blk.new ((w.alloc (.cells c0 t0)).alloc (.cells c1 t1)) t2 c2).alloc (.cells c3 t3)).keep k (fun e => e)
    simpa using this
  · have := (Blk.new (((w.alloc (.cells c0 t0)).alloc (.cells c1 t1)).alloc (.cells c2 t2)) t3 c3).keep k (fun e => e)
    simpa using this

/-- The facts of '[]api.Seq{raw, s, x.Seq()}'. -/
def hdCalm (wr : World) (g m : Nat) : Calm where
  R := fun _ => Keep (one g)
  G := fun n w' => Keep (one g) wr w' ∧ TapeAt w' g (m + n)
  eff := [3, 4]
  T := fun k vs v w' => if k = 4 then ∃ b, wr.heap.size ≤ b ∧ v = .slice (some ⟨b, 0, none⟩) 3 3 ∧ Blk w' b 42 (vs.flatMap fun v => v.cells.toList).toArray else ∃ s : Sq, v = .agg s.cells ∧ s.Ok
  anc := fun _ => []
  own := fun _ _ _ => False
theorem hdCalm_good (wr : World) (g m : Nat) (hg : g < wr.heap.size) : (hdCalm wr g m).Good where
  mono := fun _ _ h => ⟨h.1, h.2.mono (by omega)⟩
  size := fun _ _ _ h => h.size
  stable := fun _ k _ _ w1 w2 _ _ h hR => by
    simp only [hdCalm] at h ⊢
    split at h
    · obtain ⟨b, hb, e, h⟩ := h
      rw [if_pos (by assumption)]
      exact ⟨b, hb, e, h.keep hR (fun e => by cases e; omega)⟩
    · rw [if_neg (by assumption)]
      exact h
theorem hdCalm_at {wr : World} {g m : Nat} (x : (hdCalm wr g m).Sub) : Keep (one g) wr ((hdCalm wr g m).at_ x) := by
  obtain ⟨x, n, _, h⟩ := x
  exact h.1

theorem info_is {P : Program} {t : TypeId} {n : Nat} (h : (P.info? t).map (fun i => (i.zero.isSome, i.size)) = some (true, n)) : ∃ ie z, P.info? t = some ie ∧ ie.zero = some z ∧ ie.size = n := by
  cases hi : P.info? t with
  | none => simp [hi] at h
  | some ie =>
    simp only [hi, Option.map_some, Option.some.injEq, Prod.mk.injEq] at h
    obtain ⟨z, hz⟩ := Option.isSome_iff_exists.1 h.1
    exact ⟨ie, z, rfl, hz, h.2⟩

def entries : Nat → List Value
  | 0 => []
  | n + 1 => [.int .i64 0, .bool false, .int .i64 0, .bool false, .bool false] ++ entries n
theorem mk_entry0 (w : World) : (Instr.makeSlice 43 (.int .i64 ((0 : Nat) : Int)) (.int .i64 ((0 : Nat) : Int))).run Try.prog w = .ok (.slice (some ⟨w.heap.size, 0, none⟩) 0 0) (w.alloc (.cells (entries 0).toArray 84)) := by kernel_rfl
theorem mk_entry1 (w : World) : (Instr.makeSlice 43 (.int .i64 ((1 : Nat) : Int)) (.int .i64 ((1 : Nat) : Int))).run Try.prog w = .ok (.slice (some ⟨w.heap.size, 0, none⟩) 1 1) (w.alloc (.cells (entries 1).toArray 84)) := by kernel_rfl
theorem mk_entry2 (w : World) : (Instr.makeSlice 43 (.int .i64 ((2 : Nat) : Int)) (.int .i64 ((2 : Nat) : Int))).run Try.prog w = .ok (.slice (some ⟨w.heap.size, 0, none⟩) 2 2) (w.alloc (.cells (entries 2).toArray 84)) := by kernel_rfl
theorem mk_entry3 (w : World) : (Instr.makeSlice 43 (.int .i64 ((3 : Nat) : Int)) (.int .i64 ((3 : Nat) : Int))).run Try.prog w = .ok (.slice (some ⟨w.heap.size, 0, none⟩) 3 3) (w.alloc (.cells (entries 3).toArray 84)) := by kernel_rfl
theorem mk_entry (n : Nat) (hn : n < 4) (w : World) : (Instr.makeSlice 43 (.int .i64 (n : Int)) (.int .i64 (n : Int))).run Try.prog w = .ok (.slice (some ⟨w.heap.size, 0, none⟩) n n) (w.alloc (.cells (entries n).toArray 84)) := by
  have : n = 0 ∨ n = 1 ∨ n = 2 ∨ n = 3 := by omega
  rcases this with rfl | rfl | rfl | rfl
  · exact mk_entry0 w
  · exact mk_entry1 w
  · exact mk_entry2 w
  · exact mk_entry3 w
def zeroIx : Ix := ⟨.empty, zeroSq, none, 0, 0⟩
theorem zero_ix (w : World) : (zeroValue 45).run Try.prog w = .ok (.agg zeroIx.cells) w := by kernel_rfl
theorem zero_ix2 (w : World) : (zeroValue 52).run Try.prog w = .ok (.agg (zeroIx.cells ++ zeroIx.cells)) w := by kernel_rfl
theorem zeroIx_size : zeroIx.cells.size = 137 := by kernel_rfl
theorem Ix.plain (x : Ix) : x.cells.all (·.oneCell') = true := by
  have := x.s.plain
  simp only [Array.all_eq_true_iff_forall_mem] at this ⊢
  intro v hv
  simp only [Ix.cells, List.mem_toArray, List.mem_cons, List.mem_append, Array.mem_toList_iff, List.not_mem_nil, or_false] at hv
  rcases hv with rfl | h | rfl
  · rfl
  · exact this v h
  · rfl
theorem ixSize_info {x : Ix} (h : x.s.Ok) : (Try.prog.info? 45).map (·.size) = some x.cells.size := by rw [x.size h]; exact ix_info
/-- The facts of 'api.Index{Name: .., Seq: .., Frames: make([]api.Entry, x.Next(4))}'. -/
def ixCalm (wr : World) (g m : Nat) (zi : Array Value) : Calm where
  R := fun _ => Keep (one g)
  G := fun n w' => Keep (one g) wr w' ∧ TapeAt w' g (m + n)
  eff := [2, 3, 5]
  T := fun k _ v w' => match k with
    | 2 => ∃ n : Nat, n < 4 ∧ v = .int .i64 (n : Int)
    | 3 => ∃ b n : Nat, v = .slice (some ⟨b, 0, none⟩) n n
    | _ => madeT wr.heap.size 45 zi (fun a => .pointer (some a)) v w'
  anc := fun _ => []
  own := fun _ _ _ => False
theorem ixCalm_good (wr : World) (g m : Nat) (zi : Array Value) (hg : g < wr.heap.size) : (ixCalm wr g m zi).Good where
  mono := fun _ _ h => ⟨h.1, h.2.mono (by omega)⟩
  size := fun _ _ _ h => h.size
  stable := fun _ k _ _ w1 w2 _ _ h hR => by
    simp only [ixCalm] at h ⊢
    split at h
    · exact h
    · exact h
    · exact h.stable hR (fun b e => by cases e; exact hg)
theorem ixCalm_at {wr : World} {g m : Nat} {zi : Array Value} (x : (ixCalm wr g m zi).Sub) : Keep (one g) wr ((ixCalm wr g m zi).at_ x) := by
  obtain ⟨x, n, _, h⟩ := x
  exact h.1
/-- The facts of 'proxy.Fits(k[0], k[1]) != ref.Fits(k[0], k[1])'. -/
def fitCalm (wr : World) (r : Bool) : Calm where
  R := fun _ => Keep none_
  G := fun _ => Keep none_ wr
  eff := [4, 9]
  T := fun _ _ v _ => v = .bool r
  anc := fun _ => []
  own := fun _ _ _ => False
theorem fitCalm_good (wr : World) (r : Bool) : (fitCalm wr r).Good := ⟨fun _ _ h => h, fun _ _ _ h => h.size, fun _ _ _ _ _ _ _ _ h _ => h⟩
theorem fitCalm_at {wr : World} {r : Bool} (x : (fitCalm wr r).Sub) : Keep none_ wr ((fitCalm wr r).at_ x) := by
  obtain ⟨x, n, _, h⟩ := x
  exact h

set_option maxRecDepth 100000 in
set_option maxHeartbeats 1000000 in
theorem law5_any (q0 : Sq) (a b : Ix) (A : Option Addr) (n c : Nat) (zs : List Int) (w : World) (ok0 : q0.Ok) (oka : a.s.Ok) (okb : b.s.Ok) (hr : Row w none_ 1 A n c (zs.map (Value.int .i64))) (hz : I64s zs) :
    Calls Try.prog 5 #[.agg q0.cells, .agg a.cells, .agg b.cells, .slice A n c] w fun e w' => e = .returned (.bool true) ∧ Keep none_ w w' := by
  obtain ⟨c0, hc0⟩ : ∃ c0, c0 = q0.cells := ⟨_, rfl⟩
  obtain ⟨ca, hca⟩ : ∃ ca, ca = a.cells := ⟨_, rfl⟩
  obtain ⟨cb, hcb⟩ : ∃ cb, cb = b.cells := ⟨_, rfl⟩
  obtain ⟨zq, hzq⟩ : ∃ zq, zq = zeroSq.cells := ⟨_, rfl⟩
  have zsq : ∀ w, (zeroValue 42).run Try.prog w = .ok (.agg zq) w := hzq ▸ zero_seq
  have HC0 := Lib.hid hc0
  have HCA := Lib.hid hca
  have HCB := Lib.hid hcb
  have HZ := Lib.hid hzq
  rw [← hc0, ← hca, ← hcb]
  clear hc0 hca hcb hzq
  have i0 := Lib.hid (show (Try.prog.info? 42).map (·.size) = some c0.size by rw [HC0.out]; exact sq_info ok0)
  go_enter Try.func5, Try.ntmps5
  go_upto_region 2 with (fail)
  obtain ⟨W0, hW0⟩ : ∃ W0, W0 = (((w.alloc (.cells c0 42)).alloc (.cells ca 45)).alloc (.cells cb 45)).alloc (.cells #[.slice A n c, .int .i64 0] 28) := ⟨_, rfl⟩
  obtain ⟨b0, b1, b2, b3, k0⟩ := fourB (w := w) (t0 := 42) (c0 := c0) (t1 := 45) (c1 := ca) (t2 := 45) (c2 := cb) (t3 := 28) (c3 := #[.slice A n c, .int .i64 0]) (W0 := W0) (hW0 ▸ Keep.refl none_ W0)
  rw [← hW0]
  clear hW0
  obtain ⟨g, hg⟩ : ∃ g, g = w.heap.size + 1 + 1 + 1 := ⟨_, rfl⟩
  rw [← hg] at b3
  have lg : g < W0.heap.size := b3.lt
  have ht : TapeAt W0 g 0 := ⟨A, n, c, 0, zs, b3, Nat.le_refl _, ((hr.fresh (S := ge g) (fun k e => by unfold ge at e; omega) (by decide)).keep k0.weak), hz⟩
  have g0 : ¬ one g w.heap.size := fun e => by unfold one at e; omega
  have g1 : ¬ one g (w.heap.size + 1) := fun e => by unfold one at e; omega
  have g2 : ¬ one g (w.heap.size + 1 + 1) := fun e => by unfold one at e; omega
  have g3 : ∀ x, W0.heap.size ≤ x → ¬ one g x := fun x h e => by unfold one at e; omega
  have gw : w.heap.size ≤ g := by omega
  rw [← hg]
  clear hr hz b3 hg
  go_wp2_with fail
  refine (large_any g 0 W0 ht (by omega)).mono ?_
  rintro e w1 ⟨q1, rfl, ok1, ht1, k1⟩
  replace b0 := b0.keep k1 g0
  replace b1 := b1.keep k1 g1
  replace b2 := b2.keep k1 g2
  have l01 := k1.size
  have k01 : Keep none_ w w1 := k0.own k1 gw
  clear k0 k1 ht
  obtain ⟨c1, hc1⟩ : ∃ c1, c1 = q1.cells := ⟨_, rfl⟩
  have HC1 := Lib.hid hc1
  rw [← hc1]
  clear hc1
  have i1 := Lib.hid (show (Try.prog.info? 42).map (·.size) = some c1.size by rw [HC1.out]; exact sq_info ok1)
  have i2 := Lib.hid (show zq.size = c1.size by rw [HC1.out, HZ.out, Sq.cells_size _ ok1]; exact zeroSq_size)
  have i3 := Lib.hid (show c1.all (·.oneCell') = true by rw [HC1.out]; exact Sq.plain _)
  have tok : True := trivial
  go_upto_region 3 with (have _t := tok; refine wpList_store_blk rfl 42 (.tmp 10) (.tmp 27) rfl w1.heap.size 42 zq c1 rfl rfl (Blk.new _ _ _) i2.out i1.out i3.out ?_; intro w2 b4 k2 s2; go_frame; clear _t tok)
  have k12 : Keep none_ w1 w2 := ((Keep.refl none_ w1).alloc _).own k2 (Nat.le_refl _)
  replace b0 := b0.keep k12 (fun e => e)
  replace b1 := b1.keep k12 (fun e => e)
  replace b2 := b2.keep k12 (fun e => e)
  have ht2 : TapeAt w2 g 2 := ht1.far k12 (fun _ e => e.elim)
  have k02 : Keep none_ w w2 := k01.trans k12
  have l12 := k12.size
  have lg2 := ht2.lt
  have g4 : ¬ one g w1.heap.size := g3 _ l01
  clear k12 k01 ht1 k2 s2 i2 i3
  have gd := hdCalm_good w2 g 2 lg2
  have ne : Nonempty (hdCalm w2 g 2).Sub := ⟨⟨w2, 0, Nat.zero_le _, Keep.refl _ _, ht2⟩⟩
  have x0 := Lib.hid (fun x => (b0.keep (hdCalm_at (m := 2) x) g0).rangeAt)
  have x1 := Lib.hid (fun x => (b4.keep (hdCalm_at (m := 2) x) g4).rangeAt)
  refine wp_region_calm (hdCalm w2 g 2) [0, 1, 2, 3, 4, 5, 6] [] 106 (by kernel_rfl) (by kernel_rfl) rfl gd ⟨(Keep.refl _ _).drew, ht2.far ((Keep.refl none_ _).drew) (fun _ e => e.elim)⟩ ?_
  simp only [pairs, List.filterMap_cons, List.filterMap_nil, List.getElem?_toArray, List.getElem?_cons_succ, List.getElem?_cons_zero, Option.map_some]
  refine Calm.walk_load 42 (.tmp 4) rfl ne rfl rfl w.heap.size 0 rfl c0 _ x0.out Try.underlying42 rfl i0.out ?_
  go_frame
  refine Calm.walk_load 42 (.tmp 10) rfl ne rfl rfl w1.heap.size 0 rfl c1 _ x1.out Try.underlying42 rfl i1.out ?_
  go_frame
  repeat (refine Calm.walk_quiet ne rfl rfl rfl (fun K hK => ?_); go_big_quiet_op; refine hK _ ?_; clear hK K)
  refine Calm.walk_eff rfl rfl (fun n w3 hn hG _ => ?_) ?_
  · unfold gives
    go_simp
    have hn' : n < 2 := hn
    refine (tseq_any g (2 + n) w3 hG.2 (by omega)).mono ?_
    rintro e w4 ⟨s, rfl, ok, ht, hk⟩
    exact ⟨_, rfl, ⟨s, rfl, ok⟩, hk, ⟨hG.1.trans hk, ht.mono (by omega)⟩, fun _ h => h.elim⟩
  rintro v w3 ⟨q2, rfl, ok2⟩
  clear w3
  go_frame
  have z0 := q0.cells_size ok0
  have z1 := q1.cells_size ok1
  have z2 := q2.cells_size ok2
  rw [← HC0.out] at z0
  rw [← HC1.out] at z1
  refine Calm.walk_eff rfl rfl (fun n w3 hn hG _ => ?_) ?_
  · obtain ⟨ie, z, hie, hz, seqInfo_size⟩ := info_is (P := Try.prog) (t := 42) (n := 135) (by kernel_rfl)
    refine gives_buildSlice 48 42 3 _ rfl Try.underlying48 hie hz (by rw [seqInfo_size]; decide) (by rw [seqInfo_size]; decide) [(0, .agg c0), (1, .agg c1), (2, .agg q2.cells)] rfl ?_ ?_ ?_
    · simp only [Contig, Value.cells, seqInfo_size, z0, z1, z2]
      exact ⟨trivial, trivial, trivial, trivial⟩
    · simp [allCells, Value.cells, seqInfo_size, z0, z1, z2]
    · exact ⟨⟨w3.heap.size, hG.1.size, rfl, Blk.new _ _ _⟩, (Keep.refl _ _).alloc _, ⟨hG.1.alloc _, (hG.2.far ((Keep.refl none_ _).alloc _) (fun _ e => e.elim)).mono (by omega)⟩, fun _ h => h.elim⟩
  rintro v w3 ⟨bl, -, rfl, -⟩
  clear w3
  go_frame
  repeat (refine Calm.walk_quiet ne rfl rfl rfl (fun K hK => ?_); go_big_quiet_op; refine hK _ ?_; clear hK K)
  intro w3 hG hD
  have k23 : Keep (one g) w2 w3 := hG.1
  have ht3 : TapeAt w3 g 4 := hG.2
  have h4 : ∃ b', w2.heap.size ≤ b' ∧ Value.slice (some ⟨bl, 0, none⟩) 3 3 = .slice (some ⟨b', 0, none⟩) 3 3 ∧ Blk w3 b' 42 (c0.toList ++ (c1.toList ++ (q2.cells.toList ++ []))).toArray := (hD.1 4 rfl _ rfl ⟨rfl, rfl⟩).1
  obtain ⟨b', hb', he, h4⟩ := h4
  simp only [Value.slice.injEq, Option.some.injEq, Addr.mk.injEq, and_true] at he
  subst he
  have three : ∀ k : Nat, k < 3 → ∃ s : Sq, s.Ok ∧ w3.rangeAt bl (k * 135) s.cells.toList := by
    intro k hk
    match k, hk with
    | 0, _ => exact ⟨q0, ok0, rangeAt_mid [] _ _ h4 (by rw [HC0.out]; rfl) 0 rfl⟩
    | 1, _ => exact ⟨q1, ok1, rangeAt_mid c0.toList _ _ h4 (by rw [HC1.out]) 135 (by simpa using z0)⟩
    | 2, _ => exact ⟨q2, ok2, rangeAt_mid (c0.toList ++ c1.toList) _ _ h4 (by rw [List.append_assoc]) 270 (by simp [z0, z1])⟩
  have THREE := Lib.hid three
  replace b1 := b1.keep k23 g1
  replace b2 := b2.keep k23 g2
  replace b4 := b4.keep k23 g4
  have k03 : Keep none_ w w3 := k02.own k23 gw
  have l23 := k23.size
  clear three h4 hD hG x0 x1 ne gd k23 k02 ht2 b0 z0 z1 z2 i0
  simp only [pickOps, List.filterMap_nil]
  go_wp2_with fail
  go_loopw [34] (fun i wr => ∃ k : Nat, k ≤ 3 ∧ i = .int .i64 k ∧ Keep none_ w3 wr) (fun i _ => 3 - (intOf i).toNat)
  case atStart => exact ⟨0, by omega, rfl, Keep.refl _ _⟩
  case round =>
    obtain ⟨k, hk, rfl, hkr⟩ := hrel
    by_cases hlt : k < 3
    · obtain ⟨s, ok, hrg⟩ := THREE.out k hlt
      obtain ⟨cs, hcs⟩ : ∃ cs, cs = s.cells := ⟨_, rfl⟩
      obtain ⟨ds, hds⟩ : ∃ ds, ds = (hdr s).cells := ⟨_, rfl⟩
      have HRG := Lib.hid (show wr.rangeAt bl (k * 135) cs.toList from fun j v hv => hkr.cell (hrg j v (hcs ▸ hv)) (fun e => e))
      have j1 := Lib.hid (show (Try.prog.info? 42).map (·.size) = some cs.size by rw [hcs]; exact sq_info ok)
      have j2 := Lib.hid (show zq.size = cs.size by rw [hcs, HZ.out, Sq.cells_size _ ok]; exact zeroSq_size)
      have j3 := Lib.hid (show cs.all (·.oneCell') = true by rw [hcs]; exact Sq.plain _)
      have j4 := Lib.hid (show (Try.prog.info? 42).map (·.size) = some ds.size by rw [hds]; exact sq_info (hdr_ok ok))
      have j5 := Lib.hid (show zq.size = ds.size by rw [hds, HZ.out, Sq.cells_size _ (hdr_ok ok)]; exact zeroSq_size)
      have j6 := Lib.hid (show ds.all (·.oneCell') = true by rw [hds]; exact Sq.plain _)
      have hP := Lib.hid (show ∀ w, Calls Try.prog 13 #[.agg cs] w (fun e w' => e = .returned (.tuple #[.agg ds, .int .i64 (hdrE s)]) ∧ Keep none_ w w') from fun w => by rw [hcs, hds]; exact header_any s w ok)
      have hQ := Lib.hid (show ∀ w, Calls Try.prog 14 #[.agg cs] w (fun e w' => e = .returned (.tuple #[.agg ds, .int .i64 (hdrE s)]) ∧ Keep none_ w w') from fun w => by rw [hcs, hds]; exact headerR_any s w ok)
      obtain ⟨r, hr1, hr2⟩ := seq_eq (hdr s) (hdr s) (hdr_ok ok) (hdr_ok ok)
      obtain rfl := hr1 rfl
      rw [← hds] at hr2
      have HR := Lib.hid hr2
      generalize hdrE s = he at hP hQ
      clear hrg hcs hds hr1 hr2
      have hlt' : (k : Int) < 3 := by omega
      have t1 : True := trivial
      have t2 : True := trivial
      go_upto_region 6 with (first | (have _t := t1; refine wpList_load_part 42 (.tmp 36) rfl rfl bl (k * 135) (by first | rfl | simp) cs _ HRG.out Try.underlying42 rfl j1.out ?_; go_frame; clear _t t1) | (have _t := t2; refine wpList_store_blk rfl 42 (.tmp 12) (.tmp 37) rfl wr.heap.size 42 zq cs rfl rfl (Blk.new _ _ _) j2.out j1.out j3.out ?_; intro w5 b5 k5 s5; go_frame; clear _t t2))
      have kr5 : Keep none_ wr w5 := ((Keep.refl none_ wr).alloc _).own k5 (Nat.le_refl _)
      clear k5 s5
      have t1 : True := trivial
      go_wp2_with (have _t := t1; refine wpList_load_blk rfl 42 (.tmp 12) rfl wr.heap.size 42 cs _ rfl b5 Try.underlying42 rfl j1.out ?_; go_frame; clear _t t1)
      refine (hP.out w5).mono ?_
      rintro e w6 ⟨rfl, k6⟩
      have b6 := b5.keep k6 (fun e => e)
      replace kr5 := kr5.trans k6
      clear b5 k6
      have t1 : True := trivial
      go_upto_region 7 with (have _t := t1; refine wpList_store_blk rfl 42 (.tmp 13) (.tmp 41) rfl w6.heap.size 42 zq ds rfl rfl (Blk.new _ _ _) j5.out j4.out j6.out ?_; intro w7 b7 k7 s7; go_frame; clear _t t1)
      have k67 : Keep none_ w6 w7 := ((Keep.refl none_ w6).alloc _).own k7 (Nat.le_refl _)
      replace b6 := b6.keep k67 (fun e => e)
      replace kr5 := kr5.trans k67
      clear k67 k7 s7
      have t1 : True := trivial
      go_wp2_with (have _t := t1; refine wpList_load_blk rfl 42 (.tmp 12) rfl wr.heap.size 42 cs _ rfl b6 Try.underlying42 rfl j1.out ?_; go_frame; clear _t t1)
      refine (hQ.out w7).mono ?_
      rintro e w8 ⟨rfl, k8⟩
      replace b7 := b7.keep k8 (fun e => e)
      replace kr5 := kr5.trans k8
      clear b6 k8
      have t1 : True := trivial
      go_upto_region 8 with (have _t := t1; refine wpList_store_blk rfl 42 (.tmp 15) (.tmp 46) rfl w8.heap.size 42 zq ds rfl rfl (Blk.new _ _ _) j5.out j4.out j6.out ?_; intro w9 b9 k9 s9; go_frame; clear _t t1)
      have k89 : Keep none_ w8 w9 := ((Keep.refl none_ w8).alloc _).own k9 (Nat.le_refl _)
      replace b7 := b7.keep k89 (fun e => e)
      replace kr5 := kr5.trans k89
      clear k89 k9 s9
      have t1 : True := trivial
      go_wp2_with (have _t := t1; refine wpList_load_part 42 (.tmp 13) rfl rfl w6.heap.size 0 rfl ds _ b7.rangeAt Try.underlying42 rfl j4.out ?_; go_frame; refine wpList_load_part 42 (.tmp 15) rfl rfl w8.heap.size 0 rfl ds _ b9.rangeAt Try.underlying42 rfl j4.out ?_; go_frame; refine wpList_neq_agg 42 (.tmp 48) (.tmp 49) _ rfl rfl ds ds rfl rfl (by kernel_rfl) true HR.out ?_; go_frame; clear _t t1)
      go_roundw
      case rel => exact ⟨k + 1, by omega, by go_num, hkr.trans kr5⟩
      case measure => simp [intOf]; omega
    · obtain rfl : k = 3 := by omega
      replace b1 := b1.keep hkr (fun e => e)
      replace b2 := b2.keep hkr (fun e => e)
      replace b4 := b4.keep hkr (fun e => e)
      have k0r : Keep none_ w wr := k03.trans hkr
      have htr : TapeAt wr g 4 := ht3.far hkr (fun _ e => e.elim)
      have l3 := hkr.size
      clear k03 hkr ht3 THREE
      obtain ⟨ds, hds⟩ : ∃ ds, ds = (hdr q1).cells := ⟨_, rfl⟩
      have j4 := Lib.hid (show (Try.prog.info? 42).map (·.size) = some ds.size by rw [hds]; exact sq_info (hdr_ok ok1))
      have j5 := Lib.hid (show zq.size = ds.size by rw [hds, HZ.out, Sq.cells_size _ (hdr_ok ok1)]; exact zeroSq_size)
      have j6 := Lib.hid (show ds.all (·.oneCell') = true by rw [hds]; exact Sq.plain _)
      have hQ := Lib.hid (show ∀ w, Calls Try.prog 14 #[.agg c1] w (fun e w' => e = .returned (.tuple #[.agg ds, .int .i64 (hdrE q1)]) ∧ Keep none_ w w') from fun w => by rw [HC1.out, hds]; exact headerR_any q1 w ok1)
      generalize hdrE q1 = he at hQ
      have HDS := Lib.hid hds
      clear hds
      have t1 : True := trivial
      go_wp2_with (have _t := t1; refine wpList_load_blk rfl 42 (.tmp 10) rfl w1.heap.size 42 c1 _ rfl b4 Try.underlying42 rfl i1.out ?_; go_frame; clear _t t1)
      refine (hQ.out wr).mono ?_
      rintro e w5 ⟨rfl, k5⟩
      replace b1 := b1.keep k5 (fun e => e)
      replace b2 := b2.keep k5 (fun e => e)
      replace b4 := b4.keep k5 (fun e => e)
      replace k0r := k0r.trans k5
      replace htr := htr.far k5 (fun _ e => e.elim)
      have l5 := k5.size
      clear k5
      have t1 : True := trivial
      go_upto_region 12 with (have _t := t1; refine wpList_store_blk rfl 42 (.tmp 17) (.tmp 60) rfl w5.heap.size 42 zq ds rfl rfl (Blk.new _ _ _) j5.out j4.out j6.out ?_; intro w6 b6 k6 s6; go_frame; clear _t t1)
      have k56 : Keep none_ w5 w6 := ((Keep.refl none_ w5).alloc _).own k6 (Nat.le_refl _)
      replace b1 := b1.keep k56 (fun e => e)
      replace b2 := b2.keep k56 (fun e => e)
      replace b4 := b4.keep k56 (fun e => e)
      replace k0r := k0r.trans k56
      replace htr := htr.far k56 (fun _ e => e.elim)
      have l6 := k56.size
      clear k56 k6 s6
      obtain ⟨zi, hzi⟩ : ∃ zi, zi = zeroIx.cells := ⟨_, rfl⟩
      have zix : ∀ w, (zeroValue 45).run Try.prog w = .ok (.agg zi) w := hzi ▸ zero_ix
      have HZI := Lib.hid hzi
      clear hzi
      have lg4 := htr.lt
      have gd := ixCalm_good w6 g 4 zi lg4
      have ne : Nonempty (ixCalm w6 g 4 zi).Sub := ⟨⟨w6, 0, Nat.zero_le _, Keep.refl _ _, htr⟩⟩
      have x0 := Lib.hid (fun x => (b4.keep (ixCalm_at (m := 4) (zi := zi) x) g4).rangeAt)
      refine wp_region_calm (ixCalm w6 g 4 zi) [0, 1, 2, 3, 4, 5] [6] 106 (by kernel_rfl) (by kernel_rfl) rfl gd ⟨(Keep.refl _ _).drew, htr.far ((Keep.refl none_ _).drew) (fun _ e => e.elim)⟩ ?_
      simp only [pairs, List.filterMap_cons, List.filterMap_nil, List.getElem?_toArray, List.getElem?_cons_succ, List.getElem?_cons_zero, Option.map_some]
      refine Calm.walk_load 42 (.tmp 10) rfl ne rfl rfl w1.heap.size 0 rfl c1 _ x0.out Try.underlying42 rfl i1.out ?_
      go_frame
      repeat (refine Calm.walk_quiet ne rfl rfl rfl (fun K hK => ?_); go_big_quiet_op; refine hK _ ?_; clear hK K)
      refine Calm.walk_eff rfl rfl (fun n w3 hn hG _ => ?_) ?_
      · unfold gives
        go_simp
        have hn' : n < 3 := hn
        refine (next_any g (4 + n) 4 w3 hG.2 (by omega) (by omega)).mono ?_
        rintro e w4 ⟨r, rfl, hr, -, ht, hk⟩
        obtain ⟨hr0, hr1⟩ := hr (by omega)
        exact ⟨_, rfl, ⟨r.toNat, by omega, by rw [show ((r.toNat : Nat) : Int) = r by omega]; rfl⟩, hk, ⟨hG.1.trans hk, ht.mono (by omega)⟩, fun _ h => h.elim⟩
      rintro v w3 ⟨nx, hnx, rfl⟩
      clear w3
      go_frame
      refine Calm.walk_eff rfl rfl (fun n w3 hn hG _ => ?_) ?_
      · have hm := mk_entry nx hnx w3
        unfold gives
        go_simp
        exact ⟨⟨w3.heap.size, nx, rfl⟩, (Keep.refl _ _).alloc _, ⟨hG.1.alloc _, (hG.2.far ((Keep.refl none_ _).alloc _) (fun _ e => e.elim)).mono (by omega)⟩, fun _ h => h.elim⟩
      rintro v w3 ⟨bx, ny, rfl⟩
      clear w3 hnx
      go_frame
      obtain ⟨ix, hix⟩ : ∃ x : Ix, x = ⟨⟨#[97]⟩, q1, some ⟨bx, 0, none⟩, ny, ny⟩ := ⟨_, rfl⟩
      have okix : ix.s.Ok := by rw [hix]; exact ok1
      obtain ⟨ccix, hcc⟩ : ∃ cc, cc = ix.cells := ⟨_, rfl⟩
      have hbuilt := Lib.hid (show Try.prog.built 45 [(0, .string ⟨#[97]⟩), (1, .agg c1), (2, .slice (some ⟨bx, 0, none⟩) ny ny)] = some ccix by
        have := built_ix ix okix
        rw [hcc, hix]
        rw [hix] at this
        rw [HC1.out]
        exact this)
      refine Calm.walk_build 45 _ rfl ne rfl rfl ccix hbuilt.out ?_
      go_frame
      refine Calm.walk_eff rfl rfl (fun n w3 hn hG _ => ?_) ?_
      · unfold gives
        go_simp
        exact ⟨⟨w3.heap.size, hG.1.size, rfl, Blk.new _ _ _⟩, (Keep.refl _ _).alloc _, ⟨hG.1.alloc _, (hG.2.far ((Keep.refl none_ _).alloc _) (fun _ e => e.elim)).mono (by omega)⟩, fun _ h => h.elim⟩
      rintro v w3 ⟨bix, -, rfl, -⟩
      clear w3
      go_frame
      intro w7' hG hD
      have kk : Keep (one g) w6 w7' := hG.1
      have htt : TapeAt w7' g (4 + 3) := hG.2
      have hbx := madeT.ptr (hD.1 5 rfl _ rfl ⟨rfl, rfl⟩).1
      clear hD hG gd ne x0
      have HCCix := Lib.hid hcc
      have e1ix := Lib.hid (show (Try.prog.info? 45).map (·.size) = some ccix.size by rw [hcc]; exact ixSize_info okix)
      have e2ix := Lib.hid (show zi.size = ccix.size by rw [hcc, HZI.out, Ix.size _ okix]; exact zeroIx_size)
      have e3ix := Lib.hid (show ccix.all (·.oneCell') = true by rw [hcc]; exact Ix.plain _)
      clear hcc hix hbuilt
      simp only [pickOps, List.filterMap_cons, List.filterMap_nil, List.getElem?_toArray, List.getElem?_cons_succ, List.getElem?_cons_zero]
      refine wpList_store_blk rfl 45 (.tmp 19) (.tmp 66) rfl bix 45 zi ccix rfl rfl hbx.2 e2ix.out e1ix.out e3ix.out ?_
      intro w7 bbix kst sst
      go_frame
      have hbl := hbx.1
      have gbx : ¬ one bix g := fun e => by unfold one at e; omega
      have ltb : ∀ x, x < w6.heap.size → ¬ one bix x := fun x h e => by unfold one at e; omega
      have l7 := bbix.lt
      replace b1 := (b1.keep kk g1).keep kst (ltb _ b1.lt)
      replace b2 := (b2.keep kk g2).keep kst (ltb _ b2.lt)
      have g6 : ¬ one g w5.heap.size := g3 _ (by omega)
      replace b6 := (b6.keep kk g6).keep kst (ltb _ b6.lt)
      replace k0r := (k0r.own kk gw).own kst (by have := k0r.size; omega)
      replace htr : TapeAt w7 g 7 := htt.far kst (fun b e => by unfold one at e; omega)
      have gix : ¬ one g bix := fun e => by unfold one at e; omega
      clear kk htt hbx kst sst hbl gbx ltb b4
      go_upto_region 13 with (fail)
      have lg7 := htr.lt
      have gd := ixCalm_good w7 g 7 zi lg7
      have ne : Nonempty (ixCalm w7 g 7 zi).Sub := ⟨⟨w7, 0, Nat.zero_le _, Keep.refl _ _, htr⟩⟩
      have x0 := Lib.hid (fun x => (b6.keep (ixCalm_at (m := 7) (zi := zi) x) g6).rangeAt)
      refine wp_region_calm (ixCalm w7 g 7 zi) [0, 1, 2, 3, 4, 5] [6] 106 (by kernel_rfl) (by kernel_rfl) rfl gd ⟨(Keep.refl _ _).drew, htr.far ((Keep.refl none_ _).drew) (fun _ e => e.elim)⟩ ?_
      simp only [pairs, List.filterMap_cons, List.filterMap_nil, List.getElem?_toArray, List.getElem?_cons_succ, List.getElem?_cons_zero, Option.map_some]
      refine Calm.walk_load 42 (.tmp 17) rfl ne rfl rfl w5.heap.size 0 rfl ds _ x0.out Try.underlying42 rfl j4.out ?_
      go_frame
      repeat (refine Calm.walk_quiet ne rfl rfl rfl (fun K hK => ?_); go_big_quiet_op; refine hK _ ?_; clear hK K)
      refine Calm.walk_eff rfl rfl (fun n w3 hn hG _ => ?_) ?_
      · unfold gives
        go_simp
        have hn' : n < 3 := hn
        refine (next_any g (7 + n) 4 w3 hG.2 (by omega) (by omega)).mono ?_
        rintro e w4 ⟨r, rfl, hr, -, ht, hk⟩
        obtain ⟨hr0, hr1⟩ := hr (by omega)
        exact ⟨_, rfl, ⟨r.toNat, by omega, by rw [show ((r.toNat : Nat) : Int) = r by omega]; rfl⟩, hk, ⟨hG.1.trans hk, ht.mono (by omega)⟩, fun _ h => h.elim⟩
      rintro v w3 ⟨nx, hnx, rfl⟩
      clear w3
      go_frame
      refine Calm.walk_eff rfl rfl (fun n w3 hn hG _ => ?_) ?_
      · have hm := mk_entry nx hnx w3
        unfold gives
        go_simp
        exact ⟨⟨w3.heap.size, nx, rfl⟩, (Keep.refl _ _).alloc _, ⟨hG.1.alloc _, (hG.2.far ((Keep.refl none_ _).alloc _) (fun _ e => e.elim)).mono (by omega)⟩, fun _ h => h.elim⟩
      rintro v w3 ⟨bx, ny, rfl⟩
      clear w3 hnx
      go_frame
      obtain ⟨iy, hiy⟩ : ∃ x : Ix, x = ⟨⟨#[98]⟩, hdr q1, some ⟨bx, 0, none⟩, ny, ny⟩ := ⟨_, rfl⟩
      have okiy : iy.s.Ok := by rw [hiy]; exact hdr_ok ok1
      obtain ⟨cciy, hcc⟩ : ∃ cc, cc = iy.cells := ⟨_, rfl⟩
      have hbuilt := Lib.hid (show Try.prog.built 45 [(0, .string ⟨#[98]⟩), (1, .agg ds), (2, .slice (some ⟨bx, 0, none⟩) ny ny)] = some cciy by
        have := built_ix iy okiy
        rw [hcc, hiy]
        rw [hiy] at this
        rw [HDS.out]
        exact this)
      refine Calm.walk_build 45 _ rfl ne rfl rfl cciy hbuilt.out ?_
      go_frame
      refine Calm.walk_eff rfl rfl (fun n w3 hn hG _ => ?_) ?_
      · unfold gives
        go_simp
        exact ⟨⟨w3.heap.size, hG.1.size, rfl, Blk.new _ _ _⟩, (Keep.refl _ _).alloc _, ⟨hG.1.alloc _, (hG.2.far ((Keep.refl none_ _).alloc _) (fun _ e => e.elim)).mono (by omega)⟩, fun _ h => h.elim⟩
      rintro v w3 ⟨biy, -, rfl, -⟩
      clear w3
      go_frame
      intro w8' hG hD
      have kk : Keep (one g) w7 w8' := hG.1
      have htt : TapeAt w8' g (7 + 3) := hG.2
      have hbx := madeT.ptr (hD.1 5 rfl _ rfl ⟨rfl, rfl⟩).1
      clear hD hG gd ne x0
      have HCCiy := Lib.hid hcc
      have e1iy := Lib.hid (show (Try.prog.info? 45).map (·.size) = some cciy.size by rw [hcc]; exact ixSize_info okiy)
      have e2iy := Lib.hid (show zi.size = cciy.size by rw [hcc, HZI.out, Ix.size _ okiy]; exact zeroIx_size)
      have e3iy := Lib.hid (show cciy.all (·.oneCell') = true by rw [hcc]; exact Ix.plain _)
      clear hcc hiy hbuilt
      simp only [pickOps, List.filterMap_cons, List.filterMap_nil, List.getElem?_toArray, List.getElem?_cons_succ, List.getElem?_cons_zero]
      refine wpList_store_blk rfl 45 (.tmp 20) (.tmp 71) rfl biy 45 zi cciy rfl rfl hbx.2 e2iy.out e1iy.out e3iy.out ?_
      intro w8 bbiy kst sst
      go_frame
      have hbl := hbx.1
      have gbx : ¬ one biy g := fun e => by unfold one at e; omega
      have ltb : ∀ x, x < w7.heap.size → ¬ one biy x := fun x h e => by unfold one at e; omega
      have l8 := bbiy.lt
      have gl : ¬ one biy bix := ltb _ l7
      replace b1 := (b1.keep kk g1).keep kst (ltb _ b1.lt)
      replace b2 := (b2.keep kk g2).keep kst (ltb _ b2.lt)
      have bX := (bbix.keep kk gix).keep kst gl
      replace k0r := (k0r.own kk gw).own kst (by have := k0r.size; omega)
      clear kk htt hbx kst sst hbl gbx ltb b6 htr bbix gl gix
      have a1 := Lib.hid (show (Try.prog.info? 45).map (·.size) = some ca.size by rw [HCA.out]; exact ixSize_info oka)
      have a2 := Lib.hid (show (Try.prog.info? 45).map (·.size) = some cb.size by rw [HCB.out]; exact ixSize_info okb)
      have B1 := Lib.hid b1
      have B2 := Lib.hid b2
      have BX := Lib.hid bX
      have BY := Lib.hid bbiy
      obtain ⟨p1, hp1⟩ : ∃ p, p = ca ++ cb := ⟨_, rfl⟩
      have v1 := Lib.hid (show Try.prog.built 52 [(0, .agg ca), (1, .agg cb)] = some p1 by rw [hp1]; rw [HCA.out, HCB.out]; exact built_two a b oka okb)
      obtain ⟨p2, hp2⟩ : ∃ p, p = ccix ++ cciy := ⟨_, rfl⟩
      have v2 := Lib.hid (show Try.prog.built 52 [(0, .agg ccix), (1, .agg cciy)] = some p2 by rw [hp2]; rw [HCCix.out, HCCiy.out]; exact built_two ix iy okix okiy)
      obtain ⟨p3, hp3⟩ : ∃ p, p = ccix ++ ccix := ⟨_, rfl⟩
      have v3 := Lib.hid (show Try.prog.built 52 [(0, .agg ccix), (1, .agg ccix)] = some p3 by rw [hp3]; rw [HCCix.out]; exact built_two ix ix okix okix)
      obtain ⟨p4, hp4⟩ : ∃ p, p = cciy ++ ccix := ⟨_, rfl⟩
      have v4 := Lib.hid (show Try.prog.built 52 [(0, .agg cciy), (1, .agg ccix)] = some p4 by rw [hp4]; rw [HCCix.out, HCCiy.out]; exact built_two iy ix okiy okix)
      obtain ⟨p5, hp5⟩ : ∃ p, p = ccix ++ cb := ⟨_, rfl⟩
      have v5 := Lib.hid (show Try.prog.built 52 [(0, .agg ccix), (1, .agg cb)] = some p5 by rw [hp5]; rw [HCCix.out, HCB.out]; exact built_two ix b okix okb)
      have za := Lib.hid (show ca.size = 137 by rw [HCA.out]; exact a.size oka)
      have zb := Lib.hid (show cb.size = 137 by rw [HCB.out]; exact b.size okb)
      have zx := Lib.hid (show ccix.size = 137 by rw [HCCix.out]; exact ix.size okix)
      have zy := Lib.hid (show cciy.size = 137 by rw [HCCiy.out]; exact iy.size okiy)
      have P1 := Lib.hid hp1
      have P2 := Lib.hid hp2
      have P3 := Lib.hid hp3
      have P4 := Lib.hid hp4
      have P5 := Lib.hid hp5
      clear b1 b2 bX bbiy hp1 hp2 hp3 hp4 hp5
      obtain ⟨ie, z, hie, hiz, his⟩ := info_is (P := Try.prog) (t := 52) (n := 274) (by kernel_rfl)
      have s1 : p1.size = 274 := by rw [P1.out, Array.size_append, za.out, zb.out]
      have s2 : p2.size = 274 := by rw [P2.out, Array.size_append, zx.out, zy.out]
      have s3 : p3.size = 274 := by rw [P3.out, Array.size_append, zx.out]
      have s4 : p4.size = 274 := by rw [P4.out, Array.size_append, zy.out, zx.out]
      have s5 : p5.size = 274 := by rw [P5.out, Array.size_append, zx.out, zb.out]
      have hct := Lib.hid (show Contig (fun i => some (i * ie.size, ie.size)) 0 [(0, .agg p1), (1, .agg p2), (2, .agg p3), (3, .agg p4), (4, .agg p5)] by
        simp only [Contig, Value.cells, his, s1, s2, s3, s4, s5]
        exact ⟨trivial, trivial, trivial, trivial, trivial, trivial⟩)
      have hsz := Lib.hid (show (allCells [(0, .agg p1), (1, .agg p2), (2, .agg p3), (3, .agg p4), (4, .agg p5)]).length = 5 * ie.size by simp [allCells, Value.cells, his, s1, s2, s3, s4, s5])
      have his1 := Lib.hid (show ¬ 5 * ie.size > 2 ^ 24 by rw [his]; decide)
      have his2 := Lib.hid (show ¬ 5 * ie.size = 0 by rw [his]; decide)
      replace hie := Lib.hid hie
      replace hiz := Lib.hid hiz
      have S1 := Lib.hid s1
      have S2 := Lib.hid s2
      have S3 := Lib.hid s3
      have S4 := Lib.hid s4
      clear his s1 s2 s3 s4 s5
      go_upto_region 14 with (fail)
      refine wp_region_lit ?_
      refine wpList_load_part 45 (.tmp 5) rfl rfl (w.heap.size + 1) 0 rfl ca _ B1.out.rangeAt Try.underlying45 rfl a1.out ?_
      go_frame
      refine wpList_load_part 45 (.tmp 6) rfl rfl (w.heap.size + 1 + 1) 0 rfl cb _ B2.out.rangeAt Try.underlying45 rfl a2.out ?_
      go_frame
      refine wpList_build_is 52 _ rfl rfl p1 v1.out ?_
      go_frame
      refine wpList_load_part 45 (.tmp 19) rfl rfl bix 0 rfl ccix _ BX.out.rangeAt Try.underlying45 rfl e1ix.out ?_
      go_frame
      refine wpList_load_part 45 (.tmp 20) rfl rfl biy 0 rfl cciy _ BY.out.rangeAt Try.underlying45 rfl e1iy.out ?_
      go_frame
      refine wpList_build_is 52 _ rfl rfl p2 v2.out ?_
      go_frame
      refine wpList_load_part 45 (.tmp 19) rfl rfl bix 0 rfl ccix _ BX.out.rangeAt Try.underlying45 rfl e1ix.out ?_
      go_frame
      refine wpList_load_part 45 (.tmp 19) rfl rfl bix 0 rfl ccix _ BX.out.rangeAt Try.underlying45 rfl e1ix.out ?_
      go_frame
      refine wpList_build_is 52 _ rfl rfl p3 v3.out ?_
      go_frame
      refine wpList_load_part 45 (.tmp 20) rfl rfl biy 0 rfl cciy _ BY.out.rangeAt Try.underlying45 rfl e1iy.out ?_
      go_frame
      refine wpList_load_part 45 (.tmp 19) rfl rfl bix 0 rfl ccix _ BX.out.rangeAt Try.underlying45 rfl e1ix.out ?_
      go_frame
      refine wpList_build_is 52 _ rfl rfl p4 v4.out ?_
      go_frame
      refine wpList_load_part 45 (.tmp 19) rfl rfl bix 0 rfl ccix _ BX.out.rangeAt Try.underlying45 rfl e1ix.out ?_
      go_frame
      refine wpList_load_part 45 (.tmp 6) rfl rfl (w.heap.size + 1 + 1) 0 rfl cb _ B2.out.rangeAt Try.underlying45 rfl a2.out ?_
      go_frame
      refine wpList_build_is 52 _ rfl rfl p5 v5.out ?_
      go_frame
      refine wpList_buildSlice_whole 53 52 5 _ rfl rfl Try.underlying53 hie.out hiz.out his1.out his2.out [(0, .agg p1), (1, .agg p2), (2, .agg p3), (3, .agg p4), (4, .agg p5)] rfl hct.out hsz.out ?_
      intro w9 b9 k89
      go_frame
      have five : ∀ k : Nat, k < 5 → ∃ x y : Ix, x.s.Ok ∧ y.s.Ok ∧ w9.rangeAt w8.heap.size (k * 274) (x.cells ++ y.cells).toList := by
        have e : allCells [(0, Value.agg p1), (1, .agg p2), (2, .agg p3), (3, .agg p4), (4, .agg p5)] = p1.toList ++ (p2.toList ++ (p3.toList ++ (p4.toList ++ (p5.toList ++ [])))) := rfl
        intro k hk
        match k, hk with
        | 0, _ => exact ⟨a, b, oka, okb, rangeAt_mid [] _ _ b9 (by rw [← HCA.out, ← HCB.out, ← P1.out]; exact e) 0 rfl⟩
        | 1, _ => exact ⟨ix, iy, okix, okiy, rangeAt_mid p1.toList _ _ b9 (by rw [← HCCix.out, ← HCCiy.out, ← P2.out]; exact e) 274 (by simpa using S1.out)⟩
        | 2, _ => exact ⟨ix, ix, okix, okix, rangeAt_mid (p1.toList ++ p2.toList) _ _ b9 (by rw [← HCCix.out, ← P3.out, List.append_assoc]; exact e) 548 (by simp [S1.out, S2.out])⟩
        | 3, _ => exact ⟨iy, ix, okiy, okix, rangeAt_mid (p1.toList ++ (p2.toList ++ p3.toList)) _ _ b9 (by rw [← HCCix.out, ← HCCiy.out, ← P4.out, List.append_assoc, List.append_assoc]; exact e) 822 (by simp [S1.out, S2.out, S3.out])⟩
        | 4, _ => exact ⟨ix, b, okix, okb, rangeAt_mid (p1.toList ++ (p2.toList ++ (p3.toList ++ p4.toList))) _ _ b9 (by rw [← HCCix.out, ← HCB.out, ← P5.out, List.append_assoc, List.append_assoc, List.append_assoc]; exact e) 1096 (by simp [S1.out, S2.out, S3.out, S4.out])⟩
      have FIVE := Lib.hid five
      have k09 : Keep none_ w w9 := k0r.trans k89
      have l89 : w8.heap.size < w9.heap.size := b9.lt
      obtain ⟨bb, hbb⟩ : ∃ bb, bb = w8.heap.size := ⟨_, rfl⟩
      rw [← hbb] at FIVE
      rw [← hbb]
      obtain ⟨zp, hzp⟩ : ∃ zp, zp = zeroIx.cells ++ zeroIx.cells := ⟨_, rfl⟩
      have zix2 : ∀ w, (zeroValue 52).run Try.prog w = .ok (.agg zp) w := hzp ▸ zero_ix2
      have HZP := Lib.hid hzp
      clear five b9 k0r k89 hbb hzp zix zsq
      clear B1 B2 BX BY v1 v2 v3 v4 v5
      go_wp2_with fail
      go_loopw [89] (fun i wr => ∃ k : Nat, k ≤ 5 ∧ i = .int .i64 k ∧ Keep none_ w9 wr) (fun i _ => 5 - (intOf i).toNat)
      case atStart => exact ⟨0, by omega, rfl, Keep.refl _ _⟩
      case round =>
        obtain ⟨k, hk, rfl, hkr⟩ := hrel
        by_cases hlt : k < 5
        · obtain ⟨x, y, okx, oky, hrg⟩ := FIVE.out k hlt
          obtain ⟨r, hr1, hr2⟩ := seq_eq y.s (hdr x.s) oky (hdr_ok okx)
          have fit1 := fun w => fits_any x y r w okx oky hr2
          have fit2 := fun w => fitsR_any x y r w okx oky hr2
          generalize fitsF x y r = rr at fit1 fit2
          obtain ⟨cx, hcx⟩ : ∃ cx, cx = x.cells := ⟨_, rfl⟩
          obtain ⟨cy, hcy⟩ : ∃ cy, cy = y.cells := ⟨_, rfl⟩
          obtain ⟨pp, hpp⟩ : ∃ pp, pp = cx ++ cy := ⟨_, rfl⟩
          rw [← hcx, ← hcy] at hrg fit1 fit2
          rw [← hpp] at hrg
          have FIT1 := Lib.hid fit1
          have FIT2 := Lib.hid fit2
          have sx : cx.size = 137 := by rw [hcx]; exact x.size okx
          have sy : cy.size = 137 := by rw [hcy]; exact y.size oky
          have sp : pp.size = 274 := by rw [hpp, Array.size_append, sx, sy]
          have HRG := Lib.hid (show wr.rangeAt bb (k * 274) pp.toList from fun j v hv => hkr.cell (hrg j v hv) (fun e => e))
          have j1 := Lib.hid (show (Try.prog.info? 52).map (·.size) = some pp.size by rw [sp]; exact ix2_info)
          have j2 := Lib.hid (show zp.size = pp.size by rw [sp, HZP.out, Array.size_append, zeroIx_size])
          have j3 := Lib.hid (show pp.all (·.oneCell') = true by rw [hpp, hcx, hcy, Array.all_append, x.plain, y.plain]; rfl)
          have j4 := Lib.hid (show (Try.prog.info? 45).map (·.size) = some cx.size by rw [sx]; exact ix_info)
          have j5 := Lib.hid (show (Try.prog.info? 45).map (·.size) = some cy.size by rw [sy]; exact ix_info)
          have hlt' : (k : Int) < 5 := by omega
          have hx1 : ∀ (w : World) (g : Nat), Blk w g 52 pp → w.rangeAt g 0 cx.toList ∧ w.rangeAt g 137 cy.toList := fun w g h => by
            have h' : Blk w g 52 (cx.toList ++ (cy.toList ++ [])).toArray := by
              have e : (cx.toList ++ (cy.toList ++ [])).toArray = pp := by rw [hpp]; simp
              rw [e]
              exact h
            exact ⟨rangeAt_mid [] _ _ h' rfl 0 rfl, rangeAt_mid cx.toList _ _ h' rfl 137 (by simpa using sx)⟩
          have HX1 := Lib.hid hx1
          clear hrg hr1 hr2 fit1 fit2 hcx hcy hpp sx sy sp hx1
          have t1 : True := trivial
          have t2 : True := trivial
          go_upto_region 17 with (first | (have _t := t1; refine wpList_load_part 52 (.tmp 91) rfl rfl bb (k * 274) (by first | rfl | simp) pp _ HRG.out Try.underlying52 rfl j1.out ?_; go_frame; clear _t t1) | (have _t := t2; refine wpList_store_blk rfl 52 (.tmp 22) (.tmp 92) rfl wr.heap.size 52 zp pp rfl rfl (Blk.new _ _ _) j2.out j1.out j3.out ?_; intro w5 b5 k5 s5; go_frame; clear _t t2))
          have kr5 : Keep none_ wr w5 := ((Keep.refl none_ wr).alloc _).own k5 (Nat.le_refl _)
          clear k5 s5
          have gd := fitCalm_good w5 rr
          have ne : Nonempty (fitCalm w5 rr).Sub := ⟨⟨w5, 0, Nat.zero_le _, Keep.refl _ _⟩⟩
          have x0 := Lib.hid (fun x => HX1.out _ _ (b5.keep (fitCalm_at (wr := w5) (r := rr) x) (fun e => e)))
          refine wp_region_calm (fitCalm w5 rr) [0, 1, 2, 3, 4, 5, 6, 7, 8, 9, 10] [] 106 (by kernel_rfl) (by kernel_rfl) rfl gd (Keep.refl _ _).drew ?_
          simp only [pairs, List.filterMap_cons, List.filterMap_nil, List.getElem?_toArray, List.getElem?_cons_succ, List.getElem?_cons_zero, Option.map_some]
          refine Calm.walk_quiet ne rfl rfl rfl (fun K hK => ?_); go_big_quiet_op; refine hK _ ?_; clear hK K
          refine Calm.walk_load 45 (.tmp 93) rfl ne rfl rfl wr.heap.size 0 rfl cx _ (fun x => (x0.out x).1) Try.underlying45 rfl j4.out ?_
          go_frame
          refine Calm.walk_quiet ne rfl rfl rfl (fun K hK => ?_); go_big_quiet_op; refine hK _ ?_; clear hK K
          refine Calm.walk_load 45 (.tmp 95) rfl ne rfl rfl wr.heap.size 137 rfl cy _ (fun x => (x0.out x).2) Try.underlying45 rfl j5.out ?_
          go_frame
          refine Calm.walk_eff rfl rfl (fun n w6 _ hG _ => ?_) ?_
          · unfold gives
            go_simp
            refine (FIT1.out w6).mono ?_
            rintro e w7 ⟨rfl, hk7⟩
            exact ⟨_, rfl, rfl, hk7, Keep.trans (S := none_) hG hk7, fun _ h => h.elim⟩
          rintro v w6 rfl
          clear w6
          go_frame
          refine Calm.walk_quiet ne rfl rfl rfl (fun K hK => ?_); go_big_quiet_op; refine hK _ ?_; clear hK K
          refine Calm.walk_load 45 (.tmp 98) rfl ne rfl rfl wr.heap.size 0 rfl cx _ (fun x => (x0.out x).1) Try.underlying45 rfl j4.out ?_
          go_frame
          refine Calm.walk_quiet ne rfl rfl rfl (fun K hK => ?_); go_big_quiet_op; refine hK _ ?_; clear hK K
          refine Calm.walk_load 45 (.tmp 100) rfl ne rfl rfl wr.heap.size 137 rfl cy _ (fun x => (x0.out x).2) Try.underlying45 rfl j5.out ?_
          go_frame
          refine Calm.walk_eff rfl rfl (fun n w6 _ hG _ => ?_) ?_
          · unfold gives
            go_simp
            refine (FIT2.out w6).mono ?_
            rintro e w7 ⟨rfl, hk7⟩
            exact ⟨_, rfl, rfl, hk7, Keep.trans (S := none_) hG hk7, fun _ h => h.elim⟩
          rintro v w6 rfl
          clear w6
          go_frame
          have hrr : (rr == rr) = true := by simp
          repeat (refine Calm.walk_quiet ne rfl rfl rfl (fun K hK => ?_); go_big_quiet_op; refine hK _ ?_; clear hK K)
          intro w6 hG _
          have k56 : Keep none_ w5 w6 := hG
          clear hG x0 ne gd b5
          simp only [pickOps, List.filterMap_nil]
          go_wp2_with fail
          go_roundw
          case rel => exact ⟨k + 1, by omega, by go_num, (hkr.trans kr5).trans k56⟩
          case measure => simp [intOf]; omega
        · obtain rfl : k = 5 := by omega
          go_wp2_with fail
          refine (awake_any wr).mono ?_
          rintro e w10 ⟨rfl, k10⟩
          go_wp2_with fail
          go_ret
          exact ⟨rfl, (k09.trans hkr).trans k10⟩
end Go.Proofs.Ytnpkhbcbbbpjhaa
