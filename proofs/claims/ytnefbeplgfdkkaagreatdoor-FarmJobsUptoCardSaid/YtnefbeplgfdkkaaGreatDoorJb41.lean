/-
  (*cutroomfilm.Tape).Expr: at depth 0, and its leaves.
-/
import Derived.Test.YtnefbeplgfdkkaaGreatDoorJb40
namespace Go.Proofs.YtnefbeplgfdkkaaGreatDoor
open Go.RowKit

theorem mName_size (p : Nat) : (mName p).size ≤ maxLen := by
  unfold mName
  split
  · decide
  · split <;> decide
set_option maxRecDepth 100000 in
set_option maxHeartbeats 2000000 in
theorem texpr_zero (g m : Nat) (w : World) (ht : TapeAt w g m) (hm : m ≤ 4503599627370000) :
    Calls Tryz.prog 29 #[.pointer (some ⟨g, 0, none⟩), .int .i64 0] w fun e w' => ∃ v, e = .returned v ∧ GotX 0 w' w.heap.size v ∧ TapeAt w' g (m + 8) ∧ Keep (one g) w w' := by
  obtain ⟨W0, hW0⟩ : ∃ W0, W0 = w.alloc (.cells #[.int .i64 0, .string ⟨#[]⟩, .int .i64 0, .int .i64 0, .int .i64 0, .int .i64 0, .string ⟨#[]⟩, .slice none 0 0] 89) := ⟨_, rfl⟩
  have k0 : Keep none_ w W0 := hW0 ▸ (Keep.refl _ _).alloc _
  have B0 := Lib.hid (show Blk W0 w.heap.size 89 #[.int .i64 0, .string ⟨#[]⟩, .int .i64 0, .int .i64 0, .int .i64 0, .int .i64 0, .string ⟨#[]⟩, .slice none 0 0] from hW0 ▸ Blk.new _ _ _)
  have T0 := Lib.hid (ht.far k0 (fun _ e => e.elim))
  have K0 := Lib.hid (show Keep (one g) w W0 from k0.weak)
  have GN := Lib.hid (show w.heap.size ≠ g from fun e => by have := ht.lt; omega)
  have GL := Lib.hid ht.lt
  have MM := Lib.hid hm
  have ze := zero_ex
  clear ht k0 hm
  go_enter Tryz.func29, Tryz.ntmps29
  go_upto_region 1 with (fail)
  rw [← hW0]
  clear hW0
  have tk_r : True := trivial
  go_upto_region 2 with (have _t := tk_r; go_at_call 8; refine (nextN g _ 8 W0 T0.out (by decide) (by decide) (by have := MM.out; omega)).mono ?_; rintro e w1 ⟨r, rfl, hr, ht_r, k_r⟩; have Tr := Lib.hid ht_r; have Br := Lib.hid (B0.out.keep k_r (fun e => GN.out (by unfold one at e; first | exact e | exact e.symm))); have Kr := Lib.hid (K0.out.trans k_r); have Hr := Lib.hid hr; clear hr; clear ht_r k_r _t tk_r)
  have hr := Hr.out
  by_cases h3 : r ≤ 3
  · have g3 : ¬ (3 : Int) < r := by omega
    by_cases h0 : r = 0
    · have f0 : ((r : Int) == 0) = true := by rw [h0]; rfl
      clear h0 hr h3
      have t8 : True := trivial
      go_wp2_with (have _t := t8; refine wpList_store_blk rfl 89 (.tmp 4) (.tmp 22) rfl w.heap.size 89 _ #[.int .i64 0, .string ⟨#[]⟩, .int .i64 0, .int .i64 0, .int .i64 0, .int .i64 0, .string ⟨#[]⟩, .slice none 0 0] rfl rfl Br.out rfl (by kernel_rfl) (by simp [Value.oneCell']) ?_; intro wz bz kz sz; have BZ := Lib.hid bz; have KZ := Lib.hid kz; clear bz kz sz; go_frame; clear _t t8)
      have GX := Lib.hid (show GotX 0 wz w.heap.size (.agg #[.int .i64 0, .string ⟨#[]⟩, .int .i64 0, .int .i64 0, .int .i64 0, .int .i64 0, .string ⟨#[]⟩, .slice none 0 0]) from GotX.leaf _ _ _ 0 0 0 0 0 ⟨#[]⟩ ⟨#[]⟩ (by decide) (by decide))
      have TT := Lib.hid (show TapeAt wz g (m + 8) from (Tr.out.far (S := one w.heap.size) KZ.out (fun b e => by cases e; exact GL.out)).mono (by omega))
      have KK := Lib.hid (show Keep (one g) w wz from Kr.out.own KZ.out (Nat.le_refl _))
      try simp only [Exit.inBlock, Exit.then]
      refine bodyPost_ret (v := .agg #[.int .i64 0, .string ⟨#[]⟩, .int .i64 0, .int .i64 0, .int .i64 0, .int .i64 0, .string ⟨#[]⟩, .slice none 0 0]) (results_cell Tryz.results29 rfl (run_loadVar_blk BZ.out Tryz.underlying89 rfl (by kernel_rfl))) rfl ?_
      exact ⟨_, rfl, GX.out, TT.out, KK.out⟩

    · have f0 : ((r : Int) == 0) = false := beq_eq_false_iff_ne.2 (by omega)
      have f4 : ((r : Int) == 4) = false := beq_eq_false_iff_ne.2 (by omega)
      have f5 : ((r : Int) == 5) = false := beq_eq_false_iff_ne.2 (by omega)
      have f6 : ((r : Int) == 6) = false := beq_eq_false_iff_ne.2 (by omega)
      have f7 : ((r : Int) == 7) = false := beq_eq_false_iff_ne.2 (by omega)
      clear h0 hr h3
      have t8 : True := trivial
      have tk_q : True := trivial
      have tk_n : True := trivial
      have tk_p : True := trivial
      go_wp2_with (first | (have _t := tk_q; go_at_call 8; refine (nextN g _ 8 wp Tp.out (by decide) (by decide) (by have := MM.out; omega)).mono ?_; rintro e wq ⟨q, rfl, hq, ht_q, k_q⟩; have Tq := Lib.hid ht_q; have Bq := Lib.hid (Bp.out.keep k_q (fun e => GN.out (by unfold one at e; first | exact e | exact e.symm))); have Kq := Lib.hid (Kp.out.trans k_q); have Hq := Lib.hid hq; clear hq; clear ht_q k_q _t tk_q) | (have _t := tk_n; go_at_call 58; refine (name_any p Hp.out wp).mono ?_; rintro e wn ⟨rfl, hwn⟩; subst wn; clear _t tk_n) | (have _t := tk_p; go_at_call 8; refine (nextN g _ 3 w1 Tr.out (by decide) (by decide) (by have := MM.out; omega)).mono ?_; rintro e wp ⟨p, rfl, hp, ht_p, k_p⟩; have Tp := Lib.hid ht_p; have Bp := Lib.hid (Br.out.keep k_p (fun e => GN.out (by unfold one at e; first | exact e | exact e.symm))); have Kp := Lib.hid (Kr.out.trans k_p); have Hp := Lib.hid hp; clear hp; clear ht_p k_p _t tk_p) | (have _t := t8; refine wpList_store_blk rfl 89 (.tmp 4) (.tmp 96) rfl w.heap.size 89 _ #[.int .i64 1, .string (mName p), .int .i64 q, .int .i64 0, .int .i64 0, .int .i64 0, .string ⟨#[]⟩, .slice none 0 0] rfl rfl Bq.out rfl (by kernel_rfl) (by simp [Value.oneCell']) ?_; intro wz bz kz sz; have BZ := Lib.hid bz; have KZ := Lib.hid kz; clear bz kz sz; go_frame; clear _t t8))
      have GX := Lib.hid (show GotX 0 wz w.heap.size (.agg #[.int .i64 1, .string (mName p), .int .i64 q, .int .i64 0, .int .i64 0, .int .i64 0, .string ⟨#[]⟩, .slice none 0 0]) from GotX.leaf _ _ _ 1 q 0 0 0 (mName p) ⟨#[]⟩ (mName_size p) (by decide))
      have TT := Lib.hid (show TapeAt wz g (m + 8) from (Tq.out.far (S := one w.heap.size) KZ.out (fun b e => by cases e; exact GL.out)).mono (by omega))
      have KK := Lib.hid (show Keep (one g) w wz from Kq.out.own KZ.out (Nat.le_refl _))
      try simp only [Exit.inBlock, Exit.then]
      refine bodyPost_ret (v := .agg #[.int .i64 1, .string (mName p), .int .i64 q, .int .i64 0, .int .i64 0, .int .i64 0, .string ⟨#[]⟩, .slice none 0 0]) (results_cell Tryz.results29 rfl (run_loadVar_blk BZ.out Tryz.underlying89 rfl (by kernel_rfl))) rfl ?_
      exact ⟨_, rfl, GX.out, TT.out, KK.out⟩

  · have g3 : (3 : Int) < r := by omega
    clear hr h3
    have tk_s : True := trivial
    go_upto_region 4 with (have _t := tk_s; go_at_call 8; refine (nextN g _ 3 w1 Tr.out (by decide) (by decide) (by have := MM.out; omega)).mono ?_; rintro e w2 ⟨s, rfl, hs, ht_s, k_s⟩; have Ts := Lib.hid ht_s; have Bs := Lib.hid (Br.out.keep k_s (fun e => GN.out (by unfold one at e; first | exact e | exact e.symm))); have Ks := Lib.hid (Kr.out.trans k_s); clear ht_s k_s _t tk_s)
    have f0 : ((1 : Int) + s == 0) = false := beq_eq_false_iff_ne.2 (by omega)
    have f4 : ((1 : Int) + s == 4) = false := beq_eq_false_iff_ne.2 (by omega)
    have f5 : ((1 : Int) + s == 5) = false := beq_eq_false_iff_ne.2 (by omega)
    have f6 : ((1 : Int) + s == 6) = false := beq_eq_false_iff_ne.2 (by omega)
    have f7 : ((1 : Int) + s == 7) = false := beq_eq_false_iff_ne.2 (by omega)
    have t8 : True := trivial
    have tk_q : True := trivial
    have tk_n : True := trivial
    have tk_p : True := trivial
    go_wp2_with (first | (have _t := tk_q; go_at_call 8; refine (nextN g _ 8 wp Tp.out (by decide) (by decide) (by have := MM.out; omega)).mono ?_; rintro e wq ⟨q, rfl, hq, ht_q, k_q⟩; have Tq := Lib.hid ht_q; have Bq := Lib.hid (Bp.out.keep k_q (fun e => GN.out (by unfold one at e; first | exact e | exact e.symm))); have Kq := Lib.hid (Kp.out.trans k_q); have Hq := Lib.hid hq; clear hq; clear ht_q k_q _t tk_q) | (have _t := tk_n; go_at_call 58; refine (name_any p Hp.out wp).mono ?_; rintro e wn ⟨rfl, hwn⟩; subst wn; clear _t tk_n) | (have _t := tk_p; go_at_call 8; refine (nextN g _ 3 w2 Ts.out (by decide) (by decide) (by have := MM.out; omega)).mono ?_; rintro e wp ⟨p, rfl, hp, ht_p, k_p⟩; have Tp := Lib.hid ht_p; have Bp := Lib.hid (Bs.out.keep k_p (fun e => GN.out (by unfold one at e; first | exact e | exact e.symm))); have Kp := Lib.hid (Ks.out.trans k_p); have Hp := Lib.hid hp; clear hp; clear ht_p k_p _t tk_p) | (have _t := t8; refine wpList_store_blk rfl 89 (.tmp 4) (.tmp 96) rfl w.heap.size 89 _ #[.int .i64 1, .string (mName p), .int .i64 q, .int .i64 0, .int .i64 0, .int .i64 0, .string ⟨#[]⟩, .slice none 0 0] rfl rfl Bq.out rfl (by kernel_rfl) (by simp [Value.oneCell']) ?_; intro wz bz kz sz; have BZ := Lib.hid bz; have KZ := Lib.hid kz; clear bz kz sz; go_frame; clear _t t8))
    have GX := Lib.hid (show GotX 0 wz w.heap.size (.agg #[.int .i64 1, .string (mName p), .int .i64 q, .int .i64 0, .int .i64 0, .int .i64 0, .string ⟨#[]⟩, .slice none 0 0]) from GotX.leaf _ _ _ 1 q 0 0 0 (mName p) ⟨#[]⟩ (mName_size p) (by decide))
    have TT := Lib.hid (show TapeAt wz g (m + 8) from (Tq.out.far (S := one w.heap.size) KZ.out (fun b e => by cases e; exact GL.out)).mono (by omega))
    have KK := Lib.hid (show Keep (one g) w wz from Kq.out.own KZ.out (Nat.le_refl _))
    try simp only [Exit.inBlock, Exit.then]
    refine bodyPost_ret (v := .agg #[.int .i64 1, .string (mName p), .int .i64 q, .int .i64 0, .int .i64 0, .int .i64 0, .string ⟨#[]⟩, .slice none 0 0]) (results_cell Tryz.results29 rfl (run_loadVar_blk BZ.out Tryz.underlying89 rfl (by kernel_rfl))) rfl ?_
    exact ⟨_, rfl, GX.out, TT.out, KK.out⟩

end Go.Proofs.YtnefbeplgfdkkaaGreatDoor
/-
  The facts of the two regions of (*cutroomfilm.Tape).Expr that draw their order.
-/
namespace Go.Proofs.YtnefbeplgfdkkaaGreatDoor
open Go.RowKit

theorem GotX.low {dep lo : Nat} {w w' : World} {S : Nat → Prop} {v : Value} (h : GotX dep w lo v) (k : Keep S w w') (hS : ∀ b, S b → b < lo) : GotX dep w' lo v := by
  obtain ⟨ca, x, e, h1, h2, h3⟩ := h
  exact ⟨ca, x, e, h1, h2.low k hS, h3⟩
theorem GotX.lower {dep lo lo' : Nat} {w : World} {v : Value} (h : GotX dep w lo v) (hl : lo' ≤ lo) : GotX dep w lo' v := by
  obtain ⟨ca, x, e, h1, h2, h3⟩ := h
  exact ⟨ca, x, e, h1, h2.lower hl, h3⟩
/-- Region 17: operation 5 draws an expression. -/
def argCalm (wr : World) (g M D dep : Nat) : Calm where
  R := fun _ => Keep (one g)
  G := fun n y => Keep (one g) wr y ∧ TapeAt y g (M + (D + 1) * n)
  eff := [5]
  T := fun _ _ v y => GotX dep y wr.heap.size v
  anc := fun _ => []
  own := fun _ _ _ => False
theorem argCalm_good (wr : World) (g M D dep : Nat) (hg : g < wr.heap.size) : (argCalm wr g M D dep).Good where
  mono := fun n _ h => ⟨h.1, h.2.mono (by rw [Nat.mul_succ]; omega)⟩
  size := fun _ _ _ h => h.size
  stable := fun _ k _ _ w1 w2 _ _ h hR => GotX.low h hR (fun b e => by cases e; exact hg)
theorem argCalm_at {wr : World} {g M D dep : Nat} (x : (argCalm wr g M D dep).Sub) : Keep (one g) wr ((argCalm wr g M D dep).at_ x) := by
  obtain ⟨x, n, _, h⟩ := x
  exact h.1
theorem laid_second {c1 c2 c3 : Array Value} (h1 : c1.size = 8) (h2 : c2.size = 8) (h3 : c3.size = 8) : laid (c1 ++ c2) 8 c3.toList = c1 ++ c3 := by
  apply Array.ext_getElem?
  intro j
  rw [laid_get _ _ _ _ (by simp; omega)]
  by_cases hj : j < 8
  · rw [if_pos hj, Array.getElem?_append_left (by omega), Array.getElem?_append_left (by omega)]
  · rw [if_neg hj]
    by_cases hk : j < 8 + c3.toList.length
    · rw [if_pos hk, Array.getElem?_append_right (by omega), h1, Array.getElem?_toList]
    · rw [if_neg hk]
      have hk' : 16 ≤ j := by simpa [h3] using hk
      rw [Array.getElem?_eq_none (by simp; omega), Array.getElem?_eq_none (by simp; omega)]
/-- Region 22: a title (0, 2, 4), an expression (8), the slice that holds it (9). -/
def capCalm (wr : World) (g M D dep : Nat) : Calm where
  R := fun _ => Keep (one g)
  G := fun n y => Keep (one g) wr y ∧ TapeAt y g (M + (D + 1) * n)
  eff := [0, 2, 4, 8, 9]
  T := fun k vs v y => if k = 0 then madeT wr.heap.size 9 #[.string ⟨#[65]⟩, .string ⟨#[69, 78, 68, 32, 50]⟩] (fun a => .slice (some a) 2 2) v y else if k = 2 then (∃ r : Nat, v = .int .i64 r ∧ r < 2) else if k = 4 then (∃ x : ByteArray, v = .string x ∧ x.size ≤ 5) else if k = 8 then GotX dep y wr.heap.size v else (∃ b, wr.heap.size ≤ b ∧ v = .slice (some ⟨b, 0, none⟩) 1 1 ∧ Blk y b 89 (vs.flatMap fun v => v.cells.toList).toArray)
  anc := fun k => if k = 3 ∨ k = 4 then [0, 2] else []
  own := fun _ _ _ => False
theorem capCalm_good (wr : World) (g M D dep : Nat) (hg : g < wr.heap.size) : (capCalm wr g M D dep).Good where
  mono := fun n _ h => ⟨h.1, h.2.mono (by rw [Nat.mul_succ]; omega)⟩
  size := fun _ _ _ h => h.size
  stable := fun _ k _ v w1 w2 _ _ h hR => by
    have hS : ∀ b, one g b → b < wr.heap.size := fun b e => by cases e; exact hg
    simp only [capCalm] at h ⊢
    by_cases e0 : k = 0
    · rw [if_pos e0] at h ⊢; exact h.stable hR hS
    rw [if_neg e0] at h ⊢
    by_cases e2 : k = 2
    · rw [if_pos e2] at h ⊢; exact h
    rw [if_neg e2] at h ⊢
    by_cases e4 : k = 4
    · rw [if_pos e4] at h ⊢; exact h
    rw [if_neg e4] at h ⊢
    by_cases e8 : k = 8
    · rw [if_pos e8] at h ⊢; exact h.low hR hS
    rw [if_neg e8] at h ⊢
    obtain ⟨b, h1, h2, h3⟩ := h
    exact ⟨b, h1, h2, h3.keep hR (fun e => by have := hS b e; omega)⟩
end Go.Proofs.YtnefbeplgfdkkaaGreatDoor
