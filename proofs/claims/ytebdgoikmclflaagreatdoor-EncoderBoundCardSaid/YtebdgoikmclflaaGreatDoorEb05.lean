/-
  Rational numbers: the greatest common divisor, the magnitude, Valid; the reference's too.
-/
import Derived.Test.YtebdgoikmclflaaGreatDoorEb04
namespace Go.Proofs.YtebdgoikmclflaaGreatDoor
open Go.RowKit

/-- 1: which rational numbers are valid. -/
def ratOk (num den : Int) : Bool := decide (1 ≤ den) && decide (-9223372036854775807 ≤ num) && (Nat.gcd num.natAbs den.natAbs == 1)

theorem gcd_any (a b : Nat) (w : World) (hb : b < 18446744073709551616) (ha : a < 18446744073709551616) :
    Calls Tryz.prog 60 #[.int .u64 a, .int .u64 b] w fun e w' => e = .returned (.int .u64 (Nat.gcd a b)) ∧ Keep none_ w w' := by
  go_enter Tryz.func60, Tryz.ntmps60
  go_upto_region 1 with (fail)
  go_loopw [0, 1] (fun x y wr => ∃ c d : Nat, x = .int .u64 c ∧ y = .int .u64 d ∧ c < 18446744073709551616 ∧ d < 18446744073709551616 ∧ Nat.gcd c d = Nat.gcd a b ∧ Keep none_ w wr) (fun _ y _ => (intOf y).toNat)
  case atStart => exact ⟨a, b, rfl, rfl, ha, hb, rfl, Keep.refl _ _⟩
  case round =>
    obtain ⟨c, d, rfl, rfl, hc, hd, hg, hk⟩ := hrel
    by_cases h0 : d = 0
    · subst h0
      go_wp2_with fail
      go_ret
      rw [Nat.gcd_zero_right] at hg
      subst hg
      exact ⟨rfl, hk⟩
    · have h1 : (0 : Int) < d := by omega
      have h2 : (d : Int) ≠ 0 := by omega
      have h3 : ((d : Int) == 0) = false := by simp [h0]
      have h4 := Int.emod_nonneg (c : Int) h2
      have h5 := Int.emod_lt_of_pos (c : Int) h1
      go_wp2_with fail
      go_region
      go_wp2_with fail
      go_roundw
      case rel => exact ⟨d, c % d, rfl, by simp, hd, by omega, by rw [← hg, Nat.gcd_comm c d, Nat.gcd_rec d c, Nat.gcd_comm], hk.drew⟩
      case measure => simp [intOf]; omega
theorem gcdR_any (a b : Nat) (w : World) (hb : b < 18446744073709551616) (ha : a < 18446744073709551616) :
    Calls Tryz.prog 65 #[.int .u64 a, .int .u64 b] w fun e w' => e = .returned (.int .u64 (Nat.gcd a b)) ∧ Keep none_ w w' := by
  go_enter Tryz.func65, Tryz.ntmps65
  go_upto_region 1 with (fail)
  go_loopw [0, 1] (fun x y wr => ∃ c d : Nat, x = .int .u64 c ∧ y = .int .u64 d ∧ c < 18446744073709551616 ∧ d < 18446744073709551616 ∧ Nat.gcd c d = Nat.gcd a b ∧ Keep none_ w wr) (fun _ y _ => (intOf y).toNat)
  case atStart => exact ⟨a, b, rfl, rfl, ha, hb, rfl, Keep.refl _ _⟩
  case round =>
    obtain ⟨c, d, rfl, rfl, hc, hd, hg, hk⟩ := hrel
    by_cases h0 : d = 0
    · subst h0
      go_wp2_with fail
      go_ret
      rw [Nat.gcd_zero_right] at hg
      subst hg
      exact ⟨rfl, hk⟩
    · have h1 : (0 : Int) < d := by omega
      have h2 : (d : Int) ≠ 0 := by omega
      have h3 : ((d : Int) == 0) = false := by simp [h0]
      have h4 := Int.emod_nonneg (c : Int) h2
      have h5 := Int.emod_lt_of_pos (c : Int) h1
      go_wp2_with fail
      go_region
      go_wp2_with fail
      go_roundw
      case rel => exact ⟨d, c % d, rfl, by simp, hd, by omega, by rw [← hg, Nat.gcd_comm c d, Nat.gcd_rec d c, Nat.gcd_comm], hk.drew⟩
      case measure => simp [intOf]; omega
theorem mag_any (x : Int) (w : World) (hx : -9223372036854775807 ≤ x) (hx2 : x ≤ 9223372036854775807) :
    Calls Tryz.prog 61 #[.int .i64 x] w fun e w' => e = .returned (.int .u64 x.natAbs) ∧ Keep none_ w w' := by
  by_cases h : x < 0
  · go_enter Tryz.func61, Tryz.ntmps61
    go_wp2
    go_ret
    exact ⟨ret_int (by first | omega | (simp only [IntKind.wrap_u64]; omega)), Keep.refl _ _⟩
  · go_enter Tryz.func61, Tryz.ntmps61
    go_wp2
    go_ret
    exact ⟨ret_int (by omega), Keep.refl _ _⟩
theorem magR_any (x : Int) (w : World) (hx : -9223372036854775807 ≤ x) (hx2 : x ≤ 9223372036854775807) :
    Calls Tryz.prog 66 #[.int .i64 x] w fun e w' => e = .returned (.int .u64 x.natAbs) ∧ Keep none_ w w' := by
  by_cases h : x < 0
  · go_enter Tryz.func66, Tryz.ntmps66
    go_wp2
    go_ret
    exact ⟨ret_int (by first | omega | (simp only [IntKind.wrap_u64]; omega)), Keep.refl _ _⟩
  · go_enter Tryz.func66, Tryz.ntmps66
    go_wp2
    go_ret
    exact ⟨ret_int (by omega), Keep.refl _ _⟩

/-- The facts of Valid's two calls. -/
def ratCalm (wr : World) (num den : Int) : Calm where
  R := fun _ => Keep none_
  G := fun _ => Keep none_ wr
  eff := [11, 15]
  T := fun k _ v _ => v = .int .u64 (if k = 11 then num.natAbs else Nat.gcd num.natAbs den.natAbs)
  anc := fun _ => []
  own := fun _ _ _ => False
theorem ratCalm_good (wr : World) (num den : Int) : (ratCalm wr num den).Good := ⟨fun _ _ h => h, fun _ _ _ h => h.size, fun _ _ _ _ _ _ _ _ h _ => h⟩
theorem ratCalm_at {wr : World} {num den : Int} (x : (ratCalm wr num den).Sub) : Keep none_ wr ((ratCalm wr num den).at_ x) := by
  obtain ⟨x, n, _, h⟩ := x
  exact h

theorem ratValid_any (num den : Int) (w : World) (h1 : -9223372036854775808 ≤ num) (h2 : num ≤ 9223372036854775807) (h3 : den ≤ 9223372036854775807) :
    Calls Tryz.prog 26 #[.agg #[.int .i64 num, .int .i64 den]] w fun e w' => e = .returned (.bool (ratOk num den)) ∧ Keep none_ w w' := by
  obtain ⟨W0, hW0⟩ : ∃ W0, W0 = w.alloc (.cells #[.int .i64 num, .int .i64 den] 23) := ⟨_, rfl⟩
  have k0 : Keep none_ w W0 := hW0 ▸ (Keep.refl _ _).alloc _
  have b0 : Blk W0 w.heap.size 23 #[.int .i64 num, .int .i64 den] := hW0 ▸ Blk.new _ _ _
  have gd := ratCalm_good W0 num den
  have ne : Nonempty (ratCalm W0 num den).Sub := ⟨⟨W0, 0, Nat.zero_le _, Keep.refl _ _⟩⟩
  have x0 := fun x => (b0.keep (ratCalm_at (num := num) (den := den) x) (fun e => e)).cell 0
  have x1 := fun x => (b0.keep (ratCalm_at (num := num) (den := den) x) (fun e => e)).cell 1
  simp only [List.getElem?_toArray, List.getElem?_cons_zero, List.getElem?_cons_succ] at x0 x1
  by_cases hd : 1 ≤ den
  · obtain ⟨d, rfl⟩ := Int.eq_ofNat_of_zero_le (show 0 ≤ den by omega)
    by_cases hn : -9223372036854775807 ≤ num
    · have hn' : -9223372036854775808 < num := by omega
      have ans : ratOk num d = (((Nat.gcd num.natAbs d : Nat) : Int) == 1) := by
        rw [Bool.eq_iff_iff]
        simp [ratOk, hd, hn]
        omega
      go_enter Tryz.func26, Tryz.ntmps26
      go_wp2
      rw [← hW0]
      clear hW0
      refine wp_region_calm (ratCalm W0 num d) [0, 1, 2, 3, 4, 5, 6, 7, 8, 9, 10, 11, 12, 13, 14, 15, 16, 17] [18] 21 (by kernel_rfl) (by kernel_rfl) rfl gd (Keep.refl _ _).drew ?_
      simp only [pairs, List.filterMap_cons, List.filterMap_nil, List.getElem?_toArray, List.getElem?_cons_succ, List.getElem?_cons_zero, Option.map_some]
      repeat (refine Calm.walk_quiet ne rfl rfl rfl (fun K hK => ?_); go_big_quiet_op; refine hK _ ?_; clear hK K)
      refine Calm.walk_eff rfl rfl (fun n w1 _ hG _ => ?_) ?_
      · unfold gives
        go_simp
        refine (mag_any num w1 hn h2).mono ?_
        rintro e w2 ⟨rfl, hk⟩
        exact ⟨_, rfl, rfl, hk, Keep.trans (S := none_) hG hk, fun _ h => h.elim⟩
      rintro v w1 rfl
      clear w1
      go_frame
      repeat (refine Calm.walk_quiet ne rfl rfl rfl (fun K hK => ?_); go_big_quiet_op; refine hK _ ?_; clear hK K)
      refine Calm.walk_eff rfl rfl (fun n w1 _ hG _ => ?_) ?_
      · unfold gives
        go_simp
        refine (gcd_any num.natAbs d w1 (by omega) (by omega)).mono ?_
        rintro e w2 ⟨rfl, hk⟩
        exact ⟨_, rfl, rfl, hk, Keep.trans (S := none_) hG hk, fun _ h => h.elim⟩
      rintro v w1 rfl
      clear w1
      go_frame
      repeat (refine Calm.walk_quiet ne rfl rfl rfl (fun K hK => ?_); go_big_quiet_op; refine hK _ ?_; clear hK K)
      intro w2 hG _
      have hG' : Keep none_ W0 w2 := hG
      clear hG x0 x1 ne gd
      simp only [pickOps, List.filterMap_cons, List.filterMap_nil, List.getElem?_toArray, List.getElem?_cons_succ, List.getElem?_cons_zero]
      go_wp2_with fail
      go_ret
      exact ⟨by rw [ans]; rfl, k0.trans hG'⟩
    · have hn' : ¬ -9223372036854775808 < num := by omega
      have ans : ratOk num d = false := by simp [ratOk, hn]
      rw [ans]
      go_enter Tryz.func26, Tryz.ntmps26
      go_wp2
      rw [← hW0]
      clear hW0
      have hq : decide (-9223372036854775808 < num) = false := by simp; omega
      have hr : decide (-9223372036854775807 ≤ num) = false := by simp; omega
      refine wp_region_calm (ratCalm W0 num d) [0, 1, 2, 3, 4, 5, 6, 7, 8, 9, 10, 11, 12, 13, 14, 15, 16, 17] [18] 21 (by kernel_rfl) (by kernel_rfl) rfl gd (Keep.refl _ _).drew ?_
      simp only [pairs, List.filterMap_cons, List.filterMap_nil, List.getElem?_toArray, List.getElem?_cons_succ, List.getElem?_cons_zero, Option.map_some]
      repeat (first | (refine Calm.walk_skip rfl ?_; go_frame) | (refine Calm.walk_quiet ne rfl rfl rfl (fun K hK => ?_); go_big_quiet_op; refine hK _ ?_; clear hK K))
      intro w2 hG _
      have hG' : Keep none_ W0 w2 := hG
      clear hG x0 x1 ne gd
      simp only [pickOps, List.filterMap_cons, List.filterMap_nil, List.getElem?_toArray, List.getElem?_cons_succ, List.getElem?_cons_zero]
      go_wp2_with fail
      go_ret
      exact ⟨rfl, k0.trans hG'⟩
  · have ans : ratOk num den = false := by simp [ratOk, hd]
    rw [ans]
    go_enter Tryz.func26, Tryz.ntmps26
    go_wp2
    rw [← hW0]
    clear hW0
    have hq : decide (1 ≤ den) = false := by simp; omega
    refine wp_region_calm (ratCalm W0 num den) [0, 1, 2, 3, 4, 5, 6, 7, 8, 9, 10, 11, 12, 13, 14, 15, 16, 17] [18] 21 (by kernel_rfl) (by kernel_rfl) rfl gd (Keep.refl _ _).drew ?_
    simp only [pairs, List.filterMap_cons, List.filterMap_nil, List.getElem?_toArray, List.getElem?_cons_succ, List.getElem?_cons_zero, Option.map_some]
    repeat (first | (refine Calm.walk_skip rfl ?_; go_frame) | (refine Calm.walk_quiet ne rfl rfl rfl (fun K hK => ?_); go_big_quiet_op; refine hK _ ?_; clear hK K))
    intro w2 hG _
    have hG' : Keep none_ W0 w2 := hG
    clear hG x0 x1 ne gd
    simp only [pickOps, List.filterMap_cons, List.filterMap_nil, List.getElem?_toArray, List.getElem?_cons_succ, List.getElem?_cons_zero]
    go_wp2_with fail
    go_ret
    exact ⟨rfl, k0.trans hG'⟩
theorem ratValidR_any (num den : Int) (w : World) (h1 : -9223372036854775808 ≤ num) (h2 : num ≤ 9223372036854775807) (h3 : den ≤ 9223372036854775807) :
    Calls Tryz.prog 32 #[.agg #[.int .i64 num, .int .i64 den]] w fun e w' => e = .returned (.bool (ratOk num den)) ∧ Keep none_ w w' := by
  obtain ⟨W0, hW0⟩ : ∃ W0, W0 = w.alloc (.cells #[.int .i64 num, .int .i64 den] 23) := ⟨_, rfl⟩
  have k0 : Keep none_ w W0 := hW0 ▸ (Keep.refl _ _).alloc _
  have b0 : Blk W0 w.heap.size 23 #[.int .i64 num, .int .i64 den] := hW0 ▸ Blk.new _ _ _
  have gd := ratCalm_good W0 num den
  have ne : Nonempty (ratCalm W0 num den).Sub := ⟨⟨W0, 0, Nat.zero_le _, Keep.refl _ _⟩⟩
  have x0 := fun x => (b0.keep (ratCalm_at (num := num) (den := den) x) (fun e => e)).cell 0
  have x1 := fun x => (b0.keep (ratCalm_at (num := num) (den := den) x) (fun e => e)).cell 1
  simp only [List.getElem?_toArray, List.getElem?_cons_zero, List.getElem?_cons_succ] at x0 x1
  by_cases hd : 1 ≤ den
  · obtain ⟨d, rfl⟩ := Int.eq_ofNat_of_zero_le (show 0 ≤ den by omega)
    by_cases hn : -9223372036854775807 ≤ num
    · have hn' : -9223372036854775808 < num := by omega
      have ans : ratOk num d = (((Nat.gcd num.natAbs d : Nat) : Int) == 1) := by
        rw [Bool.eq_iff_iff]
        simp [ratOk, hd, hn]
        omega
      go_enter Tryz.func32, Tryz.ntmps32
      go_wp2
      rw [← hW0]
      clear hW0
      refine wp_region_calm (ratCalm W0 num d) [0, 1, 2, 3, 4, 5, 6, 7, 8, 9, 10, 11, 12, 13, 14, 15, 16, 17] [18] 21 (by kernel_rfl) (by kernel_rfl) rfl gd (Keep.refl _ _).drew ?_
      simp only [pairs, List.filterMap_cons, List.filterMap_nil, List.getElem?_toArray, List.getElem?_cons_succ, List.getElem?_cons_zero, Option.map_some]
      repeat (refine Calm.walk_quiet ne rfl rfl rfl (fun K hK => ?_); go_big_quiet_op; refine hK _ ?_; clear hK K)
      refine Calm.walk_eff rfl rfl (fun n w1 _ hG _ => ?_) ?_
      · unfold gives
        go_simp
        refine (magR_any num w1 hn h2).mono ?_
        rintro e w2 ⟨rfl, hk⟩
        exact ⟨_, rfl, rfl, hk, Keep.trans (S := none_) hG hk, fun _ h => h.elim⟩
      rintro v w1 rfl
      clear w1
      go_frame
      repeat (refine Calm.walk_quiet ne rfl rfl rfl (fun K hK => ?_); go_big_quiet_op; refine hK _ ?_; clear hK K)
      refine Calm.walk_eff rfl rfl (fun n w1 _ hG _ => ?_) ?_
      · unfold gives
        go_simp
        refine (gcdR_any num.natAbs d w1 (by omega) (by omega)).mono ?_
        rintro e w2 ⟨rfl, hk⟩
        exact ⟨_, rfl, rfl, hk, Keep.trans (S := none_) hG hk, fun _ h => h.elim⟩
      rintro v w1 rfl
      clear w1
      go_frame
      repeat (refine Calm.walk_quiet ne rfl rfl rfl (fun K hK => ?_); go_big_quiet_op; refine hK _ ?_; clear hK K)
      intro w2 hG _
      have hG' : Keep none_ W0 w2 := hG
      clear hG x0 x1 ne gd
      simp only [pickOps, List.filterMap_cons, List.filterMap_nil, List.getElem?_toArray, List.getElem?_cons_succ, List.getElem?_cons_zero]
      go_wp2_with fail
      go_ret
      exact ⟨by rw [ans]; rfl, k0.trans hG'⟩
    · have hn' : ¬ -9223372036854775808 < num := by omega
      have ans : ratOk num d = false := by simp [ratOk, hn]
      rw [ans]
      go_enter Tryz.func32, Tryz.ntmps32
      go_wp2
      rw [← hW0]
      clear hW0
      have hq : decide (-9223372036854775808 < num) = false := by simp; omega
      have hr : decide (-9223372036854775807 ≤ num) = false := by simp; omega
      refine wp_region_calm (ratCalm W0 num d) [0, 1, 2, 3, 4, 5, 6, 7, 8, 9, 10, 11, 12, 13, 14, 15, 16, 17] [18] 21 (by kernel_rfl) (by kernel_rfl) rfl gd (Keep.refl _ _).drew ?_
      simp only [pairs, List.filterMap_cons, List.filterMap_nil, List.getElem?_toArray, List.getElem?_cons_succ, List.getElem?_cons_zero, Option.map_some]
      repeat (first | (refine Calm.walk_skip rfl ?_; go_frame) | (refine Calm.walk_quiet ne rfl rfl rfl (fun K hK => ?_); go_big_quiet_op; refine hK _ ?_; clear hK K))
      intro w2 hG _
      have hG' : Keep none_ W0 w2 := hG
      clear hG x0 x1 ne gd
      simp only [pickOps, List.filterMap_cons, List.filterMap_nil, List.getElem?_toArray, List.getElem?_cons_succ, List.getElem?_cons_zero]
      go_wp2_with fail
      go_ret
      exact ⟨rfl, k0.trans hG'⟩
  · have ans : ratOk num den = false := by simp [ratOk, hd]
    rw [ans]
    go_enter Tryz.func32, Tryz.ntmps32
    go_wp2
    rw [← hW0]
    clear hW0
    have hq : decide (1 ≤ den) = false := by simp; omega
    refine wp_region_calm (ratCalm W0 num den) [0, 1, 2, 3, 4, 5, 6, 7, 8, 9, 10, 11, 12, 13, 14, 15, 16, 17] [18] 21 (by kernel_rfl) (by kernel_rfl) rfl gd (Keep.refl _ _).drew ?_
    simp only [pairs, List.filterMap_cons, List.filterMap_nil, List.getElem?_toArray, List.getElem?_cons_succ, List.getElem?_cons_zero, Option.map_some]
    repeat (first | (refine Calm.walk_skip rfl ?_; go_frame) | (refine Calm.walk_quiet ne rfl rfl rfl (fun K hK => ?_); go_big_quiet_op; refine hK _ ?_; clear hK K))
    intro w2 hG _
    have hG' : Keep none_ W0 w2 := hG
    clear hG x0 x1 ne gd
    simp only [pickOps, List.filterMap_cons, List.filterMap_nil, List.getElem?_toArray, List.getElem?_cons_succ, List.getElem?_cons_zero]
    go_wp2_with fail
    go_ret
    exact ⟨rfl, k0.trans hG'⟩
end Go.Proofs.YtebdgoikmclflaaGreatDoor
