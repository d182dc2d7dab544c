/-
  Rational numbers: the greatest common divisor, the magnitude, Valid; the divisor of the reference's expressions.
-/
import Derived.Test.YtnefbeplgfdkkaaGreatDoorJb03
import Derived.Test.YtnefbeplgfdkkaaGreatDoorJb14
namespace Go.Proofs.YtnefbeplgfdkkaaGreatDoor
open Go.RowKit

/-- 1: which rational numbers are valid. -/
def ratOk (num den : Int) : Bool := decide (1 ≤ den) && decide (-9223372036854775807 ≤ num) && (Nat.gcd num.natAbs den.natAbs == 1)

theorem gcd_any (a b : Nat) (w : World) (hb : b < 18446744073709551616) (ha : a < 18446744073709551616) :
    Calls Tryz.prog 132 #[.int .u64 a, .int .u64 b] w fun e w' => e = .returned (.int .u64 (Nat.gcd a b)) ∧ Keep none_ w w' := by
  go_enter Tryz.func132, Tryz.ntmps132
  go_upto_region 1 with (fail)
  go_loopw [0, 1] (fun x y wr => ∃ c d : Nat, x = .int .u64 c ∧ y = .int .u64 d ∧ c < 18446744073709551616 ∧ d < 18446744073709551616 ∧ Nat.gcd c d = Nat.gcd a b ∧ Keep none_ w wr) (fun _ y _ => (intOf y).toNat)
  case atStart => exact ⟨a, b, rfl, rfl, ha, hb, rfl, Keep.refl _ _⟩
  case round =>
    obtain ⟨c, d, rfl, rfl, hc, hd, hg, hk⟩ := hrel
    by_cases h0 : d = 0
    · subst h0
      go_wp2_with fail
      go_ret
      rw [Nat.gcd_zero_right] at hg
      subst hg
      exact ⟨rfl, hk⟩
    · have h1 : (0 : Int) < d := by omega
      have h2 : (d : Int) ≠ 0 := by omega
      have h3 : ((d : Int) == 0) = false := by simp [h0]
      have h4 := Int.emod_nonneg (c : Int) h2
      have h5 := Int.emod_lt_of_pos (c : Int) h1
      go_wp2_with fail
      go_region
      go_wp2_with fail
      go_roundw
      case rel => exact ⟨d, c % d, rfl, by simp, hd, by omega, by rw [← hg, Nat.gcd_comm c d, Nat.gcd_rec d c, Nat.gcd_comm], hk.drew⟩
      case measure => simp [intOf]; omega
theorem mag_any (x : Int) (w : World) (hx : -9223372036854775807 ≤ x) (hx2 : x ≤ 9223372036854775807) :
    Calls Tryz.prog 133 #[.int .i64 x] w fun e w' => e = .returned (.int .u64 x.natAbs) ∧ Keep none_ w w' := by
  by_cases h : x < 0
  · go_enter Tryz.func133, Tryz.ntmps133
    go_wp2
    go_ret
    exact ⟨ret_int (by first | omega | (simp only [IntKind.wrap_u64]; omega)), Keep.refl _ _⟩
  · go_enter Tryz.func133, Tryz.ntmps133
    go_wp2
    go_ret
    exact ⟨ret_int (by omega), Keep.refl _ _⟩

/-- The facts of Valid's two calls. -/
def ratCalm (wr : World) (num den : Int) : Calm where
  R := fun _ => Keep none_
  G := fun _ => Keep none_ wr
  eff := [11, 15]
  T := fun k _ v _ => v = .int .u64 (if k = 11 then num.natAbs else Nat.gcd num.natAbs den.natAbs)
  anc := fun _ => []
  own := fun _ _ _ => False
theorem ratCalm_good (wr : World) (num den : Int) : (ratCalm wr num den).Good := ⟨fun _ _ h => h, fun _ _ _ h => h.size, fun _ _ _ _ _ _ _ _ h _ => h⟩
theorem ratCalm_at {wr : World} {num den : Int} (x : (ratCalm wr num den).Sub) : Keep none_ wr ((ratCalm wr num den).at_ x) := by
  obtain ⟨x, n, _, h⟩ := x
  exact h

theorem ratValid_any (num den : Int) (w : World) (h1 : -9223372036854775808 ≤ num) (h2 : num ≤ 9223372036854775807) (h3 : den ≤ 9223372036854775807) :
    Calls Tryz.prog 108 #[.agg #[.int .i64 num, .int .i64 den]] w fun e w' => e = .returned (.bool (ratOk num den)) ∧ Keep none_ w w' := by
  obtain ⟨W0, hW0⟩ : ∃ W0, W0 = w.alloc (.cells #[.int .i64 num, .int .i64 den] 59) := ⟨_, rfl⟩
  have k0 : Keep none_ w W0 := hW0 ▸ (Keep.refl _ _).alloc _
  have b0 : Blk W0 w.heap.size 59 #[.int .i64 num, .int .i64 den] := hW0 ▸ Blk.new _ _ _
  have gd := ratCalm_good W0 num den
  have ne : Nonempty (ratCalm W0 num den).Sub := ⟨⟨W0, 0, Nat.zero_le _, Keep.refl _ _⟩⟩
  have x0 := fun x => (b0.keep (ratCalm_at (num := num) (den := den) x) (fun e => e)).cell 0
  have x1 := fun x => (b0.keep (ratCalm_at (num := num) (den := den) x) (fun e => e)).cell 1
  simp only [List.getElem?_toArray, List.getElem?_cons_zero, List.getElem?_cons_succ] at x0 x1
  by_cases hd : 1 ≤ den
  · obtain ⟨d, rfl⟩ := Int.eq_ofNat_of_zero_le (show 0 ≤ den by omega)
    by_cases hn : -9223372036854775807 ≤ num
    · have hn' : -9223372036854775808 < num := by omega
      have ans : ratOk num d = (((Nat.gcd num.natAbs d : Nat) : Int) == 1) := by
        rw [Bool.eq_iff_iff]
        simp [ratOk, hd, hn]
        omega
      go_enter Tryz.func108, Tryz.ntmps108
      go_wp2
      rw [← hW0]
      clear hW0
      refine wp_region_calm (ratCalm W0 num d) [0, 1, 2, 3, 4, 5, 6, 7, 8, 9, 10, 11, 12, 13, 14, 15, 16, 17] [18] 21 (by kernel_rfl) (by kernel_rfl) rfl gd (Keep.refl _ _).drew ?_
      simp only [pairs, List.filterMap_cons, List.filterMap_nil, List.getElem?_toArray, List.getElem?_cons_succ, List.getElem?_cons_zero, Option.map_some]
      repeat (refine Calm.walk_quiet ne rfl rfl rfl (fun K hK => ?_); go_big_quiet_op; refine hK _ ?_; clear hK K)
      refine Calm.walk_eff rfl rfl (fun n w1 _ hG _ => ?_) ?_
      · unfold gives
        go_simp
        refine (mag_any num w1 hn h2).mono ?_
        rintro e w2 ⟨rfl, hk⟩
        exact ⟨_, rfl, rfl, hk, Keep.trans (S := none_) hG hk, fun _ h => h.elim⟩
      rintro v w1 rfl
      clear w1
      go_frame
      repeat (refine Calm.walk_quiet ne rfl rfl rfl (fun K hK => ?_); go_big_quiet_op; refine hK _ ?_; clear hK K)
      refine Calm.walk_eff rfl rfl (fun n w1 _ hG _ => ?_) ?_
      · unfold gives
        go_simp
        refine (gcd_any num.natAbs d w1 (by omega) (by omega)).mono ?_
        rintro e w2 ⟨rfl, hk⟩
        exact ⟨_, rfl, rfl, hk, Keep.trans (S := none_) hG hk, fun _ h => h.elim⟩
      rintro v w1 rfl
      clear w1
      go_frame
      repeat (refine Calm.walk_quiet ne rfl rfl rfl (fun K hK => ?_); go_big_quiet_op; refine hK _ ?_; clear hK K)
      intro w2 hG _
      have hG' : Keep none_ W0 w2 := hG
      clear hG x0 x1 ne gd
      simp only [pickOps, List.filterMap_cons, List.filterMap_nil, List.getElem?_toArray, List.getElem?_cons_succ, List.getElem?_cons_zero]
      go_wp2_with fail
      go_ret
      exact ⟨by rw [ans]; rfl, k0.trans hG'⟩
    · have hn' : ¬ -9223372036854775808 < num := by omega
      have ans : ratOk num d = false := by simp [ratOk, hn]
      rw [ans]
      go_enter Tryz.func108, Tryz.ntmps108
      go_wp2
      rw [← hW0]
      clear hW0
      have hq : decide (-9223372036854775808 < num) = false := by simp; omega
      have hr : decide (-9223372036854775807 ≤ num) = false := by simp; omega
      refine wp_region_calm (ratCalm W0 num d) [0, 1, 2, 3, 4, 5, 6, 7, 8, 9, 10, 11, 12, 13, 14, 15, 16, 17] [18] 21 (by kernel_rfl) (by kernel_rfl) rfl gd (Keep.refl _ _).drew ?_
      simp only [pairs, List.filterMap_cons, List.filterMap_nil, List.getElem?_toArray, List.getElem?_cons_succ, List.getElem?_cons_zero, Option.map_some]
      repeat (first | (refine Calm.walk_skip rfl ?_; go_frame) | (refine Calm.walk_quiet ne rfl rfl rfl (fun K hK => ?_); go_big_quiet_op; refine hK _ ?_; clear hK K))
      intro w2 hG _
      have hG' : Keep none_ W0 w2 := hG
      clear hG x0 x1 ne gd
      simp only [pickOps, List.filterMap_cons, List.filterMap_nil, List.getElem?_toArray, List.getElem?_cons_succ, List.getElem?_cons_zero]
      go_wp2_with fail
      go_ret
      exact ⟨rfl, k0.trans hG'⟩
  · have ans : ratOk num den = false := by simp [ratOk, hd]
    rw [ans]
    go_enter Tryz.func108, Tryz.ntmps108
    go_wp2
    rw [← hW0]
    clear hW0
    have hq : decide (1 ≤ den) = false := by simp; omega
    refine wp_region_calm (ratCalm W0 num den) [0, 1, 2, 3, 4, 5, 6, 7, 8, 9, 10, 11, 12, 13, 14, 15, 16, 17] [18] 21 (by kernel_rfl) (by kernel_rfl) rfl gd (Keep.refl _ _).drew ?_
    simp only [pairs, List.filterMap_cons, List.filterMap_nil, List.getElem?_toArray, List.getElem?_cons_succ, List.getElem?_cons_zero, Option.map_some]
    repeat (first | (refine Calm.walk_skip rfl ?_; go_frame) | (refine Calm.walk_quiet ne rfl rfl rfl (fun K hK => ?_); go_big_quiet_op; refine hK _ ?_; clear hK K))
    intro w2 hG _
    have hG' : Keep none_ W0 w2 := hG
    clear hG x0 x1 ne gd
    simp only [pickOps, List.filterMap_cons, List.filterMap_nil, List.getElem?_toArray, List.getElem?_cons_succ, List.getElem?_cons_zero]
    go_wp2_with fail
    go_ret
    exact ⟨rfl, k0.trans hG'⟩

theorem rgcd_any (a b : Nat) (w : World) (hb : b ≤ 9223372036854775807) (ha : a ≤ 9223372036854775807) :
    Calls Tryz.prog 91 #[.int .i64 a, .int .i64 b] w fun e w' => e = .returned (.int .i64 (Nat.gcd a b)) ∧ Keep none_ w w' := by
  have ha0 : ¬ (a : Int) < 0 := by omega
  go_enter Tryz.func91, Tryz.ntmps91
  go_wp2_with (fail)
  go_loopw [0, 1] (fun x y wr => ∃ c d : Nat, x = .int .i64 c ∧ y = .int .i64 d ∧ c ≤ 9223372036854775807 ∧ d ≤ 9223372036854775807 ∧ Nat.gcd c d = Nat.gcd a b ∧ Keep none_ w wr) (fun _ y _ => (intOf y).toNat)
  case atStart => exact ⟨a, b, rfl, rfl, ha, hb, rfl, Keep.refl _ _⟩
  case round =>
    obtain ⟨c, d, rfl, rfl, hc, hd, hg, hk⟩ := hrel
    by_cases h0 : d = 0
    · subst h0
      go_wp2_with fail
      go_ret
      rw [Nat.gcd_zero_right] at hg
      subst hg
      exact ⟨rfl, hk⟩
    · have h1 : (0 : Int) < d := by omega
      have h2 : (d : Int) ≠ 0 := by omega
      have h3 : ((d : Int) == 0) = false := by simp [h0]
      have h6 : (c : Int).tmod d = ((c % d : Nat) : Int) := by rw [Int.ofNat_tmod]
      have h7 : c % d < d := Nat.mod_lt _ (by omega)
      go_wp2_with fail
      go_region
      go_wp2_with fail
      go_roundw
      case rel => exact ⟨d, c % d, rfl, by first | exact congrArg _ h6 | simp [h6], hd, by omega, by rw [← hg, Nat.gcd_comm c d, Nat.gcd_rec d c, Nat.gcd_comm], hk.drew⟩
      case measure => simp [intOf]; omega
end Go.Proofs.YtnefbeplgfdkkaaGreatDoor
/-
  Titles and shares of expressions: denote.validText, cutroomref23.ValidLine, denote.validShare, cutroomref25.share.
-/
namespace Go.Proofs.YtnefbeplgfdkkaaGreatDoor
open Go.RowKit

/-- An expression: its numbers, its texts, its arguments. -/
inductive Ex where
  | mk (op : Int) (media : ByteArray) (frame num den param : Int) (text : ByteArray) (args : List Ex)
def Ex.op : Ex → Int | .mk o .. => o
def Ex.media : Ex → ByteArray | .mk _ m .. => m
def Ex.frame : Ex → Int | .mk _ _ f .. => f
def Ex.num : Ex → Int | .mk _ _ _ n .. => n
def Ex.den : Ex → Int | .mk _ _ _ _ d .. => d
def Ex.param : Ex → Int | .mk _ _ _ _ _ p .. => p
def Ex.text : Ex → ByteArray | .mk _ _ _ _ _ _ t _ => t
def Ex.args : Ex → List Ex | .mk _ _ _ _ _ _ _ l => l

/-- 25.1: the bytes of a title. -/
def txByte (c : UInt8) : Bool := decide (32 ≤ c.toNat) && decide (c.toNat ≤ 126)
def textOk (s : ByteArray) : Bool := decide (1 ≤ s.size) && decide (s.size ≤ 64) && s.data.toList.all txByte
def shareOk (num den : Int) : Bool := decide (0 < num) && decide (num < den) && decide (den ≤ 2147483648) && (Nat.gcd num.natAbs den.natAbs == 1)

set_option maxHeartbeats 1000000 in
theorem vline_any (s : ByteArray) (hs : Szd s) (w : World) : Calls Tryz.prog 65 #[.string s] w fun e w' => e = .returned (.bool (textOk s)) ∧ w = w' := by
  unfold Szd maxLen at hs
  go_enter Tryz.func65, Tryz.ntmps65
  go_wp2
  go_loop [3] (fun i => ∃ k : Nat, k ≤ s.size ∧ i = .int .i64 k ∧ (s.data.toList.take k).all txByte = true) (fun i => s.size - (intOf i).toNat)
  case atStart => exact ⟨0, Nat.zero_le _, rfl, rfl⟩
  case round =>
    obtain ⟨k, hk, rfl, hall⟩ := hrel
    by_cases hlt : k < s.size
    · have hsn : (s.data.toList.take (k + 1)).all txByte = txByte s[k] := by rw [take_snoc s k hlt, List.all_append, hall]; simp
      have HS := Lib.hid hsn
      have HA := Lib.hid hall
      clear hsn hall
      generalize hc : s[k] = c at HS
      go_wp2
      all_goals first
        | (go_round
           case rel => exact ⟨k + 1, by omega, by go_num, by rw [HS.out]; unfold txByte; simp at *; omega⟩
           case measure => simp [intOf]; omega)
        | (go_ret
           exact ⟨ret_bool (by unfold textOk; rw [all_part txByte _ (k + 1) (by rw [HS.out]; unfold txByte; simp at *; omega)]; simp), rfl⟩)
    · obtain rfl : k = s.size := by omega
      have HA := Lib.hid (show s.data.toList.all txByte = true by rw [List.take_of_length_le (by simp)] at hall; exact hall)
      clear hall
      by_cases h1 : 1 ≤ s.size
      · by_cases h2 : s.size ≤ 64
        · have h1' : decide ((1 : Int) ≤ s.size) = true := decide_eq_true (by omega)
          have h2' : decide ((s.size : Int) ≤ 64) = true := decide_eq_true (by omega)
          go_wp2
          go_ret
          exact ⟨ret_bool (by unfold textOk; rw [HA.out]; simp; omega), rfl⟩
        · have h1' : decide ((1 : Int) ≤ s.size) = true := decide_eq_true (by omega)
          have h2' : decide ((s.size : Int) ≤ 64) = false := decide_eq_false (by omega)
          go_wp2
          go_ret
          exact ⟨ret_bool (by unfold textOk; rw [HA.out]; simp; omega), rfl⟩
      · have h1' : decide ((1 : Int) ≤ s.size) = false := decide_eq_false (by omega)
        go_wp2
        go_ret
        exact ⟨ret_bool (by unfold textOk; rw [HA.out]; simp; omega), rfl⟩

set_option maxHeartbeats 1000000 in
theorem vtext_any (s : ByteArray) (hs : Szd s) (w : World) : Calls Tryz.prog 87 #[.string s] w fun e w' => e = .returned (.bool (textOk s)) ∧ w = w' := by
  unfold Szd maxLen at hs
  by_cases h1 : 1 ≤ s.size
  · have h1' : decide ((s.size : Int) < 1) = false := decide_eq_false (by omega)
    by_cases h2 : s.size ≤ 64
    · have h2' : decide ((64 : Int) < s.size) = false := decide_eq_false (by omega)
      go_enter Tryz.func87, Tryz.ntmps87
      go_wp2
      go_loop [14] (fun i => ∃ k : Nat, k ≤ s.size ∧ i = .int .i64 k ∧ (s.data.toList.take k).all txByte = true) (fun i => s.size - (intOf i).toNat)
      case atStart => exact ⟨0, Nat.zero_le _, rfl, rfl⟩
      case round =>
        obtain ⟨k, hk, rfl, hall⟩ := hrel
        by_cases hlt : k < s.size
        · have hsn : (s.data.toList.take (k + 1)).all txByte = txByte s[k] := by rw [take_snoc s k hlt, List.all_append, hall]; simp
          have HS := Lib.hid hsn
          have HA := Lib.hid hall
          clear hsn hall
          generalize hc : s[k] = c at HS
          go_wp2
          all_goals first
            | (go_round
               case rel => exact ⟨k + 1, by omega, by go_num, by rw [HS.out]; unfold txByte; simp at *; omega⟩
               case measure => simp [intOf]; omega)
            | (go_ret
               exact ⟨ret_bool (by unfold textOk; rw [all_part txByte _ (k + 1) (by rw [HS.out]; unfold txByte; simp at *; omega)]; simp), rfl⟩)
        · obtain rfl : k = s.size := by omega
          have HA := Lib.hid (show s.data.toList.all txByte = true by rw [List.take_of_length_le (by simp)] at hall; exact hall)
          clear hall
          go_wp2
          go_ret
          exact ⟨ret_bool (by unfold textOk; rw [HA.out]; simp; omega), rfl⟩
    · have h2' : decide ((64 : Int) < s.size) = true := decide_eq_true (by omega)
      go_enter Tryz.func87, Tryz.ntmps87
      go_wp2
      go_ret
      exact ⟨ret_bool (by unfold textOk; simp; omega), rfl⟩
  · have h1' : decide ((s.size : Int) < 1) = true := decide_eq_true (by omega)
    go_enter Tryz.func87, Tryz.ntmps87
    go_wp2
    go_ret
    exact ⟨ret_bool (by unfold textOk; simp; omega), rfl⟩

set_option maxRecDepth 100000 in
set_option maxHeartbeats 1000000 in
theorem vshare_any (x : Ex) (vl : Value) (w : World) : Calls Tryz.prog 86 #[.agg #[.int .i64 x.op, .string x.media, .int .i64 x.frame, .int .i64 x.num, .int .i64 x.den, .int .i64 x.param, .string x.text, vl]] w fun e w' => e = .returned (.bool (shareOk x.num x.den)) ∧ Keep none_ w w' := by
  obtain ⟨op, md, fr, num, den, pr, tx, xs⟩ := x
  simp only [Ex.op, Ex.media, Ex.frame, Ex.num, Ex.den, Ex.param, Ex.text]
  obtain ⟨W0, hW0⟩ : ∃ W0, W0 = w.alloc (.cells #[.int .i64 op, .string md, .int .i64 fr, .int .i64 num, .int .i64 den, .int .i64 pr, .string tx, vl] 89) := ⟨_, rfl⟩
  have k0 : Keep none_ w W0 := hW0 ▸ (Keep.refl _ _).alloc _
  have b0 : Blk W0 w.heap.size 89 #[.int .i64 op, .string md, .int .i64 fr, .int .i64 num, .int .i64 den, .int .i64 pr, .string tx, vl] := hW0 ▸ Blk.new _ _ _
  have d3 : W0.cell? ⟨w.heap.size, 3, none⟩ = some (.int .i64 num) := b0.cell 3
  have d4 : W0.cell? ⟨w.heap.size, 4, none⟩ = some (.int .i64 den) := b0.cell 4
  clear b0
  go_enter Tryz.func86, Tryz.ntmps86
  go_upto_region 1 with (fail)
  rw [← hW0]
  clear hW0
  by_cases h1 : 0 < num
  · by_cases h2 : num < den
    · by_cases h3 : den ≤ 2147483648
      · obtain ⟨a, rfl⟩ := Int.eq_ofNat_of_zero_le (show 0 ≤ num by omega)
        obtain ⟨b, rfl⟩ := Int.eq_ofNat_of_zero_le (show 0 ≤ den by omega)
        have rgcd := Lib.hid (rgcd_any a b W0 (by omega) (by omega))
        have rval := Lib.hid (ratValid_any (a : Int) (b : Int) W0 (by omega) (by omega) (by omega))
        have ANS := Lib.hid (show shareOk a b = (Nat.gcd a b == 1) by unfold shareOk; rw [decide_eq_true h1, decide_eq_true h2, decide_eq_true h3]; rfl)
        have ANR := Lib.hid (show ratOk a b = (Nat.gcd a b == 1) by simp only [ratOk, Int.natAbs_natCast]; rw [decide_eq_true (show (1 : Int) ≤ b by omega), decide_eq_true (show (-9223372036854775807 : Int) ≤ a by omega)]; simp)
        have CST := Lib.hid (show ((((Nat.gcd a b : Nat) : Int)) == 1) = (Nat.gcd a b == 1) by rw [Bool.eq_iff_iff]; simp; omega)
        go_wp2_with (go_at_call 108; first | (refine rgcd.out.mono ?_; rintro e w2 ⟨rfl, k2⟩; have K2 := Lib.hid k2; clear k2) | (refine rval.out.mono ?_; rintro e w2 ⟨rfl, k2⟩; have K2 := Lib.hid k2; clear k2))
        go_ret
        exact ⟨ret_bool (by first | rw [ANS.out, CST.out] | rw [ANS.out, ANR.out]), k0.trans K2.out⟩
      · have h3' : decide (den ≤ 2147483648) = false := decide_eq_false h3
        go_wp2
        go_ret
        exact ⟨ret_bool (by unfold shareOk; rw [decide_eq_false (show ¬ den ≤ 2147483648 by omega)]; simp), k0⟩
    · have h2' : decide (num < den) = false := decide_eq_false h2
      go_wp2
      go_ret
      exact ⟨ret_bool (by unfold shareOk; rw [decide_eq_false (show ¬ num < den by omega)]; simp), k0⟩
  · have h1' : decide (0 < num) = false := decide_eq_false h1
    go_wp2
    go_ret
    exact ⟨ret_bool (by unfold shareOk; rw [decide_eq_false (show ¬ 0 < num by omega)]; simp), k0⟩
set_option maxRecDepth 100000 in
set_option maxHeartbeats 1000000 in
theorem share_any (x : Ex) (vl : Value) (w : World) : Calls Tryz.prog 64 #[.agg #[.int .i64 x.op, .string x.media, .int .i64 x.frame, .int .i64 x.num, .int .i64 x.den, .int .i64 x.param, .string x.text, vl]] w fun e w' => e = .returned (.bool (shareOk x.num x.den)) ∧ Keep none_ w w' := by
  obtain ⟨op, md, fr, num, den, pr, tx, xs⟩ := x
  simp only [Ex.op, Ex.media, Ex.frame, Ex.num, Ex.den, Ex.param, Ex.text]
  obtain ⟨W0, hW0⟩ : ∃ W0, W0 = w.alloc (.cells #[.int .i64 op, .string md, .int .i64 fr, .int .i64 num, .int .i64 den, .int .i64 pr, .string tx, vl] 89) := ⟨_, rfl⟩
  have k0 : Keep none_ w W0 := hW0 ▸ (Keep.refl _ _).alloc _
  have b0 : Blk W0 w.heap.size 89 #[.int .i64 op, .string md, .int .i64 fr, .int .i64 num, .int .i64 den, .int .i64 pr, .string tx, vl] := hW0 ▸ Blk.new _ _ _
  have d3 : W0.cell? ⟨w.heap.size, 3, none⟩ = some (.int .i64 num) := b0.cell 3
  have d4 : W0.cell? ⟨w.heap.size, 4, none⟩ = some (.int .i64 den) := b0.cell 4
  clear b0
  go_enter Tryz.func64, Tryz.ntmps64
  go_upto_region 1 with (fail)
  rw [← hW0]
  clear hW0
  by_cases h1 : 0 < num
  · by_cases h2 : num < den
    · by_cases h3 : den ≤ 2147483648
      · obtain ⟨a, rfl⟩ := Int.eq_ofNat_of_zero_le (show 0 ≤ num by omega)
        obtain ⟨b, rfl⟩ := Int.eq_ofNat_of_zero_le (show 0 ≤ den by omega)
        have rgcd := Lib.hid (rgcd_any a b W0 (by omega) (by omega))
        have rval := Lib.hid (ratValid_any (a : Int) (b : Int) W0 (by omega) (by omega) (by omega))
        have ANS := Lib.hid (show shareOk a b = (Nat.gcd a b == 1) by unfold shareOk; rw [decide_eq_true h1, decide_eq_true h2, decide_eq_true h3]; rfl)
        have ANR := Lib.hid (show ratOk a b = (Nat.gcd a b == 1) by simp only [ratOk, Int.natAbs_natCast]; rw [decide_eq_true (show (1 : Int) ≤ b by omega), decide_eq_true (show (-9223372036854775807 : Int) ≤ a by omega)]; simp)
        have CST := Lib.hid (show ((((Nat.gcd a b : Nat) : Int)) == 1) = (Nat.gcd a b == 1) by rw [Bool.eq_iff_iff]; simp; omega)
        go_wp2_with (go_at_call 91; first | (refine rgcd.out.mono ?_; rintro e w2 ⟨rfl, k2⟩; have K2 := Lib.hid k2; clear k2) | (refine rval.out.mono ?_; rintro e w2 ⟨rfl, k2⟩; have K2 := Lib.hid k2; clear k2))
        go_ret
        exact ⟨ret_bool (by first | rw [ANS.out, CST.out] | rw [ANS.out, ANR.out]), k0.trans K2.out⟩
      · have h3' : decide (den ≤ 2147483648) = false := decide_eq_false h3
        go_wp2
        go_ret
        exact ⟨ret_bool (by unfold shareOk; rw [decide_eq_false (show ¬ den ≤ 2147483648 by omega)]; simp), k0⟩
    · have h2' : decide (num < den) = false := decide_eq_false h2
      go_wp2
      go_ret
      exact ⟨ret_bool (by unfold shareOk; rw [decide_eq_false (show ¬ num < den by omega)]; simp), k0⟩
  · have h1' : decide (0 < num) = false := decide_eq_false h1
    go_wp2
    go_ret
    exact ⟨ret_bool (by unfold shareOk; rw [decide_eq_false (show ¬ 0 < num by omega)]; simp), k0⟩
end Go.Proofs.YtnefbeplgfdkkaaGreatDoor
