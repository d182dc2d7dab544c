/-
  slices.BinarySearch at strings.
-/
import Derived.Test.YtnefbeplgfdkkaaGreatDoorMap
namespace Go.Proofs.YtnefbeplgfdkkaaGreatDoor
open Go.RowKit

theorem cmpNaN_any (x : ByteArray) (w : World) : Calls Tryz.prog 139 #[.string x] w fun e w' => e = .returned (.bool false) ∧ w = w' := by
  go_enter Tryz.func139, Tryz.ntmps139
  go_wp2
  go_ret
  exact ⟨by simp, rfl⟩
theorem slNaN_any (x : ByteArray) (w : World) : Calls Tryz.prog 124 #[.string x] w fun e w' => e = .returned (.bool false) ∧ w = w' := by
  go_enter Tryz.func124, Tryz.ntmps124
  go_wp2
  go_ret
  exact ⟨by simp, rfl⟩
theorem cmpLess_any (x y : ByteArray) (w : World) : Calls Tryz.prog 115 #[.string x, .string y] w fun e w' => e = .returned (.bool (strLt x y)) ∧ w = w' := by
  go_enter Tryz.func115, Tryz.ntmps115
  go_wp2_with (go_at_call 139; refine (cmpNaN_any _ _).mono ?_; rintro e w' ⟨rfl, rfl⟩)
  go_ret
  exact ⟨rfl, rfl⟩

/-- The names before position p are smaller than x, those from p on are not. -/
def Pos (l : List ByteArray) (x : ByteArray) (p : Nat) : Prop := p ≤ l.length ∧ (∀ j, j < p → strLt (l.getD j .empty) x = true) ∧ ∀ j, p ≤ j → j < l.length → strLt (l.getD j .empty) x = false
def Mono (l : List ByteArray) (x : ByteArray) : Prop := ∀ i j, i ≤ j → j < l.length → strLt (l.getD j .empty) x = true → strLt (l.getD i .empty) x = true

set_option maxHeartbeats 1000000 in
theorem search_any (l : List ByteArray) (x : ByteArray) (A : Option Addr) (n c : Nat) (S : Nat → Prop) (w : World) (h : Row w S 1 A n c (l.map Value.string)) (hm : Mono l x) (hsm : l.length ≤ 64) :
    Calls Tryz.prog 96 #[.slice A n c, .string x] w fun e w' =>
      ∃ p, Pos l x p ∧ e = .returned (.tuple #[.int .i64 (p : Nat), .bool (decide (p < l.length) && strEq (l.getD p .empty) x)]) ∧ Keep none_ w w' := by
  have hl : l.length = n := by have := h.len; simp at this; omega
  have hcap := h.cap
  have hle := h.le
  unfold maxLen at hcap
  have hn64 : n ≤ 64 := by omega
  clear hsm
  have HL := Lib.hid hl
  have HR := Lib.hid h
  have HM := Lib.hid hm
  clear hl h hm
  go_enter Tryz.func96, Tryz.ntmps96
  go_wp2
  go_loopw [7, 8] (fun s7 s8 wr => ∃ lo hi : Nat, s7 = .int .i64 lo ∧ s8 = .int .i64 hi ∧ lo ≤ hi ∧ hi ≤ n ∧ (∀ j, j < lo → strLt (l.getD j .empty) x = true) ∧ (∀ j, hi ≤ j → j < n → strLt (l.getD j .empty) x = false) ∧ Keep none_ w wr) (fun s7 s8 _ => (intOf s8).toNat - (intOf s7).toNat)
  case atStart => exact ⟨0, n, rfl, rfl, Nat.zero_le _, Nat.le_refl _, fun j h => by omega, fun j h h' => by omega, Keep.refl _ _⟩
  case round =>
    obtain ⟨lo, hi, rfl, rfl, hlh, hin, ha, hb, hkr⟩ := hrel
    have HA := Lib.hid ha
    have HB := Lib.hid hb
    clear ha hb
    by_cases hlt : lo < hi
    · have hlt' : (lo : Int) < hi := by omega
      obtain ⟨b, o, rfl, -, hc⟩ := HR.out.strs (by omega)
      have cm := hkr.cell (hc ((lo + hi) / 2) (by omega)) (fun e => e)
      obtain ⟨m, hmid⟩ : ∃ m, m = (lo + hi) / 2 := ⟨_, rfl⟩
      have hmm : ((lo : Int) + hi) / 2 = (m : Nat) := by omega
      rw [← hmid] at cm
      have b1 : lo ≤ m := by omega
      have b2 : m < hi := by omega
      have b3 : ∀ y, l.getD m .empty = y → strLt y x = true → ∀ j, j < m + 1 → strLt (l.getD j .empty) x = true := fun y hy hyx j hj => HM.out j m (by omega) (by rw [HL.out]; omega) (by rw [hy]; exact hyx)
      have b4 : ∀ y, l.getD m .empty = y → strLt y x = false → ∀ j, m ≤ j → j < n → strLt (l.getD j .empty) x = false := fun y hy hyx j hj hjn => by
        cases hq : strLt (l.getD j .empty) x with
        | false => rfl
        | true =>
          have := HM.out m j hj (by rw [HL.out]; exact hjn) hq
          rw [hy, hyx] at this
          exact absurd this (by decide)
      obtain ⟨y, hy⟩ : ∃ y, l.getD m .empty = y := ⟨_, rfl⟩
      have B3 := Lib.hid (b3 y hy)
      have B4 := Lib.hid (b4 y hy)
      rw [hy] at cm
      clear hc b3 b4 hy hmid
      cases hyx : strLt y x with
      | true =>
        have N3 := Lib.hid (B3.out hyx)
        clear B3 B4
        go_wp2_with (go_at_call 115; refine (cmpLess_any _ _ _).mono ?_; rintro e w' ⟨rfl, rfl⟩)
        go_roundw
        case rel => exact ⟨m + 1, hi, by go_num, rfl, by omega, hin, N3.out, HB.out, hkr⟩
        case measure => simp [intOf]; omega
      | false =>
        have N4 := Lib.hid (B4.out hyx)
        clear B3 B4
        go_wp2_with (go_at_call 115; refine (cmpLess_any _ _ _).mono ?_; rintro e w' ⟨rfl, rfl⟩)
        go_roundw
        case rel => exact ⟨lo, m, rfl, by go_num, by omega, by omega, HA.out, N4.out, hkr⟩
        case measure => simp [intOf]; omega
    · obtain rfl : hi = lo := by omega
      have POS := Lib.hid (show Pos l x hi from ⟨by rw [HL.out]; exact hin, HA.out, by rw [HL.out]; exact HB.out⟩)
      by_cases hn : hi < n
      · have hn' : (hi : Int) < n := by omega
        obtain ⟨b, o, rfl, -, hc⟩ := HR.out.strs (by omega)
        have cm := hkr.cell (hc hi hn) (fun e => e)
        obtain ⟨y, hy⟩ : ∃ y, l.getD hi .empty = y := ⟨_, rfl⟩
        rw [hy] at cm
        have ANS := Lib.hid (show (decide (hi < l.length) && strEq (l.getD hi .empty) x) = strEq y x by rw [HL.out, decide_eq_true hn, hy]; rfl)
        clear hc hy
        cases hyx : strEq y x with
        | true =>
          have hyx' : (y.toList == x.toList) = true := hyx
          go_wp2_with (go_at_call 124; refine (slNaN_any _ _).mono ?_; rintro e w' ⟨rfl, rfl⟩)
          go_ret2
          exact ⟨hi, POS.out, by rw [ANS.out, hyx]; rfl, hkr⟩
        | false =>
          have hyx' : (y.toList == x.toList) = false := hyx
          go_wp2_with (go_at_call 124; refine (slNaN_any _ _).mono ?_; rintro e w' ⟨rfl, rfl⟩)
          go_ret2
          exact ⟨hi, POS.out, by rw [ANS.out, hyx]; rfl, hkr⟩
      · have hn' : ¬ (hi : Int) < n := by omega
        have ans : (decide (hi < l.length) && strEq (l.getD hi .empty) x) = false := by rw [HL.out, decide_eq_false hn]; rfl
        have ANS := Lib.hid ans
        clear ans
        go_wp2
        go_ret2
        exact ⟨hi, POS.out, congrArg (fun b => Ending.returned (.tuple #[.int .i64 (hi : Nat), .bool b])) ANS.out.symm, hkr⟩
end Go.Proofs.YtnefbeplgfdkkaaGreatDoor
