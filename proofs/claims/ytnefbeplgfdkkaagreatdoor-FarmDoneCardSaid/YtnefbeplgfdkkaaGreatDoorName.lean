/-
  Names: timeline.ValidName, farm.validNames.
-/
import Derived.Test.YtnefbeplgfdkkaaGreatDoorGen
namespace Go.Proofs.YtnefbeplgfdkkaaGreatDoor
open Go.RowKit

/-- 23.1: the bytes of a name. -/
def okByte (c : UInt8) : Bool := (decide (97 ≤ c.toNat) && decide (c.toNat ≤ 122)) || (decide (48 ≤ c.toNat) && decide (c.toNat ≤ 57)) || decide (c.toNat = 45) || decide (c.toNat = 95) || decide (c.toNat = 46)
def nameOk (s : ByteArray) : Bool := decide (1 ≤ s.size) && decide (s.size ≤ 32) && s.data.toList.all okByte
theorem take_snoc (s : ByteArray) (k : Nat) (h : k < s.size) : s.data.toList.take (k + 1) = s.data.toList.take k ++ [s[k]] := by
  rw [List.take_succ_eq_append_getElem (by simpa using h)]; rfl
theorem all_part {α : Type} (p : α → Bool) (l : List α) (k : Nat) (h : (l.take k).all p = false) : l.all p = false := by
  rw [← List.take_append_drop k l, List.all_append, h]
  rfl

set_option maxHeartbeats 400000 in
theorem validName_any (s : ByteArray) (w : World) : Calls Tryz.prog 42 #[.string s] w fun e w' => e = .returned (.bool (nameOk s)) ∧ w = w' := by
  by_cases h1 : 1 ≤ s.size
  · by_cases h2 : s.size ≤ 32
    · have h1' : decide ((s.size : Int) < 1) = false := decide_eq_false (by omega)
      have h2' : decide ((32 : Int) < s.size) = false := decide_eq_false (by omega)
      have ans : nameOk s = s.data.toList.all okByte := by simp [nameOk, h1, h2]
      have ANS := Lib.hid ans
      clear ans
      go_enter Tryz.func42, Tryz.ntmps42
      go_wp2
      go_loop [15] (fun i => ∃ k : Nat, k ≤ s.size ∧ i = .int .i64 k ∧ (s.data.toList.take k).all okByte = true) (fun i => s.size - (intOf i).toNat)
      case atStart => exact ⟨0, Nat.zero_le _, rfl, rfl⟩
      case round =>
        obtain ⟨k, hk, rfl, hall⟩ := hrel
        by_cases hlt : k < s.size
        · have hsn : (s.data.toList.take (k + 1)).all okByte = okByte s[k] := by rw [take_snoc s k hlt, List.all_append, hall]; simp
          have HS := Lib.hid hsn
          have HA := Lib.hid hall
          clear hsn hall
          generalize hc : s[k] = c at HS
          go_wp2
          all_goals first
            | (go_round
               case rel => exact ⟨k + 1, by omega, by go_num, by rw [HS.out]; unfold okByte; simp at *; omega⟩
               case measure => simp [intOf]; omega)
            | (go_ret
               exact ⟨ret_bool (by rw [ANS.out, all_part okByte _ (k + 1) (by rw [HS.out]; unfold okByte; simp at *; omega)]), rfl⟩)
        · have HA := Lib.hid hall
          clear hall
          go_wp2
          go_ret
          exact ⟨ret_bool (by rw [ANS.out]; have := HA.out; rw [List.take_of_length_le (by simp; omega)] at this; exact this.symm), rfl⟩
    · have ans : nameOk s = false := by simp [nameOk, h2]
      have h1' : decide ((s.size : Int) < 1) = false := decide_eq_false (by omega)
      have h2' : decide ((32 : Int) < s.size) = true := decide_eq_true (by omega)
      rw [ans]
      go_enter Tryz.func42, Tryz.ntmps42
      go_wp2
      go_ret
      exact ⟨rfl, rfl⟩
  · have ans : nameOk s = false := by simp [nameOk, h1]
    have h1' : decide ((s.size : Int) < 1) = true := decide_eq_true (by omega)
    rw [ans]
    go_enter Tryz.func42, Tryz.ntmps42
    go_wp2
    go_ret
    exact ⟨rfl, rfl⟩

/-- A slice of strings. -/
def StrsOf (w : World) (S : Nat → Prop) (v : Value) (l : List ByteArray) : Prop := ∃ A n c, v = .slice A n c ∧ Row w S 1 A n c (l.map Value.string)
def strLe (a b : ByteArray) : Bool := Op.bytesLess a.toList b.toList || a.toList == b.toList
def strLt (a b : ByteArray) : Bool := Op.bytesLess a.toList b.toList
def strEq (a b : ByteArray) : Bool := a.toList == b.toList
/-- Name k is valid and greater than the one before it. -/
def goodAt (l : List ByteArray) (k : Nat) : Bool := nameOk (l.getD k .empty) && (k == 0 || !strLe (l.getD k .empty) (l.getD (k - 1) .empty))
def namesOk (l : List ByteArray) : Bool := (List.range l.length).all (goodAt l) && decide (l.length ≤ 16)
theorem Row.strs {w : World} {S : Nat → Prop} {A : Option Addr} {n c : Nat} {l : List ByteArray} (h : Row w S 1 A n c (l.map Value.string)) (hn : 0 < n) : ∃ b o, A = some ⟨b, o, none⟩ ∧ ¬ S b ∧ ∀ j, j < n → w.cell? ⟨b, o + j, none⟩ = some (.string (l.getD j .empty)) := by
  obtain ⟨b, o, e, hb, hc⟩ := h.at_ hn
  refine ⟨b, o, e, hb, fun j hj => hc j _ ?_⟩
  have hl : j < l.length := by have := h.len; simp at this; omega
  simp [hl]
theorem range_all_succ (p : Nat → Bool) (k : Nat) : (List.range (k + 1)).all p = ((List.range k).all p && p k) := by simp [List.range_succ, List.all_append]
theorem range_all_part (p : Nat → Bool) (k n : Nat) (hk : k < n) (h : p k = false) : (List.range n).all p = false := by
  rw [List.all_eq_false]
  exact ⟨k, by simp [hk], by simp [h]⟩

set_option maxHeartbeats 400000 in
theorem validNames_any (l : List ByteArray) (v : Value) (S : Nat → Prop) (w : World) (h : StrsOf w S v l) : Calls Tryz.prog 41 #[v] w fun e w' => e = .returned (.bool (namesOk l)) ∧ w = w' := by
  obtain ⟨A, n, c, rfl, hr⟩ := h
  have hl : l.length = n := by have := hr.len; simp at this; omega
  have hcap := hr.cap
  have hle := hr.le
  unfold maxLen at hcap
  have HL := Lib.hid hl
  have HR := Lib.hid hr
  clear hl hr
  go_enter Tryz.func41, Tryz.ntmps41
  go_wp2
  go_loop [7] (fun i => ∃ k : Nat, k ≤ n ∧ i = .int .i64 k ∧ (List.range k).all (goodAt l) = true) (fun i => n - (intOf i).toNat)
  case atStart => exact ⟨0, Nat.zero_le _, rfl, rfl⟩
  case round =>
    obtain ⟨k, hk, rfl, hall⟩ := hrel
    have HA := Lib.hid hall
    clear hall
    by_cases hlt : k < n
    · obtain ⟨b, o, rfl, -, hc⟩ := HR.out.strs (by omega)
      have c0 := hc k hlt
      have hlt' : (k : Int) < n := by omega
      cases hn : nameOk (l.getD k .empty) with
      | false =>
        have bad : goodAt l k = false := by unfold goodAt; rw [hn]; rfl
        have BAD := Lib.hid bad
        have NO := validName_any (l.getD k .empty) w
        rw [hn] at NO
        have HN := Lib.hid NO
        generalize l.getD k .empty = x at c0 HN
        clear hn bad NO hc
        go_wp2_with (go_at_call 42; refine HN.out.mono ?_; rintro e w' ⟨rfl, rfl⟩)
        go_ret
        exact ⟨ret_bool (by unfold namesOk; rw [HL.out, range_all_part _ k n hlt BAD.out]; rfl), rfl⟩
      | true =>
        have NO := validName_any (l.getD k .empty) w
        rw [hn] at NO
        have HN := Lib.hid NO
        clear NO
        by_cases hk0 : k = 0
        · subst hk0
          rw [Nat.add_zero] at c0
          have good : goodAt l 0 = true := by unfold goodAt; rw [hn]; rfl
          have GOOD := Lib.hid good
          generalize l.getD 0 .empty = x at c0 HN
          clear hn good hc
          go_wp2_with (go_at_call 42; refine HN.out.mono ?_; rintro e w' ⟨rfl, rfl⟩)
          go_round
          case rel => exact ⟨1, by omega, by go_num, by rw [range_all_succ, GOOD.out, HA.out]; rfl⟩
          case measure => simp [intOf]; omega
        · have c1 := hc (k - 1) (by omega)
          have hk1 : (0 : Int) < k := by omega
          have e1 : (k : Int) - 1 = ((k - 1 : Nat) : Int) := by omega
          have gd : goodAt l k = !strLe (l.getD k .empty) (l.getD (k - 1) .empty) := by unfold goodAt; rw [hn]; simp [hk0]
          have GD := Lib.hid gd
          generalize l.getD k .empty = x at c0 HN GD
          generalize l.getD (k - 1) .empty = y at c1 GD
          obtain ⟨j, hj⟩ : ∃ j, j = k - 1 := ⟨_, rfl⟩
          rw [← hj] at c1 e1
          clear hn gd hc
          cases hs : strLe x y with
          | true =>
            have hs' : (Op.bytesLess x.toList y.toList || x.toList == y.toList) = true := hs
            have BAD := Lib.hid (show goodAt l k = false by rw [GD.out, hs]; rfl)
            have HJ := Lib.hid hj
            clear hs hj
            have hj' : j < n := by have := HJ.out; omega
            go_wp2_with (go_at_call 42; refine HN.out.mono ?_; rintro e w' ⟨rfl, rfl⟩)
            go_ret
            exact ⟨ret_bool (by unfold namesOk; rw [HL.out, range_all_part _ k n hlt BAD.out]; rfl), rfl⟩
          | false =>
            have hs' : (Op.bytesLess x.toList y.toList || x.toList == y.toList) = false := hs
            have GOOD := Lib.hid (show goodAt l k = true by rw [GD.out, hs]; rfl)
            have HJ := Lib.hid hj
            clear hs hj
            have hj' : j < n := by have := HJ.out; omega
            go_wp2_with (go_at_call 42; refine HN.out.mono ?_; rintro e w' ⟨rfl, rfl⟩)
            go_round
            case rel => exact ⟨k + 1, by omega, by go_num, by rw [range_all_succ, GOOD.out, HA.out]; rfl⟩
            case measure => simp [intOf]; omega
    · obtain rfl : k = n := by omega
      go_wp2
      go_ret
      exact ⟨ret_bool (by unfold namesOk; rw [HL.out, HA.out, Bool.true_and]; rw [Bool.eq_iff_iff]; simp; omega), rfl⟩
end Go.Proofs.YtnefbeplgfdkkaaGreatDoor
