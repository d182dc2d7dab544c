/-
  The tests of proxy.Reduce and of the reference.
-/
import Derived.Test.YtnpkhbcbbbpjhaaSpec
namespace Go.Proofs.Ytnpkhbcbbbpjhaa
open Go.RowKit

set_option maxHeartbeats 1000000 in
theorem reducible_32_32 (A1 A2 A3 : Option Addr) (n1 c1 n2 c2 n3 c3 : Nat) (w : World) :
    Calls Try.prog 19 #[.agg #[.int .i64 32, .int .i64 32, .slice A1 n1 c1, .slice A2 n2 c2, .slice A3 n3 c3]] w fun e w' => e = .returned (.bool (redOk 32 32 n1 n2 n3)) ∧ Keep none_ w w' := by
  by_cases h1 : n1 = 1024
  · have h1' : ((n1 : Int) == 1024) = true := beq_iff_eq.2 (by omega)
    by_cases h2 : n2 = 256
    · have h2' : ((n2 : Int) == 256) = true := beq_iff_eq.2 (by omega)
      by_cases h3 : n3 = 256
      · have h3' : ((n3 : Int) == 256) = true := beq_iff_eq.2 (by omega)
        clear h1 h2 h3
        go_enter Try.func19, Try.ntmps19
        go_wp2
        go_ret
        exact ⟨by simp [redOk, h1', h2', h3'], (Keep.refl _ _).alloc _⟩
      · have h3' : ((n3 : Int) == 256) = false := beq_eq_false_iff_ne.2 (by omega)
        clear h1 h2 h3
        go_enter Try.func19, Try.ntmps19
        go_wp2
        go_ret
        exact ⟨by simp [redOk, h3'], (Keep.refl _ _).alloc _⟩
    · have h2' : ((n2 : Int) == 256) = false := beq_eq_false_iff_ne.2 (by omega)
      clear h1 h2
      go_enter Try.func19, Try.ntmps19
      go_wp2
      go_ret
      exact ⟨by simp [redOk, h2'], (Keep.refl _ _).alloc _⟩
  · have h1' : ((n1 : Int) == 1024) = false := beq_eq_false_iff_ne.2 (by omega)
    clear h1
    go_enter Try.func19, Try.ntmps19
    go_wp2
    go_ret
    exact ⟨by simp [redOk, h1'], (Keep.refl _ _).alloc _⟩
set_option maxHeartbeats 1000000 in
theorem reducible_32_64 (A1 A2 A3 : Option Addr) (n1 c1 n2 c2 n3 c3 : Nat) (w : World) :
    Calls Try.prog 19 #[.agg #[.int .i64 32, .int .i64 64, .slice A1 n1 c1, .slice A2 n2 c2, .slice A3 n3 c3]] w fun e w' => e = .returned (.bool (redOk 32 64 n1 n2 n3)) ∧ Keep none_ w w' := by
  by_cases h1 : n1 = 2048
  · have h1' : ((n1 : Int) == 2048) = true := beq_iff_eq.2 (by omega)
    by_cases h2 : n2 = 512
    · have h2' : ((n2 : Int) == 512) = true := beq_iff_eq.2 (by omega)
      by_cases h3 : n3 = 512
      · have h3' : ((n3 : Int) == 512) = true := beq_iff_eq.2 (by omega)
        clear h1 h2 h3
        go_enter Try.func19, Try.ntmps19
        go_wp2
        go_ret
        exact ⟨by simp [redOk, h1', h2', h3'], (Keep.refl _ _).alloc _⟩
      · have h3' : ((n3 : Int) == 512) = false := beq_eq_false_iff_ne.2 (by omega)
        clear h1 h2 h3
        go_enter Try.func19, Try.ntmps19
        go_wp2
        go_ret
        exact ⟨by simp [redOk, h3'], (Keep.refl _ _).alloc _⟩
    · have h2' : ((n2 : Int) == 512) = false := beq_eq_false_iff_ne.2 (by omega)
      clear h1 h2
      go_enter Try.func19, Try.ntmps19
      go_wp2
      go_ret
      exact ⟨by simp [redOk, h2'], (Keep.refl _ _).alloc _⟩
  · have h1' : ((n1 : Int) == 2048) = false := beq_eq_false_iff_ne.2 (by omega)
    clear h1
    go_enter Try.func19, Try.ntmps19
    go_wp2
    go_ret
    exact ⟨by simp [redOk, h1'], (Keep.refl _ _).alloc _⟩
set_option maxHeartbeats 1000000 in
theorem reducible_64_32 (A1 A2 A3 : Option Addr) (n1 c1 n2 c2 n3 c3 : Nat) (w : World) :
    Calls Try.prog 19 #[.agg #[.int .i64 64, .int .i64 32, .slice A1 n1 c1, .slice A2 n2 c2, .slice A3 n3 c3]] w fun e w' => e = .returned (.bool (redOk 64 32 n1 n2 n3)) ∧ Keep none_ w w' := by
  by_cases h1 : n1 = 2048
  · have h1' : ((n1 : Int) == 2048) = true := beq_iff_eq.2 (by omega)
    by_cases h2 : n2 = 512
    · have h2' : ((n2 : Int) == 512) = true := beq_iff_eq.2 (by omega)
      by_cases h3 : n3 = 512
      · have h3' : ((n3 : Int) == 512) = true := beq_iff_eq.2 (by omega)
        clear h1 h2 h3
        go_enter Try.func19, Try.ntmps19
        go_wp2
        go_ret
        exact ⟨by simp [redOk, h1', h2', h3'], (Keep.refl _ _).alloc _⟩
      · have h3' : ((n3 : Int) == 512) = false := beq_eq_false_iff_ne.2 (by omega)
        clear h1 h2 h3
        go_enter Try.func19, Try.ntmps19
        go_wp2
        go_ret
        exact ⟨by simp [redOk, h3'], (Keep.refl _ _).alloc _⟩
    · have h2' : ((n2 : Int) == 512) = false := beq_eq_false_iff_ne.2 (by omega)
      clear h1 h2
      go_enter Try.func19, Try.ntmps19
      go_wp2
      go_ret
      exact ⟨by simp [redOk, h2'], (Keep.refl _ _).alloc _⟩
  · have h1' : ((n1 : Int) == 2048) = false := beq_eq_false_iff_ne.2 (by omega)
    clear h1
    go_enter Try.func19, Try.ntmps19
    go_wp2
    go_ret
    exact ⟨by simp [redOk, h1'], (Keep.refl _ _).alloc _⟩
set_option maxHeartbeats 1000000 in
theorem reducible_64_64 (A1 A2 A3 : Option Addr) (n1 c1 n2 c2 n3 c3 : Nat) (w : World) :
    Calls Try.prog 19 #[.agg #[.int .i64 64, .int .i64 64, .slice A1 n1 c1, .slice A2 n2 c2, .slice A3 n3 c3]] w fun e w' => e = .returned (.bool (redOk 64 64 n1 n2 n3)) ∧ Keep none_ w w' := by
  by_cases h1 : n1 = 4096
  · have h1' : ((n1 : Int) == 4096) = true := beq_iff_eq.2 (by omega)
    by_cases h2 : n2 = 1024
    · have h2' : ((n2 : Int) == 1024) = true := beq_iff_eq.2 (by omega)
      by_cases h3 : n3 = 1024
      · have h3' : ((n3 : Int) == 1024) = true := beq_iff_eq.2 (by omega)
        clear h1 h2 h3
        go_enter Try.func19, Try.ntmps19
        go_wp2
        go_ret
        exact ⟨by simp [redOk, h1', h2', h3'], (Keep.refl _ _).alloc _⟩
      · have h3' : ((n3 : Int) == 1024) = false := beq_eq_false_iff_ne.2 (by omega)
        clear h1 h2 h3
        go_enter Try.func19, Try.ntmps19
        go_wp2
        go_ret
        exact ⟨by simp [redOk, h3'], (Keep.refl _ _).alloc _⟩
    · have h2' : ((n2 : Int) == 1024) = false := beq_eq_false_iff_ne.2 (by omega)
      clear h1 h2
      go_enter Try.func19, Try.ntmps19
      go_wp2
      go_ret
      exact ⟨by simp [redOk, h2'], (Keep.refl _ _).alloc _⟩
  · have h1' : ((n1 : Int) == 4096) = false := beq_eq_false_iff_ne.2 (by omega)
    clear h1
    go_enter Try.func19, Try.ntmps19
    go_wp2
    go_ret
    exact ⟨by simp [redOk, h1'], (Keep.refl _ _).alloc _⟩

set_option maxHeartbeats 1000000 in
theorem reducible_any (W H : Int) (A1 A2 A3 : Option Addr) (n1 c1 n2 c2 n3 c3 : Nat) (w : World) :
    Calls Try.prog 19 #[.agg #[.int .i64 W, .int .i64 H, .slice A1 n1 c1, .slice A2 n2 c2, .slice A3 n3 c3]] w fun e w' => e = .returned (.bool (redOk W H n1 n2 n3)) ∧ Keep none_ w w' := by
  by_cases hW : W = 32 ∨ W = 64
  · by_cases hH : H = 32 ∨ H = 64
    · rcases hW with rfl | rfl <;> rcases hH with rfl | rfl
      · exact reducible_32_32 _ _ _ _ _ _ _ _ _ _
      · exact reducible_32_64 _ _ _ _ _ _ _ _ _ _
      · exact reducible_64_32 _ _ _ _ _ _ _ _ _ _
      · exact reducible_64_64 _ _ _ _ _ _ _ _ _ _
    · have h1 : (H == 32) = false := beq_eq_false_iff_ne.2 (by omega)
      have h2 : (H == 64) = false := beq_eq_false_iff_ne.2 (by omega)
      rcases hW with rfl | rfl
      all_goals
        clear hH
        go_enter Try.func19, Try.ntmps19
        go_wp2
        go_ret
        exact ⟨by simp [redOk, h1, h2], (Keep.refl _ _).alloc _⟩
  · have h1 : (W == 32) = false := beq_eq_false_iff_ne.2 (by omega)
    have h2 : (W == 64) = false := beq_eq_false_iff_ne.2 (by omega)
    clear hW
    go_enter Try.func19, Try.ntmps19
    go_wp2
    go_ret
    exact ⟨by simp [redOk, h1, h2], (Keep.refl _ _).alloc _⟩

theorem mul_bd (W H : Int) (h1 : 16 ≤ W) (h2 : W ≤ 64) (h3 : 16 ≤ H) (h4 : H ≤ 64) : 256 ≤ W * H ∧ W * H ≤ 4096 := by
  have a1 : 16 * 16 ≤ W * H := Int.mul_le_mul h1 h3 (by omega) (by omega)
  have a2 : W * H ≤ 64 * 64 := Int.mul_le_mul h2 h4 (by omega) (by omega)
  omega

set_option maxHeartbeats 2000000 in
theorem valid20_any (W H : Int) (A1 A2 A3 : Option Addr) (n1 c1 n2 c2 n3 c3 : Nat) (w : World) :
    Calls Try.prog 21 #[.agg #[.int .i64 W, .int .i64 H, .slice A1 n1 c1, .slice A2 n2 c2, .slice A3 n3 c3]] w fun e w' => e = .returned (.bool (validF W H n1 n2 n3)) ∧ Keep none_ w w' := by
  by_cases h1 : W < 16
  · go_enter Try.func21, Try.ntmps21
    go_wp2
    go_ret
    exact ⟨by simp [validF, h1], (Keep.refl _ _).alloc _⟩
  by_cases h2 : 64 < W
  · go_enter Try.func21, Try.ntmps21
    go_wp2
    go_ret
    exact ⟨by simp [validF, h2], (Keep.refl _ _).alloc _⟩
  by_cases h3 : W % 16 = 0
  case neg =>
    have h3' : (W % 16 != 0) = true := by simpa using h3
    go_enter Try.func21, Try.ntmps21
    go_wp2
    go_ret
    exact ⟨by simp [validF, h3], (Keep.refl _ _).alloc _⟩
  have h3' : (W % 16 != 0) = false := by simpa using h3
  clear h3
  by_cases h4 : H < 16
  · go_enter Try.func21, Try.ntmps21
    go_wp2
    go_ret
    exact ⟨by simp [validF, h4], (Keep.refl _ _).alloc _⟩
  by_cases h5 : 64 < H
  · go_enter Try.func21, Try.ntmps21
    go_wp2
    go_ret
    exact ⟨by simp [validF, h5], (Keep.refl _ _).alloc _⟩
  by_cases h6 : H % 16 = 0
  case neg =>
    have h6' : (H % 16 != 0) = true := by simpa using h6
    go_enter Try.func21, Try.ntmps21
    go_wp2
    go_ret
    exact ⟨by simp [validF, h6], (Keep.refl _ _).alloc _⟩
  have h6' : (H % 16 != 0) = false := by simpa using h6
  clear h6
  obtain ⟨hb1, hb2⟩ := mul_bd W H (by omega) (by omega) (by omega) (by omega)
  obtain ⟨N, hN⟩ : ∃ N : Int, W * H = N := ⟨_, rfl⟩
  have key : validF W H n1 n2 n3 = (((n1 : Int) == N) && ((n2 : Int) == N / 4) && ((n3 : Int) == N / 4)) := by
    simp only [validF, h3', h6', hN]
    simp [h1, h2, h4, h5]
  rw [key]
  rw [hN] at hb1 hb2
  have KEY := Lib.hid key
  clear key
  by_cases e1 : ((n1 : Int) == N) = true
  case neg =>
    have e1' : ((n1 : Int) == N) = false := by simpa using e1
    clear e1
    rw [e1']
    go_enter Try.func21, Try.ntmps21
    go_wp2
    go_ret
    exact ⟨by simp, (Keep.refl _ _).alloc _⟩
  by_cases e2 : ((n2 : Int) == N / 4) = true
  case neg =>
    have e2' : ((n2 : Int) == N / 4) = false := by simpa using e2
    clear e2
    rw [e1, e2']
    go_enter Try.func21, Try.ntmps21
    go_wp2
    go_ret
    exact ⟨by simp, (Keep.refl _ _).alloc _⟩
  by_cases e3 : ((n3 : Int) == N / 4) = true
  case neg =>
    have e3' : ((n3 : Int) == N / 4) = false := by simpa using e3
    clear e3
    rw [e1, e2, e3']
    go_enter Try.func21, Try.ntmps21
    go_wp2
    go_ret
    exact ⟨by simp, (Keep.refl _ _).alloc _⟩
  rw [e1, e2, e3]
  go_enter Try.func21, Try.ntmps21
  go_wp2
  go_ret
  exact ⟨by simp, (Keep.refl _ _).alloc _⟩

end Go.Proofs.Ytnpkhbcbbbpjhaa
