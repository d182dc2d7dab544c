/-
  FarmLate in plain words. No program here.
-/
import Derived.Test.YtnefbeplgfdkkaaGreatDoorAwk2
namespace Go.Proofs.YtnefbeplgfdkkaaGreatDoor

def bJob : ByteArray := ⟨#[106, 111, 98]⟩
def bA : ByteArray := ⟨#[97]⟩
def bB : ByteArray := ⟨#[98]⟩
def ev (k : Int) (x y : ByteArray) (t : Int) : Ev := ⟨k, x, y, [], t, []⟩
def evsL (die : Bool) (n : Int) : List Ev := [ev 1 bJob ⟨#[]⟩ 0, ev 4 ⟨#[]⟩ bA 0, ev 4 ⟨#[]⟩ bB 0, ev 6 ⟨#[]⟩ bA 0] ++ (if die then [ev 5 ⟨#[]⟩ bA 0] else []) ++ [ev 9 ⟨#[]⟩ ⟨#[]⟩ n]
def finA : Ev := ev 7 bJob bA 0
def pollB : Ev := ev 6 ⟨#[]⟩ bB 0
def finB : Ev := ev 7 bJob bB 0
theorem late_facts (n : Int) (h1 : 1 ≤ n) (h2 : n ≤ 20) (die : Bool) :
    stepE (goS zeroSt (evsL die n)) finA = (if die then 14 else if n < 10 then 0 else 13) ∧ stepE (goS zeroSt (evsL die n)) pollB = 0 ∧
    stepO (goS zeroSt (evsL die n)) pollB = (if n < 10 then [] else [⟨1, bJob, bB⟩]) ∧ stepE (stepS (goS zeroSt (evsL die n)) pollB) finB = (if n < 10 then 13 else 0) := by
  have : n = 1 ∨ n = 2 ∨ n = 3 ∨ n = 4 ∨ n = 5 ∨ n = 6 ∨ n = 7 ∨ n = 8 ∨ n = 9 ∨ n = 10 ∨ n = 11 ∨ n = 12 ∨ n = 13 ∨ n = 14 ∨ n = 15 ∨ n = 16 ∨ n = 17 ∨ n = 18 ∨ n = 19 ∨ n = 20 := by omega
  rcases this with rfl | rfl | rfl | rfl | rfl | rfl | rfl | rfl | rfl | rfl | rfl | rfl | rfl | rfl | rfl | rfl | rfl | rfl | rfl | rfl <;> cases die <;> exact ⟨by kernel_rfl, by kernel_rfl, by kernel_rfl, by kernel_rfl⟩
theorem ItsOk.step {s : St} (h : ItsOk s) {e : Ev} (he : ItOk e.items) : ItsOk (stepS s e) := by
  unfold stepS
  split
  · exact per_items h he
  · exact ItsOk.zero
theorem evsL_items (die : Bool) (n : Int) : ∀ e ∈ evsL die n, ItOk e.items := by
  intro e he
  have : e.items = [] := by
    unfold evsL ev at he
    cases die <;> simp at he <;> rcases he with rfl | rfl | rfl | rfl | rfl | rfl <;> rfl
  rw [this]
  exact ItOk.nil
theorem evsL_len (die : Bool) (n : Int) : (evsL die n).length ≤ 64 := by unfold evsL; cases die <;> simp
end Go.Proofs.YtnefbeplgfdkkaaGreatDoor
