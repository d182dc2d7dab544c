/-
  FarmWatches in plain words. No program here.
-/
import Derived.Test.YtnefbeplgfdkkaaDoorLateP
namespace Go.Proofs.YtnefbeplgfdkkaaDoor

def bM0 : ByteArray := ⟨#[109, 48]⟩
def bM1 : ByteArray := ⟨#[109, 49]⟩
def bW : ByteArray := ⟨#[119]⟩
def wA (first : Bool) : ByteArray := if first then bM1 else bM0
def wB (first : Bool) : ByteArray := if first then bM0 else bM1
def evs1 (first : Bool) : List Ev := [⟨1, bJob, ⟨#[]⟩, [bM0, bM1], 0, []⟩, ev 4 ⟨#[]⟩ bW 0, ev 2 (wA first) ⟨#[]⟩ 0]
def pollW : Ev := ev 6 ⟨#[]⟩ bW 0
def evs2 (first : Bool) : List Ev := [ev 2 (wB first) ⟨#[]⟩ 0, ev 6 ⟨#[]⟩ bW 0]
def leaveA (first : Bool) : Ev := ev 3 (wA first) ⟨#[]⟩ 0
def finW : Ev := ev 7 bJob bW 0
def wS0 (first : Bool) : St := goS zeroSt (evs1 first)
def wT (first : Bool) : St := stepS (wS0 first) pollW
def wU (first : Bool) : St := goS (wT first) (evs2 first)
def wU2 (first leave : Bool) : St := if leave then stepS (wU first) (leaveA first) else wU first
theorem wat_facts (first leave : Bool) : stepE (wS0 first) pollW = 0 ∧ stepO (wS0 first) pollW = [] ∧ goO (wT first) (evs2 first) = [⟨1, bJob, bW⟩] ∧ goE (wT first) (evs2 first) = [0, 0] ∧ stepE (wU2 first leave) finW = 0 ∧ stepO (wU2 first leave) finW = [⟨2, bJob, bW⟩] := by
  cases first <;> cases leave <;> exact ⟨by kernel_rfl, by kernel_rfl, by kernel_rfl, by kernel_rfl, by kernel_rfl, by kernel_rfl⟩
theorem wat_valid (first : Bool) : V (wT first) := by
  cases first <;> exact (valid_iff _).1 (by kernel_rfl)
theorem evs1_items (first : Bool) : ∀ e ∈ evs1 first, ItOk e.items := by
  intro e he
  have : e.items = [] := by
    unfold evs1 ev at he
    simp at he
    rcases he with rfl | rfl | rfl <;> rfl
  rw [this]
  exact ItOk.nil
theorem evs2_items (first : Bool) : ∀ e ∈ evs2 first, ItOk e.items := by
  intro e he
  have : e.items = [] := by
    unfold evs2 ev at he
    simp at he
    rcases he with rfl | rfl <;> rfl
  rw [this]
  exact ItOk.nil
theorem wS0_items (first : Bool) : ItsOk (wS0 first) := ItsOk.go ItsOk.zero _ (evs1_items first)
theorem wT_items (first : Bool) : ItsOk (wT first) := (wS0_items first).step ItOk.nil
theorem wU_items (first : Bool) : ItsOk (wU first) := (wT_items first).go _ (evs2_items first)
theorem wU2_items (first leave : Bool) : ItsOk (wU2 first leave) := by
  unfold wU2
  split
  · exact (wU_items first).step ItOk.nil
  · exact wU_items first
theorem wat_pack (first leave : Bool) : ∃ s0 s1 s2 s3 : St, goS zeroSt (evs1 first) = s0 ∧ stepS s0 pollW = s1 ∧ goS s1 (evs2 first) = s2 ∧ (if leave then stepS s2 (leaveA first) else s2) = s3 ∧
    stepE s0 pollW = 0 ∧ stepO s0 pollW = [] ∧ goO s1 (evs2 first) = [⟨1, bJob, bW⟩] ∧ goE s1 (evs2 first) = [0, 0] ∧ stepE s3 finW = 0 ∧ stepO s3 finW = [⟨2, bJob, bW⟩] ∧ V s1 ∧ ItsOk s0 ∧ ItsOk s1 ∧ ItsOk s2 ∧ ItsOk s3 := by
  obtain ⟨f1, f2, f3, f4, f5, f6⟩ := wat_facts first leave
  exact ⟨_, _, _, _, rfl, rfl, rfl, rfl, f1, f2, f3, f4, f5, f6, wat_valid first, wS0_items first, wT_items first, wU_items first, wU2_items first leave⟩
end Go.Proofs.YtnefbeplgfdkkaaDoor
