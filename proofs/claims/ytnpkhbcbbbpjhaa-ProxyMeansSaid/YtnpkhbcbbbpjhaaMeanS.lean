/-
  What ProxyMeans asks, in plain words: a reduced sample lies between its four, and mirrors reduce to mirrors.
-/
import Derived.Test.YtnpkhbcbbbpjhaaSpec
namespace Go.Proofs.Ytnpkhbcbbbpjhaa
open Go.RowKit

/-- The mirrored row of sample i. -/
def mirAt (i : Nat) : Nat := i / 32 * 32 + 31 - i % 32
def mir (p : List Int) (n : Nat) : List Int := (List.range n).map fun i => p.getD (mirAt i) 0
theorem mir_length (p : List Int) (n : Nat) : (mir p n).length = n := by simp [mir]
theorem mir_succ (p : List Int) (n : Nat) : mir p (n + 1) = mir p n ++ [p.getD (mirAt n) 0] := by simp [mir, List.range_succ]
theorem mir_get (p : List Int) (n i : Nat) (h : i < n) : (mir p n).getD i 0 = p.getD (mirAt i) 0 := by
  simp [mir, List.getD_eq_getElem?_getD, h]
theorem mir_u8 {p : List Int} (h : U8s p) (n : Nat) : U8s (mir p n) := fun z hz => by
  simp only [mir, List.mem_map] at hz
  obtain ⟨i, -, rfl⟩ := hz
  exact getD_u8 h _
theorem redPlane_get (p : List Int) (W i : Nat) (h : i < p.length / 4) : (redPlane p W).getD i 0 = redAt p W i := by
  simp [redPlane, List.getD_eq_getElem?_getD, h]

/-- Mirrors reduce to mirrors. -/
theorem red_mir (p : List Int) (i : Nat) (h : i < 512) : redAt (mir p 2048) 32 (i / 16 * 16 + 15 - i % 16) = redAt p 32 i := by
  have e0 : at4 32 (i / 16 * 16 + 15 - i % 16) = i / 16 * 64 + (15 - i % 16) * 2 := by unfold at4; omega
  have e1 : at4 32 i = i / 16 * 64 + i % 16 * 2 := by unfold at4; omega
  have hr : i % 16 < 16 := Nat.mod_lt _ (by decide)
  have hq : i / 16 < 32 := by omega
  have m0 : mirAt (i / 16 * 64 + (15 - i % 16) * 2) = i / 16 * 64 + i % 16 * 2 + 1 := by unfold mirAt; omega
  have m1 : mirAt (i / 16 * 64 + (15 - i % 16) * 2 + 1) = i / 16 * 64 + i % 16 * 2 := by unfold mirAt; omega
  have m2 : mirAt (i / 16 * 64 + (15 - i % 16) * 2 + 32) = i / 16 * 64 + i % 16 * 2 + 32 + 1 := by unfold mirAt; omega
  have m3 : mirAt (i / 16 * 64 + (15 - i % 16) * 2 + 32 + 1) = i / 16 * 64 + i % 16 * 2 + 32 := by unfold mirAt; omega
  unfold redAt
  rw [e0, e1, mir_get _ _ _ (by omega), mir_get _ _ _ (by omega), mir_get _ _ _ (by omega), mir_get _ _ _ (by omega), m0, m1, m2, m3]
  generalize p.getD (i / 16 * 64 + i % 16 * 2) 0 = a
  generalize p.getD (i / 16 * 64 + i % 16 * 2 + 1) 0 = b
  generalize p.getD (i / 16 * 64 + i % 16 * 2 + 32) 0 = c
  generalize p.getD (i / 16 * 64 + i % 16 * 2 + 32 + 1) 0 = d
  omega
end Go.Proofs.Ytnpkhbcbbbpjhaa
