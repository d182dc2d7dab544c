/-
  A tape that came in, as a row.
-/
import Derived.Test.YtnefbeplgfdkkaaGreatDoorFRow
import Derived.Test.YtnefbeplgfdkkaaGreatDoorTape
namespace Go.Proofs.YtnefbeplgfdkkaaGreatDoor
open Go.ChangeShapes Go.WideShapes Go.ChangeAt Go.RowKit Go.Joins Go.Deep
section
variable {H : Type} {enc : TypeId × Value → H} {P : Program} {w : World} {base : Nat} {held : Bool}
/-- A slice of integers that came in, as a row. -/
theorem row_of_ints {t e : TypeId} {k : IntKind} {fuel : Nat} {v : Value} {y : DataW H × List MemPlace} (ht : P.underlying t = some (.slice e)) (he : P.underlying e = some (.int k)) (hc : P.cellsOf e = 1)
    (h : DataW.trod enc P w base (fun _ => true) held fuel t [v] = some y) : ∃ (A : Option Addr) (n c : Nat) (zs : List Int), v = .slice A n c ∧ Row w none_ 1 A n c (zs.map (Value.int k)) ∧ ∀ z ∈ zs, (Lit.int k z).wf = true := by
  rcases open_ints ht he hc h with ⟨hcs, -⟩ | ⟨a, len, cap, zs, hcs, -, hl, hm, hz, -, hcell, hwz⟩
  · simp only [List.cons.injEq, and_true] at hcs
    exact ⟨none, 0, 0, [], hcs, Row.nil _ _ _ _ _ (Nat.zero_le _), fun z hz => by cases hz⟩
  · simp only [List.cons.injEq, and_true] at hcs
    simp only [if_true] at hz
    refine ⟨some a, len, cap, zs.take len, hcs, ⟨by simp; omega, hl, hm, fun hn => ?_⟩, fun z hz => hwz z (List.mem_of_mem_take hz)⟩
    obtain ⟨b, o, rfl, hc⟩ := ints_at hcell (by omega)
    refine ⟨b, o, rfl, fun e => e, fun j u hu => ?_⟩
    rw [List.getElem?_map, List.getElem?_take] at hu
    split at hu
    · have hj : j < zs.length := by omega
      rw [hc j hj, List.getD_eq_getElem?_getD, List.getElem?_eq_getElem hj]
      rw [List.getElem?_eq_getElem hj] at hu
      simpa using hu
    · simp at hu
theorem tape_of {v : Value} {d : DataW H} {p : List MemPlace} (h : DataW.Trod enc Tryz.prog w base (fun _ => true) held 26 v d p) (hv : ∃ a l c, v = .slice a l c) : ∃ (A : Option Addr) (n c : Nat) (zs : List Int), v = .slice A n c ∧ Row w none_ 1 A n c (zs.map (Value.int .i64)) ∧ I64s zs := by
  obtain ⟨a, l, c, rfl⟩ := hv
  obtain ⟨fuel, hf⟩ := h
  obtain ⟨A, n, c, zs, e, hr, hw⟩ := row_of_ints Tryz.underlying26 Tryz.underlying3 (by kernel_rfl) (by simpa [Value.cells] using hf)
  refine ⟨A, n, c, zs, e, hr, fun z hz => ?_⟩
  exact bounds_i64 (hw z hz)
end
end Go.Proofs.YtnefbeplgfdkkaaGreatDoor
