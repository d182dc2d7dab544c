/-
  Two facts on events in memory.
-/
import Derived.Test.YtnefbeplgfdkkaaGreatDoorLateP
namespace Go.Proofs.YtnefbeplgfdkkaaGreatDoor
open Go.RowKit

theorem ev_info : (Tryz.prog.info? 78).map (fun i => (i.zero, i.size, i.bytes)) = some (some (.agg #[.int .i64 0, .string ⟨#[]⟩, .string ⟨#[]⟩, .slice none 0 0, .int .i64 0, .slice none 0 0]), 6, 96) := by kernel_rfl
theorem Keep.then_none {a w w' : World} {S : Nat → Prop} (h : Keep none_ a w) (k : Keep S w w') (hS : ∀ x, S x → a.heap.size ≤ x) : Keep none_ a w' := h.then k (fun x e => .inr (hS x e))
end Go.Proofs.YtnefbeplgfdkkaaGreatDoor
