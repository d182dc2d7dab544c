/-
  proxy.Reduce, for every frame.
-/
import Derived.Test.YtnpkhbcbbbpjhaaRedP
namespace Go.Proofs.Ytnpkhbcbbbpjhaa
open Go.RowKit

/-- A frame as an argument. -/
theorem reduceP_any (f : Fr) (v : Value) (w : World) (S : Nat → Prop) (hf : FrameOf w S v f) : Calls Try.prog 7 #[v] w (ReducePost f w) := by
  obtain ⟨y, u, x, rfl, ⟨A1, n1, c1, rfl, r1, u1⟩, ⟨A2, n2, c2, rfl, r2, u2⟩, ⟨A3, n3, c3, rfl, r3, u3⟩⟩ := hf
  obtain ⟨W, H, Y, U, V⟩ := f
  have l1 : Y.length = n1 := by have := r1.len; simpa using this
  have l2 : U.length = n2 := by have := r2.len; simpa using this
  have l3 : V.length = n3 := by have := r3.len; simpa using this
  cases hok : redOk W H n1 n2 n3 with
  | false =>
    refine (reduceP_no W H A1 A2 A3 n1 c1 n2 c2 n3 c3 w hok).mono ?_
    rintro e w' ⟨rfl, hk⟩
    have e1 : redOkF ⟨W, H, Y, U, V⟩ = false := by simp only [redOkF, l1, l2, l3, hok]
    refine ⟨_, by rw [redE, e1]; rfl, ?_, hk⟩
    rw [redF, e1]
    exact ⟨_, _, _, rfl, BytesOf.nil _ _, BytesOf.nil _ _, BytesOf.nil _ _⟩
  | true =>
    have e1 : redOkF ⟨W, H, Y, U, V⟩ = true := by simp only [redOkF, l1, l2, l3, hok]
    simp only [redOk, Bool.and_eq_true, Bool.or_eq_true, beq_iff_eq] at hok
    obtain ⟨⟨⟨⟨hW, hH⟩, h1⟩, h2⟩, h3⟩ := hok
    have post : ∀ e w', (∃ v, e = Ending.returned (.tuple #[v, .int .i64 0]) ∧ FrameOf w' none_ v (redFr ⟨W, H, Y, U, V⟩) ∧ Keep none_ w w') → ReducePost ⟨W, H, Y, U, V⟩ w e w' := by
      rintro e w' ⟨v, rfl, hf, hk⟩
      exact ⟨v, by rw [redE, e1]; rfl, by rw [redF, e1]; exact hf, hk⟩
    rcases hW with rfl | rfl <;> rcases hH with rfl | rfl
    · obtain rfl : n1 = 1024 := by omega
      obtain rfl : n2 = 256 := by omega
      obtain rfl : n3 = 256 := by omega
      have e2 : redFr ⟨32, 32, Y, U, V⟩ = ⟨16, 16, redPlane Y 32, redPlane U 16, redPlane V 16⟩ := by simp [redFr]
      rw [e2] at post
      exact (reduceP_32_32 A1 A2 A3 c1 c2 c3 Y U V w r1.free r2.free r3.free u1 u2 u3).mono post
    · obtain rfl : n1 = 2048 := by omega
      obtain rfl : n2 = 512 := by omega
      obtain rfl : n3 = 512 := by omega
      have e2 : redFr ⟨32, 64, Y, U, V⟩ = ⟨16, 32, redPlane Y 32, redPlane U 16, redPlane V 16⟩ := by simp [redFr]
      rw [e2] at post
      exact (reduceP_32_64 A1 A2 A3 c1 c2 c3 Y U V w r1.free r2.free r3.free u1 u2 u3).mono post
    · obtain rfl : n1 = 2048 := by omega
      obtain rfl : n2 = 512 := by omega
      obtain rfl : n3 = 512 := by omega
      have e2 : redFr ⟨64, 32, Y, U, V⟩ = ⟨32, 16, redPlane Y 64, redPlane U 32, redPlane V 32⟩ := by simp [redFr]
      rw [e2] at post
      exact (reduceP_64_32 A1 A2 A3 c1 c2 c3 Y U V w r1.free r2.free r3.free u1 u2 u3).mono post
    · obtain rfl : n1 = 4096 := by omega
      obtain rfl : n2 = 1024 := by omega
      obtain rfl : n3 = 1024 := by omega
      have e2 : redFr ⟨64, 64, Y, U, V⟩ = ⟨32, 32, redPlane Y 64, redPlane U 32, redPlane V 32⟩ := by simp [redFr]
      rw [e2] at post
      exact (reduceP_64_64 A1 A2 A3 c1 c2 c3 Y U V w r1.free r2.free r3.free u1 u2 u3).mono post
end Go.Proofs.Ytnpkhbcbbbpjhaa
