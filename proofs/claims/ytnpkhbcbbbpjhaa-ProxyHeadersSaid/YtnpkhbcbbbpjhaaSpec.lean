/-
  What Reduce computes, in plain words.
-/
import Derived.Test.YtnpkhbcbbbpjhaaWords
namespace Go.Proofs.Ytnpkhbcbbbpjhaa
open Go.RowKit

/-- The first of the four samples that sample i of the reduced plane covers. -/
def at4 (W i : Nat) : Nat := i / (W / 2) * 2 * W + i % (W / 2) * 2
def redAt (p : List Int) (W i : Nat) : Int := (p.getD (at4 W i) 0 + p.getD (at4 W i + 1) 0 + p.getD (at4 W i + W) 0 + p.getD (at4 W i + W + 1) 0 + 2) / 4
def redPlane (p : List Int) (W : Nat) : List Int := (List.range (p.length / 4)).map (redAt p W)

theorem getD_u8 {p : List Int} (h : U8s p) (j : Nat) : 0 ≤ p.getD j 0 ∧ p.getD j 0 ≤ 255 := by
  rw [List.getD_eq_getElem?_getD]
  cases hj : p[j]? with
  | none => simp
  | some z => exact h z (List.mem_of_getElem? hj)
theorem redAt_u8 {p : List Int} (h : U8s p) (W i : Nat) : 0 ≤ redAt p W i ∧ redAt p W i ≤ 255 := by
  have h1 := getD_u8 h (at4 W i)
  have h2 := getD_u8 h (at4 W i + 1)
  have h3 := getD_u8 h (at4 W i + W)
  have h4 := getD_u8 h (at4 W i + W + 1)
  unfold redAt
  omega

/-- A cell of a row of bytes. -/
theorem Row.u8 {w : World} {S : Nat → Prop} {A : Option Addr} {n c : Nat} {p : List Int} (h : Row w S 1 A n c (p.map (Value.int .u8))) (hn : 0 < n) : ∃ b o, A = some ⟨b, o, none⟩ ∧ ¬ S b ∧ ∀ j, j < n → w.cell? ⟨b, o + j, none⟩ = some (.int .u8 (p.getD j 0)) := by
  obtain ⟨b, o, e, hb, hc⟩ := h.at_ hn
  refine ⟨b, o, e, hb, fun j hj => hc j _ ?_⟩
  have hl : j < p.length := by have := h.len; simp at this; omega
  simp [hl]

def RedPost (p : List Int) (W : Nat) (w : World) (e : Ending) (w' : World) : Prop := ∃ v, e = .returned v ∧ BytesOf w' (lt_ w.heap.size) v (redPlane p W) ∧ Keep none_ w w'
/-- 22.1: which frames can be reduced. -/
def redOk (W H : Int) (n1 n2 n3 : Nat) : Bool := (W == 32 || W == 64) && (H == 32 || H == 64) && ((n1 : Int) == W * H) && ((n2 : Int) == W * H / 4) && ((n3 : Int) == W * H / 4)

/-- 20.1: which frames are valid. -/
def validF (W H : Int) (n1 n2 n3 : Nat) : Bool := !(decide (W < 16) || decide (64 < W) || (W % 16 != 0) || decide (H < 16) || decide (64 < H) || (H % 16 != 0)) && ((n1 : Int) == W * H) && ((n2 : Int) == W * H / 4) && ((n3 : Int) == W * H / 4)

theorem redOk_valid (W H : Int) (n1 n2 n3 : Nat) : redOk W H n1 n2 n3 = (validF W H n1 n2 n3 && (W % 32 == 0) && (H % 32 == 0)) := by
  unfold redOk validF
  generalize ((n1 : Int) == W * H) = a
  generalize ((n2 : Int) == W * H / 4) = b
  generalize ((n3 : Int) == W * H / 4) = c
  have e : ((W == 32 || W == 64) && (H == 32 || H == 64)) = (!(decide (W < 16) || decide (64 < W) || (W % 16 != 0) || decide (H < 16) || decide (64 < H) || (H % 16 != 0)) && (W % 32 == 0) && (H % 32 == 0)) := by
    rw [Bool.eq_iff_iff]
    simp
    omega
  rw [e]
  generalize (!(decide (W < 16) || decide (64 < W) || (W % 16 != 0) || decide (H < 16) || decide (64 < H) || (H % 16 != 0))) = x
  generalize (W % 32 == 0) = y
  generalize (H % 32 == 0) = z
  cases x <;> cases y <;> cases z <;> cases a <;> cases b <;> cases c <;> rfl
def redOkF (f : Fr) : Bool := redOk f.W f.H f.Y.length f.U.length f.V.length
def redFr (f : Fr) : Fr := ⟨f.W / 2, f.H / 2, redPlane f.Y f.W.toNat, redPlane f.U (f.W.toNat / 2), redPlane f.V (f.W.toNat / 2)⟩
def zeroFr : Fr := ⟨0, 0, [], [], []⟩
def redF (f : Fr) : Fr := if redOkF f then redFr f else zeroFr
def redE (f : Fr) : Int := if redOkF f then 0 else 1

def ReducePost (f : Fr) (w : World) (e : Ending) (w' : World) : Prop := ∃ v, e = .returned (.tuple #[v, .int .i64 (redE f)]) ∧ FrameOf w' none_ v (redF f) ∧ Keep none_ w w'


end Go.Proofs.Ytnpkhbcbbbpjhaa
