/-
  Words for frames and bytes in memory (over Gen).
-/
import Derived.Test.YtebdgoikmclflaaGreatDoorEb03
namespace Go.Proofs.YtebdgoikmclflaaGreatDoor
open Go.RowKit
theorem u8_info : (Tryz.prog.info? 5).map (fun i => (i.zero, i.size, i.bytes)) = some (some (.int .u8 0), 1, 1) := by kernel_rfl

/-- Every number of the list is a byte. -/
def U8s (zs : List Int) : Prop := ∀ z ∈ zs, 0 ≤ z ∧ z ≤ 255

/-- A frame's samples. -/
structure Fr where
  W : Int
  H : Int
  Y : List Int
  U : List Int
  V : List Int

/-- A slice of bytes. -/
def BytesOf (w : World) (S : Nat → Prop) (v : Value) (zs : List Int) : Prop := ∃ A n c, v = .slice A n c ∧ Row w S 1 A n c (zs.map (Value.int .u8)) ∧ U8s zs

def FrameOf (w : World) (S : Nat → Prop) (v : Value) (f : Fr) : Prop :=
  ∃ y u x, v = .agg #[.int .i64 f.W, .int .i64 f.H, y, u, x] ∧ BytesOf w S y f.Y ∧ BytesOf w S u f.U ∧ BytesOf w S x f.V


theorem mk_u8 (n : Nat) (hn : n ≤ 65536) (w : World) : (Instr.makeSlice 30 (.int .i64 (n : Int)) (.int .i64 (n : Int))).run Tryz.prog w = .ok (.slice (some ⟨w.heap.size, 0, none⟩) n n) (w.alloc (.cells (madeCells #[.int .u8 0] n) 5)) :=
  run_make_row' 30 5 (.int .u8 0) 1 Tryz.underlying30 u8_info rfl .i64 .i64 n (by omega) (by omega) w

/-- Block b holds the bytes zs. -/
def ByteBlk (w : World) (b : Nat) (zs : List Int) : Prop := Blk w b 5 (zs.map (Value.int .u8)).toArray ∧ U8s zs
/-- A frame's variable: block g holds its five fields, each slice in a block of its own. -/
structure FrameBlk (w : World) (g by_ bu bv : Nat) (f : Fr) : Prop where
  blk : Blk w g 32 #[.int .i64 f.W, .int .i64 f.H, .slice (some ⟨by_, 0, none⟩) f.Y.length f.Y.length, .slice (some ⟨bu, 0, none⟩) f.U.length f.U.length, .slice (some ⟨bv, 0, none⟩) f.V.length f.V.length]
  y : ByteBlk w by_ f.Y
  u : ByteBlk w bu f.U
  v : ByteBlk w bv f.V
  yu : by_ ≠ bu
  yv : by_ ≠ bv
  uv : bu ≠ bv

section
variable {w w' : World} {S : Nat → Prop} {b g by_ bu bv : Nat} {zs : List Int} {f : Fr}
theorem ByteBlk.keep (h : ByteBlk w b zs) (k : Keep S w w') (hS : ¬ S b) : ByteBlk w' b zs := ⟨h.1.keep k hS, h.2⟩
theorem ByteBlk.cell (h : ByteBlk w b zs) {k : Nat} (hk : k < zs.length) : w.cell? ⟨b, k, none⟩ = some (.int .u8 zs[k]) := by
  rw [h.1.cell]
  simp [hk]
theorem ByteBlk.set_ (h : ByteBlk w b zs) (k : Nat) {z : Int} (hz : 0 ≤ z ∧ z ≤ 255) : ByteBlk (w.setCell ⟨b, k, none⟩ (.int .u8 z)) b (zs.set k z) := by
  refine ⟨?_, fun x hx => ?_⟩
  · have := h.1.set_ k (.int .u8 z)
    simpa [List.map_set] using this
  · rcases List.mem_or_eq_of_mem_set hx with h1 | h1
    · exact h.2 x h1
    · rw [h1]; exact hz
theorem ByteBlk.far (h : ByteBlk w b zs) {p : Addr} (hp : b ≠ p.block) (u : Value) : ByteBlk (w.setCell p u) b zs := ⟨h.1.far hp u, h.2⟩
theorem ByteBlk.made (w : World) (n : Nat) : ∀ b, Blk w b 5 (madeCells #[.int .u8 0] n) → ByteBlk w b (List.replicate n 0) := fun b h => by
  refine ⟨?_, fun z hz => by rw [List.eq_of_mem_replicate hz]; omega⟩
  have e : madeCells #[Value.int .u8 0] n = ((List.replicate n (0 : Int)).map (Value.int .u8)).toArray := by
    apply Array.toList_inj.1
    rw [toList_madeCells_one]
    simp
  rw [← e]
  exact h
theorem FrameBlk.keep (h : FrameBlk w g by_ bu bv f) (k : Keep S w w') (h1 : ¬ S g) (h2 : ¬ S by_) (h3 : ¬ S bu) (h4 : ¬ S bv) : FrameBlk w' g by_ bu bv f :=
  ⟨h.blk.keep k h1, h.y.keep k h2, h.u.keep k h3, h.v.keep k h4, h.yu, h.yv, h.uv⟩
theorem FrameBlk.gne (h : FrameBlk w g by_ bu bv f) : by_ ≠ g ∧ bu ≠ g ∧ bv ≠ g := ⟨h.y.1.ne_ h.blk (by decide), h.u.1.ne_ h.blk (by decide), h.v.1.ne_ h.blk (by decide)⟩
theorem FrameBlk.setY (h : FrameBlk w g by_ bu bv f) (k : Nat) {z : Int} (hz : 0 ≤ z ∧ z ≤ 255) : FrameBlk (w.setCell ⟨by_, k, none⟩ (.int .u8 z)) g by_ bu bv { f with Y := f.Y.set k z } :=
  ⟨by have := h.blk.far (p := ⟨by_, k, none⟩) (Ne.symm h.gne.1) (.int .u8 z); simpa using this, h.y.set_ k hz, h.u.far (Ne.symm h.yu) _, h.v.far (Ne.symm h.yv) _, h.yu, h.yv, h.uv⟩
theorem FrameBlk.setU (h : FrameBlk w g by_ bu bv f) (k : Nat) {z : Int} (hz : 0 ≤ z ∧ z ≤ 255) : FrameBlk (w.setCell ⟨bu, k, none⟩ (.int .u8 z)) g by_ bu bv { f with U := f.U.set k z } :=
  ⟨by have := h.blk.far (p := ⟨bu, k, none⟩) (Ne.symm h.gne.2.1) (.int .u8 z); simpa using this, h.y.far h.yu _, h.u.set_ k hz, h.v.far (Ne.symm h.uv) _, h.yu, h.yv, h.uv⟩
theorem FrameBlk.setV (h : FrameBlk w g by_ bu bv f) (k : Nat) {z : Int} (hz : 0 ≤ z ∧ z ≤ 255) : FrameBlk (w.setCell ⟨bv, k, none⟩ (.int .u8 z)) g by_ bu bv { f with V := f.V.set k z } :=
  ⟨by have := h.blk.far (p := ⟨bv, k, none⟩) (Ne.symm h.gne.2.2) (.int .u8 z); simpa using this, h.y.far h.yv _, h.u.far h.uv _, h.v.set_ k hz, h.yu, h.yv, h.uv⟩
theorem FrameBlk.drewN (h : FrameBlk w g by_ bu bv f) (n : Nat) : FrameBlk (w.drewN n) g by_ bu bv f := ⟨h.blk, h.y, h.u, h.v, h.yu, h.yv, h.uv⟩
end

/-- The sizes of a frame. -/
structure Szd (f : Fr) (W H N M : Nat) : Prop where
  w : f.W = W
  h : f.H = H
  y : f.Y.length = N
  u : f.U.length = M
  v : f.V.length = M
theorem u8_range (z : Int) : 0 ≤ IntKind.u8.wrap z ∧ IntKind.u8.wrap z ≤ 255 := by rw [IntKind.wrap_u8]; omega

theorem BytesOf.keep {w w' : World} {S : Nat → Prop} {v : Value} {zs : List Int} (h : BytesOf w S v zs) (k : Keep S w w') : BytesOf w' S v zs := by
  obtain ⟨A, n, c, e, hr, hz⟩ := h
  exact ⟨A, n, c, e, hr.keep k, hz⟩
theorem BytesOf.sub {w : World} {S S' : Nat → Prop} {v : Value} {zs : List Int} (h : BytesOf w S v zs) (hS : ∀ k, S' k → S k) : BytesOf w S' v zs := by
  obtain ⟨A, n, c, e, hr, hz⟩ := h
  exact ⟨A, n, c, e, hr.sub hS, hz⟩
theorem BytesOf.free {w : World} {S : Nat → Prop} {v : Value} {zs : List Int} (h : BytesOf w S v zs) : BytesOf w none_ v zs := by
  obtain ⟨A, n, c, e, hr, hz⟩ := h
  exact ⟨A, n, c, e, hr.free, hz⟩
theorem BytesOf.nil (w : World) (S : Nat → Prop) : BytesOf w S (.slice none 0 0) [] := ⟨none, 0, 0, rfl, Row.nil _ _ _ _ _ (Nat.zero_le _), fun z h => by cases h⟩
theorem FrameOf.keep {w w' : World} {S : Nat → Prop} {v : Value} {f : Fr} (h : FrameOf w S v f) (k : Keep S w w') : FrameOf w' S v f := by
  obtain ⟨y, u, x, e, h1, h2, h3⟩ := h
  exact ⟨y, u, x, e, h1.keep k, h2.keep k, h3.keep k⟩
theorem FrameOf.free {w : World} {S : Nat → Prop} {v : Value} {f : Fr} (h : FrameOf w S v f) : FrameOf w none_ v f := by
  obtain ⟨y, u, x, e, h1, h2, h3⟩ := h
  exact ⟨y, u, x, e, h1.free, h2.free, h3.free⟩

def zeroFrame : Array Value := #[.int .i64 0, .int .i64 0, .slice none 0 0, .slice none 0 0, .slice none 0 0]
end Go.Proofs.YtebdgoikmclflaaGreatDoor
