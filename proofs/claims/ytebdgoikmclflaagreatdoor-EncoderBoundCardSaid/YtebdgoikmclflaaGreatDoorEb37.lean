/-
  macroblock.Reconstruct of the Intra macroblock without levels other than 0.
-/
import Derived.Test.YtebdgoikmclflaaGreatDoorEb36
import Derived.Test.YtebdgoikmclflaaGreatDoorEb35
namespace Go.Proofs.YtebdgoikmclflaaGreatDoor
open Go.RowKit

def zFr : List Value := [.int .i64 0, .int .i64 0, .slice none 0 0, .slice none 0 0, .slice none 0 0]
def rfV : Array Value := (zFr ++ zFr ++ zFr).toArray
set_option maxRecDepth 100000 in
set_option maxHeartbeats 4000000 in
theorem reconstruct_any (w : World) : Calls Tryz.prog 47 #[.agg #[.int .i64 1, .int .i64 3, .bool false, .bool false], .agg plV, .bool false, .int .i64 8, .agg mbV, .agg rfV, .int .i64 0, .int .i64 0] w fun e w' => ∃ d1 d2 d3, e = .returned (.tuple #[.agg (frV d1 d2 d3), .int .i64 0]) ∧ NewFr w' w.heap.size 128 d1 d2 d3 ∧ Keep none_ w w' := by
  obtain ⟨Wa, hWa⟩ : ∃ Wa, Wa = ((w.alloc (.cells #[.int .i64 1, .int .i64 3, .bool false, .bool false] 63)).alloc (.cells plV 26)).alloc (.cells mbV 102) := ⟨_, rfl⟩
  obtain ⟨W0, hW0⟩ : ∃ W0, W0 = (Wa.alloc (.cells rfV 45)).alloc (.cells #[.int .i64 0, .int .i64 0, .slice none 0 0, .slice none 0 0, .slice none 0 0] 32) := ⟨_, rfl⟩
  obtain ⟨c0, s0, m0, ka⟩ := three (Keep.eq_ hWa)
  obtain ⟨-, r0, kb⟩ := two (Keep.eq_ hW0)
  have sz : Wa.heap.size = w.heap.size + 1 + 1 + 1 := by rw [hWa]; simp
  rw [sz] at r0
  have C0 := Lib.hid (c0.keep kb (fun e => e))
  have S0 := Lib.hid (s0.keep kb (fun e => e))
  have M0 := Lib.hid (m0.keep kb (fun e => e))
  have R0 := Lib.hid r0
  have K0 := Lib.hid (ka.trans kb)
  rw [hWa] at hW0
  clear c0 s0 m0 r0 ka kb sz hWa
  have M0c : W0.cell? ⟨w.heap.size + 1 + 1, 0, none⟩ = some (.int .i64 1) := M0.out.cell 0
  go_enter Tryz.func47, Tryz.ntmps47
  go_upto_region 1 with (fail)
  rw [← hW0]
  clear hW0
  have tk1 : True := trivial
  have tk2 : True := trivial
  have tk3 : True := trivial
  have tk4 : True := trivial
  have tk5 : True := trivial
  have tk6 : True := trivial
  have tk7 : True := trivial
  have tk8 : True := trivial
  go_upto_region 3 with (first | (have _t := tk1; refine wpList_load_part 63 (.tmp 8) rfl rfl (w.heap.size) (0) rfl (#[.int .i64 1, .int .i64 3, .bool false, .bool false]) _ (C0.out.rangeAt) Tryz.underlying63 rfl (by kernel_rfl) ?_; go_frame; clear _t tk1) | (have _t := tk2; refine wpList_load_part 102 (.tmp 12) rfl rfl (w.heap.size + 1 + 1) (0) rfl (mbV) _ (M0.out.rangeAt) Tryz.underlying102 rfl (by rw [mbV_size]; kernel_rfl) ?_; go_frame; clear _t tk2) | (have _t := tk3; go_at_call 75; refine (formed_mb _).mono ?_; rintro e w1 ⟨rfl, k⟩; have S1 := Lib.hid (S0.out.keep k (fun e => e)); have M1 := Lib.hid (M0.out.keep k (fun e => e)); have R1 := Lib.hid (R0.out.keep k (fun e => e)); have K1 := Lib.hid (K0.out.trans k); clear k; clear _t tk3) | (have _t := tk4; refine wpList_load_part 24 (.tmp 27) rfl rfl (w.heap.size + 1) (7) rfl (M16) _ (S1.out.sub 7 M16.toList (by kernel_rfl)) Tryz.underlying24 rfl (by rw [M16_size]; kernel_rfl) ?_; go_frame; clear _t tk4) | (have _t := tk5; go_at_call 27; refine (qvalid16 _).mono ?_; rintro e w2 ⟨rfl, k⟩; have S2 := Lib.hid (S1.out.keep k (fun e => e)); have M2 := Lib.hid (M1.out.keep k (fun e => e)); have R2 := Lib.hid (R1.out.keep k (fun e => e)); have K2 := Lib.hid (K1.out.trans k); clear k; clear _t tk5) | (have _t := tk6; refine wpList_load_part 24 (.tmp 33) rfl rfl (w.heap.size + 1) (71) rfl (M16) _ (S2.out.sub 71 M16.toList (by kernel_rfl)) Tryz.underlying24 rfl (by rw [M16_size]; kernel_rfl) ?_; go_frame; clear _t tk6) | (have _t := tk7; go_at_call 27; refine (qvalid16 _).mono ?_; rintro e w3 ⟨rfl, k⟩; have S3 := Lib.hid (S2.out.keep k (fun e => e)); have M3 := Lib.hid (M2.out.keep k (fun e => e)); have R3 := Lib.hid (R2.out.keep k (fun e => e)); have K3 := Lib.hid (K2.out.trans k); clear k; clear _t tk7) | (have _t := tk8; go_at_call 76; refine (vqM 8 _).mono ?_; rintro e w' ⟨rfl, rfl⟩; clear _t tk8))
  have x0 : w3.cell? ⟨w.heap.size + 1 + 1, 0, none⟩ = some (.int .i64 1) := M3.out.cell 0
  have tk9 : True := trivial
  go_upto_region 7 with ((have _t := tk9; go_at_call 51; refine (pflat_any 128 (by decide) w3).mono ?_; rintro e w4 ⟨b1, b2, b3, rfl, hn, k⟩; have N4 := Lib.hid hn; clear hn; have S4 := Lib.hid (S3.out.keep k (fun e => e)); have M4 := Lib.hid (M3.out.keep k (fun e => e)); have R4 := Lib.hid (R3.out.keep k (fun e => e)); have K4 := Lib.hid (K3.out.trans k); clear k; clear _t tk9))
  obtain ⟨W5, hW5⟩ : ∃ W5, W5 = w4.alloc (.cells #[.int .i64 16, .int .i64 16, .slice (some ⟨b1, 0, none⟩) 256 256, .slice (some ⟨b2, 0, none⟩) 64 64, .slice (some ⟨b3, 0, none⟩) 64 64] 32) := ⟨_, rfl⟩
  rw [← hW5]
  have k5 : Keep none_ w4 W5 := hW5 ▸ (Keep.refl _ _).alloc _
  have F5 := Lib.hid (show Blk W5 w4.heap.size 32 (frV b1 b2 b3) from hW5 ▸ Blk.new _ _ _)
  have N5 := Lib.hid (N4.out.keep0 k5)
  have S5 := Lib.hid (S4.out.keep k5 (fun e => e))
  have M5 := Lib.hid (M4.out.keep k5 (fun e => e))
  have R5 := Lib.hid (R4.out.keep k5 (fun e => e))
  have K5 := Lib.hid (K4.out.trans k5)
  have L3 := Lib.hid (show w.heap.size + 1 + 1 + 1 + 1 < w3.heap.size from (show Blk _ _ _ _ from R3.out).lt)
  clear hW5 k5 R4 S4 M4 S3 M3 R3 S2 M2 R2 S1 M1 R1
  have tk10 : True := trivial
  have tk11 : True := trivial
  have tk12 : True := trivial
  have tk13 : True := trivial
  go_wp2_with (first | (have _t := tk10; refine wpList_load_part 32 (.tmp 18) rfl rfl (w4.heap.size) (0) rfl (frV b1 b2 b3) _ (F5.out.rangeAt) Tryz.underlying32 rfl (by kernel_rfl) ?_; go_frame; clear _t tk10) | (have _t := tk11; refine wpList_load_part 24 (.tmp 56) rfl rfl (w.heap.size + 1) (7) rfl (M16) _ (S5.out.sub 7 M16.toList (by kernel_rfl)) Tryz.underlying24 rfl (by rw [M16_size]; kernel_rfl) ?_; go_frame; clear _t tk11) | (have _t := tk12; go_at_call 77; refine (add_any 128 (by decide) b1 b2 b3 w3.heap.size (w.heap.size + 1 + 1) W5 N5.out M5.out).mono ?_; rintro e w6 ⟨d1, d2, d3, rfl, hn, k⟩; have N6 := Lib.hid hn; clear hn; have R6 := Lib.hid (R5.out.keep k (fun e => e)); have K6 := Lib.hid (K5.out.trans k); clear k; clear _t tk12) | (have _t := tk13; refine wpList_store_blk rfl 32 (.tmp 16) (.tmp 61) rfl (w.heap.size + 1 + 1 + 1 + 1) 32 _ (frV d1 d2 d3) rfl rfl (R6.out) (rfl) (by kernel_rfl) (by kernel_rfl) ?_; intro w7 B7_ K7_ sz_; have B7 := Lib.hid B7_; have K7 := Lib.hid K7_; clear B7_ K7_ sz_; go_frame; clear _t tk13))
  have nn : ∀ b, w3.heap.size ≤ b → ¬ one (w.heap.size + 1 + 1 + 1 + 1) b := fun b h e => by have := L3.out; unfold one at e; omega
  have n7 := N6.out.keep K7.out (nn _ N6.out.l1) (nn _ N6.out.l2) (nn _ N6.out.l3)
  refine bodyPost_ret (results_cell_tmp' Tryz.results47 rfl (run_loadVar_blk B7.out Tryz.underlying32 rfl (by kernel_rfl))) rfl ⟨d1, d2, d3, rfl, n7.low (by have := L3.out; omega), K6.out.own K7.out (by omega)⟩
end Go.Proofs.YtebdgoikmclflaaGreatDoor
/-
  Regions that draw their order, whose calls leave all old memory: one list of facts.
-/
namespace Go.Proofs.YtebdgoikmclflaaGreatDoor
open Go.RowKit

/-- What operation k leaves: a fact that later operations of the region leave alone. -/
structure Pf where
  k : Nat
  X : List Value → Value → World → Prop
  st : ∀ vs v w w', X vs v w → Keep none_ w w' → X vs v w'
def pfAt : List Pf → Nat → List Value → Value → World → Prop
  | [], _ => fun _ _ _ => True
  | p :: r, k => if p.k = k then p.X else pfAt r k
theorem pfAt_keep : ∀ (L : List Pf) (k : Nat) (vs : List Value) (v : Value) (w w' : World), pfAt L k vs v w → Keep none_ w w' → pfAt L k vs v w'
  | [], _, _, _, _, _, _, _ => trivial
  | p :: r, k, vs, v, w, w', h, hk => by
    unfold pfAt at h ⊢
    split at h
    · rename_i e; rw [if_pos e]; exact p.st _ _ _ _ h hk
    · rename_i e; rw [if_neg e]; exact pfAt_keep r k vs v w w' h hk
def pureCalm (wr : World) (L : List Pf) : Calm where
  R := fun _ => Keep none_
  G := fun _ => Keep none_ wr
  eff := L.map (·.k)
  T := fun k vs v w => pfAt L k vs v w
  anc := fun _ => []
  own := fun _ _ _ => False
theorem pureCalm_good (wr : World) (L : List Pf) : (pureCalm wr L).Good :=
  ⟨fun _ _ h => h, fun _ _ _ h => h.size, fun _ _ _ _ _ _ _ _ h k => pfAt_keep _ _ _ _ _ _ h k⟩
theorem pureCalm_at {wr : World} {L : List Pf} (x : (pureCalm wr L).Sub) : Keep none_ wr ((pureCalm wr L).at_ x) := by
  obtain ⟨x, n, _, h⟩ := x
  exact h
theorem pureCalm_some (wr : World) (L : List Pf) : Nonempty (pureCalm wr L).Sub := ⟨⟨wr, 0, Nat.zero_le _, Keep.refl _ _⟩⟩
/-- A new variable. -/
def NewV (lo : Nat) (t : TypeId) (cs : Array Value) (v : Value) (w : World) : Prop := ∃ b, v = .pointer (some ⟨b, 0, none⟩) ∧ lo ≤ b ∧ Blk w b t cs
theorem NewV.keep {lo : Nat} {t : TypeId} {cs : Array Value} {v : Value} {w w' : World} (h : NewV lo t cs v w) (k : Keep none_ w w') : NewV lo t cs v w' := by
  obtain ⟨b, e, h1, h2⟩ := h
  exact ⟨b, e, h1, h2.keep k (fun e => e)⟩
theorem NewV.out_ {lo : Nat} {t : TypeId} {cs : Array Value} {b : Nat} {w : World} (h : NewV lo t cs (.pointer (some ⟨b, 0, none⟩)) w) : lo ≤ b ∧ Blk w b t cs := by
  obtain ⟨b', e, h1, h2⟩ := h
  simp only [Value.pointer.injEq, Option.some.injEq, Addr.mk.injEq, and_true] at e
  subst e
  exact ⟨h1, h2⟩
/-- A new frame of one number, as a value. -/
def FrT (lo : Nat) (z : Int) (v : Value) (w : World) : Prop := ∃ d1 d2 d3, v = .agg (frV d1 d2 d3) ∧ NewFr w lo z d1 d2 d3
def FrE (lo : Nat) (z : Int) (v : Value) (w : World) : Prop := ∃ d1 d2 d3, v = .tuple #[.agg (frV d1 d2 d3), .int .i64 0] ∧ NewFr w lo z d1 d2 d3
section
variable {lo : Nat} {z : Int} {v : Value} {w w' : World} {d1 d2 d3 : Nat}
theorem FrT.keep (h : FrT lo z v w) (k : Keep none_ w w') : FrT lo z v w' := by
  obtain ⟨d1, d2, d3, e, n⟩ := h
  exact ⟨d1, d2, d3, e, n.keep0 k⟩
theorem FrE.keep (h : FrE lo z v w) (k : Keep none_ w w') : FrE lo z v w' := by
  obtain ⟨d1, d2, d3, e, n⟩ := h
  exact ⟨d1, d2, d3, e, n.keep0 k⟩
theorem FrT.out_ (h : FrT lo z (.agg (frV d1 d2 d3)) w) : NewFr w lo z d1 d2 d3 := by
  obtain ⟨q1, q2, q3, e, n⟩ := h
  unfold frV at e
  simp only [Array.mk.injEq, List.cons.injEq, Value.agg.injEq, Value.slice.injEq, Option.some.injEq, Addr.mk.injEq, and_true, true_and] at e
  obtain ⟨rfl, rfl, rfl⟩ := e
  exact n
theorem FrE.out_ (h : FrE lo z (.tuple #[.agg (frV d1 d2 d3), .int .i64 0]) w) : NewFr w lo z d1 d2 d3 := by
  obtain ⟨q1, q2, q3, e, n⟩ := h
  unfold frV at e
  simp only [Value.tuple.injEq, Array.mk.injEq, List.cons.injEq, Value.agg.injEq, Value.slice.injEq, Option.some.injEq, Addr.mk.injEq, and_true, true_and] at e
  obtain ⟨rfl, rfl, rfl⟩ := e
  exact n
end
end Go.Proofs.YtebdgoikmclflaaGreatDoor
