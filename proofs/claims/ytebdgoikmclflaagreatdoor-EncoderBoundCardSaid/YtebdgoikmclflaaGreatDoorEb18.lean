/-
  plane.clone on frames of one number.
-/
import Derived.Test.YtebdgoikmclflaaGreatDoorEb16
import Derived.Test.YtebdgoikmclflaaGreatDoorEb17
namespace Go.Proofs.YtebdgoikmclflaaGreatDoor
open Go.RowKit

/-- Calls that leave what was there, whose results have blocks of their own, in a region that draws its order. -/
def newCalm (wr : World) (ks : List Nat) (T : Nat → Value → World → Prop) : Calm where
  R := fun _ => Keep none_
  G := fun _ => Keep none_ wr
  eff := ks
  T := fun k _ v w => T k v w
  anc := fun _ => []
  own := fun _ => ownBlk
theorem newCalm_good {wr : World} {ks : List Nat} {T : Nat → Value → World → Prop} (hT : ∀ k v w w', T k v w → Keep none_ w w' → T k v w') : (newCalm wr ks T).Good :=
  ⟨fun _ _ h => h, fun _ _ _ h => h.size, fun _ _ _ _ _ _ _ _ h k => hT _ _ _ _ h k⟩
theorem newCalm_at {wr : World} {ks : List Nat} {T : Nat → Value → World → Prop} (x : (newCalm wr ks T).Sub) : Keep none_ wr ((newCalm wr ks T).at_ x) := by
  obtain ⟨x, n, _, h⟩ := x
  exact h
theorem newCalm_some (wr : World) (ks : List Nat) (T : Nat → Value → World → Prop) : Nonempty (newCalm wr ks T).Sub := ⟨⟨wr, 0, Nat.zero_le _, Keep.refl _ _⟩⟩
theorem Keep.eq_ {S : Nat → Prop} {w w' : World} (h : w' = w) : Keep S w w' := h ▸ Keep.refl _ _
/-- A slice of N bytes z in a block of its own. -/
def NewB (n0 N : Nat) (z : Int) (v : Value) (w : World) : Prop := ∃ b, v = .slice (some ⟨b, 0, none⟩) N N ∧ ByteBlk w b (List.replicate N z) ∧ n0 ≤ b
theorem NewB.keep {n0 N : Nat} {z : Int} {v : Value} {w w' : World} (h : NewB n0 N z v w) (k : Keep none_ w w') : NewB n0 N z v w' := by
  obtain ⟨b, e, h, l⟩ := h
  exact ⟨b, e, h.keep k (fun e => e), l⟩
theorem NewB.of {n0 N : Nat} {z : Int} {b : Nat} {w : World} (h : NewB n0 N z (.slice (some ⟨b, 0, none⟩) N N) w) : ByteBlk w b (List.replicate N z) ∧ n0 ≤ b := by
  obtain ⟨b', e, h⟩ := h
  simp only [Value.slice.injEq, Option.some.injEq, Addr.mk.injEq, and_true] at e
  subst e
  exact h
theorem Blk.lt' {w : World} {b : Nat} {zs : List Int} (h : ByteBlk w b zs) : b < w.heap.size := (show Blk _ _ _ _ from h.1).lt
/-- A frame of 16 by 16 samples z in blocks of its own, none below lo. -/
structure NewFr (w : World) (lo : Nat) (z : Int) (b1 b2 b3 : Nat) : Prop where
  y : ByteBlk w b1 (List.replicate 256 z)
  u : ByteBlk w b2 (List.replicate 64 z)
  v : ByteBlk w b3 (List.replicate 64 z)
  yu : b1 ≠ b2
  yv : b1 ≠ b3
  uv : b2 ≠ b3
  l1 : lo ≤ b1
  l2 : lo ≤ b2
  l3 : lo ≤ b3
theorem NewFr.keep {w w' : World} {S : Nat → Prop} {lo : Nat} {z : Int} {b1 b2 b3 : Nat} (h : NewFr w lo z b1 b2 b3) (k : Keep S w w') (h1 : ¬ S b1) (h2 : ¬ S b2) (h3 : ¬ S b3) : NewFr w' lo z b1 b2 b3 :=
  ⟨h.y.keep k h1, h.u.keep k h2, h.v.keep k h3, h.yu, h.yv, h.uv, h.l1, h.l2, h.l3⟩
theorem NewFr.low {w : World} {lo lo' : Nat} {z : Int} {b1 b2 b3 : Nat} (h : NewFr w lo z b1 b2 b3) (hl : lo' ≤ lo) : NewFr w lo' z b1 b2 b3 :=
  ⟨h.y, h.u, h.v, h.yu, h.yv, h.uv, Nat.le_trans hl h.l1, Nat.le_trans hl h.l2, Nat.le_trans hl h.l3⟩
theorem NewFr.keep0 {w w' : World} {lo : Nat} {z : Int} {b1 b2 b3 : Nat} (h : NewFr w lo z b1 b2 b3) (k : Keep none_ w w') : NewFr w' lo z b1 b2 b3 := h.keep k (fun e => e) (fun e => e) (fun e => e)
/-- A frame of 16 by 16 samples z. -/
structure FrC (w : World) (z : Int) (A1 A2 A3 : Option Addr) (c1 c2 c3 : Nat) : Prop where
  y : CstS w none_ 256 z A1 c1
  u : CstS w none_ 64 z A2 c2
  v : CstS w none_ 64 z A3 c3
theorem FrC.keep {w w' : World} {z : Int} {A1 A2 A3 : Option Addr} {c1 c2 c3 : Nat} (h : FrC w z A1 A2 A3 c1 c2 c3) (k : Keep none_ w w') : FrC w' z A1 A2 A3 c1 c2 c3 := ⟨h.y.keep k, h.u.keep k, h.v.keep k⟩
theorem NewFr.frC {w : World} {lo : Nat} {z : Int} {b1 b2 b3 : Nat} (h : NewFr w lo z b1 b2 b3) (hz : 0 ≤ z ∧ z ≤ 255) : FrC w z (some ⟨b1, 0, none⟩) (some ⟨b2, 0, none⟩) (some ⟨b3, 0, none⟩) 256 64 64 :=
  ⟨CstS.of_blk h.y hz (by decide) (fun e => e), CstS.of_blk h.u hz (by decide) (fun e => e), CstS.of_blk h.v hz (by decide) (fun e => e)⟩
set_option maxRecDepth 100000 in
set_option maxHeartbeats 1000000 in
theorem clone_any (z : Int) (A1 A2 A3 : Option Addr) (c1 c2 c3 : Nat) (w : World) (hf : FrC w z A1 A2 A3 c1 c2 c3) : Calls Tryz.prog 81 #[.agg #[.int .i64 16, .int .i64 16, .slice A1 256 c1, .slice A2 64 c2, .slice A3 64 c3]] w fun e w' => ∃ b1 b2 b3, e = .returned (.agg #[.int .i64 16, .int .i64 16, .slice (some ⟨b1, 0, none⟩) 256 256, .slice (some ⟨b2, 0, none⟩) 64 64, .slice (some ⟨b3, 0, none⟩) 64 64]) ∧ NewFr w' w.heap.size z b1 b2 b3 ∧ Keep none_ w w' := by
  obtain ⟨W0, hW0⟩ : ∃ W0, W0 = (w.alloc (.cells #[.int .i64 16, .int .i64 16, .slice A1 256 c1, .slice A2 64 c2, .slice A3 64 c3] 32)).alloc (.cells #[.int .i64 0, .int .i64 0, .slice none 0 0, .slice none 0 0, .slice none 0 0] 32) := ⟨_, rfl⟩
  obtain ⟨b0, r0, k0⟩ := two (Keep.eq_ hW0)
  have s0 : w.heap.size ≤ W0.heap.size := k0.size
  have s1 : w.heap.size + 1 < W0.heap.size := (show Blk _ _ _ _ from r0).lt
  have HF := Lib.hid (hf.keep k0)
  have B0 := Lib.hid b0
  have R0 := Lib.hid r0
  have K0 := Lib.hid k0
  have S0 := Lib.hid s0
  have S1 := Lib.hid s1
  clear k0 b0 r0 hf s0 s1
  go_enter Tryz.func81, Tryz.ntmps81
  go_upto_region 1 with (fail)
  rw [← hW0]
  clear hW0
  obtain ⟨T, hT⟩ : ∃ T : Nat → Value → World → Prop, T = fun k v w2 => NewB W0.heap.size (if k = 6 then 256 else 64) z v w2 := ⟨_, rfl⟩
  have HT := Lib.hid hT
  clear hT
  have gd : (newCalm W0 [6, 9, 12] T).Good := newCalm_good (fun k v w w' h hk => by rw [HT.out] at h ⊢; exact NewB.keep h hk)
  have ne := newCalm_some W0 [6, 9, 12] T
  have x0 : ∀ y : (newCalm W0 [6, 9, 12] T).Sub, ((newCalm W0 [6, 9, 12] T).at_ y).cell? ⟨w.heap.size, 0, none⟩ = some (.int .i64 16) := fun y => (newCalm_at y).cell (B0.out.cell 0) (fun e => e)
  have x1 : ∀ y : (newCalm W0 [6, 9, 12] T).Sub, ((newCalm W0 [6, 9, 12] T).at_ y).cell? ⟨w.heap.size, 1, none⟩ = some (.int .i64 16) := fun y => (newCalm_at y).cell (B0.out.cell 1) (fun e => e)
  have x2 : ∀ y : (newCalm W0 [6, 9, 12] T).Sub, ((newCalm W0 [6, 9, 12] T).at_ y).cell? ⟨w.heap.size, 2, none⟩ = some (.slice A1 256 c1) := fun y => (newCalm_at y).cell (B0.out.cell 2) (fun e => e)
  have x3 : ∀ y : (newCalm W0 [6, 9, 12] T).Sub, ((newCalm W0 [6, 9, 12] T).at_ y).cell? ⟨w.heap.size, 3, none⟩ = some (.slice A2 64 c2) := fun y => (newCalm_at y).cell (B0.out.cell 3) (fun e => e)
  have x4 : ∀ y : (newCalm W0 [6, 9, 12] T).Sub, ((newCalm W0 [6, 9, 12] T).at_ y).cell? ⟨w.heap.size, 4, none⟩ = some (.slice A3 64 c3) := fun y => (newCalm_at y).cell (B0.out.cell 4) (fun e => e)
  refine wp_region_calm (newCalm W0 [6, 9, 12] T) [0, 1, 2, 3, 4, 5, 6, 7, 8, 9, 10, 11, 12, 13] [14] 17 (by kernel_rfl) (by kernel_rfl) rfl gd (Keep.refl _ _).drew ?_
  simp only [pairs, List.filterMap_cons, List.filterMap_nil, List.getElem?_toArray, List.getElem?_cons_succ, List.getElem?_cons_zero, Option.map_some]
  repeat (refine Calm.walk_quiet ne rfl rfl rfl (fun K hK => ?_); go_big_quiet_op; refine hK _ ?_; clear hK K)
  refine Calm.walk_eff rfl rfl (fun n wy _ hR _ => ?_) ?_
  · have hR' : Keep none_ W0 wy := hR
    unfold gives
    go_simp
    refine (copied256 z A1 c1 wy (HF.out.keep hR').y).mono ?_
    rintro e wz ⟨b, rfl, hb, hl, hk⟩
    exact ⟨_, rfl, (by show T _ _ _; rw [HT.out]; exact ⟨b, rfl, hb, Nat.le_trans hR'.size hl⟩), hk, hR'.trans hk, fun x hx => by cases hx; exact ⟨hl, Blk.lt' hb⟩⟩
  intro v wy hv
  obtain ⟨b1, rfl, -⟩ : NewB W0.heap.size 256 z v wy := by have h : T 6 v wy := hv; rw [HT.out] at h; exact h
  clear wy hv
  go_frame
  repeat (refine Calm.walk_quiet ne rfl rfl rfl (fun K hK => ?_); go_big_quiet_op; refine hK _ ?_; clear hK K)
  refine Calm.walk_eff rfl rfl (fun n wy _ hR _ => ?_) ?_
  · have hR' : Keep none_ W0 wy := hR
    unfold gives
    go_simp
    refine (copied64 z A2 c2 wy (HF.out.keep hR').u).mono ?_
    rintro e wz ⟨b, rfl, hb, hl, hk⟩
    exact ⟨_, rfl, (by show T _ _ _; rw [HT.out]; exact ⟨b, rfl, hb, Nat.le_trans hR'.size hl⟩), hk, hR'.trans hk, fun x hx => by cases hx; exact ⟨hl, Blk.lt' hb⟩⟩
  intro v wy hv
  obtain ⟨b2, rfl, -⟩ : NewB W0.heap.size 64 z v wy := by have h : T 9 v wy := hv; rw [HT.out] at h; exact h
  clear wy hv
  go_frame
  repeat (refine Calm.walk_quiet ne rfl rfl rfl (fun K hK => ?_); go_big_quiet_op; refine hK _ ?_; clear hK K)
  refine Calm.walk_eff rfl rfl (fun n wy _ hR _ => ?_) ?_
  · have hR' : Keep none_ W0 wy := hR
    unfold gives
    go_simp
    refine (copied64 z A3 c3 wy (HF.out.keep hR').v).mono ?_
    rintro e wz ⟨b, rfl, hb, hl, hk⟩
    exact ⟨_, rfl, (by show T _ _ _; rw [HT.out]; exact ⟨b, rfl, hb, Nat.le_trans hR'.size hl⟩), hk, hR'.trans hk, fun x hx => by cases hx; exact ⟨hl, Blk.lt' hb⟩⟩
  intro v wy hv
  obtain ⟨b3, rfl, -⟩ : NewB W0.heap.size 64 z v wy := by have h : T 12 v wy := hv; rw [HT.out] at h; exact h
  clear wy hv
  go_frame
  repeat (refine Calm.walk_quiet ne rfl rfl rfl (fun K hK => ?_); go_big_quiet_op; refine hK _ ?_; clear hK K)
  intro w' hR hD
  have hR' : Keep none_ W0 w' := hR
  have f1 := NewB.of (N := 256) (by have h : T 6 _ w' := (hD.1 6 rfl _ rfl ⟨rfl, rfl⟩).1; rw [HT.out] at h; exact h)
  have f2 := NewB.of (N := 64) (by have h : T 9 _ w' := (hD.1 9 rfl _ rfl ⟨rfl, rfl⟩).1; rw [HT.out] at h; exact h)
  have f3 := NewB.of (N := 64) (by have h : T 12 _ w' := (hD.1 12 rfl _ rfl ⟨rfl, rfl⟩).1; rw [HT.out] at h; exact h)
  have d1 : b1 ≠ b2 := fun e => hD.2 6 9 rfl rfl (by decide) _ _ rfl rfl ⟨rfl, rfl⟩ ⟨rfl, rfl⟩ b1 rfl e
  have d2 : b1 ≠ b3 := fun e => hD.2 6 12 rfl rfl (by decide) _ _ rfl rfl ⟨rfl, rfl⟩ ⟨rfl, rfl⟩ b1 rfl e
  have d3 : b2 ≠ b3 := fun e => hD.2 9 12 rfl rfl (by decide) _ _ rfl rfl ⟨rfl, rfl⟩ ⟨rfl, rfl⟩ b2 rfl e
  clear hD hR gd ne x0 x1 x2 x3 x4 HT
  have s1 := S1.out
  simp only [pickOps, List.filterMap_cons, List.filterMap_nil, List.getElem?_toArray, List.getElem?_cons_succ, List.getElem?_cons_zero]
  refine wpList_store_blk rfl 32 (.tmp 2) (.tmp 16) rfl (w.heap.size + 1) 32 _ _ rfl rfl (R0.out.keep hR' (fun e => e)) rfl (by kernel_rfl) (by simp [Value.oneCell']) ?_
  intro w2 hb2 hk2 hs2
  have nn : ∀ b, W0.heap.size ≤ b → ¬ one (w.heap.size + 1) b := fun b h e => by unfold one at e; omega
  have NF := Lib.hid (show NewFr w2 w.heap.size z b1 b2 b3 from NewFr.keep ⟨f1.1, f2.1, f3.1, d1, d2, d3, Nat.le_trans S0.out f1.2, Nat.le_trans S0.out f2.2, Nat.le_trans S0.out f3.2⟩ hk2 (nn _ f1.2) (nn _ f2.2) (nn _ f3.2))
  have K2 := Lib.hid (show Keep none_ w w2 from (K0.out.trans hR').own hk2 (Nat.le_succ _))
  go_frame
  go_wp2
  refine bodyPost_ret (results_cell Tryz.results81 rfl (run_loadVar_blk hb2 Tryz.underlying32 rfl (by kernel_rfl))) rfl ⟨b1, b2, b3, rfl, NF.out, K2.out⟩
end Go.Proofs.YtebdgoikmclflaaGreatDoor
