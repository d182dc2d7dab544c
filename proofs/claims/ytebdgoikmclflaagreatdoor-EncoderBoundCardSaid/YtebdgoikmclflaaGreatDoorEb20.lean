/-
  plane.Flat, plane.Macroblock on frames of one number.
-/
import Derived.Test.YtebdgoikmclflaaGreatDoorEb19
namespace Go.Proofs.YtebdgoikmclflaaGreatDoor
open Go.RowKit

set_option maxRecDepth 100000 in
set_option maxHeartbeats 1000000 in
theorem pflat_any (z : Int) (hz : 0 ≤ z ∧ z ≤ 255) (w : World) : Calls Tryz.prog 51 #[.int .i64 16, .int .i64 16, .int .u8 z, .int .u8 z, .int .u8 z] w fun e w' => ∃ b1 b2 b3, e = .returned (.tuple #[.agg #[.int .i64 16, .int .i64 16, .slice (some ⟨b1, 0, none⟩) 256 256, .slice (some ⟨b2, 0, none⟩) 64 64, .slice (some ⟨b3, 0, none⟩) 64 64], .int .i64 0]) ∧ NewFr w' w.heap.size z b1 b2 b3 ∧ Keep none_ w w' := by
  obtain ⟨W0, hW0⟩ : ∃ W0, W0 = w.alloc (.cells #[.int .i64 0, .int .i64 0, .slice none 0 0, .slice none 0 0, .slice none 0 0] 32) := ⟨_, rfl⟩
  have R0 := Lib.hid (show Blk W0 w.heap.size 32 #[.int .i64 0, .int .i64 0, .slice none 0 0, .slice none 0 0, .slice none 0 0] from hW0 ▸ Blk.new _ _ _)
  have K0 := Lib.hid (show Keep none_ w W0 from hW0 ▸ (Keep.refl _ _).alloc _)
  have HZ := Lib.hid hz
  clear hz
  have t1 : True := trivial
  have t2 : True := trivial
  have t3 : True := trivial
  have t4 : True := trivial
  have t5 : True := trivial
  go_enter Tryz.func51, Tryz.ntmps51
  go_upto_region 1 with (fail)
  rw [← hW0]
  clear hW0
  go_upto_region 4 with (have _t := t1; go_at_call 67; refine (fsize_any _).mono ?_; rintro e w' ⟨rfl, rfl⟩; clear _t t1)
  go_wp2_with (first | (have _t := t2; go_at_call 84; refine (repeat_256 z _ _ ((Blk.new _ _ _).cell 0) HZ.out).mono ?_; rintro e w2 ⟨b1, rfl, hb1, hl1, hk1⟩; have B1 := Lib.hid hb1; have K2 := Lib.hid (show Keep none_ W0 w2 from ((Keep.refl _ _).alloc _).trans hk1); have L1 := Lib.hid (show W0.heap.size ≤ b1 from Nat.le_trans ((Keep.refl none_ _).alloc _).size hl1); clear hb1 hl1 hk1 _t t2) | (have _t := t3; go_at_call 84; refine (repeat_64 z _ _ ((Blk.new _ _ _).cell 0) HZ.out).mono ?_; rintro e w3 ⟨b2, rfl, hb2, hl2, hk2⟩; have B2 := Lib.hid hb2; have KX2 := Lib.hid (show Keep none_ w2 w3 from (((Keep.refl none_ w2).alloc _)).trans hk2); have L2 := Lib.hid (show w2.heap.size ≤ b2 from Nat.le_trans ((Keep.refl none_ _).alloc _).size hl2); clear hb2 hl2 hk2 _t t3) | (have _t := t4; go_at_call 84; refine (repeat_64 z _ _ ((Blk.new _ _ _).cell 0) HZ.out).mono ?_; rintro e w4 ⟨b3, rfl, hb3, hl3, hk3⟩; have B3 := Lib.hid hb3; have KX3 := Lib.hid (show Keep none_ w3 w4 from (((Keep.refl none_ w3).alloc _)).trans hk3); have L3 := Lib.hid (show w3.heap.size ≤ b3 from Nat.le_trans ((Keep.refl none_ _).alloc _).size hl3); clear hb3 hl3 hk3 _t t4) | (have _t := t5; refine wpList_store_blk rfl 32 (.tmp 10) (.tmp 41) rfl w.heap.size 32 _ #[.int .i64 16, .int .i64 16, .slice (some ⟨b1, 0, none⟩) 256 256, .slice (some ⟨b2, 0, none⟩) 64 64, .slice (some ⟨b3, 0, none⟩) 64 64] rfl rfl (R0.out.keep ((K2.out.trans KX2.out).trans KX3.out) (fun e => e)) rfl (by kernel_rfl) (by simp [Value.oneCell']) ?_; intro w5 hb5 hk5 hs5; have B5 := Lib.hid hb5; have K5 := Lib.hid hk5; clear hb5 hk5 hs5; go_frame; clear _t t5))
  have s0 : w.heap.size < W0.heap.size := (show Blk _ _ _ _ from R0.out).lt
  have s1 := Blk.lt' B1.out
  have s2 := Blk.lt' B2.out
  have l1 := L1.out
  have l2 := L2.out
  have l3 := L3.out
  have z3 := KX2.out.size
  have nn : ∀ b, W0.heap.size ≤ b → ¬ one w.heap.size b := fun b h e => by unfold one at e; omega
  have z2 := K2.out.size
  refine bodyPost_ret (results_cell_tmp' Tryz.results51 rfl (run_loadVar_blk B5.out Tryz.underlying32 rfl (by kernel_rfl))) rfl ⟨b1, b2, b3, rfl, NewFr.keep (w := w4) ⟨(B1.out.keep KX2.out (fun e => e)).keep KX3.out (fun e => e), B2.out.keep KX3.out (fun e => e), B3.out, by omega, by omega, by omega, by omega, by omega, by omega⟩ K5.out (nn _ (by omega)) (nn _ (by omega)) (nn _ (by omega)), (((K0.out.trans K2.out).trans KX2.out).trans KX3.out).own K5.out (Nat.le_refl _)⟩
set_option maxRecDepth 100000 in
set_option maxHeartbeats 1000000 in
theorem macro_any (z : Int) (A1 A2 A3 : Option Addr) (c1 c2 c3 : Nat) (w : World) (hf : FrC w z A1 A2 A3 c1 c2 c3) : Calls Tryz.prog 87 #[.agg #[.int .i64 16, .int .i64 16, .slice A1 256 c1, .slice A2 64 c2, .slice A3 64 c3], .int .i64 0, .int .i64 0] w fun e w' => ∃ b1 b2 b3, e = .returned (.tuple #[.agg #[.int .i64 16, .int .i64 16, .slice (some ⟨b1, 0, none⟩) 256 256, .slice (some ⟨b2, 0, none⟩) 64 64, .slice (some ⟨b3, 0, none⟩) 64 64], .int .i64 0]) ∧ NewFr w' w.heap.size z b1 b2 b3 ∧ Keep none_ w w' := by
  obtain ⟨W0, hW0⟩ : ∃ W0, W0 = (w.alloc (.cells #[.int .i64 16, .int .i64 16, .slice A1 256 c1, .slice A2 64 c2, .slice A3 64 c3] 32)).alloc (.cells #[.int .i64 0, .int .i64 0, .slice none 0 0, .slice none 0 0, .slice none 0 0] 32) := ⟨_, rfl⟩
  obtain ⟨b0, r0, k0⟩ := two (Keep.eq_ hW0)
  have s1 : w.heap.size + 1 < W0.heap.size := (show Blk _ _ _ _ from r0).lt
  have HF := Lib.hid (hf.keep k0)
  have B0 := Lib.hid b0
  have R0 := Lib.hid r0
  have K0 := Lib.hid k0
  have S1 := Lib.hid s1
  clear k0 b0 r0 hf s1
  have t1 : True := trivial
  have t2 : True := trivial
  have t3 : True := trivial
  have t4 : True := trivial
  have t5 : True := trivial
  go_enter Tryz.func87, Tryz.ntmps87
  go_upto_region 1 with (fail)
  rw [← hW0]
  clear hW0
  go_upto_region 3 with (first | (have _t := t1; refine wpList_load_blk rfl 32 (.tmp 3) rfl w.heap.size 32 _ _ rfl B0.out Tryz.underlying32 rfl (by kernel_rfl) ?_; go_frame; clear _t t1) | (have _t := t2; go_at_call 80; refine (has_any A1 A2 A3 c1 c2 c3 W0).mono ?_; rintro e w2 ⟨rfl, k2⟩; have B2 := Lib.hid (B0.out.keep k2 (fun e => e)); have R2 := Lib.hid (R0.out.keep k2 (fun e => e)); have HF2 := Lib.hid (HF.out.keep k2); have K2 := Lib.hid (K0.out.trans k2); have S2 := Lib.hid (Nat.lt_of_lt_of_le S1.out k2.size); clear k2 _t t2))
  have x0 : w2.cell? ⟨w.heap.size, 0, none⟩ = some (.int .i64 16) := B2.out.cell 0
  go_upto_region 4 with (first | (have _t := t3; go_at_call 82; refine (mblock_any w2).mono ?_; rintro e w3 ⟨rfl, k3⟩; have B3 := Lib.hid (B2.out.keep k3 (fun e => e)); have R3 := Lib.hid (R2.out.keep k3 (fun e => e)); have HF3 := Lib.hid (HF2.out.keep k3); have K3 := Lib.hid (K2.out.trans k3); have S3 := Lib.hid (Nat.lt_of_lt_of_le S2.out k3.size); clear k3 _t t3) | (have _t := t4; refine wpList_store_blk rfl 145 (.tmp 8) (.tmp 22) rfl w3.heap.size 145 _ #[.int .i64 0, .int .i64 16, .int .i64 16, .int .i64 16] rfl rfl ((Blk.new _ _ _).alloc _) rfl (by kernel_rfl) (by simp [Value.oneCell']) ?_; intro w4 b4 k4 s4; have KB4 := Lib.hid (show Keep none_ w3 w4 from (((Keep.refl none_ w3).alloc _).alloc _).own k4 (Nat.le_refl _)); have D4 := Lib.hid (show Blk w4 (w3.heap.size + 1) 145 #[.int .i64 0, .int .i64 0, .int .i64 0, .int .i64 0] from Blk.keep (by have := Blk.new (w3.alloc (.cells #[.int .i64 0, .int .i64 0, .int .i64 0, .int .i64 0] 145)) 145 #[.int .i64 0, .int .i64 0, .int .i64 0, .int .i64 0]; simpa using this) k4 (fun e => by unfold one at e; omega)); have C4 := Lib.hid b4; clear b4 k4 s4; go_frame; clear _t t4) | (have _t := t5; refine wpList_store_blk rfl 145 (.tmp 9) (.tmp 23) rfl (w3.heap.size + 1) 145 _ #[.int .i64 0, .int .i64 8, .int .i64 8, .int .i64 8] rfl rfl D4.out rfl (by kernel_rfl) (by simp [Value.oneCell']) ?_; intro w5 b5 k5 s5; have KB5 := Lib.hid (show Keep none_ w3 w5 from KB4.out.own k5 (Nat.le_succ _)); have C5 := Lib.hid (C4.out.keep k5 (fun e => by unfold one at e; omega)); have D5 := Lib.hid b5; clear b5 k5 s5; go_frame; clear _t t5))
  have B5 := Lib.hid (B3.out.keep KB5.out (fun e => e))
  have R5 := Lib.hid (R3.out.keep KB5.out (fun e => e))
  have HF5 := Lib.hid (HF3.out.keep KB5.out)
  have K5 := Lib.hid (K3.out.trans KB5.out)
  have S5 := Lib.hid (Nat.lt_of_lt_of_le S3.out KB5.out.size)
  obtain ⟨T, hT⟩ : ∃ T : Nat → Value → World → Prop, T = fun k v wz => NewB w5.heap.size (if k = 3 then 256 else 64) z v wz := ⟨_, rfl⟩
  have HT := Lib.hid hT
  clear hT x0
  have gd : (newCalm w5 [3, 7, 11] T).Good := newCalm_good (fun k v w w' h hk => by rw [HT.out] at h ⊢; exact NewB.keep h hk)
  have ne := newCalm_some w5 [3, 7, 11] T
  have x2 : ∀ y : (newCalm w5 [3, 7, 11] T).Sub, ((newCalm w5 [3, 7, 11] T).at_ y).cell? ⟨w.heap.size, 2, none⟩ = some (.slice A1 256 c1) := fun y => (newCalm_at y).cell (B5.out.cell 2) (fun e => e)
  have x3 : ∀ y : (newCalm w5 [3, 7, 11] T).Sub, ((newCalm w5 [3, 7, 11] T).at_ y).cell? ⟨w.heap.size, 3, none⟩ = some (.slice A2 64 c2) := fun y => (newCalm_at y).cell (B5.out.cell 3) (fun e => e)
  have x4 : ∀ y : (newCalm w5 [3, 7, 11] T).Sub, ((newCalm w5 [3, 7, 11] T).at_ y).cell? ⟨w.heap.size, 4, none⟩ = some (.slice A3 64 c3) := fun y => (newCalm_at y).cell (B5.out.cell 4) (fun e => e)
  have xl : ∀ y : (newCalm w5 [3, 7, 11] T).Sub, ((newCalm w5 [3, 7, 11] T).at_ y).rangeAt w3.heap.size 0 #[.int .i64 0, .int .i64 16, .int .i64 16, .int .i64 16].toList := fun y => (C5.out.keep (newCalm_at y) (fun e => e)).rangeAt
  have xc : ∀ y : (newCalm w5 [3, 7, 11] T).Sub, ((newCalm w5 [3, 7, 11] T).at_ y).rangeAt (w3.heap.size + 1) 0 #[.int .i64 0, .int .i64 8, .int .i64 8, .int .i64 8].toList := fun y => (D5.out.keep (newCalm_at y) (fun e => e)).rangeAt
  refine wp_region_calm (newCalm w5 [3, 7, 11] T) [0, 1, 2, 3, 4, 5, 6, 7, 8, 9, 10, 11, 12] [13, 14] 37 (by kernel_rfl) (by kernel_rfl) rfl gd (Keep.refl _ _).drew ?_
  simp only [pairs, List.filterMap_cons, List.filterMap_nil, List.getElem?_toArray, List.getElem?_cons_succ, List.getElem?_cons_zero, Option.map_some]
  repeat (refine Calm.walk_quiet ne rfl rfl rfl (fun K hK => ?_); go_big_quiet_op; refine hK _ ?_; clear hK K)
  refine Calm.walk_load 145 (.tmp 8) rfl ne rfl rfl w3.heap.size 0 rfl #[.int .i64 0, .int .i64 16, .int .i64 16, .int .i64 16] _ xl Tryz.underlying145 rfl (by kernel_rfl) ?_
  go_frame
  refine Calm.walk_eff rfl rfl (fun n wy _ hR _ => ?_) ?_
  · have hR' : Keep none_ w5 wy := hR
    unfold gives
    go_simp
    refine (cutA z A1 c1 wy (HF5.out.keep hR').y).mono ?_
    rintro e wz ⟨b, rfl, hb, hl, hk⟩
    exact ⟨_, rfl, (by show T _ _ _; rw [HT.out]; exact ⟨b, rfl, hb, Nat.le_trans hR'.size hl⟩), hk, hR'.trans hk, fun x hx => by cases hx; exact ⟨hl, Blk.lt' hb⟩⟩
  intro v wy hv
  obtain ⟨b1, rfl, -⟩ : NewB w5.heap.size 256 z v wy := by have h : T 3 v wy := hv; rw [HT.out] at h; exact h
  clear wy hv
  go_frame
  repeat (refine Calm.walk_quiet ne rfl rfl rfl (fun K hK => ?_); go_big_quiet_op; refine hK _ ?_; clear hK K)
  refine Calm.walk_load 145 (.tmp 9) rfl ne rfl rfl (w3.heap.size + 1) 0 rfl #[.int .i64 0, .int .i64 8, .int .i64 8, .int .i64 8] _ xc Tryz.underlying145 rfl (by kernel_rfl) ?_
  go_frame
  refine Calm.walk_eff rfl rfl (fun n wy _ hR _ => ?_) ?_
  · have hR' : Keep none_ w5 wy := hR
    unfold gives
    go_simp
    refine (cutB z A2 c2 wy (HF5.out.keep hR').u).mono ?_
    rintro e wz ⟨b, rfl, hb, hl, hk⟩
    exact ⟨_, rfl, (by show T _ _ _; rw [HT.out]; exact ⟨b, rfl, hb, Nat.le_trans hR'.size hl⟩), hk, hR'.trans hk, fun x hx => by cases hx; exact ⟨hl, Blk.lt' hb⟩⟩
  intro v wy hv
  obtain ⟨b2, rfl, -⟩ : NewB w5.heap.size 64 z v wy := by have h : T 7 v wy := hv; rw [HT.out] at h; exact h
  clear wy hv
  go_frame
  repeat (refine Calm.walk_quiet ne rfl rfl rfl (fun K hK => ?_); go_big_quiet_op; refine hK _ ?_; clear hK K)
  refine Calm.walk_load 145 (.tmp 9) rfl ne rfl rfl (w3.heap.size + 1) 0 rfl #[.int .i64 0, .int .i64 8, .int .i64 8, .int .i64 8] _ xc Tryz.underlying145 rfl (by kernel_rfl) ?_
  go_frame
  refine Calm.walk_eff rfl rfl (fun n wy _ hR _ => ?_) ?_
  · have hR' : Keep none_ w5 wy := hR
    unfold gives
    go_simp
    refine (cutB z A3 c3 wy (HF5.out.keep hR').v).mono ?_
    rintro e wz ⟨b, rfl, hb, hl, hk⟩
    exact ⟨_, rfl, (by show T _ _ _; rw [HT.out]; exact ⟨b, rfl, hb, Nat.le_trans hR'.size hl⟩), hk, hR'.trans hk, fun x hx => by cases hx; exact ⟨hl, Blk.lt' hb⟩⟩
  intro v wy hv
  obtain ⟨b3, rfl, -⟩ : NewB w5.heap.size 64 z v wy := by have h : T 11 v wy := hv; rw [HT.out] at h; exact h
  clear wy hv
  go_frame
  repeat (refine Calm.walk_quiet ne rfl rfl rfl (fun K hK => ?_); go_big_quiet_op; refine hK _ ?_; clear hK K)
  intro w6 hR hD
  have hR' : Keep none_ w5 w6 := hR
  have f1 := NewB.of (N := 256) (by have h : T 3 _ w6 := (hD.1 3 rfl _ rfl ⟨rfl, rfl⟩).1; rw [HT.out] at h; exact h)
  have f2 := NewB.of (N := 64) (by have h : T 7 _ w6 := (hD.1 7 rfl _ rfl ⟨rfl, rfl⟩).1; rw [HT.out] at h; exact h)
  have f3 := NewB.of (N := 64) (by have h : T 11 _ w6 := (hD.1 11 rfl _ rfl ⟨rfl, rfl⟩).1; rw [HT.out] at h; exact h)
  have d1 : b1 ≠ b2 := fun e => hD.2 3 7 rfl rfl (by decide) _ _ rfl rfl ⟨rfl, rfl⟩ ⟨rfl, rfl⟩ b1 rfl e
  have d2 : b1 ≠ b3 := fun e => hD.2 3 11 rfl rfl (by decide) _ _ rfl rfl ⟨rfl, rfl⟩ ⟨rfl, rfl⟩ b1 rfl e
  have d3 : b2 ≠ b3 := fun e => hD.2 7 11 rfl rfl (by decide) _ _ rfl rfl ⟨rfl, rfl⟩ ⟨rfl, rfl⟩ b2 rfl e
  clear hD hR gd ne x2 x3 x4 xl xc HT
  have s1 := S5.out
  have s2 : w.heap.size ≤ w5.heap.size := K5.out.size
  simp only [pickOps, List.filterMap_cons, List.filterMap_nil, List.getElem?_toArray, List.getElem?_cons_succ, List.getElem?_cons_zero]
  refine wpList_store_blk rfl 32 (.tmp 6) (.tmp 36) rfl (w.heap.size + 1) 32 _ _ rfl rfl (R5.out.keep hR' (fun e => e)) rfl (by kernel_rfl) (by simp [Value.oneCell']) ?_
  intro w7 hb2 hk2 hs2
  have nn : ∀ b, w5.heap.size ≤ b → ¬ one (w.heap.size + 1) b := fun b h e => by unfold one at e; omega
  have NF := Lib.hid (show NewFr w7 w.heap.size z b1 b2 b3 from NewFr.keep ⟨f1.1, f2.1, f3.1, d1, d2, d3, Nat.le_trans s2 f1.2, Nat.le_trans s2 f2.2, Nat.le_trans s2 f3.2⟩ hk2 (nn _ f1.2) (nn _ f2.2) (nn _ f3.2))
  have K7 := Lib.hid (show Keep none_ w w7 from (K5.out.trans hR').own hk2 (Nat.le_succ _))
  go_frame
  go_wp2
  refine bodyPost_ret (results_cell_tmp' Tryz.results87 rfl (run_loadVar_blk hb2 Tryz.underlying32 rfl (by kernel_rfl))) rfl ⟨b1, b2, b3, rfl, NF.out, K7.out⟩
end Go.Proofs.YtebdgoikmclflaaGreatDoor
