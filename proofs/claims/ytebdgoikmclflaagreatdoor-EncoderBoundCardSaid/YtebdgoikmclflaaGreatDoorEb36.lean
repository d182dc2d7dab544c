/-
  macroblock.add of zeros.
-/
import Derived.Test.YtebdgoikmclflaaGreatDoorEb35
namespace Go.Proofs.YtebdgoikmclflaaGreatDoor
open Go.RowKit

theorem block_any (n : Nat) (hn : n < 6) (z : Int) (hz : 0 ≤ z ∧ z ≤ 255) (A1 A2 A3 : Option Addr) (c1 c2 c3 : Nat) (w : World) (hf : FrC w z A1 A2 A3 c1 c2 c3) : Calls Tryz.prog 113 #[.agg #[.int .i64 16, .int .i64 16, .slice A1 256 c1, .slice A2 64 c2, .slice A3 64 c3], .int .i64 0, .int .i64 0, .int .i64 n, .bool false] w fun e w' => e = .returned (.tuple #[.agg (A64 z), .int .i64 0]) ∧ Keep none_ w w' := by
  rcases (show n = 0 ∨ n = 1 ∨ n = 2 ∨ n = 3 ∨ n = 4 ∨ n = 5 by omega) with rfl | rfl | rfl | rfl | rfl | rfl
  · exact block0 z hz A1 A2 A3 c1 c2 c3 w hf
  · exact block1 z hz A1 A2 A3 c1 c2 c3 w hf
  · exact block2 z hz A1 A2 A3 c1 c2 c3 w hf
  · exact block3 z hz A1 A2 A3 c1 c2 c3 w hf
  · exact block4 z hz A1 A2 A3 c1 c2 c3 w hf
  · exact block5 z hz A1 A2 A3 c1 c2 c3 w hf
theorem setblock_any (n : Nat) (hn : n < 6) (z : Int) (hz : 0 ≤ z ∧ z ≤ 255) (A1 A2 A3 : Option Addr) (c1 c2 c3 : Nat) (w : World) (hf : FrC w z A1 A2 A3 c1 c2 c3) : Calls Tryz.prog 115 #[.agg #[.int .i64 16, .int .i64 16, .slice A1 256 c1, .slice A2 64 c2, .slice A3 64 c3], .int .i64 0, .int .i64 0, .int .i64 n, .bool false, .agg (A64 z)] w fun e w' => ∃ b1 b2 b3, e = .returned (.tuple #[.agg #[.int .i64 16, .int .i64 16, .slice (some ⟨b1, 0, none⟩) 256 256, .slice (some ⟨b2, 0, none⟩) 64 64, .slice (some ⟨b3, 0, none⟩) 64 64], .int .i64 0]) ∧ NewFr w' w.heap.size z b1 b2 b3 ∧ Keep none_ w w' := by
  rcases (show n = 0 ∨ n = 1 ∨ n = 2 ∨ n = 3 ∨ n = 4 ∨ n = 5 by omega) with rfl | rfl | rfl | rfl | rfl | rfl
  · exact setblock0 z hz A1 A2 A3 c1 c2 c3 w hf
  · exact setblock1 z hz A1 A2 A3 c1 c2 c3 w hf
  · exact setblock2 z hz A1 A2 A3 c1 c2 c3 w hf
  · exact setblock3 z hz A1 A2 A3 c1 c2 c3 w hf
  · exact setblock4 z hz A1 A2 A3 c1 c2 c3 w hf
  · exact setblock5 z hz A1 A2 A3 c1 c2 c3 w hf
/-- A frame's cells. -/
def frV (b1 b2 b3 : Nat) : Array Value := #[.int .i64 16, .int .i64 16, .slice (some ⟨b1, 0, none⟩) 256 256, .slice (some ⟨b2, 0, none⟩) 64 64, .slice (some ⟨b3, 0, none⟩) 64 64]
set_option maxRecDepth 100000 in
set_option maxHeartbeats 4000000 in
theorem add_any (z : Int) (hz : 0 ≤ z ∧ z ≤ 255) (b1 b2 b3 lo bm : Nat) (w : World) (hf : NewFr w lo z b1 b2 b3) (hm : Blk w bm 102 mbV) : Calls Tryz.prog 77 #[.agg (frV b1 b2 b3), .pointer (some ⟨bm, 0, none⟩), .agg M16, .int .i64 8, .bool false] w fun e w' => ∃ d1 d2 d3, e = .returned (.tuple #[.agg (frV d1 d2 d3), .int .i64 0]) ∧ NewFr w' lo z d1 d2 d3 ∧ Keep none_ w w' := by
  have MS := Lib.hid M16_size
  have DQ := Lib.hid pDequantise
  generalize M16 = mc at *
  obtain ⟨zc, hzc⟩ : ∃ zc, zc = A64 0 := ⟨_, rfl⟩
  have ze : ∀ w, (zeroValue 99).run Tryz.prog w = .ok (.agg zc) w := by rw [hzc, ← A64_zero]; exact fun w => by kernel_rfl
  have SZ := Lib.hid (show zc.size = 64 by rw [hzc]; exact A64_size 0)
  have OZ := Lib.hid (show zc.all (·.oneCell') = true by rw [hzc]; exact A64_one 0)
  have GZ := Lib.hid (show ∀ k, k < 64 → zc[k]? = some (.int .i64 0) from fun k hk => by rw [hzc]; exact A64_get 0 k hk)
  have HZC := Lib.hid hzc
  clear hzc
  have LO := Lib.hid (show lo ≤ w.heap.size from Nat.le_trans hf.l1 (Nat.le_of_lt (Blk.lt' hf.y)))
  have HZ := Lib.hid hz
  obtain ⟨W0, hW0⟩ : ∃ W0, W0 = ((w.alloc (.cells (frV b1 b2 b3) 32)).alloc (.cells mc 24)).alloc (.cells #[.int .i64 0, .int .i64 0, .slice none 0 0, .slice none 0 0, .slice none 0 0] 32) := ⟨_, rfl⟩
  obtain ⟨f0, m0, r0, k0⟩ := three (Keep.eq_ hW0)
  have F0 := Lib.hid f0
  have C0 := Lib.hid m0
  have R0 := Lib.hid r0
  have K0 := Lib.hid k0
  have M0 := Lib.hid (hm.keep k0 (fun e => e))
  have N0 := Lib.hid (hf.keep0 k0)
  have S0 := Lib.hid (show w.heap.size + 1 + 1 < W0.heap.size from (show Blk _ _ _ _ from r0).lt)
  have BM := Lib.hid (show bm < w.heap.size from hm.lt)
  clear f0 m0 r0 k0 hm hf hz
  have t1 : True := trivial
  go_enter Tryz.func77, Tryz.ntmps77
  go_upto_region 1 with (fail)
  rw [← hW0]
  clear hW0
  go_wp2_with (have _t := t1; refine wpList_load_part 98 (.tmp 21) rfl rfl bm 18 rfl six _ (M0.out.sub _ _ (by kernel_rfl)) Tryz.underlying98 rfl (by kernel_rfl) ?_; go_frame; clear _t t1)
  go_loopw [23] (fun i wr => ∃ k : Nat, k ≤ 6 ∧ i = .int .i64 k ∧ ∃ d1 d2 d3, Blk wr w.heap.size 32 (frV d1 d2 d3) ∧ NewFr wr lo z d1 d2 d3 ∧ Keep (one w.heap.size) W0 wr ∧ d1 ≠ w.heap.size ∧ d2 ≠ w.heap.size ∧ d3 ≠ w.heap.size) (fun i _ => 6 - (intOf i).toNat)
  case atStart => exact ⟨0, by decide, rfl, b1, b2, b3, F0.out, N0.out, Keep.refl _ _, fun e => Blk.ne_ N0.out.y.1 F0.out (by decide) e, fun e => Blk.ne_ N0.out.u.1 F0.out (by decide) e, fun e => Blk.ne_ N0.out.v.1 F0.out (by decide) e⟩
  case round =>
    obtain ⟨k, hk, rfl, d1, d2, d3, hF, hN, hK, -⟩ := hrel
    have HF := Lib.hid hF
    have HN := Lib.hid hN
    have HK := Lib.hid hK
    clear hF hN hK
    by_cases hlt : k < 6
    · have hlt' : (k : Int) < 6 := by omega
      have hix := run_index_6 six k (.bool true) hlt (by rcases (show k = 0 ∨ k = 1 ∨ k = 2 ∨ k = 3 ∨ k = 4 ∨ k = 5 by omega) with rfl | rfl | rfl | rfl | rfl | rfl <;> rfl)
      go_upto_region 5 with (fail)
      clear hix
      have Mr := Lib.hid (M0.out.keep HK.out (fun e => by have := BM.out; unfold one at e; omega))
      have Cr := Lib.hid (C0.out.keep HK.out (fun e => by unfold one at e; omega))
      obtain ⟨us, hus⟩ : ∃ us : Nat → Value, us = fun k => if k = 7 then .agg (A64 0) else .tuple #[.agg (A64 0), .int .i64 0] := ⟨_, rfl⟩
      have U7 := Lib.hid (show us 7 = .agg (A64 0) by rw [hus]; rfl)
      have U10 := Lib.hid (show us 10 = .tuple #[.agg (A64 0), .int .i64 0] by rw [hus]; rfl)
      clear hus
      have gd : (varCalm wr [7, 10] us 14 15 99 zc (A64 0)).Good := varCalm_good
      have ne : Nonempty (varCalm wr [7, 10] us 14 15 99 zc (A64 0)).Sub := varCalm_some
      have BMr := Lib.hid (show ¬ wr.heap.size ≤ bm from by have := Mr.out.lt; omega)
      have BCr := Lib.hid (show ¬ wr.heap.size ≤ w.heap.size + 1 from by have := Cr.out.lt; omega)
      have xl : ∀ y : (varCalm wr [7, 10] us 14 15 99 zc (A64 0)).Sub, ((varCalm wr [7, 10] us 14 15 99 zc (A64 0)).at_ y).rangeAt bm (24 + k * 64) (A64 0).toList := fun y => (Mr.out.keep (varCalm_at y) BMr.out).sub _ _ (mbV_lev k hlt)
      have xc : ∀ y : (varCalm wr [7, 10] us 14 15 99 zc (A64 0)).Sub, ((varCalm wr [7, 10] us 14 15 99 zc (A64 0)).at_ y).rangeAt (w.heap.size + 1) 0 mc.toList := fun y => (Cr.out.keep (varCalm_at y) BCr.out).rangeAt
      refine wp_region_calm (varCalm wr [7, 10] us 14 15 99 zc (A64 0)) [0, 1, 2, 3, 4, 5, 6, 7, 8, 9, 10, 11, 12, 13, 14, 15] [16] 91 (by kernel_rfl) (by kernel_rfl) rfl gd (Keep.refl _ _).drew ?_
      simp only [pairs, List.filterMap_cons, List.filterMap_nil, List.getElem?_toArray, List.getElem?_cons_succ, List.getElem?_cons_zero, Option.map_some]
      repeat (refine Calm.walk_quiet ne rfl rfl rfl (fun K hK => ?_); go_big_quiet_op; refine hK _ ?_; clear hK K)
      refine Calm.walk_load 99 (.tmp 34) rfl ne rfl rfl bm (24 + k * 64) rfl (A64 0) _ xl Tryz.underlying99 rfl (by rw [A64_size]; kernel_rfl) ?_
      go_frame
      repeat (refine Calm.walk_quiet ne rfl rfl rfl (fun K hK => ?_); go_big_quiet_op; refine hK _ ?_; clear hK K)
      refine Calm.walk_eff rfl rfl (fun n wy _ hG _ => ?_) ?_
      · unfold gives
        go_simp
        refine (pFromScan wy).mono ?_
        rintro e wz ⟨rfl, hk⟩
        exact ⟨_, rfl, var_call (by decide) (by decide) U7.out.symm hG hk⟩
      intro v wy hv
      obtain rfl : v = .agg (A64 0) := (var_val (by decide) (by decide) hv).trans U7.out
      clear wy hv
      go_frame
      refine Calm.walk_load 24 (.tmp 7) rfl ne rfl rfl (w.heap.size + 1) 0 rfl mc _ xc Tryz.underlying24 rfl (by rw [MS.out]; kernel_rfl) ?_
      go_frame
      repeat (refine Calm.walk_quiet ne rfl rfl rfl (fun K hK => ?_); go_big_quiet_op; refine hK _ ?_; clear hK K)
      refine Calm.walk_eff rfl rfl (fun n wy _ hG _ => ?_) ?_
      · unfold gives
        go_simp
        refine (DQ.out wy).mono ?_
        rintro e wz ⟨rfl, hk⟩
        exact ⟨_, rfl, var_call (by decide) (by decide) U10.out.symm hG hk⟩
      intro v wy hv
      obtain rfl : v = .tuple #[.agg (A64 0), .int .i64 0] := (var_val (by decide) (by decide) hv).trans U10.out
      clear wy hv
      go_frame
      repeat (refine Calm.walk_quiet ne rfl rfl rfl (fun K hK => ?_); go_big_quiet_op; refine hK _ ?_; clear hK K)
      refine Calm.walk_eff rfl rfl (fun n wy _ hG _ => ?_) ?_
      · refine gives_mono (X := fun v w' => v = .pointer (some ⟨wy.heap.size, 0, none⟩) ∧ w' = wy.alloc (.cells zc 99)) ?_ ?_
        · unfold gives
          go_simp
        · rintro _ _ ⟨rfl, rfl⟩
          exact var_alloc (by decide) hG
      intro v wy hv
      obtain ⟨gy, hgy, rfl, -⟩ := var_ptr hv
      clear wy hv
      go_frame
      refine Calm.walk_eff rfl rfl (fun n wy _ hG hA => ?_) ?_
      · obtain ⟨b', hb', e', hc'⟩ := var_ptr (hA 14 (by simp [varCalm]) _ rfl ⟨rfl, rfl⟩).1
        have e2 : (Value.pointer (some ⟨gy, 0, none⟩)) = .pointer (some ⟨b', 0, none⟩) := e'
        simp only [Value.pointer.injEq, Option.some.injEq, Addr.mk.injEq, and_true] at e2
        subst e2
        exact var_store (v := undef) (by decide) hG 99 (.tmp 14) (.tmp 41) rfl gy hb' hc' rfl rfl rfl (by rw [SZ.out, A64_size]) (by rw [A64_size]; kernel_rfl) (A64_one 0)
      intro v wy hv
      clear wy hv
      go_frame
      intro w2 hG hD
      have KX2 := Lib.hid (show Keep (fun b => wr.heap.size ≤ b) wr w2 from hG)
      have Y2 := Lib.hid (show Blk w2 gy 99 (A64 0) from var_done (by decide) (hD.1 15 rfl _ rfl ⟨rfl, rfl⟩).1 rfl)
      have GY := Lib.hid hgy
      clear hG hD gd ne xl xc hgy
      simp only [pickOps, List.filterMap_cons, List.filterMap_nil, List.getElem?_toArray, List.getElem?_cons_succ, List.getElem?_cons_zero]
      have F2 := Lib.hid (HF.out.up KX2.out (Nat.le_refl _))
      have N2 := Lib.hid (HN.out.up KX2.out (Nat.le_refl _))
      have M2 := Lib.hid (Mr.out.up KX2.out (Nat.le_refl _))
      have K2 := Lib.hid (show Keep (one w.heap.size) W0 w2 from HK.out.then KX2.out (fun b e => .inr (Nat.le_trans HK.out.size e)))
      have LW := Lib.hid (show w.heap.size < w2.heap.size from F2.out.lt)
      have GYw := Lib.hid (show w.heap.size < gy from Nat.lt_of_lt_of_le HF.out.lt GY.out)
      clear Mr Cr BMr BCr U7 U10 GY
      go_upto_region 8 with (fail)
      obtain ⟨us, hus⟩ : ∃ us : Nat → Value, us = fun _ => .tuple #[.agg (A64 z), .int .i64 0] := ⟨_, rfl⟩
      have U6 := Lib.hid (show us 6 = .tuple #[.agg (A64 z), .int .i64 0] by rw [hus])
      clear hus
      have gd : (varCalm w2 [6] us 10 11 99 zc (A64 z)).Good := varCalm_good
      have ne : Nonempty (varCalm w2 [6] us 10 11 99 zc (A64 z)).Sub := varCalm_some
      have xl : ∀ y : (varCalm w2 [6] us 10 11 99 zc (A64 z)).Sub, ((varCalm w2 [6] us 10 11 99 zc (A64 z)).at_ y).rangeAt w.heap.size 0 (frV d1 d2 d3).toList := fun y => (F2.out.up (varCalm_at y) (Nat.le_refl _)).rangeAt
      have x4 : ∀ y : (varCalm w2 [6] us 10 11 99 zc (A64 z)).Sub, ((varCalm w2 [6] us 10 11 99 zc (A64 z)).at_ y).cell? ⟨bm, 4, none⟩ = some (.bool false) := fun y => (M2.out.up (varCalm_at y) (Nat.le_refl _)).cell 4
      refine wp_region_calm (varCalm w2 [6] us 10 11 99 zc (A64 z)) [0, 1, 2, 3, 4, 5, 6, 7, 8, 9, 10, 11] [12] 91 (by kernel_rfl) (by kernel_rfl) rfl gd (Keep.refl _ _).drew ?_
      simp only [pairs, List.filterMap_cons, List.filterMap_nil, List.getElem?_toArray, List.getElem?_cons_succ, List.getElem?_cons_zero, Option.map_some]
      refine Calm.walk_load 32 (.tmp 5) rfl ne rfl rfl w.heap.size 0 rfl (frV d1 d2 d3) _ xl Tryz.underlying32 rfl (by kernel_rfl) ?_
      go_frame
      repeat (refine Calm.walk_quiet ne rfl rfl rfl (fun K hK => ?_); go_big_quiet_op; refine hK _ ?_; clear hK K)
      refine Calm.walk_eff rfl rfl (fun n wy _ hG _ => ?_) ?_
      · unfold gives
        go_simp
        refine (block_any k hlt z HZ.out (some ⟨d1, 0, none⟩) (some ⟨d2, 0, none⟩) (some ⟨d3, 0, none⟩) 256 64 64 wy ((N2.out.up hG (Nat.le_refl _)).frC HZ.out)).mono ?_
        rintro e wz ⟨rfl, hk⟩
        exact ⟨_, rfl, var_call (by decide) (by decide) U6.out.symm hG hk⟩
      intro v wy hv
      obtain rfl : v = .tuple #[.agg (A64 z), .int .i64 0] := (var_val (by decide) (by decide) hv).trans U6.out
      clear wy hv
      go_frame
      repeat (refine Calm.walk_quiet ne rfl rfl rfl (fun K hK => ?_); go_big_quiet_op; refine hK _ ?_; clear hK K)
      refine Calm.walk_eff rfl rfl (fun n wy _ hG _ => ?_) ?_
      · refine gives_mono (X := fun v w' => v = .pointer (some ⟨wy.heap.size, 0, none⟩) ∧ w' = wy.alloc (.cells zc 99)) ?_ ?_
        · unfold gives
          go_simp
        · rintro _ _ ⟨rfl, rfl⟩
          exact var_alloc (by decide) hG
      intro v wy hv
      obtain ⟨gx, hgx, rfl, -⟩ := var_ptr hv
      clear wy hv
      go_frame
      refine Calm.walk_eff rfl rfl (fun n wy _ hG hA => ?_) ?_
      · obtain ⟨b', hb', e', hc'⟩ := var_ptr (hA 10 (by simp [varCalm]) _ rfl ⟨rfl, rfl⟩).1
        have e2 : (Value.pointer (some ⟨gx, 0, none⟩)) = .pointer (some ⟨b', 0, none⟩) := e'
        simp only [Value.pointer.injEq, Option.some.injEq, Addr.mk.injEq, and_true] at e2
        subst e2
        exact var_store (v := undef) (by decide) hG 99 (.tmp 16) (.tmp 55) rfl gx hb' hc' rfl rfl rfl (by rw [SZ.out, A64_size]) (by rw [A64_size]; kernel_rfl) (A64_one z)
      intro v wy hv
      clear wy hv
      go_frame
      intro w3 hG hD
      have KX3 := Lib.hid (show Keep (fun b => w2.heap.size ≤ b) w2 w3 from hG)
      have X3 := Lib.hid (show Blk w3 gx 99 (A64 z) from var_done (by decide) (hD.1 11 rfl _ rfl ⟨rfl, rfl⟩).1 rfl)
      have GXn := Lib.hid (show gy < gx from Nat.lt_of_lt_of_le Y2.out.lt hgx)
      have GX := Lib.hid hgx
      clear hG hD gd ne xl x4 hgx
      simp only [pickOps, List.filterMap_cons, List.filterMap_nil, List.getElem?_toArray, List.getElem?_cons_succ, List.getElem?_cons_zero]
      have F3 := Lib.hid (F2.out.up KX3.out (Nat.le_refl _))
      have N3 := Lib.hid (N2.out.up KX3.out (Nat.le_refl _))
      have M3 := Lib.hid (M2.out.up KX3.out (Nat.le_refl _))
      have Y3 := Lib.hid (Y2.out.up KX3.out (Nat.le_refl _))
      have K3 := Lib.hid (show Keep (one w.heap.size) W0 w3 from K2.out.then KX3.out (fun b e => .inr (Nat.le_trans K2.out.size e)))
      clear F2 N2 M2 K2 U6
      have u1 : True := trivial
      have u2 : True := trivial
      go_wp2_with (first | (have _t := u1; refine wpList_load_part 99 (.tmp 14) rfl rfl gy 0 rfl (A64 0) _ Y3.out.rangeAt Tryz.underlying99 rfl (by rw [A64_size]; kernel_rfl) ?_; go_frame; clear _t u1) | (have _t := u2; go_at_call 114; refine (inverse_any w3).mono ?_; rintro e w4 ⟨rfl, k4⟩; have KX4 := Lib.hid k4; clear k4 _t u2))
      have F4 := Lib.hid (F3.out.keep KX4.out (fun e => e))
      have N4 := Lib.hid (N3.out.keep0 KX4.out)
      have M4 := Lib.hid (M3.out.keep KX4.out (fun e => e))
      have X4 := Lib.hid (X3.out.keep KX4.out (fun e => e))
      have K4 := Lib.hid (K3.out.trans KX4.out.weak)
      have ND := Lib.hid (show d1 ≠ gx ∧ d2 ≠ gx ∧ d3 ≠ gx ∧ bm ≠ gx ∧ w.heap.size ≠ gx from by have h1 := Blk.lt' HN.out.y; have h2 := Blk.lt' HN.out.u; have h3 := Blk.lt' HN.out.v; have h4 := KX2.out.size; have h5 := GX.out; have h6 := BM.out; have h7 := LW.out; omega)
      have LGX := Lib.hid (show W0.heap.size ≤ gx from by have h1 := HK.out.size; have h2 := KX2.out.size; have h3 := GX.out; omega)
      clear F3 N3 M3 K3 X3 Y3
      go_loopw [63] (fun i wr => ∃ j : Nat, j ≤ 64 ∧ i = .int .i64 j ∧ Blk wr gx 99 (A64 z) ∧ Keep (one gx) w4 wr) (fun i _ => 64 - (intOf i).toNat)
      case atStart => exact ⟨0, by decide, rfl, X4.out, Keep.refl _ _⟩
      case round =>
        obtain ⟨j, hj, rfl, hX, hkj⟩ := hrel
        have HX := Lib.hid hX
        have HKj := Lib.hid hkj
        clear hX hkj
        by_cases hjt : j < 64
        · have hjt' : (j : Int) < 64 := by omega
          have hc := run_index_i64a (A64 0) j _ hjt (A64_get 0 j hjt)
          have c7 : wr.cell? ⟨gx, j, none⟩ = some (.int .i64 z) := by rw [HX.out.cell]; exact A64_get z j hjt
          have z7 := Blk.frozen HX.out j
          have XS := Lib.hid (show Blk (wr.setCell ⟨gx, j, none⟩ (.int .i64 z)) gx 99 (A64 z) from by have h := HX.out.set_ j (.int .i64 z); rw [A64_set] at h; exact h)
          have KS := Lib.hid (show Keep (one gx) w4 (wr.setCell ⟨gx, j, none⟩ (.int .i64 z)) from HKj.out.setCell (p := ⟨gx, j, none⟩) (.inl rfl) _)
          obtain ⟨z1, z2⟩ := HZ.out
          go_wp2
          go_roundw
          case rel => exact ⟨j + 1, hjt, by go_num, XS.out, KS.out⟩
          case measure => simp [intOf]; omega
        · obtain rfl : j = 64 := by omega
          have nd := ND.out
          have F5 := Lib.hid (F4.out.keep HKj.out (one_ne nd.2.2.2.2))
          have N5 := Lib.hid (N4.out.keep HKj.out (one_ne nd.1) (one_ne nd.2.1) (one_ne nd.2.2.1))
          have M5 := Lib.hid (M4.out.keep HKj.out (one_ne nd.2.2.2.1))
          have K5 := Lib.hid (show Keep (one w.heap.size) W0 wr from K4.out.then HKj.out (fun b e => .inr (by rw [show b = gx from e]; exact LGX.out)))
          have BMg := Lib.hid (show bm ≠ w.heap.size from by have := BM.out; omega)
          have LWr := Lib.hid (show w.heap.size < wr.heap.size from F5.out.lt)
          clear nd hjt hj F4 N4 M4 K4 X4
          go_upto_region 16 with (fail)
          obtain ⟨X, hX⟩ : ∃ X : Value → World → Prop, X = fun v wq => ∃ e1 e2 e3, v = .tuple #[.agg (frV e1 e2 e3), .int .i64 0] ∧ NewFr wq wr.heap.size z e1 e2 e3 := ⟨_, rfl⟩
          have HXX := Lib.hid hX
          clear hX
          have gd : (lcsCalm wr w.heap.size 32 (.agg (frV d1 d2 d3)) 0 7 11 X).Good := lcsCalm_good (fun v w1 w2 h hk => by
            rw [HXX.out] at h ⊢
            obtain ⟨e1, e2, e3, h1, h2⟩ := h
            exact ⟨e1, e2, e3, h1, h2.keep hk (one_ne (by have := h2.l1; have := LWr.out; omega)) (one_ne (by have := h2.l2; have := LWr.out; omega)) (one_ne (by have := h2.l3; have := LWr.out; omega))⟩) (fun k hk h1 h2 => by simp only [List.mem_cons, List.not_mem_nil, or_false] at hk; omega)
          have ne : Nonempty (lcsCalm wr w.heap.size 32 (.agg (frV d1 d2 d3)) 0 7 11 X).Sub := lcsCalm_some
          have x4 : ∀ y : (lcsCalm wr w.heap.size 32 (.agg (frV d1 d2 d3)) 0 7 11 X).Sub, ((lcsCalm wr w.heap.size 32 (.agg (frV d1 d2 d3)) 0 7 11 X).at_ y).cell? ⟨bm, 4, none⟩ = some (.bool false) := fun y => (M5.out.keep (lcsCalm_at y) (one_ne BMg.out)).cell 4
          have xa : ∀ y : (lcsCalm wr w.heap.size 32 (.agg (frV d1 d2 d3)) 0 7 11 X).Sub, ((lcsCalm wr w.heap.size 32 (.agg (frV d1 d2 d3)) 0 7 11 X).at_ y).rangeAt gx 0 (A64 z).toList := fun y => (HX.out.keep (lcsCalm_at y) (one_ne (Ne.symm ND.out.2.2.2.2))).rangeAt
          refine wp_region_calm (lcsCalm wr w.heap.size 32 (.agg (frV d1 d2 d3)) 0 7 11 X) [0, 1, 2, 3, 4, 5, 6, 7, 8, 9, 10, 11] [12] 91 (by kernel_rfl) (by kernel_rfl) rfl gd ⟨(Keep.refl _ _).drew, fun _ => (Keep.refl _ _).drew⟩ ?_
          simp only [pairs, List.filterMap_cons, List.filterMap_nil, List.getElem?_toArray, List.getElem?_cons_succ, List.getElem?_cons_zero, Option.map_some]
          refine Calm.walk_eff rfl rfl (fun n wy hn hG _ => ?_) ?_
          · obtain ⟨g1, g2⟩ := hG
            have gk := g2 (by simp only [lcsCalm, List.length_cons, List.length_nil] at hn; omega)
            exact gives_load_blk 32 (.tmp 5) rfl w.heap.size 32 (frV d1 d2 d3) rfl (F5.out.keep gk (fun e => e)) Tryz.underlying32 rfl (by kernel_rfl) ⟨rfl, Keep.refl _ _, ⟨g1, fun _ => gk⟩, fun _ h => h.elim⟩
          intro v wy hv
          obtain rfl : v = .agg (frV d1 d2 d3) := hv
          clear wy
          go_frame
          repeat (refine Calm.walk_quiet ne rfl rfl rfl (fun K hK => ?_); go_big_quiet_op; refine hK _ ?_; clear hK K)
          refine Calm.walk_load 99 (.tmp 16) rfl ne rfl rfl gx 0 rfl (A64 z) _ xa Tryz.underlying99 rfl (by rw [A64_size]; kernel_rfl) ?_
          go_frame
          refine Calm.walk_eff rfl rfl (fun n wy hn hG _ => ?_) ?_
          · obtain ⟨g1, g2⟩ := hG
            have gk := g2 (by simp only [lcsCalm, List.length_cons, List.length_nil] at hn; omega)
            unfold gives
            go_simp
            refine (setblock_any k hlt z HZ.out (some ⟨d1, 0, none⟩) (some ⟨d2, 0, none⟩) (some ⟨d3, 0, none⟩) 256 64 64 wy ((N5.out.keep0 gk).frC HZ.out)).mono ?_
            rintro e wz ⟨e1, e2, e3, rfl, hn2, hk⟩
            exact ⟨_, rfl, (by show X _ _; rw [HXX.out]; exact ⟨e1, e2, e3, rfl, hn2.low gk.size⟩), hk, ⟨g1.trans hk.weak, fun _ => gk.trans hk⟩, fun _ h => h.elim⟩
          intro v wy hv
          obtain ⟨e1, e2, e3, rfl, -⟩ : ∃ e1 e2 e3, v = .tuple #[.agg (frV e1 e2 e3), .int .i64 0] ∧ NewFr wy wr.heap.size z e1 e2 e3 := by have h : X v wy := hv; rw [HXX.out] at h; exact h
          clear wy hv
          go_frame
          repeat (refine Calm.walk_quiet ne rfl rfl rfl (fun K hK => ?_); go_big_quiet_op; refine hK _ ?_; clear hK K)
          refine Calm.walk_effn rfl rfl (fun n wy hn1 hn hG _ => ?_) ?_
          · obtain ⟨g1, g2⟩ := hG
            have n2 : n = 2 := by simp [lcsCalm] at hn hn1; omega
            have gk := g2 (by omega)
            exact gives_store_blk 32 (.tmp 5) (.tmp 83) rfl w.heap.size 32 (frV d1 d2 d3) (frV e1 e2 e3) rfl rfl (F5.out.keep gk (fun e => e)) rfl (by kernel_rfl) (by kernel_rfl) (fun w' hb hk => ⟨⟨_, rfl, hb⟩, hk, ⟨g1.trans hk, fun e => by omega⟩, fun _ h => h.elim⟩)
          intro v wy hv
          clear wy hv
          go_frame
          intro w6 hG hD
          have KX6 := Lib.hid (show Keep (one w.heap.size) wr w6 from hG.1)
          have N6 := Lib.hid (show NewFr w6 wr.heap.size z e1 e2 e3 from by
            have h : X _ w6 := (hD.1 7 rfl _ rfl ⟨rfl, rfl⟩).1
            rw [HXX.out] at h
            obtain ⟨q1, q2, q3, h1, h2⟩ := h
            have h1' : (Value.tuple #[.agg (frV e1 e2 e3), .int .i64 0]) = .tuple #[.agg (frV q1 q2 q3), .int .i64 0] := h1
            unfold frV at h1'
            simp only [Value.tuple.injEq, Array.mk.injEq, List.cons.injEq, Value.agg.injEq, Value.slice.injEq, Option.some.injEq, Addr.mk.injEq, and_true, true_and] at h1'
            obtain ⟨rfl, rfl, rfl⟩ := h1'
            exact h2)
          have F6 := Lib.hid (show Blk w6 w.heap.size 32 (frV e1 e2 e3) from by
            obtain ⟨cs, h1, h2⟩ : ∃ cs, _ = some (Value.agg cs) ∧ Blk w6 w.heap.size 32 cs := (hD.1 11 rfl _ rfl ⟨rfl, rfl⟩).1
            have h1' : some (Value.agg (frV e1 e2 e3)) = some (Value.agg cs) := h1
            simp only [Option.some.injEq, Value.agg.injEq] at h1'
            rw [h1']
            exact h2)
          clear hG hD gd ne x4 xa HXX
          simp only [pickOps, List.filterMap_cons, List.filterMap_nil, List.getElem?_toArray, List.getElem?_cons_succ, List.getElem?_cons_zero]
          have K6 := Lib.hid (K5.out.trans KX6.out)
          have L6 := Lib.hid (show lo ≤ wr.heap.size from by have := LO.out; have := LWr.out; omega)
          have lw := LWr.out
          go_wp2
          go_roundw
          case rel =>
            exact ⟨k + 1, hlt, by go_num, e1, e2, e3, F6.out, N6.out.low L6.out, K6.out, by have := N6.out.l1; omega, by have := N6.out.l2; omega, by have := N6.out.l3; omega⟩
          case measure => simp [intOf]; omega
    · obtain rfl : k = 6 := by omega
      have RA := Lib.hid (R0.out.keep HK.out (fun e => by unfold one at e; omega))
      have u1 : True := trivial
      have u2 : True := trivial
      clear hlt hk
      go_wp2_with (first | (have _t := u1; refine wpList_load_part 32 (.tmp 5) rfl rfl w.heap.size 0 rfl (frV d1 d2 d3) _ HF.out.rangeAt Tryz.underlying32 rfl (by kernel_rfl) ?_; go_frame; clear _t u1) | (have _t := u2; refine wpList_store_blk rfl 32 (.tmp 10) (.tmp 90) rfl (w.heap.size + 1 + 1) 32 _ (frV d1 d2 d3) rfl rfl RA.out rfl (by kernel_rfl) (by kernel_rfl) ?_; intro w8 hb8 hk8 hs8; have B8 := Lib.hid hb8; have K8 := Lib.hid hk8; clear hb8 hk8 hs8; go_frame; clear _t u2))
      have ne10 : ∀ b : Nat, ByteBlk wr b (List.replicate 256 z) ∨ ByteBlk wr b (List.replicate 64 z) → b ≠ w.heap.size + 1 + 1 := fun b h e => by
        rcases h with h | h
        · exact Blk.ne_ h.1 RA.out (by decide) e
        · exact Blk.ne_ h.1 RA.out (by decide) e
      refine bodyPost_ret (results_cell_tmp' Tryz.results77 rfl (run_loadVar_blk B8.out Tryz.underlying32 rfl (by kernel_rfl))) rfl ⟨d1, d2, d3, rfl, HN.out.keep K8.out (one_ne (ne10 _ (.inl HN.out.y))) (one_ne (ne10 _ (.inr HN.out.u))) (one_ne (ne10 _ (.inr HN.out.v))), (K0.out.own HK.out (Nat.le_refl _)).own K8.out (by omega)⟩
end Go.Proofs.YtebdgoikmclflaaGreatDoor
