/-
  quant.Quantise, quant.Dequantise of a block of zeros.
-/
import Derived.Test.YtebdgoikmclflaaGreatDoorEb25
namespace Go.Proofs.YtebdgoikmclflaaGreatDoor
open Go.RowKit

/-- 64 entries 16 of a matrix. -/
def M16 : Array Value := ((List.replicate 64 (16 : Int)).map (Value.int .u8)).toArray
theorem M16_size : M16.size = 64 := by unfold M16; simp
theorem M16_get (k : Nat) (hk : k < 64) : M16[k]? = some (.int .u8 16) := by
  unfold M16
  rw [List.getElem?_toArray, List.getElem?_map, List.getElem?_replicate, if_pos hk]
  rfl
theorem qvalid16 (w : World) : Calls Tryz.prog 27 #[.agg M16] w fun e w' => e = .returned (.bool true) ∧ Keep none_ w w' := quant_any (List.replicate 64 16) w (by simp)
theorem vqQ8 (w : World) : Calls Tryz.prog 28 #[.int .i64 8] w fun e w' => e = .returned (.bool true) ∧ w = w' := vqQ 8 w
theorem step16 (n : Nat) (hn : n < 64) : ∃ s, (2560 ≤ s ∧ s ≤ 4608) ∧ ∀ w, Calls Tryz.prog 29 #[.int .i64 16, .int .i64 8, .int .i64 n] w fun e w' => e = .returned (.int .i64 s) ∧ Keep none_ w w' :=
  ⟨stp 16 8 n, by have := gain_bound n hn; unfold stp; omega, fun w => step_any 16 8 n (by decide) (by decide) (by decide) (by decide) hn w⟩
set_option maxRecDepth 100000 in
set_option maxHeartbeats 4000000 in
theorem pQuantise (w : World) : Calls Tryz.prog 131 #[.agg (A64 0), .agg M16, .int .i64 8] w fun e w' => e = .returned (.tuple #[.agg (A64 0), .int .i64 0]) ∧ Keep none_ w w' := by
  have QV := Lib.hid qvalid16
  have MS := Lib.hid M16_size
  have MG := Lib.hid M16_get
  generalize M16 = mc at *
  obtain ⟨zc, hzc⟩ : ∃ zc, zc = A64 0 := ⟨_, rfl⟩
  have ze : ∀ w, (zeroValue 99).run Tryz.prog w = .ok (.agg zc) w := by rw [hzc, ← A64_zero]; exact fun w => by kernel_rfl
  have SZ := Lib.hid (show zc.size = 64 by rw [hzc]; exact A64_size 0)
  have OZ := Lib.hid (show zc.all (·.oneCell') = true by rw [hzc]; exact A64_one 0)
  have GZ := Lib.hid (show ∀ k, k < 64 → zc[k]? = some (.int .i64 0) from fun k hk => by rw [hzc]; exact A64_get 0 k hk)
  rw [← hzc]
  obtain ⟨W0, hW0⟩ : ∃ W0, W0 = ((w.alloc (.cells zc 99)).alloc (.cells mc 24)).alloc (.cells zc 99) := ⟨_, rfl⟩
  obtain ⟨x0, m0, r0, k0⟩ := three (Keep.eq_ hW0)
  have X0 := Lib.hid x0
  have M0 := Lib.hid m0
  have R0 := Lib.hid r0
  have K0 := Lib.hid k0
  have S0 := Lib.hid (show w.heap.size + 1 + 1 < W0.heap.size from (show Blk _ _ _ _ from r0).lt)
  have HZC := Lib.hid hzc
  clear k0 x0 m0 r0 hzc
  have t1 : True := trivial
  have t2 : True := trivial
  have t3 : True := trivial
  go_enter Tryz.func131, Tryz.ntmps131
  go_upto_region 1 with (fail)
  rw [← hW0]
  clear hW0
  go_upto_region 3 with (first | (have _t := t1; refine wpList_load_blk rfl 24 (.tmp 4) rfl (w.heap.size + 1) 24 _ _ rfl M0.out Tryz.underlying24 rfl (by rw [MS.out]; kernel_rfl) ?_; go_frame; clear _t t1) | (have _t := t2; go_at_call 27; refine (QV.out W0).mono ?_; rintro e w2 ⟨rfl, k2⟩; have KX2 := Lib.hid k2; clear k2 _t t2) | (have _t := t3; go_at_call 28; refine (vqQ8 w2).mono ?_; rintro e w' ⟨rfl, rfl⟩; clear _t t3))
  go_upto_region 4 with (fail)
  obtain ⟨w3, hw3⟩ : ∃ w3, w3 = w2.alloc (.cells zc 99) := ⟨_, rfl⟩
  rw [← hw3]
  have k3 : Keep none_ w2 w3 := hw3 ▸ (Keep.refl none_ w2).alloc _
  have Z3 := Lib.hid (show ZB w3 w2.heap.size 99 from by unfold ZB; rw [← HZC.out]; exact hw3 ▸ Blk.new _ _ _)
  have KX3 := Lib.hid (KX2.out.trans k3)
  have X3 := Lib.hid (X0.out.keep KX3.out (fun e => e))
  have M3 := Lib.hid (M0.out.keep KX3.out (fun e => e))
  have R3 := Lib.hid (R0.out.keep KX3.out (fun e => e))
  have K3 := Lib.hid (K0.out.trans KX3.out)
  have L2 := Lib.hid (show w.heap.size + 1 + 1 < w2.heap.size from Nat.lt_of_lt_of_le S0.out KX2.out.size)
  clear hw3 k3 KX2 KX3
  obtain ⟨gl, hgl⟩ : ∃ gl, gl = w2.heap.size := ⟨_, rfl⟩
  rw [← hgl] at Z3 L2 ⊢
  clear hgl
  have t4 : True := trivial
  go_wp2_with (have _t := t4; refine wpList_load_blk rfl 99 (.tmp 3) rfl w.heap.size 99 _ _ rfl X3.out Tryz.underlying99 rfl (by rw [SZ.out]; kernel_rfl) ?_; go_frame; clear _t t4)
  go_loopw [25] (fun i wr => ∃ k : Nat, k ≤ 64 ∧ i = .int .i64 k ∧ ZB wr gl 99 ∧ Keep (one gl) w3 wr) (fun i _ => 64 - (intOf i).toNat)
  case atStart => exact ⟨0, by decide, rfl, Z3.out, Keep.refl _ _⟩
  case round =>
    obtain ⟨k, hk, rfl, hZ, hkr⟩ := hrel
    have HZ := Lib.hid hZ
    have HK := Lib.hid hkr
    clear hZ hkr
    by_cases hlt : k < 64
    · have hlt' : (k : Int) < 64 := by omega
      have hc := run_index_i64a zc k _ hlt (GZ.out k hlt)
      have xm : wr.cell? ⟨w.heap.size + 1, k, none⟩ = some (.int .u8 16) := by
        rw [(M3.out.keep HK.out (fun e => by have := L2.out; unfold one at e; omega)).cell]
        exact MG.out k hlt
      obtain ⟨s, ⟨s1, s2⟩, hs⟩ := step16 k hlt
      have ST := Lib.hid hs
      clear hs
      have u1 : True := trivial
      go_upto_region 11 with (have _t := u1; go_at_call 29; refine (ST.out wr).mono ?_; rintro e w5 ⟨rfl, k5⟩; have Z5 := Lib.hid (HZ.out.keep k5 (fun e => e)); have K5 := Lib.hid (HK.out.trans (k5.mono (fun _ e => e.elim))); have c7 := Z5.out.cell k hlt; have z7 := Blk.frozen Z5.out k; clear k5 _t u1)
      have s0 : ¬ s = 0 := by omega
      have s3 : ¬ s ≤ 0 := by omega
      have gd := still_good (w5).drew
      have ne := still_some (w5).drew
      have hx := still_at (w5).drew
      refine wp_region_calm (stillCalm (w5).drew) [0, 1, 2, 3, 4, 5, 6, 7] [] 73 (by kernel_rfl) (by kernel_rfl) rfl gd rfl ?_
      simp only [pairs, List.filterMap_cons, List.filterMap_nil, List.getElem?_toArray, List.getElem?_cons_succ, List.getElem?_cons_zero, Option.map_some]
      repeat (refine Calm.walk_quiet ne rfl rfl rfl (fun K hK => ?_); go_big_quiet_op; refine hK _ ?_; clear hK K)
      intro w' hR _
      obtain rfl : w' = (w5).drew := hR.symm
      simp only [pickOps, List.filterMap_nil]
      clear gd ne hx hR
      have Z6 := Lib.hid (show ZB (w5.drew.setCell ⟨gl, k, none⟩ (.int .i64 0)) gl 99 from ZB.set_ (Blk.drew Z5.out) k)
      have K6 := Lib.hid (show Keep (one gl) w3 (w5.drew.setCell ⟨gl, k, none⟩ (.int .i64 0)) from K5.out.drew.setCell (p := ⟨gl, k, none⟩) (.inl rfl) _)
      go_wp2
      go_roundw
      case rel => exact ⟨k + 1, hlt, by go_num, Z6.out, K6.out⟩
      case measure => simp [intOf]; omega
    · obtain rfl : k = 64 := by omega
      have RA := Lib.hid (R3.out.keep HK.out (fun e => by have := L2.out; unfold one at e; omega))
      have KA := Lib.hid (show Keep none_ w wr from K3.out.own HK.out (by have := L2.out; omega))
      have u1 : True := trivial
      have u2 : True := trivial
      have YA := Lib.hid (show Blk wr gl 99 zc from by rw [HZC.out]; exact HZ.out)
      clear hlt hk
      go_wp2_with (first | (have _t := u1; refine wpList_load_blk rfl 99 (.tmp 8) rfl gl 99 _ _ rfl YA.out Tryz.underlying99 rfl (by rw [SZ.out]; kernel_rfl) ?_; go_frame; clear _t u1) | (have _t := u2; refine wpList_store_blk rfl 99 (.tmp 6) (.tmp 72) rfl (w.heap.size + 1 + 1) 99 _ _ rfl rfl RA.out rfl (by rw [SZ.out]; kernel_rfl) OZ.out ?_; intro w8 hb8 hk8 hs8; have B8 := Lib.hid hb8; have K8 := Lib.hid hk8; clear hb8 hk8 hs8; go_frame; clear _t u2))
      refine bodyPost_ret (results_cell_tmp' Tryz.results131 rfl (run_loadVar_blk B8.out Tryz.underlying99 rfl (by rw [SZ.out]; kernel_rfl))) rfl ⟨rfl, KA.out.own K8.out (by omega)⟩
set_option maxRecDepth 100000 in
set_option maxHeartbeats 4000000 in
theorem pDequantise (w : World) : Calls Tryz.prog 111 #[.agg (A64 0), .agg M16, .int .i64 8] w fun e w' => e = .returned (.tuple #[.agg (A64 0), .int .i64 0]) ∧ Keep none_ w w' := by
  have QV := Lib.hid qvalid16
  have MS := Lib.hid M16_size
  have MG := Lib.hid M16_get
  generalize M16 = mc at *
  obtain ⟨zc, hzc⟩ : ∃ zc, zc = A64 0 := ⟨_, rfl⟩
  have ze : ∀ w, (zeroValue 99).run Tryz.prog w = .ok (.agg zc) w := by rw [hzc, ← A64_zero]; exact fun w => by kernel_rfl
  have SZ := Lib.hid (show zc.size = 64 by rw [hzc]; exact A64_size 0)
  have OZ := Lib.hid (show zc.all (·.oneCell') = true by rw [hzc]; exact A64_one 0)
  have GZ := Lib.hid (show ∀ k, k < 64 → zc[k]? = some (.int .i64 0) from fun k hk => by rw [hzc]; exact A64_get 0 k hk)
  rw [← hzc]
  obtain ⟨W0, hW0⟩ : ∃ W0, W0 = ((w.alloc (.cells zc 99)).alloc (.cells mc 24)).alloc (.cells zc 99) := ⟨_, rfl⟩
  obtain ⟨x0, m0, r0, k0⟩ := three (Keep.eq_ hW0)
  have X0 := Lib.hid x0
  have M0 := Lib.hid m0
  have R0 := Lib.hid r0
  have K0 := Lib.hid k0
  have S0 := Lib.hid (show w.heap.size + 1 + 1 < W0.heap.size from (show Blk _ _ _ _ from r0).lt)
  have HZC := Lib.hid hzc
  clear k0 x0 m0 r0 hzc
  have t1 : True := trivial
  have t2 : True := trivial
  have t3 : True := trivial
  go_enter Tryz.func111, Tryz.ntmps111
  go_upto_region 1 with (fail)
  rw [← hW0]
  clear hW0
  go_upto_region 3 with (first | (have _t := t1; refine wpList_load_blk rfl 24 (.tmp 4) rfl (w.heap.size + 1) 24 _ _ rfl M0.out Tryz.underlying24 rfl (by rw [MS.out]; kernel_rfl) ?_; go_frame; clear _t t1) | (have _t := t2; go_at_call 27; refine (QV.out W0).mono ?_; rintro e w2 ⟨rfl, k2⟩; have KX2 := Lib.hid k2; clear k2 _t t2) | (have _t := t3; go_at_call 28; refine (vqQ8 w2).mono ?_; rintro e w' ⟨rfl, rfl⟩; clear _t t3))
  go_upto_region 4 with (fail)
  obtain ⟨w3, hw3⟩ : ∃ w3, w3 = w2.alloc (.cells zc 99) := ⟨_, rfl⟩
  rw [← hw3]
  have k3 : Keep none_ w2 w3 := hw3 ▸ (Keep.refl none_ w2).alloc _
  have Z3 := Lib.hid (show ZB w3 w2.heap.size 99 from by unfold ZB; rw [← HZC.out]; exact hw3 ▸ Blk.new _ _ _)
  have KX3 := Lib.hid (KX2.out.trans k3)
  have X3 := Lib.hid (X0.out.keep KX3.out (fun e => e))
  have M3 := Lib.hid (M0.out.keep KX3.out (fun e => e))
  have R3 := Lib.hid (R0.out.keep KX3.out (fun e => e))
  have K3 := Lib.hid (K0.out.trans KX3.out)
  have L2 := Lib.hid (show w.heap.size + 1 + 1 < w2.heap.size from Nat.lt_of_lt_of_le S0.out KX2.out.size)
  clear hw3 k3 KX2 KX3
  obtain ⟨gl, hgl⟩ : ∃ gl, gl = w2.heap.size := ⟨_, rfl⟩
  rw [← hgl] at Z3 L2 ⊢
  clear hgl
  have t4 : True := trivial
  go_wp2_with (have _t := t4; refine wpList_load_blk rfl 99 (.tmp 3) rfl w.heap.size 99 _ _ rfl X3.out Tryz.underlying99 rfl (by rw [SZ.out]; kernel_rfl) ?_; go_frame; clear _t t4)
  go_loopw [21] (fun i wr => ∃ k : Nat, k ≤ 64 ∧ i = .int .i64 k ∧ ZB wr gl 99 ∧ Keep (one gl) w3 wr) (fun i _ => 64 - (intOf i).toNat)
  case atStart => exact ⟨0, by decide, rfl, Z3.out, Keep.refl _ _⟩
  case round =>
    obtain ⟨k, hk, rfl, hZ, hkr⟩ := hrel
    have HZ := Lib.hid hZ
    have HK := Lib.hid hkr
    clear hZ hkr
    by_cases hlt : k < 64
    · have hlt' : (k : Int) < 64 := by omega
      have hc := run_index_i64a zc k _ hlt (GZ.out k hlt)
      have xm : wr.cell? ⟨w.heap.size + 1, k, none⟩ = some (.int .u8 16) := by
        rw [(M3.out.keep HK.out (fun e => by have := L2.out; unfold one at e; omega)).cell]
        exact MG.out k hlt
      obtain ⟨s, ⟨s1, s2⟩, hs⟩ := step16 k hlt
      have ST := Lib.hid hs
      clear hs
      have u1 : True := trivial
      go_upto_region 10 with (have _t := u1; go_at_call 29; refine (ST.out wr).mono ?_; rintro e w5 ⟨rfl, k5⟩; have Z5 := Lib.hid (HZ.out.keep k5 (fun e => e)); have K5 := Lib.hid (HK.out.trans (k5.mono (fun _ e => e.elim))); have c7 := Z5.out.cell k hlt; have z7 := Blk.frozen Z5.out k; clear k5 _t u1)
      have s0 : ¬ s = 0 := by omega
      have s3 : ¬ s ≤ 0 := by omega
      skip
      have Z6 := Lib.hid (show ZB (w5.setCell ⟨gl, k, none⟩ (.int .i64 0)) gl 99 from ZB.set_ Z5.out k)
      have K6 := Lib.hid (show Keep (one gl) w3 (w5.setCell ⟨gl, k, none⟩ (.int .i64 0)) from K5.out.setCell (p := ⟨gl, k, none⟩) (.inl rfl) _)
      go_wp2
      go_roundw
      case rel => exact ⟨k + 1, hlt, by go_num, Z6.out, K6.out⟩
      case measure => simp [intOf]; omega
    · obtain rfl : k = 64 := by omega
      have RA := Lib.hid (R3.out.keep HK.out (fun e => by have := L2.out; unfold one at e; omega))
      have KA := Lib.hid (show Keep none_ w wr from K3.out.own HK.out (by have := L2.out; omega))
      have u1 : True := trivial
      have u2 : True := trivial
      have YA := Lib.hid (show Blk wr gl 99 zc from by rw [HZC.out]; exact HZ.out)
      clear hlt hk
      go_wp2_with (first | (have _t := u1; refine wpList_load_blk rfl 99 (.tmp 8) rfl gl 99 _ _ rfl YA.out Tryz.underlying99 rfl (by rw [SZ.out]; kernel_rfl) ?_; go_frame; clear _t u1) | (have _t := u2; refine wpList_store_blk rfl 99 (.tmp 6) (.tmp 44) rfl (w.heap.size + 1 + 1) 99 _ _ rfl rfl RA.out rfl (by rw [SZ.out]; kernel_rfl) OZ.out ?_; intro w8 hb8 hk8 hs8; have B8 := Lib.hid hb8; have K8 := Lib.hid hk8; clear hb8 hk8 hs8; go_frame; clear _t u2))
      refine bodyPost_ret (results_cell_tmp' Tryz.results111 rfl (run_loadVar_blk B8.out Tryz.underlying99 rfl (by rw [SZ.out]; kernel_rfl))) rfl ⟨rfl, KA.out.own K8.out (by omega)⟩
end Go.Proofs.YtebdgoikmclflaaGreatDoor
