/-
  plane.paste of a block of one number into a plane of the same number.
-/
import Derived.Test.YtebdgoikmclflaaGreatDoorEb15
namespace Go.Proofs.YtebdgoikmclflaaGreatDoor
open Go.RowKit

set_option maxRecDepth 100000 in
set_option maxHeartbeats 2000000 in
theorem paste0 (z : Int) (bd bs : Nat) (w : World) (hd : ByteBlk w bd (List.replicate 256 z)) (hs : ByteBlk w bs (List.replicate 64 z)) (hz : 0 ≤ z ∧ z ≤ 255) (hne : bs ≠ bd) : Calls Tryz.prog 83 #[.slice (some ⟨bd, 0, none⟩) 256 256, .agg #[.int .i64 0, .int .i64 16, .int .i64 8, .int .i64 8], .slice (some ⟨bs, 0, none⟩) 64 64] w fun e w' => e = .returned (.tuple #[]) ∧ ByteBlk w' bd (List.replicate 256 z) ∧ Keep (one bd) w w' := by
  obtain ⟨W0, hW0⟩ : ∃ W0, W0 = (w.alloc (.cells #[.int .i64 0, .int .i64 16, .int .i64 8, .int .i64 8] 145)) := ⟨_, rfl⟩
  have k0 : Keep none_ w W0 := hW0 ▸ (Keep.refl _ _).alloc _
  have b0 : Blk W0 w.heap.size 145 #[.int .i64 0, .int .i64 16, .int .i64 8, .int .i64 8] := hW0 ▸ Blk.new _ _ _
  have B0 := Lib.hid b0
  have LD := Lib.hid (show bd < w.heap.size from (show Blk _ _ _ _ from hd.1).lt)
  have HB0 := Lib.hid (hd.keep k0 (fun e => e))
  have HS0 := Lib.hid (hs.keep k0 (fun e => e))
  have K0 := Lib.hid k0
  have NE := Lib.hid hne
  have HZ := Lib.hid hz
  have y3 : W0.cell? ⟨w.heap.size, 3, none⟩ = some (.int .i64 8) := b0.cell 3
  clear k0 b0 hd hs hne hz
  go_enter Tryz.func83, Tryz.ntmps83
  go_upto_region 1 with (fail)
  rw [← hW0]
  clear hW0
  go_wp2_with (fail)
  clear y3
  go_loopw [9] (fun i wr => ∃ k : Nat, k ≤ 8 ∧ i = .int .i64 k ∧ ByteBlk wr bd (List.replicate 256 z) ∧ Keep (one bd) W0 wr) (fun i _ => 8 - (intOf i).toNat)
  case atStart => exact ⟨0, by decide, rfl, HB0.out, Keep.refl _ _⟩
  case round =>
    obtain ⟨k, hk, rfl, hD, hkr⟩ := hrel
    have HD := Lib.hid hD
    have HK := Lib.hid hkr
    clear hD hkr
    by_cases hlt : k < 8
    · have hlt' : (k : Int) < 8 := by omega
      have BA := Lib.hid (B0.out.keep HK.out (fun e => by have := LD.out; unfold one at e; omega))
      have x0 : wr.cell? ⟨w.heap.size, 0, none⟩ = some (.int .i64 0) := BA.out.cell 0
      have x1 : wr.cell? ⟨w.heap.size, 1, none⟩ = some (.int .i64 16) := BA.out.cell 1
      have x2 : wr.cell? ⟨w.heap.size, 2, none⟩ = some (.int .i64 8) := BA.out.cell 2
      have SW := Lib.hid (HS0.out.keep HK.out (fun e => NE.out e))
      go_upto_region 4 with (fail)
      have e1 : (k : Int) * 8 ≤ ((k : Int) + 1) * 8 := by omega
      have e2 : ((k : Int) + 1) * 8 ≤ 64 := by omega
      have e3 : (0 : Int) + k * 16 ≤ 256 := by omega
      have e4 : ¬ (256 : Int) = 0 + k * 16 := by omega
      have gd := still_good (wr).drew
      have ne := still_some (wr).drew
      have hx := still_at (wr).drew
      refine wp_region_calm (stillCalm (wr).drew) [0, 1, 2, 3, 4, 5, 6, 7, 8, 9, 10, 11, 12, 13, 14, 15, 16, 17, 18, 19] [20] 34 (by kernel_rfl) (by kernel_rfl) rfl gd rfl ?_
      simp only [pairs, List.filterMap_cons, List.filterMap_nil, List.getElem?_toArray, List.getElem?_cons_succ, List.getElem?_cons_zero, Option.map_some]
      repeat (refine Calm.walk_quiet ne rfl rfl rfl (fun K hK => ?_); go_big_quiet_op; refine hK _ ?_; clear hK K)
      intro w' hR _
      obtain rfl : w' = (wr).drew := hR.symm
      simp only [pickOps, List.filterMap_cons, List.filterMap_nil, List.getElem?_toArray, List.getElem?_cons_succ, List.getElem?_cons_zero]
      clear gd ne hx hR
      have hsrc : ∀ j, j < 8 → (wr.drew).cell? ⟨bs, k * 8 + j, none⟩ = some (.int .u8 z) := fun j hj => by
        have h := SW.out.cell (k := k * 8 + j) (by rw [List.length_replicate]; omega)
        rw [List.getElem_replicate] at h
        exact h
      obtain ⟨wc, hcr, hcb, hck⟩ := copy_blk (w := wr.drew) (g := bd) (o := k * 16) (dLen := 256 - k * 16) (dCap := 256 - k * 16) (sb := bs) (so := k * 8) (sLen := (k + 1) * 8 - k * 8) (sCap := 64 - k * 8) (n := 8) (z := z) 3 ⟨HD.out.1.drew, HD.out.2⟩ (by show 8 = min _ _; omega) HZ.out hsrc (by rw [List.length_replicate]; omega)
      rw [rep_same (by omega)] at hcb
      have CB := Lib.hid (show ByteBlk wc bd (List.replicate 256 z) by exact hcb)
      have CK := Lib.hid (show Keep (one bd) W0 wc from HK.out.drew.trans hck)
      refine wpList_copy_is (.tmp 20) (.tmp 31) 30 30 rfl rfl _ _ rfl rfl hcr ?_
      go_frame
      clear hcr hcb hck hsrc
      go_wp2
      go_roundw
      case rel => exact ⟨k + 1, hlt, by go_num, CB.out, CK.out⟩
      case measure => simp [intOf]; omega
    · obtain rfl : k = 8 := by omega
      have GO := Lib.hid (show ByteBlk wr bd (List.replicate 256 z) from HD.out)
      have KO := Lib.hid (show Keep (one bd) w wr from (K0.out.weak).trans HK.out)
      clear hlt hk
      go_wp2
      go_end0
      exact ⟨rfl, GO.out, KO.out⟩
set_option maxRecDepth 100000 in
set_option maxHeartbeats 2000000 in
theorem paste1 (z : Int) (bd bs : Nat) (w : World) (hd : ByteBlk w bd (List.replicate 256 z)) (hs : ByteBlk w bs (List.replicate 64 z)) (hz : 0 ≤ z ∧ z ≤ 255) (hne : bs ≠ bd) : Calls Tryz.prog 83 #[.slice (some ⟨bd, 0, none⟩) 256 256, .agg #[.int .i64 8, .int .i64 16, .int .i64 8, .int .i64 8], .slice (some ⟨bs, 0, none⟩) 64 64] w fun e w' => e = .returned (.tuple #[]) ∧ ByteBlk w' bd (List.replicate 256 z) ∧ Keep (one bd) w w' := by
  obtain ⟨W0, hW0⟩ : ∃ W0, W0 = (w.alloc (.cells #[.int .i64 8, .int .i64 16, .int .i64 8, .int .i64 8] 145)) := ⟨_, rfl⟩
  have k0 : Keep none_ w W0 := hW0 ▸ (Keep.refl _ _).alloc _
  have b0 : Blk W0 w.heap.size 145 #[.int .i64 8, .int .i64 16, .int .i64 8, .int .i64 8] := hW0 ▸ Blk.new _ _ _
  have B0 := Lib.hid b0
  have LD := Lib.hid (show bd < w.heap.size from (show Blk _ _ _ _ from hd.1).lt)
  have HB0 := Lib.hid (hd.keep k0 (fun e => e))
  have HS0 := Lib.hid (hs.keep k0 (fun e => e))
  have K0 := Lib.hid k0
  have NE := Lib.hid hne
  have HZ := Lib.hid hz
  have y3 : W0.cell? ⟨w.heap.size, 3, none⟩ = some (.int .i64 8) := b0.cell 3
  clear k0 b0 hd hs hne hz
  go_enter Tryz.func83, Tryz.ntmps83
  go_upto_region 1 with (fail)
  rw [← hW0]
  clear hW0
  go_wp2_with (fail)
  clear y3
  go_loopw [9] (fun i wr => ∃ k : Nat, k ≤ 8 ∧ i = .int .i64 k ∧ ByteBlk wr bd (List.replicate 256 z) ∧ Keep (one bd) W0 wr) (fun i _ => 8 - (intOf i).toNat)
  case atStart => exact ⟨0, by decide, rfl, HB0.out, Keep.refl _ _⟩
  case round =>
    obtain ⟨k, hk, rfl, hD, hkr⟩ := hrel
    have HD := Lib.hid hD
    have HK := Lib.hid hkr
    clear hD hkr
    by_cases hlt : k < 8
    · have hlt' : (k : Int) < 8 := by omega
      have BA := Lib.hid (B0.out.keep HK.out (fun e => by have := LD.out; unfold one at e; omega))
      have x0 : wr.cell? ⟨w.heap.size, 0, none⟩ = some (.int .i64 8) := BA.out.cell 0
      have x1 : wr.cell? ⟨w.heap.size, 1, none⟩ = some (.int .i64 16) := BA.out.cell 1
      have x2 : wr.cell? ⟨w.heap.size, 2, none⟩ = some (.int .i64 8) := BA.out.cell 2
      have SW := Lib.hid (HS0.out.keep HK.out (fun e => NE.out e))
      go_upto_region 4 with (fail)
      have e1 : (k : Int) * 8 ≤ ((k : Int) + 1) * 8 := by omega
      have e2 : ((k : Int) + 1) * 8 ≤ 64 := by omega
      have e3 : (8 : Int) + k * 16 ≤ 256 := by omega
      have e4 : ¬ (256 : Int) = 8 + k * 16 := by omega
      have gd := still_good (wr).drew
      have ne := still_some (wr).drew
      have hx := still_at (wr).drew
      refine wp_region_calm (stillCalm (wr).drew) [0, 1, 2, 3, 4, 5, 6, 7, 8, 9, 10, 11, 12, 13, 14, 15, 16, 17, 18, 19] [20] 34 (by kernel_rfl) (by kernel_rfl) rfl gd rfl ?_
      simp only [pairs, List.filterMap_cons, List.filterMap_nil, List.getElem?_toArray, List.getElem?_cons_succ, List.getElem?_cons_zero, Option.map_some]
      repeat (refine Calm.walk_quiet ne rfl rfl rfl (fun K hK => ?_); go_big_quiet_op; refine hK _ ?_; clear hK K)
      intro w' hR _
      obtain rfl : w' = (wr).drew := hR.symm
      simp only [pickOps, List.filterMap_cons, List.filterMap_nil, List.getElem?_toArray, List.getElem?_cons_succ, List.getElem?_cons_zero]
      clear gd ne hx hR
      have hsrc : ∀ j, j < 8 → (wr.drew).cell? ⟨bs, k * 8 + j, none⟩ = some (.int .u8 z) := fun j hj => by
        have h := SW.out.cell (k := k * 8 + j) (by rw [List.length_replicate]; omega)
        rw [List.getElem_replicate] at h
        exact h
      obtain ⟨wc, hcr, hcb, hck⟩ := copy_blk (w := wr.drew) (g := bd) (o := (8 + k * 16)) (dLen := 256 - (8 + k * 16)) (dCap := 256 - (8 + k * 16)) (sb := bs) (so := k * 8) (sLen := (k + 1) * 8 - k * 8) (sCap := 64 - k * 8) (n := 8) (z := z) 3 ⟨HD.out.1.drew, HD.out.2⟩ (by show 8 = min _ _; omega) HZ.out hsrc (by rw [List.length_replicate]; omega)
      rw [rep_same (by omega)] at hcb
      have CB := Lib.hid (show ByteBlk wc bd (List.replicate 256 z) by exact hcb)
      have CK := Lib.hid (show Keep (one bd) W0 wc from HK.out.drew.trans hck)
      refine wpList_copy_is (.tmp 20) (.tmp 31) 30 30 rfl rfl _ _ rfl rfl hcr ?_
      go_frame
      clear hcr hcb hck hsrc
      go_wp2
      go_roundw
      case rel => exact ⟨k + 1, hlt, by go_num, CB.out, CK.out⟩
      case measure => simp [intOf]; omega
    · obtain rfl : k = 8 := by omega
      have GO := Lib.hid (show ByteBlk wr bd (List.replicate 256 z) from HD.out)
      have KO := Lib.hid (show Keep (one bd) w wr from (K0.out.weak).trans HK.out)
      clear hlt hk
      go_wp2
      go_end0
      exact ⟨rfl, GO.out, KO.out⟩
set_option maxRecDepth 100000 in
set_option maxHeartbeats 2000000 in
theorem paste2 (z : Int) (bd bs : Nat) (w : World) (hd : ByteBlk w bd (List.replicate 256 z)) (hs : ByteBlk w bs (List.replicate 64 z)) (hz : 0 ≤ z ∧ z ≤ 255) (hne : bs ≠ bd) : Calls Tryz.prog 83 #[.slice (some ⟨bd, 0, none⟩) 256 256, .agg #[.int .i64 128, .int .i64 16, .int .i64 8, .int .i64 8], .slice (some ⟨bs, 0, none⟩) 64 64] w fun e w' => e = .returned (.tuple #[]) ∧ ByteBlk w' bd (List.replicate 256 z) ∧ Keep (one bd) w w' := by
  obtain ⟨W0, hW0⟩ : ∃ W0, W0 = (w.alloc (.cells #[.int .i64 128, .int .i64 16, .int .i64 8, .int .i64 8] 145)) := ⟨_, rfl⟩
  have k0 : Keep none_ w W0 := hW0 ▸ (Keep.refl _ _).alloc _
  have b0 : Blk W0 w.heap.size 145 #[.int .i64 128, .int .i64 16, .int .i64 8, .int .i64 8] := hW0 ▸ Blk.new _ _ _
  have B0 := Lib.hid b0
  have LD := Lib.hid (show bd < w.heap.size from (show Blk _ _ _ _ from hd.1).lt)
  have HB0 := Lib.hid (hd.keep k0 (fun e => e))
  have HS0 := Lib.hid (hs.keep k0 (fun e => e))
  have K0 := Lib.hid k0
  have NE := Lib.hid hne
  have HZ := Lib.hid hz
  have y3 : W0.cell? ⟨w.heap.size, 3, none⟩ = some (.int .i64 8) := b0.cell 3
  clear k0 b0 hd hs hne hz
  go_enter Tryz.func83, Tryz.ntmps83
  go_upto_region 1 with (fail)
  rw [← hW0]
  clear hW0
  go_wp2_with (fail)
  clear y3
  go_loopw [9] (fun i wr => ∃ k : Nat, k ≤ 8 ∧ i = .int .i64 k ∧ ByteBlk wr bd (List.replicate 256 z) ∧ Keep (one bd) W0 wr) (fun i _ => 8 - (intOf i).toNat)
  case atStart => exact ⟨0, by decide, rfl, HB0.out, Keep.refl _ _⟩
  case round =>
    obtain ⟨k, hk, rfl, hD, hkr⟩ := hrel
    have HD := Lib.hid hD
    have HK := Lib.hid hkr
    clear hD hkr
    by_cases hlt : k < 8
    · have hlt' : (k : Int) < 8 := by omega
      have BA := Lib.hid (B0.out.keep HK.out (fun e => by have := LD.out; unfold one at e; omega))
      have x0 : wr.cell? ⟨w.heap.size, 0, none⟩ = some (.int .i64 128) := BA.out.cell 0
      have x1 : wr.cell? ⟨w.heap.size, 1, none⟩ = some (.int .i64 16) := BA.out.cell 1
      have x2 : wr.cell? ⟨w.heap.size, 2, none⟩ = some (.int .i64 8) := BA.out.cell 2
      have SW := Lib.hid (HS0.out.keep HK.out (fun e => NE.out e))
      go_upto_region 4 with (fail)
      have e1 : (k : Int) * 8 ≤ ((k : Int) + 1) * 8 := by omega
      have e2 : ((k : Int) + 1) * 8 ≤ 64 := by omega
      have e3 : (128 : Int) + k * 16 ≤ 256 := by omega
      have e4 : ¬ (256 : Int) = 128 + k * 16 := by omega
      have gd := still_good (wr).drew
      have ne := still_some (wr).drew
      have hx := still_at (wr).drew
      refine wp_region_calm (stillCalm (wr).drew) [0, 1, 2, 3, 4, 5, 6, 7, 8, 9, 10, 11, 12, 13, 14, 15, 16, 17, 18, 19] [20] 34 (by kernel_rfl) (by kernel_rfl) rfl gd rfl ?_
      simp only [pairs, List.filterMap_cons, List.filterMap_nil, List.getElem?_toArray, List.getElem?_cons_succ, List.getElem?_cons_zero, Option.map_some]
      repeat (refine Calm.walk_quiet ne rfl rfl rfl (fun K hK => ?_); go_big_quiet_op; refine hK _ ?_; clear hK K)
      intro w' hR _
      obtain rfl : w' = (wr).drew := hR.symm
      simp only [pickOps, List.filterMap_cons, List.filterMap_nil, List.getElem?_toArray, List.getElem?_cons_succ, List.getElem?_cons_zero]
      clear gd ne hx hR
      have hsrc : ∀ j, j < 8 → (wr.drew).cell? ⟨bs, k * 8 + j, none⟩ = some (.int .u8 z) := fun j hj => by
        have h := SW.out.cell (k := k * 8 + j) (by rw [List.length_replicate]; omega)
        rw [List.getElem_replicate] at h
        exact h
      obtain ⟨wc, hcr, hcb, hck⟩ := copy_blk (w := wr.drew) (g := bd) (o := (128 + k * 16)) (dLen := 256 - (128 + k * 16)) (dCap := 256 - (128 + k * 16)) (sb := bs) (so := k * 8) (sLen := (k + 1) * 8 - k * 8) (sCap := 64 - k * 8) (n := 8) (z := z) 3 ⟨HD.out.1.drew, HD.out.2⟩ (by show 8 = min _ _; omega) HZ.out hsrc (by rw [List.length_replicate]; omega)
      rw [rep_same (by omega)] at hcb
      have CB := Lib.hid (show ByteBlk wc bd (List.replicate 256 z) by exact hcb)
      have CK := Lib.hid (show Keep (one bd) W0 wc from HK.out.drew.trans hck)
      refine wpList_copy_is (.tmp 20) (.tmp 31) 30 30 rfl rfl _ _ rfl rfl hcr ?_
      go_frame
      clear hcr hcb hck hsrc
      go_wp2
      go_roundw
      case rel => exact ⟨k + 1, hlt, by go_num, CB.out, CK.out⟩
      case measure => simp [intOf]; omega
    · obtain rfl : k = 8 := by omega
      have GO := Lib.hid (show ByteBlk wr bd (List.replicate 256 z) from HD.out)
      have KO := Lib.hid (show Keep (one bd) w wr from (K0.out.weak).trans HK.out)
      clear hlt hk
      go_wp2
      go_end0
      exact ⟨rfl, GO.out, KO.out⟩
set_option maxRecDepth 100000 in
set_option maxHeartbeats 2000000 in
theorem paste3 (z : Int) (bd bs : Nat) (w : World) (hd : ByteBlk w bd (List.replicate 256 z)) (hs : ByteBlk w bs (List.replicate 64 z)) (hz : 0 ≤ z ∧ z ≤ 255) (hne : bs ≠ bd) : Calls Tryz.prog 83 #[.slice (some ⟨bd, 0, none⟩) 256 256, .agg #[.int .i64 136, .int .i64 16, .int .i64 8, .int .i64 8], .slice (some ⟨bs, 0, none⟩) 64 64] w fun e w' => e = .returned (.tuple #[]) ∧ ByteBlk w' bd (List.replicate 256 z) ∧ Keep (one bd) w w' := by
  obtain ⟨W0, hW0⟩ : ∃ W0, W0 = (w.alloc (.cells #[.int .i64 136, .int .i64 16, .int .i64 8, .int .i64 8] 145)) := ⟨_, rfl⟩
  have k0 : Keep none_ w W0 := hW0 ▸ (Keep.refl _ _).alloc _
  have b0 : Blk W0 w.heap.size 145 #[.int .i64 136, .int .i64 16, .int .i64 8, .int .i64 8] := hW0 ▸ Blk.new _ _ _
  have B0 := Lib.hid b0
  have LD := Lib.hid (show bd < w.heap.size from (show Blk _ _ _ _ from hd.1).lt)
  have HB0 := Lib.hid (hd.keep k0 (fun e => e))
  have HS0 := Lib.hid (hs.keep k0 (fun e => e))
  have K0 := Lib.hid k0
  have NE := Lib.hid hne
  have HZ := Lib.hid hz
  have y3 : W0.cell? ⟨w.heap.size, 3, none⟩ = some (.int .i64 8) := b0.cell 3
  clear k0 b0 hd hs hne hz
  go_enter Tryz.func83, Tryz.ntmps83
  go_upto_region 1 with (fail)
  rw [← hW0]
  clear hW0
  go_wp2_with (fail)
  clear y3
  go_loopw [9] (fun i wr => ∃ k : Nat, k ≤ 8 ∧ i = .int .i64 k ∧ ByteBlk wr bd (List.replicate 256 z) ∧ Keep (one bd) W0 wr) (fun i _ => 8 - (intOf i).toNat)
  case atStart => exact ⟨0, by decide, rfl, HB0.out, Keep.refl _ _⟩
  case round =>
    obtain ⟨k, hk, rfl, hD, hkr⟩ := hrel
    have HD := Lib.hid hD
    have HK := Lib.hid hkr
    clear hD hkr
    by_cases hlt : k < 8
    · have hlt' : (k : Int) < 8 := by omega
      have BA := Lib.hid (B0.out.keep HK.out (fun e => by have := LD.out; unfold one at e; omega))
      have x0 : wr.cell? ⟨w.heap.size, 0, none⟩ = some (.int .i64 136) := BA.out.cell 0
      have x1 : wr.cell? ⟨w.heap.size, 1, none⟩ = some (.int .i64 16) := BA.out.cell 1
      have x2 : wr.cell? ⟨w.heap.size, 2, none⟩ = some (.int .i64 8) := BA.out.cell 2
      have SW := Lib.hid (HS0.out.keep HK.out (fun e => NE.out e))
      go_upto_region 4 with (fail)
      have e1 : (k : Int) * 8 ≤ ((k : Int) + 1) * 8 := by omega
      have e2 : ((k : Int) + 1) * 8 ≤ 64 := by omega
      have e3 : (136 : Int) + k * 16 ≤ 256 := by omega
      have e4 : ¬ (256 : Int) = 136 + k * 16 := by omega
      have gd := still_good (wr).drew
      have ne := still_some (wr).drew
      have hx := still_at (wr).drew
      refine wp_region_calm (stillCalm (wr).drew) [0, 1, 2, 3, 4, 5, 6, 7, 8, 9, 10, 11, 12, 13, 14, 15, 16, 17, 18, 19] [20] 34 (by kernel_rfl) (by kernel_rfl) rfl gd rfl ?_
      simp only [pairs, List.filterMap_cons, List.filterMap_nil, List.getElem?_toArray, List.getElem?_cons_succ, List.getElem?_cons_zero, Option.map_some]
      repeat (refine Calm.walk_quiet ne rfl rfl rfl (fun K hK => ?_); go_big_quiet_op; refine hK _ ?_; clear hK K)
      intro w' hR _
      obtain rfl : w' = (wr).drew := hR.symm
      simp only [pickOps, List.filterMap_cons, List.filterMap_nil, List.getElem?_toArray, List.getElem?_cons_succ, List.getElem?_cons_zero]
      clear gd ne hx hR
      have hsrc : ∀ j, j < 8 → (wr.drew).cell? ⟨bs, k * 8 + j, none⟩ = some (.int .u8 z) := fun j hj => by
        have h := SW.out.cell (k := k * 8 + j) (by rw [List.length_replicate]; omega)
        rw [List.getElem_replicate] at h
        exact h
      obtain ⟨wc, hcr, hcb, hck⟩ := copy_blk (w := wr.drew) (g := bd) (o := (136 + k * 16)) (dLen := 256 - (136 + k * 16)) (dCap := 256 - (136 + k * 16)) (sb := bs) (so := k * 8) (sLen := (k + 1) * 8 - k * 8) (sCap := 64 - k * 8) (n := 8) (z := z) 3 ⟨HD.out.1.drew, HD.out.2⟩ (by show 8 = min _ _; omega) HZ.out hsrc (by rw [List.length_replicate]; omega)
      rw [rep_same (by omega)] at hcb
      have CB := Lib.hid (show ByteBlk wc bd (List.replicate 256 z) by exact hcb)
      have CK := Lib.hid (show Keep (one bd) W0 wc from HK.out.drew.trans hck)
      refine wpList_copy_is (.tmp 20) (.tmp 31) 30 30 rfl rfl _ _ rfl rfl hcr ?_
      go_frame
      clear hcr hcb hck hsrc
      go_wp2
      go_roundw
      case rel => exact ⟨k + 1, hlt, by go_num, CB.out, CK.out⟩
      case measure => simp [intOf]; omega
    · obtain rfl : k = 8 := by omega
      have GO := Lib.hid (show ByteBlk wr bd (List.replicate 256 z) from HD.out)
      have KO := Lib.hid (show Keep (one bd) w wr from (K0.out.weak).trans HK.out)
      clear hlt hk
      go_wp2
      go_end0
      exact ⟨rfl, GO.out, KO.out⟩
end Go.Proofs.YtebdgoikmclflaaGreatDoor
