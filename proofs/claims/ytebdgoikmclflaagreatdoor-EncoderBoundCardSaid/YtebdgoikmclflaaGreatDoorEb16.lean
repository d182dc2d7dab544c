/-
  plane.copied, plane.paste on planes of one number.
-/
import Derived.Test.YtebdgoikmclflaaGreatDoorEb15
namespace Go.Proofs.YtebdgoikmclflaaGreatDoor
open Go.RowKit

theorem CstS.lt {w : World} {N b o : Nat} {z : Int} (hN : 0 < N) (h : ∀ j, j < N → w.cell? ⟨b, o + j, none⟩ = some (.int .u8 z)) : b < w.heap.size := by
  have h := h 0 hN
  rcases Nat.lt_or_ge b w.heap.size with h' | h'
  · exact h'
  · rw [show w.cell? ⟨b, o + 0, none⟩ = none from by simp [World.cell?, Array.getElem?_eq_none h']] at h
    cases h
set_option maxRecDepth 100000 in
set_option maxHeartbeats 1000000 in
theorem copied256 (z : Int) (A : Option Addr) (C : Nat) (w : World) (hr : CstS w none_ 256 z A C) : Calls Tryz.prog 123 #[.slice A 256 C] w fun e w' => ∃ b, e = .returned (.slice (some ⟨b, 0, none⟩) 256 256) ∧ ByteBlk w' b (List.replicate 256 z) ∧ w.heap.size ≤ b ∧ Keep none_ w w' := by
  obtain ⟨bs, os, rfl, -, hsrc⟩ := hr.at_ (by decide)
  obtain ⟨hr0, hz⟩ := hr
  have hlt := CstS.lt (by decide) hsrc
  have mk : ∀ w, (Instr.makeSlice 30 (.int .i64 256) (.int .i64 256)).run Tryz.prog w = .ok (.slice (some ⟨w.heap.size, 0, none⟩) 256 256) (w.alloc (.cells (madeCells #[.int .u8 0] 256) 5)) := mk_u8 256 (by decide)
  obtain ⟨W1, hW1⟩ : ∃ W1, W1 = w.alloc (.cells (madeCells #[.int .u8 0] 256) 5) := ⟨_, rfl⟩
  have k1 : Keep none_ w W1 := hW1 ▸ (Keep.refl _ _).alloc _
  have d1 : ByteBlk W1 w.heap.size (mixL 256 0 0 z) := by rw [mixL_zero]; exact ByteBlk.made W1 256 _ (hW1 ▸ Blk.new _ _ _)
  have s1 : ∀ j, j < 256 → W1.cell? ⟨bs, os + j, none⟩ = some (.int .u8 z) := fun j hj => k1.cell (hsrc j hj) (fun e => e)
  obtain ⟨wc, hcr, hcb, hck⟩ := copy_blk (w := W1) (g := w.heap.size) (o := 0) (dLen := 256) (dCap := 256) (sb := bs) (so := os) (sLen := 256) (sCap := C) (n := 256) (z := z) 3 d1 rfl hz s1 (by rw [mixL_length (by decide)]; decide)
  have hm : (mixL 256 0 0 z).take 0 ++ List.replicate 256 z ++ (mixL 256 0 0 z).drop (0 + 256) = List.replicate 256 z := by rw [mixL_more (N := 256) (a := 0) (n := 256) (by decide), Nat.zero_add, mixL_all]
  rw [hm] at hcb
  have HR := Lib.hid hcr
  have HB := Lib.hid hcb
  have HK := Lib.hid (k1.own hck (Nat.le_refl _))
  have HW := Lib.hid hW1
  clear hcr hcb hck hm d1 s1 k1 hW1 hsrc hr0 hz hlt
  have t1 : True := trivial
  go_enter Tryz.func123, Tryz.ntmps123
  go_upto_region 2 with (fail)
  rw [← HW.out]
  go_wp2_with (have _t := t1; refine wpList_copy_is (.tmp 7) (.tmp 8) 30 30 rfl rfl _ _ rfl rfl HR.out ?_; go_frame; clear _t t1)
  go_ret
  exact ⟨_, rfl, HB.out, Nat.le_refl _, HK.out⟩
set_option maxRecDepth 100000 in
set_option maxHeartbeats 1000000 in
theorem copied64 (z : Int) (A : Option Addr) (C : Nat) (w : World) (hr : CstS w none_ 64 z A C) : Calls Tryz.prog 123 #[.slice A 64 C] w fun e w' => ∃ b, e = .returned (.slice (some ⟨b, 0, none⟩) 64 64) ∧ ByteBlk w' b (List.replicate 64 z) ∧ w.heap.size ≤ b ∧ Keep none_ w w' := by
  obtain ⟨bs, os, rfl, -, hsrc⟩ := hr.at_ (by decide)
  obtain ⟨hr0, hz⟩ := hr
  have hlt := CstS.lt (by decide) hsrc
  have mk : ∀ w, (Instr.makeSlice 30 (.int .i64 64) (.int .i64 64)).run Tryz.prog w = .ok (.slice (some ⟨w.heap.size, 0, none⟩) 64 64) (w.alloc (.cells (madeCells #[.int .u8 0] 64) 5)) := mk_u8 64 (by decide)
  obtain ⟨W1, hW1⟩ : ∃ W1, W1 = w.alloc (.cells (madeCells #[.int .u8 0] 64) 5) := ⟨_, rfl⟩
  have k1 : Keep none_ w W1 := hW1 ▸ (Keep.refl _ _).alloc _
  have d1 : ByteBlk W1 w.heap.size (mixL 64 0 0 z) := by rw [mixL_zero]; exact ByteBlk.made W1 64 _ (hW1 ▸ Blk.new _ _ _)
  have s1 : ∀ j, j < 64 → W1.cell? ⟨bs, os + j, none⟩ = some (.int .u8 z) := fun j hj => k1.cell (hsrc j hj) (fun e => e)
  obtain ⟨wc, hcr, hcb, hck⟩ := copy_blk (w := W1) (g := w.heap.size) (o := 0) (dLen := 64) (dCap := 64) (sb := bs) (so := os) (sLen := 64) (sCap := C) (n := 64) (z := z) 3 d1 rfl hz s1 (by rw [mixL_length (by decide)]; decide)
  have hm : (mixL 64 0 0 z).take 0 ++ List.replicate 64 z ++ (mixL 64 0 0 z).drop (0 + 64) = List.replicate 64 z := by rw [mixL_more (N := 64) (a := 0) (n := 64) (by decide), Nat.zero_add, mixL_all]
  rw [hm] at hcb
  have HR := Lib.hid hcr
  have HB := Lib.hid hcb
  have HK := Lib.hid (k1.own hck (Nat.le_refl _))
  have HW := Lib.hid hW1
  clear hcr hcb hck hm d1 s1 k1 hW1 hsrc hr0 hz hlt
  have t1 : True := trivial
  go_enter Tryz.func123, Tryz.ntmps123
  go_upto_region 2 with (fail)
  rw [← HW.out]
  go_wp2_with (have _t := t1; refine wpList_copy_is (.tmp 7) (.tmp 8) 30 30 rfl rfl _ _ rfl rfl HR.out ?_; go_frame; clear _t t1)
  go_ret
  exact ⟨_, rfl, HB.out, Nat.le_refl _, HK.out⟩
set_option maxRecDepth 100000 in
set_option maxHeartbeats 2000000 in
theorem pasteA (x : Int) (z : Int) (bd bs : Nat) (w : World) (hd : ByteBlk w bd (List.replicate 256 x)) (hs : ByteBlk w bs (List.replicate 256 z)) (hz : 0 ≤ z ∧ z ≤ 255) (hne : bs ≠ bd) : Calls Tryz.prog 83 #[.slice (some ⟨bd, 0, none⟩) 256 256, .agg #[.int .i64 0, .int .i64 16, .int .i64 16, .int .i64 16], .slice (some ⟨bs, 0, none⟩) 256 256] w fun e w' => e = .returned (.tuple #[]) ∧ ByteBlk w' bd (List.replicate 256 z) ∧ Keep (one bd) w w' := by
  obtain ⟨W0, hW0⟩ : ∃ W0, W0 = (w.alloc (.cells #[.int .i64 0, .int .i64 16, .int .i64 16, .int .i64 16] 145)) := ⟨_, rfl⟩
  have k0 : Keep none_ w W0 := hW0 ▸ (Keep.refl _ _).alloc _
  have b0 : Blk W0 w.heap.size 145 #[.int .i64 0, .int .i64 16, .int .i64 16, .int .i64 16] := hW0 ▸ Blk.new _ _ _
  have B0 := Lib.hid b0
  have LD := Lib.hid (show bd < w.heap.size from (show Blk _ _ _ _ from hd.1).lt)
  have HB0 := Lib.hid (hd.keep k0 (fun e => e))
  have HS0 := Lib.hid (hs.keep k0 (fun e => e))
  have K0 := Lib.hid k0
  have NE := Lib.hid hne
  have HZ := Lib.hid hz
  have y3 : W0.cell? ⟨w.heap.size, 3, none⟩ = some (.int .i64 16) := b0.cell 3
  clear k0 b0 hd hs hne hz
  go_enter Tryz.func83, Tryz.ntmps83
  go_upto_region 1 with (fail)
  rw [← hW0]
  clear hW0
  go_wp2_with (fail)
  clear y3
  go_loopw [9] (fun i wr => ∃ k : Nat, k ≤ 16 ∧ i = .int .i64 k ∧ ByteBlk wr bd (mixL 256 (k * 16) x z) ∧ Keep (one bd) W0 wr) (fun i _ => 16 - (intOf i).toNat)
  case atStart => exact ⟨0, by decide, rfl, (by rw [Nat.zero_mul, mixL_zero]; exact HB0.out), Keep.refl _ _⟩
  case round =>
    obtain ⟨k, hk, rfl, hD, hkr⟩ := hrel
    have HD := Lib.hid hD
    have HK := Lib.hid hkr
    clear hD hkr
    by_cases hlt : k < 16
    · have hlt' : (k : Int) < 16 := by omega
      have BA := Lib.hid (B0.out.keep HK.out (fun e => by have := LD.out; unfold one at e; omega))
      have x0 : wr.cell? ⟨w.heap.size, 0, none⟩ = some (.int .i64 0) := BA.out.cell 0
      have x1 : wr.cell? ⟨w.heap.size, 1, none⟩ = some (.int .i64 16) := BA.out.cell 1
      have x2 : wr.cell? ⟨w.heap.size, 2, none⟩ = some (.int .i64 16) := BA.out.cell 2
      have SW := Lib.hid (HS0.out.keep HK.out (fun e => NE.out e))
      go_upto_region 4 with (fail)
      have e1 : (k : Int) * 16 ≤ ((k : Int) + 1) * 16 := by omega
      have e2 : ((k : Int) + 1) * 16 ≤ 256 := by omega
      have e3 : (0 : Int) + k * 16 ≤ 256 := by omega
      have e4 : ¬ (256 : Int) = 0 + k * 16 := by omega
      have gd := still_good (wr).drew
      have ne := still_some (wr).drew
      have hx := still_at (wr).drew
      refine wp_region_calm (stillCalm (wr).drew) [0, 1, 2, 3, 4, 5, 6, 7, 8, 9, 10, 11, 12, 13, 14, 15, 16, 17, 18, 19] [20] 34 (by kernel_rfl) (by kernel_rfl) rfl gd rfl ?_
      simp only [pairs, List.filterMap_cons, List.filterMap_nil, List.getElem?_toArray, List.getElem?_cons_succ, List.getElem?_cons_zero, Option.map_some]
      repeat (refine Calm.walk_quiet ne rfl rfl rfl (fun K hK => ?_); go_big_quiet_op; refine hK _ ?_; clear hK K)
      intro w' hR _
      obtain rfl : w' = (wr).drew := hR.symm
      simp only [pickOps, List.filterMap_cons, List.filterMap_nil, List.getElem?_toArray, List.getElem?_cons_succ, List.getElem?_cons_zero]
      clear gd ne hx hR
      have hsrc : ∀ j, j < 16 → (wr.drew).cell? ⟨bs, k * 16 + j, none⟩ = some (.int .u8 z) := fun j hj => by
        have h := SW.out.cell (k := k * 16 + j) (by rw [List.length_replicate]; omega)
        rw [List.getElem_replicate] at h
        exact h
      obtain ⟨wc, hcr, hcb, hck⟩ := copy_blk (w := wr.drew) (g := bd) (o := k * 16) (dLen := 256 - k * 16) (dCap := 256 - k * 16) (sb := bs) (so := k * 16) (sLen := (k + 1) * 16 - k * 16) (sCap := 256 - k * 16) (n := 16) (z := z) 3 ⟨HD.out.1.drew, HD.out.2⟩ (by show 16 = min _ _; omega) HZ.out hsrc (by rw [mixL_length (by omega)]; omega)
      rw [mixL_more (by omega)] at hcb
      have CB := Lib.hid (show ByteBlk wc bd (mixL 256 ((k + 1) * 16) x z) by rw [Nat.succ_mul]; exact hcb)
      have CK := Lib.hid (show Keep (one bd) W0 wc from HK.out.drew.trans hck)
      refine wpList_copy_is (.tmp 20) (.tmp 31) 30 30 rfl rfl _ _ rfl rfl hcr ?_
      go_frame
      clear hcr hcb hck hsrc
      go_wp2
      go_roundw
      case rel => exact ⟨k + 1, hlt, by go_num, CB.out, CK.out⟩
      case measure => simp [intOf]; omega
    · obtain rfl : k = 16 := by omega
      have GO := Lib.hid (show ByteBlk wr bd (List.replicate 256 z) from (by have h := HD.out; rw [show 16 * 16 = 256 by decide, mixL_all] at h; exact h))
      have KO := Lib.hid (show Keep (one bd) w wr from (K0.out.weak).trans HK.out)
      clear hlt hk
      go_wp2
      go_end0
      exact ⟨rfl, GO.out, KO.out⟩
set_option maxRecDepth 100000 in
set_option maxHeartbeats 2000000 in
theorem pasteB (x : Int) (z : Int) (bd bs : Nat) (w : World) (hd : ByteBlk w bd (List.replicate 64 x)) (hs : ByteBlk w bs (List.replicate 64 z)) (hz : 0 ≤ z ∧ z ≤ 255) (hne : bs ≠ bd) : Calls Tryz.prog 83 #[.slice (some ⟨bd, 0, none⟩) 64 64, .agg #[.int .i64 0, .int .i64 8, .int .i64 8, .int .i64 8], .slice (some ⟨bs, 0, none⟩) 64 64] w fun e w' => e = .returned (.tuple #[]) ∧ ByteBlk w' bd (List.replicate 64 z) ∧ Keep (one bd) w w' := by
  obtain ⟨W0, hW0⟩ : ∃ W0, W0 = (w.alloc (.cells #[.int .i64 0, .int .i64 8, .int .i64 8, .int .i64 8] 145)) := ⟨_, rfl⟩
  have k0 : Keep none_ w W0 := hW0 ▸ (Keep.refl _ _).alloc _
  have b0 : Blk W0 w.heap.size 145 #[.int .i64 0, .int .i64 8, .int .i64 8, .int .i64 8] := hW0 ▸ Blk.new _ _ _
  have B0 := Lib.hid b0
  have LD := Lib.hid (show bd < w.heap.size from (show Blk _ _ _ _ from hd.1).lt)
  have HB0 := Lib.hid (hd.keep k0 (fun e => e))
  have HS0 := Lib.hid (hs.keep k0 (fun e => e))
  have K0 := Lib.hid k0
  have NE := Lib.hid hne
  have HZ := Lib.hid hz
  have y3 : W0.cell? ⟨w.heap.size, 3, none⟩ = some (.int .i64 8) := b0.cell 3
  clear k0 b0 hd hs hne hz
  go_enter Tryz.func83, Tryz.ntmps83
  go_upto_region 1 with (fail)
  rw [← hW0]
  clear hW0
  go_wp2_with (fail)
  clear y3
  go_loopw [9] (fun i wr => ∃ k : Nat, k ≤ 8 ∧ i = .int .i64 k ∧ ByteBlk wr bd (mixL 64 (k * 8) x z) ∧ Keep (one bd) W0 wr) (fun i _ => 8 - (intOf i).toNat)
  case atStart => exact ⟨0, by decide, rfl, (by rw [Nat.zero_mul, mixL_zero]; exact HB0.out), Keep.refl _ _⟩
  case round =>
    obtain ⟨k, hk, rfl, hD, hkr⟩ := hrel
    have HD := Lib.hid hD
    have HK := Lib.hid hkr
    clear hD hkr
    by_cases hlt : k < 8
    · have hlt' : (k : Int) < 8 := by omega
      have BA := Lib.hid (B0.out.keep HK.out (fun e => by have := LD.out; unfold one at e; omega))
      have x0 : wr.cell? ⟨w.heap.size, 0, none⟩ = some (.int .i64 0) := BA.out.cell 0
      have x1 : wr.cell? ⟨w.heap.size, 1, none⟩ = some (.int .i64 8) := BA.out.cell 1
      have x2 : wr.cell? ⟨w.heap.size, 2, none⟩ = some (.int .i64 8) := BA.out.cell 2
      have SW := Lib.hid (HS0.out.keep HK.out (fun e => NE.out e))
      go_upto_region 4 with (fail)
      have e1 : (k : Int) * 8 ≤ ((k : Int) + 1) * 8 := by omega
      have e2 : ((k : Int) + 1) * 8 ≤ 64 := by omega
      have e3 : (0 : Int) + k * 8 ≤ 64 := by omega
      have e4 : ¬ (64 : Int) = 0 + k * 8 := by omega
      have gd := still_good (wr).drew
      have ne := still_some (wr).drew
      have hx := still_at (wr).drew
      refine wp_region_calm (stillCalm (wr).drew) [0, 1, 2, 3, 4, 5, 6, 7, 8, 9, 10, 11, 12, 13, 14, 15, 16, 17, 18, 19] [20] 34 (by kernel_rfl) (by kernel_rfl) rfl gd rfl ?_
      simp only [pairs, List.filterMap_cons, List.filterMap_nil, List.getElem?_toArray, List.getElem?_cons_succ, List.getElem?_cons_zero, Option.map_some]
      repeat (refine Calm.walk_quiet ne rfl rfl rfl (fun K hK => ?_); go_big_quiet_op; refine hK _ ?_; clear hK K)
      intro w' hR _
      obtain rfl : w' = (wr).drew := hR.symm
      simp only [pickOps, List.filterMap_cons, List.filterMap_nil, List.getElem?_toArray, List.getElem?_cons_succ, List.getElem?_cons_zero]
      clear gd ne hx hR
      have hsrc : ∀ j, j < 8 → (wr.drew).cell? ⟨bs, k * 8 + j, none⟩ = some (.int .u8 z) := fun j hj => by
        have h := SW.out.cell (k := k * 8 + j) (by rw [List.length_replicate]; omega)
        rw [List.getElem_replicate] at h
        exact h
      obtain ⟨wc, hcr, hcb, hck⟩ := copy_blk (w := wr.drew) (g := bd) (o := k * 8) (dLen := 64 - k * 8) (dCap := 64 - k * 8) (sb := bs) (so := k * 8) (sLen := (k + 1) * 8 - k * 8) (sCap := 64 - k * 8) (n := 8) (z := z) 3 ⟨HD.out.1.drew, HD.out.2⟩ (by show 8 = min _ _; omega) HZ.out hsrc (by rw [mixL_length (by omega)]; omega)
      rw [mixL_more (by omega)] at hcb
      have CB := Lib.hid (show ByteBlk wc bd (mixL 64 ((k + 1) * 8) x z) by rw [Nat.succ_mul]; exact hcb)
      have CK := Lib.hid (show Keep (one bd) W0 wc from HK.out.drew.trans hck)
      refine wpList_copy_is (.tmp 20) (.tmp 31) 30 30 rfl rfl _ _ rfl rfl hcr ?_
      go_frame
      clear hcr hcb hck hsrc
      go_wp2
      go_roundw
      case rel => exact ⟨k + 1, hlt, by go_num, CB.out, CK.out⟩
      case measure => simp [intOf]; omega
    · obtain rfl : k = 8 := by omega
      have GO := Lib.hid (show ByteBlk wr bd (List.replicate 64 z) from (by have h := HD.out; rw [show 8 * 8 = 64 by decide, mixL_all] at h; exact h))
      have KO := Lib.hid (show Keep (one bd) w wr from (K0.out.weak).trans HK.out)
      clear hlt hk
      go_wp2
      go_end0
      exact ⟨rfl, GO.out, KO.out⟩
end Go.Proofs.YtebdgoikmclflaaGreatDoor
