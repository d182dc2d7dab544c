/-
  picture.PutSlice of the macroblock of the law.
-/
import Derived.Test.YtebdgoikmclflaaGreatDoorEb41
namespace Go.Proofs.YtebdgoikmclflaaGreatDoor
open Go.RowKit

def unV (b : Nat) : Array Value := #[.int .i64 1, .slice (some ⟨b, 0, none⟩) 3 3]
set_option maxRecDepth 100000 in
set_option maxHeartbeats 4000000 in
theorem putSlice_any (b c : Nat) (w : World) (hb : w.rangeAt b 0 mbV.toList) : Calls Tryz.prog 59 #[.agg plV, .agg plP, .bool false, .int .i64 0, .int .i64 8, .slice (some ⟨b, 0, none⟩) 1 c] w fun e w' => ∃ u, e = .returned (.tuple #[.agg (unV u), .int .i64 0]) ∧ Keep none_ w w' := by
  obtain ⟨W0, hW0⟩ : ∃ W0, W0 = ((w.alloc (.cells plV 26)).alloc (.cells plP 35)).alloc (.cells #[.int .i64 0, .slice none 0 0] 60) := ⟨_, rfl⟩
  obtain ⟨s0, p0, r0, k0⟩ := three (Keep.eq_ hW0)
  have S0 := Lib.hid s0
  have P0 := Lib.hid p0
  have R0 := Lib.hid r0
  have K0 := Lib.hid k0
  have HB0 := Lib.hid (rangeAt_keep hb k0 (fun e => e))
  have LW := Lib.hid (show w.heap.size + 1 + 1 < W0.heap.size from (show Blk _ _ _ _ from r0).lt)
  clear s0 p0 r0 k0 hb
  go_enter Tryz.func59, Tryz.ntmps59
  go_upto_region 1 with (fail)
  rw [← hW0]
  clear hW0
  have tk1 : True := trivial
  have tk2 : True := trivial
  have tk3 : True := trivial
  have tk4 : True := trivial
  have tk5 : True := trivial
  have tk6 : True := trivial
  go_upto_region 3 with (first | (have _t := tk1; refine wpList_load_part 26 (.tmp 6) rfl rfl (w.heap.size) (0) rfl (plV) _ (S0.out.rangeAt) Tryz.underlying26 rfl (by rw [plV_size]; kernel_rfl) ?_; go_frame; clear _t tk1) | (have _t := tk2; refine wpList_load_part 35 (.tmp 7) rfl rfl (w.heap.size + 1) (0) rfl (plP) _ (P0.out.rangeAt) Tryz.underlying35 rfl (by kernel_rfl) ?_; go_frame; clear _t tk2) | (have _t := tk3; go_at_call 68; refine (fits_pl _).mono ?_; rintro e w1 ⟨rfl, k⟩; have HB1 := Lib.hid (rangeAt_keep HB0.out k (fun e => e)); have S1 := Lib.hid (S0.out.keep k (fun e => e)); have P1 := Lib.hid (P0.out.keep k (fun e => e)); have R1 := Lib.hid (R0.out.keep k (fun e => e)); have K1 := Lib.hid (K0.out.trans k); clear k; clear _t tk3) | (have _t := tk4; refine wpList_load_part 26 (.tmp 6) rfl rfl (w.heap.size) (0) rfl (plV) _ (S1.out.rangeAt) Tryz.underlying26 rfl (by rw [plV_size]; kernel_rfl) ?_; go_frame; clear _t tk4) | (have _t := tk5; refine wpList_load_part 35 (.tmp 7) rfl rfl (w.heap.size + 1) (0) rfl (plP) _ (P1.out.rangeAt) Tryz.underlying35 rfl (by kernel_rfl) ?_; go_frame; clear _t tk5) | (have _t := tk6; go_at_call 19; refine (rows_pl _).mono ?_; rintro e w2 ⟨rfl, k⟩; have HB2 := Lib.hid (rangeAt_keep HB1.out k (fun e => e)); have x0 : w2.cell? ⟨w.heap.size, 0, none⟩ = some (.int .i64 16) := ((S1.out.keep k (fun e => e)).cell 0).trans (by kernel_rfl); have S2 := Lib.hid (S1.out.keep k (fun e => e)); have P2 := Lib.hid (P1.out.keep k (fun e => e)); have R2 := Lib.hid (R1.out.keep k (fun e => e)); have K2 := Lib.hid (K1.out.trans k); clear k; clear _t tk6))
  clear x0 S0 P0 R0 K0 HB0 S1 P1 R1 K1 HB1
  have tk7 : True := trivial
  have tk8 : True := trivial
  go_upto_region 7 with (first | (have _t := tk7; go_at_call 93; refine (newWriter_any w2).mono ?_; rintro e w3 ⟨rfl, hw, k⟩; have W3 := Lib.hid hw; clear hw; have KX3 := Lib.hid k; have HB3 := Lib.hid (rangeAt_keep HB2.out k (fun e => e)); have S3 := Lib.hid (S2.out.keep k (fun e => e)); have P3 := Lib.hid (P2.out.keep k (fun e => e)); have R3 := Lib.hid (R2.out.keep k (fun e => e)); have K3 := Lib.hid (K2.out.trans k); clear k; clear _t tk7) | (have _t := tk8; go_at_call 94; refine (put85 w2.heap.size (.slice none 0 0) 0 w3 W3.out (by omega)).mono ?_; rintro e w4 ⟨v4, rfl, hw, hu⟩; have W4 := Lib.hid hw; have U4 := Lib.hid hu; clear hw hu; clear _t tk8))
  have NO := Lib.hid (show ∀ b, wset w2.heap.size (.slice none 0 0) b → w2.heap.size ≤ b from fun b e => by
    rcases e with e | e
    · rw [e]; exact Nat.le_refl _
    · cases e)
  have LG := Lib.hid (show w.heap.size + 1 + 1 < w2.heap.size from (show Blk _ _ _ _ from R2.out).lt)
  have k24 : Keep none_ w2 w4 := (show Keep none_ w2 w3 from KX3.out).then U4.out.1 (fun b e => .inr (NO.out b e))
  have S4 := Lib.hid (S2.out.keep k24 (fun e => e))
  have P4 := Lib.hid (P2.out.keep k24 (fun e => e))
  have R4 := Lib.hid (R2.out.keep k24 (fun e => e))
  have HB4 := Lib.hid (rangeAt_keep HB2.out k24 (fun e => e))
  have K4 := Lib.hid (K2.out.trans k24)
  have OV := Lib.hid (show ∀ b, ofBlk v4 b → w2.heap.size ≤ b from fun b e => by
    rcases U4.out.2 b e with e | e
    · cases e
    · exact Nat.le_trans KX3.out.size e)
  have LG4 := Lib.hid (show w2.heap.size < w4.heap.size from W4.out.1.lt)
  clear k24 S2 P2 R2 HB2 K2 S3 P3 R3 HB3 K3 W3 U4 KX3
  obtain ⟨g, hg⟩ : ∃ g, g = w2.heap.size := ⟨_, rfl⟩
  rw [← hg] at W4 OV LG LG4 NO ⊢
  clear hg NO
  have tk9 : True := trivial
  have tk10 : True := trivial
  have tk11 : True := trivial
  have tk12 : True := trivial
  have tk13 : True := trivial
  go_upto_region 8 with (first | (have _t := tk9; refine wpList_load_part 26 (.tmp 6) rfl rfl (w.heap.size) (0) rfl (plV) _ (S4.out.rangeAt) Tryz.underlying26 rfl (by rw [plV_size]; kernel_rfl) ?_; go_frame; clear _t tk9) | (have _t := tk10; refine wpList_load_part 35 (.tmp 7) rfl rfl (w.heap.size + 1) (0) rfl (plP) _ (P4.out.rangeAt) Tryz.underlying35 rfl (by kernel_rfl) ?_; go_frame; clear _t tk10) | (have _t := tk11; go_at_call 48; refine (context_pl _).mono ?_; rintro e w5 ⟨rfl, k⟩; have HB5 := Lib.hid (rangeAt_keep HB4.out k (fun e => e)); have W5 := Lib.hid (W4.out.up k); have R5 := Lib.hid (R4.out.keep k (fun e => e)); have K5 := Lib.hid (K4.out.trans k); clear k; clear _t tk11) | (have _t := tk12; go_at_call 55; refine (start_any _).mono ?_; rintro e w6 ⟨rfl, k⟩; have HB6 := Lib.hid (rangeAt_keep HB5.out k (fun e => e)); have W6 := Lib.hid (W5.out.up k); have R6 := Lib.hid (R5.out.keep k (fun e => e)); have K6 := Lib.hid (K5.out.trans k); clear k; clear _t tk12) | (have _t := tk13; refine wpList_store_blk rfl 113 (.tmp 17) (.tmp 68) rfl (w6.heap.size + 1) 113 _ (stV) rfl rfl ((two (Keep.refl none_ _)).2.1) (rfl) (by kernel_rfl) (by kernel_rfl) ?_; intro w7 B7_ K7_ sz_; have B7 := Lib.hid B7_; have K7 := Lib.hid K7_; clear B7_ K7_ sz_; go_frame; clear _t tk13))
  have C7 := Lib.hid (show Blk w7 w6.heap.size 63 #[.int .i64 1, .int .i64 3, .bool false, .bool false] from (two (Keep.refl none_ _)).1.keep K7.out (fun e => by unfold one at e; omega))
  have k67 : Keep none_ w6 w7 := (((Keep.refl none_ w6).alloc _).alloc _).own K7.out (by omega)
  obtain ⟨g6, hg6⟩ : ∃ g6, g6 = w6.heap.size := ⟨_, rfl⟩
  have L6 := Lib.hid (show g < g6 from hg6 ▸ W6.out.1.lt)
  rw [← hg6] at B7 C7 ⊢
  clear hg6 K7
  have R7 := Lib.hid (R6.out.keep k67 (fun e => e))
  have HB7 := Lib.hid (rangeAt_keep HB6.out k67 (fun e => e))
  have W7 := Lib.hid (W6.out.up k67)
  have K7 := Lib.hid (K6.out.trans k67)
  have OB := Lib.hid (show b < w.heap.size ∨ w.heap.size ≤ b from by omega)
  clear k67 S4 P4 R4 HB4 W4 K4 R5 HB5 W5 K5 R6 HB6 W6 K6
  go_wp2_with (fail)
  go_loopw [71] (fun i wr => (i = .int .i64 0 ∧ wr = w7) ∨ (i = .int .i64 1 ∧ ∃ v, WrX wr g v 18 ∧ Blk wr (w.heap.size + 1 + 1) 60 #[.int .i64 0, .slice none 0 0] ∧ Keep none_ w wr)) (fun i _ => 1 - (intOf i).toNat)
  case atStart => exact .inl ⟨rfl, rfl⟩
  case round =>
    rcases hrel with ⟨rfl, rfl⟩ | ⟨rfl, v, hw, hr, hk⟩
    · skip
      have tk14 : True := trivial
      have tk15 : True := trivial
      go_upto_region 11 with (first | (have _t := tk14; refine wpList_load_part 102 (.tmp 73) rfl rfl (b) (0) rfl (mbV) _ (HB7.out) Tryz.underlying102 rfl (by rw [mbV_size]; kernel_rfl) ?_; go_frame; clear _t tk14) | (have _t := tk15; refine wpList_store_blk rfl 102 (.tmp 19) (.tmp 74) rfl (wr.heap.size) 102 _ (mbV) rfl rfl (Blk.new _ _ _) (by rw [mbV_size]; kernel_rfl) (by rw [mbV_size]; kernel_rfl) (by kernel_rfl) ?_; intro w8 B8_ K8_ sz_; have B8 := Lib.hid B8_; have K8 := Lib.hid K8_; clear B8_ K8_ sz_; go_frame; clear _t tk15))
      have k78 : Keep none_ wr w8 := ((Keep.refl none_ wr).alloc _).own K8.out (Nat.le_refl _)
      obtain ⟨gm, hgm⟩ : ∃ gm, gm = wr.heap.size := ⟨_, rfl⟩
      have LM := Lib.hid (show g6 + 1 < gm from hgm ▸ B7.out.lt)
      rw [← hgm] at B8 ⊢
      clear hgm K8
      have BS8 := Lib.hid (B7.out.keep k78 (fun e => e))
      have C8 := Lib.hid (C7.out.keep k78 (fun e => e))
      have R8 := Lib.hid (R7.out.keep k78 (fun e => e))
      have W8 := Lib.hid (W7.out.up k78)
      have K8 := Lib.hid (K7.out.trans k78)
      clear k78 B7 C7 R7 W7 K7 HB7
      have tk16 : True := trivial
      have tk17 : True := trivial
      have tk18 : True := trivial
      have tk19 : True := trivial
      have tk20 : True := trivial
      go_wp2_with (first | (have _t := tk16; refine wpList_load_part 63 (.tmp 16) rfl rfl (g6) (0) rfl (#[.int .i64 1, .int .i64 3, .bool false, .bool false]) _ (C8.out.rangeAt) Tryz.underlying63 rfl (by kernel_rfl) ?_; go_frame; clear _t tk16) | (have _t := tk17; refine wpList_load_part 113 (.tmp 17) rfl rfl (g6 + 1) (0) rfl (stV) _ (BS8.out.rangeAt) Tryz.underlying113 rfl (by rw [stV_size]; kernel_rfl) ?_; go_frame; clear _t tk17) | (have _t := tk18; refine wpList_load_part 102 (.tmp 19) rfl rfl (gm) (0) rfl (mbV) _ (B8.out.rangeAt) Tryz.underlying102 rfl (by rw [mbV_size]; kernel_rfl) ?_; go_frame; clear _t tk18) | (have _t := tk19; go_at_call 95; refine (mput_any g v4 (0 + 5) w8 (by omega) W8.out).mono ?_; rintro e w9 ⟨v9, rfl, hw, hu⟩; have W9 := Lib.hid hw; have U9 := Lib.hid hu; have BS9 := Lib.hid (BS8.out.keep hu.1 (W8.out.off BS8.out (by decide) (by decide))); have R9 := Lib.hid (R8.out.keep hu.1 (W8.out.off R8.out (by decide) (by decide))); clear hw hu; clear _t tk19) | (have _t := tk20; refine wpList_store_blk rfl 113 (.tmp 17) (.tmp 81) rfl (g6 + 1) 113 _ (stV) rfl rfl (BS9.out) (rfl) (by kernel_rfl) (by kernel_rfl) ?_; intro w10 B10_ K10_ sz_; have B10 := Lib.hid B10_; have K10 := Lib.hid K10_; clear B10_ K10_ sz_; go_frame; clear _t tk20))
      have NW := Lib.hid (W9.out.off BS9.out (by decide) (by decide))
      have WA := Lib.hid (show WrX w10 g v9 18 from by
        obtain ⟨h1, xs, h2, h3⟩ := W9.out
        exact ⟨h1.keep K10.out (fun e => NW.out (.inl (Eq.symm e))), xs, own_keep h2 K10.out (fun b hb e => NW.out (.inr (by cases e; exact hb))), h3⟩)
      have RA := Lib.hid (R9.out.keep K10.out (fun e => by have h1 := LG.out; have h2 := L6.out; unfold one at e; omega))
      have KA := Lib.hid (show Keep none_ w w10 from (K8.out.then U9.out.1 (fun b e => .inr (by
        rcases e with e | e
        · have h1 := LG.out; omega
        · have h1 := OV.out b e; have h2 := LG.out; omega))).own K10.out (by have h1 := LG.out; have h2 := L6.out; omega))
      go_roundw
      case rel => exact .inr ⟨rfl, v9, WA.out, RA.out, KA.out⟩
      case measure => simp [intOf]
    · have HW := Lib.hid hw
      have HR := Lib.hid hr
      have HK := Lib.hid hk
      clear hw hr hk
      have tk21 : True := trivial
      have tk22 : True := trivial
      have tk23 : True := trivial
      go_wp2_with (first | (have _t := tk21; go_at_call 96; refine (payload18 g v wr HW.out).mono ?_; rintro e w11 ⟨u, rfl, k⟩; have R11 := Lib.hid (HR.out.keep k (fun e => e)); have K11 := Lib.hid (HK.out.trans k); clear k; clear _t tk21) | (have _t := tk22; refine wpList_build_is 60 _ rfl rfl (unV u) (by kernel_rfl) ?_; go_frame; clear _t tk22) | (have _t := tk23; refine wpList_store_blk rfl 60 (.tmp 12) (.tmp 92) rfl (w.heap.size + 1 + 1) 60 _ (unV u) rfl rfl (R11.out) (rfl) (by kernel_rfl) (by kernel_rfl) ?_; intro w12 B12_ K12_ sz_; have B12 := Lib.hid B12_; have K12 := Lib.hid K12_; clear B12_ K12_ sz_; go_frame; clear _t tk23))
      refine bodyPost_ret (results_cell_tmp' Tryz.results59 rfl (run_loadVar_blk B12.out Tryz.underlying60 rfl (by kernel_rfl))) rfl ⟨u, rfl, K11.out.own K12.out (by omega)⟩
end Go.Proofs.YtebdgoikmclflaaGreatDoor
