/-
  plane.SetMacroblock on frames of one number.
-/
import Derived.Test.YtebdgoikmclflaaGreatDoorEb20
namespace Go.Proofs.YtebdgoikmclflaaGreatDoor
open Go.RowKit

theorem NewFr.far {w : World} {lo n : Nat} {z : Int} {b1 b2 b3 : Nat} (h : NewFr w lo z b1 b2 b3) (hn : n < lo) : b1 ≠ n ∧ b2 ≠ n ∧ b3 ≠ n := ⟨by have := h.l1; omega, by have := h.l2; omega, by have := h.l3; omega⟩
theorem one_ne {a b : Nat} (h : a ≠ b) : ¬ one b a := fun e => h e
set_option maxRecDepth 100000 in
set_option maxHeartbeats 2000000 in
theorem setmb_any (x z : Int) (hz : 0 ≤ z ∧ z ≤ 255) (A1 A2 A3 : Option Addr) (c1 c2 c3 m1 m2 m3 lo : Nat) (w : World) (hf : FrC w x A1 A2 A3 c1 c2 c3) (hm : NewFr w lo z m1 m2 m3) : Calls Tryz.prog 49 #[.agg #[.int .i64 16, .int .i64 16, .slice A1 256 c1, .slice A2 64 c2, .slice A3 64 c3], .int .i64 0, .int .i64 0, .agg #[.int .i64 16, .int .i64 16, .slice (some ⟨m1, 0, none⟩) 256 256, .slice (some ⟨m2, 0, none⟩) 64 64, .slice (some ⟨m3, 0, none⟩) 64 64]] w fun e w' => ∃ b1 b2 b3, e = .returned (.tuple #[.agg #[.int .i64 16, .int .i64 16, .slice (some ⟨b1, 0, none⟩) 256 256, .slice (some ⟨b2, 0, none⟩) 64 64, .slice (some ⟨b3, 0, none⟩) 64 64], .int .i64 0]) ∧ NewFr w' w.heap.size z b1 b2 b3 ∧ Keep none_ w w' := by
  obtain ⟨W0, hW0⟩ : ∃ W0, W0 = ((w.alloc (.cells #[.int .i64 16, .int .i64 16, .slice A1 256 c1, .slice A2 64 c2, .slice A3 64 c3] 32)).alloc (.cells #[.int .i64 16, .int .i64 16, .slice (some ⟨m1, 0, none⟩) 256 256, .slice (some ⟨m2, 0, none⟩) 64 64, .slice (some ⟨m3, 0, none⟩) 64 64] 32)).alloc (.cells #[.int .i64 0, .int .i64 0, .slice none 0 0, .slice none 0 0, .slice none 0 0] 32) := ⟨_, rfl⟩
  obtain ⟨f0, g0, r0, k0⟩ := three (Keep.eq_ hW0)
  have M0 := Lib.hid (And.intro (Blk.lt' hm.y) (And.intro (Blk.lt' hm.u) (Blk.lt' hm.v)))
  have S0 := Lib.hid (show w.heap.size + 1 + 1 < W0.heap.size from (show Blk _ _ _ _ from r0).lt)
  have HF := Lib.hid (hf.keep k0)
  have HM := Lib.hid (hm.keep0 k0)
  have F0 := Lib.hid f0
  have G0 := Lib.hid g0
  have R0 := Lib.hid r0
  have K0 := Lib.hid k0
  have HZ := Lib.hid hz
  clear k0 f0 g0 r0 hf hm hz
  have t1 : True := trivial
  have t2 : True := trivial
  have t3 : True := trivial
  have t4 : True := trivial
  go_enter Tryz.func49, Tryz.ntmps49
  go_upto_region 1 with (fail)
  rw [← hW0]
  clear hW0
  go_upto_region 3 with (first | (have _t := t1; refine wpList_load_blk rfl 32 (.tmp 4) rfl w.heap.size 32 _ _ rfl F0.out Tryz.underlying32 rfl (by kernel_rfl) ?_; go_frame; clear _t t1) | (have _t := t2; go_at_call 80; refine (has_any A1 A2 A3 c1 c2 c3 W0).mono ?_; rintro e w2 ⟨rfl, k2⟩; have KX2 := Lib.hid k2; have G2 := Lib.hid (G0.out.keep k2 (fun e => e)); clear k2 _t t2) | (have _t := t3; refine wpList_load_mid_on rfl 32 (.tmp 7) rfl (w.heap.size + 1) 0 rfl [.int .i64 16, .int .i64 16, .slice (some ⟨m1, 0, none⟩) 256 256, .slice (some ⟨m2, 0, none⟩) 64 64, .slice (some ⟨m3, 0, none⟩) 64 64] _ G2.out.rangeAt Tryz.underlying32 rfl (by kernel_rfl) ?_; go_frame; clear _t t3) | (have _t := t4; go_at_call 41; refine (formed_any (some ⟨m1, 0, none⟩) (some ⟨m2, 0, none⟩) (some ⟨m3, 0, none⟩) 256 64 64 w2).mono ?_; rintro e w3 ⟨rfl, k3⟩; have KX3 := Lib.hid (KX2.out.trans k3); have y0 : w3.cell? ⟨w.heap.size + 1, 0, none⟩ = some (.int .i64 16) := (G2.out.keep k3 (fun e => e)).cell 0; have y1 : w3.cell? ⟨w.heap.size + 1, 1, none⟩ = some (.int .i64 16) := (G2.out.keep k3 (fun e => e)).cell 1; clear k3 _t t4))
  have F3 := Lib.hid (F0.out.keep KX3.out (fun e => e))
  have G3 := Lib.hid (G0.out.keep KX3.out (fun e => e))
  have R3 := Lib.hid (R0.out.keep KX3.out (fun e => e))
  have HF3 := Lib.hid (HF.out.keep KX3.out)
  have HM3 := Lib.hid (HM.out.keep0 KX3.out)
  have S3 := Lib.hid (show w.heap.size + 1 + 1 < w3.heap.size from Nat.lt_of_lt_of_le S0.out KX3.out.size)
  have K3 := Lib.hid (K0.out.trans KX3.out)
  clear G2 KX2 KX3
  have t5 : True := trivial
  have t6 : True := trivial
  have t7 : True := trivial
  go_upto_region 4 with (first | (have _t := t5; refine wpList_load_blk rfl 32 (.tmp 4) rfl w.heap.size 32 _ _ rfl F3.out Tryz.underlying32 rfl (by kernel_rfl) ?_; go_frame; clear _t t5) | (have _t := t6; go_at_call 81; refine (clone_any x A1 A2 A3 c1 c2 c3 w3 HF3.out).mono ?_; rintro e w4 ⟨b1, b2, b3, rfl, hn, k4⟩; have HN4 := Lib.hid hn; have KX4 := Lib.hid k4; clear hn k4 _t t6) | (have _t := t7; refine wpList_store_blk rfl 32 (.tmp 10) (.tmp 35) rfl w4.heap.size 32 _ #[.int .i64 16, .int .i64 16, .slice (some ⟨b1, 0, none⟩) 256 256, .slice (some ⟨b2, 0, none⟩) 64 64, .slice (some ⟨b3, 0, none⟩) 64 64] rfl rfl (Blk.new _ _ _) rfl (by kernel_rfl) (by simp [Value.oneCell']) ?_; intro w5 h5 k5 s5; have O5 := Lib.hid h5; have KX5 := Lib.hid (show Keep none_ w4 w5 from ((Keep.refl none_ w4).alloc _).own k5 (Nat.le_refl _)); clear h5 k5 s5; go_frame; clear _t t7))
  have KY5 := Lib.hid (KX4.out.trans KX5.out)
  have F5 := Lib.hid (F3.out.keep KY5.out (fun e => e))
  have G5 := Lib.hid (G3.out.keep KY5.out (fun e => e))
  have R5 := Lib.hid (R3.out.keep KY5.out (fun e => e))
  have HN5 := Lib.hid (HN4.out.keep0 KX5.out)
  have HM5 := Lib.hid (HM3.out.keep0 KY5.out)
  have K5 := Lib.hid (K3.out.trans KY5.out)
  have S5 := Lib.hid (show w.heap.size + 1 + 1 < w4.heap.size from Nat.lt_of_lt_of_le S3.out KX4.out.size)
  have BLT := Lib.hid (And.intro (Blk.lt' HN4.out.y) (And.intro (Blk.lt' HN4.out.u) (Blk.lt' HN4.out.v)))
  clear F3 G3 R3 HN4 HM3 K3 HF3
  have x0 : w5.cell? ⟨w.heap.size, 0, none⟩ = some (.int .i64 16) := F5.out.cell 0
  have u1 : True := trivial
  have u2 : True := trivial
  have u3 : True := trivial
  go_upto_region 5 with (first | (have _t := u1; go_at_call 82; refine (mblock_any w5).mono ?_; rintro e w6 ⟨rfl, k6⟩; have KX6 := Lib.hid k6; clear k6 _t u1) | (have _t := u2; refine wpList_store_blk rfl 145 (.tmp 11) (.tmp 42) rfl w6.heap.size 145 _ #[.int .i64 0, .int .i64 16, .int .i64 16, .int .i64 16] rfl rfl ((Blk.new _ _ _).alloc _) rfl (by kernel_rfl) (by simp [Value.oneCell']) ?_; intro w7 b4 k4 s4; have KB4 := Lib.hid (show Keep none_ w6 w7 from (((Keep.refl none_ w6).alloc _).alloc _).own k4 (Nat.le_refl _)); have D4 := Lib.hid (show Blk w7 (w6.heap.size + 1) 145 #[.int .i64 0, .int .i64 0, .int .i64 0, .int .i64 0] from Blk.keep (by have := Blk.new (w6.alloc (.cells #[.int .i64 0, .int .i64 0, .int .i64 0, .int .i64 0] 145)) 145 #[.int .i64 0, .int .i64 0, .int .i64 0, .int .i64 0]; simpa using this) k4 (fun e => by unfold one at e; omega)); have C4 := Lib.hid b4; clear b4 k4 s4; go_frame; clear _t u2) | (have _t := u3; refine wpList_store_blk rfl 145 (.tmp 12) (.tmp 43) rfl (w6.heap.size + 1) 145 _ #[.int .i64 0, .int .i64 8, .int .i64 8, .int .i64 8] rfl rfl D4.out rfl (by kernel_rfl) (by simp [Value.oneCell']) ?_; intro w8 b5 k5 s5; have KB5 := Lib.hid (show Keep none_ w6 w8 from KB4.out.own k5 (Nat.le_succ _)); have C5 := Lib.hid (C4.out.keep k5 (fun e => by unfold one at e; omega)); have D5 := Lib.hid b5; clear b5 k5 s5; go_frame; clear _t u3))
  have KY8 := Lib.hid (KX6.out.trans KB5.out)
  have G8 := Lib.hid (G5.out.keep KY8.out (fun e => e))
  have R8 := Lib.hid (R5.out.keep KY8.out (fun e => e))
  have O8 := Lib.hid (O5.out.keep KY8.out (fun e => e))
  have HN8 := Lib.hid (HN5.out.keep0 KY8.out)
  have HM8 := Lib.hid (HM5.out.keep0 KY8.out)
  have K8 := Lib.hid (K5.out.trans KY8.out)
  have S8 := Lib.hid (show w4.heap.size < w6.heap.size from Nat.lt_of_lt_of_le (show Blk _ _ _ _ from O5.out).lt KX6.out.size)
  clear F5 G5 R5 O5 HN5 HM5 K5 x0 D4 C4 KB4 KX6 KB5 KX4 KX5
  have n1 := HN8.out.l1
  have n2 := HN8.out.l2
  have n3 := HN8.out.l3
  obtain ⟨q1, q2, q3⟩ := BLT.out
  obtain ⟨p1, p2, p3⟩ := M0.out
  have s5 := S5.out
  have s8 := S8.out
  have s3 := S3.out
  have NE := Lib.hid (show m1 ≠ b1 ∧ m2 ≠ b1 ∧ m3 ≠ b1 ∧ m1 ≠ b2 ∧ m2 ≠ b2 ∧ m3 ≠ b2 ∧ m1 ≠ b3 ∧ m2 ≠ b3 ∧ m3 ≠ b3 by omega)
  have NB := Lib.hid (show ∀ g, g = w.heap.size + 1 ∨ g = w.heap.size + 1 + 1 ∨ g = w4.heap.size ∨ g = w6.heap.size ∨ g = w6.heap.size + 1 → g ≠ b1 ∧ g ≠ b2 ∧ g ≠ b3 from fun g hg => by omega)
  clear n1 n2 n3 q1 q2 q3 p1 p2 p3 s5 s8 s3
  have x1 : w8.cell? ⟨w4.heap.size, 2, none⟩ = some (.slice (some ⟨b1, 0, none⟩) 256 256) := O8.out.cell 2
  have x2 : w8.cell? ⟨w.heap.size + 1, 2, none⟩ = some (.slice (some ⟨m1, 0, none⟩) 256 256) := G8.out.cell 2
  have v1 : True := trivial
  have v2 : True := trivial
  go_upto_region 6 with (first | (have _t := v1; refine wpList_load_blk rfl 145 (.tmp 11) rfl w6.heap.size 145 _ _ rfl C5.out Tryz.underlying145 rfl (by kernel_rfl) ?_; go_frame; clear _t v1) | (have _t := v2; go_at_call 83; refine (pasteA x z b1 m1 w8 HN8.out.y HM8.out.y HZ.out NE.out.1).mono ?_; rintro e w9 ⟨rfl, h9, k9⟩; have H9 := Lib.hid h9; have K9 := Lib.hid k9; clear h9 k9 _t v2))
  have NBI := NB.out
  obtain ⟨-, e2, e3, -, e5, e6, -, e8, e9⟩ := NE.out
  have nba := NBI _ (.inl rfl)
  have nbr := NBI _ (.inr (.inl rfl))
  have nbo := NBI _ (.inr (.inr (.inl rfl)))
  have nbc := NBI _ (.inr (.inr (.inr (.inl rfl))))
  have nbd := NBI _ (.inr (.inr (.inr (.inr rfl))))
  have hn := HN8.out
  have E2 := Lib.hid e2
  have O9 := Lib.hid (O8.out.keep K9.out (one_ne nbo.1))
  have G9 := Lib.hid (G8.out.keep K9.out (one_ne nba.1))
  have R9 := Lib.hid (R8.out.keep K9.out (one_ne nbr.1))
  have D9 := Lib.hid (D5.out.keep K9.out (one_ne nbd.1))
  have U9 := Lib.hid (hn.u.keep K9.out (one_ne (Ne.symm hn.yu)))
  have V9 := Lib.hid (hn.v.keep K9.out (one_ne (Ne.symm hn.yv)))
  have MU9 := Lib.hid (HM8.out.u.keep K9.out (one_ne e2))
  have MV9 := Lib.hid (HM8.out.v.keep K9.out (one_ne e3))
  have NU := Lib.hid e5
  have NV := Lib.hid e9
  have NVU := Lib.hid e6
  have NN := Lib.hid (And.intro nba (And.intro nbr (And.intro nbo nbd)))
  have HNE := Lib.hid hn
  clear e2 e3 e5 e6 e8 e9 nba nbr nbo nbc nbd NBI hn x1 x2 O8 G8 R8 C5 D5 HM8
  have x3 : w9.cell? ⟨w4.heap.size, 3, none⟩ = some (.slice (some ⟨b2, 0, none⟩) 64 64) := O9.out.cell 3
  have x4 : w9.cell? ⟨w.heap.size + 1, 3, none⟩ = some (.slice (some ⟨m2, 0, none⟩) 64 64) := G9.out.cell 3
  have v3 : True := trivial
  have v4 : True := trivial
  go_upto_region 7 with (first | (have _t := v3; refine wpList_load_blk rfl 145 (.tmp 12) rfl (w6.heap.size + 1) 145 _ _ rfl D9.out Tryz.underlying145 rfl (by kernel_rfl) ?_; go_frame; clear _t v3) | (have _t := v4; go_at_call 83; refine (pasteB x z b2 m2 w9 U9.out MU9.out HZ.out NU.out).mono ?_; rintro e w10 ⟨rfl, h10, k10⟩; have H10 := Lib.hid h10; have K10 := Lib.hid k10; clear h10 k10 _t v4))
  obtain ⟨na, nr, no, nd⟩ := NN.out
  have O10 := Lib.hid (O9.out.keep K10.out (one_ne no.2.1))
  have G10 := Lib.hid (G9.out.keep K10.out (one_ne na.2.1))
  have R10 := Lib.hid (R9.out.keep K10.out (one_ne nr.2.1))
  have D10 := Lib.hid (D9.out.keep K10.out (one_ne nd.2.1))
  have Y10 := Lib.hid (H9.out.keep K10.out (one_ne HNE.out.yu))
  have V10 := Lib.hid (V9.out.keep K10.out (one_ne (Ne.symm HNE.out.uv)))
  have MV10 := Lib.hid (MV9.out.keep K10.out (one_ne NVU.out))
  clear x3 x4 na nr no nd O9 G9 R9 D9
  have x5 : w10.cell? ⟨w4.heap.size, 4, none⟩ = some (.slice (some ⟨b3, 0, none⟩) 64 64) := O10.out.cell 4
  have x6 : w10.cell? ⟨w.heap.size + 1, 4, none⟩ = some (.slice (some ⟨m3, 0, none⟩) 64 64) := G10.out.cell 4
  have v5 : True := trivial
  have v6 : True := trivial
  go_upto_region 8 with (first | (have _t := v5; refine wpList_load_blk rfl 145 (.tmp 12) rfl (w6.heap.size + 1) 145 _ _ rfl D10.out Tryz.underlying145 rfl (by kernel_rfl) ?_; go_frame; clear _t v5) | (have _t := v6; go_at_call 83; refine (pasteB x z b3 m3 w10 V10.out MV10.out HZ.out NV.out).mono ?_; rintro e w11 ⟨rfl, h11, k11⟩; have H11 := Lib.hid h11; have K11 := Lib.hid k11; clear h11 k11 _t v6))
  obtain ⟨na, nr, no, nd⟩ := NN.out
  have O11 := Lib.hid (O10.out.keep K11.out (one_ne no.2.2))
  have R11 := Lib.hid (R10.out.keep K11.out (one_ne nr.2.2))
  have Y11 := Lib.hid (Y10.out.keep K11.out (one_ne HNE.out.yv))
  have U11 := Lib.hid (H10.out.keep K11.out (one_ne HNE.out.uv))
  have LR := Lib.hid (show w.heap.size ≤ b1 ∧ w.heap.size ≤ b2 ∧ w.heap.size ≤ b3 from by have h1 := HNE.out.l1; have h2 := HNE.out.l2; have h3 := HNE.out.l3; have h4 := S3.out; omega)
  clear x5 x6 na no nd O10 G10 R10 D10
  have v7 : True := trivial
  have v8 : True := trivial
  go_wp2_with (first | (have _t := v7; refine wpList_load_blk rfl 32 (.tmp 10) rfl w4.heap.size 32 _ _ rfl O11.out Tryz.underlying32 rfl (by kernel_rfl) ?_; go_frame; clear _t v7) | (have _t := v8; refine wpList_store_blk rfl 32 (.tmp 8) (.tmp 62) rfl (w.heap.size + 1 + 1) 32 _ _ rfl rfl R11.out rfl (by kernel_rfl) (by simp [Value.oneCell']) ?_; intro w12 hb12 hk12 hs12; have B12 := Lib.hid hb12; have K12 := Lib.hid hk12; clear hb12 hk12 hs12; go_frame; clear _t v8))
  have nn : ∀ b, w.heap.size + 1 + 1 ≠ b → ¬ one (w.heap.size + 1 + 1) b := fun b h e => h e.symm
  refine bodyPost_ret (results_cell_tmp' Tryz.results49 rfl (run_loadVar_blk B12.out Tryz.underlying32 rfl (by kernel_rfl))) rfl ⟨b1, b2, b3, rfl, ⟨Y11.out.keep K12.out (nn _ nr.1), U11.out.keep K12.out (nn _ nr.2.1), H11.out.keep K12.out (nn _ nr.2.2), HNE.out.yu, HNE.out.yv, HNE.out.uv, LR.out.1, LR.out.2.1, LR.out.2.2⟩, (((K8.out.own K9.out LR.out.1).own K10.out LR.out.2.1).own K11.out LR.out.2.2).own K12.out (by omega)⟩
end Go.Proofs.YtebdgoikmclflaaGreatDoor
