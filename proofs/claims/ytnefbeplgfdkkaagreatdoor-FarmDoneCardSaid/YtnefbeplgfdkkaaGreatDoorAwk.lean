/-
  awake: the chapter's examples.
-/
import Derived.Test.YtnefbeplgfdkkaaGreatDoorRun
namespace Go.Proofs.YtnefbeplgfdkkaaGreatDoor
open Go.RowKit

set_option maxRecDepth 100000 in
set_option maxHeartbeats 1000000 in
theorem small_12 (w : World) : Calls Tryz.prog 92 #[.int .i64 12] w fun e w' => e = .returned (.string ⟨#[49, 50]⟩) ∧ Keep none_ w w' := by
  go_enter Tryz.func92, Tryz.ntmps92
  go_wp2
  go_ret
  exact ⟨by kernel_rfl, Keep.refl _ _⟩
set_option maxHeartbeats 1000000 in
theorem fmtI_12 (w : World) : Calls Tryz.prog 68 #[.int .i64 12, .int .i64 10] w fun e w' => e = .returned (.string ⟨#[49, 50]⟩) ∧ Keep none_ w w' := by
  have H := Lib.hid (small_12 w)
  go_enter Tryz.func68, Tryz.ntmps68
  go_wp2_with (go_at_call 92; refine H.out.mono ?_; rintro e w' ⟨rfl, k⟩)
  go_ret
  exact ⟨rfl, k⟩
theorem fmt_12 (w : World) : Calls Tryz.prog 38 #[.int .i64 12, .int .i64 10] w fun e w' => e = .returned (.string ⟨#[49, 50]⟩) ∧ Keep none_ w w' := by
  have H := Lib.hid (fmtI_12 w)
  go_enter Tryz.func38, Tryz.ntmps38
  go_wp2_with (go_at_call 68; refine H.out.mono ?_; rintro e w' ⟨rfl, k⟩)
  go_ret
  exact ⟨rfl, k⟩
theorem jobName_12 (w : World) : Calls Tryz.prog 12 #[.int .i64 12] w fun e w' => e = .returned (.string ⟨#[112, 97, 114, 116, 49, 50]⟩) ∧ Keep none_ w w' := by
  have H := Lib.hid (fmt_12 w)
  go_enter Tryz.func12, Tryz.ntmps12
  go_wp2_with (go_at_call 38; refine H.out.mono ?_; rintro e w' ⟨rfl, k⟩)
  go_ret
  exact ⟨by kernel_rfl, k⟩

set_option maxRecDepth 100000 in
set_option maxHeartbeats 1000000 in
theorem source_one (w : World) : Calls Tryz.prog 59 #[.agg #[.bool true, .int .i64 0, .int .i64 1, .string ⟨#[97]⟩, .int .i64 0]] w fun e w' => e = .returned (.bool true) ∧ Keep none_ w w' := by
  have k0 : Keep none_ w (w.alloc (.cells #[.bool true, .int .i64 0, .int .i64 1, .string ⟨#[97]⟩, .int .i64 0] 33)) := (Keep.refl _ _).alloc _
  go_enter Tryz.func59, Tryz.ntmps59
  go_wp2
  go_ret
  exact ⟨by kernel_rfl, k0⟩
set_option maxRecDepth 100000 in
set_option maxHeartbeats 1000000 in
theorem fields_zero (w : World) : Calls Tryz.prog 60 #[.agg #[.int .i64 0, .string ⟨#[]⟩, .int .i64 0, .int .i64 0, .int .i64 0, .int .i64 0, .string ⟨#[]⟩, .slice none 0 0]] w fun e w' => e = .returned (.bool true) ∧ Keep none_ w w' := by
  obtain ⟨W0, hW0⟩ : ∃ W0, W0 = w.alloc (.cells #[.int .i64 0, .string ⟨#[]⟩, .int .i64 0, .int .i64 0, .int .i64 0, .int .i64 0, .string ⟨#[]⟩, .slice none 0 0] 89) := ⟨_, rfl⟩
  have k0 : Keep none_ w W0 := hW0 ▸ (Keep.refl _ _).alloc _
  have b0 : Blk W0 w.heap.size 89 #[.int .i64 0, .string ⟨#[]⟩, .int .i64 0, .int .i64 0, .int .i64 0, .int .i64 0, .string ⟨#[]⟩, .slice none 0 0] := hW0 ▸ Blk.new _ _ _
  have y0 := b0.cell 0
  have y1 := b0.cell 1
  have y2 := b0.cell 2
  have y3 := b0.cell 3
  have y4 := b0.cell 4
  have y5 := b0.cell 5
  have y6 := b0.cell 6
  have y7 := b0.cell 7
  simp only [List.getElem?_toArray, List.getElem?_cons_zero, List.getElem?_cons_succ] at y0 y1 y2 y3 y4 y5 y6 y7
  clear b0
  go_enter Tryz.func60, Tryz.ntmps60
  go_upto_region 1 with (fail)
  rw [← hW0]
  clear hW0
  go_upto_region 3 with (fail)
  go_quiet (fail)
  go_wp2
  go_ret
  exact ⟨by kernel_rfl, k0.drewN _⟩
set_option maxRecDepth 100000 in
set_option maxHeartbeats 1000000 in
theorem denote_zero (w : World) : Calls Tryz.prog 31 #[.agg #[.int .i64 0, .string ⟨#[]⟩, .int .i64 0, .int .i64 0, .int .i64 0, .int .i64 0, .string ⟨#[]⟩, .slice none 0 0]] w fun e w' => e = .returned (.bool true) ∧ Keep none_ w w' := by
  obtain ⟨W0, hW0⟩ : ∃ W0, W0 = w.alloc (.cells #[.int .i64 0, .string ⟨#[]⟩, .int .i64 0, .int .i64 0, .int .i64 0, .int .i64 0, .string ⟨#[]⟩, .slice none 0 0] 89) := ⟨_, rfl⟩
  have k0 : Keep none_ w W0 := hW0 ▸ (Keep.refl _ _).alloc _
  have b0 : Blk W0 w.heap.size 89 #[.int .i64 0, .string ⟨#[]⟩, .int .i64 0, .int .i64 0, .int .i64 0, .int .i64 0, .string ⟨#[]⟩, .slice none 0 0] := hW0 ▸ Blk.new _ _ _
  have B0 := Lib.hid b0
  have H := Lib.hid (fields_zero W0)
  clear b0
  go_enter Tryz.func31, Tryz.ntmps31
  go_upto_region 1 with (fail)
  rw [← hW0]
  clear hW0
  have t1 : True := trivial
  go_upto_region 3 with (first | (have _t := t1; refine wpList_load_part 89 (.tmp 1) rfl rfl w.heap.size 0 rfl #[.int .i64 0, .string ⟨#[]⟩, .int .i64 0, .int .i64 0, .int .i64 0, .int .i64 0, .string ⟨#[]⟩, .slice none 0 0] _ B0.out.rangeAt Tryz.underlying89 rfl (by kernel_rfl) ?_; go_frame; clear _t t1) | (go_at_call 60; refine H.out.mono ?_; rintro e w1 ⟨rfl, k1⟩))
  have y7 := (B0.out.keep k1 (fun e => e)).cell 7
  simp only [List.getElem?_toArray, List.getElem?_cons_zero, List.getElem?_cons_succ] at y7
  go_wp2
  refine wp_loop_once ?_
  go_wp2
  go_ret
  exact ⟨rfl, k0.trans k1⟩
set_option maxRecDepth 100000 in
set_option maxHeartbeats 1000000 in
theorem plan_one (b : Nat) (w : World) (hb : Blk w b 33 #[.bool true, .int .i64 0, .int .i64 1, .string ⟨#[97]⟩, .int .i64 0]) : Calls Tryz.prog 30 #[.agg #[.slice (some ⟨b, 0, none⟩) 1 1], .int .i64 1] w fun e w' => e = .returned (.bool true) ∧ Keep none_ w w' := by
  obtain ⟨W0, hW0⟩ : ∃ W0, W0 = w.alloc (.cells #[.slice (some ⟨b, 0, none⟩) 1 1] 24) := ⟨_, rfl⟩
  have k0 : Keep none_ w W0 := hW0 ▸ (Keep.refl _ _).alloc _
  have b0 : Blk W0 w.heap.size 24 #[.slice (some ⟨b, 0, none⟩) 1 1] := hW0 ▸ Blk.new _ _ _
  have y0 := b0.cell 0
  simp only [List.getElem?_toArray, List.getElem?_cons_zero] at y0
  have BP := Lib.hid (hb.keep k0 (fun e => e))
  have K0 := Lib.hid k0
  clear b0 hb k0
  go_enter Tryz.func30, Tryz.ntmps30
  go_upto_region 1 with (fail)
  rw [← hW0]
  clear hW0
  go_wp2
  go_loopw [5, 11] (fun e i wr => Keep none_ W0 wr ∧ ((e = .int .i64 0 ∧ i = .int .i64 0) ∨ (e = .int .i64 1 ∧ i = .int .i64 1))) (fun _ i _ => 1 - (intOf i).toNat)
  case atStart => exact ⟨Keep.refl _ _, .inl ⟨rfl, rfl⟩⟩
  case round =>
    obtain ⟨hkr, ⟨rfl, rfl⟩ | ⟨rfl, rfl⟩⟩ := hrel
    · have BR := Lib.hid (BP.out.keep hkr (fun e => e))
      have KR := Lib.hid hkr
      clear hkr
      have t1 : True := trivial
      have t2 : True := trivial
      go_upto_region 5 with (first | (have _t := t1; refine wpList_load_part 33 (.tmp 13) rfl rfl b 0 (by first | rfl | simp) #[.bool true, .int .i64 0, .int .i64 1, .string ⟨#[97]⟩, .int .i64 0] _ BR.out.rangeAt Tryz.underlying33 rfl (by kernel_rfl) ?_; go_frame; clear _t t1) | (have _t := t2; refine wpList_store_blk rfl 33 (.tmp 7) (.tmp 14) rfl wr.heap.size 33 _ _ rfl rfl (Blk.new _ _ _) rfl (by kernel_rfl) (by simp [Value.oneCell']) ?_; intro w3 b3 k3 s3; go_frame; clear _t t2))
      have kr3 : Keep none_ wr w3 := ((Keep.refl none_ wr).alloc _).own k3 (Nat.le_refl _)
      have y1 := b3.cell 1
      have y2 := b3.cell 2
      simp only [List.getElem?_toArray, List.getElem?_cons_zero, List.getElem?_cons_succ] at y1 y2
      have B3 := Lib.hid b3
      have H := Lib.hid (source_one w3)
      have K3 := Lib.hid kr3
      have t3 : True := trivial
      clear k3 s3 b3 kr3
      go_upto_region 7 with (first | (have _t := t3; refine wpList_load_part 33 (.tmp 7) rfl rfl wr.heap.size 0 rfl #[.bool true, .int .i64 0, .int .i64 1, .string ⟨#[97]⟩, .int .i64 0] _ B3.out.rangeAt Tryz.underlying33 rfl (by kernel_rfl) ?_; go_frame; clear _t t3) | (go_at_call 59; refine H.out.mono ?_; rintro e w4 ⟨rfl, k4⟩; have z2 := k4.cell y2 (fun e => e); have K4 := Lib.hid k4; clear k4))
      go_wp2
      go_roundw
      case rel => exact ⟨(KR.out.trans K3.out).trans K4.out, .inr ⟨by go_num, by go_num⟩⟩
      case measure => simp [intOf]
    · go_wp2
      go_ret
      exact ⟨rfl, K0.out.trans hkr⟩
set_option maxRecDepth 100000 in
set_option maxHeartbeats 1000000 in
theorem jobs_one (b be : Nat) (w : World) (hb : Blk w b 33 #[.bool true, .int .i64 0, .int .i64 1, .string ⟨#[97]⟩, .int .i64 0]) (he : Blk w be 89 #[.int .i64 0, .string ⟨#[]⟩, .int .i64 0, .int .i64 0, .int .i64 0, .int .i64 0, .string ⟨#[]⟩, .slice none 0 0]) : Calls Tryz.prog 9 #[.agg #[.slice (some ⟨b, 0, none⟩) 1 1], .slice (some ⟨be, 0, none⟩) 1 1] w fun e w' => e = .returned (.tuple #[.slice none 0 0, .int .i64 0]) ∧ Keep none_ w w' := by
  obtain ⟨W0, hW0⟩ : ∃ W0, W0 = w.alloc (.cells #[.slice (some ⟨b, 0, none⟩) 1 1] 24) := ⟨_, rfl⟩
  have k0 : Keep none_ w W0 := hW0 ▸ (Keep.refl _ _).alloc _
  have b0 : Blk W0 w.heap.size 24 #[.slice (some ⟨b, 0, none⟩) 1 1] := hW0 ▸ Blk.new _ _ _
  have B0 := Lib.hid b0
  have H := Lib.hid (plan_one b W0 (hb.keep k0 (fun e => e)))
  have BP := Lib.hid (hb.keep k0 (fun e => e))
  have BE := Lib.hid (he.keep k0 (fun e => e))
  have K0 := Lib.hid k0
  clear b0 hb he k0
  go_enter Tryz.func9, Tryz.ntmps9
  go_upto_region 1 with (fail)
  rw [← hW0]
  clear hW0
  have t1 : True := trivial
  go_upto_region 3 with (first | (have _t := t1; refine wpList_load_part 24 (.tmp 2) rfl rfl w.heap.size 0 rfl #[.slice (some ⟨b, 0, none⟩) 1 1] _ B0.out.rangeAt Tryz.underlying24 rfl (by kernel_rfl) ?_; go_frame; clear _t t1) | (go_at_call 30; refine H.out.mono ?_; rintro e w1 ⟨rfl, k1⟩; have K1 := Lib.hid k1; clear k1))
  have BE1 := Lib.hid (BE.out.keep K1.out (fun e => e))
  have BP1 := Lib.hid (BP.out.keep K1.out (fun e => e))
  have B01 := Lib.hid (B0.out.keep K1.out (fun e => e))
  clear BE BP B0 H
  go_wp2
  go_loopw [21] (fun i wr => Keep none_ w1 wr ∧ (i = .int .i64 0 ∨ i = .int .i64 1)) (fun i _ => 1 - (intOf i).toNat)
  case atStart => exact ⟨Keep.refl _ _, .inl rfl⟩
  case round =>
    obtain ⟨hkr, rfl | rfl⟩ := hrel
    · have BR := Lib.hid (BE1.out.keep hkr (fun e => e))
      have KR := Lib.hid hkr
      clear hkr
      have t1 : True := trivial
      have t2 : True := trivial
      go_upto_region 6 with (first | (have _t := t1; refine wpList_load_part 89 (.tmp 23) rfl rfl be 0 (by first | rfl | simp) #[.int .i64 0, .string ⟨#[]⟩, .int .i64 0, .int .i64 0, .int .i64 0, .int .i64 0, .string ⟨#[]⟩, .slice none 0 0] _ BR.out.rangeAt Tryz.underlying89 rfl (by kernel_rfl) ?_; go_frame; clear _t t1) | (have _t := t2; refine wpList_store_blk rfl 89 (.tmp 7) (.tmp 24) rfl wr.heap.size 89 _ _ rfl rfl (Blk.new _ _ _) rfl (by kernel_rfl) (by simp [Value.oneCell']) ?_; intro w3 b3 k3 s3; go_frame; clear _t t2))
      have kr3 : Keep none_ wr w3 := ((Keep.refl none_ wr).alloc _).own k3 (Nat.le_refl _)
      have B3 := Lib.hid b3
      have H := Lib.hid (denote_zero w3)
      have K3 := Lib.hid kr3
      have t3 : True := trivial
      clear k3 s3 b3 kr3
      go_upto_region 8 with (first | (have _t := t3; refine wpList_load_part 89 (.tmp 7) rfl rfl wr.heap.size 0 rfl #[.int .i64 0, .string ⟨#[]⟩, .int .i64 0, .int .i64 0, .int .i64 0, .int .i64 0, .string ⟨#[]⟩, .slice none 0 0] _ B3.out.rangeAt Tryz.underlying89 rfl (by kernel_rfl) ?_; go_frame; clear _t t3) | (go_at_call 31; refine H.out.mono ?_; rintro e w4 ⟨rfl, k4⟩; have K4 := Lib.hid k4; clear k4))
      go_wp2
      go_roundw
      case rel => exact ⟨(KR.out.trans K3.out).trans K4.out, .inr (by go_num)⟩
      case measure => simp [intOf]
    · have BPr := Lib.hid (BP1.out.keep hkr (fun e => e))
      have y0 := (B01.out.keep hkr (fun e => e)).cell 0
      simp only [List.getElem?_toArray, List.getElem?_cons_zero] at y0
      obtain ⟨wq, hwq⟩ : ∃ wq, wq = wr := ⟨_, rfl⟩
      have KQ := Lib.hid (show Keep none_ w wq from hwq ▸ (K0.out.trans K1.out).trans hkr)
      rw [← hwq] at BPr y0 ⊢
      clear hwq hkr
      go_wp2
      go_loopw [8, 32] (fun ev i wr => ev = .slice none 0 0 ∧ Keep none_ wq wr ∧ (i = .int .i64 0 ∨ i = .int .i64 1)) (fun _ i _ => 1 - (intOf i).toNat)
      case atStart => exact ⟨rfl, Keep.refl _ _, .inl rfl⟩
      case round =>
        obtain ⟨rfl, hkr, rfl | rfl⟩ := hrel
        · have BR := Lib.hid (BPr.out.keep hkr (fun e => e))
          have KR := Lib.hid hkr
          clear hkr
          have t1 : True := trivial
          have t2 : True := trivial
          go_upto_region 13 with (first | (have _t := t1; refine wpList_load_part 33 (.tmp 34) rfl rfl b 0 (by first | rfl | simp) #[.bool true, .int .i64 0, .int .i64 1, .string ⟨#[97]⟩, .int .i64 0] _ BR.out.rangeAt Tryz.underlying33 rfl (by kernel_rfl) ?_; go_frame; clear _t t1) | (have _t := t2; refine wpList_store_blk rfl 33 (.tmp 10) (.tmp 35) rfl wr.heap.size 33 _ _ rfl rfl (Blk.new _ _ _) rfl (by kernel_rfl) (by simp [Value.oneCell']) ?_; intro w3 b3 k3 s3; go_frame; clear _t t2))
          have kr3 : Keep none_ wr w3 := ((Keep.refl none_ wr).alloc _).own k3 (Nat.le_refl _)
          have y1 := b3.cell 0
          simp only [List.getElem?_toArray, List.getElem?_cons_zero] at y1
          have K3 := Lib.hid kr3
          clear k3 s3 b3 kr3
          go_wp2
          go_roundw
          case rel => exact ⟨rfl, KR.out.trans K3.out, .inr (by go_num)⟩
          case measure => simp [intOf]
        · go_wp2
          go_ret2
          exact ⟨rfl, KQ.out.trans hkr⟩
end Go.Proofs.YtnefbeplgfdkkaaGreatDoor
