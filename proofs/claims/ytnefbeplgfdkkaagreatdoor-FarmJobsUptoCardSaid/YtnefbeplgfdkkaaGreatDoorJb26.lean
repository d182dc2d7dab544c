/-
  awake: the chapter's examples.
-/
import Derived.Test.YtnefbeplgfdkkaaGreatDoorJb25
namespace Go.Proofs.YtnefbeplgfdkkaaGreatDoor
open Go.RowKit

set_option maxRecDepth 100000 in
set_option maxHeartbeats 1000000 in
theorem small_12 (w : World) : Calls Tryz.prog 92 #[.int .i64 12] w fun e w' => e = .returned (.string ⟨#[49, 50]⟩) ∧ Keep none_ w w' := by
  go_enter Tryz.func92, Tryz.ntmps92
  go_wp2
  go_ret
  exact ⟨by kernel_rfl, Keep.refl _ _⟩
set_option maxHeartbeats 1000000 in
theorem fmtI_12 (w : World) : Calls Tryz.prog 68 #[.int .i64 12, .int .i64 10] w fun e w' => e = .returned (.string ⟨#[49, 50]⟩) ∧ Keep none_ w w' := by
  have H := Lib.hid (small_12 w)
  go_enter Tryz.func68, Tryz.ntmps68
  go_wp2_with (go_at_call 92; refine H.out.mono ?_; rintro e w' ⟨rfl, k⟩)
  go_ret
  exact ⟨rfl, k⟩
theorem fmt_12 (w : World) : Calls Tryz.prog 38 #[.int .i64 12, .int .i64 10] w fun e w' => e = .returned (.string ⟨#[49, 50]⟩) ∧ Keep none_ w w' := by
  have H := Lib.hid (fmtI_12 w)
  go_enter Tryz.func38, Tryz.ntmps38
  go_wp2_with (go_at_call 68; refine H.out.mono ?_; rintro e w' ⟨rfl, k⟩)
  go_ret
  exact ⟨rfl, k⟩
theorem jobName_12 (w : World) : Calls Tryz.prog 12 #[.int .i64 12] w fun e w' => e = .returned (.string ⟨#[112, 97, 114, 116, 49, 50]⟩) ∧ Keep none_ w w' := by
  have H := Lib.hid (fmt_12 w)
  go_enter Tryz.func12, Tryz.ntmps12
  go_wp2_with (go_at_call 38; refine H.out.mono ?_; rintro e w' ⟨rfl, k⟩)
  go_ret
  exact ⟨by kernel_rfl, k⟩

set_option maxRecDepth 100000 in
set_option maxHeartbeats 1000000 in
theorem source_one (w : World) : Calls Tryz.prog 59 #[.agg #[.bool true, .int .i64 0, .int .i64 1, .string ⟨#[97]⟩, .int .i64 0]] w fun e w' => e = .returned (.bool true) ∧ Keep none_ w w' := by
  have k0 : Keep none_ w (w.alloc (.cells #[.bool true, .int .i64 0, .int .i64 1, .string ⟨#[97]⟩, .int .i64 0] 33)) := (Keep.refl _ _).alloc _
  go_enter Tryz.func59, Tryz.ntmps59
  go_wp2
  go_ret
  exact ⟨by kernel_rfl, k0⟩
set_option maxRecDepth 100000 in
set_option maxHeartbeats 1000000 in
theorem fields_zero (w : World) : Calls Tryz.prog 60 #[.agg #[.int .i64 0, .string ⟨#[]⟩, .int .i64 0, .int .i64 0, .int .i64 0, .int .i64 0, .string ⟨#[]⟩, .slice none 0 0]] w fun e w' => e = .returned (.bool true) ∧ Keep none_ w w' := by
  obtain ⟨W0, hW0⟩ : ∃ W0, W0 = w.alloc (.cells #[.int .i64 0, .string ⟨#[]⟩, .int .i64 0, .int .i64 0, .int .i64 0, .int .i64 0, .string ⟨#[]⟩, .slice none 0 0] 89) := ⟨_, rfl⟩
  have k0 : Keep none_ w W0 := hW0 ▸ (Keep.refl _ _).alloc _
  have b0 : Blk W0 w.heap.size 89 #[.int .i64 0, .string ⟨#[]⟩, .int .i64 0, .int .i64 0, .int .i64 0, .int .i64 0, .string ⟨#[]⟩, .slice none 0 0] := hW0 ▸ Blk.new _ _ _
  have y0 := b0.cell 0
  have y1 := b0.cell 1
  have y2 := b0.cell 2
  have y3 := b0.cell 3
  have y4 := b0.cell 4
  have y5 := b0.cell 5
  have y6 := b0.cell 6
  have y7 := b0.cell 7
  simp only [List.getElem?_toArray, List.getElem?_cons_zero, List.getElem?_cons_succ] at y0 y1 y2 y3 y4 y5 y6 y7
  clear b0
  go_enter Tryz.func60, Tryz.ntmps60
  go_upto_region 1 with (fail)
  rw [← hW0]
  clear hW0
  go_upto_region 3 with (fail)
  go_quiet (fail)
  go_wp2
  go_ret
  exact ⟨by kernel_rfl, k0.drewN _⟩
set_option maxRecDepth 100000 in
set_option maxHeartbeats 1000000 in
theorem denote_zero (w : World) : Calls Tryz.prog 31 #[.agg #[.int .i64 0, .string ⟨#[]⟩, .int .i64 0, .int .i64 0, .int .i64 0, .int .i64 0, .string ⟨#[]⟩, .slice none 0 0]] w fun e w' => e = .returned (.bool true) ∧ Keep none_ w w' := by
  obtain ⟨W0, hW0⟩ : ∃ W0, W0 = w.alloc (.cells #[.int .i64 0, .string ⟨#[]⟩, .int .i64 0, .int .i64 0, .int .i64 0, .int .i64 0, .string ⟨#[]⟩, .slice none 0 0] 89) := ⟨_, rfl⟩
  have k0 : Keep none_ w W0 := hW0 ▸ (Keep.refl _ _).alloc _
  have b0 : Blk W0 w.heap.size 89 #[.int .i64 0, .string ⟨#[]⟩, .int .i64 0, .int .i64 0, .int .i64 0, .int .i64 0, .string ⟨#[]⟩, .slice none 0 0] := hW0 ▸ Blk.new _ _ _
  have B0 := Lib.hid b0
  have H := Lib.hid (fields_zero W0)
  clear b0
  go_enter Tryz.func31, Tryz.ntmps31
  go_upto_region 1 with (fail)
  rw [← hW0]
  clear hW0
  have t1 : True := trivial
  go_upto_region 3 with (first | (have _t := t1; refine wpList_load_part 89 (.tmp 1) rfl rfl w.heap.size 0 rfl #[.int .i64 0, .string ⟨#[]⟩, .int .i64 0, .int .i64 0, .int .i64 0, .int .i64 0, .string ⟨#[]⟩, .slice none 0 0] _ B0.out.rangeAt Tryz.underlying89 rfl (by kernel_rfl) ?_; go_frame; clear _t t1) | (go_at_call 60; refine H.out.mono ?_; rintro e w1 ⟨rfl, k1⟩))
  have y7 := (B0.out.keep k1 (fun e => e)).cell 7
  simp only [List.getElem?_toArray, List.getElem?_cons_zero, List.getElem?_cons_succ] at y7
  go_wp2
  refine wp_loop_once ?_
  go_wp2
  go_ret
  exact ⟨rfl, k0.trans k1⟩
set_option maxRecDepth 100000 in
set_option maxHeartbeats 1000000 in
theorem plan_one (b : Nat) (w : World) (hb : Blk w b 33 #[.bool true, .int .i64 0, .int .i64 1, .string ⟨#[97]⟩, .int .i64 0]) : Calls Tryz.prog 30 #[.agg #[.slice (some ⟨b, 0, none⟩) 1 1], .int .i64 1] w fun e w' => e = .returned (.bool true) ∧ Keep none_ w w' := by
  obtain ⟨W0, hW0⟩ : ∃ W0, W0 = w.alloc (.cells #[.slice (some ⟨b, 0, none⟩) 1 1] 24) := ⟨_, rfl⟩
  have k0 : Keep none_ w W0 := hW0 ▸ (Keep.refl _ _).alloc _
  have b0 : Blk W0 w.heap.size 24 #[.slice (some ⟨b, 0, none⟩) 1 1] := hW0 ▸ Blk.new _ _ _
  have y0 := b0.cell 0
  simp only [List.getElem?_toArray, List.getElem?_cons_zero] at y0
  have BP := Lib.hid (hb.keep k0 (fun e => e))
  have K0 := Lib.hid k0
  clear b0 hb k0
  go_enter Tryz.func30, Tryz.ntmps30
  go_upto_region 1 with (fail)
  rw [← hW0]
  clear hW0
  go_wp2
  go_loopw [5, 11] (fun e i wr => Keep none_ W0 wr ∧ ((e = .int .i64 0 ∧ i = .int .i64 0) ∨ (e = .int .i64 1 ∧ i = .int .i64 1))) (fun _ i _ => 1 - (intOf i).toNat)
  case atStart => exact ⟨Keep.refl _ _, .inl ⟨rfl, rfl⟩⟩
  case round =>
    obtain ⟨hkr, ⟨rfl, rfl⟩ | ⟨rfl, rfl⟩⟩ := hrel
    · have BR := Lib.hid (BP.out.keep hkr (fun e => e))
      have KR := Lib.hid hkr
      clear hkr
      have t1 : True := trivial
      have t2 : True := trivial
      go_upto_region 5 with (first | (have _t := t1; refine wpList_load_part 33 (.tmp 13) rfl rfl b 0 (by first | rfl | simp) #[.bool true, .int .i64 0, .int .i64 1, .string ⟨#[97]⟩, .int .i64 0] _ BR.out.rangeAt Tryz.underlying33 rfl (by kernel_rfl) ?_; go_frame; clear _t t1) | (have _t := t2; refine wpList_store_blk rfl 33 (.tmp 7) (.tmp 14) rfl wr.heap.size 33 _ _ rfl rfl (Blk.new _ _ _) rfl (by kernel_rfl) (by simp [Value.oneCell']) ?_; intro w3 b3 k3 s3; go_frame; clear _t t2))
      have kr3 : Keep none_ wr w3 := ((Keep.refl none_ wr).alloc _).own k3 (Nat.le_refl _)
      have y1 := b3.cell 1
      have y2 := b3.cell 2
      simp only [List.getElem?_toArray, List.getElem?_cons_zero, List.getElem?_cons_succ] at y1 y2
      have B3 := Lib.hid b3
      have H := Lib.hid (source_one w3)
      have K3 := Lib.hid kr3
      have t3 : True := trivial
      clear k3 s3 b3 kr3
      go_upto_region 7 with (first | (have _t := t3; refine wpList_load_part 33 (.tmp 7) rfl rfl wr.heap.size 0 rfl #[.bool true, .int .i64 0, .int .i64 1, .string ⟨#[97]⟩, .int .i64 0] _ B3.out.rangeAt Tryz.underlying33 rfl (by kernel_rfl) ?_; go_frame; clear _t t3) | (go_at_call 59; refine H.out.mono ?_; rintro e w4 ⟨rfl, k4⟩; have z2 := k4.cell y2 (fun e => e); have K4 := Lib.hid k4; clear k4))
      go_wp2
      go_roundw
      case rel => exact ⟨(KR.out.trans K3.out).trans K4.out, .inr ⟨by go_num, by go_num⟩⟩
      case measure => simp [intOf]
    · go_wp2
      go_ret
      exact ⟨rfl, K0.out.trans hkr⟩
set_option maxRecDepth 100000 in
set_option maxHeartbeats 1000000 in
theorem jobs_one (b be : Nat) (w : World) (hb : Blk w b 33 #[.bool true, .int .i64 0, .int .i64 1, .string ⟨#[97]⟩, .int .i64 0]) (he : Blk w be 89 #[.int .i64 0, .string ⟨#[]⟩, .int .i64 0, .int .i64 0, .int .i64 0, .int .i64 0, .string ⟨#[]⟩, .slice none 0 0]) : Calls Tryz.prog 9 #[.agg #[.slice (some ⟨b, 0, none⟩) 1 1], .slice (some ⟨be, 0, none⟩) 1 1] w fun e w' => e = .returned (.tuple #[.slice none 0 0, .int .i64 0]) ∧ Keep none_ w w' := by
  obtain ⟨W0, hW0⟩ : ∃ W0, W0 = w.alloc (.cells #[.slice (some ⟨b, 0, none⟩) 1 1] 24) := ⟨_, rfl⟩
  have k0 : Keep none_ w W0 := hW0 ▸ (Keep.refl _ _).alloc _
  have b0 : Blk W0 w.heap.size 24 #[.slice (some ⟨b, 0, none⟩) 1 1] := hW0 ▸ Blk.new _ _ _
  have B0 := Lib.hid b0
  have H := Lib.hid (plan_one b W0 (hb.keep k0 (fun e => e)))
  have BP := Lib.hid (hb.keep k0 (fun e => e))
  have BE := Lib.hid (he.keep k0 (fun e => e))
  have K0 := Lib.hid k0
  clear b0 hb he k0
  go_enter Tryz.func9, Tryz.ntmps9
  go_upto_region 1 with (fail)
  rw [← hW0]
  clear hW0
  have t1 : True := trivial
  go_upto_region 3 with (first | (have _t := t1; refine wpList_load_part 24 (.tmp 2) rfl rfl w.heap.size 0 rfl #[.slice (some ⟨b, 0, none⟩) 1 1] _ B0.out.rangeAt Tryz.underlying24 rfl (by kernel_rfl) ?_; go_frame; clear _t t1) | (go_at_call 30; refine H.out.mono ?_; rintro e w1 ⟨rfl, k1⟩; have K1 := Lib.hid k1; clear k1))
  have BE1 := Lib.hid (BE.out.keep K1.out (fun e => e))
  have BP1 := Lib.hid (BP.out.keep K1.out (fun e => e))
  have B01 := Lib.hid (B0.out.keep K1.out (fun e => e))
  clear BE BP B0 H
  go_wp2
  go_loopw [21] (fun i wr => Keep none_ w1 wr ∧ (i = .int .i64 0 ∨ i = .int .i64 1)) (fun i _ => 1 - (intOf i).toNat)
  case atStart => exact ⟨Keep.refl _ _, .inl rfl⟩
  case round =>
    obtain ⟨hkr, rfl | rfl⟩ := hrel
    · have BR := Lib.hid (BE1.out.keep hkr (fun e => e))
      have KR := Lib.hid hkr
      clear hkr
      have t1 : True := trivial
      have t2 : True := trivial
      go_upto_region 6 with (first | (have _t := t1; refine wpList_load_part 89 (.tmp 23) rfl rfl be 0 (by first | rfl | simp) #[.int .i64 0, .string ⟨#[]⟩, .int .i64 0, .int .i64 0, .int .i64 0, .int .i64 0, .string ⟨#[]⟩, .slice none 0 0] _ BR.out.rangeAt Tryz.underlying89 rfl (by kernel_rfl) ?_; go_frame; clear _t t1) | (have _t := t2; refine wpList_store_blk rfl 89 (.tmp 7) (.tmp 24) rfl wr.heap.size 89 _ _ rfl rfl (Blk.new _ _ _) rfl (by kernel_rfl) (by simp [Value.oneCell']) ?_; intro w3 b3 k3 s3; go_frame; clear _t t2))
      have kr3 : Keep none_ wr w3 := ((Keep.refl none_ wr).alloc _).own k3 (Nat.le_refl _)
      have B3 := Lib.hid b3
      have H := Lib.hid (denote_zero w3)
      have K3 := Lib.hid kr3
      have t3 : True := trivial
      clear k3 s3 b3 kr3
      go_upto_region 8 with (first | (have _t := t3; refine wpList_load_part 89 (.tmp 7) rfl rfl wr.heap.size 0 rfl #[.int .i64 0, .string ⟨#[]⟩, .int .i64 0, .int .i64 0, .int .i64 0, .int .i64 0, .string ⟨#[]⟩, .slice none 0 0] _ B3.out.rangeAt Tryz.underlying89 rfl (by kernel_rfl) ?_; go_frame; clear _t t3) | (go_at_call 31; refine H.out.mono ?_; rintro e w4 ⟨rfl, k4⟩; have K4 := Lib.hid k4; clear k4))
      go_wp2
      go_roundw
      case rel => exact ⟨(KR.out.trans K3.out).trans K4.out, .inr (by go_num)⟩
      case measure => simp [intOf]
    · have BPr := Lib.hid (BP1.out.keep hkr (fun e => e))
      have y0 := (B01.out.keep hkr (fun e => e)).cell 0
      simp only [List.getElem?_toArray, List.getElem?_cons_zero] at y0
      obtain ⟨wq, hwq⟩ : ∃ wq, wq = wr := ⟨_, rfl⟩
      have KQ := Lib.hid (show Keep none_ w wq from hwq ▸ (K0.out.trans K1.out).trans hkr)
      rw [← hwq] at BPr y0 ⊢
      clear hwq hkr
      go_wp2
      go_loopw [8, 32] (fun ev i wr => ev = .slice none 0 0 ∧ Keep none_ wq wr ∧ (i = .int .i64 0 ∨ i = .int .i64 1)) (fun _ i _ => 1 - (intOf i).toNat)
      case atStart => exact ⟨rfl, Keep.refl _ _, .inl rfl⟩
      case round =>
        obtain ⟨rfl, hkr, rfl | rfl⟩ := hrel
        · have BR := Lib.hid (BPr.out.keep hkr (fun e => e))
          have KR := Lib.hid hkr
          clear hkr
          have t1 : True := trivial
          have t2 : True := trivial
          go_upto_region 13 with (first | (have _t := t1; refine wpList_load_part 33 (.tmp 34) rfl rfl b 0 (by first | rfl | simp) #[.bool true, .int .i64 0, .int .i64 1, .string ⟨#[97]⟩, .int .i64 0] _ BR.out.rangeAt Tryz.underlying33 rfl (by kernel_rfl) ?_; go_frame; clear _t t1) | (have _t := t2; refine wpList_store_blk rfl 33 (.tmp 10) (.tmp 35) rfl wr.heap.size 33 _ _ rfl rfl (Blk.new _ _ _) rfl (by kernel_rfl) (by simp [Value.oneCell']) ?_; intro w3 b3 k3 s3; go_frame; clear _t t2))
          have kr3 : Keep none_ wr w3 := ((Keep.refl none_ wr).alloc _).own k3 (Nat.le_refl _)
          have y1 := b3.cell 0
          simp only [List.getElem?_toArray, List.getElem?_cons_zero] at y1
          have K3 := Lib.hid kr3
          clear k3 s3 b3 kr3
          go_wp2
          go_roundw
          case rel => exact ⟨rfl, KR.out.trans K3.out, .inr (by go_num)⟩
          case measure => simp [intOf]
        · go_wp2
          go_ret2
          exact ⟨rfl, KQ.out.trans hkr⟩
end Go.Proofs.YtnefbeplgfdkkaaGreatDoor
/-
  awake: the whole.
-/
namespace Go.Proofs.YtnefbeplgfdkkaaGreatDoor
open Go.RowKit

theorem zero_part (w : World) : (zeroValue 33).run Tryz.prog w = .ok (.agg #[.bool false, .int .i64 0, .int .i64 0, .string ⟨#[]⟩, .int .i64 0]) w := by kernel_rfl
theorem zero_plan (w : World) : (zeroValue 24).run Tryz.prog w = .ok (.agg #[.slice none 0 0]) w := by kernel_rfl
theorem zero_event (w : World) : (zeroValue 78).run Tryz.prog w = .ok (.agg #[.int .i64 0, .string ⟨#[]⟩, .string ⟨#[]⟩, .slice none 0 0, .int .i64 0, .slice none 0 0]) w := by kernel_rfl
theorem mk_expr (w : World) : (Instr.makeSlice 25 (.int .i64 1) (.int .i64 1)).run Tryz.prog w = .ok (.slice (some ⟨w.heap.size, 0, none⟩) 1 1) (w.alloc (.cells #[.int .i64 0, .string ⟨#[]⟩, .int .i64 0, .int .i64 0, .int .i64 0, .int .i64 0, .string ⟨#[]⟩, .slice none 0 0] 89)) := by kernel_rfl

/-! Lists of events that a literal has laid. -/
def All2 {α β : Type} (R : α → β → Prop) : List α → List β → Prop
  | [], [] => True
  | a :: xs, b :: ys => R a b ∧ All2 R xs ys
  | _, _ => False
theorem All2.get {α β : Type} {R : α → β → Prop} : ∀ {xs : List α} {ys : List β}, All2 R xs ys → xs.length = ys.length ∧ ∀ (i : Nat) (a : α) (b : β), xs[i]? = some a → ys[i]? = some b → R a b
  | [], [], _ => ⟨rfl, fun i a b h => by simp at h⟩
  | [], _ :: _, h => h.elim
  | _ :: _, [], h => h.elim
  | a :: xs, b :: ys, h => by
    obtain ⟨h1, h2⟩ := All2.get h.2
    refine ⟨by simp [h1], fun i x y hx hy => ?_⟩
    cases i with
    | zero =>
      simp at hx hy
      rw [← hx, ← hy]
      exact h.1
    | succ i => exact h2 i x y (by simpa using hx) (by simpa using hy)
theorem EvCs.len {w : World} {S : Nat → Prop} {cs : List Value} {e : Ev} (h : EvCs w S cs e) : cs.length = 6 := by
  obtain ⟨vn, vi, rfl, -, -⟩ := h
  rfl
theorem StrsOf.nil (w : World) (S : Nat → Prop) : StrsOf w S (.slice none 0 0) [] := ⟨none, 0, 0, rfl, row_nil _ _ _ _ _ (Nat.zero_le _)⟩
theorem EvCs.plain (w : World) (S : Nat → Prop) (k : Int) (x y : ByteArray) (t : Int) : EvCs w S [.int .i64 k, .string x, .string y, .slice none 0 0, .int .i64 t, .slice none 0 0] ⟨k, x, y, [], t, []⟩ := ⟨_, _, rfl, StrsOf.nil _ _, ItemsOf.nil _ _⟩
theorem EvsOf.own {w : World} {base : Nat} {v : Value} {css : List (List Value)} {l : List Ev} (h : w.ownsRow base 78 6 v l.length css.flatten) (h2 : All2 (EvCs w none_) css l) : EvsOf w none_ v l := by
  obtain ⟨A, c, rfl, hr⟩ := own_row (S := none_) h (fun _ _ e => e)
  obtain ⟨g1, g2⟩ := h2.get
  refine ElemsOf.of_row rfl g1 (fun x hx => ?_) hr g2
  obtain ⟨i, hi, rfl⟩ := List.mem_iff_getElem.1 hx
  exact EvCs.len (g2 i _ _ (List.getElem?_eq_getElem hi) (List.getElem?_eq_getElem (by rw [← g1]; exact hi)))
/-- A literal of events is a row of the call's own. -/
theorem own_events (W : World) (base n : Nat) (cs : Array Value) (hb : base ≤ W.heap.size) (hn : n ≤ 64) (hc : cs.size = n * 6) : (W.alloc (.cells cs 78)).ownsRow base 78 6 (.slice (some ⟨W.heap.size, 0, none⟩) n n) n cs.toList :=
  ⟨by simpa using hc, .inr ⟨W.heap.size, n, cs, rfl, hb, heap_alloc_new W _, Nat.le_refl _, by unfold maxLen; omega, hc, by rw [List.take_of_length_le (by simp [hc])]⟩⟩

def evsA : List Ev := [⟨4, ⟨#[]⟩, ⟨#[119]⟩, [], 0, []⟩, ⟨6, ⟨#[]⟩, ⟨#[119]⟩, [], 0, []⟩]
theorem V.zero : V zeroSt := (valid_iff _).1 (by kernel_rfl)
theorem ItsOk.zero : ItsOk zeroSt := fun _ h => (by cases h)
set_option maxRecDepth 100000 in
set_option maxHeartbeats 1000000 in
theorem awake_any (w : World) : Calls Tryz.prog 14 #[] w fun e w' => e = .returned (.bool true) ∧ Keep none_ w w' := by
  have zp := zero_part
  have zl := zero_plan
  have ze := zero_event
  have zs := zero_state
  have mx := mk_expr
  obtain ⟨W1, hW1⟩ : ∃ W1, W1 = (w.alloc (.cells #[.bool true, .int .i64 0, .int .i64 1, .string ⟨#[97]⟩, .int .i64 0] 33)).alloc (.cells #[.int .i64 0, .string ⟨#[]⟩, .int .i64 0, .int .i64 0, .int .i64 0, .int .i64 0, .string ⟨#[]⟩, .slice none 0 0] 89) := ⟨_, rfl⟩
  obtain ⟨b0, b1, k0⟩ := two (w := w) (t0 := 33) (c0 := #[.bool true, .int .i64 0, .int .i64 1, .string ⟨#[97]⟩, .int .i64 0]) (t1 := 89) (c1 := #[.int .i64 0, .string ⟨#[]⟩, .int .i64 0, .int .i64 0, .int .i64 0, .int .i64 0, .string ⟨#[]⟩, .slice none 0 0]) (w1 := W1) (hW1 ▸ Keep.refl none_ W1)
  have H1 := jobs_one w.heap.size (w.heap.size + 1) W1 b0 b1
  rw [hW1] at H1
  have JB := Lib.hid H1
  have K0 := Lib.hid k0
  have HW1 := Lib.hid hW1
  clear hW1 H1 b0 b1 k0
  go_enter Tryz.func14, Tryz.ntmps14
  have t1 : True := trivial
  go_upto_region 2 with (have _t := t1; go_at_call 9; refine JB.out.mono ?_; rintro e w2 ⟨rfl, k2⟩; have K2 := Lib.hid k2; clear k2 _t t1)
  have k02 : Keep none_ w w2 := K0.out.trans (by rw [HW1.out]; exact K2.out)
  have K02 := Lib.hid k02
  clear k02 K0 K2 JB HW1 zp zl mx
  have RN := Lib.hid (run_any zeroSt evsA _ _ none_ none_ (w2.alloc (.cells #[.int .i64 4, .string ⟨#[]⟩, .string ⟨#[119]⟩, .slice none 0 0, .int .i64 0, .slice none 0 0, .int .i64 6, .string ⟨#[]⟩, .string ⟨#[119]⟩, .slice none 0 0, .int .i64 0, .slice none 0 0] 78)) (zeroSt_of _ _) (EvsOf.own (base := 0) (css := [[.int .i64 4, .string ⟨#[]⟩, .string ⟨#[119]⟩, .slice none 0 0, .int .i64 0, .slice none 0 0], [.int .i64 6, .string ⟨#[]⟩, .string ⟨#[119]⟩, .slice none 0 0, .int .i64 0, .slice none 0 0]]) (own_events w2 0 2 #[.int .i64 4, .string ⟨#[]⟩, .string ⟨#[119]⟩, .slice none 0 0, .int .i64 0, .slice none 0 0, .int .i64 6, .string ⟨#[]⟩, .string ⟨#[119]⟩, .slice none 0 0, .int .i64 0, .slice none 0 0] (Nat.zero_le _) (by decide) rfl) ⟨EvCs.plain _ _ _ _ _ _, EvCs.plain _ _ _ _ _ _, trivial⟩) V.zero ItsOk.zero (by
    intro e he
    simp only [evsA, List.mem_cons, List.not_mem_nil, or_false] at he
    rcases he with rfl | rfl <;> exact ItOk.nil) (by decide))
  have EA := Lib.hid (show goE zeroSt evsA = [0, 0] by kernel_rfl)
  have EB := Lib.hid (show (goS zeroSt evsA).workers.length = 1 by kernel_rfl)
  have t2 : True := trivial
  have t3 : True := trivial
  go_upto_region 3 with (first | (have _t := t2; go_at_call 27; refine RN.out.mono ?_; rintro e w3 ⟨v3, vo3, ve3, rfl, h3, o3, e3, k3⟩; rw [EA.out] at e3; have K3 := Lib.hid k3; obtain ⟨p6, j6, q6, rfl, g1, g2, g3⟩ := h3; obtain ⟨P1, P2, P3, rfl, -⟩ := g1; obtain ⟨P4, P5, P6, rfl, -⟩ := g2; obtain ⟨P7, P8, P9, rfl, a1, a2, a3, -⟩ := g3; obtain ⟨O1, O2, rfl, -⟩ := o3; obtain ⟨X1, X2, rfl, r3⟩ := e3; rw [EB.out] at a3; subst a3; have R3 := Lib.hid r3; clear k3 _t t2 r3 a1 a2) | (have _t := t3; refine wpList_store_blk rfl 48 (.tmp 3) (.tmp 20) rfl w3.heap.size 48 _ _ rfl rfl (Blk.new _ _ _) rfl (by kernel_rfl) (by simp [Value.oneCell']) ?_; intro w4 b4 k4 s4; go_frame; clear _t t3))
  have k34 : Keep none_ w3 w4 := ((Keep.refl none_ w3).alloc _).own k4 (Nat.le_refl _)
  have y3 := b4.cell 3
  simp only [List.getElem?_toArray, List.getElem?_cons_zero, List.getElem?_cons_succ] at y3
  obtain ⟨bx, ox, rfl, -, hx⟩ := R3.out.at_ (by decide)
  have c0 : w4.cell? ⟨bx, ox, none⟩ = some (.int .i64 0) := k34.cell (hx 0 (.int .i64 0) rfl) (fun e => e)
  have c1 := k34.cell (hx 1 (.int .i64 0) rfl) (fun e => e)
  have JN := Lib.hid (jobName_12 w4)
  have K4 := Lib.hid (K02.out.trans ((((Keep.refl none_ w2).alloc _).trans K3.out).trans k34))
  have x1 := R3.out.cap
  have x2 := R3.out.le
  unfold maxLen at x1
  simp only [List.length_cons, List.length_nil] at x2
  clear RN b4 k4 s4 k34 R3 hx
  have t4 : True := trivial
  go_wp2_with (have _t := t4; go_at_call 12; refine JN.out.mono ?_; rintro e w5 ⟨rfl, k5⟩; have z0 := k5.cell c0 (fun e => e); have z1 := k5.cell c1 (fun e => e); have z3 := k5.cell y3 (fun e => e); have K5 := Lib.hid k5; clear k5 _t t4)
  go_ret
  exact ⟨by kernel_rfl, K4.out.trans K5.out⟩
end Go.Proofs.YtnefbeplgfdkkaaGreatDoor
/-
  FarmLate in plain words. No program here.
-/
namespace Go.Proofs.YtnefbeplgfdkkaaGreatDoor

def bJob : ByteArray := ⟨#[106, 111, 98]⟩
def bA : ByteArray := ⟨#[97]⟩
def bB : ByteArray := ⟨#[98]⟩
def ev (k : Int) (x y : ByteArray) (t : Int) : Ev := ⟨k, x, y, [], t, []⟩
def evsL (die : Bool) (n : Int) : List Ev := [ev 1 bJob ⟨#[]⟩ 0, ev 4 ⟨#[]⟩ bA 0, ev 4 ⟨#[]⟩ bB 0, ev 6 ⟨#[]⟩ bA 0] ++ (if die then [ev 5 ⟨#[]⟩ bA 0] else []) ++ [ev 9 ⟨#[]⟩ ⟨#[]⟩ n]
def finA : Ev := ev 7 bJob bA 0
def pollB : Ev := ev 6 ⟨#[]⟩ bB 0
def finB : Ev := ev 7 bJob bB 0
theorem late_facts (n : Int) (h1 : 1 ≤ n) (h2 : n ≤ 20) (die : Bool) :
    stepE (goS zeroSt (evsL die n)) finA = (if die then 14 else if n < 10 then 0 else 13) ∧ stepE (goS zeroSt (evsL die n)) pollB = 0 ∧
    stepO (goS zeroSt (evsL die n)) pollB = (if n < 10 then [] else [⟨1, bJob, bB⟩]) ∧ stepE (stepS (goS zeroSt (evsL die n)) pollB) finB = (if n < 10 then 13 else 0) := by
  have : n = 1 ∨ n = 2 ∨ n = 3 ∨ n = 4 ∨ n = 5 ∨ n = 6 ∨ n = 7 ∨ n = 8 ∨ n = 9 ∨ n = 10 ∨ n = 11 ∨ n = 12 ∨ n = 13 ∨ n = 14 ∨ n = 15 ∨ n = 16 ∨ n = 17 ∨ n = 18 ∨ n = 19 ∨ n = 20 := by omega
  rcases this with rfl | rfl | rfl | rfl | rfl | rfl | rfl | rfl | rfl | rfl | rfl | rfl | rfl | rfl | rfl | rfl | rfl | rfl | rfl | rfl <;> cases die <;> exact ⟨by kernel_rfl, by kernel_rfl, by kernel_rfl, by kernel_rfl⟩
theorem ItsOk.step {s : St} (h : ItsOk s) {e : Ev} (he : ItOk e.items) : ItsOk (stepS s e) := by
  unfold stepS
  split
  · exact per_items h he
  · exact ItsOk.zero
theorem evsL_items (die : Bool) (n : Int) : ∀ e ∈ evsL die n, ItOk e.items := by
  intro e he
  have : e.items = [] := by
    unfold evsL ev at he
    cases die <;> simp at he <;> rcases he with rfl | rfl | rfl | rfl | rfl | rfl <;> rfl
  rw [this]
  exact ItOk.nil
theorem evsL_len (die : Bool) (n : Int) : (evsL die n).length ≤ 64 := by unfold evsL; cases die <;> simp
end Go.Proofs.YtnefbeplgfdkkaaGreatDoor
/-
  Two facts on events in memory.
-/
namespace Go.Proofs.YtnefbeplgfdkkaaGreatDoor
open Go.RowKit

theorem ev_info : (Tryz.prog.info? 78).map (fun i => (i.zero, i.size, i.bytes)) = some (some (.agg #[.int .i64 0, .string ⟨#[]⟩, .string ⟨#[]⟩, .slice none 0 0, .int .i64 0, .slice none 0 0]), 6, 96) := by kernel_rfl
theorem Keep.then_none {a w w' : World} {S : Nat → Prop} (h : Keep none_ a w) (k : Keep S w w') (hS : ∀ x, S x → a.heap.size ≤ x) : Keep none_ a w' := h.then k (fun x e => .inr (hS x e))
end Go.Proofs.YtnefbeplgfdkkaaGreatDoor
