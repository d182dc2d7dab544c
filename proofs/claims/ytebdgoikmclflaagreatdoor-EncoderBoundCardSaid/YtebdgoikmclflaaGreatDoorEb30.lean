/-
  bitio.NewWriter, Len, Payload; vlc.PutUnsigned, PutSigned of 0; block.Put of zeros.
-/
import Derived.Test.YtebdgoikmclflaaGreatDoorEb29
namespace Go.Proofs.YtebdgoikmclflaaGreatDoor
open Go.RowKit

set_option maxRecDepth 100000 in
theorem newWriter_any (w : World) : Calls Tryz.prog 93 #[] w fun e w' => e = .returned (.pointer (some ⟨w.heap.size, 0, none⟩)) ∧ WrX w' w.heap.size (.slice none 0 0) 0 ∧ Keep none_ w w' := by
  have HW := Lib.hid (show WrX (w.alloc (.cells #[.slice none 0 0, .int .i64 0] 195)) w.heap.size (.slice none 0 0) 0 from ⟨Blk.new _ _ _, [], ⟨rfl, .inl ⟨rfl, rfl⟩⟩, fun _ h => by cases h⟩)
  have HK := Lib.hid (show Keep none_ w (w.alloc (.cells #[.slice none 0 0, .int .i64 0] 195)) from (Keep.refl _ _).alloc _)
  go_enter Tryz.func93, Tryz.ntmps93
  go_wp2
  go_ret
  exact ⟨rfl, HW.out, HK.out⟩
set_option maxRecDepth 100000 in
theorem wlen_any (g : Nat) (v : Value) (n : Nat) (w : World) (h : WrX w g v n) : Calls Tryz.prog 126 #[.pointer (some ⟨g, 0, none⟩)] w fun e w' => e = .returned (.int .i64 n) ∧ w = w' := by
  have x1 : w.cell? ⟨g, 1, none⟩ = some (.int .i64 n) := h.1.cell 1
  clear h
  go_enter Tryz.func126, Tryz.ntmps126
  go_wp2
  go_ret
  exact ⟨rfl, rfl⟩
set_option maxRecDepth 100000 in
theorem fold0 (w : World) : Calls Tryz.prog 184 #[.int .i64 0] w fun e w' => e = .returned (.int .i64 0) ∧ w = w' := by
  go_enter Tryz.func184, Tryz.ntmps184
  go_wp2
  go_ret
  exact ⟨rfl, rfl⟩
set_option maxRecDepth 100000 in
set_option maxHeartbeats 1000000 in
theorem putu0 (g : Nat) (v : Value) (n : Nat) (w : World) (h : WrX w g v n) (hn : n ≤ 1000) : Calls Tryz.prog 170 #[.pointer (some ⟨g, 0, none⟩), .int .i64 0] w (PutPost g v n 1 w) := by
  have P1 := Lib.hid (put00 g v n w h)
  have P2 := Lib.hid (fun v w h => put11 g v n w h hn)
  have HL := Lib.hid (len_any 1 (by decide) w)
  clear h
  have t1 : True := trivial
  have t2 : True := trivial
  have t3 : True := trivial
  go_enter Tryz.func170, Tryz.ntmps170
  go_wp2_with (first | (have _t := t1; go_at_call 183; refine HL.out.mono ?_; rintro e w' ⟨r, rfl, hr, rfl⟩; obtain rfl := hr rfl; clear _t t1) | (have _t := t2; go_at_call 94; refine P1.out.mono ?_; rintro e w2 ⟨v2, rfl, hw2, hu2⟩; have W2 := Lib.hid hw2; have U2 := Lib.hid hu2; clear hw2 hu2 _t t2) | (have _t := t3; go_at_call 94; refine (P2.out v2 w2 W2.out).mono ?_; rintro e w3 ⟨v3, rfl, hw3, hu3⟩; have W3 := Lib.hid hw3; have U3 := Lib.hid (U2.out.trans hu3); clear hw3 hu3 _t t3))
  go_ret
  exact ⟨v3, rfl, W3.out, U3.out⟩
set_option maxRecDepth 100000 in
set_option maxHeartbeats 1000000 in
theorem puts0 (g : Nat) (v : Value) (n : Nat) (w : World) (h : WrX w g v n) (hn : n ≤ 1000) : Calls Tryz.prog 173 #[.pointer (some ⟨g, 0, none⟩), .int .i64 0] w (PutPost g v n 1 w) := by
  have P1 := Lib.hid (putu0 g v n w h hn)
  clear h
  have t1 : True := trivial
  have t2 : True := trivial
  go_enter Tryz.func173, Tryz.ntmps173
  go_wp2_with (first | (have _t := t1; go_at_call 184; refine (fold0 _).mono ?_; rintro e w' ⟨rfl, rfl⟩; clear _t t1) | (have _t := t2; go_at_call 170; refine P1.out.mono ?_; rintro e w2 ⟨v2, rfl, hw2, hu2⟩; have W2 := Lib.hid hw2; have U2 := Lib.hid hu2; clear hw2 hu2 _t t2))
  go_ret
  exact ⟨v2, rfl, W2.out, U2.out⟩
set_option maxRecDepth 100000 in
theorem vstart1 (w : World) : Calls Tryz.prog 175 #[.int .i64 1] w fun e w' => e = .returned (.bool true) ∧ w = w' := by
  go_enter Tryz.func175, Tryz.ntmps175
  go_wp2
  go_ret
  exact ⟨rfl, rfl⟩
set_option maxRecDepth 100000 in
theorem allowed0 (w : World) : Calls Tryz.prog 187 #[.int .i64 0] w fun e w' => e = .returned (.bool true) ∧ w = w' := by
  go_enter Tryz.func187, Tryz.ntmps187
  go_wp2
  go_ret
  exact ⟨rfl, rfl⟩
set_option maxRecDepth 100000 in
set_option maxHeartbeats 1000000 in
theorem inRange0 (w : World) : Calls Tryz.prog 185 #[.agg (A64 0), .int .i64 1] w fun e w' => e = .returned (.bool true) ∧ Keep none_ w w' := by
  obtain ⟨zc, hzc⟩ : ∃ zc, zc = A64 0 := ⟨_, rfl⟩
  rw [← hzc]
  obtain ⟨W0, hW0⟩ : ∃ W0, W0 = w.alloc (.cells zc 99) := ⟨_, rfl⟩
  have X0 := Lib.hid (show ZB W0 w.heap.size 99 from by unfold ZB; rw [← hzc]; exact hW0 ▸ Blk.new _ _ _)
  have SZ := Lib.hid (show zc.size = 64 by rw [hzc]; exact A64_size 0)
  have K0 := Lib.hid (show Keep none_ w W0 from hW0 ▸ (Keep.refl _ _).alloc _)
  clear hzc
  go_enter Tryz.func185, Tryz.ntmps185
  go_upto_region 1 with (fail)
  rw [← hW0]
  clear hW0
  go_wp2_with (fail)
  go_loopw [10] (fun i wr => ∃ k : Nat, k ≤ 63 ∧ i = .int .i64 k ∧ W0 = wr) (fun i _ => 63 - (intOf i).toNat)
  case atStart => exact ⟨0, by decide, rfl, by trivial⟩
  case round =>
    obtain ⟨k, hk, rfl, rfl⟩ := hrel
    by_cases hlt : k < 63
    · have hlt' : (k : Int) < 63 := by omega
      have x1 : W0.cell? ⟨w.heap.size, 1 + k, none⟩ = some (.int .i64 0) := X0.out.cell (1 + k) (by omega)
      have tk : True := trivial
      go_wp2_with (have _t := tk; go_at_call 187; refine (allowed0 _).mono ?_; rintro e w' ⟨rfl, rfl⟩; clear _t tk)
      go_roundw
      case rel => exact ⟨k + 1, hlt, by go_num, by trivial⟩
      case measure => simp [intOf]; omega
    · obtain rfl : k = 63 := by omega
      go_wp2
      go_ret
      exact ⟨rfl, K0.out⟩
set_option maxRecDepth 100000 in
set_option maxHeartbeats 1000000 in
theorem bput0 (g : Nat) (v : Value) (n : Nat) (w : World) (h : WrX w g v n) (hn : n ≤ 1000) : Calls Tryz.prog 174 #[.pointer (some ⟨g, 0, none⟩), .agg (A64 0), .int .i64 1] w (PutPost g v n 1 w) := by
  have IR := Lib.hid inRange0
  obtain ⟨zc, hzc⟩ : ∃ zc, zc = A64 0 := ⟨_, rfl⟩
  rw [← hzc] at IR ⊢
  obtain ⟨W0, hW0⟩ : ∃ W0, W0 = w.alloc (.cells zc 99) := ⟨_, rfl⟩
  have X0 := Lib.hid (show ZB W0 w.heap.size 99 from by unfold ZB; rw [← hzc]; exact hW0 ▸ Blk.new _ _ _)
  have B0 := Lib.hid (show Blk W0 w.heap.size 99 zc from hW0 ▸ Blk.new _ _ _)
  have SZ := Lib.hid (show zc.size = 64 by rw [hzc]; exact A64_size 0)
  have K0 := Lib.hid (show Keep none_ w W0 from hW0 ▸ (Keep.refl _ _).alloc _)
  have H := Lib.hid h
  clear hzc h
  have t1 : True := trivial
  have t2 : True := trivial
  have t3 : True := trivial
  go_enter Tryz.func174, Tryz.ntmps174
  go_upto_region 1 with (fail)
  rw [← hW0]
  clear hW0
  go_wp2_with (first | (have _t := t1; go_at_call 175; refine (vstart1 _).mono ?_; rintro e w' ⟨rfl, rfl⟩; clear _t t1) | (have _t := t2; refine wpList_load_blk rfl 99 (.tmp 4) rfl w.heap.size 99 _ _ rfl B0.out Tryz.underlying99 rfl (by rw [SZ.out]; kernel_rfl) ?_; go_frame; clear _t t2) | (have _t := t3; go_at_call 185; refine (IR.out _).mono ?_; rintro e w2 ⟨rfl, k2⟩; have K2 := Lib.hid (K0.out.trans k2); have X2 := Lib.hid (X0.out.keep k2 (fun e => e)); clear k2 _t t3))
  go_loopw [8] (fun i wr => ∃ k : Nat, 1 ≤ k ∧ k ≤ 64 ∧ i = .int .i64 k ∧ w2 = wr) (fun i _ => 64 - (intOf i).toNat)
  case atStart => exact ⟨1, by decide, by decide, rfl, by trivial⟩
  case round =>
    obtain ⟨k, hk1, hk, rfl, rfl⟩ := hrel
    by_cases hlt : k < 64
    · have hlt' : (k : Int) < 64 := by omega
      have x1 : w2.cell? ⟨w.heap.size, k, none⟩ = some (.int .i64 0) := X2.out.cell k hlt
      go_wp2
      go_roundw
      case rel => exact ⟨k + 1, by omega, hlt, by go_num, by trivial⟩
      case measure => simp [intOf]; omega
    · obtain rfl : k = 64 := by omega
      have tk : True := trivial
      go_wp2_with (have _t := tk; go_at_call 170; refine (putu0 g v n w2 (H.out.up K2.out) hn).mono ?_; rintro e w3 ⟨v3, rfl, hw3, hu3⟩; have W3 := Lib.hid hw3; have U3 := Lib.hid ((Up.keep K2.out).trans hu3); clear hw3 hu3 _t tk)
      go_ret
      exact ⟨v3, rfl, W3.out, U3.out⟩
set_option maxRecDepth 100000 in
set_option maxHeartbeats 4000000 in
theorem payload18 (g : Nat) (v : Value) (w : World) (h : WrX w g v 18) : Calls Tryz.prog 96 #[.pointer (some ⟨g, 0, none⟩)] w fun e w' => ∃ b, e = .returned (.slice (some ⟨b, 0, none⟩) 3 3) ∧ Keep none_ w w' := by
  obtain ⟨hb, xs, hr, hx⟩ := h
  obtain ⟨b, c, cur, rfl, -, hcur, -, -, -, htake⟩ := own_cases hr (by decide)
  have h3 : xs.length = 3 := hr.1
  obtain ⟨u0, u1, u2, rfl⟩ : ∃ u0 u1 u2, xs = [u0, u1, u2] := by
    rcases xs with _ | ⟨u0, _ | ⟨u1, _ | ⟨u2, _ | ⟨u3, t⟩⟩⟩⟩ <;> simp at h3
    exact ⟨u0, u1, u2, rfl⟩
  obtain ⟨z0, rfl, -⟩ := hx u0 (by simp)
  obtain ⟨z1, rfl, -⟩ := hx u1 (by simp)
  obtain ⟨z2, rfl, -⟩ := hx u2 (by simp)
  have mk : ∀ w, (Instr.makeSlice 30 (.int .i64 3) (.int .i64 3)).run Tryz.prog w = .ok (.slice (some ⟨w.heap.size, 0, none⟩) 3 3) (w.alloc (.cells (madeCells #[.int .u8 0] 3) 5)) := mk_u8 3 (by decide)
  obtain ⟨W1, hW1⟩ : ∃ W1, W1 = w.alloc (.cells (madeCells #[.int .u8 0] 3) 5) := ⟨_, rfl⟩
  have k1 : Keep none_ w W1 := hW1 ▸ (Keep.refl _ _).alloc _
  have d1 : ByteBlk W1 w.heap.size (List.replicate 3 0) := ByteBlk.made W1 3 _ (hW1 ▸ Blk.new _ _ _)
  have cells : ∀ j u, [Value.int .u8 z0, .int .u8 z1, .int .u8 z2][j]? = some u → w.cell? ⟨b, j, none⟩ = some u := fun j u hj => by
    rw [Blk.cell (g := b) hcur]
    have hj3 : j < 3 := by
      rcases Nat.lt_or_ge j 3 with h | h
      · exact h
      · rw [List.getElem?_eq_none (by simpa using h)] at hj
        cases hj
    rw [← htake, List.getElem?_take, if_pos (by omega), Array.getElem?_toList] at hj
    exact hj
  have hcp := run_copy_row (P := Tryz.prog) W1 30 30 3 5 w.heap.size 0 3 3 ⟨b, 0, none⟩ 3 c _ 5 [Value.int .u8 z0, .int .u8 z1, .int .u8 z2] Tryz.underlying30 (by kernel_rfl) d1.1 rfl (fun j u hj => by rw [Addr.add_mid, Nat.zero_add]; exact k1.cell (cells j u hj) (fun e => e)) (by simp) (by simp [Value.oneCell'])
  have kc : Keep (one w.heap.size) W1 (W1.setRow w.heap.size ((((List.replicate 3 (0 : Int)).map (Value.int .u8)).toArray.toList.take 0 ++ [Value.int .u8 z0, .int .u8 z1, .int .u8 z2] ++ ((List.replicate 3 (0 : Int)).map (Value.int .u8)).toArray.toList.drop (0 + 3)).toArray)) := Keep.setRow _
  have hbc := setRow_heap W1 w.heap.size _ ((((List.replicate 3 (0 : Int)).map (Value.int .u8)).toArray.toList.take 0 ++ [Value.int .u8 z0, .int .u8 z1, .int .u8 z2] ++ ((List.replicate 3 (0 : Int)).map (Value.int .u8)).toArray.toList.drop (0 + 3)).toArray) _ _ d1.1
  obtain ⟨wc, hwc⟩ : ∃ wc, wc = W1.setRow w.heap.size ((((List.replicate 3 (0 : Int)).map (Value.int .u8)).toArray.toList.take 0 ++ [Value.int .u8 z0, .int .u8 z1, .int .u8 z2] ++ ((List.replicate 3 (0 : Int)).map (Value.int .u8)).toArray.toList.drop (0 + 3)).toArray) := ⟨_, rfl⟩
  have HCP := Lib.hid (show (Builtin.copy_ #[30, 30] 3 #[.slice (some ⟨w.heap.size, 0, none⟩) 3 3, .slice (some ⟨b, 0, none⟩) 3 c]).run Tryz.prog W1 = .ok (.int .i64 3) wc by rw [hwc]; exact hcp)
  have BC := Lib.hid (show Blk wc w.heap.size 5 #[.int .u8 z0, .int .u8 z1, .int .u8 z2] by rw [hwc]; exact hbc)
  have KC := Lib.hid (show Keep (one w.heap.size) W1 wc by rw [hwc]; exact kc)
  have LT := Lib.hid hb.lt
  have x1 : w.cell? ⟨g, 1, none⟩ = some (.int .i64 18) := hb.cell 1
  have B1 := Lib.hid (hb.keep k1 (fun e => e))
  have HW := Lib.hid hW1
  have K1 := Lib.hid k1
  clear hcp kc hbc hwc hb hr hx hcur htake h3 cells d1 k1 hW1
  have t1 : True := trivial
  go_enter Tryz.func96, Tryz.ntmps96
  go_upto_region 4 with (fail)
  rw [← HW.out]
  have x0 : W1.cell? ⟨g, 0, none⟩ = some (.slice (some ⟨b, 0, none⟩) 3 c) := B1.out.cell 0
  go_upto_region 5 with (have _t := t1; refine wpList_copy_is (.tmp 13) (.tmp 17) 30 30 rfl rfl _ _ rfl rfl HCP.out ?_; go_frame; clear _t t1)
  have x2 : wc.cell? ⟨g, 1, none⟩ = some (.int .i64 18) := (B1.out.keep KC.out (fun e => by have := LT.out; unfold one at e; omega)).cell 1
  have x3 : wc.cell? ⟨w.heap.size, 2, none⟩ = some (.int .u8 z2) := BC.out.cell 2
  have z3 := Blk.frozen BC.out 2
  have KE := Lib.hid (show ∀ y, Keep none_ w (wc.setCell ⟨w.heap.size, 2, none⟩ y) from fun y => ((K1.out.own KC.out (Nat.le_refl _))).setCell (p := ⟨w.heap.size, 2, none⟩) (.inr (Nat.le_refl _)) _)
  have gd := still_good (wc).drew
  have ne := still_some (wc).drew
  have hx := still_at (wc).drew
  refine wp_region_calm (stillCalm (wc).drew) [0, 1, 2, 3, 4, 5, 6, 7, 8, 9, 10, 11, 12, 13, 14, 15] [16] 36 (by kernel_rfl) (by kernel_rfl) rfl gd rfl ?_
  simp only [pairs, List.filterMap_cons, List.filterMap_nil, List.getElem?_toArray, List.getElem?_cons_succ, List.getElem?_cons_zero, Option.map_some]
  repeat (refine Calm.walk_quiet ne rfl rfl rfl (fun K hK => ?_); go_big_quiet_op; refine hK _ ?_; clear hK K)
  intro w' hR _
  obtain rfl : w' = (wc).drew := hR.symm
  simp only [pickOps, List.filterMap_cons, List.filterMap_nil, List.getElem?_toArray, List.getElem?_cons_succ, List.getElem?_cons_zero]
  clear gd ne hx hR
  go_wp2
  go_ret
  exact ⟨_, rfl, (KE.out _).drew⟩
end Go.Proofs.YtebdgoikmclflaaGreatDoor
