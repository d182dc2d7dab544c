/-
  plane.cut of planes of one number.
-/
import Derived.Test.YtebdgoikmclflaaGreatDoorEb14
namespace Go.Proofs.YtebdgoikmclflaaGreatDoor
open Go.RowKit

/-- copy, where its run is known. -/
theorem wpList_copy_is {P : Program} {ops : Array Oper} {rest : List Oper} {op : Oper} {a : Act} {w : World} {Q : Exit → Act → World → Prop} (d s : Operand) (t t' : TypeId) (ho : op.op = .call { callee := .builtin .copy, args := #[d, s], argTypes := #[t, t'] }) (hgd : op.guard = none)
    (v u : Value) (hd : a.eval d = v) (hs : a.eval s = u) {v' : Value} {w' : World} (hr : (Builtin.copy_ #[t, t'] op.type #[v, u]).run P w = .ok v' w') (h : wpList P ops Q rest (a.put op.dst v') w') : wpList P ops Q (op :: rest) a w :=
  wpList_plain hgd fun _ hK => by
    unfold Oper.wp execOp
    simp only [ho, resolve, invoke, builtin, Sem.run_bind, Sem.run_pure, Result.andThen_ok, List.map_toArray, List.map_cons, List.map_nil, hd, hs, hr]
    exact hK _ _ h
set_option maxRecDepth 100000 in
set_option maxHeartbeats 2000000 in
theorem cutA (z : Int) (A : Option Addr) (C : Nat) (w : World) (hr : CstS w none_ 256 z A C) : Calls Tryz.prog 86 #[.slice A 256 C, .agg #[.int .i64 0, .int .i64 16, .int .i64 16, .int .i64 16]] w fun e w' => ∃ b, e = .returned (.slice (some ⟨b, 0, none⟩) 256 256) ∧ ByteBlk w' b (List.replicate 256 z) ∧ w.heap.size ≤ b ∧ Keep none_ w w' := by
  obtain ⟨bs, os, rfl, -, hsrc⟩ := hr.at_ (by decide)
  obtain ⟨hr0, hz⟩ := hr
  have hcap := hr0.le
  have hcm := hr0.cap
  unfold maxLen at hcm
  have mk : ∀ w, (Instr.makeSlice 30 (.int .i64 256) (.int .i64 256)).run Tryz.prog w = .ok (.slice (some ⟨w.heap.size, 0, none⟩) 256 256) (w.alloc (.cells (madeCells #[.int .u8 0] 256) 5)) := mk_u8 256 (by decide)
  obtain ⟨W0, hW0⟩ : ∃ W0, W0 = (w.alloc (.cells #[.int .i64 0, .int .i64 16, .int .i64 16, .int .i64 16] 145)) := ⟨_, rfl⟩
  obtain ⟨W1, hW1⟩ : ∃ W1, W1 = W0.alloc (.cells (madeCells #[.int .u8 0] 256) 5) := ⟨_, rfl⟩
  have k0 : Keep none_ w W0 := hW0 ▸ (Keep.refl _ _).alloc _
  have k1 : Keep none_ W0 W1 := hW1 ▸ (Keep.refl _ _).alloc _
  have b0 : Blk W0 w.heap.size 145 #[.int .i64 0, .int .i64 16, .int .i64 16, .int .i64 16] := hW0 ▸ Blk.new _ _ _
  have B1 := Lib.hid (b0.keep k1 (fun e => e))
  have D1 := Lib.hid (show ByteBlk W1 W0.heap.size (mixL 256 (0 * 16) 0 z) by rw [Nat.zero_mul, mixL_zero]; exact ByteBlk.made W1 256 _ (hW1 ▸ Blk.new _ _ _))
  have K1 := Lib.hid (k0.trans k1)
  have LT := Lib.hid b0.lt
  have LW := Lib.hid k0.size
  have SR := Lib.hid hsrc
  have BW := Lib.hid (show bs < w.heap.size from by
    have h := hsrc 0 (by decide)
    rcases Nat.lt_or_ge bs w.heap.size with h' | h'
    · exact h'
    · rw [show w.cell? ⟨bs, os + 0, none⟩ = none from by simp [World.cell?, Array.getElem?_eq_none h']] at h
      cases h)
  have HZ := Lib.hid hz
  have y2 : W0.cell? ⟨w.heap.size, 2, none⟩ = some (.int .i64 16) := b0.cell 2
  have y3 : W0.cell? ⟨w.heap.size, 3, none⟩ = some (.int .i64 16) := b0.cell 3
  have z3 : W1.cell? ⟨w.heap.size, 3, none⟩ = some (.int .i64 16) := B1.out.cell 3
  clear k0 k1 b0 hsrc hz hr0
  go_enter Tryz.func86, Tryz.ntmps86
  go_upto_region 1 with (fail)
  rw [← hW0]
  clear hW0
  have HW1 := Lib.hid hW1
  clear hW1
  go_upto_region 2 with (fail)
  rw [← HW1.out]
  clear y2 y3
  obtain ⟨bd, hbd⟩ : ∃ bd, bd = W0.heap.size := ⟨_, rfl⟩
  rw [← hbd] at D1 LT LW ⊢
  clear hbd HW1
  go_wp2_with (fail)
  clear z3
  go_loopw [15] (fun i wr => ∃ k : Nat, k ≤ 16 ∧ i = .int .i64 k ∧ ByteBlk wr bd (mixL 256 (k * 16) 0 z) ∧ Keep (one bd) W1 wr) (fun i _ => 16 - (intOf i).toNat)
  case atStart => exact ⟨0, by decide, rfl, D1.out, Keep.refl _ _⟩
  case round =>
    obtain ⟨k, hk, rfl, hD, hkr⟩ := hrel
    have HD := Lib.hid hD
    have HK := Lib.hid hkr
    clear hD hkr
    by_cases hlt : k < 16
    · have hlt' : (k : Int) < 16 := by omega
      have BA := Lib.hid (B1.out.keep HK.out (fun e => by have := LT.out; unfold one at e; omega))
      have x0 : wr.cell? ⟨w.heap.size, 0, none⟩ = some (.int .i64 0) := BA.out.cell 0
      have x1 : wr.cell? ⟨w.heap.size, 1, none⟩ = some (.int .i64 16) := BA.out.cell 1
      have x2 : wr.cell? ⟨w.heap.size, 2, none⟩ = some (.int .i64 16) := BA.out.cell 2
      have SW := Lib.hid (show ∀ j, j < 256 → wr.cell? ⟨bs, os + j, none⟩ = some (.int .u8 z) from fun j hj => HK.out.cell (K1.out.cell (SR.out j hj) (fun e => e)) (fun e => by have h1 := BW.out; have h2 := LW.out; have e' : bs = bd := e; omega))
      go_upto_region 5 with (fail)
      have e1 : (k : Int) * 16 ≤ ((k : Int) + 1) * 16 := by omega
      have e2 : ((k : Int) + 1) * 16 ≤ 256 := by omega
      have e3 : (0 : Int) + k * 16 ≤ 256 := by omega
      have e4 : ¬ (C : Int) = 0 + k * 16 := by omega
      have e5 : (256 : Int) ≤ 256 := by omega
      have gd := still_good (wr).drew
      have ne := still_some (wr).drew
      have hx := still_at (wr).drew
      refine wp_region_calm (stillCalm (wr).drew) [0, 1, 2, 3, 4, 5, 6, 7, 8, 9, 10, 11, 12, 13, 14, 15, 16, 17, 18, 19] [20] 41 (by kernel_rfl) (by kernel_rfl) rfl gd rfl ?_
      simp only [pairs, List.filterMap_cons, List.filterMap_nil, List.getElem?_toArray, List.getElem?_cons_succ, List.getElem?_cons_zero, Option.map_some]
      repeat (refine Calm.walk_quiet ne rfl rfl rfl (fun K hK => ?_); go_big_quiet_op; refine hK _ ?_; clear hK K)
      intro w' hR _
      obtain rfl : w' = (wr).drew := hR.symm
      simp only [pickOps, List.filterMap_cons, List.filterMap_nil, List.getElem?_toArray, List.getElem?_cons_succ, List.getElem?_cons_zero]
      clear gd ne hx hR
      have hsrc : ∀ j, j < 16 → (wr.drew).cell? ⟨bs, os + k * 16 + j, none⟩ = some (.int .u8 z) := fun j hj => by
        have h := SW.out (0 + k * 16 + j) (by omega)
        first | exact h | (rw [show os + k * 16 + j = os + (0 + k * 16 + j) by omega]; exact h)
      obtain ⟨wc, hcr, hcb, hck⟩ := copy_blk (w := wr.drew) (g := bd) (o := k * 16) (dLen := (k + 1) * 16 - k * 16) (dCap := 256 - k * 16) (sb := bs) (so := os + k * 16) (sLen := 256 - k * 16) (sCap := C - k * 16) (n := 16) (z := z) 3 ⟨HD.out.1.drew, HD.out.2⟩ (by show 16 = min _ _; omega) HZ.out hsrc (by rw [mixL_length (by omega)]; omega)
      rw [mixL_more (by omega)] at hcb
      have CB := Lib.hid (show ByteBlk wc bd (mixL 256 ((k + 1) * 16) 0 z) by rw [Nat.succ_mul]; exact hcb)
      have CK := Lib.hid (show Keep (one bd) W1 wc from HK.out.drew.trans hck)
      refine wpList_copy_is (.tmp 28) (.tmp 37) 30 30 rfl rfl _ _ rfl rfl hcr ?_
      go_frame
      clear hcr hcb hck hsrc
      go_wp2
      go_roundw
      case rel => exact ⟨k + 1, hlt, by go_num, CB.out, CK.out⟩
      case measure => simp [intOf]; omega
    · obtain rfl : k = 16 := by omega
      have GO := Lib.hid (show ByteBlk wr bd (List.replicate 256 z) from by have h := HD.out; rw [show 16 * 16 = 256 by decide, mixL_all] at h; exact h)
      have KO := Lib.hid (show Keep none_ w wr from K1.out.own HK.out LW.out)
      go_wp2
      go_ret
      exact ⟨bd, rfl, GO.out, LW.out, KO.out⟩
set_option maxRecDepth 100000 in
set_option maxHeartbeats 2000000 in
theorem cutB (z : Int) (A : Option Addr) (C : Nat) (w : World) (hr : CstS w none_ 64 z A C) : Calls Tryz.prog 86 #[.slice A 64 C, .agg #[.int .i64 0, .int .i64 8, .int .i64 8, .int .i64 8]] w fun e w' => ∃ b, e = .returned (.slice (some ⟨b, 0, none⟩) 64 64) ∧ ByteBlk w' b (List.replicate 64 z) ∧ w.heap.size ≤ b ∧ Keep none_ w w' := by
  obtain ⟨bs, os, rfl, -, hsrc⟩ := hr.at_ (by decide)
  obtain ⟨hr0, hz⟩ := hr
  have hcap := hr0.le
  have hcm := hr0.cap
  unfold maxLen at hcm
  have mk : ∀ w, (Instr.makeSlice 30 (.int .i64 64) (.int .i64 64)).run Tryz.prog w = .ok (.slice (some ⟨w.heap.size, 0, none⟩) 64 64) (w.alloc (.cells (madeCells #[.int .u8 0] 64) 5)) := mk_u8 64 (by decide)
  obtain ⟨W0, hW0⟩ : ∃ W0, W0 = (w.alloc (.cells #[.int .i64 0, .int .i64 8, .int .i64 8, .int .i64 8] 145)) := ⟨_, rfl⟩
  obtain ⟨W1, hW1⟩ : ∃ W1, W1 = W0.alloc (.cells (madeCells #[.int .u8 0] 64) 5) := ⟨_, rfl⟩
  have k0 : Keep none_ w W0 := hW0 ▸ (Keep.refl _ _).alloc _
  have k1 : Keep none_ W0 W1 := hW1 ▸ (Keep.refl _ _).alloc _
  have b0 : Blk W0 w.heap.size 145 #[.int .i64 0, .int .i64 8, .int .i64 8, .int .i64 8] := hW0 ▸ Blk.new _ _ _
  have B1 := Lib.hid (b0.keep k1 (fun e => e))
  have D1 := Lib.hid (show ByteBlk W1 W0.heap.size (mixL 64 (0 * 8) 0 z) by rw [Nat.zero_mul, mixL_zero]; exact ByteBlk.made W1 64 _ (hW1 ▸ Blk.new _ _ _))
  have K1 := Lib.hid (k0.trans k1)
  have LT := Lib.hid b0.lt
  have LW := Lib.hid k0.size
  have SR := Lib.hid hsrc
  have BW := Lib.hid (show bs < w.heap.size from by
    have h := hsrc 0 (by decide)
    rcases Nat.lt_or_ge bs w.heap.size with h' | h'
    · exact h'
    · rw [show w.cell? ⟨bs, os + 0, none⟩ = none from by simp [World.cell?, Array.getElem?_eq_none h']] at h
      cases h)
  have HZ := Lib.hid hz
  have y2 : W0.cell? ⟨w.heap.size, 2, none⟩ = some (.int .i64 8) := b0.cell 2
  have y3 : W0.cell? ⟨w.heap.size, 3, none⟩ = some (.int .i64 8) := b0.cell 3
  have z3 : W1.cell? ⟨w.heap.size, 3, none⟩ = some (.int .i64 8) := B1.out.cell 3
  clear k0 k1 b0 hsrc hz hr0
  go_enter Tryz.func86, Tryz.ntmps86
  go_upto_region 1 with (fail)
  rw [← hW0]
  clear hW0
  have HW1 := Lib.hid hW1
  clear hW1
  go_upto_region 2 with (fail)
  rw [← HW1.out]
  clear y2 y3
  obtain ⟨bd, hbd⟩ : ∃ bd, bd = W0.heap.size := ⟨_, rfl⟩
  rw [← hbd] at D1 LT LW ⊢
  clear hbd HW1
  go_wp2_with (fail)
  clear z3
  go_loopw [15] (fun i wr => ∃ k : Nat, k ≤ 8 ∧ i = .int .i64 k ∧ ByteBlk wr bd (mixL 64 (k * 8) 0 z) ∧ Keep (one bd) W1 wr) (fun i _ => 8 - (intOf i).toNat)
  case atStart => exact ⟨0, by decide, rfl, D1.out, Keep.refl _ _⟩
  case round =>
    obtain ⟨k, hk, rfl, hD, hkr⟩ := hrel
    have HD := Lib.hid hD
    have HK := Lib.hid hkr
    clear hD hkr
    by_cases hlt : k < 8
    · have hlt' : (k : Int) < 8 := by omega
      have BA := Lib.hid (B1.out.keep HK.out (fun e => by have := LT.out; unfold one at e; omega))
      have x0 : wr.cell? ⟨w.heap.size, 0, none⟩ = some (.int .i64 0) := BA.out.cell 0
      have x1 : wr.cell? ⟨w.heap.size, 1, none⟩ = some (.int .i64 8) := BA.out.cell 1
      have x2 : wr.cell? ⟨w.heap.size, 2, none⟩ = some (.int .i64 8) := BA.out.cell 2
      have SW := Lib.hid (show ∀ j, j < 64 → wr.cell? ⟨bs, os + j, none⟩ = some (.int .u8 z) from fun j hj => HK.out.cell (K1.out.cell (SR.out j hj) (fun e => e)) (fun e => by have h1 := BW.out; have h2 := LW.out; have e' : bs = bd := e; omega))
      go_upto_region 5 with (fail)
      have e1 : (k : Int) * 8 ≤ ((k : Int) + 1) * 8 := by omega
      have e2 : ((k : Int) + 1) * 8 ≤ 64 := by omega
      have e3 : (0 : Int) + k * 8 ≤ 64 := by omega
      have e4 : ¬ (C : Int) = 0 + k * 8 := by omega
      have e5 : (256 : Int) ≤ 256 := by omega
      have gd := still_good (wr).drew
      have ne := still_some (wr).drew
      have hx := still_at (wr).drew
      refine wp_region_calm (stillCalm (wr).drew) [0, 1, 2, 3, 4, 5, 6, 7, 8, 9, 10, 11, 12, 13, 14, 15, 16, 17, 18, 19] [20] 41 (by kernel_rfl) (by kernel_rfl) rfl gd rfl ?_
      simp only [pairs, List.filterMap_cons, List.filterMap_nil, List.getElem?_toArray, List.getElem?_cons_succ, List.getElem?_cons_zero, Option.map_some]
      repeat (refine Calm.walk_quiet ne rfl rfl rfl (fun K hK => ?_); go_big_quiet_op; refine hK _ ?_; clear hK K)
      intro w' hR _
      obtain rfl : w' = (wr).drew := hR.symm
      simp only [pickOps, List.filterMap_cons, List.filterMap_nil, List.getElem?_toArray, List.getElem?_cons_succ, List.getElem?_cons_zero]
      clear gd ne hx hR
      have hsrc : ∀ j, j < 8 → (wr.drew).cell? ⟨bs, os + k * 8 + j, none⟩ = some (.int .u8 z) := fun j hj => by
        have h := SW.out (0 + k * 8 + j) (by omega)
        first | exact h | (rw [show os + k * 8 + j = os + (0 + k * 8 + j) by omega]; exact h)
      obtain ⟨wc, hcr, hcb, hck⟩ := copy_blk (w := wr.drew) (g := bd) (o := k * 8) (dLen := (k + 1) * 8 - k * 8) (dCap := 64 - k * 8) (sb := bs) (so := os + k * 8) (sLen := 64 - k * 8) (sCap := C - k * 8) (n := 8) (z := z) 3 ⟨HD.out.1.drew, HD.out.2⟩ (by show 8 = min _ _; omega) HZ.out hsrc (by rw [mixL_length (by omega)]; omega)
      rw [mixL_more (by omega)] at hcb
      have CB := Lib.hid (show ByteBlk wc bd (mixL 64 ((k + 1) * 8) 0 z) by rw [Nat.succ_mul]; exact hcb)
      have CK := Lib.hid (show Keep (one bd) W1 wc from HK.out.drew.trans hck)
      refine wpList_copy_is (.tmp 28) (.tmp 37) 30 30 rfl rfl _ _ rfl rfl hcr ?_
      go_frame
      clear hcr hcb hck hsrc
      go_wp2
      go_roundw
      case rel => exact ⟨k + 1, hlt, by go_num, CB.out, CK.out⟩
      case measure => simp [intOf]; omega
    · obtain rfl : k = 8 := by omega
      have GO := Lib.hid (show ByteBlk wr bd (List.replicate 64 z) from by have h := HD.out; rw [show 8 * 8 = 64 by decide, mixL_all] at h; exact h)
      have KO := Lib.hid (show Keep none_ w wr from K1.out.own HK.out LW.out)
      go_wp2
      go_ret
      exact ⟨bd, rfl, GO.out, LW.out, KO.out⟩
set_option maxRecDepth 100000 in
set_option maxHeartbeats 2000000 in
theorem cut0 (z : Int) (A : Option Addr) (C : Nat) (w : World) (hr : CstS w none_ 256 z A C) : Calls Tryz.prog 86 #[.slice A 256 C, .agg #[.int .i64 0, .int .i64 16, .int .i64 8, .int .i64 8]] w fun e w' => ∃ b, e = .returned (.slice (some ⟨b, 0, none⟩) 64 64) ∧ ByteBlk w' b (List.replicate 64 z) ∧ w.heap.size ≤ b ∧ Keep none_ w w' := by
  obtain ⟨bs, os, rfl, -, hsrc⟩ := hr.at_ (by decide)
  obtain ⟨hr0, hz⟩ := hr
  have hcap := hr0.le
  have hcm := hr0.cap
  unfold maxLen at hcm
  have mk : ∀ w, (Instr.makeSlice 30 (.int .i64 64) (.int .i64 64)).run Tryz.prog w = .ok (.slice (some ⟨w.heap.size, 0, none⟩) 64 64) (w.alloc (.cells (madeCells #[.int .u8 0] 64) 5)) := mk_u8 64 (by decide)
  obtain ⟨W0, hW0⟩ : ∃ W0, W0 = (w.alloc (.cells #[.int .i64 0, .int .i64 16, .int .i64 8, .int .i64 8] 145)) := ⟨_, rfl⟩
  obtain ⟨W1, hW1⟩ : ∃ W1, W1 = W0.alloc (.cells (madeCells #[.int .u8 0] 64) 5) := ⟨_, rfl⟩
  have k0 : Keep none_ w W0 := hW0 ▸ (Keep.refl _ _).alloc _
  have k1 : Keep none_ W0 W1 := hW1 ▸ (Keep.refl _ _).alloc _
  have b0 : Blk W0 w.heap.size 145 #[.int .i64 0, .int .i64 16, .int .i64 8, .int .i64 8] := hW0 ▸ Blk.new _ _ _
  have B1 := Lib.hid (b0.keep k1 (fun e => e))
  have D1 := Lib.hid (show ByteBlk W1 W0.heap.size (mixL 64 (0 * 8) 0 z) by rw [Nat.zero_mul, mixL_zero]; exact ByteBlk.made W1 64 _ (hW1 ▸ Blk.new _ _ _))
  have K1 := Lib.hid (k0.trans k1)
  have LT := Lib.hid b0.lt
  have LW := Lib.hid k0.size
  have SR := Lib.hid hsrc
  have BW := Lib.hid (show bs < w.heap.size from by
    have h := hsrc 0 (by decide)
    rcases Nat.lt_or_ge bs w.heap.size with h' | h'
    · exact h'
    · rw [show w.cell? ⟨bs, os + 0, none⟩ = none from by simp [World.cell?, Array.getElem?_eq_none h']] at h
      cases h)
  have HZ := Lib.hid hz
  have y2 : W0.cell? ⟨w.heap.size, 2, none⟩ = some (.int .i64 8) := b0.cell 2
  have y3 : W0.cell? ⟨w.heap.size, 3, none⟩ = some (.int .i64 8) := b0.cell 3
  have z3 : W1.cell? ⟨w.heap.size, 3, none⟩ = some (.int .i64 8) := B1.out.cell 3
  clear k0 k1 b0 hsrc hz hr0
  go_enter Tryz.func86, Tryz.ntmps86
  go_upto_region 1 with (fail)
  rw [← hW0]
  clear hW0
  have HW1 := Lib.hid hW1
  clear hW1
  go_upto_region 2 with (fail)
  rw [← HW1.out]
  clear y2 y3
  obtain ⟨bd, hbd⟩ : ∃ bd, bd = W0.heap.size := ⟨_, rfl⟩
  rw [← hbd] at D1 LT LW ⊢
  clear hbd HW1
  go_wp2_with (fail)
  clear z3
  go_loopw [15] (fun i wr => ∃ k : Nat, k ≤ 8 ∧ i = .int .i64 k ∧ ByteBlk wr bd (mixL 64 (k * 8) 0 z) ∧ Keep (one bd) W1 wr) (fun i _ => 8 - (intOf i).toNat)
  case atStart => exact ⟨0, by decide, rfl, D1.out, Keep.refl _ _⟩
  case round =>
    obtain ⟨k, hk, rfl, hD, hkr⟩ := hrel
    have HD := Lib.hid hD
    have HK := Lib.hid hkr
    clear hD hkr
    by_cases hlt : k < 8
    · have hlt' : (k : Int) < 8 := by omega
      have BA := Lib.hid (B1.out.keep HK.out (fun e => by have := LT.out; unfold one at e; omega))
      have x0 : wr.cell? ⟨w.heap.size, 0, none⟩ = some (.int .i64 0) := BA.out.cell 0
      have x1 : wr.cell? ⟨w.heap.size, 1, none⟩ = some (.int .i64 16) := BA.out.cell 1
      have x2 : wr.cell? ⟨w.heap.size, 2, none⟩ = some (.int .i64 8) := BA.out.cell 2
      have SW := Lib.hid (show ∀ j, j < 256 → wr.cell? ⟨bs, os + j, none⟩ = some (.int .u8 z) from fun j hj => HK.out.cell (K1.out.cell (SR.out j hj) (fun e => e)) (fun e => by have h1 := BW.out; have h2 := LW.out; have e' : bs = bd := e; omega))
      go_upto_region 5 with (fail)
      have e1 : (k : Int) * 8 ≤ ((k : Int) + 1) * 8 := by omega
      have e2 : ((k : Int) + 1) * 8 ≤ 64 := by omega
      have e3 : (0 : Int) + k * 16 ≤ 256 := by omega
      have e4 : ¬ (C : Int) = 0 + k * 16 := by omega
      have e5 : (256 : Int) ≤ 256 := by omega
      have gd := still_good (wr).drew
      have ne := still_some (wr).drew
      have hx := still_at (wr).drew
      refine wp_region_calm (stillCalm (wr).drew) [0, 1, 2, 3, 4, 5, 6, 7, 8, 9, 10, 11, 12, 13, 14, 15, 16, 17, 18, 19] [20] 41 (by kernel_rfl) (by kernel_rfl) rfl gd rfl ?_
      simp only [pairs, List.filterMap_cons, List.filterMap_nil, List.getElem?_toArray, List.getElem?_cons_succ, List.getElem?_cons_zero, Option.map_some]
      repeat (refine Calm.walk_quiet ne rfl rfl rfl (fun K hK => ?_); go_big_quiet_op; refine hK _ ?_; clear hK K)
      intro w' hR _
      obtain rfl : w' = (wr).drew := hR.symm
      simp only [pickOps, List.filterMap_cons, List.filterMap_nil, List.getElem?_toArray, List.getElem?_cons_succ, List.getElem?_cons_zero]
      clear gd ne hx hR
      have hsrc : ∀ j, j < 8 → (wr.drew).cell? ⟨bs, os + k * 16 + j, none⟩ = some (.int .u8 z) := fun j hj => by
        have h := SW.out (0 + k * 16 + j) (by omega)
        first | exact h | (rw [show os + k * 16 + j = os + (0 + k * 16 + j) by omega]; exact h)
      obtain ⟨wc, hcr, hcb, hck⟩ := copy_blk (w := wr.drew) (g := bd) (o := k * 8) (dLen := (k + 1) * 8 - k * 8) (dCap := 64 - k * 8) (sb := bs) (so := os + k * 16) (sLen := 256 - k * 16) (sCap := C - k * 16) (n := 8) (z := z) 3 ⟨HD.out.1.drew, HD.out.2⟩ (by show 8 = min _ _; omega) HZ.out hsrc (by rw [mixL_length (by omega)]; omega)
      rw [mixL_more (by omega)] at hcb
      have CB := Lib.hid (show ByteBlk wc bd (mixL 64 ((k + 1) * 8) 0 z) by rw [Nat.succ_mul]; exact hcb)
      have CK := Lib.hid (show Keep (one bd) W1 wc from HK.out.drew.trans hck)
      refine wpList_copy_is (.tmp 28) (.tmp 37) 30 30 rfl rfl _ _ rfl rfl hcr ?_
      go_frame
      clear hcr hcb hck hsrc
      go_wp2
      go_roundw
      case rel => exact ⟨k + 1, hlt, by go_num, CB.out, CK.out⟩
      case measure => simp [intOf]; omega
    · obtain rfl : k = 8 := by omega
      have GO := Lib.hid (show ByteBlk wr bd (List.replicate 64 z) from by have h := HD.out; rw [show 8 * 8 = 64 by decide, mixL_all] at h; exact h)
      have KO := Lib.hid (show Keep none_ w wr from K1.out.own HK.out LW.out)
      go_wp2
      go_ret
      exact ⟨bd, rfl, GO.out, LW.out, KO.out⟩
set_option maxRecDepth 100000 in
set_option maxHeartbeats 2000000 in
theorem cut1 (z : Int) (A : Option Addr) (C : Nat) (w : World) (hr : CstS w none_ 256 z A C) : Calls Tryz.prog 86 #[.slice A 256 C, .agg #[.int .i64 8, .int .i64 16, .int .i64 8, .int .i64 8]] w fun e w' => ∃ b, e = .returned (.slice (some ⟨b, 0, none⟩) 64 64) ∧ ByteBlk w' b (List.replicate 64 z) ∧ w.heap.size ≤ b ∧ Keep none_ w w' := by
  obtain ⟨bs, os, rfl, -, hsrc⟩ := hr.at_ (by decide)
  obtain ⟨hr0, hz⟩ := hr
  have hcap := hr0.le
  have hcm := hr0.cap
  unfold maxLen at hcm
  have mk : ∀ w, (Instr.makeSlice 30 (.int .i64 64) (.int .i64 64)).run Tryz.prog w = .ok (.slice (some ⟨w.heap.size, 0, none⟩) 64 64) (w.alloc (.cells (madeCells #[.int .u8 0] 64) 5)) := mk_u8 64 (by decide)
  obtain ⟨W0, hW0⟩ : ∃ W0, W0 = (w.alloc (.cells #[.int .i64 8, .int .i64 16, .int .i64 8, .int .i64 8] 145)) := ⟨_, rfl⟩
  obtain ⟨W1, hW1⟩ : ∃ W1, W1 = W0.alloc (.cells (madeCells #[.int .u8 0] 64) 5) := ⟨_, rfl⟩
  have k0 : Keep none_ w W0 := hW0 ▸ (Keep.refl _ _).alloc _
  have k1 : Keep none_ W0 W1 := hW1 ▸ (Keep.refl _ _).alloc _
  have b0 : Blk W0 w.heap.size 145 #[.int .i64 8, .int .i64 16, .int .i64 8, .int .i64 8] := hW0 ▸ Blk.new _ _ _
  have B1 := Lib.hid (b0.keep k1 (fun e => e))
  have D1 := Lib.hid (show ByteBlk W1 W0.heap.size (mixL 64 (0 * 8) 0 z) by rw [Nat.zero_mul, mixL_zero]; exact ByteBlk.made W1 64 _ (hW1 ▸ Blk.new _ _ _))
  have K1 := Lib.hid (k0.trans k1)
  have LT := Lib.hid b0.lt
  have LW := Lib.hid k0.size
  have SR := Lib.hid hsrc
  have BW := Lib.hid (show bs < w.heap.size from by
    have h := hsrc 0 (by decide)
    rcases Nat.lt_or_ge bs w.heap.size with h' | h'
    · exact h'
    · rw [show w.cell? ⟨bs, os + 0, none⟩ = none from by simp [World.cell?, Array.getElem?_eq_none h']] at h
      cases h)
  have HZ := Lib.hid hz
  have y2 : W0.cell? ⟨w.heap.size, 2, none⟩ = some (.int .i64 8) := b0.cell 2
  have y3 : W0.cell? ⟨w.heap.size, 3, none⟩ = some (.int .i64 8) := b0.cell 3
  have z3 : W1.cell? ⟨w.heap.size, 3, none⟩ = some (.int .i64 8) := B1.out.cell 3
  clear k0 k1 b0 hsrc hz hr0
  go_enter Tryz.func86, Tryz.ntmps86
  go_upto_region 1 with (fail)
  rw [← hW0]
  clear hW0
  have HW1 := Lib.hid hW1
  clear hW1
  go_upto_region 2 with (fail)
  rw [← HW1.out]
  clear y2 y3
  obtain ⟨bd, hbd⟩ : ∃ bd, bd = W0.heap.size := ⟨_, rfl⟩
  rw [← hbd] at D1 LT LW ⊢
  clear hbd HW1
  go_wp2_with (fail)
  clear z3
  go_loopw [15] (fun i wr => ∃ k : Nat, k ≤ 8 ∧ i = .int .i64 k ∧ ByteBlk wr bd (mixL 64 (k * 8) 0 z) ∧ Keep (one bd) W1 wr) (fun i _ => 8 - (intOf i).toNat)
  case atStart => exact ⟨0, by decide, rfl, D1.out, Keep.refl _ _⟩
  case round =>
    obtain ⟨k, hk, rfl, hD, hkr⟩ := hrel
    have HD := Lib.hid hD
    have HK := Lib.hid hkr
    clear hD hkr
    by_cases hlt : k < 8
    · have hlt' : (k : Int) < 8 := by omega
      have BA := Lib.hid (B1.out.keep HK.out (fun e => by have := LT.out; unfold one at e; omega))
      have x0 : wr.cell? ⟨w.heap.size, 0, none⟩ = some (.int .i64 8) := BA.out.cell 0
      have x1 : wr.cell? ⟨w.heap.size, 1, none⟩ = some (.int .i64 16) := BA.out.cell 1
      have x2 : wr.cell? ⟨w.heap.size, 2, none⟩ = some (.int .i64 8) := BA.out.cell 2
      have SW := Lib.hid (show ∀ j, j < 256 → wr.cell? ⟨bs, os + j, none⟩ = some (.int .u8 z) from fun j hj => HK.out.cell (K1.out.cell (SR.out j hj) (fun e => e)) (fun e => by have h1 := BW.out; have h2 := LW.out; have e' : bs = bd := e; omega))
      go_upto_region 5 with (fail)
      have e1 : (k : Int) * 8 ≤ ((k : Int) + 1) * 8 := by omega
      have e2 : ((k : Int) + 1) * 8 ≤ 64 := by omega
      have e3 : (8 : Int) + k * 16 ≤ 256 := by omega
      have e4 : ¬ (C : Int) = 8 + k * 16 := by omega
      have e5 : (256 : Int) ≤ 256 := by omega
      have gd := still_good (wr).drew
      have ne := still_some (wr).drew
      have hx := still_at (wr).drew
      refine wp_region_calm (stillCalm (wr).drew) [0, 1, 2, 3, 4, 5, 6, 7, 8, 9, 10, 11, 12, 13, 14, 15, 16, 17, 18, 19] [20] 41 (by kernel_rfl) (by kernel_rfl) rfl gd rfl ?_
      simp only [pairs, List.filterMap_cons, List.filterMap_nil, List.getElem?_toArray, List.getElem?_cons_succ, List.getElem?_cons_zero, Option.map_some]
      repeat (refine Calm.walk_quiet ne rfl rfl rfl (fun K hK => ?_); go_big_quiet_op; refine hK _ ?_; clear hK K)
      intro w' hR _
      obtain rfl : w' = (wr).drew := hR.symm
      simp only [pickOps, List.filterMap_cons, List.filterMap_nil, List.getElem?_toArray, List.getElem?_cons_succ, List.getElem?_cons_zero]
      clear gd ne hx hR
      have hsrc : ∀ j, j < 8 → (wr.drew).cell? ⟨bs, os + (8 + k * 16) + j, none⟩ = some (.int .u8 z) := fun j hj => by
        have h := SW.out (8 + k * 16 + j) (by omega)
        first | exact h | (rw [show os + (8 + k * 16) + j = os + (8 + k * 16 + j) by omega]; exact h)
      obtain ⟨wc, hcr, hcb, hck⟩ := copy_blk (w := wr.drew) (g := bd) (o := k * 8) (dLen := (k + 1) * 8 - k * 8) (dCap := 64 - k * 8) (sb := bs) (so := os + (8 + k * 16)) (sLen := 256 - (8 + k * 16)) (sCap := C - (8 + k * 16)) (n := 8) (z := z) 3 ⟨HD.out.1.drew, HD.out.2⟩ (by show 8 = min _ _; omega) HZ.out hsrc (by rw [mixL_length (by omega)]; omega)
      rw [mixL_more (by omega)] at hcb
      have CB := Lib.hid (show ByteBlk wc bd (mixL 64 ((k + 1) * 8) 0 z) by rw [Nat.succ_mul]; exact hcb)
      have CK := Lib.hid (show Keep (one bd) W1 wc from HK.out.drew.trans hck)
      refine wpList_copy_is (.tmp 28) (.tmp 37) 30 30 rfl rfl _ _ rfl rfl hcr ?_
      go_frame
      clear hcr hcb hck hsrc
      go_wp2
      go_roundw
      case rel => exact ⟨k + 1, hlt, by go_num, CB.out, CK.out⟩
      case measure => simp [intOf]; omega
    · obtain rfl : k = 8 := by omega
      have GO := Lib.hid (show ByteBlk wr bd (List.replicate 64 z) from by have h := HD.out; rw [show 8 * 8 = 64 by decide, mixL_all] at h; exact h)
      have KO := Lib.hid (show Keep none_ w wr from K1.out.own HK.out LW.out)
      go_wp2
      go_ret
      exact ⟨bd, rfl, GO.out, LW.out, KO.out⟩
set_option maxRecDepth 100000 in
set_option maxHeartbeats 2000000 in
theorem cut2 (z : Int) (A : Option Addr) (C : Nat) (w : World) (hr : CstS w none_ 256 z A C) : Calls Tryz.prog 86 #[.slice A 256 C, .agg #[.int .i64 128, .int .i64 16, .int .i64 8, .int .i64 8]] w fun e w' => ∃ b, e = .returned (.slice (some ⟨b, 0, none⟩) 64 64) ∧ ByteBlk w' b (List.replicate 64 z) ∧ w.heap.size ≤ b ∧ Keep none_ w w' := by
  obtain ⟨bs, os, rfl, -, hsrc⟩ := hr.at_ (by decide)
  obtain ⟨hr0, hz⟩ := hr
  have hcap := hr0.le
  have hcm := hr0.cap
  unfold maxLen at hcm
  have mk : ∀ w, (Instr.makeSlice 30 (.int .i64 64) (.int .i64 64)).run Tryz.prog w = .ok (.slice (some ⟨w.heap.size, 0, none⟩) 64 64) (w.alloc (.cells (madeCells #[.int .u8 0] 64) 5)) := mk_u8 64 (by decide)
  obtain ⟨W0, hW0⟩ : ∃ W0, W0 = (w.alloc (.cells #[.int .i64 128, .int .i64 16, .int .i64 8, .int .i64 8] 145)) := ⟨_, rfl⟩
  obtain ⟨W1, hW1⟩ : ∃ W1, W1 = W0.alloc (.cells (madeCells #[.int .u8 0] 64) 5) := ⟨_, rfl⟩
  have k0 : Keep none_ w W0 := hW0 ▸ (Keep.refl _ _).alloc _
  have k1 : Keep none_ W0 W1 := hW1 ▸ (Keep.refl _ _).alloc _
  have b0 : Blk W0 w.heap.size 145 #[.int .i64 128, .int .i64 16, .int .i64 8, .int .i64 8] := hW0 ▸ Blk.new _ _ _
  have B1 := Lib.hid (b0.keep k1 (fun e => e))
  have D1 := Lib.hid (show ByteBlk W1 W0.heap.size (mixL 64 (0 * 8) 0 z) by rw [Nat.zero_mul, mixL_zero]; exact ByteBlk.made W1 64 _ (hW1 ▸ Blk.new _ _ _))
  have K1 := Lib.hid (k0.trans k1)
  have LT := Lib.hid b0.lt
  have LW := Lib.hid k0.size
  have SR := Lib.hid hsrc
  have BW := Lib.hid (show bs < w.heap.size from by
    have h := hsrc 0 (by decide)
    rcases Nat.lt_or_ge bs w.heap.size with h' | h'
    · exact h'
    · rw [show w.cell? ⟨bs, os + 0, none⟩ = none from by simp [World.cell?, Array.getElem?_eq_none h']] at h
      cases h)
  have HZ := Lib.hid hz
  have y2 : W0.cell? ⟨w.heap.size, 2, none⟩ = some (.int .i64 8) := b0.cell 2
  have y3 : W0.cell? ⟨w.heap.size, 3, none⟩ = some (.int .i64 8) := b0.cell 3
  have z3 : W1.cell? ⟨w.heap.size, 3, none⟩ = some (.int .i64 8) := B1.out.cell 3
  clear k0 k1 b0 hsrc hz hr0
  go_enter Tryz.func86, Tryz.ntmps86
  go_upto_region 1 with (fail)
  rw [← hW0]
  clear hW0
  have HW1 := Lib.hid hW1
  clear hW1
  go_upto_region 2 with (fail)
  rw [← HW1.out]
  clear y2 y3
  obtain ⟨bd, hbd⟩ : ∃ bd, bd = W0.heap.size := ⟨_, rfl⟩
  rw [← hbd] at D1 LT LW ⊢
  clear hbd HW1
  go_wp2_with (fail)
  clear z3
  go_loopw [15] (fun i wr => ∃ k : Nat, k ≤ 8 ∧ i = .int .i64 k ∧ ByteBlk wr bd (mixL 64 (k * 8) 0 z) ∧ Keep (one bd) W1 wr) (fun i _ => 8 - (intOf i).toNat)
  case atStart => exact ⟨0, by decide, rfl, D1.out, Keep.refl _ _⟩
  case round =>
    obtain ⟨k, hk, rfl, hD, hkr⟩ := hrel
    have HD := Lib.hid hD
    have HK := Lib.hid hkr
    clear hD hkr
    by_cases hlt : k < 8
    · have hlt' : (k : Int) < 8 := by omega
      have BA := Lib.hid (B1.out.keep HK.out (fun e => by have := LT.out; unfold one at e; omega))
      have x0 : wr.cell? ⟨w.heap.size, 0, none⟩ = some (.int .i64 128) := BA.out.cell 0
      have x1 : wr.cell? ⟨w.heap.size, 1, none⟩ = some (.int .i64 16) := BA.out.cell 1
      have x2 : wr.cell? ⟨w.heap.size, 2, none⟩ = some (.int .i64 8) := BA.out.cell 2
      have SW := Lib.hid (show ∀ j, j < 256 → wr.cell? ⟨bs, os + j, none⟩ = some (.int .u8 z) from fun j hj => HK.out.cell (K1.out.cell (SR.out j hj) (fun e => e)) (fun e => by have h1 := BW.out; have h2 := LW.out; have e' : bs = bd := e; omega))
      go_upto_region 5 with (fail)
      have e1 : (k : Int) * 8 ≤ ((k : Int) + 1) * 8 := by omega
      have e2 : ((k : Int) + 1) * 8 ≤ 64 := by omega
      have e3 : (128 : Int) + k * 16 ≤ 256 := by omega
      have e4 : ¬ (C : Int) = 128 + k * 16 := by omega
      have e5 : (256 : Int) ≤ 256 := by omega
      have gd := still_good (wr).drew
      have ne := still_some (wr).drew
      have hx := still_at (wr).drew
      refine wp_region_calm (stillCalm (wr).drew) [0, 1, 2, 3, 4, 5, 6, 7, 8, 9, 10, 11, 12, 13, 14, 15, 16, 17, 18, 19] [20] 41 (by kernel_rfl) (by kernel_rfl) rfl gd rfl ?_
      simp only [pairs, List.filterMap_cons, List.filterMap_nil, List.getElem?_toArray, List.getElem?_cons_succ, List.getElem?_cons_zero, Option.map_some]
      repeat (refine Calm.walk_quiet ne rfl rfl rfl (fun K hK => ?_); go_big_quiet_op; refine hK _ ?_; clear hK K)
      intro w' hR _
      obtain rfl : w' = (wr).drew := hR.symm
      simp only [pickOps, List.filterMap_cons, List.filterMap_nil, List.getElem?_toArray, List.getElem?_cons_succ, List.getElem?_cons_zero]
      clear gd ne hx hR
      have hsrc : ∀ j, j < 8 → (wr.drew).cell? ⟨bs, os + (128 + k * 16) + j, none⟩ = some (.int .u8 z) := fun j hj => by
        have h := SW.out (128 + k * 16 + j) (by omega)
        first | exact h | (rw [show os + (128 + k * 16) + j = os + (128 + k * 16 + j) by omega]; exact h)
      obtain ⟨wc, hcr, hcb, hck⟩ := copy_blk (w := wr.drew) (g := bd) (o := k * 8) (dLen := (k + 1) * 8 - k * 8) (dCap := 64 - k * 8) (sb := bs) (so := os + (128 + k * 16)) (sLen := 256 - (128 + k * 16)) (sCap := C - (128 + k * 16)) (n := 8) (z := z) 3 ⟨HD.out.1.drew, HD.out.2⟩ (by show 8 = min _ _; omega) HZ.out hsrc (by rw [mixL_length (by omega)]; omega)
      rw [mixL_more (by omega)] at hcb
      have CB := Lib.hid (show ByteBlk wc bd (mixL 64 ((k + 1) * 8) 0 z) by rw [Nat.succ_mul]; exact hcb)
      have CK := Lib.hid (show Keep (one bd) W1 wc from HK.out.drew.trans hck)
      refine wpList_copy_is (.tmp 28) (.tmp 37) 30 30 rfl rfl _ _ rfl rfl hcr ?_
      go_frame
      clear hcr hcb hck hsrc
      go_wp2
      go_roundw
      case rel => exact ⟨k + 1, hlt, by go_num, CB.out, CK.out⟩
      case measure => simp [intOf]; omega
    · obtain rfl : k = 8 := by omega
      have GO := Lib.hid (show ByteBlk wr bd (List.replicate 64 z) from by have h := HD.out; rw [show 8 * 8 = 64 by decide, mixL_all] at h; exact h)
      have KO := Lib.hid (show Keep none_ w wr from K1.out.own HK.out LW.out)
      go_wp2
      go_ret
      exact ⟨bd, rfl, GO.out, LW.out, KO.out⟩
set_option maxRecDepth 100000 in
set_option maxHeartbeats 2000000 in
theorem cut3 (z : Int) (A : Option Addr) (C : Nat) (w : World) (hr : CstS w none_ 256 z A C) : Calls Tryz.prog 86 #[.slice A 256 C, .agg #[.int .i64 136, .int .i64 16, .int .i64 8, .int .i64 8]] w fun e w' => ∃ b, e = .returned (.slice (some ⟨b, 0, none⟩) 64 64) ∧ ByteBlk w' b (List.replicate 64 z) ∧ w.heap.size ≤ b ∧ Keep none_ w w' := by
  obtain ⟨bs, os, rfl, -, hsrc⟩ := hr.at_ (by decide)
  obtain ⟨hr0, hz⟩ := hr
  have hcap := hr0.le
  have hcm := hr0.cap
  unfold maxLen at hcm
  have mk : ∀ w, (Instr.makeSlice 30 (.int .i64 64) (.int .i64 64)).run Tryz.prog w = .ok (.slice (some ⟨w.heap.size, 0, none⟩) 64 64) (w.alloc (.cells (madeCells #[.int .u8 0] 64) 5)) := mk_u8 64 (by decide)
  obtain ⟨W0, hW0⟩ : ∃ W0, W0 = (w.alloc (.cells #[.int .i64 136, .int .i64 16, .int .i64 8, .int .i64 8] 145)) := ⟨_, rfl⟩
  obtain ⟨W1, hW1⟩ : ∃ W1, W1 = W0.alloc (.cells (madeCells #[.int .u8 0] 64) 5) := ⟨_, rfl⟩
  have k0 : Keep none_ w W0 := hW0 ▸ (Keep.refl _ _).alloc _
  have k1 : Keep none_ W0 W1 := hW1 ▸ (Keep.refl _ _).alloc _
  have b0 : Blk W0 w.heap.size 145 #[.int .i64 136, .int .i64 16, .int .i64 8, .int .i64 8] := hW0 ▸ Blk.new _ _ _
  have B1 := Lib.hid (b0.keep k1 (fun e => e))
  have D1 := Lib.hid (show ByteBlk W1 W0.heap.size (mixL 64 (0 * 8) 0 z) by rw [Nat.zero_mul, mixL_zero]; exact ByteBlk.made W1 64 _ (hW1 ▸ Blk.new _ _ _))
  have K1 := Lib.hid (k0.trans k1)
  have LT := Lib.hid b0.lt
  have LW := Lib.hid k0.size
  have SR := Lib.hid hsrc
  have BW := Lib.hid (show bs < w.heap.size from by
    have h := hsrc 0 (by decide)
    rcases Nat.lt_or_ge bs w.heap.size with h' | h'
    · exact h'
    · rw [show w.cell? ⟨bs, os + 0, none⟩ = none from by simp [World.cell?, Array.getElem?_eq_none h']] at h
      cases h)
  have HZ := Lib.hid hz
  have y2 : W0.cell? ⟨w.heap.size, 2, none⟩ = some (.int .i64 8) := b0.cell 2
  have y3 : W0.cell? ⟨w.heap.size, 3, none⟩ = some (.int .i64 8) := b0.cell 3
  have z3 : W1.cell? ⟨w.heap.size, 3, none⟩ = some (.int .i64 8) := B1.out.cell 3
  clear k0 k1 b0 hsrc hz hr0
  go_enter Tryz.func86, Tryz.ntmps86
  go_upto_region 1 with (fail)
  rw [← hW0]
  clear hW0
  have HW1 := Lib.hid hW1
  clear hW1
  go_upto_region 2 with (fail)
  rw [← HW1.out]
  clear y2 y3
  obtain ⟨bd, hbd⟩ : ∃ bd, bd = W0.heap.size := ⟨_, rfl⟩
  rw [← hbd] at D1 LT LW ⊢
  clear hbd HW1
  go_wp2_with (fail)
  clear z3
  go_loopw [15] (fun i wr => ∃ k : Nat, k ≤ 8 ∧ i = .int .i64 k ∧ ByteBlk wr bd (mixL 64 (k * 8) 0 z) ∧ Keep (one bd) W1 wr) (fun i _ => 8 - (intOf i).toNat)
  case atStart => exact ⟨0, by decide, rfl, D1.out, Keep.refl _ _⟩
  case round =>
    obtain ⟨k, hk, rfl, hD, hkr⟩ := hrel
    have HD := Lib.hid hD
    have HK := Lib.hid hkr
    clear hD hkr
    by_cases hlt : k < 8
    · have hlt' : (k : Int) < 8 := by omega
      have BA := Lib.hid (B1.out.keep HK.out (fun e => by have := LT.out; unfold one at e; omega))
      have x0 : wr.cell? ⟨w.heap.size, 0, none⟩ = some (.int .i64 136) := BA.out.cell 0
      have x1 : wr.cell? ⟨w.heap.size, 1, none⟩ = some (.int .i64 16) := BA.out.cell 1
      have x2 : wr.cell? ⟨w.heap.size, 2, none⟩ = some (.int .i64 8) := BA.out.cell 2
      have SW := Lib.hid (show ∀ j, j < 256 → wr.cell? ⟨bs, os + j, none⟩ = some (.int .u8 z) from fun j hj => HK.out.cell (K1.out.cell (SR.out j hj) (fun e => e)) (fun e => by have h1 := BW.out; have h2 := LW.out; have e' : bs = bd := e; omega))
      go_upto_region 5 with (fail)
      have e1 : (k : Int) * 8 ≤ ((k : Int) + 1) * 8 := by omega
      have e2 : ((k : Int) + 1) * 8 ≤ 64 := by omega
      have e3 : (136 : Int) + k * 16 ≤ 256 := by omega
      have e4 : ¬ (C : Int) = 136 + k * 16 := by omega
      have e5 : (256 : Int) ≤ 256 := by omega
      have gd := still_good (wr).drew
      have ne := still_some (wr).drew
      have hx := still_at (wr).drew
      refine wp_region_calm (stillCalm (wr).drew) [0, 1, 2, 3, 4, 5, 6, 7, 8, 9, 10, 11, 12, 13, 14, 15, 16, 17, 18, 19] [20] 41 (by kernel_rfl) (by kernel_rfl) rfl gd rfl ?_
      simp only [pairs, List.filterMap_cons, List.filterMap_nil, List.getElem?_toArray, List.getElem?_cons_succ, List.getElem?_cons_zero, Option.map_some]
      repeat (refine Calm.walk_quiet ne rfl rfl rfl (fun K hK => ?_); go_big_quiet_op; refine hK _ ?_; clear hK K)
      intro w' hR _
      obtain rfl : w' = (wr).drew := hR.symm
      simp only [pickOps, List.filterMap_cons, List.filterMap_nil, List.getElem?_toArray, List.getElem?_cons_succ, List.getElem?_cons_zero]
      clear gd ne hx hR
      have hsrc : ∀ j, j < 8 → (wr.drew).cell? ⟨bs, os + (136 + k * 16) + j, none⟩ = some (.int .u8 z) := fun j hj => by
        have h := SW.out (136 + k * 16 + j) (by omega)
        first | exact h | (rw [show os + (136 + k * 16) + j = os + (136 + k * 16 + j) by omega]; exact h)
      obtain ⟨wc, hcr, hcb, hck⟩ := copy_blk (w := wr.drew) (g := bd) (o := k * 8) (dLen := (k + 1) * 8 - k * 8) (dCap := 64 - k * 8) (sb := bs) (so := os + (136 + k * 16)) (sLen := 256 - (136 + k * 16)) (sCap := C - (136 + k * 16)) (n := 8) (z := z) 3 ⟨HD.out.1.drew, HD.out.2⟩ (by show 8 = min _ _; omega) HZ.out hsrc (by rw [mixL_length (by omega)]; omega)
      rw [mixL_more (by omega)] at hcb
      have CB := Lib.hid (show ByteBlk wc bd (mixL 64 ((k + 1) * 8) 0 z) by rw [Nat.succ_mul]; exact hcb)
      have CK := Lib.hid (show Keep (one bd) W1 wc from HK.out.drew.trans hck)
      refine wpList_copy_is (.tmp 28) (.tmp 37) 30 30 rfl rfl _ _ rfl rfl hcr ?_
      go_frame
      clear hcr hcb hck hsrc
      go_wp2
      go_roundw
      case rel => exact ⟨k + 1, hlt, by go_num, CB.out, CK.out⟩
      case measure => simp [intOf]; omega
    · obtain rfl : k = 8 := by omega
      have GO := Lib.hid (show ByteBlk wr bd (List.replicate 64 z) from by have h := HD.out; rw [show 8 * 8 = 64 by decide, mixL_all] at h; exact h)
      have KO := Lib.hid (show Keep none_ w wr from K1.out.own HK.out LW.out)
      go_wp2
      go_ret
      exact ⟨bd, rfl, GO.out, LW.out, KO.out⟩
end Go.Proofs.YtebdgoikmclflaaGreatDoor
