/-
  picture.Decode of a coded picture without slices.
-/
import Derived.Test.YtebdgoikmclflaaGreatDoorEb40
import Derived.WalkMore
namespace Go.Proofs.YtebdgoikmclflaaGreatDoor
open Go.RowKit
/-- A coded picture without slices. -/
def cod0 : Array Value := #[.int .i64 1, .int .i64 3, .int .i64 0, .bool true, .bool false, .bool false, .slice none 0 0, .slice none 0 0]

set_option maxRecDepth 100000 in
set_option maxHeartbeats 1000000 in
theorem context_pl (w : World) : Calls Tryz.prog 48 #[.agg plV, .agg plP, .bool false] w fun e w' => e = .returned (.agg #[.int .i64 1, .int .i64 3, .bool false, .bool false]) ∧ Keep none_ w w' := by
  obtain ⟨W0, hW0⟩ : ∃ W0, W0 = ((w.alloc (.cells plV 26)).alloc (.cells plP 35)).alloc (.cells #[.int .i64 0, .int .i64 0, .bool false, .bool false] 63) := ⟨_, rfl⟩
  obtain ⟨s0, p0, r0, k0⟩ := three (Keep.eq_ hW0)
  have x4 : W0.cell? ⟨w.heap.size, 4, none⟩ = some (.bool false) := by rw [s0.cell]; kernel_rfl
  have y0 : W0.cell? ⟨w.heap.size + 1, 0, none⟩ = some (.int .i64 1) := p0.cell 0
  have y1 : W0.cell? ⟨w.heap.size + 1, 1, none⟩ = some (.int .i64 3) := p0.cell 1
  have R0 := Lib.hid r0
  have K0 := Lib.hid k0
  go_enter Tryz.func48, Tryz.ntmps48
  go_upto_region 1 with (fail)
  rw [← hW0]
  clear hW0 s0 p0 r0 k0
  have tk1 : True := trivial
  have tk2 : True := trivial
  go_wp2_with (first | (have _t := tk1; refine wpList_build_is 63 _ rfl rfl #[.int .i64 1, .int .i64 3, .bool false, .bool false] (by kernel_rfl) ?_; go_frame; clear _t tk1) | (have _t := tk2; refine wpList_store_blk rfl 63 (.tmp 6) (.tmp 14) rfl (w.heap.size + 1 + 1) 63 _ (#[.int .i64 1, .int .i64 3, .bool false, .bool false]) rfl rfl (R0.out) (rfl) (by kernel_rfl) (by kernel_rfl) ?_; intro w2 B2_ K2_ sz_; have B2 := Lib.hid B2_; have K2 := Lib.hid K2_; clear B2_ K2_ sz_; go_frame; clear _t tk2))
  refine bodyPost_ret (results_cell Tryz.results48 rfl (run_loadVar_blk B2.out Tryz.underlying63 rfl (by kernel_rfl))) rfl ⟨rfl, K0.out.own K2.out (by omega)⟩
set_option maxRecDepth 100000 in
set_option maxHeartbeats 1000000 in
theorem missing0 (n m : Int) (w : World) : Calls Tryz.prog 69 #[.agg zeroFrame, .int .i64 n, .int .i64 m] w fun e w' => e = .returned (.bool true) ∧ Keep none_ w w' := by
  obtain ⟨W0, hW0⟩ : ∃ W0, W0 = w.alloc (.cells zeroFrame 32) := ⟨_, rfl⟩
  have k0 : Keep none_ w W0 := hW0 ▸ (Keep.refl _ _).alloc _
  have p0 : Blk W0 w.heap.size 32 zeroFrame := hW0 ▸ Blk.new _ _ _
  have y0 : W0.cell? ⟨w.heap.size, 0, none⟩ = some (.int .i64 0) := p0.cell 0
  go_enter Tryz.func69, Tryz.ntmps69
  go_upto_region 1 with (fail)
  rw [← hW0]
  clear hW0 p0
  go_wp2
  go_ret
  exact ⟨rfl, k0⟩
set_option maxRecDepth 100000 in
set_option maxHeartbeats 4000000 in
theorem decodable_pl (w : World) : Calls Tryz.prog 42 #[.agg plV, .agg plP, .agg rfV, .bool false] w fun e w' => e = .returned (.int .i64 0) ∧ Keep none_ w w' := by
  obtain ⟨W0, hW0⟩ : ∃ W0, W0 = ((w.alloc (.cells plV 26)).alloc (.cells plP 35)).alloc (.cells rfV 45) := ⟨_, rfl⟩
  obtain ⟨s0, p0, r0, k0⟩ := three (Keep.eq_ hW0)
  have S0 := Lib.hid s0
  have P0 := Lib.hid p0
  have R0 := Lib.hid r0
  have K0 := Lib.hid k0
  clear s0 p0 r0 k0
  go_enter Tryz.func42, Tryz.ntmps42
  go_upto_region 1 with (fail)
  rw [← hW0]
  clear hW0
  have tk3 : True := trivial
  have tk4 : True := trivial
  have tk5 : True := trivial
  go_upto_region 3 with (first | (have _t := tk3; refine wpList_load_part 26 (.tmp 4) rfl rfl (w.heap.size) (0) rfl (plV) _ (S0.out.rangeAt) Tryz.underlying26 rfl (by rw [plV_size]; kernel_rfl) ?_; go_frame; clear _t tk3) | (have _t := tk4; refine wpList_load_part 35 (.tmp 5) rfl rfl (w.heap.size + 1) (0) rfl (plP) _ (P0.out.rangeAt) Tryz.underlying35 rfl (by kernel_rfl) ?_; go_frame; clear _t tk4) | (have _t := tk5; go_at_call 68; refine (fits_pl _).mono ?_; rintro e w1 ⟨rfl, k⟩; have S1 := Lib.hid (S0.out.keep k (fun e => e)); have P1 := Lib.hid (P0.out.keep k (fun e => e)); have R1 := Lib.hid (R0.out.keep k (fun e => e)); have K1 := Lib.hid (K0.out.trans k); clear k; clear _t tk5))
  have x0 : w1.cell? ⟨w.heap.size, 0, none⟩ = some (.int .i64 16) := by rw [S1.out.cell]; kernel_rfl
  have x1 : w1.cell? ⟨w.heap.size, 1, none⟩ = some (.int .i64 16) := by rw [S1.out.cell]; kernel_rfl
  have tk6 : True := trivial
  have tk7 : True := trivial
  have tk8 : True := trivial
  have tk9 : True := trivial
  have tk10 : True := trivial
  have tk11 : True := trivial
  go_upto_region 5 with (first | (have _t := tk6; refine wpList_load_part 32 (.tmp 14) rfl rfl (w.heap.size + 1 + 1) (0) rfl (zeroFrame) _ (R1.out.sub 0 zeroFrame.toList (by kernel_rfl)) Tryz.underlying32 rfl (by kernel_rfl) ?_; go_frame; clear _t tk6) | (have _t := tk7; go_at_call 69; refine (missing0 _ _ _).mono ?_; rintro e w2 ⟨rfl, k⟩; have y0 : w2.cell? ⟨w.heap.size, 0, none⟩ = some (.int .i64 16) := k.cell x0 (fun e => e); have y1 : w2.cell? ⟨w.heap.size, 1, none⟩ = some (.int .i64 16) := k.cell x1 (fun e => e); have P2 := Lib.hid (P1.out.keep k (fun e => e)); have R2 := Lib.hid (R1.out.keep k (fun e => e)); have K2 := Lib.hid (K1.out.trans k); clear k; clear _t tk7) | (have _t := tk8; refine wpList_load_part 32 (.tmp 23) rfl rfl (w.heap.size + 1 + 1) (5) rfl (zeroFrame) _ (R2.out.sub 5 zeroFrame.toList (by kernel_rfl)) Tryz.underlying32 rfl (by kernel_rfl) ?_; go_frame; clear _t tk8) | (have _t := tk9; go_at_call 69; refine (missing0 _ _ _).mono ?_; rintro e w3 ⟨rfl, k⟩; have z0 : w3.cell? ⟨w.heap.size, 0, none⟩ = some (.int .i64 16) := k.cell y0 (fun e => e); have z1 : w3.cell? ⟨w.heap.size, 1, none⟩ = some (.int .i64 16) := k.cell y1 (fun e => e); have P3 := Lib.hid (P2.out.keep k (fun e => e)); have R3 := Lib.hid (R2.out.keep k (fun e => e)); have K3 := Lib.hid (K2.out.trans k); clear k; clear _t tk9) | (have _t := tk10; refine wpList_load_part 32 (.tmp 33) rfl rfl (w.heap.size + 1 + 1) (10) rfl (zeroFrame) _ (R3.out.sub 10 zeroFrame.toList (by kernel_rfl)) Tryz.underlying32 rfl (by kernel_rfl) ?_; go_frame; clear _t tk10) | (have _t := tk11; go_at_call 69; refine (missing0 _ _ _).mono ?_; rintro e w4 ⟨rfl, k⟩; have P4 := Lib.hid (P3.out.keep k (fun e => e)); have R4 := Lib.hid (R3.out.keep k (fun e => e)); have K4 := Lib.hid (K3.out.trans k); clear k; clear _t tk11))
  have p4 : w4.cell? ⟨w.heap.size + 1, 0, none⟩ = some (.int .i64 1) := P4.out.cell 0
  go_wp2
  go_ret
  exact ⟨rfl, K4.out⟩
set_option maxRecDepth 100000 in
set_option maxHeartbeats 4000000 in
theorem concealment_pl (w : World) : Calls Tryz.prog 43 #[.agg plV, .agg plP, .agg zeroFrame] w fun e w' => ∃ d1 d2 d3, e = .returned (.tuple #[.agg (frV d1 d2 d3), .int .i64 0]) ∧ NewFr w' w.heap.size 128 d1 d2 d3 ∧ Keep none_ w w' := by
  obtain ⟨Wa, hWa⟩ : ∃ Wa, Wa = ((w.alloc (.cells plV 26)).alloc (.cells plP 35)).alloc (.cells zeroFrame 32) := ⟨_, rfl⟩
  obtain ⟨W0, hW0⟩ : ∃ W0, W0 = Wa.alloc (.cells #[.int .i64 0, .int .i64 0, .slice none 0 0, .slice none 0 0, .slice none 0 0] 32) := ⟨_, rfl⟩
  obtain ⟨s0, p0, f0, ka⟩ := three (Keep.eq_ hWa)
  have sz : Wa.heap.size = w.heap.size + 1 + 1 + 1 := by rw [hWa]; simp
  have kb : Keep none_ Wa W0 := hW0 ▸ (Keep.refl _ _).alloc _
  have S0 := Lib.hid (s0.keep kb (fun e => e))
  have P0 := Lib.hid (p0.keep kb (fun e => e))
  have f00 := (f0.keep kb (fun e => e)).cell 0
  have R0 := Lib.hid (show Blk W0 (w.heap.size + 1 + 1 + 1) 32 #[.int .i64 0, .int .i64 0, .slice none 0 0, .slice none 0 0, .slice none 0 0] from sz ▸ hW0 ▸ Blk.new _ _ _)
  have K0 := Lib.hid (ka.trans kb)
  have LW := Lib.hid (show w.heap.size + 1 + 1 + 1 < W0.heap.size from (show Blk _ _ _ _ from R0.out).lt)
  have y0 : W0.cell? ⟨w.heap.size + 1 + 1, 0, none⟩ = some (.int .i64 0) := f00
  rw [hWa] at hW0
  clear s0 p0 f0 ka kb sz hWa f00
  go_enter Tryz.func43, Tryz.ntmps43
  go_upto_region 1 with (fail)
  rw [← hW0]
  clear hW0
  go_upto_region 2 with (fail)
  obtain ⟨X4, S4, H4⟩ : ∃ X : List Value → Value → World → Prop, (∀ vs v w w', X vs v w → Keep none_ w w' → X vs v w') ∧ ∀ vs v w, X vs v w ↔ (v = .int .i64 16) := ⟨fun vs v w => v = .int .i64 16, fun vs v w w' h k => by first | exact h | exact h, fun _ _ _ => Iff.rfl⟩
  obtain ⟨X5, S5, H5⟩ : ∃ X : List Value → Value → World → Prop, (∀ vs v w w', X vs v w → Keep none_ w w' → X vs v w') ∧ ∀ vs v w, X vs v w ↔ (FrE W0.heap.size 128 v w) := ⟨fun vs v w => FrE W0.heap.size 128 v w, fun vs v w w' h k => by first | exact h | exact FrE.keep h k, fun _ _ _ => Iff.rfl⟩
  have gd := pureCalm_good (W0) [⟨4, X4, S4⟩, ⟨5, X5, S5⟩]
  have ne := pureCalm_some (W0) [⟨4, X4, S4⟩, ⟨5, X5, S5⟩]
  have x0 : ∀ y : (pureCalm (W0) [⟨4, X4, S4⟩, ⟨5, X5, S5⟩]).Sub, ((pureCalm (W0) [⟨4, X4, S4⟩, ⟨5, X5, S5⟩]).at_ y).cell? ⟨w.heap.size, 0, none⟩ = some (.int .i64 16) := fun y => by have k := pureCalm_at y; exact ((S0.out.keep k (fun e => e)).cell 0).trans (by kernel_rfl)
  refine wp_region_calm (pureCalm (W0) [⟨4, X4, S4⟩, ⟨5, X5, S5⟩]) [0, 1, 2, 3, 4, 5, 6, 7] [8, 9] 50 (by kernel_rfl) (by kernel_rfl) rfl gd (Keep.refl _ _).drew ?_
  simp only [pairs, List.filterMap_cons, List.filterMap_nil, List.getElem?_toArray, List.getElem?_cons_succ, List.getElem?_cons_zero, Option.map_some]
  repeat (refine Calm.walk_quiet ne rfl rfl rfl (fun K hK => ?_); go_big_quiet_op; refine hK _ ?_; clear hK K)
  refine Calm.walk_load 26 (.tmp 3) rfl ne rfl rfl (w.heap.size) (0) rfl (plV) _ (fun y => by have k_ := pureCalm_at y; exact (S0.out.keep k_ (fun e => e)).rangeAt) Tryz.underlying26 rfl (by rw [plV_size]; kernel_rfl) ?_
  go_frame
  refine Calm.walk_load 35 (.tmp 4) rfl ne rfl rfl (w.heap.size + 1) (0) rfl (plP) _ (fun y => by have k_ := pureCalm_at y; exact (P0.out.keep k_ (fun e => e)).rangeAt) Tryz.underlying35 rfl (by kernel_rfl) ?_
  go_frame
  refine Calm.walk_eff rfl rfl (fun n wy _ hR hA => ?_) ?_
  · have kR : Keep none_ (W0) wy := hR
    unfold gives
    go_simp
    refine (height_pl wy).mono ?_
    rintro e wz ⟨rfl, hk⟩
    exact ⟨_, rfl, (H4 _ _ _).2 (rfl), hk, kR.trans hk, fun _ h => h.elim⟩
  intro v wy hv
  obtain rfl : v = .int .i64 16 := (H4 _ _ _).1 hv
  clear hv
  clear wy
  go_frame
  refine Calm.walk_eff rfl rfl (fun n wy _ hR hA => ?_) ?_
  · have kR : Keep none_ (W0) wy := hR
    unfold gives
    go_simp
    refine (pflat_any 128 (by decide) wy).mono ?_
    rintro e wz ⟨d1, d2, d3, rfl, hn, hk⟩
    exact ⟨_, rfl, (H5 _ _ _).2 (⟨d1, d2, d3, rfl, hn.low kR.size⟩), hk, kR.trans hk, fun _ h => h.elim⟩
  intro v wy hv
  obtain ⟨d1, d2, d3, rfl, -⟩ : FrE W0.heap.size 128 v wy := (H5 _ _ _).1 hv
  clear hv
  clear wy
  go_frame
  repeat (refine Calm.walk_quiet ne rfl rfl rfl (fun K hK => ?_); go_big_quiet_op; refine hK _ ?_; clear hK K)
  intro w2 hG hD
  have K2 := Lib.hid (show Keep none_ (W0) w2 from hG)
  have T5 := Lib.hid ((H5 _ _ _).1 (show X5 _ _ w2 from (hD.1 5 rfl _ rfl ⟨rfl, rfl⟩).1))
  clear hG hD gd ne x0
  clear H4 H5
  clear S4 S5
  clear X4 X5
  simp only [pickOps, List.filterMap_cons, List.filterMap_nil, List.getElem?_toArray, List.getElem?_cons_succ, List.getElem?_cons_zero]
  have N2 := Lib.hid (FrE.out_ (show FrE W0.heap.size 128 (.tuple #[.agg (frV d1 d2 d3), .int .i64 0]) w2 from T5.out))
  have R2 := Lib.hid (R0.out.keep K2.out (fun e => e))
  clear T5
  refine wpList_store_blk rfl 32 (.tmp 6) (.tmp 18) rfl (w.heap.size + 1 + 1 + 1) 32 _ (frV d1 d2 d3) rfl rfl (R2.out) (rfl) (by kernel_rfl) (by kernel_rfl) ?_
  intro w7 B7_ K7_ sz_
  have B7 := Lib.hid B7_
  have K7 := Lib.hid K7_
  clear B7_ K7_ sz_
  go_frame
  go_wp2
  have nn : ∀ b, W0.heap.size ≤ b → ¬ one (w.heap.size + 1 + 1 + 1) b := fun b h e => by have := LW.out; unfold one at e; omega
  have n7 := N2.out.keep K7.out (nn _ N2.out.l1) (nn _ N2.out.l2) (nn _ N2.out.l3)
  refine bodyPost_ret (results_cell_tmp' Tryz.results43 rfl (run_loadVar_blk B7.out Tryz.underlying32 rfl (by kernel_rfl))) rfl ⟨d1, d2, d3, rfl, n7.low (by have := LW.out; omega), (K0.out.trans K2.out).own K7.out (by omega)⟩
theorem keep_setObj (w : World) (b : Nat) (o : Obj) : Keep (one b) w { w with heap := w.heap.setIfInBounds b o } :=
  ⟨rfl, rfl, rfl, by simp, fun k _ hn => by simp [Array.getElem?_setIfInBounds_ne (fun e : b = k => hn e.symm)]⟩
/-- The first entry of a map of numbers. -/
theorem run_map_first {P : Program} {w : World} {b : Nat} (hb : w.heap[b]? = some (.map #[] 0)) {t K E : TypeId} (ht : P.underlying t = some (.map K E)) (hK : P.underlying K = some (.int .i64)) (x y : Int) :
    ∃ w', (Instr.mapUpdate t (.map (some b)) (.int .i64 x) (.int .i64 y)).run P w = .ok () w' ∧ Keep (one b) w w' := by
  have hg : (getObj b).run P w = .ok (.map #[] 0) w := by simp [getObj, Sem.run, hb]
  have hset : ∀ o, (setObj b o).run P w = .ok () { w with heap := w.heap.setIfInBounds b o } := fun o => by simp [setObj, Sem.run, hb]
  have hc : (Instr.checkKey false 10000 K (.int .i64 x)).run P w = .ok () w := by
    unfold Instr.checkKey
    simp [run_underlying hK]
  have hf : (Instr.findKey K (.int .i64 x) []).run P w = .ok none w := by
    unfold Instr.findKey
    simp [run_underlying hK, Instr.findNow]
  unfold Instr.mapUpdate
  simp only [Sem.run_bind, run_underlying ht, Result.andThen_ok, hg, hc, hf, hset]
  exact ⟨_, rfl, keep_setObj _ _ _⟩
theorem wpList_map_first {P : Program} {ops : Array Oper} {rest : List Oper} {op : Oper} {a : Act} {w : World} {Q : Exit → Act → World → Prop} {b : Nat} (t : TypeId) (m x y : Operand) (ho : op.op = .mapUpdate t m x y) (hgd : op.guard = none) (K E : TypeId) (ht : P.underlying t = some (.map K E)) (hK : P.underlying K = some (.int .i64))
    (hm : a.eval m = .map (some b)) (h : w.heap[b]? = some (.map #[] 0)) (k v : Int) (hx : a.eval x = .int .i64 k) (hy : a.eval y = .int .i64 v)
    (hn : ∀ w', Keep (one b) w w' → wpList P ops Q rest (a.put op.dst undef) w') : wpList P ops Q (op :: rest) a w :=
  wpList_plain hgd fun K' hK' => by
    obtain ⟨w', hrun, h1⟩ := run_map_first h ht hK k v
    unfold Oper.wp execOp
    simp only [ho, hm, hx, hy, Sem.run_bind, hrun, Result.andThen_ok, Sem.run_pure]
    exact hK' _ _ (hn w' h1)
set_option maxRecDepth 100000 in
set_option maxHeartbeats 4000000 in
theorem rowsByType1 (w : World) : Calls Tryz.prog 44 #[.int .i64 1] w fun e w' => ∃ r, e = .returned (.map (some r)) ∧ Keep none_ w w' := by
  have hmm := @run_makeMap Tryz.prog
  go_enter Tryz.func44, Tryz.ntmps44
  go_wp2_with (fail)
  obtain ⟨w1, hw1⟩ : ∃ w1, w1 = w.alloc (.map #[] 0) := ⟨_, rfl⟩
  have B1 := Lib.hid (show w1.heap[w.heap.size]? = some (.map #[] 0) from hw1 ▸ heap_alloc_new w _)
  have K1 := Lib.hid (show Keep none_ w w1 from hw1 ▸ (Keep.refl _ _).alloc _)
  rw [← hw1]
  clear hw1 hmm
  go_loopw [7] (fun i wr => (i = .int .i64 0 ∧ wr = w1) ∨ (i = .int .i64 1 ∧ Keep (one w.heap.size) w1 wr)) (fun i _ => 1 - (intOf i).toNat)
  case atStart => exact .inl ⟨rfl, rfl⟩
  case round =>
    rcases hrel with ⟨rfl, rfl⟩ | ⟨rfl, hk⟩
    · skip
      have tk12 : True := trivial
      go_wp2_with ((have _t := tk12; refine wpList_map_first 84 (.tmp 10) (.tmp 12) (.tmp 13) rfl rfl _ _ Tryz.underlying84 Tryz.underlying3 rfl B1.out 1 0 rfl rfl ?_; intro w2 k2_; have K2 := Lib.hid k2_; clear k2_; go_frame; clear _t tk12))
      go_roundw
      case rel => exact .inr ⟨rfl, K2.out⟩
      case measure => simp [intOf]
    · go_wp2
      go_ret
      exact ⟨_, rfl, K1.out.own hk (Nat.le_refl _)⟩
set_option maxRecDepth 100000 in
set_option maxHeartbeats 4000000 in
theorem counting0 (r : Nat) (w : World) : Calls Tryz.prog 45 #[.agg cod0, .map (some r), .int .i64 0] w fun e w' => e = .returned (.tuple #[.agg #[.int .i64 0, .slice none 0 0], .bool false]) ∧ Keep none_ w w' := by
  obtain ⟨W0, hW0⟩ : ∃ W0, W0 = (w.alloc (.cells cod0 39)).alloc (.cells #[.int .i64 0, .slice none 0 0] 60) := ⟨_, rfl⟩
  obtain ⟨c0, r0, k0⟩ := two (Keep.eq_ hW0)
  have K0 := Lib.hid k0
  have R0 := Lib.hid r0
  have x7 : W0.cell? ⟨w.heap.size, 7, none⟩ = some (.slice none 0 0) := by rw [c0.cell]; kernel_rfl
  clear c0 r0 k0
  go_enter Tryz.func45, Tryz.ntmps45
  go_upto_region 1 with (fail)
  rw [← hW0]
  clear hW0
  go_wp2_with (fail)
  go_loopw [15] (fun i wr => i = .int .i64 0 ∧ wr = W0) (fun i _ => 1 - (intOf i).toNat)
  case atStart => exact ⟨rfl, rfl⟩
  case round =>
    obtain ⟨rfl, rfl⟩ := hrel
    have tk13 : True := trivial
    go_wp2_with ((have _t := tk13; refine wpList_store_blk rfl 60 (.tmp 6) (.tmp 34) rfl (w.heap.size + 1) 60 _ (#[.int .i64 0, .slice none 0 0]) rfl rfl (R0.out) (rfl) (by kernel_rfl) (by kernel_rfl) ?_; intro w2 B2_ K2_ sz_; have B2 := Lib.hid B2_; have K2 := Lib.hid K2_; clear B2_ K2_ sz_; go_frame; clear _t tk13))
    refine bodyPost_ret (results_cell_tmp' Tryz.results45 rfl (run_loadVar_blk B2.out Tryz.underlying60 rfl (by kernel_rfl))) rfl ⟨rfl, K0.out.own K2.out (by omega)⟩
theorem bool_info : (Tryz.prog.info? 4).map (fun i => (i.zero, i.size, i.bytes)) = some (some (.bool false), 1, 1) := by kernel_rfl
theorem mkb1 (w : World) : (Instr.makeSlice 54 (.int .i64 1) (.int .i64 1)).run Tryz.prog w = .ok (.slice (some ⟨w.heap.size, 0, none⟩) 1 1) (w.alloc (.cells (madeCells #[.bool false] 1) 4)) :=
  run_make_row' 54 4 (.bool false) 1 Tryz.underlying54 bool_info rfl .i64 .i64 1 (by omega) (by omega) w
theorem results_cell_tmp_tmp {P : Program} {fn : Func} {tmps : Array Value} {w : World} {p q r : Tmp} {ty : TypeId} {b : Nat} {v : Value} (h : fn.results = #[.cell p ty, .tmp q, .tmp r]) (hp : tmps.getD p undef = .pointer (some ⟨b, 0, none⟩)) (hl : (loadVar ty ⟨b, 0, none⟩).run P w = .ok v w) :
    (results fn tmps).run P w = .ok (.tuple #[v, tmps.getD q undef, tmps.getD r undef]) w := by
  simp only [results, h]
  have hp' : tmps[p]?.getD undef = .pointer (some ⟨b, 0, none⟩) := by simpa using hp
  simp [hp', asAddr, hl]
def DecPost (w : World) (e : Ending) (w' : World) : Prop := ∃ d1 d2 d3 A, e = .returned (.tuple #[.agg (frV d1 d2 d3), .slice (some A) 1 1, .int .i64 0]) ∧ Keep none_ w w'
set_option maxRecDepth 100000 in
set_option maxHeartbeats 4000000 in
theorem decode_pl (w : World) : Calls Tryz.prog 21 #[.agg plV, .agg cod0, .agg rfV, .bool false] w (DecPost w) := by
  obtain ⟨Wa, hWa⟩ : ∃ Wa, Wa = ((w.alloc (.cells plV 26)).alloc (.cells cod0 39)).alloc (.cells rfV 45) := ⟨_, rfl⟩
  obtain ⟨W0, hW0⟩ : ∃ W0, W0 = Wa.alloc (.cells #[.int .i64 0, .int .i64 0, .slice none 0 0, .slice none 0 0, .slice none 0 0] 32) := ⟨_, rfl⟩
  obtain ⟨s0, p0, f0, ka⟩ := three (Keep.eq_ hWa)
  have sz : Wa.heap.size = w.heap.size + 1 + 1 + 1 := by rw [hWa]; simp
  have kb : Keep none_ Wa W0 := hW0 ▸ (Keep.refl _ _).alloc _
  have S0 := Lib.hid (s0.keep kb (fun e => e))
  have P0 := Lib.hid (p0.keep kb (fun e => e))
  have F0 := Lib.hid (f0.keep kb (fun e => e))
  have R0 := Lib.hid (show Blk W0 (w.heap.size + 1 + 1 + 1) 32 #[.int .i64 0, .int .i64 0, .slice none 0 0, .slice none 0 0, .slice none 0 0] from sz ▸ hW0 ▸ Blk.new _ _ _)
  have K0 := Lib.hid (ka.trans kb)
  have LW := Lib.hid (show w.heap.size + 1 + 1 + 1 < W0.heap.size from (show Blk _ _ _ _ from R0.out).lt)
  rw [hWa] at hW0
  clear s0 p0 f0 ka kb sz hWa
  go_enter Tryz.func21, Tryz.ntmps21
  go_upto_region 1 with (fail)
  rw [← hW0]
  clear hW0
  go_step3
  have tk14 : True := trivial
  have tk15 : True := trivial
  have tk16 : True := trivial
  have tk17 : True := trivial
  have tk18 : True := trivial
  have tk19 : True := trivial
  have tk20 : True := trivial
  have tk21 : True := trivial
  have tk22 : True := trivial
  go_upto_region 7 with (first | (have _t := tk14; refine wpList_load_part 26 (.tmp 4) rfl rfl (w.heap.size) (0) rfl (plV) _ (S0.out.rangeAt) Tryz.underlying26 rfl (by rw [plV_size]; kernel_rfl) ?_; go_frame; clear _t tk14) | (have _t := tk15; refine wpList_load_part 35 (.tmp 28) rfl rfl (w.heap.size + 1) (0) rfl (plP) _ (P0.out.sub 0 plP.toList (by kernel_rfl)) Tryz.underlying35 rfl (by kernel_rfl) ?_; go_frame; clear _t tk15) | (have _t := tk16; refine wpList_load_part 45 (.tmp 6) rfl rfl (w.heap.size + 1 + 1) (0) rfl (rfV) _ (F0.out.rangeAt) Tryz.underlying45 rfl (by kernel_rfl) ?_; go_frame; clear _t tk16) | (have _t := tk17; go_at_call 42; refine (decodable_pl _).mono ?_; rintro e w1 ⟨rfl, k⟩; have S1 := Lib.hid (S0.out.keep k (fun e => e)); have P1 := Lib.hid (P0.out.keep k (fun e => e)); have F1 := Lib.hid (F0.out.keep k (fun e => e)); have R1 := Lib.hid (R0.out.keep k (fun e => e)); have K1 := Lib.hid (K0.out.trans k); clear k; clear _t tk17) | (have _t := tk18; refine wpList_load_part 26 (.tmp 4) rfl rfl (w.heap.size) (0) rfl (plV) _ (S1.out.rangeAt) Tryz.underlying26 rfl (by rw [plV_size]; kernel_rfl) ?_; go_frame; clear _t tk18) | (have _t := tk19; refine wpList_load_part 35 (.tmp 39) rfl rfl (w.heap.size + 1) (0) rfl (plP) _ (P1.out.sub 0 plP.toList (by kernel_rfl)) Tryz.underlying35 rfl (by kernel_rfl) ?_; go_frame; clear _t tk19) | (have _t := tk20; refine wpList_load_part 32 (.tmp 41) rfl rfl (w.heap.size + 1 + 1) (0) rfl (zeroFrame) _ (F1.out.sub 0 zeroFrame.toList (by kernel_rfl)) Tryz.underlying32 rfl (by kernel_rfl) ?_; go_frame; clear _t tk20) | (have _t := tk21; go_at_call 43; refine (concealment_pl _).mono ?_; rintro e w2 ⟨d1, d2, d3, rfl, hn, k⟩; have KX2 := Lib.hid k; clear hn; have S2 := Lib.hid (S1.out.keep k (fun e => e)); have P2 := Lib.hid (P1.out.keep k (fun e => e)); have F2 := Lib.hid (F1.out.keep k (fun e => e)); have R2 := Lib.hid (R1.out.keep k (fun e => e)); have K2 := Lib.hid (K1.out.trans k); clear k; clear _t tk21) | (have _t := tk22; refine wpList_store_blk rfl 32 (.tmp 12) (.tmp 44) rfl (w2.heap.size) 32 _ (frV d1 d2 d3) rfl rfl (Blk.new _ _ _) (rfl) (by kernel_rfl) (by kernel_rfl) ?_; intro w3 B3_ K3_ sz_; have B3 := Lib.hid B3_; have K3 := Lib.hid K3_; clear B3_ K3_ sz_; go_frame; clear _t tk22))
  have K3' := Lib.hid (show Keep none_ w2 w3 from ((Keep.refl none_ w2).alloc _).own K3.out (Nat.le_refl _))
  obtain ⟨go, hgo⟩ : ∃ go, go = w2.heap.size := ⟨_, rfl⟩
  have LO := Lib.hid (show w.heap.size + 1 + 1 + 1 < go from hgo ▸ (show Blk _ _ _ _ from R2.out).lt)
  rw [← hgo] at B3 ⊢
  clear hgo K3
  have S3 := Lib.hid (S2.out.keep K3'.out (fun e => e))
  have P3 := Lib.hid (P2.out.keep K3'.out (fun e => e))
  have R3 := Lib.hid (R2.out.keep K3'.out (fun e => e))
  have KA3 := Lib.hid (K2.out.trans K3'.out)
  clear S0 P0 F0 R0 S1 P1 F1 R1 S2 P2 F2 R2 K0 K1 K2 KX2 K3'
  have hmk := mkb1
  have tk23 : True := trivial
  have tk24 : True := trivial
  have tk25 : True := trivial
  go_upto_region 8 with (first | (have _t := tk23; refine wpList_load_part 26 (.tmp 4) rfl rfl (w.heap.size) (0) rfl (plV) _ (S3.out.rangeAt) Tryz.underlying26 rfl (by rw [plV_size]; kernel_rfl) ?_; go_frame; clear _t tk23) | (have _t := tk24; refine wpList_load_part 35 (.tmp 51) rfl rfl (w.heap.size + 1) (0) rfl (plP) _ (P3.out.sub 0 plP.toList (by kernel_rfl)) Tryz.underlying35 rfl (by kernel_rfl) ?_; go_frame; clear _t tk24) | (have _t := tk25; go_at_call 19; refine (rows_pl _).mono ?_; rintro e w4 ⟨rfl, k⟩; have KX4 := Lib.hid k; have P4 := Lib.hid (P3.out.keep k (fun e => e)); have R4 := Lib.hid (R3.out.keep k (fun e => e)); have B4 := Lib.hid (B3.out.keep k (fun e => e)); have K4 := Lib.hid (KA3.out.trans k); clear k; clear _t tk25))
  obtain ⟨w5, hw5⟩ : ∃ w5, w5 = w4.alloc (.cells (madeCells #[.bool false] 1) 4) := ⟨_, rfl⟩
  have k5 : Keep none_ w4 w5 := hw5 ▸ (Keep.refl _ _).alloc _
  rw [← hw5]
  have P5 := Lib.hid (P4.out.keep k5 (fun e => e))
  have R5 := Lib.hid (R4.out.keep k5 (fun e => e))
  have B5 := Lib.hid (B4.out.keep k5 (fun e => e))
  have K5 := Lib.hid (K4.out.trans k5)
  clear hw5 k5 hmk S3 P3 R3 B3 P4 R4 B4 KX4
  have tk26 : True := trivial
  go_wp2_with ((have _t := tk26; go_at_call 44; refine (rowsByType1 _).mono ?_; rintro e w6 ⟨r, rfl, k⟩; have P6 := Lib.hid (P5.out.keep k (fun e => e)); have R6 := Lib.hid (R5.out.keep k (fun e => e)); have B6 := Lib.hid (B5.out.keep k (fun e => e)); have K6 := Lib.hid (K5.out.trans k); clear k; clear _t tk26))
  go_step3
  go_wp2_with (fail)
  go_loopw [60] (fun i wr => (i = .int .i64 0 ∧ wr = w6) ∨ (i = .int .i64 1 ∧ Keep none_ w6 wr)) (fun i _ => 1 - (intOf i).toNat)
  case atStart => exact .inl ⟨rfl, rfl⟩
  case round =>
    rcases hrel with ⟨rfl, rfl⟩ | ⟨rfl, hk⟩
    · skip
      have tk27 : True := trivial
      have tk28 : True := trivial
      go_wp2_with (first | (have _t := tk27; refine wpList_load_part 39 (.tmp 5) rfl rfl (w.heap.size + 1) (0) rfl (cod0) _ (P6.out.rangeAt) Tryz.underlying39 rfl (by kernel_rfl) ?_; go_frame; clear _t tk27) | (have _t := tk28; go_at_call 45; refine (counting0 r _).mono ?_; rintro e w7 ⟨rfl, k⟩; have K7 := Lib.hid k; clear k; clear _t tk28))
      go_roundw
      case rel => exact .inr ⟨rfl, K7.out.alloc _⟩
      case measure => simp [intOf]
    · have B7 := Lib.hid (B6.out.keep hk (fun e => e))
      have R7 := Lib.hid (R6.out.keep hk (fun e => e))
      have K7 := Lib.hid (K6.out.trans hk)
      clear hk
      have tk29 : True := trivial
      have tk30 : True := trivial
      go_wp2_with (first | (have _t := tk29; refine wpList_load_part 32 (.tmp 12) rfl rfl (go) (0) rfl (frV d1 d2 d3) _ (B7.out.rangeAt) Tryz.underlying32 rfl (by kernel_rfl) ?_; go_frame; clear _t tk29) | (have _t := tk30; refine wpList_store_blk rfl 32 (.tmp 8) (.tmp 132) rfl (w.heap.size + 1 + 1 + 1) 32 _ (frV d1 d2 d3) rfl rfl (R7.out) (rfl) (by kernel_rfl) (by kernel_rfl) ?_; intro w8 B8_ K8_ sz_; have B8 := Lib.hid B8_; have K8 := Lib.hid K8_; clear B8_ K8_ sz_; go_frame; clear _t tk30))
      rw [Exit.noGoto_ret]
      refine bodyPost_ret (results_cell_tmp_tmp Tryz.results21 rfl (run_loadVar_blk B8.out Tryz.underlying32 rfl (by kernel_rfl))) rfl ⟨d1, d2, d3, _, rfl, K7.out.own K8.out (by omega)⟩
end Go.Proofs.YtebdgoikmclflaaGreatDoor
