/-
  The coder's small functions.
-/
import Derived.Test.YtebdgoikmclflaaGreatDoorEb37
namespace Go.Proofs.YtebdgoikmclflaaGreatDoor
open Go.RowKit

set_option maxRecDepth 100000 in
set_option maxHeartbeats 1000000 in
theorem mustFr (cs : Array Value) (hs : cs.size = 5) (h1 : cs.all (·.oneCell') = true) (w : World) : Calls Tryz.prog 50 #[.agg cs, .int .i64 0] w fun e w' => e = .returned (.agg cs) ∧ Keep none_ w w' := by
  obtain ⟨zc, ze, sz⟩ : ∃ zc : Array Value, (∀ w, (zeroValue 32).run Tryz.prog w = .ok (.agg zc) w) ∧ zc.size = 5 := ⟨zeroFrame, fun w => by kernel_rfl, by kernel_rfl⟩
  have SZ := Lib.hid sz
  have HS := Lib.hid hs
  have H1 := Lib.hid h1
  clear sz hs h1
  obtain ⟨W0, hW0⟩ : ∃ W0, W0 = (w.alloc (.cells cs 32)).alloc (.cells zc 32) := ⟨_, rfl⟩
  obtain ⟨s0, p0, k0⟩ := two (Keep.eq_ hW0)
  have S0 := Lib.hid s0
  have P0 := Lib.hid p0
  have K0 := Lib.hid k0
  clear s0 p0 k0
  go_enter Tryz.func50, Tryz.ntmps50
  go_upto_region 1 with (fail)
  rw [← hW0]
  clear hW0
  have tk1 : True := trivial
  have tk2 : True := trivial
  go_wp2_with (first | (have _t := tk1; refine wpList_load_part 32 (.tmp 2) rfl rfl (w.heap.size) (0) rfl (cs) _ (S0.out.rangeAt) Tryz.underlying32 rfl (by rw [HS.out]; kernel_rfl) ?_; go_frame; clear _t tk1) | (have _t := tk2; refine wpList_store_blk rfl 32 (.tmp 4) (.tmp 9) rfl (w.heap.size + 1) 32 _ (cs) rfl rfl (P0.out) (by rw [SZ.out, HS.out]) (by rw [HS.out]; kernel_rfl) (H1.out) ?_; intro w2 B2_ K2_ sz_; have B2 := Lib.hid B2_; have K2 := Lib.hid K2_; clear B2_ K2_ sz_; go_frame; clear _t tk2))
  refine bodyPost_ret (results_cell Tryz.results50 rfl (run_loadVar_blk B2.out Tryz.underlying32 rfl (by rw [HS.out]; kernel_rfl))) rfl ⟨rfl, K0.out.own K2.out (by omega)⟩
set_option maxRecDepth 100000 in
set_option maxHeartbeats 1000000 in
theorem mustUn (cs : Array Value) (hs : cs.size = 2) (h1 : cs.all (·.oneCell') = true) (w : World) : Calls Tryz.prog 58 #[.agg cs, .int .i64 0] w fun e w' => e = .returned (.agg cs) ∧ Keep none_ w w' := by
  obtain ⟨zc, ze, sz⟩ : ∃ zc : Array Value, (∀ w, (zeroValue 60).run Tryz.prog w = .ok (.agg zc) w) ∧ zc.size = 2 := ⟨#[.int .i64 0, .slice none 0 0], fun w => by kernel_rfl, by kernel_rfl⟩
  have SZ := Lib.hid sz
  have HS := Lib.hid hs
  have H1 := Lib.hid h1
  clear sz hs h1
  obtain ⟨W0, hW0⟩ : ∃ W0, W0 = (w.alloc (.cells cs 60)).alloc (.cells zc 60) := ⟨_, rfl⟩
  obtain ⟨s0, p0, k0⟩ := two (Keep.eq_ hW0)
  have S0 := Lib.hid s0
  have P0 := Lib.hid p0
  have K0 := Lib.hid k0
  clear s0 p0 k0
  go_enter Tryz.func58, Tryz.ntmps58
  go_upto_region 1 with (fail)
  rw [← hW0]
  clear hW0
  have tk3 : True := trivial
  have tk4 : True := trivial
  go_wp2_with (first | (have _t := tk3; refine wpList_load_part 60 (.tmp 2) rfl rfl (w.heap.size) (0) rfl (cs) _ (S0.out.rangeAt) Tryz.underlying60 rfl (by rw [HS.out]; kernel_rfl) ?_; go_frame; clear _t tk3) | (have _t := tk4; refine wpList_store_blk rfl 60 (.tmp 4) (.tmp 9) rfl (w.heap.size + 1) 60 _ (cs) rfl rfl (P0.out) (by rw [SZ.out, HS.out]) (by rw [HS.out]; kernel_rfl) (H1.out) ?_; intro w2 B2_ K2_ sz_; have B2 := Lib.hid B2_; have K2 := Lib.hid K2_; clear B2_ K2_ sz_; go_frame; clear _t tk4))
  refine bodyPost_ret (results_cell Tryz.results58 rfl (run_loadVar_blk B2.out Tryz.underlying60 rfl (by rw [HS.out]; kernel_rfl))) rfl ⟨rfl, K0.out.own K2.out (by omega)⟩
set_option maxRecDepth 100000 in
set_option maxHeartbeats 1000000 in
theorem mustSt (cs : Array Value) (hs : cs.size = 8) (h1 : cs.all (·.oneCell') = true) (w : World) : Calls Tryz.prog 125 #[.agg cs, .int .i64 0] w fun e w' => e = .returned (.agg cs) ∧ Keep none_ w w' := by
  obtain ⟨zc, ze, sz⟩ : ∃ zc : Array Value, (∀ w, (zeroValue 113).run Tryz.prog w = .ok (.agg zc) w) ∧ zc.size = 8 := ⟨#[.int .i64 0, .int .i64 0, .int .i64 0, .int .i64 0, .int .i64 0, .int .i64 0, .int .i64 0, .int .i64 0], fun w => by kernel_rfl, by kernel_rfl⟩
  have SZ := Lib.hid sz
  have HS := Lib.hid hs
  have H1 := Lib.hid h1
  clear sz hs h1
  obtain ⟨W0, hW0⟩ : ∃ W0, W0 = (w.alloc (.cells cs 113)).alloc (.cells zc 113) := ⟨_, rfl⟩
  obtain ⟨s0, p0, k0⟩ := two (Keep.eq_ hW0)
  have S0 := Lib.hid s0
  have P0 := Lib.hid p0
  have K0 := Lib.hid k0
  clear s0 p0 k0
  go_enter Tryz.func125, Tryz.ntmps125
  go_upto_region 1 with (fail)
  rw [← hW0]
  clear hW0
  have tk5 : True := trivial
  have tk6 : True := trivial
  go_wp2_with (first | (have _t := tk5; refine wpList_load_part 113 (.tmp 2) rfl rfl (w.heap.size) (0) rfl (cs) _ (S0.out.rangeAt) Tryz.underlying113 rfl (by rw [HS.out]; kernel_rfl) ?_; go_frame; clear _t tk5) | (have _t := tk6; refine wpList_store_blk rfl 113 (.tmp 4) (.tmp 9) rfl (w.heap.size + 1) 113 _ (cs) rfl rfl (P0.out) (by rw [SZ.out, HS.out]) (by rw [HS.out]; kernel_rfl) (H1.out) ?_; intro w2 B2_ K2_ sz_; have B2 := Lib.hid B2_; have K2 := Lib.hid K2_; clear B2_ K2_ sz_; go_frame; clear _t tk6))
  refine bodyPost_ret (results_cell Tryz.results125 rfl (run_loadVar_blk B2.out Tryz.underlying113 rfl (by rw [HS.out]; kernel_rfl))) rfl ⟨rfl, K0.out.own K2.out (by omega)⟩
set_option maxRecDepth 100000 in
set_option maxHeartbeats 1000000 in
theorem mustAr (cs : Array Value) (hs : cs.size = 64) (h1 : cs.all (·.oneCell') = true) (w : World) : Calls Tryz.prog 130 #[.agg cs, .int .i64 0] w fun e w' => e = .returned (.agg cs) ∧ Keep none_ w w' := by
  obtain ⟨zc, ze, sz⟩ : ∃ zc : Array Value, (∀ w, (zeroValue 99).run Tryz.prog w = .ok (.agg zc) w) ∧ zc.size = 64 := ⟨zero64, fun w => by kernel_rfl, by kernel_rfl⟩
  have SZ := Lib.hid sz
  have HS := Lib.hid hs
  have H1 := Lib.hid h1
  clear sz hs h1
  obtain ⟨W0, hW0⟩ : ∃ W0, W0 = (w.alloc (.cells cs 99)).alloc (.cells zc 99) := ⟨_, rfl⟩
  obtain ⟨s0, p0, k0⟩ := two (Keep.eq_ hW0)
  have S0 := Lib.hid s0
  have P0 := Lib.hid p0
  have K0 := Lib.hid k0
  clear s0 p0 k0
  go_enter Tryz.func130, Tryz.ntmps130
  go_upto_region 1 with (fail)
  rw [← hW0]
  clear hW0
  have tk7 : True := trivial
  have tk8 : True := trivial
  go_wp2_with (first | (have _t := tk7; refine wpList_load_part 99 (.tmp 2) rfl rfl (w.heap.size) (0) rfl (cs) _ (S0.out.rangeAt) Tryz.underlying99 rfl (by rw [HS.out]; kernel_rfl) ?_; go_frame; clear _t tk7) | (have _t := tk8; refine wpList_store_blk rfl 99 (.tmp 4) (.tmp 9) rfl (w.heap.size + 1) 99 _ (cs) rfl rfl (P0.out) (by rw [SZ.out, HS.out]) (by rw [HS.out]; kernel_rfl) (H1.out) ?_; intro w2 B2_ K2_ sz_; have B2 := Lib.hid B2_; have K2 := Lib.hid K2_; clear B2_ K2_ sz_; go_frame; clear _t tk8))
  refine bodyPost_ret (results_cell Tryz.results130 rfl (run_loadVar_blk B2.out Tryz.underlying99 rfl (by rw [HS.out]; kernel_rfl))) rfl ⟨rfl, K0.out.own K2.out (by omega)⟩

/-- The coder of the law. -/
def srV (A1 A2 A3 : Option Addr) (c1 c2 c3 : Nat) : List Value := [.int .i64 16, .int .i64 16, .slice A1 256 c1, .slice A2 64 c2, .slice A3 64 c3]
def cdL (src res : List Value) : List Value := [.int .i64 1, .int .i64 3, .bool false, .bool false] ++ (plV.toList ++ (plP.toList ++ ([.int .i64 8] ++ (src ++ (rfV.toList ++ (zFr ++ (zFr ++ (zFr ++ (zFr ++ (zFr ++ (zFr ++ res)))))))))))
def cdV (src res : List Value) : Array Value := (cdL src res).toArray
set_option maxRecDepth 100000 in
set_option maxHeartbeats 1000000 in
theorem directions_any (gc : Nat) (A1 A2 A3 : Option Addr) (c1 c2 c3 : Nat) (res : List Value) (w : World) (hc : Blk w gc 67 (cdV (srV A1 A2 A3 c1 c2 c3) res)) : Calls Tryz.prog 52 #[.pointer (some ⟨gc, 0, none⟩)] w fun e w' => e = .returned (.int .i64 0) ∧ w = w' := by
  have x : w.cell? ⟨gc, 139, none⟩ = some (.int .i64 1) := by rw [hc.cell]; kernel_rfl
  go_enter Tryz.func52, Tryz.ntmps52
  go_wp2
  go_ret
  exact ⟨rfl, rfl⟩
set_option maxRecDepth 100000 in
set_option maxHeartbeats 1000000 in
theorem cbothKinds_any (gc : Nat) (A1 A2 A3 : Option Addr) (c1 c2 c3 : Nat) (res : List Value) (w : World) (hc : Blk w gc 67 (cdV (srV A1 A2 A3 c1 c2 c3) res)) : Calls Tryz.prog 128 #[.pointer (some ⟨gc, 0, none⟩)] w fun e w' => e = .returned (.bool false) ∧ w = w' := by
  have x : w.cell? ⟨gc, 8, none⟩ = some (.bool false) := by rw [hc.cell]; kernel_rfl
  go_enter Tryz.func128, Tryz.ntmps128
  go_wp2
  go_ret
  exact ⟨rfl, rfl⟩
set_option maxRecDepth 100000 in
set_option maxHeartbeats 4000000 in
theorem creconstruct_any (gc : Nat) (A1 A2 A3 : Option Addr) (c1 c2 c3 : Nat) (res : List Value) (w : World) (hc : Blk w gc 67 (cdV (srV A1 A2 A3 c1 c2 c3) res)) : Calls Tryz.prog 57 #[.pointer (some ⟨gc, 0, none⟩), .agg mbV, .int .i64 0, .int .i64 0] w fun e w' => ∃ d1 d2 d3, e = .returned (.agg (frV d1 d2 d3)) ∧ NewFr w' w.heap.size 128 d1 d2 d3 ∧ Keep none_ w w' := by
  obtain ⟨W0, hW0⟩ : ∃ W0, W0 = (w.alloc (.cells mbV 102)).alloc (.cells #[.int .i64 0, .int .i64 0, .slice none 0 0, .slice none 0 0, .slice none 0 0] 32) := ⟨_, rfl⟩
  obtain ⟨m0, r0, k0⟩ := two (Keep.eq_ hW0)
  have M0 := Lib.hid m0
  have R0 := Lib.hid r0
  have C0 := Lib.hid (hc.keep k0 (fun e => e))
  have K0 := Lib.hid k0
  have L0 := Lib.hid (show w.heap.size + 1 < W0.heap.size from (show Blk _ _ _ _ from r0).lt)
  clear m0 r0 k0 hc
  go_enter Tryz.func57, Tryz.ntmps57
  go_upto_region 1 with (fail)
  rw [← hW0]
  clear hW0
  obtain ⟨X24, S24, H24⟩ : ∃ X : List Value → Value → World → Prop, (∀ vs v w w', X vs v w → Keep none_ w w' → X vs v w') ∧ ∀ vs v w, X vs v w ↔ (FrE W0.heap.size 128 v w) := ⟨fun vs v w => FrE W0.heap.size 128 v w, fun vs v w w' h k => by first | exact h | exact FrE.keep h k, fun _ _ _ => Iff.rfl⟩
  obtain ⟨X27, S27, H27⟩ : ∃ X : List Value → Value → World → Prop, (∀ vs v w w', X vs v w → Keep none_ w w' → X vs v w') ∧ ∀ vs v w, X vs v w ↔ (vs[0]? = some v) := ⟨fun vs v w => vs[0]? = some v, fun vs v w w' h k => by first | exact h | exact h, fun _ _ _ => Iff.rfl⟩
  have gd := pureCalm_good (W0) [⟨24, X24, S24⟩, ⟨27, X27, S27⟩]
  have ne := pureCalm_some (W0) [⟨24, X24, S24⟩, ⟨27, X27, S27⟩]
  have x21 : ∀ y : (pureCalm (W0) [⟨24, X24, S24⟩, ⟨27, X27, S27⟩]).Sub, ((pureCalm (W0) [⟨24, X24, S24⟩, ⟨27, X27, S27⟩]).at_ y).cell? ⟨gc, 144, none⟩ = some (.bool false) := fun y => by have k := pureCalm_at y; exact ((C0.out.keep k (fun e => e)).cell 144).trans (by kernel_rfl)
  have x25 : ∀ y : (pureCalm (W0) [⟨24, X24, S24⟩, ⟨27, X27, S27⟩]).Sub, ((pureCalm (W0) [⟨24, X24, S24⟩, ⟨27, X27, S27⟩]).at_ y).cell? ⟨gc, 145, none⟩ = some (.int .i64 8) := fun y => by have k := pureCalm_at y; exact ((C0.out.keep k (fun e => e)).cell 145).trans (by kernel_rfl)
  refine wp_region_calm (pureCalm (W0) [⟨24, X24, S24⟩, ⟨27, X27, S27⟩]) [0, 1, 2, 3, 4, 5, 6, 7, 8, 9, 10, 11, 12, 13, 14, 15, 16, 17, 18, 19, 20, 21, 22, 23, 24, 25, 26, 27] [28] 37 (by kernel_rfl) (by kernel_rfl) rfl gd (Keep.refl _ _).drew ?_
  simp only [pairs, List.filterMap_cons, List.filterMap_nil, List.getElem?_toArray, List.getElem?_cons_succ, List.getElem?_cons_zero, Option.map_some]
  repeat (refine Calm.walk_quiet ne rfl rfl rfl (fun K hK => ?_); go_big_quiet_op; refine hK _ ?_; clear hK K)
  refine Calm.walk_load 63 (.tmp 11) rfl ne rfl rfl (gc) (0) rfl (#[.int .i64 1, .int .i64 3, .bool false, .bool false]) _ (fun y => by have k := pureCalm_at y; exact (C0.out.keep k (fun e => e)).sub 0 [.int .i64 1, .int .i64 3, .bool false, .bool false] (by kernel_rfl)) Tryz.underlying63 rfl (by kernel_rfl) ?_
  go_frame
  repeat (refine Calm.walk_quiet ne rfl rfl rfl (fun K hK => ?_); go_big_quiet_op; refine hK _ ?_; clear hK K)
  refine Calm.walk_load 26 (.tmp 15) rfl ne rfl rfl (gc) (4) rfl (plV) _ (fun y => by have k := pureCalm_at y; exact (C0.out.keep k (fun e => e)).sub 4 plV.toList (by kernel_rfl)) Tryz.underlying26 rfl (by rw [plV_size]; kernel_rfl) ?_
  go_frame
  repeat (refine Calm.walk_quiet ne rfl rfl rfl (fun K hK => ?_); go_big_quiet_op; refine hK _ ?_; clear hK K)
  refine Calm.walk_load 102 (.tmp 5) rfl ne rfl rfl (w.heap.size) (0) rfl (mbV) _ (fun y => by have k := pureCalm_at y; exact (M0.out.keep k (fun e => e)).rangeAt) Tryz.underlying102 rfl (by rw [mbV_size]; kernel_rfl) ?_
  go_frame
  repeat (refine Calm.walk_quiet ne rfl rfl rfl (fun K hK => ?_); go_big_quiet_op; refine hK _ ?_; clear hK K)
  refine Calm.walk_load 45 (.tmp 29) rfl ne rfl rfl (gc) (151) rfl (rfV) _ (fun y => by have k := pureCalm_at y; exact (C0.out.keep k (fun e => e)).sub 151 rfV.toList (by kernel_rfl)) Tryz.underlying45 rfl (by kernel_rfl) ?_
  go_frame
  repeat (refine Calm.walk_quiet ne rfl rfl rfl (fun K hK => ?_); go_big_quiet_op; refine hK _ ?_; clear hK K)
  refine Calm.walk_eff rfl rfl (fun n wy _ hR _ => ?_) ?_
  · have kR : Keep none_ (W0) wy := hR
    unfold gives
    go_simp
    refine (reconstruct_any wy).mono ?_
    rintro e wz ⟨d1, d2, d3, rfl, hn, hk⟩
    exact ⟨_, rfl, (H24 _ _ _).2 (⟨d1, d2, d3, rfl, hn.low kR.size⟩), hk, kR.trans hk, fun _ h => h.elim⟩
  intro v wy hv
  obtain ⟨d1, d2, d3, rfl, -⟩ : FrE W0.heap.size 128 v wy := (H24 _ _ _).1 hv
  clear hv
  clear wy
  go_frame
  repeat (refine Calm.walk_quiet ne rfl rfl rfl (fun K hK => ?_); go_big_quiet_op; refine hK _ ?_; clear hK K)
  refine Calm.walk_eff rfl rfl (fun n wy _ hR _ => ?_) ?_
  · have kR : Keep none_ (W0) wy := hR
    unfold gives
    go_simp
    refine (mustFr (frV d1 d2 d3) rfl (by kernel_rfl) wy).mono ?_
    rintro e wz ⟨rfl, hk⟩
    exact ⟨_, rfl, (H27 _ _ _).2 (rfl), hk, kR.trans hk, fun _ h => h.elim⟩
  intro v wy hv
  obtain rfl : v = .agg (frV d1 d2 d3) := (Option.some.inj (show some (.agg (frV d1 d2 d3)) = some v from (H27 _ _ _).1 hv)).symm
  clear hv
  clear wy
  go_frame
  intro w2 hG hD
  have K2 := Lib.hid (show Keep none_ (W0) w2 from hG)
  have T24 := Lib.hid ((H24 _ _ _).1 (show X24 _ _ w2 from (hD.1 24 rfl _ rfl ⟨rfl, rfl⟩).1))
  clear hG hD gd ne x21 x25
  clear H24 H27
  clear S24 S27
  clear X24 X27
  simp only [pickOps, List.filterMap_cons, List.filterMap_nil, List.getElem?_toArray, List.getElem?_cons_succ, List.getElem?_cons_zero]
  have N2 := Lib.hid (FrE.out_ (show FrE W0.heap.size 128 (.tuple #[.agg (frV d1 d2 d3), .int .i64 0]) w2 from T24.out))
  have R2 := Lib.hid (R0.out.keep K2.out (fun e => e))
  clear T24
  refine wpList_store_blk rfl 32 (.tmp 8) (.tmp 36) rfl (w.heap.size + 1) 32 _ (frV d1 d2 d3) rfl rfl (R2.out) (rfl) (by kernel_rfl) (by kernel_rfl) ?_
  intro w7 B7_ K7_ sz_
  have B7 := Lib.hid B7_
  have K7 := Lib.hid K7_
  clear B7_ K7_ sz_
  go_frame
  go_wp2
  have nn : ∀ b, W0.heap.size ≤ b → ¬ one (w.heap.size + 1) b := fun b h e => by have := L0.out; unfold one at e; omega
  have n7 := N2.out.keep K7.out (nn _ N2.out.l1) (nn _ N2.out.l2) (nn _ N2.out.l3)
  refine bodyPost_ret (results_cell Tryz.results57 rfl (run_loadVar_blk B7.out Tryz.underlying32 rfl (by kernel_rfl))) rfl ⟨d1, d2, d3, rfl, n7.low (by have := L0.out; omega), (K0.out.trans K2.out).own K7.out (by omega)⟩
/-- A macroblock with its bits and the state behind it. -/
def chV (n : Int) : Array Value := (mbV.toList ++ (.int .i64 n :: stV.toList)).toArray
theorem stV_size : stV.size = 8 := rfl
theorem chV_size (n : Int) : (chV n).size = 417 := by kernel_rfl
def mb0 : Array Value := (([.int .i64 0, .bool false, .bool false, .bool false, .bool false, .int .i64 0, .int .i64 0, .int .i64 0, .int .i64 0, .int .i64 0, .int .i64 0, .int .i64 0, .int .i64 0, .int .i64 0, .int .i64 0, .int .i64 0, .int .i64 0, .int .i64 0, .bool false, .bool false, .bool false, .bool false, .bool false, .bool false] : List Value) ++ List.replicate 384 (Value.int .i64 0)).toArray
def ch0 : Array Value := (mb0.toList ++ List.replicate 9 (Value.int .i64 0)).toArray
def z8 : Array Value := #[.int .i64 0, .int .i64 0, .int .i64 0, .int .i64 0, .int .i64 0, .int .i64 0, .int .i64 0, .int .i64 0]
/-- The region in which a macroblock is written. -/
def wrCalm (wr : World) (g : Nat) : Calm where
  R := fun i w w' => if i = 7 then Keep (fun b => b = g ∨ wr.heap.size ≤ b) w w' ∧ ∀ b cs, Blk w b 113 cs → Blk w' b 113 cs else Keep none_ w w'
  G := fun n w => Keep (fun b => b = g ∨ wr.heap.size ≤ b) wr w ∧ ∃ v m, WrX w g v m ∧ m ≤ 13 * n ∧ ∀ b, ofBlk v b → wr.heap.size ≤ b
  eff := [7, 10, 11]
  T := fun k vs v w => if k = 7 then v = .tuple #[.agg stV, .int .i64 0] else if k = 10 then vs[0]? = some v else NewV wr.heap.size 113 z8 v w
  anc := fun _ => []
  own := fun _ _ _ => False
theorem wrCalm_good (wr : World) (g : Nat) : (wrCalm wr g).Good where
  mono := fun n _ ⟨h1, v, m, h2, h3, h4⟩ => ⟨h1, v, m, h2, by omega, h4⟩
  size := fun i _ _ h => by
    simp only [wrCalm] at h
    split at h
    · exact h.1.size
    · exact h.size
  stable := fun i k vs v w1 w2 _ hne h hR => by
    simp only [wrCalm] at h hR ⊢
    by_cases h7 : k = 7
    · rw [if_pos h7] at h ⊢; exact h
    · rw [if_neg h7] at h ⊢
      by_cases h10 : k = 10
      · rw [if_pos h10] at h ⊢; exact h
      · rw [if_neg h10] at h ⊢
        split at hR
        · obtain ⟨b, e, h1, h2⟩ := h
          exact ⟨b, e, h1, hR.2 b _ h2⟩
        · exact h.keep hR
theorem wrCalm_some (wr : World) (g : Nat) (h : (wrCalm wr g).G 0 wr) : Nonempty (wrCalm wr g).Sub := ⟨⟨wr, 0, Nat.zero_le _, h⟩⟩
theorem wrCalm_at {wr : World} {g : Nat} (x : (wrCalm wr g).Sub) : Keep (fun b => b = g ∨ wr.heap.size ≤ b) wr ((wrCalm wr g).at_ x) := by
  obtain ⟨x, n, _, h⟩ := x
  exact h.1
set_option maxRecDepth 100000 in
set_option maxHeartbeats 4000000 in
theorem cwrite_any (gc : Nat) (A1 A2 A3 : Option Addr) (c1 c2 c3 : Nat) (res : List Value) (w : World) (hc : Blk w gc 67 (cdV (srV A1 A2 A3 c1 c2 c3) res)) : Calls Tryz.prog 88 #[.pointer (some ⟨gc, 0, none⟩), .agg stV, .agg mbV] w fun e w' => ∃ m : Nat, e = .returned (.agg (chV m)) ∧ Keep none_ w w' := by
  obtain ⟨zc, ze, sz⟩ : ∃ zc : Array Value, (∀ w, (zeroValue 116).run Tryz.prog w = .ok (.agg zc) w) ∧ zc.size = 417 := ⟨ch0, fun w => by kernel_rfl, by kernel_rfl⟩
  have SZ := Lib.hid sz
  clear sz
  obtain ⟨W0, hW0⟩ : ∃ W0, W0 = ((w.alloc (.cells stV 113)).alloc (.cells mbV 102)).alloc (.cells zc 116) := ⟨_, rfl⟩
  obtain ⟨s0, m0, r0, k0⟩ := three (Keep.eq_ hW0)
  have S0 := Lib.hid s0
  have M0 := Lib.hid m0
  have R0 := Lib.hid r0
  have C0 := Lib.hid (hc.keep k0 (fun e => e))
  have K0 := Lib.hid k0
  have L0 := Lib.hid (show w.heap.size + 1 + 1 < W0.heap.size from (show Blk _ _ _ _ from r0).lt)
  have G0 := Lib.hid hc.lt
  clear m0 r0 s0 k0 hc
  go_enter Tryz.func88, Tryz.ntmps88
  go_upto_region 1 with (fail)
  rw [← hW0]
  clear hW0
  have tk9 : True := trivial
  go_upto_region 2 with ((have _t := tk9; go_at_call 93; refine (newWriter_any W0).mono ?_; rintro e w1 ⟨rfl, hw, k⟩; have WX1 := Lib.hid hw; clear hw; have KX1 := Lib.hid k; have S1 := Lib.hid (S0.out.keep k (fun e => e)); have M1 := Lib.hid (M0.out.keep k (fun e => e)); have R1 := Lib.hid (R0.out.keep k (fun e => e)); have C1 := Lib.hid (C0.out.keep k (fun e => e)); have K1 := Lib.hid (K0.out.trans k); clear k; clear _t tk9))
  obtain ⟨g, hg⟩ : ∃ g, g = W0.heap.size := ⟨_, rfl⟩
  have LG := Lib.hid (show w.heap.size + 1 + 1 < g from hg ▸ L0.out)
  have LW := Lib.hid (show g < w1.heap.size from hg ▸ WX1.out.1.lt)
  rw [← hg] at WX1 ⊢
  clear hg
  have off : ∀ b, b < g → ¬ (b = g ∨ w1.heap.size ≤ b) := fun b h e => by have := LW.out; omega
  have OFF := Lib.hid off
  clear off
  have g0 : (wrCalm w1 g).G 0 w1 := ⟨Keep.refl _ _, .slice none 0 0, 0, WX1.out, by omega, fun b e => by cases e⟩
  have gd := wrCalm_good w1 g
  have ne := wrCalm_some w1 g g0
  have LC := Lib.hid (show gc < g from by have := G0.out; have := LG.out; omega)
  refine wp_region_calm (wrCalm w1 g) [0, 1, 2, 3, 4, 5, 6, 7, 8, 9, 10, 11] [12] 26 (by kernel_rfl) (by kernel_rfl) rfl gd ⟨(Keep.refl _ _).drew, .slice none 0 0, 0, WX1.out, by omega, fun b e => by cases e⟩ ?_
  simp only [pairs, List.filterMap_cons, List.filterMap_nil, List.getElem?_toArray, List.getElem?_cons_succ, List.getElem?_cons_zero, Option.map_some]
  repeat (refine Calm.walk_quiet ne rfl rfl rfl (fun K hK => ?_); go_big_quiet_op; refine hK _ ?_; clear hK K)
  refine Calm.walk_load 63 (.tmp 13) rfl ne rfl rfl gc 0 rfl #[.int .i64 1, .int .i64 3, .bool false, .bool false] _ (fun y => (C1.out.keep (wrCalm_at y) (OFF.out _ LC.out)).sub 0 [.int .i64 1, .int .i64 3, .bool false, .bool false] (by kernel_rfl)) Tryz.underlying63 rfl (by kernel_rfl) ?_
  go_frame
  refine Calm.walk_load 113 (.tmp 4) rfl ne rfl rfl w.heap.size 0 rfl stV _ (fun y => (S1.out.keep (wrCalm_at y) (OFF.out _ (by have := LG.out; omega))).rangeAt) Tryz.underlying113 rfl (by kernel_rfl) ?_
  go_frame
  refine Calm.walk_load 102 (.tmp 5) rfl ne rfl rfl (w.heap.size + 1) 0 rfl mbV _ (fun y => (M1.out.keep (wrCalm_at y) (OFF.out _ (by have := LG.out; omega))).rangeAt) Tryz.underlying102 rfl (by rw [mbV_size]; kernel_rfl) ?_
  go_frame
  refine Calm.walk_eff rfl rfl (fun n wy hn hG _ => ?_) ?_
  · obtain ⟨h1, v, m, h2, h3, h4⟩ := hG
    have hn3 : n < 3 := hn
    unfold gives
    go_simp
    refine (mput_any g v m wy (by omega) h2).mono ?_
    rintro e wz ⟨v', rfl, q1, q2, q3⟩
    have kk : Keep (fun b => b = g ∨ w1.heap.size ≤ b) wy wz := q2.mono (fun b e => by
      rcases e with e | e
      · exact .inl e
      · exact .inr (h4 b e))
    refine ⟨_, rfl, rfl, ⟨kk, fun b cs hb => hb.keep q2 (h2.off hb (by decide) (by decide))⟩, ⟨h1.trans kk, v', m + 13, q1, by omega, fun b hb => ?_⟩, fun _ h => h.elim⟩
    rcases q3 b hb with e | e
    · exact h4 b e
    · exact Nat.le_trans h1.size e
  intro v wy hv
  obtain rfl : v = .tuple #[.agg stV, .int .i64 0] := hv
  clear wy
  go_frame
  repeat (refine Calm.walk_quiet ne rfl rfl rfl (fun K hK => ?_); go_big_quiet_op; refine hK _ ?_; clear hK K)
  refine Calm.walk_eff rfl rfl (fun n wy hn hG _ => ?_) ?_
  · obtain ⟨h1, v, m, h2, h3, h4⟩ := hG
    unfold gives
    go_simp
    refine (mustSt stV rfl (by kernel_rfl) wy).mono ?_
    rintro e wz ⟨rfl, hk⟩
    exact ⟨_, rfl, rfl, hk, ⟨h1.trans hk.weak, v, m, h2.up hk, by omega, h4⟩, fun _ h => h.elim⟩
  intro v wy hv
  obtain rfl : v = .agg stV := (Option.some.inj (show some (.agg stV) = some v from hv)).symm
  clear wy hv
  go_frame
  refine Calm.walk_eff rfl rfl (fun n wy hn hG _ => ?_) ?_
  · obtain ⟨h1, v, m, h2, h3, h4⟩ := hG
    refine gives_mono (X := fun v w' => v = .pointer (some ⟨wy.heap.size, 0, none⟩) ∧ w' = wy.alloc (.cells z8 113)) ?_ ?_
    · unfold gives
      go_simp
      rfl
    · rintro _ _ ⟨rfl, rfl⟩
      exact ⟨⟨_, rfl, h1.size, Blk.new _ _ _⟩, (Keep.refl _ _).alloc _, ⟨h1.alloc _, v, m, h2.up ((Keep.refl _ _).alloc _), by omega, h4⟩, fun _ h => h.elim⟩
  intro v wy hv
  obtain ⟨b8, rfl, -, -⟩ : NewV w1.heap.size 113 z8 v wy := hv
  clear wy
  go_frame
  intro w2 hG hD
  obtain ⟨k2, vv, m, hw2, -, -⟩ := hG
  have K2 := Lib.hid k2
  have W2 := Lib.hid hw2
  have N2 := Lib.hid (NewV.out_ (show NewV w1.heap.size 113 z8 (.pointer (some ⟨b8, 0, none⟩)) w2 from (hD.1 11 rfl _ rfl ⟨rfl, rfl⟩).1))
  clear hD gd ne g0 k2 hw2
  simp only [pickOps, List.filterMap_cons, List.filterMap_nil, List.getElem?_toArray, List.getElem?_cons_succ, List.getElem?_cons_zero]
  have M2 := Lib.hid (M1.out.keep K2.out (OFF.out _ (by have := LG.out; omega)))
  have R2 := Lib.hid (R1.out.keep K2.out (OFF.out _ LG.out))
  have tk10 : True := trivial
  go_upto_region 3 with ((have _t := tk10; refine wpList_store_blk rfl 113 (.tmp 8) (.tmp 20) rfl (b8) 113 _ (stV) rfl rfl (N2.out.2) (rfl) (by kernel_rfl) (by kernel_rfl) ?_; intro w3 B3_ K3_ sz_; have B3 := Lib.hid B3_; have K3 := Lib.hid K3_; clear B3_ K3_ sz_; go_frame; clear _t tk10))
  have NB := Lib.hid (show ∀ b, b < g ∨ b = g → ¬ one b8 b from fun b h e => by have := N2.out.1; have := LW.out; unfold one at e; omega)
  have M3 := Lib.hid (M2.out.keep K3.out (NB.out _ (by have := LG.out; omega)))
  have R3 := Lib.hid (R2.out.keep K3.out (NB.out _ (by have := LG.out; omega)))
  have NW := Lib.hid (W2.out.off N2.out.2 (by decide) (by decide))
  have W3 := Lib.hid (show WrX w3 g vv m from by
    obtain ⟨h1, xs, h2, h3⟩ := W2.out
    exact ⟨h1.keep K3.out (fun e => NW.out (.inl (Eq.symm e))), xs, own_keep h2 K3.out (fun b hb e => NW.out (.inr (by cases e; exact hb))), h3⟩)
  obtain ⟨X2, S2, H2⟩ : ∃ X : List Value → Value → World → Prop, (∀ vs v w w', X vs v w → Keep none_ w w' → X vs v w') ∧ ∀ vs v w, X vs v w ↔ (v = .int .i64 m) := ⟨fun vs v w => v = .int .i64 m, fun vs v w w' h k => by first | exact h | exact h, fun _ _ _ => Iff.rfl⟩
  have gd := pureCalm_good (w3) [⟨2, X2, S2⟩]
  have ne := pureCalm_some (w3) [⟨2, X2, S2⟩]
  refine wp_region_calm (pureCalm (w3) [⟨2, X2, S2⟩]) [0, 1, 2, 3, 4] [5] 26 (by kernel_rfl) (by kernel_rfl) rfl gd (Keep.refl _ _).drew ?_
  simp only [pairs, List.filterMap_cons, List.filterMap_nil, List.getElem?_toArray, List.getElem?_cons_succ, List.getElem?_cons_zero, Option.map_some]
  refine Calm.walk_load 102 (.tmp 5) rfl ne rfl rfl (w.heap.size + 1) (0) rfl (mbV) _ (fun y => by have k := pureCalm_at y; exact (M3.out.keep k (fun e => e)).rangeAt) Tryz.underlying102 rfl (by rw [mbV_size]; kernel_rfl) ?_
  go_frame
  repeat (refine Calm.walk_quiet ne rfl rfl rfl (fun K hK => ?_); go_big_quiet_op; refine hK _ ?_; clear hK K)
  refine Calm.walk_eff rfl rfl (fun n wy _ hR _ => ?_) ?_
  · have kR : Keep none_ (w3) wy := hR
    unfold gives
    go_simp
    refine (wlen_any g vv m wy (W3.out.up kR)).mono ?_
    rintro e wz ⟨rfl, rfl⟩; have hk : Keep none_ wy wy := Keep.refl _ _
    exact ⟨_, rfl, (H2 _ _ _).2 (rfl), hk, kR.trans hk, fun _ h => h.elim⟩
  intro v wy hv
  obtain rfl : v = .int .i64 m := (H2 _ _ _).1 hv
  clear hv
  clear wy
  go_frame
  refine Calm.walk_load 113 (.tmp 8) rfl ne rfl rfl (b8) (0) rfl (stV) _ (fun y => by have k := pureCalm_at y; exact (B3.out.keep k (fun e => e)).rangeAt) Tryz.underlying113 rfl (by rw [stV_size]; kernel_rfl) ?_
  go_frame
  refine Calm.walk_build 116 _ rfl ne rfl rfl (chV m) (by kernel_rfl) ?_
  go_frame
  intro w4 hG hD
  have K4 := Lib.hid (show Keep none_ (w3) w4 from hG)
  clear hG hD gd ne 
  clear H2
  clear S2
  clear X2
  simp only [pickOps, List.filterMap_cons, List.filterMap_nil, List.getElem?_toArray, List.getElem?_cons_succ, List.getElem?_cons_zero]
  have R4 := Lib.hid (R3.out.keep K4.out (fun e => e))
  refine wpList_store_blk rfl 116 (.tmp 6) (.tmp 25) rfl (w.heap.size + 1 + 1) 116 _ (chV m) rfl rfl (R4.out) (by rw [SZ.out, chV_size]) (by rw [chV_size]; kernel_rfl) (by kernel_rfl) ?_
  intro w5 B5_ K5_ sz_
  have B5 := Lib.hid B5_
  have K5 := Lib.hid K5_
  clear B5_ K5_ sz_
  go_frame
  go_wp2
  have kk : Keep none_ w w3 := (K1.out.then K2.out (fun b e => .inr (by have := LG.out; have := KX1.out.size; rcases e with e | e; omega; have := LW.out; omega))).own K3.out (by have := N2.out.1; have := LW.out; have := LG.out; omega)
  refine bodyPost_ret (results_cell Tryz.results88 rfl (run_loadVar_blk B5.out Tryz.underlying116 rfl (by rw [chV_size]; kernel_rfl))) rfl ⟨m, rfl, (kk.trans K4.out).own K5.out (by omega)⟩
end Go.Proofs.YtebdgoikmclflaaGreatDoor
