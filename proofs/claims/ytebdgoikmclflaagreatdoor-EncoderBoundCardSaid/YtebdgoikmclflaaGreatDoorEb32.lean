/-
  macroblock.Formed, Start, after; the putter's parts.
-/
import Derived.Test.YtebdgoikmclflaaGreatDoorEb31
namespace Go.Proofs.YtebdgoikmclflaaGreatDoor
open Go.RowKit

set_option maxRecDepth 100000 in
set_option maxHeartbeats 1000000 in
theorem formed_mb (w : World) : Calls Tryz.prog 75 #[.agg #[.int .i64 1, .int .i64 3, .bool false, .bool false], .agg mbV] w fun e w' => e = .returned (.bool true) ∧ Keep none_ w w' := by
  have z1 : ∀ w, (zeroValue 91).run Tryz.prog w = .ok (.agg #[.bool false, .bool false]) w := fun w => by kernel_rfl
  have z2 : ∀ w, (zeroValue 95).run Tryz.prog w = .ok (.agg #[.int .i64 0, .int .i64 0, .int .i64 0, .int .i64 0, .int .i64 0, .int .i64 0, .int .i64 0, .int .i64 0]) w := fun w => by kernel_rfl
  have z3 : ∀ w, (zeroValue 97).run Tryz.prog w = .ok (.agg #[.int .i64 0, .int .i64 0, .int .i64 0, .int .i64 0]) w := fun w => by kernel_rfl
  obtain ⟨W0, hW0⟩ : ∃ W0, W0 = (w.alloc (.cells #[.int .i64 1, .int .i64 3, .bool false, .bool false] 63)).alloc (.cells mbV 102) := ⟨_, rfl⟩
  obtain ⟨c0, m0, k0⟩ := two (Keep.eq_ hW0)
  have C0 := Lib.hid c0
  have M0 := Lib.hid m0
  have K0 := Lib.hid k0
  clear c0 m0 k0
  have t1 : True := trivial
  have t2 : True := trivial
  have t3 : True := trivial
  have t4 : True := trivial
  have t5 : True := trivial
  have t6 : True := trivial
  have t7 : True := trivial
  have t8 : True := trivial
  go_enter Tryz.func75, Tryz.ntmps75
  go_upto_region 1 with (fail)
  rw [← hW0]
  clear hW0
  go_upto_region 3 with (first | (have _t := t1; refine wpList_load_part 63 (.tmp 2) rfl rfl w.heap.size 0 rfl #[.int .i64 1, .int .i64 3, .bool false, .bool false] _ C0.out.rangeAt Tryz.underlying63 rfl (by kernel_rfl) ?_; go_frame; clear _t t1) | (have _t := t2; go_at_call 98; refine (vcontext_any W0).mono ?_; rintro e w2 ⟨rfl, k2⟩; have C2 := Lib.hid (C0.out.keep k2 (fun e => e)); have M2 := Lib.hid (M0.out.keep k2 (fun e => e)); have K2 := Lib.hid (K0.out.trans k2); have x0 : w2.cell? ⟨w.heap.size + 1, 0, none⟩ = some (.int .i64 1) := M2.out.cell 0; clear k2 _t t2))
  have x0 : w2.cell? ⟨w.heap.size + 1, 0, none⟩ = some (.int .i64 1) := M2.out.cell 0
  have x3 : w2.cell? ⟨w.heap.size + 1, 3, none⟩ = some (.bool false) := M2.out.cell 3
  go_upto_region 8 with (first | (have _t := t3; refine wpList_load_part 91 (.tmp 28) rfl rfl (w.heap.size + 1) 1 rfl #[.bool false, .bool false] _ (M2.out.sub _ _ (by kernel_rfl)) Tryz.underlying91 rfl (by kernel_rfl) ?_; go_frame; clear _t t3) | (have _t := t4; refine wpList_eql_agg 91 (.tmp 29) (.tmp 30) 91 rfl rfl _ _ rfl rfl (by kernel_rfl) true (fun w => by kernel_rfl) ?_; go_frame; clear _t t4) | (have _t := t5; refine wpList_load_part 95 (.tmp 38) rfl rfl (w.heap.size + 1) 5 rfl #[.int .i64 0, .int .i64 0, .int .i64 0, .int .i64 0, .int .i64 0, .int .i64 0, .int .i64 0, .int .i64 0] _ (M2.out.sub _ _ (by kernel_rfl)) Tryz.underlying95 rfl (by kernel_rfl) ?_; go_frame; clear _t t5) | (have _t := t6; refine wpList_eql_agg 95 (.tmp 39) (.tmp 40) 95 rfl rfl _ _ rfl rfl (by kernel_rfl) true (fun w => by kernel_rfl) ?_; go_frame; clear _t t6) | (have _t := t7; refine wpList_load_part 97 (.tmp 44) rfl rfl (w.heap.size + 1) 13 rfl #[.int .i64 0, .int .i64 0, .int .i64 0, .int .i64 0] _ (M2.out.sub _ _ (by kernel_rfl)) Tryz.underlying97 rfl (by kernel_rfl) ?_; go_frame; clear _t t7) | (have _t := t8; refine wpList_eql_agg 97 (.tmp 45) (.tmp 46) 97 rfl rfl _ _ rfl rfl (by kernel_rfl) true (fun w => by kernel_rfl) ?_; go_frame; clear _t t8))
  obtain ⟨us, hus⟩ : ∃ us : Nat → Value, us = fun k => if k = 4 then .agg six else .bool true := ⟨_, rfl⟩
  have US := Lib.hid hus
  clear hus
  have gd := valCalm_good w2 [4, 9, 12] us
  have ne := valCalm_some w2 [4, 9, 12] us
  have xc : ∀ y : (valCalm w2 [4, 9, 12] us).Sub, ((valCalm w2 [4, 9, 12] us).at_ y).rangeAt (w.heap.size + 1) 18 six.toList := fun y => (M2.out.keep (valCalm_at y) (fun e => e)).sub _ _ (by kernel_rfl)
  have xx : ∀ y : (valCalm w2 [4, 9, 12] us).Sub, ((valCalm w2 [4, 9, 12] us).at_ y).rangeAt w.heap.size 0 #[.int .i64 1, .int .i64 3, .bool false, .bool false].toList := fun y => (C2.out.keep (valCalm_at y) (fun e => e)).rangeAt
  refine wp_region_calm (valCalm w2 [4, 9, 12] us) [0, 1, 2, 3, 4, 5, 6, 7, 8, 9, 10, 11, 12, 13, 14] [] 77 (by kernel_rfl) (by kernel_rfl) rfl gd (Keep.refl _ _).drew ?_
  simp only [pairs, List.filterMap_cons, List.filterMap_nil, List.getElem?_toArray, List.getElem?_cons_succ, List.getElem?_cons_zero, Option.map_some]
  repeat (refine Calm.walk_quiet ne rfl rfl rfl (fun K hK => ?_); go_big_quiet_op; refine hK _ ?_; clear hK K)
  refine Calm.walk_load 98 (.tmp 51) rfl ne rfl rfl (w.heap.size + 1) 18 rfl six _ xc Tryz.underlying98 rfl (by kernel_rfl) ?_
  go_frame
  refine Calm.walk_eff rfl rfl (fun n wy _ hR _ => ?_) ?_
  · have hR' : Keep none_ w2 wy := hR
    unfold gives
    go_simp
    refine (allBlocks_any wy).mono ?_
    rintro e wz ⟨rfl, hk⟩
    exact ⟨_, rfl, (by show _ = us _; rw [US.out]; rfl), hk, hR'.trans hk, fun _ h => h.elim⟩
  intro v wy hv
  obtain rfl : v = .agg six := by have h : v = us 4 := hv; rw [US.out] at h; exact h
  clear wy hv
  go_frame
  refine Calm.walk_eql 98 (.tmp 52) (.tmp 53) 98 rfl ne rfl rfl six six rfl rfl (by kernel_rfl) true (fun w => by kernel_rfl) ?_
  go_frame
  repeat (refine Calm.walk_quiet ne rfl rfl rfl (fun K hK => ?_); go_big_quiet_op; refine hK _ ?_; clear hK K)
  refine Calm.walk_load 63 (.tmp 2) rfl ne rfl rfl w.heap.size 0 rfl #[.int .i64 1, .int .i64 3, .bool false, .bool false] _ xx Tryz.underlying63 rfl (by kernel_rfl) ?_
  go_frame
  refine Calm.walk_eff rfl rfl (fun n wy _ hR _ => ?_) ?_
  · have hR' : Keep none_ w2 wy := hR
    unfold gives
    go_simp
    refine (formedChange_any (w.heap.size + 1) wy (M2.out.keep hR' (fun e => e))).mono ?_
    rintro e wz ⟨rfl, hk⟩
    exact ⟨_, rfl, (by show _ = us _; rw [US.out]; rfl), hk, hR'.trans hk, fun _ h => h.elim⟩
  intro v wy hv
  obtain rfl : v = .bool true := by have h : v = us 9 := hv; rw [US.out] at h; exact h
  clear wy hv
  go_frame
  repeat (refine Calm.walk_quiet ne rfl rfl rfl (fun K hK => ?_); go_big_quiet_op; refine hK _ ?_; clear hK K)
  refine Calm.walk_eff rfl rfl (fun n wy _ hR _ => ?_) ?_
  · have hR' : Keep none_ w2 wy := hR
    unfold gives
    go_simp
    refine (levelsInRange_any (w.heap.size + 1) wy (M2.out.keep hR' (fun e => e))).mono ?_
    rintro e wz ⟨rfl, rfl⟩
    exact ⟨_, rfl, (by show _ = us _; rw [US.out]; rfl), Keep.refl _ _, hR', fun _ h => h.elim⟩
  intro v wy hv
  obtain rfl : v = .bool true := by have h : v = us 12 := hv; rw [US.out] at h; exact h
  clear wy hv
  go_frame
  repeat (refine Calm.walk_quiet ne rfl rfl rfl (fun K hK => ?_); go_big_quiet_op; refine hK _ ?_; clear hK K)
  intro w3 hG hD
  have K3 := Lib.hid (K2.out.trans (show Keep none_ w2 w3 from hG))
  clear hG hD gd ne xc xx US
  simp only [pickOps, List.filterMap_nil]
  go_wp2
  go_ret
  exact ⟨rfl, K3.out⟩
set_option maxRecDepth 100000 in
theorem component0 (n : Nat) (hn : n < 6) (w : World) : Calls Tryz.prog 151 #[.int .i64 n] w fun e w' => e = .returned (.int .i64 (n - 3 : Nat)) ∧ w = w' := by
  rcases (show n = 0 ∨ n = 1 ∨ n = 2 ∨ n = 3 ∨ n = 4 ∨ n = 5 by omega) with rfl | rfl | rfl | rfl | rfl | rfl
  all_goals
    go_enter Tryz.func151, Tryz.ntmps151
    go_wp2
    go_ret
    exact ⟨rfl, rfl⟩
set_option maxRecDepth 100000 in
theorem start_any (w : World) : Calls Tryz.prog 55 #[.int .i64 8] w fun e w' => e = .returned (.agg stV) ∧ Keep none_ w w' := by
  have ze : ∀ w, (zeroValue 113).run Tryz.prog w = .ok (.agg #[.int .i64 0, .int .i64 0, .int .i64 0, .int .i64 0, .int .i64 0, .int .i64 0, .int .i64 0, .int .i64 0]) w := fun w => by kernel_rfl
  have t1 : True := trivial
  have t2 : True := trivial
  go_enter Tryz.func55, Tryz.ntmps55
  go_wp2_with (first | (have _t := t1; refine wpList_build_is 113 _ rfl rfl stV (by kernel_rfl) ?_; go_frame; clear _t t1) | (have _t := t2; refine wpList_store_blk rfl 113 (.tmp 2) (.tmp 4) rfl w.heap.size 113 _ stV rfl rfl (Blk.new _ _ _) rfl (by kernel_rfl) (by kernel_rfl) ?_; intro w3 h5 k5 s5; have B3 := Lib.hid h5; have KX3 := Lib.hid (show Keep none_ w w3 from ((Keep.refl none_ w).alloc _).own k5 (Nat.le_refl _)); clear h5 k5 s5; go_frame; clear _t t2))
  refine bodyPost_ret (results_cell Tryz.results55 rfl (run_loadVar_blk B3.out Tryz.underlying113 rfl (by kernel_rfl))) rfl ⟨rfl, KX3.out⟩
set_option maxRecDepth 100000 in
set_option maxHeartbeats 1000000 in
theorem after_any (w : World) : Calls Tryz.prog 105 #[.agg stV, .int .i64 1] w fun e w' => e = .returned (.agg stV) ∧ Keep none_ w w' := by
  have ze : ∀ w, (zeroValue 113).run Tryz.prog w = .ok (.agg #[.int .i64 0, .int .i64 0, .int .i64 0, .int .i64 0, .int .i64 0, .int .i64 0, .int .i64 0, .int .i64 0]) w := fun w => by kernel_rfl
  have z2 : ∀ w, (zeroValue 94).run Tryz.prog w = .ok (.agg #[.int .i64 0, .int .i64 0, .int .i64 0, .int .i64 0]) w := fun w => by kernel_rfl
  obtain ⟨W0, hW0⟩ : ∃ W0, W0 = (w.alloc (.cells stV 113)).alloc (.cells #[.int .i64 0, .int .i64 0, .int .i64 0, .int .i64 0, .int .i64 0, .int .i64 0, .int .i64 0, .int .i64 0] 113) := ⟨_, rfl⟩
  obtain ⟨c0, m0, k0⟩ := two (Keep.eq_ hW0)
  have C0 := Lib.hid c0
  have M0 := Lib.hid m0
  have K0 := Lib.hid k0
  clear c0 m0 k0
  have t1 : True := trivial
  have t2 : True := trivial
  have t3 : True := trivial
  go_enter Tryz.func105, Tryz.ntmps105
  go_upto_region 1 with (fail)
  rw [← hW0]
  clear hW0
  go_wp2_with (first | (have _t := t1; refine wpList_store_mid rfl 94 (.tmp 12) (.tmp 11) rfl w.heap.size 4 #[.int .i64 0, .int .i64 0, .int .i64 0, .int .i64 0] rfl rfl (C0.out.there 4 4 (by decide)) (by kernel_rfl) (by kernel_rfl) ?_; have C1 := Lib.hid (show Blk (W0.setCells w.heap.size 4 [.int .i64 0, .int .i64 0, .int .i64 0, .int .i64 0]) w.heap.size 113 stV from Blk.setCells w.heap.size [.int .i64 0, .int .i64 0, .int .i64 0, .int .i64 0] 4 W0 stV C0.out); have KX1 := Lib.hid (show Keep (one w.heap.size) W0 (W0.setCells w.heap.size 4 [.int .i64 0, .int .i64 0, .int .i64 0, .int .i64 0]) from Keep.setCells _ _ _ _); obtain ⟨w1, hw1⟩ : ∃ w1, w1 = W0.setCells w.heap.size 4 [.int .i64 0, .int .i64 0, .int .i64 0, .int .i64 0] := ⟨_, rfl⟩; rw [← hw1] at C1 KX1; have hw2 := hw1.symm; clear hw1; go_frame; rw [hw2]; clear hw2 _t t1) | (have _t := t2; refine wpList_load_part 113 (.tmp 2) rfl rfl w.heap.size 0 rfl stV _ C1.out.rangeAt Tryz.underlying113 rfl (by kernel_rfl) ?_; go_frame; clear _t t2) | (have _t := t3; refine wpList_store_blk rfl 113 (.tmp 4) (.tmp 13) rfl (w.heap.size + 1) 113 _ stV rfl rfl (M0.out.keep KX1.out (fun e => by unfold one at e; omega)) rfl (by kernel_rfl) (by kernel_rfl) ?_; intro w3 h5 k5 s5; have B3 := Lib.hid h5; have K3 := Lib.hid k5; clear h5 k5 s5; go_frame; clear _t t3))
  refine bodyPost_ret (results_cell Tryz.results105 rfl (run_loadVar_blk B3.out Tryz.underlying113 rfl (by kernel_rfl))) rfl ⟨rfl, (K0.out.own KX1.out (Nat.le_refl _)).own K3.out (Nat.le_succ _)⟩
end Go.Proofs.YtebdgoikmclflaaGreatDoor
/-
  macroblock's putter: its parts.
-/
namespace Go.Proofs.YtebdgoikmclflaaGreatDoor
open Go.RowKit

/-- The putter of the Intra macroblock in block bm with the writer in block g. -/
def pV (g bm : Nat) : Array Value := #[.int .i64 8, .int .i64 0, .int .i64 0, .int .i64 0, .int .i64 0, .int .i64 0, .int .i64 0, .int .i64 0, .pointer (some ⟨g, 0, none⟩), .int .i64 1, .int .i64 3, .bool false, .bool false, .pointer (some ⟨bm, 0, none⟩)]
theorem WrX.off {w : World} {g : Nat} {v : Value} {n : Nat} (h : WrX w g v n) {p : Nat} {t : TypeId} {cs : Array Value} (hb : Blk w p t cs) (h1 : t ≠ 5) (h2 : t ≠ 195) : ¬ wset g v p := by
  rintro (e | e)
  · subst e
    exact Blk.ne_ hb h.1 h2 rfl
  · obtain ⟨h0, xs, hr, -⟩ := h
    exact ofBlk_ne hr hb (Ne.symm h1) e
theorem WrX.far {w : World} {g : Nat} {v : Value} {n : Nat} (h : WrX w g v n) {p : Nat} (hp : ¬ wset g v p) (k : Nat) (u : Value) : WrX (w.setCell ⟨p, k, none⟩ u) g v n := by
  obtain ⟨h1, xs, h2, h3⟩ := h
  have kk : Keep (one p) w (w.setCell ⟨p, k, none⟩ u) := (Keep.refl (one p) w).setCell (p := ⟨p, k, none⟩) (.inl rfl) u
  exact ⟨h1.keep kk (fun e => hp (.inl (Eq.symm e))), xs, own_keep h2 kk (fun b hb e => hp (.inr (by cases e; exact hb))), h3⟩
/-- What a putter's part leaves. -/
def PartPost (g p bm : Nat) (vv : Value) (n k : Nat) (w : World) (e : Ending) (w' : World) : Prop := e = .returned (.tuple #[]) ∧ ∃ v2, WrX w' g v2 (n + k) ∧ Blk w' p 197 (pV g bm) ∧ Blk w' bm 102 mbV ∧ Keep (fun b => wset g vv b ∨ b = p) w w' ∧ ∀ b, ofBlk v2 b → ofBlk vv b ∨ w.heap.size ≤ b
section
variable (g p bm : Nat) (vv : Value) (n : Nat) (w : World)
set_option maxRecDepth 100000 in
theorem kind_any (hw : WrX w g vv n) (hp : Blk w p 197 (pV g bm)) (hm : Blk w bm 102 mbV) : Calls Tryz.prog 136 #[.pointer (some ⟨p, 0, none⟩)] w (PartPost g p bm vv n 0 w) := by
  have x9 : w.cell? ⟨p, 9, none⟩ = some (.int .i64 1) := hp.cell 9
  have HW := Lib.hid hw
  have HP := Lib.hid hp
  have HM := Lib.hid hm
  clear hw hp hm
  go_enter Tryz.func136, Tryz.ntmps136
  go_wp2
  first | go_end0 | refine bodyPost_ret (results_none Tryz.results136 _ _ _) rfl ?_
  exact ⟨rfl, vv, HW.out, HP.out, HM.out, Keep.refl _ _, fun _ h => .inl h⟩
set_option maxRecDepth 100000 in
theorem prediction_any (hw : WrX w g vv n) (hp : Blk w p 197 (pV g bm)) (hm : Blk w bm 102 mbV) : Calls Tryz.prog 137 #[.pointer (some ⟨p, 0, none⟩)] w (PartPost g p bm vv n 0 w) := by
  have x13 : w.cell? ⟨p, 13, none⟩ = some (.pointer (some ⟨bm, 0, none⟩)) := hp.cell 13
  have x0 : w.cell? ⟨bm, 0, none⟩ = some (.int .i64 1) := hm.cell 0
  have HW := Lib.hid hw
  have HP := Lib.hid hp
  have HM := Lib.hid hm
  clear hw hp hm
  go_enter Tryz.func137, Tryz.ntmps137
  go_wp2
  first | go_end0 | refine bodyPost_ret (results_none Tryz.results137 _ _ _) rfl ?_
  exact ⟨rfl, vv, HW.out, HP.out, HM.out, Keep.refl _ _, fun _ h => .inl h⟩
set_option maxRecDepth 100000 in
theorem coded_any (hw : WrX w g vv n) (hp : Blk w p 197 (pV g bm)) (hm : Blk w bm 102 mbV) : Calls Tryz.prog 139 #[.pointer (some ⟨p, 0, none⟩)] w (PartPost g p bm vv n 0 w) := by
  have x13 : w.cell? ⟨p, 13, none⟩ = some (.pointer (some ⟨bm, 0, none⟩)) := hp.cell 13
  have x0 : w.cell? ⟨bm, 0, none⟩ = some (.int .i64 1) := hm.cell 0
  have HW := Lib.hid hw
  have HP := Lib.hid hp
  have HM := Lib.hid hm
  clear hw hp hm
  go_enter Tryz.func139, Tryz.ntmps139
  go_wp2
  first | go_end0 | refine bodyPost_ret (results_none Tryz.results139 _ _ _) rfl ?_
  exact ⟨rfl, vv, HW.out, HP.out, HM.out, Keep.refl _ _, fun _ h => .inl h⟩
set_option maxRecDepth 100000 in
set_option maxHeartbeats 2000000 in
theorem change_any (hn : n ≤ 900) (hw : WrX w g vv n) (hp : Blk w p 197 (pV g bm)) (hm : Blk w bm 102 mbV) : Calls Tryz.prog 138 #[.pointer (some ⟨p, 0, none⟩)] w (PartPost g p bm vv n 1 w) := by
  have x13 : w.cell? ⟨p, 13, none⟩ = some (.pointer (some ⟨bm, 0, none⟩)) := hp.cell 13
  have H0 := Lib.hid hw
  have HP := Lib.hid hp
  have HM := Lib.hid hm
  clear hw hp hm
  have t1 : True := trivial
  have t2 : True := trivial
  have t3 : True := trivial
  go_enter Tryz.func138, Tryz.ntmps138
  go_upto_region 3 with (first | (have _t := t1; go_at_call 153; refine (hasLevels_any bm w HM.out).mono ?_; rintro e w' ⟨rfl, rfl⟩; clear _t t1) | (have _t := t2; refine wpList_load_part 63 (.tmp 10) rfl rfl p 9 rfl #[.int .i64 1, .int .i64 3, .bool false, .bool false] _ (HP.out.sub _ _ rfl) Tryz.underlying63 rfl (by kernel_rfl) ?_; go_frame; clear _t t2) | (have _t := t3; go_at_call 145; refine (bothKinds_any w).mono ?_; rintro e w2 ⟨rfl, k2⟩; have K2 := Lib.hid k2; clear k2 _t t3))
  have HW := Lib.hid (H0.out.up K2.out)
  have P2 := Lib.hid (HP.out.keep K2.out (fun e => e))
  have M2 := Lib.hid (HM.out.keep K2.out (fun e => e))
  have NP := Lib.hid (HW.out.off P2.out (by decide) (by decide))
  have NM := Lib.hid (HW.out.off M2.out (by decide) (by decide))
  clear x13
  obtain ⟨X, hX⟩ : ∃ X : Value → World → Prop, X = fun u wq => u = .int .i64 0 ∧ ∃ v2, WrX wq g v2 (n + 1) ∧ ∀ b, ofBlk v2 b → ofBlk vv b ∨ w2.heap.size ≤ b := ⟨_, rfl⟩
  have HX := Lib.hid hX
  clear hX
  have gd := effCalm_good (wr := w2) (k := 11) (S := wset g vv) (X := X)
  have ne := effCalm_some w2 11 (wset g vv) X
  have x8 : ∀ y : (effCalm w2 11 (wset g vv) X).Sub, ((effCalm w2 11 (wset g vv) X).at_ y).cell? ⟨p, 8, none⟩ = some (.pointer (some ⟨g, 0, none⟩)) := fun y => (effCalm_at y).cell (P2.out.cell 8) NP.out
  have x13 : ∀ y : (effCalm w2 11 (wset g vv) X).Sub, ((effCalm w2 11 (wset g vv) X).at_ y).cell? ⟨p, 13, none⟩ = some (.pointer (some ⟨bm, 0, none⟩)) := fun y => (effCalm_at y).cell (P2.out.cell 13) NP.out
  have x17 : ∀ y : (effCalm w2 11 (wset g vv) X).Sub, ((effCalm w2 11 (wset g vv) X).at_ y).cell? ⟨bm, 17, none⟩ = some (.int .i64 0) := fun y => (effCalm_at y).cell (M2.out.cell 17) NM.out
  refine wp_region_calm (effCalm w2 11 (wset g vv) X) [0, 1, 2, 3, 4, 5, 6, 7, 8, 9, 10, 11] [] 50 (by kernel_rfl) (by kernel_rfl) rfl gd ⟨(Keep.refl _ _).drew, fun _ => (Keep.refl _ _).drew⟩ ?_
  simp only [pairs, List.filterMap_cons, List.filterMap_nil, List.getElem?_toArray, List.getElem?_cons_succ, List.getElem?_cons_zero, Option.map_some]
  repeat (refine Calm.walk_quiet ne rfl rfl rfl (fun K hK => ?_); go_big_quiet_op; refine hK _ ?_; clear hK K)
  refine Calm.walk_eff rfl rfl (fun m wy hm hG _ => ?_) ?_
  · obtain ⟨g1, g2⟩ := hG
    have hm0 : m = 0 := by simp only [effCalm, List.length_cons, List.length_nil] at hm; omega
    have gk := g2 hm0
    unfold gives
    go_simp
    refine (puts0 g vv n wy (HW.out.up gk) (by omega)).mono ?_
    rintro e wz ⟨v2, rfl, hw2, hu2⟩
    exact ⟨_, rfl, (by show X _ _; rw [HX.out]; exact ⟨rfl, v2, hw2, fun b hb => (hu2.2 b hb).imp id (fun h => Nat.le_trans gk.size h)⟩), ⟨rfl, hu2.1⟩, ⟨g1.trans hu2.1, fun e => by cases e⟩, fun _ h => h.elim⟩
  intro u wy hT
  obtain ⟨rfl, -⟩ : u = .int .i64 0 ∧ _ := by have h : X u wy := hT; rw [HX.out] at h; exact h
  clear wy hT
  go_frame
  repeat (refine Calm.walk_quiet ne rfl rfl rfl (fun K hK => ?_); go_big_quiet_op; refine hK _ ?_; clear hK K)
  intro w3 hG hD
  obtain ⟨v2, hw2, hat2⟩ : ∃ v2, WrX w3 g v2 (n + 1) ∧ ∀ b, ofBlk v2 b → ofBlk vv b ∨ w2.heap.size ≤ b := by have h : X _ w3 := (hD.1 11 rfl _ rfl ⟨rfl, rfl⟩).1; rw [HX.out] at h; exact h.2
  have HWw3 := Lib.hid hw2
  have Uw3 := Lib.hid (show Up g vv v2 w2 w3 from ⟨hG.1, hat2⟩)
  clear hG hD gd ne HX hw2 hat2
  clear x8 x13 x17
  simp only [pickOps, List.filterMap_nil]
  have P3 := Lib.hid (P2.out.keep Uw3.out.1 NP.out)
  have M3 := Lib.hid (M2.out.keep Uw3.out.1 NM.out)
  go_upto_region 4 with (fail)
  have y0 : w3.cell? ⟨p, 0, none⟩ = some (.int .i64 8) := P3.out.cell 0
  have y13 : w3.cell? ⟨p, 13, none⟩ = some (.pointer (some ⟨bm, 0, none⟩)) := P3.out.cell 13
  have y17 : w3.cell? ⟨bm, 17, none⟩ = some (.int .i64 0) := M3.out.cell 17
  have z0 := Blk.frozen P3.out 0
  have PS := Lib.hid (show Blk (w3.setCell ⟨p, 0, none⟩ (.int .i64 8)) p 197 (pV g bm) from P3.out.set_ 0 (.int .i64 8))
  have NPm := Lib.hid (show bm ≠ p from fun e => Blk.ne_ M3.out P3.out (by decide) e)
  have MS := Lib.hid (show Blk (w3.setCell ⟨p, 0, none⟩ (.int .i64 8)) bm 102 mbV from M3.out.far (p := ⟨p, 0, none⟩) NPm.out _)
  have WS := Lib.hid (show WrX (w3.setCell ⟨p, 0, none⟩ (.int .i64 8)) g v2 (n + 1) from WrX.far HWw3.out (HWw3.out.off P3.out (by decide) (by decide)) 0 (.int .i64 8))
  have KS := Lib.hid (show Keep (fun b => wset g vv b ∨ b = p) w (w3.setCell ⟨p, 0, none⟩ (.int .i64 8)) from ((K2.out.weak).trans (Uw3.out.1.mono (fun b e => .inl e))).setCell (p := ⟨p, 0, none⟩) (.inl (.inr rfl)) _)
  have AT := Lib.hid (show ∀ b, ofBlk v2 b → ofBlk vv b ∨ w.heap.size ≤ b from fun b hb => (Uw3.out.2 b hb).imp id (fun h => Nat.le_trans K2.out.size h))
  have gd := still_good (w3).drew
  have ne := still_some (w3).drew
  have hx := still_at (w3).drew
  refine wp_region_calm (stillCalm (w3).drew) [0, 1, 2, 3, 4, 5, 6, 7, 8, 9, 10, 11, 12, 13, 14, 15] [16] 50 (by kernel_rfl) (by kernel_rfl) rfl gd rfl ?_
  simp only [pairs, List.filterMap_cons, List.filterMap_nil, List.getElem?_toArray, List.getElem?_cons_succ, List.getElem?_cons_zero, Option.map_some]
  repeat (refine Calm.walk_quiet ne rfl rfl rfl (fun K hK => ?_); go_big_quiet_op; refine hK _ ?_; clear hK K)
  intro w' hR _
  obtain rfl : w' = (w3).drew := hR.symm
  simp only [pickOps, List.filterMap_cons, List.filterMap_nil, List.getElem?_toArray, List.getElem?_cons_succ, List.getElem?_cons_zero]
  clear gd ne hx hR
  go_wp2
  first | go_end0 | refine bodyPost_ret (results_none Tryz.results138 _ _ _) rfl ?_
  exact ⟨rfl, v2, WS.out.up (Keep.refl none_ _).drew, PS.out.drew, MS.out.drew, KS.out.drew, AT.out⟩
end
end Go.Proofs.YtebdgoikmclflaaGreatDoor
