/-
  encoder.Bound, and the reference's.
-/
import Derived.Test.YtebdgoikmclflaaGreatDoorEb10
import Derived.Test.YtebdgoikmclflaaGreatDoorEb12
namespace Go.Proofs.YtebdgoikmclflaaGreatDoor
open Go.RowKit

def ebF (s : Sq) (q : Int) : Int := if seqOk s && qOk q then max (bndF s.ia q) (bndF s.ie q) else 0
set_option maxRecDepth 100000 in
set_option maxHeartbeats 2000000 in
theorem ebound_any (s : Sq) (q : Int) (w : World) (ok : s.Ok) (hu : U8r s.ia ∧ U8r s.ie) : Calls Tryz.prog 5 #[.agg s.cells, .int .i64 q] w fun e w' => e = .returned (.int .i64 (ebF s q)) ∧ Keep none_ w w' := by
  have SV := Lib.hid (fun w => validSeq_any s w ok)
  have VQ := Lib.hid (fun w => vqE q w)
  obtain ⟨cs, hcs⟩ : ∃ cs, cs = s.cells := ⟨_, rfl⟩
  obtain ⟨W0, hW0⟩ : ∃ W0, W0 = w.alloc (.cells cs 26) := ⟨_, rfl⟩
  have k0 : Keep none_ w W0 := hW0 ▸ (Keep.refl _ _).alloc _
  have b0 : Blk W0 w.heap.size 26 s.cells := hcs ▸ hW0 ▸ Blk.new _ _ _
  have B0 := Lib.hid b0
  have K0 := Lib.hid k0
  have CZ := Lib.hid (s.cells_size ok)
  rw [← hcs]
  clear k0 b0 hcs
  have t1 : True := trivial
  have t2 : True := trivial
  have t3 : True := trivial
  go_enter Tryz.func5, Tryz.ntmps5
  go_upto_region 1 with (fail)
  rw [← hW0]
  clear hW0
  cases hs : seqOk s with
  | false =>
    rw [hs] at SV
    have Q := Lib.hid (show ebF s q = 0 by unfold ebF; rw [hs]; rfl)
    clear hs
    go_wp2_with (first | (have _t := t1; refine wpList_load_blk rfl 26 (.tmp 2) rfl w.heap.size 26 _ _ rfl B0.out Tryz.underlying26 rfl (by rw [CZ.out]; kernel_rfl) ?_; go_frame; clear _t t1) | (have _t := t2; go_at_call 11; refine (SV.out W0).mono ?_; rintro e w2 ⟨rfl, k2⟩; have R2 := Lib.hid (B0.out.keep k2 (fun e => e)); have K2 := Lib.hid (K0.out.trans k2); clear k2 _t t2) | (have _t := t3; go_at_call 12; refine (VQ.out w2).mono ?_; rintro e w' ⟨rfl, rfl⟩; clear _t t3))
    go_ret
    exact ⟨by rw [Q.out]; rfl, K2.out⟩
  | true =>
    rw [hs] at SV
    cases hq : qOk q with
    | false =>
      rw [hq] at VQ
      have Q := Lib.hid (show ebF s q = 0 by unfold ebF; rw [hs, hq]; rfl)
      clear hs hq
      go_wp2_with (first | (have _t := t1; refine wpList_load_blk rfl 26 (.tmp 2) rfl w.heap.size 26 _ _ rfl B0.out Tryz.underlying26 rfl (by rw [CZ.out]; kernel_rfl) ?_; go_frame; clear _t t1) | (have _t := t2; go_at_call 11; refine (SV.out W0).mono ?_; rintro e w2 ⟨rfl, k2⟩; have R2 := Lib.hid (B0.out.keep k2 (fun e => e)); have K2 := Lib.hid (K0.out.trans k2); clear k2 _t t2) | (have _t := t3; go_at_call 12; refine (VQ.out w2).mono ?_; rintro e w' ⟨rfl, rfl⟩; clear _t t3))
      go_ret
      exact ⟨by rw [Q.out]; rfl, K2.out⟩
    | true =>
      rw [hq] at VQ
      have Q := Lib.hid (show ebF s q = max (bndF s.ia q) (bndF s.ie q) by unfold ebF; rw [hs, hq]; rfl)
      clear hs hq
      go_upto_region 3 with (first | (have _t := t1; refine wpList_load_blk rfl 26 (.tmp 2) rfl w.heap.size 26 _ _ rfl B0.out Tryz.underlying26 rfl (by rw [CZ.out]; kernel_rfl) ?_; go_frame; clear _t t1) | (have _t := t2; go_at_call 11; refine (SV.out W0).mono ?_; rintro e w2 ⟨rfl, k2⟩; have R2 := Lib.hid (B0.out.keep k2 (fun e => e)); have K2 := Lib.hid (K0.out.trans k2); clear k2 _t t2) | (have _t := t3; go_at_call 12; refine (VQ.out w2).mono ?_; rintro e w' ⟨rfl, rfl⟩; clear _t t3))
      have X1 := Lib.hid (fun x => rangeAt_keep (s.parts ok R2.out).2.1 (valCalm_at (wr := w2) (ks := [3, 7]) (us := fun k => if k = 3 then .int .i64 (bndF s.ia q) else .int .i64 (bndF s.ie q)) x) (fun e => e))
      have X2 := Lib.hid (fun x => rangeAt_keep (s.parts ok R2.out).2.2 (valCalm_at (wr := w2) (ks := [3, 7]) (us := fun k => if k = 3 then .int .i64 (bndF s.ia q) else .int .i64 (bndF s.ie q)) x) (fun e => e))
      have gd := valCalm_good w2 [3, 7] (fun k => if k = 3 then .int .i64 (bndF s.ia q) else .int .i64 (bndF s.ie q))
      have ne := valCalm_some w2 [3, 7] (fun k => if k = 3 then .int .i64 (bndF s.ia q) else .int .i64 (bndF s.ie q))
      have BA := Lib.hid (fun w => qbound_any s.ia q w ok.ia hu.1)
      have BE := Lib.hid (fun w => qbound_any s.ie q w ok.ie hu.2)
      have l1 : ((s.ia.map (Value.int .u8)).toArray).size = 64 := by simp [ok.ia]
      have l2 : ((s.ie.map (Value.int .u8)).toArray).size = 64 := by simp [ok.ie]
      obtain ⟨ca, hca⟩ : ∃ ca, ca = (s.ia.map (Value.int .u8)).toArray := ⟨_, rfl⟩
      obtain ⟨ce, hce⟩ : ∃ ce, ce = (s.ie.map (Value.int .u8)).toArray := ⟨_, rfl⟩
      rw [← hca] at BA l1
      rw [← hce] at BE l2
      rw [show s.ia.map (Value.int .u8) = ca.toList by rw [hca]] at X1
      rw [show s.ie.map (Value.int .u8) = ce.toList by rw [hce]] at X2
      have L1 := Lib.hid l1
      have L2 := Lib.hid l2
      clear hca hce l1 l2
      refine wp_region_calm (valCalm w2 [3, 7] (fun k => if k = 3 then .int .i64 (bndF s.ia q) else .int .i64 (bndF s.ie q))) [0, 1, 2, 3, 4, 5, 6, 7, 8, 9] [] 22 (by kernel_rfl) (by kernel_rfl) rfl gd (Keep.refl _ _).drew ?_
      simp only [pairs, List.filterMap_cons, List.filterMap_nil, List.getElem?_toArray, List.getElem?_cons_succ, List.getElem?_cons_zero, Option.map_some]
      repeat (refine Calm.walk_quiet ne rfl rfl rfl (fun K hK => ?_); go_big_quiet_op; refine hK _ ?_; clear hK K)
      refine Calm.walk_load 24 (.tmp 13) rfl ne rfl rfl w.heap.size 7 (by first | rfl | simp) ca _ X1.out Tryz.underlying24 rfl (by rw [L1.out]; kernel_rfl) ?_
      go_frame
      repeat (refine Calm.walk_quiet ne rfl rfl rfl (fun K hK => ?_); go_big_quiet_op; refine hK _ ?_; clear hK K)
      refine Calm.walk_eff rfl rfl (fun n wy hn hG _ => ?_) ?_
      · have hG' : Keep none_ w2 wy := hG
        unfold gives
        go_simp
        refine (BA.out wy).mono ?_
        rintro e wz ⟨rfl, hkz⟩
        exact ⟨_, rfl, rfl, hkz, hG'.trans hkz, fun _ h => h.elim⟩
      intro vq wy hT
      obtain rfl : vq = .int .i64 (bndF s.ia q) := hT
      clear wy
      go_frame
      repeat (refine Calm.walk_quiet ne rfl rfl rfl (fun K hK => ?_); go_big_quiet_op; refine hK _ ?_; clear hK K)
      refine Calm.walk_load 24 (.tmp 17) rfl ne rfl rfl w.heap.size 71 (by first | rfl | simp) ce _ X2.out Tryz.underlying24 rfl (by rw [L2.out]; kernel_rfl) ?_
      go_frame
      repeat (refine Calm.walk_quiet ne rfl rfl rfl (fun K hK => ?_); go_big_quiet_op; refine hK _ ?_; clear hK K)
      refine Calm.walk_eff rfl rfl (fun n wy hn hG _ => ?_) ?_
      · have hG' : Keep none_ w2 wy := hG
        unfold gives
        go_simp
        refine (BE.out wy).mono ?_
        rintro e wz ⟨rfl, hkz⟩
        exact ⟨_, rfl, rfl, hkz, hG'.trans hkz, fun _ h => h.elim⟩
      intro vq wy hT
      obtain rfl : vq = .int .i64 (bndF s.ie q) := hT
      clear wy
      go_frame
      generalize bndF s.ia q = xa at *
      generalize bndF s.ie q = xe at *
      repeat (refine Calm.walk_quiet ne rfl rfl rfl (fun K hK => ?_); go_big_quiet_op; refine hK _ ?_; clear hK K)
      all_goals
        intro w7 hG hD
        have K7 := Lib.hid (K2.out.trans (show Keep none_ w2 w7 from hG))
        clear hG hD gd ne X1 X2
        simp only [pickOps, List.filterMap_nil]
        go_wp2
        all_goals
          go_ret
          exact ⟨by first | (rw [Q.out]; rfl) | (rw [Q.out]; exact ret_int (by omega)), K7.out⟩
set_option maxRecDepth 100000 in
set_option maxHeartbeats 2000000 in
theorem erbound_any (s : Sq) (q : Int) (w : World) (ok : s.Ok) (hu : U8r s.ia ∧ U8r s.ie) : Calls Tryz.prog 6 #[.agg s.cells, .int .i64 q] w fun e w' => e = .returned (.int .i64 (ebF s q)) ∧ Keep none_ w w' := by
  have SV := Lib.hid (fun w => validSeqR_any s w ok)
  have VQ := Lib.hid (fun w => vqE q w)
  obtain ⟨cs, hcs⟩ : ∃ cs, cs = s.cells := ⟨_, rfl⟩
  obtain ⟨W0, hW0⟩ : ∃ W0, W0 = w.alloc (.cells cs 26) := ⟨_, rfl⟩
  have k0 : Keep none_ w W0 := hW0 ▸ (Keep.refl _ _).alloc _
  have b0 : Blk W0 w.heap.size 26 s.cells := hcs ▸ hW0 ▸ Blk.new _ _ _
  have B0 := Lib.hid b0
  have K0 := Lib.hid k0
  have CZ := Lib.hid (s.cells_size ok)
  rw [← hcs]
  clear k0 b0 hcs
  have t1 : True := trivial
  have t2 : True := trivial
  have t3 : True := trivial
  go_enter Tryz.func6, Tryz.ntmps6
  go_upto_region 1 with (fail)
  rw [← hW0]
  clear hW0
  cases hs : seqOk s with
  | false =>
    rw [hs] at SV
    have Q := Lib.hid (show ebF s q = 0 by unfold ebF; rw [hs]; rfl)
    clear hs
    go_wp2_with (first | (have _t := t1; refine wpList_load_blk rfl 26 (.tmp 2) rfl w.heap.size 26 _ _ rfl B0.out Tryz.underlying26 rfl (by rw [CZ.out]; kernel_rfl) ?_; go_frame; clear _t t1) | (have _t := t2; go_at_call 14; refine (SV.out W0).mono ?_; rintro e w2 ⟨rfl, k2⟩; have R2 := Lib.hid (B0.out.keep k2 (fun e => e)); have K2 := Lib.hid (K0.out.trans k2); clear k2 _t t2))
    go_ret
    exact ⟨by rw [Q.out]; rfl, K2.out⟩
  | true =>
    rw [hs] at SV
    have Q := Lib.hid (show ebF s q = max (bndF s.ia q) (bndF s.ie q) by
      unfold ebF
      rw [hs]
      cases hq : qOk q with
      | true => rfl
      | false =>
        unfold bndF
        rw [hq]
        simp)
    clear hs
    go_upto_region 3 with (first | (have _t := t1; refine wpList_load_blk rfl 26 (.tmp 2) rfl w.heap.size 26 _ _ rfl B0.out Tryz.underlying26 rfl (by rw [CZ.out]; kernel_rfl) ?_; go_frame; clear _t t1) | (have _t := t2; go_at_call 14; refine (SV.out W0).mono ?_; rintro e w2 ⟨rfl, k2⟩; have R2 := Lib.hid (B0.out.keep k2 (fun e => e)); have K2 := Lib.hid (K0.out.trans k2); clear k2 _t t2))
    have X1 := Lib.hid (fun x => rangeAt_keep (s.parts ok R2.out).2.1 (valCalm_at (wr := w2) (ks := [3, 7]) (us := fun k => if k = 3 then .int .i64 (bndF s.ia q) else .int .i64 (bndF s.ie q)) x) (fun e => e))
    have X2 := Lib.hid (fun x => rangeAt_keep (s.parts ok R2.out).2.2 (valCalm_at (wr := w2) (ks := [3, 7]) (us := fun k => if k = 3 then .int .i64 (bndF s.ia q) else .int .i64 (bndF s.ie q)) x) (fun e => e))
    have gd := valCalm_good w2 [3, 7] (fun k => if k = 3 then .int .i64 (bndF s.ia q) else .int .i64 (bndF s.ie q))
    have ne := valCalm_some w2 [3, 7] (fun k => if k = 3 then .int .i64 (bndF s.ia q) else .int .i64 (bndF s.ie q))
    have BA := Lib.hid (fun w => rbound_any s.ia q w ok.ia hu.1)
    have BE := Lib.hid (fun w => rbound_any s.ie q w ok.ie hu.2)
    have l1 : ((s.ia.map (Value.int .u8)).toArray).size = 64 := by simp [ok.ia]
    have l2 : ((s.ie.map (Value.int .u8)).toArray).size = 64 := by simp [ok.ie]
    obtain ⟨ca, hca⟩ : ∃ ca, ca = (s.ia.map (Value.int .u8)).toArray := ⟨_, rfl⟩
    obtain ⟨ce, hce⟩ : ∃ ce, ce = (s.ie.map (Value.int .u8)).toArray := ⟨_, rfl⟩
    rw [← hca] at BA l1
    rw [← hce] at BE l2
    rw [show s.ia.map (Value.int .u8) = ca.toList by rw [hca]] at X1
    rw [show s.ie.map (Value.int .u8) = ce.toList by rw [hce]] at X2
    have L1 := Lib.hid l1
    have L2 := Lib.hid l2
    clear hca hce l1 l2
    refine wp_region_calm (valCalm w2 [3, 7] (fun k => if k = 3 then .int .i64 (bndF s.ia q) else .int .i64 (bndF s.ie q))) [0, 1, 2, 3, 4, 5, 6, 7, 8, 9] [] 17 (by kernel_rfl) (by kernel_rfl) rfl gd (Keep.refl _ _).drew ?_
    simp only [pairs, List.filterMap_cons, List.filterMap_nil, List.getElem?_toArray, List.getElem?_cons_succ, List.getElem?_cons_zero, Option.map_some]
    repeat (refine Calm.walk_quiet ne rfl rfl rfl (fun K hK => ?_); go_big_quiet_op; refine hK _ ?_; clear hK K)
    refine Calm.walk_load 24 (.tmp 8) rfl ne rfl rfl w.heap.size 7 (by first | rfl | simp) ca _ X1.out Tryz.underlying24 rfl (by rw [L1.out]; kernel_rfl) ?_
    go_frame
    repeat (refine Calm.walk_quiet ne rfl rfl rfl (fun K hK => ?_); go_big_quiet_op; refine hK _ ?_; clear hK K)
    refine Calm.walk_eff rfl rfl (fun n wy hn hG _ => ?_) ?_
    · have hG' : Keep none_ w2 wy := hG
      unfold gives
      go_simp
      refine (BA.out wy).mono ?_
      rintro e wz ⟨rfl, hkz⟩
      exact ⟨_, rfl, rfl, hkz, hG'.trans hkz, fun _ h => h.elim⟩
    intro vq wy hT
    obtain rfl : vq = .int .i64 (bndF s.ia q) := hT
    clear wy
    go_frame
    repeat (refine Calm.walk_quiet ne rfl rfl rfl (fun K hK => ?_); go_big_quiet_op; refine hK _ ?_; clear hK K)
    refine Calm.walk_load 24 (.tmp 12) rfl ne rfl rfl w.heap.size 71 (by first | rfl | simp) ce _ X2.out Tryz.underlying24 rfl (by rw [L2.out]; kernel_rfl) ?_
    go_frame
    repeat (refine Calm.walk_quiet ne rfl rfl rfl (fun K hK => ?_); go_big_quiet_op; refine hK _ ?_; clear hK K)
    refine Calm.walk_eff rfl rfl (fun n wy hn hG _ => ?_) ?_
    · have hG' : Keep none_ w2 wy := hG
      unfold gives
      go_simp
      refine (BE.out wy).mono ?_
      rintro e wz ⟨rfl, hkz⟩
      exact ⟨_, rfl, rfl, hkz, hG'.trans hkz, fun _ h => h.elim⟩
    intro vq wy hT
    obtain rfl : vq = .int .i64 (bndF s.ie q) := hT
    clear wy
    go_frame
    generalize bndF s.ia q = xa at *
    generalize bndF s.ie q = xe at *
    repeat (refine Calm.walk_quiet ne rfl rfl rfl (fun K hK => ?_); go_big_quiet_op; refine hK _ ?_; clear hK K)
    all_goals
      intro w7 hG hD
      have K7 := Lib.hid (K2.out.trans (show Keep none_ w2 w7 from hG))
      clear hG hD gd ne X1 X2
      simp only [pickOps, List.filterMap_nil]
      go_wp2
      all_goals
        go_ret
        exact ⟨by first | (rw [Q.out]; rfl) | (rw [Q.out]; exact ret_int (by omega)), K7.out⟩
end Go.Proofs.YtebdgoikmclflaaGreatDoor
/-
  Frames of 16 by 16 samples: sizes and places.
-/
namespace Go.Proofs.YtebdgoikmclflaaGreatDoor
open Go.RowKit

/-- A frame of 16 by 16 samples, as a value. -/
def fv (A1 A2 A3 : Option Addr) (c1 c2 c3 : Nat) : Array Value := #[.int .i64 16, .int .i64 16, .slice A1 256 c1, .slice A2 64 c2, .slice A3 64 c3]
set_option maxRecDepth 100000 in
set_option maxHeartbeats 1000000 in
theorem fsize_any (w : World) : Calls Tryz.prog 67 #[.int .i64 16, .int .i64 16] w fun e w' => e = .returned (.bool true) ∧ w = w' := by
  go_enter Tryz.func67, Tryz.ntmps67
  go_wp2
  go_ret
  exact ⟨rfl, rfl⟩
set_option maxRecDepth 100000 in
set_option maxHeartbeats 1000000 in
theorem formed_any (A1 A2 A3 : Option Addr) (c1 c2 c3 : Nat) (w : World) : Calls Tryz.prog 41 #[.agg #[.int .i64 16, .int .i64 16, .slice A1 256 c1, .slice A2 64 c2, .slice A3 64 c3]] w fun e w' => e = .returned (.bool true) ∧ Keep none_ w w' := by
  have k0 : Keep none_ w (w.alloc (.cells #[.int .i64 16, .int .i64 16, .slice A1 256 c1, .slice A2 64 c2, .slice A3 64 c3] 32)) := (Keep.refl _ _).alloc _
  go_enter Tryz.func41, Tryz.ntmps41
  go_wp2_with (go_at_call 67; refine (fsize_any _).mono ?_; rintro e w' ⟨rfl, rfl⟩)
  go_ret
  exact ⟨rfl, k0⟩
set_option maxRecDepth 100000 in
set_option maxHeartbeats 1000000 in
theorem pvalid_any (A1 A2 A3 : Option Addr) (c1 c2 c3 : Nat) (w : World) : Calls Tryz.prog 122 #[.agg #[.int .i64 16, .int .i64 16, .slice A1 256 c1, .slice A2 64 c2, .slice A3 64 c3]] w fun e w' => e = .returned (.bool true) ∧ Keep none_ w w' := by
  obtain ⟨W0, hW0⟩ : ∃ W0, W0 = w.alloc (.cells #[.int .i64 16, .int .i64 16, .slice A1 256 c1, .slice A2 64 c2, .slice A3 64 c3] 32) := ⟨_, rfl⟩
  have k0 : Keep none_ w W0 := hW0 ▸ (Keep.refl _ _).alloc _
  have b0 : Blk W0 w.heap.size 32 #[.int .i64 16, .int .i64 16, .slice A1 256 c1, .slice A2 64 c2, .slice A3 64 c3] := hW0 ▸ Blk.new _ _ _
  have B0 := Lib.hid b0
  have K0 := Lib.hid k0
  clear k0 b0
  have t1 : True := trivial
  have t2 : True := trivial
  go_enter Tryz.func122, Tryz.ntmps122
  go_upto_region 1 with (fail)
  rw [← hW0]
  clear hW0
  go_wp2_with (first | (have _t := t1; refine wpList_load_blk rfl 32 (.tmp 1) rfl w.heap.size 32 _ _ rfl B0.out Tryz.underlying32 rfl (by kernel_rfl) ?_; go_frame; clear _t t1) | (have _t := t2; go_at_call 41; refine (formed_any A1 A2 A3 c1 c2 c3 W0).mono ?_; rintro e w2 ⟨rfl, k2⟩; have y0 := (B0.out.keep k2 (fun e => e)).cell 0; have y1 := (B0.out.keep k2 (fun e => e)).cell 1; simp only [List.getElem?_toArray, List.getElem?_cons_zero, List.getElem?_cons_succ] at y0 y1; have K2 := Lib.hid (K0.out.trans k2); clear k2 _t t2))
  go_ret
  exact ⟨rfl, K2.out⟩
end Go.Proofs.YtebdgoikmclflaaGreatDoor
/-
  Regions that draw their order and store several results, each into a block of its own.
-/
namespace Go.Proofs.YtebdgoikmclflaaGreatDoor
open Go.RowKit

theorem gives_store_blk {P : Program} {o : Oper} {a : Act} {w : World} {X : Value → World → Prop} (ty : TypeId) (x y : Operand) (ho : o.op = .store ty x y) (b : Nat) (t : TypeId) (cs xs : Array Value) (hx : a.eval x = .pointer (some ⟨b, 0, none⟩)) (hy : a.eval y = .agg xs)
    (hb : Blk w b t cs) (hs : cs.size = xs.size) (hi : (P.info? ty).map (·.size) = some xs.size) (h1 : xs.all (·.oneCell') = true)
    (h : ∀ w', Blk w' b t xs → Keep (one b) w w' → X undef w') : gives P o a w X := by
  unfold gives execOp
  simp only [ho, hx, hy, Sem.run_bind, run_storeAt_mid (P := P) w b 0 ty xs (hb.there 0 xs.size (by omega)) hi h1, Result.andThen_ok, Sem.run_pure]
  refine h _ ?_ (Keep.setCells _ _ _ _)
  have := Blk.setCells b xs.toList 0 w cs hb
  rw [laid_whole cs xs.toList (by simp [hs])] at this
  simpa using this
/-- What an operation stores: the block, its type, what was there, what is there then. -/
structure ResI where
  b : Nat
  t : TypeId
  old : Array Value
  cs : Array Value
def resCalm (wr : World) (ks : List Nat) (it : Nat → ResI) : Calm where
  R := fun i => Keep (fun b => i ∈ ks ∧ (it i).b = b)
  G := fun _ y => Keep (fun b => ∃ k, k ∈ ks ∧ (it k).b = b) wr y ∧ ∀ k, k ∈ ks → Blk y (it k).b (it k).t (it k).old ∨ Blk y (it k).b (it k).t (it k).cs
  eff := ks
  T := fun k _ _ y => Blk y (it k).b (it k).t (it k).cs
  anc := fun _ => []
  own := fun _ _ _ => False
theorem resCalm_good (wr : World) (ks : List Nat) (it : Nat → ResI) (hd : ∀ i k, i ∈ ks → k ∈ ks → i ≠ k → (it i).b ≠ (it k).b) : (resCalm wr ks it).Good where
  mono := fun _ _ h => h
  size := fun _ _ _ h => h.size
  stable := fun i k _ _ x y he hne h hR => Blk.keep h hR (fun e => hd i k e.1 (by simpa [resCalm] using he) hne e.2)
/-- The step of such a store. -/
theorem res_step {wr wy : World} {ks : List Nat} {it : Nat → ResI} {n k : Nat} (hd : ∀ i k, i ∈ ks → k ∈ ks → i ≠ k → (it i).b ≠ (it k).b) (hk : k ∈ ks) (hG : (resCalm wr ks it).G n wy) {o : Oper} {a : Act} (ty : TypeId) (x y : Operand) (ho : o.op = .store ty x y)
    (hx : a.eval x = .pointer (some ⟨(it k).b, 0, none⟩)) (hy : a.eval y = .agg (it k).cs) (hs : (it k).old.size = (it k).cs.size) (hi : (Tryz.prog.info? ty).map (·.size) = some (it k).cs.size) (h1 : (it k).cs.all (·.oneCell') = true) (vs : List Value) (v : Value) :
    gives Tryz.prog o a wy fun _ w' => (resCalm wr ks it).T k vs v w' ∧ (resCalm wr ks it).R k wy w' ∧ (resCalm wr ks it).G (n + 1) w' ∧ ∀ b, (resCalm wr ks it).own k v b → wy.heap.size ≤ b ∧ b < w'.heap.size := by
  obtain ⟨g1, g2⟩ := hG
  have fin : ∀ w', Blk w' (it k).b (it k).t (it k).cs → Keep (one (it k).b) wy w' → (resCalm wr ks it).T k vs v w' ∧ (resCalm wr ks it).R k wy w' ∧ (resCalm wr ks it).G (n + 1) w' ∧ ∀ b, (resCalm wr ks it).own k v b → wy.heap.size ≤ b ∧ b < w'.heap.size := fun w' hb hkp => by
    refine ⟨hb, hkp.mono (fun b e => ⟨hk, e.symm⟩), ⟨g1.trans (hkp.mono (fun b e => ⟨k, hk, e.symm⟩)), fun i hi' => ?_⟩, fun _ h => h.elim⟩
    by_cases hik : i = k
    · subst hik
      exact .inr hb
    · rcases g2 i hi' with h | h
      · exact .inl (h.keep hkp (fun e => hd i k hi' hk hik e))
      · exact .inr (h.keep hkp (fun e => hd i k hi' hk hik e))
  rcases g2 k hk with h | h
  · exact gives_store_blk ty x y ho _ _ _ _ hx hy h hs hi h1 fin
  · exact gives_store_blk ty x y ho _ _ _ _ hx hy h rfl hi h1 fin
theorem res_start {wr : World} {ks : List Nat} {it : Nat → ResI} (h : ∀ k, k ∈ ks → Blk wr (it k).b (it k).t (it k).old) : (resCalm wr ks it).G 0 wr.drew := ⟨(Keep.refl _ _).drew, fun k hk => .inl (h k hk).drew⟩
theorem res_same {wr : World} {ks : List Nat} {it : Nat → ResI} (x : (resCalm wr ks it).Sub) (k : Nat) (hk : k ∈ ks) (he : (it k).old = (it k).cs) : Blk ((resCalm wr ks it).at_ x) (it k).b (it k).t (it k).cs := by
  obtain ⟨x, n, _, h⟩ := x
  rcases h.2 k hk with h | h
  · rw [he] at h; exact h
  · exact h
theorem res_far {wr : World} {ks : List Nat} {it : Nat → ResI} (x : (resCalm wr ks it).Sub) : Keep (fun b => ∃ k, k ∈ ks ∧ (it k).b = b) wr ((resCalm wr ks it).at_ x) := by
  obtain ⟨x, n, _, h⟩ := x
  exact h.1
end Go.Proofs.YtebdgoikmclflaaGreatDoor
