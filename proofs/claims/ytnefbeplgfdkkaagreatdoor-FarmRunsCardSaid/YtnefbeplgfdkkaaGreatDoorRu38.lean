/-
  cutroomref37.Valid.
-/
import Derived.Test.YtnefbeplgfdkkaaGreatDoorRu29
namespace Go.Proofs.YtnefbeplgfdkkaaGreatDoor
open Go.RowKit

/-- The names of a state fit into a machine. -/
structure SzS (s : St) : Prop where
  pr : ∀ x ∈ s.present, Szd x
  wk : ∀ y ∈ s.workers, Szd y.name
  jb : ∀ j ∈ s.jobs, Szd j.name ∧ ∀ x ∈ j.needs, Szd x

/-- The facts of a region with calls that answer f. -/
def callsCalm (wr : World) (ks : List Nat) (f : Nat → Value) : Calm where
  R := fun _ => Keep none_
  G := fun _ => Keep none_ wr
  eff := ks
  T := fun k _ v _ => v = f k
  anc := fun _ => []
  own := fun _ _ _ => False
theorem callsCalm_good (wr : World) (ks : List Nat) (f : Nat → Value) : (callsCalm wr ks f).Good := ⟨fun _ _ h => h, fun _ _ _ h => h.size, fun _ _ _ _ _ _ _ _ h _ => h⟩
theorem callsCalm_at {wr : World} {ks : List Nat} {f : Nat → Value} (x : (callsCalm wr ks f).Sub) : Keep none_ wr ((callsCalm wr ks f).at_ x) := by
  obtain ⟨x, n, _, h⟩ := x
  exact h
theorem callsCalm_some (wr : World) (ks : List Nat) (f : Nat → Value) : Nonempty (callsCalm wr ks f).Sub := ⟨⟨wr, 0, Nat.zero_le _, Keep.refl _ _⟩⟩
/-- The answers of ValidName and worker. -/
def nmw (b : Bool) (i : Int) (k : Nat) : Value := if k = 6 then .bool b else .int .i64 i

set_option maxRecDepth 100000 in
set_option maxHeartbeats 4000000 in
theorem rvalid_any (s : St) (hz : SzS s) (v : Value) (S : Nat → Prop) (w : World) (h : StateOf w S v s) :
    Calls Tryz.prog 18 #[v] w fun e w' => e = .returned (.bool (validF s)) ∧ Keep none_ w w' := by
  obtain ⟨P1, P2, P3, P4, P5, P6, P7, P8, P9, rfl, gp, gj, gw⟩ := h.lists
  obtain ⟨W1, hW1⟩ : ∃ W1, W1 = w.alloc (.cells #[.int .i64 s.now, .slice P1 P2 P3, .slice P4 P5 P6, .slice P7 P8 P9] 48) := ⟨_, rfl⟩
  have k1 : Keep none_ w W1 := hW1 ▸ (Keep.refl none_ w).alloc _
  have b1 : Blk W1 w.heap.size 48 #[.int .i64 s.now, .slice P1 P2 P3, .slice P4 P5 P6, .slice P7 P8 P9] := hW1 ▸ Blk.new _ _ _
  have c0 : W1.cell? ⟨w.heap.size, 0, none⟩ = some (.int .i64 s.now) := b1.cell 0
  have c1 : W1.cell? ⟨w.heap.size, 1, none⟩ = some (.slice P1 P2 P3) := b1.cell 1
  have c2 : W1.cell? ⟨w.heap.size, 2, none⟩ = some (.slice P4 P5 P6) := b1.cell 2
  have c3 : W1.cell? ⟨w.heap.size, 3, none⟩ = some (.slice P7 P8 P9) := b1.cell 3
  obtain ⟨hjl, hj1, hj2⟩ := ElemsOf.facts gj
  obtain ⟨hwl, hw1, hw2⟩ := ElemsOf.facts gw
  unfold maxLen at hj2 hw2
  have HJL := Lib.hid hjl
  have HWL := Lib.hid hwl
  have HS := Lib.hid (h.fresh.keep k1.weak)
  have HJ := Lib.hid (JobsOf.fresh gj |>.keep k1.weak)
  have HW := Lib.hid (WorkersOf.fresh gw |>.keep k1.weak)
  have NMS := Lib.hid (names_any s.present hz.pr _ _ W1 (gp.fresh.keep k1.weak))
  have HZ := Lib.hid hz
  have K1 := Lib.hid k1
  have B1 := Lib.hid b1
  have ANS := Lib.hid (show validF s = (headOk s && (List.range s.workers.length).all (wkGood s.workers) && (List.range s.jobs.length).all (jobGood s)) from rfl)
  have HO := Lib.hid (show headOk s = (decide (0 ≤ s.now) && decide (s.now ≤ 1099511627776) && namesOk s.present && decide (P5 ≤ 64) && decide (P8 ≤ 32)) by unfold headOk; rw [hjl, hwl])
  have l1 := b1.lt
  clear hjl hwl gp gj gw h k1 b1 hz
  go_enter Tryz.func18, Tryz.ntmps18
  go_upto_region 1 with (fail)
  rw [← hW1]
  clear hW1
  go_cut [31] (fun x wx => x = .bool (!headOk s) ∧ Keep none_ W1 wx)
  case first =>
    by_cases a1 : s.now < 0
    · have A := Lib.hid (show headOk s = false by rw [HO.out]; simp; omega)
      go_wp2
      go_meet
      exact ⟨by rw [A.out]; rfl, Keep.refl _ _⟩
    by_cases a2 : 1099511627776 < s.now
    · have A := Lib.hid (show headOk s = false by rw [HO.out]; simp; omega)
      go_wp2
      go_meet
      exact ⟨by rw [A.out]; rfl, Keep.refl _ _⟩
    have A12 := Lib.hid (show headOk s = (namesOk s.present && decide (P5 ≤ 64) && decide (P8 ≤ 32)) by rw [HO.out, decide_eq_true (show 0 ≤ s.now by omega), decide_eq_true (show s.now ≤ 1099511627776 by omega)]; simp)
    cases a3 : namesOk s.present with
    | false =>
      have A := Lib.hid (show headOk s = false by rw [A12.out, a3]; rfl)
      rw [a3] at NMS
      clear a3
      go_wp2_with (go_at_call 44; refine NMS.out.mono ?_; rintro e w' ⟨rfl, k'⟩)
      go_meet
      exact ⟨by rw [A.out]; rfl, k'⟩
    | true =>
      have A3 := Lib.hid (show headOk s = (decide (P5 ≤ 64) && decide (P8 ≤ 32)) by rw [A12.out, a3]; rfl)
      rw [a3] at NMS
      clear a3
      by_cases a4 : 64 < P5
      · have a4' : (64 : Int) < P5 := by omega
        have A := Lib.hid (show headOk s = false by rw [A3.out]; simp; omega)
        go_wp2_with (go_at_call 44; refine NMS.out.mono ?_; rintro e w' ⟨rfl, k'⟩; have d2 := k'.cell c2 (fun e => e))
        go_meet
        exact ⟨by rw [A.out]; rfl, k'⟩
      · have a4' : ¬ (64 : Int) < P5 := by omega
        have A4 := Lib.hid (show headOk s = decide (P8 ≤ 32) by rw [A3.out, decide_eq_true (show P5 ≤ 64 by omega)]; rfl)
        go_wp2_with (go_at_call 44; refine NMS.out.mono ?_; rintro e w' ⟨rfl, k'⟩; have d2 := k'.cell c2 (fun e => e); have d3 := k'.cell c3 (fun e => e))
        go_meet
        exact ⟨congrArg Value.bool (by rw [A4.out, Bool.eq_iff_iff]; simp; omega), k'⟩
  case rest =>
    obtain ⟨rfl, kc⟩ := hcut
    cases hho : headOk s with
    | false =>
      have A := Lib.hid (show validF s = false by rw [ANS.out, hho]; rfl)
      clear hho
      go_wp2
      go_ret
      exact ⟨ret_bool A.out.symm, K1.out.trans kc⟩
    | true =>
      have hd : 0 ≤ s.now ∧ s.now ≤ 1099511627776 ∧ P5 ≤ 64 ∧ P8 ≤ 32 := by
        have := HO.out
        rw [hho] at this
        have := this.symm
        simp only [Bool.and_eq_true, decide_eq_true_eq] at this
        exact ⟨this.1.1.1.1, this.1.1.1.2, this.1.2, this.2⟩
      obtain ⟨hn0, hn1, hp5, hp8⟩ := hd
      have A2 := Lib.hid (show validF s = ((List.range s.workers.length).all (wkGood s.workers) && (List.range s.jobs.length).all (jobGood s)) by rw [ANS.out, hho, Bool.true_and])
      have KC := Lib.hid kc
      clear hho ANS HO kc c0 c1 c2 c3 NMS
      go_upto_region 4 with (fail)
      go_loopw [3] (fun i wr => ∃ k : Nat, k ≤ P8 ∧ i = .int .i64 k ∧ (List.range k).all (wkGood s.workers) = true ∧ Keep none_ W1 wr) (fun i _ => P8 - (intOf i).toNat)
      case atStart => exact ⟨0, Nat.zero_le _, rfl, rfl, KC.out⟩
      case round =>
        obtain ⟨k, hk, rfl, hall, hkr⟩ := hrel
        have HA := Lib.hid hall
        have HK := Lib.hid hkr
        have c3 : wr.cell? ⟨w.heap.size, 3, none⟩ = some (.slice P7 P8 P9) := (B1.out.keep hkr (fun e => e)).cell 3
        clear hall KC
        by_cases hlt : k < P8
        · have hlt' : (k : Int) < P8 := by omega
          obtain ⟨b, o, rfl, -, hkl, cs, -, hrg, hcs⟩ := ElemsOf.elem (HW.out.keep hkr.weak) k hlt
          have gr := wkGood_ref s.workers k hkl
          have hsz := HZ.out.wk _ (List.getElem_mem hkl)
          generalize s.workers[k] = y at hcs gr hsz
          obtain rfl := (show cs = [.string y.name, .bool y.dead] from hcs)
          have c4 : wr.cell? ⟨b, o + k * 2, none⟩ = some (.string y.name) := hrg 0 _ rfl
          have VN := Lib.hid (fun wx => vname_any y.name hsz wx)
          have WK := Lib.hid (fun (wx : World) (kx : Keep none_ wr wx) => rworker_any s _ _ y.name wx ((HS.out.keep hkr.weak).keep kx.weak))
          have RS := Lib.hid ((B1.out.keep hkr (fun e => e)).rangeAt)
          clear hrg hcs hsz hkr
          go_upto_region 6 with (fail)
          cases hn : nameOk y.name with
          | false =>
            rw [hn] at VN gr
            have BAD := Lib.hid (show wkGood s.workers k = false by rw [gr]; rfl)
            clear hn gr
            have gd := callsCalm_good wr [6, 16] (nmw false 0)
            have ne := callsCalm_some wr [6, 16] (nmw false 0)
            have x1 := fun y => (callsCalm_at (wr := wr) (ks := [6, 16]) (f := nmw false 0) y).cell c3 (fun e => e)
            have x2 := fun y => (callsCalm_at (wr := wr) (ks := [6, 16]) (f := nmw false 0) y).cell c4 (fun e => e)
            refine wp_region_calm (callsCalm wr [6, 16] (nmw false 0)) [0, 1, 2, 3, 4, 5, 6, 7, 8, 9, 10, 11, 12, 13, 14, 15, 16, 17, 18, 19] [] 160 (by kernel_rfl) (by kernel_rfl) rfl gd (Keep.refl _ _).drew ?_
            simp only [pairs, List.filterMap_cons, List.filterMap_nil, List.getElem?_toArray, List.getElem?_cons_succ, List.getElem?_cons_zero, Option.map_some]
            repeat (refine Calm.walk_quiet ne rfl rfl rfl (fun K hK => ?_); go_big_quiet_op; refine hK _ ?_; clear hK K)
            refine Calm.walk_eff rfl rfl (fun n wy hn hG _ => ?_) ?_
            · have hG' : Keep none_ wr wy := hG
              unfold gives
              go_simp
              refine (VN.out wy).mono ?_
              rintro e wz ⟨rfl, kz⟩
              subst kz; exact ⟨_, rfl, rfl, Keep.refl _ _, hG', fun _ h => h.elim⟩
            intro vq wy hT
            obtain rfl : vq = .bool false := hT
            clear wy
            go_frame
            repeat (first | (refine Calm.walk_skip rfl ?_; go_frame) | (refine Calm.walk_quiet ne rfl rfl rfl (fun K hK => ?_); go_big_quiet_op; refine hK _ ?_; clear hK K))
            intro w9 hG hD
            have k9 : Keep none_ wr w9 := hG
            have K9 := Lib.hid (HK.out.trans k9)
            clear hG hD gd ne x1 x2 k9 c3 c4
            simp only [pickOps, List.filterMap_nil]
            go_wp2
            go_ret
            exact ⟨ret_bool (by rw [A2.out, HWL.out, range_all_part _ k P8 hlt BAD.out]; rfl), K1.out.trans K9.out⟩
          | true =>
            rw [hn] at VN gr
            obtain ⟨ix, hix⟩ : ∃ ix, wkIdx s.workers y.name = ix := ⟨_, rfl⟩
            rw [hix] at WK gr
            have GR := Lib.hid gr
            clear hn gr hix
            have gd := callsCalm_good wr [6, 16] (nmw true ix)
            have ne := callsCalm_some wr [6, 16] (nmw true ix)
            have x1 := fun y => (callsCalm_at (wr := wr) (ks := [6, 16]) (f := nmw true ix) y).cell c3 (fun e => e)
            have x2 := fun y => (callsCalm_at (wr := wr) (ks := [6, 16]) (f := nmw true ix) y).cell c4 (fun e => e)
            have x3 := Lib.hid (fun y => rangeAt_keep RS.out (callsCalm_at (wr := wr) (ks := [6, 16]) (f := nmw true ix) y) (fun e => e))
            refine wp_region_calm (callsCalm wr [6, 16] (nmw true ix)) [0, 1, 2, 3, 4, 5, 6, 7, 8, 9, 10, 11, 12, 13, 14, 15, 16, 17, 18, 19] [] 160 (by kernel_rfl) (by kernel_rfl) rfl gd (Keep.refl _ _).drew ?_
            simp only [pairs, List.filterMap_cons, List.filterMap_nil, List.getElem?_toArray, List.getElem?_cons_succ, List.getElem?_cons_zero, Option.map_some]
            repeat (refine Calm.walk_quiet ne rfl rfl rfl (fun K hK => ?_); go_big_quiet_op; refine hK _ ?_; clear hK K)
            refine Calm.walk_eff rfl rfl (fun n wy hn hG _ => ?_) ?_
            · have hG' : Keep none_ wr wy := hG
              unfold gives
              go_simp
              refine (VN.out wy).mono ?_
              rintro e wz ⟨rfl, kz⟩
              subst kz; exact ⟨_, rfl, rfl, Keep.refl _ _, hG', fun _ h => h.elim⟩
            intro vq wy hT
            obtain rfl : vq = .bool true := hT
            clear wy
            go_frame
            repeat (refine Calm.walk_quiet ne rfl rfl rfl (fun K hK => ?_); go_big_quiet_op; refine hK _ ?_; clear hK K)
            refine Calm.walk_load 48 (.tmp 1) rfl ne rfl rfl w.heap.size 0 (by first | rfl | simp) #[.int .i64 s.now, .slice P1 P2 P3, .slice P4 P5 P6, .slice (some ⟨b, o, none⟩) P8 P9] _ x3.out Tryz.underlying48 rfl (by kernel_rfl) ?_
            go_frame
            repeat (refine Calm.walk_quiet ne rfl rfl rfl (fun K hK => ?_); go_big_quiet_op; refine hK _ ?_; clear hK K)
            refine Calm.walk_eff rfl rfl (fun n wy hn hG _ => ?_) ?_
            · have hG' : Keep none_ wr wy := hG
              unfold gives
              go_simp
              refine (WK.out wy hG').mono ?_
              rintro e wz ⟨rfl, kz⟩
              exact ⟨_, rfl, rfl, kz, hG'.trans kz, fun _ h => h.elim⟩
            intro vq wy hT
            obtain rfl : vq = .int .i64 ix := hT
            clear wy
            go_frame
            repeat (first | (refine Calm.walk_skip rfl ?_; go_frame) | (refine Calm.walk_quiet ne rfl rfl rfl (fun K hK => ?_); go_big_quiet_op; refine hK _ ?_; clear hK K))
            intro w9 hG hD
            have k9 : Keep none_ wr w9 := hG
            have K9 := Lib.hid (HK.out.trans k9)
            clear hG hD gd ne x1 x2 x3 k9 c3 c4
            simp only [pickOps, List.filterMap_nil]
            by_cases hik : ix = (k : Int)
            · have hik' : (ix == (k : Int)) = true := by simpa using hik
              have hik2 : (ix != (k : Int)) = false := by simpa using hik
              have GOOD := Lib.hid (show wkGood s.workers k = true by rw [GR.out, hik]; simp)
              clear hik
              go_wp2
              go_roundw
              case rel => exact ⟨k + 1, by omega, by go_num, by rw [range_all_succ, GOOD.out, HA.out]; rfl, K9.out⟩
              case measure => simp [intOf]; omega
            · have hik' : (ix == (k : Int)) = false := by simpa using hik
              have hik2 : (ix != (k : Int)) = true := by simpa using hik
              have BAD := Lib.hid (show wkGood s.workers k = false by rw [GR.out, decide_eq_false hik]; rfl)
              clear hik
              go_wp2
              go_ret
              exact ⟨ret_bool (by rw [A2.out, HWL.out, range_all_part _ k P8 hlt BAD.out]; rfl), K1.out.trans K9.out⟩
        · obtain rfl : k = P8 := by omega
          have A3 := Lib.hid (show validF s = (List.range s.jobs.length).all (jobGood s) by rw [A2.out, HWL.out, HA.out, Bool.true_and])
          clear hkr A2 HA
          go_upto_region 9 with (fail)
          clear c3
          go_loopw [4] (fun i wr => ∃ k : Nat, k ≤ P5 ∧ i = .int .i64 k ∧ (List.range k).all (jobGood s) = true ∧ Keep none_ W1 wr) (fun i _ => P5 - (intOf i).toNat)
          case atStart => exact ⟨0, Nat.zero_le _, rfl, rfl, HK.out⟩
          case round =>
            clear HK
            obtain ⟨q, hq, rfl, hall, hkr⟩ := hrel
            have HA := Lib.hid hall
            have HK := Lib.hid hkr
            have c2 : wr.cell? ⟨w.heap.size, 2, none⟩ = some (.slice P4 P5 P6) := (B1.out.keep hkr (fun e => e)).cell 2
            clear hall
            by_cases hlt : q < P5
            · have hlt' : (q : Int) < P5 := by omega
              obtain ⟨b, o, rfl, -, hkl, cs, -, hrg, vn, vi, hcs, hns, his⟩ := ElemsOf.elem (HJ.out.keep hkr.weak) q hlt
              have gr := rGood_eq s q hkl
              have hsz := HZ.out.jb _ (List.getElem_mem hkl)
              generalize s.jobs[q] = j at hcs gr hsz hns his
              subst hcs
              obtain ⟨An, nn, cn, rfl, hns'⟩ := hns
              obtain ⟨Ai, ni, ci, rfl, hi1, hi2, hil, -⟩ := his
              have hne : (ni = 0) ↔ j.items.length = 0 := by omega
              unfold maxLen at hi2
              have HRG := Lib.hid hrg
              have VN := Lib.hid (fun wx => vname_any j.name hsz.1 wx)
              have NS := Lib.hid (show StrsOf wr (ge w.heap.size) (.slice An nn cn) j.needs from ⟨_, _, _, rfl, hns'⟩)
              have HSN := Lib.hid hsz.2
              have GR := Lib.hid gr
              have BR := Lib.hid (B1.out.keep hkr (fun e => e))
              have HSR := Lib.hid (HS.out.keep hkr.weak)
              clear hrg hns' hsz gr hkr
              have t1 : True := trivial
              have t2 : True := trivial
              go_upto_region 12 with (first | (have _t := t1; refine wpList_load_part 57 (.tmp 69) rfl rfl b (o + q * 7) (by first | rfl | simp) #[.string j.name, .slice An nn cn, .string j.worker, .int .i64 j.until_, .int .i64 j.tries, .bool j.done, .slice Ai ni ci] _ HRG.out Tryz.underlying57 rfl (by kernel_rfl) ?_; go_frame; clear _t t1) | (have _t := t2; refine wpList_store_blk rfl 57 (.tmp 5) (.tmp 70) rfl wr.heap.size 57 _ _ rfl rfl (Blk.new _ _ _) rfl (by kernel_rfl) (by simp [Value.oneCell']) ?_; intro w2 b2 k2 s2; go_frame; clear _t t2))
              have k12 : Keep none_ wr w2 := ((Keep.refl none_ wr).alloc _).own k2 (Nat.le_refl _)
              have e0 : w2.cell? ⟨wr.heap.size, 0, none⟩ = some (.string j.name) := b2.cell 0
              have e1 : w2.cell? ⟨wr.heap.size, 1, none⟩ = some (.slice An nn cn) := b2.cell 1
              have e2 : w2.cell? ⟨wr.heap.size, 2, none⟩ = some (.string j.worker) := b2.cell 2
              have e3 : w2.cell? ⟨wr.heap.size, 3, none⟩ = some (.int .i64 j.until_) := b2.cell 3
              have e4 : w2.cell? ⟨wr.heap.size, 4, none⟩ = some (.int .i64 j.tries) := b2.cell 4
              have e5 : w2.cell? ⟨wr.heap.size, 5, none⟩ = some (.bool j.done) := b2.cell 5
              have e6 : w2.cell? ⟨wr.heap.size, 6, none⟩ = some (.slice Ai ni ci) := b2.cell 6
              have RS := Lib.hid (fun (wx : World) (kx : Keep none_ w2 wx) => ((BR.out.keep k12 (fun e => e)).keep kx (fun e => e)).rangeAt)
              have SS := Lib.hid (fun (wx : World) (kx : Keep none_ w2 wx) => (HSR.out.keep k12.weak).keep kx.weak)
              have JBC := Lib.hid (fun (wx : World) (kx : Keep none_ w2 wx) => rjob_any s _ _ j.name wx (SS.out wx kx))
              have NMC := Lib.hid (fun (wx : World) (kx : Keep none_ w2 wx) => names_any j.needs HSN.out _ _ wx ((NS.out.keep k12.weak).keep kx.weak))
              have K2 := Lib.hid (HK.out.trans k12)
              have BD := Lib.hid (show rBase s q j = (nameOk j.name && decide (jbIdx s.jobs j.name = (q : Int)) && namesOk j.needs && decide (0 ≤ j.tries) && decide (j.tries ≤ 3) && (j.done || decide (j.items.length = 0))) from rfl)
              clear b2 k2 s2 k12 NS HSN BR HSR HRG c2
              go_cut [109] from 59 to 159 (fun x wx => x = .bool (!rBase s q j) ∧ Keep none_ w2 wx)
              case first =>
                cases a1 : nameOk j.name with
                | false =>
                  rw [a1] at VN
                  have A := Lib.hid (show rBase s q j = false by rw [BD.out, a1]; rfl)
                  clear a1
                  have t1 : True := trivial
                  go_wp2_with (have _t := t1; go_at_call 45; refine (VN.out _).mono ?_; rintro e w' ⟨rfl, rfl⟩; clear _t t1)
                  go_meet
                  exact ⟨by rw [A.out]; rfl, Keep.refl _ _⟩
                | true =>
                  rw [a1] at VN
                  obtain ⟨ix, hix⟩ : ∃ ix, jbIdx s.jobs j.name = ix := ⟨_, rfl⟩
                  rw [hix] at JBC
                  have A1 := Lib.hid (show rBase s q j = (decide (ix = (q : Int)) && namesOk j.needs && decide (0 ≤ j.tries) && decide (j.tries ≤ 3) && (j.done || decide (j.items.length = 0))) by rw [BD.out, a1, hix]; simp)
                  clear a1 hix BD
                  have t1 : True := trivial
                  by_cases a2 : ix = (q : Int)
                  · have a2' : (ix == (q : Int)) = true := by simpa using a2
                    have a2'' : (ix != (q : Int)) = false := by simpa using a2
                    cases a3 : namesOk j.needs with
                    | false =>
                      rw [a3] at NMC
                      have A := Lib.hid (show rBase s q j = false by rw [A1.out, a3]; simp)
                      clear a3 a2 A1
                      go_wp2_with (first | (have _t := t1; go_at_call 45; refine (VN.out _).mono ?_; rintro e w' ⟨rfl, rfl⟩; clear _t t1; have t2 : True := trivial) | (have _t := t2; refine wpList_load_part 48 (.tmp 1) rfl rfl w.heap.size 0 rfl #[.int .i64 s.now, .slice P1 P2 P3, .slice (some ⟨b, o, none⟩) P5 P6, .slice P7 k P9] _ (RS.out w2 (Keep.refl _ _)) Tryz.underlying48 rfl (by kernel_rfl) ?_; go_frame; clear _t t2; have t3 : True := trivial) | (have _t := t3; go_at_call 47; refine (JBC.out w2 (Keep.refl _ _)).mono ?_; rintro e w3 ⟨rfl, k3⟩; have d1 := k3.cell e1 (fun e => e); clear _t t3; have t4 : True := trivial) | (have _t := t4; go_at_call 44; refine (NMC.out _ k3).mono ?_; rintro e w4 ⟨rfl, k4⟩; have k24 := k3.trans k4; clear _t t4))
                      go_meet
                      exact ⟨by rw [A.out]; rfl, k24⟩
                    | true =>
                      rw [a3] at NMC
                      have A3 := Lib.hid (show rBase s q j = (decide (0 ≤ j.tries) && decide (j.tries ≤ 3) && (j.done || decide (j.items.length = 0))) by rw [A1.out, a3, decide_eq_true a2]; simp)
                      clear a3 a2 A1
                      by_cases a4 : j.tries < 0
                      · have A := Lib.hid (show rBase s q j = false by rw [A3.out]; simp; omega)
                        go_wp2_with (first | (have _t := t1; go_at_call 45; refine (VN.out _).mono ?_; rintro e w' ⟨rfl, rfl⟩; clear _t t1; have t2 : True := trivial) | (have _t := t2; refine wpList_load_part 48 (.tmp 1) rfl rfl w.heap.size 0 rfl #[.int .i64 s.now, .slice P1 P2 P3, .slice (some ⟨b, o, none⟩) P5 P6, .slice P7 k P9] _ (RS.out w2 (Keep.refl _ _)) Tryz.underlying48 rfl (by kernel_rfl) ?_; go_frame; clear _t t2; have t3 : True := trivial) | (have _t := t3; go_at_call 47; refine (JBC.out w2 (Keep.refl _ _)).mono ?_; rintro e w3 ⟨rfl, k3⟩; have d1 := k3.cell e1 (fun e => e); clear _t t3; have t4 : True := trivial) | (have _t := t4; go_at_call 44; refine (NMC.out _ k3).mono ?_; rintro e w4 ⟨rfl, k4⟩; have k24 := k3.trans k4; have d4 := k24.cell e4 (fun e => e); clear _t t4))
                        go_meet
                        exact ⟨by rw [A.out]; rfl, k24⟩
                      by_cases a6 : 3 < j.tries
                      · have A := Lib.hid (show rBase s q j = false by rw [A3.out]; simp; omega)
                        go_wp2_with (first | (have _t := t1; go_at_call 45; refine (VN.out _).mono ?_; rintro e w' ⟨rfl, rfl⟩; clear _t t1; have t2 : True := trivial) | (have _t := t2; refine wpList_load_part 48 (.tmp 1) rfl rfl w.heap.size 0 rfl #[.int .i64 s.now, .slice P1 P2 P3, .slice (some ⟨b, o, none⟩) P5 P6, .slice P7 k P9] _ (RS.out w2 (Keep.refl _ _)) Tryz.underlying48 rfl (by kernel_rfl) ?_; go_frame; clear _t t2; have t3 : True := trivial) | (have _t := t3; go_at_call 47; refine (JBC.out w2 (Keep.refl _ _)).mono ?_; rintro e w3 ⟨rfl, k3⟩; have d1 := k3.cell e1 (fun e => e); clear _t t3; have t4 : True := trivial) | (have _t := t4; go_at_call 44; refine (NMC.out _ k3).mono ?_; rintro e w4 ⟨rfl, k4⟩; have k24 := k3.trans k4; have d4 := k24.cell e4 (fun e => e); clear _t t4))
                        go_meet
                        exact ⟨by rw [A.out]; rfl, k24⟩
                      have A4 := Lib.hid (show rBase s q j = (j.done || decide (ni = 0)) by rw [A3.out, decide_eq_true (show 0 ≤ j.tries by omega), decide_eq_true (show j.tries ≤ 3 by omega), decide_eq_decide.2 hne]; rfl)
                      cases a5 : j.done with
                      | true =>
                        rw [a5] at e5 A4
                        clear a5
                        go_wp2_with (first | (have _t := t1; go_at_call 45; refine (VN.out _).mono ?_; rintro e w' ⟨rfl, rfl⟩; clear _t t1; have t2 : True := trivial) | (have _t := t2; refine wpList_load_part 48 (.tmp 1) rfl rfl w.heap.size 0 rfl #[.int .i64 s.now, .slice P1 P2 P3, .slice (some ⟨b, o, none⟩) P5 P6, .slice P7 k P9] _ (RS.out w2 (Keep.refl _ _)) Tryz.underlying48 rfl (by kernel_rfl) ?_; go_frame; clear _t t2; have t3 : True := trivial) | (have _t := t3; go_at_call 47; refine (JBC.out w2 (Keep.refl _ _)).mono ?_; rintro e w3 ⟨rfl, k3⟩; have d1 := k3.cell e1 (fun e => e); clear _t t3; have t4 : True := trivial) | (have _t := t4; go_at_call 44; refine (NMC.out _ k3).mono ?_; rintro e w4 ⟨rfl, k4⟩; have k24 := k3.trans k4; have d4 := k24.cell e4 (fun e => e); have d5 := k24.cell e5 (fun e => e); clear _t t4))
                        go_meet
                        exact ⟨congrArg Value.bool (by rw [A4.out, Bool.eq_iff_iff]; simp; omega), k24⟩
                      | false =>
                        rw [a5] at e5 A4
                        clear a5
                        go_wp2_with (first | (have _t := t1; go_at_call 45; refine (VN.out _).mono ?_; rintro e w' ⟨rfl, rfl⟩; clear _t t1; have t2 : True := trivial) | (have _t := t2; refine wpList_load_part 48 (.tmp 1) rfl rfl w.heap.size 0 rfl #[.int .i64 s.now, .slice P1 P2 P3, .slice (some ⟨b, o, none⟩) P5 P6, .slice P7 k P9] _ (RS.out w2 (Keep.refl _ _)) Tryz.underlying48 rfl (by kernel_rfl) ?_; go_frame; clear _t t2; have t3 : True := trivial) | (have _t := t3; go_at_call 47; refine (JBC.out w2 (Keep.refl _ _)).mono ?_; rintro e w3 ⟨rfl, k3⟩; have d1 := k3.cell e1 (fun e => e); clear _t t3; have t4 : True := trivial) | (have _t := t4; go_at_call 44; refine (NMC.out _ k3).mono ?_; rintro e w4 ⟨rfl, k4⟩; have k24 := k3.trans k4; have d4 := k24.cell e4 (fun e => e); have d5 := k24.cell e5 (fun e => e); have d6 := k24.cell e6 (fun e => e); clear _t t4))
                        go_meet
                        exact ⟨congrArg Value.bool (by rw [A4.out, Bool.eq_iff_iff]; simp; omega), k24⟩
                  · have a2' : (ix == (q : Int)) = false := by simpa using a2
                    have a2'' : (ix != (q : Int)) = true := by simpa using a2
                    have A := Lib.hid (show rBase s q j = false by rw [A1.out, decide_eq_false a2]; rfl)
                    clear a2 A1
                    go_wp2_with (first | (have _t := t1; go_at_call 45; refine (VN.out _).mono ?_; rintro e w' ⟨rfl, rfl⟩; clear _t t1; have t2 : True := trivial) | (have _t := t2; refine wpList_load_part 48 (.tmp 1) rfl rfl w.heap.size 0 rfl #[.int .i64 s.now, .slice P1 P2 P3, .slice (some ⟨b, o, none⟩) P5 P6, .slice P7 k P9] _ (RS.out w2 (Keep.refl _ _)) Tryz.underlying48 rfl (by kernel_rfl) ?_; go_frame; clear _t t2; have t3 : True := trivial) | (have _t := t3; go_at_call 47; refine (JBC.out w2 (Keep.refl _ _)).mono ?_; rintro e w3 ⟨rfl, k3⟩; have d1 := k3.cell e1 (fun e => e); clear _t t3; have t4 : True := trivial))
                    go_meet
                    exact ⟨by rw [A.out]; rfl, k3⟩
              case rest =>
                obtain ⟨rfl, kc⟩ := hcut
                have kc' := kc
                replace e2 := kc.cell e2 (fun e => e)
                replace e3 := kc.cell e3 (fun e => e)
                replace e4 := kc.cell e4 (fun e => e)
                replace e5 := kc.cell e5 (fun e => e)
                have c0 : wc.cell? ⟨w.heap.size, 0, none⟩ = some (.int .i64 s.now) := (RS.out wc kc) 0 _ rfl
                have KC := Lib.hid (K2.out.trans kc)
                have RSC := Lib.hid (fun (wx : World) (kx : Keep none_ wc wx) => RS.out wx (kc'.trans kx))
                have WKC := Lib.hid (fun (wx : World) (kx : Keep none_ wc wx) => rworker_any s _ _ j.worker wx (SS.out wx (kc'.trans kx)))
                have BSC := Lib.hid (fun (wx : World) (kx : Keep none_ wc wx) => rbusy_any s _ _ j.worker wx (SS.out wx (kc'.trans kx)))
                have GE := Lib.hid (show jobGood s q = (rBase s q j && (if strEq j.worker ⟨#[]⟩ then decide (j.until_ = 0) else rGift s q j)) from GR.out)
                clear kc kc' e0 e1 e6 JBC NMC VN BD GR RS SS K2
                cases hb : rBase s q j with
                | false =>
                  have BAD := Lib.hid (show jobGood s q = false by rw [GE.out, hb]; rfl)
                  clear hb
                  go_wp2
                  go_ret
                  exact ⟨ret_bool (by rw [A3.out, HJL.out, range_all_part _ q P5 hlt BAD.out]), K1.out.trans KC.out⟩
                | true =>
                  have GE1 := Lib.hid (show jobGood s q = (if strEq j.worker ⟨#[]⟩ then decide (j.until_ = 0) else rGift s q j) by rw [GE.out, hb, Bool.true_and])
                  clear hb GE
                  cases hw : strEq j.worker ⟨#[]⟩ with
                  | true =>
                    have e1 : j.worker = ⟨#[]⟩ := strEq_iff.1 hw
                    have GE2 := Lib.hid (show jobGood s q = decide (j.until_ = 0) by rw [GE1.out, hw]; rfl)
                    rw [e1] at e2
                    clear hw e1 GE1
                    by_cases hu : j.until_ = 0
                    · have hu' : (j.until_ == 0) = true := by simpa using hu
                      have hu2 : (j.until_ != 0) = false := by simpa using hu
                      have GOOD := Lib.hid (show jobGood s q = true by rw [GE2.out, decide_eq_true hu])
                      go_wp2
                      go_roundw
                      case rel => exact ⟨q + 1, by omega, by go_num, by rw [range_all_succ, GOOD.out, HA.out]; rfl, KC.out⟩
                      case measure => simp [intOf]; omega
                    · have hu' : (j.until_ == 0) = false := by simpa using hu
                      have hu2 : (j.until_ != 0) = true := by simpa using hu
                      have BAD := Lib.hid (show jobGood s q = false by rw [GE2.out, decide_eq_false hu])
                      go_wp2
                      go_ret
                      exact ⟨ret_bool (by rw [A3.out, HJL.out, range_all_part _ q P5 hlt BAD.out]), K1.out.trans KC.out⟩
                  | false =>
                    have ne0 : j.worker.toList ≠ [] := fun h => by
                      have : strEq j.worker ⟨#[]⟩ = true := by unfold strEq; rw [h, ByteArray.toList_eq]; rfl
                      rw [hw] at this
                      cases this
                    have ne1 : (j.worker.toList == []) = false := by simpa using ne0
                    have ne2 : j.worker.toList.isEmpty = false := by simpa using ne0
                    have GE2 := Lib.hid (show jobGood s q = rGift s q j by rw [GE1.out, hw]; rfl)
                    clear hw ne0 GE1
                    go_upto_region 16 with (fail)
                    have RG := Lib.hid (show rGift s q j = (!j.done && decide (0 ≤ wkIdx s.workers j.worker) && decide (bsIdx s.jobs j.worker = (q : Int)) && decide (s.now < j.until_) && decide (j.until_ ≤ s.now + 10) && decide (j.tries ≠ 3)) from rfl)
                    go_cut [159] from 59 to 159 (fun x wx => x = .bool (!rGift s q j) ∧ Keep none_ wc wx)
                    case first =>
                      cases a5 : j.done with
                      | true =>
                        rw [a5] at e5
                        have A := Lib.hid (show rGift s q j = false by rw [RG.out, a5]; rfl)
                        clear a5
                        go_wp2
                        go_meet
                        exact ⟨by rw [A.out]; rfl, Keep.refl _ _⟩
                      | false =>
                        rw [a5] at e5
                        obtain ⟨ix, hix⟩ : ∃ ix, wkIdx s.workers j.worker = ix := ⟨_, rfl⟩
                        obtain ⟨bx, hbx⟩ : ∃ bx, bsIdx s.jobs j.worker = bx := ⟨_, rfl⟩
                        rw [hix] at WKC
                        rw [hbx] at BSC
                        have A1 := Lib.hid (show rGift s q j = (decide (0 ≤ ix) && decide (bx = (q : Int)) && decide (s.now < j.until_) && decide (j.until_ ≤ s.now + 10) && decide (j.tries ≠ 3)) by rw [RG.out, a5, hix, hbx]; simp)
                        clear a5 hix hbx RG
                        have t2 : True := trivial
                        by_cases b1 : ix < 0
                        · have A := Lib.hid (show rGift s q j = false by rw [A1.out, decide_eq_false (show ¬ 0 ≤ ix by omega)]; rfl)
                          go_wp2_with (first | (have _t := t2; refine wpList_load_part 48 (.tmp 1) rfl rfl w.heap.size 0 rfl #[.int .i64 s.now, .slice P1 P2 P3, .slice (some ⟨b, o, none⟩) P5 P6, .slice P7 k P9] _ (RSC.out wc (Keep.refl _ _)) Tryz.underlying48 rfl (by kernel_rfl) ?_; go_frame; clear _t t2; have t3 : True := trivial) | (have _t := t3; go_at_call 46; refine (WKC.out wc (Keep.refl _ _)).mono ?_; rintro e w3 ⟨rfl, k3⟩; have f2 := k3.cell e2 (fun e => e); clear _t t3; have t4 : True := trivial))
                          go_meet
                          exact ⟨by rw [A.out]; rfl, k3⟩
                        have b1' : decide (ix < 0) = false := decide_eq_false b1
                        by_cases b2 : bx = (q : Int)
                        · have b2' : (bx == (q : Int)) = true := by simpa using b2
                          have b2'' : (bx != (q : Int)) = false := by simpa using b2
                          have A2 := Lib.hid (show rGift s q j = (decide (s.now < j.until_) && decide (j.until_ ≤ s.now + 10) && decide (j.tries ≠ 3)) by rw [A1.out, decide_eq_true (show 0 ≤ ix by omega), decide_eq_true b2]; simp)
                          clear b2 A1
                          by_cases b3 : j.until_ ≤ s.now
                          · have A := Lib.hid (show rGift s q j = false by rw [A2.out]; simp; omega)
                            go_wp2_with (first | (have _t := t2; refine wpList_load_part 48 (.tmp 1) rfl rfl w.heap.size 0 rfl #[.int .i64 s.now, .slice P1 P2 P3, .slice (some ⟨b, o, none⟩) P5 P6, .slice P7 k P9] _ (RSC.out wc (Keep.refl _ _)) Tryz.underlying48 rfl (by kernel_rfl) ?_; go_frame; clear _t t2; have t3 : True := trivial) | (have _t := t3; go_at_call 46; refine (WKC.out wc (Keep.refl _ _)).mono ?_; rintro e w3 ⟨rfl, k3⟩; have f2 := k3.cell e2 (fun e => e); clear _t t3; have t4 : True := trivial) | (have _t := t4; refine wpList_load_part 48 (.tmp 1) rfl rfl w.heap.size 0 rfl #[.int .i64 s.now, .slice P1 P2 P3, .slice (some ⟨b, o, none⟩) P5 P6, .slice P7 k P9] _ (RSC.out _ k3) Tryz.underlying48 rfl (by kernel_rfl) ?_; go_frame; clear _t t4; have t5 : True := trivial) | (have _t := t5; go_at_call 48; refine (BSC.out _ k3).mono ?_; rintro e w4 ⟨rfl, k4⟩; have k34 := k3.trans k4; have f3 := k34.cell e3 (fun e => e); have f4 := k34.cell e4 (fun e => e); have f0 := k34.cell c0 (fun e => e); clear _t t5))
                            go_meet
                            exact ⟨by rw [A.out]; rfl, k34⟩
                          by_cases b4 : s.now + 10 < j.until_
                          · have A := Lib.hid (show rGift s q j = false by rw [A2.out]; simp; omega)
                            go_wp2_with (first | (have _t := t2; refine wpList_load_part 48 (.tmp 1) rfl rfl w.heap.size 0 rfl #[.int .i64 s.now, .slice P1 P2 P3, .slice (some ⟨b, o, none⟩) P5 P6, .slice P7 k P9] _ (RSC.out wc (Keep.refl _ _)) Tryz.underlying48 rfl (by kernel_rfl) ?_; go_frame; clear _t t2; have t3 : True := trivial) | (have _t := t3; go_at_call 46; refine (WKC.out wc (Keep.refl _ _)).mono ?_; rintro e w3 ⟨rfl, k3⟩; have f2 := k3.cell e2 (fun e => e); clear _t t3; have t4 : True := trivial) | (have _t := t4; refine wpList_load_part 48 (.tmp 1) rfl rfl w.heap.size 0 rfl #[.int .i64 s.now, .slice P1 P2 P3, .slice (some ⟨b, o, none⟩) P5 P6, .slice P7 k P9] _ (RSC.out _ k3) Tryz.underlying48 rfl (by kernel_rfl) ?_; go_frame; clear _t t4; have t5 : True := trivial) | (have _t := t5; go_at_call 48; refine (BSC.out _ k3).mono ?_; rintro e w4 ⟨rfl, k4⟩; have k34 := k3.trans k4; have f3 := k34.cell e3 (fun e => e); have f4 := k34.cell e4 (fun e => e); have f0 := k34.cell c0 (fun e => e); clear _t t5))
                            go_meet
                            exact ⟨by rw [A.out]; rfl, k34⟩
                          have A3' := Lib.hid (show rGift s q j = decide (j.tries ≠ 3) by rw [A2.out, decide_eq_true (show s.now < j.until_ by omega), decide_eq_true (show j.until_ ≤ s.now + 10 by omega)]; rfl)
                          go_wp2_with (first | (have _t := t2; refine wpList_load_part 48 (.tmp 1) rfl rfl w.heap.size 0 rfl #[.int .i64 s.now, .slice P1 P2 P3, .slice (some ⟨b, o, none⟩) P5 P6, .slice P7 k P9] _ (RSC.out wc (Keep.refl _ _)) Tryz.underlying48 rfl (by kernel_rfl) ?_; go_frame; clear _t t2; have t3 : True := trivial) | (have _t := t3; go_at_call 46; refine (WKC.out wc (Keep.refl _ _)).mono ?_; rintro e w3 ⟨rfl, k3⟩; have f2 := k3.cell e2 (fun e => e); clear _t t3; have t4 : True := trivial) | (have _t := t4; refine wpList_load_part 48 (.tmp 1) rfl rfl w.heap.size 0 rfl #[.int .i64 s.now, .slice P1 P2 P3, .slice (some ⟨b, o, none⟩) P5 P6, .slice P7 k P9] _ (RSC.out _ k3) Tryz.underlying48 rfl (by kernel_rfl) ?_; go_frame; clear _t t4; have t5 : True := trivial) | (have _t := t5; go_at_call 48; refine (BSC.out _ k3).mono ?_; rintro e w4 ⟨rfl, k4⟩; have k34 := k3.trans k4; have f3 := k34.cell e3 (fun e => e); have f4 := k34.cell e4 (fun e => e); have f0 := k34.cell c0 (fun e => e); clear _t t5))
                          go_meet
                          exact ⟨congrArg Value.bool (by rw [A3'.out, Bool.eq_iff_iff]; simp; omega), k34⟩
                        · have b2' : (bx == (q : Int)) = false := by simpa using b2
                          have b2'' : (bx != (q : Int)) = true := by simpa using b2
                          have A := Lib.hid (show rGift s q j = false by rw [A1.out, decide_eq_false b2]; simp)
                          clear b2 A1
                          go_wp2_with (first | (have _t := t2; refine wpList_load_part 48 (.tmp 1) rfl rfl w.heap.size 0 rfl #[.int .i64 s.now, .slice P1 P2 P3, .slice (some ⟨b, o, none⟩) P5 P6, .slice P7 k P9] _ (RSC.out wc (Keep.refl _ _)) Tryz.underlying48 rfl (by kernel_rfl) ?_; go_frame; clear _t t2; have t3 : True := trivial) | (have _t := t3; go_at_call 46; refine (WKC.out wc (Keep.refl _ _)).mono ?_; rintro e w3 ⟨rfl, k3⟩; have f2 := k3.cell e2 (fun e => e); clear _t t3; have t4 : True := trivial) | (have _t := t4; refine wpList_load_part 48 (.tmp 1) rfl rfl w.heap.size 0 rfl #[.int .i64 s.now, .slice P1 P2 P3, .slice (some ⟨b, o, none⟩) P5 P6, .slice P7 k P9] _ (RSC.out _ k3) Tryz.underlying48 rfl (by kernel_rfl) ?_; go_frame; clear _t t4; have t5 : True := trivial) | (have _t := t5; go_at_call 48; refine (BSC.out _ k3).mono ?_; rintro e w4 ⟨rfl, k4⟩; have k34 := k3.trans k4; have f3 := k34.cell e3 (fun e => e); have f4 := k34.cell e4 (fun e => e); have f0 := k34.cell c0 (fun e => e); clear _t t5))
                          go_meet
                          exact ⟨by rw [A.out]; rfl, k34⟩
                    case rest =>
                      obtain ⟨rfl, kd⟩ := hcut
                      have KD := Lib.hid (KC.out.trans kd)
                      clear kd
                      cases hg : rGift s q j with
                      | false =>
                        have BAD := Lib.hid (show jobGood s q = false by rw [GE2.out, hg])
                        clear hg
                        go_wp2
                        go_ret
                        exact ⟨ret_bool (by rw [A3.out, HJL.out, range_all_part _ q P5 hlt BAD.out]), K1.out.trans KD.out⟩
                      | true =>
                        have GOOD := Lib.hid (show jobGood s q = true by rw [GE2.out, hg])
                        clear hg
                        go_wp2
                        go_roundw
                        case rel => exact ⟨q + 1, by omega, by go_num, by rw [range_all_succ, GOOD.out, HA.out]; rfl, KD.out⟩
                        case measure => simp [intOf]; omega
            · obtain rfl : q = P5 := by omega
              go_wp2
              go_ret
              exact ⟨ret_bool (by rw [A3.out, HJL.out, HA.out]), K1.out.trans HK.out⟩
end Go.Proofs.YtnefbeplgfdkkaaGreatDoor
