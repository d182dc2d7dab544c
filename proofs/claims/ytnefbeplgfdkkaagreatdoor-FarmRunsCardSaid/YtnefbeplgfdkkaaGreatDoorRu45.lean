/-
  cutroomref37.event.
-/
import Derived.Test.YtnefbeplgfdkkaaGreatDoorRu16
namespace Go.Proofs.YtnefbeplgfdkkaaGreatDoor
open Go.RowKit

/-- The names of an event fit into a machine. -/
structure SzE (e : Ev) : Prop where
  name : Szd e.name
  worker : Szd e.worker
  needs : ∀ x ∈ e.needs, Szd x

set_option maxRecDepth 100000 in
set_option maxHeartbeats 4000000 in
theorem revent_any (e : Ev) (hz : SzE e) (v : Value) (S : Nat → Prop) (w : World) (h : EvOf w S v e) :
    Calls Tryz.prog 56 #[v] w fun en w' => en = .returned (.bool (evOk e)) ∧ Keep none_ w w' := by
  obtain ⟨vn, vi, rfl, hns, his⟩ := h
  have hns0 := hns
  obtain ⟨An, nn, cn, rfl, hnr⟩ := hns
  obtain ⟨Ai, ni, ci, rfl, hi1, hi2, hil, -⟩ := his
  have hnl : e.needs.length = nn := by have := hnr.len; simp at this; omega
  have q1 := hnr.cap
  have q2 := hnr.le
  unfold maxLen at q1 hi2
  obtain ⟨W1, hW1⟩ : ∃ W1, W1 = w.alloc (.cells #[.int .i64 e.kind, .string e.name, .string e.worker, .slice An nn cn, .int .i64 e.ticks, .slice Ai ni ci] 78) := ⟨_, rfl⟩
  have k1 : Keep none_ w W1 := hW1 ▸ (Keep.refl none_ w).alloc _
  have b1 : Blk W1 w.heap.size 78 #[.int .i64 e.kind, .string e.name, .string e.worker, .slice An nn cn, .int .i64 e.ticks, .slice Ai ni ci] := hW1 ▸ Blk.new _ _ _
  have VN1 := Lib.hid (fun wx => vname_any e.name hz.name wx)
  have VN2 := Lib.hid (fun wx => vname_any e.worker hz.worker wx)
  have NS := Lib.hid (fun (wx : World) (kx : Keep none_ W1 wx) => names_any e.needs hz.needs _ _ wx ((hns0.keep k1.weak).keep kx.weak))
  have B1 := Lib.hid b1
  have K1 := Lib.hid k1
  have ANS := Lib.hid (evOk_ref e)
  have R1 := Lib.hid (show rEv1 e = ((strEq e.name ⟨#[]⟩ || nameOk e.name) && (strEq e.worker ⟨#[]⟩ || nameOk e.worker)) from rfl)
  have R2 := Lib.hid (show rEv2 e = ((decide (e.kind = 7) || decide (ni = 0)) && (decide (e.kind = 1) || decide (nn = 0)) && (decide (e.kind = 9) || decide (e.ticks = 0))) by unfold rEv2; rw [hil, hnl])
  have R3 := Lib.hid (show rEv3 e = (if e.kind = 1 then !strEq e.name ⟨#[]⟩ && strEq e.worker ⟨#[]⟩ && namesOk e.needs
    else if e.kind = 2 ∨ e.kind = 3 then !strEq e.name ⟨#[]⟩ && strEq e.worker ⟨#[]⟩
    else if e.kind = 4 ∨ e.kind = 5 ∨ e.kind = 6 then strEq e.name ⟨#[]⟩ && !strEq e.worker ⟨#[]⟩
    else if e.kind = 7 ∨ e.kind = 8 then !strEq e.name ⟨#[]⟩ && !strEq e.worker ⟨#[]⟩
    else if e.kind = 9 then strEq e.name ⟨#[]⟩ && strEq e.worker ⟨#[]⟩ && decide (1 ≤ e.ticks) && decide (e.ticks ≤ 1000)
    else false) from rfl)
  clear hns0 hnr hil hnl k1 b1 hz
  go_enter Tryz.func56, Tryz.ntmps56
  go_upto_region 1 with (fail)
  rw [← hW1]
  clear hW1
  have c1 : W1.cell? ⟨w.heap.size, 1, none⟩ = some (.string e.name) := B1.out.cell 1
  have c2 : W1.cell? ⟨w.heap.size, 2, none⟩ = some (.string e.worker) := B1.out.cell 2
  go_cut [3, 4] (fun a b wx => a = .bool (strEq e.name ⟨#[]⟩) ∧ b = .bool (strEq e.worker ⟨#[]⟩) ∧ Keep none_ W1 wx)
  case first =>
    cases hn : strEq e.name ⟨#[]⟩ with
    | true =>
      have en : e.name = ⟨#[]⟩ := strEq_iff.1 hn
      rw [en] at c1
      clear en
      have HN := Lib.hid hn
      clear hn
      cases hw : strEq e.worker ⟨#[]⟩ with
      | true =>
        have ew : e.worker = ⟨#[]⟩ := strEq_iff.1 hw
        rw [ew] at c2
        clear ew
        have HW := Lib.hid hw
        clear hw
        have gd := still_good (W1).drew
        have ne := still_some (W1).drew
        have hx := still_at (W1).drew
        refine wp_region_calm (stillCalm (W1).drew) [0, 1, 2, 3, 4, 5, 6, 7] [] 115 (by kernel_rfl) (by kernel_rfl) rfl gd rfl ?_
        simp only [pairs, List.filterMap_cons, List.filterMap_nil, List.getElem?_toArray, List.getElem?_cons_succ, List.getElem?_cons_zero, Option.map_some]
        repeat (refine Calm.walk_quiet ne rfl rfl rfl (fun K hK => ?_); go_big_quiet_op; refine hK _ ?_; clear hK K)
        intro w' hR _
        obtain rfl : w' = (W1).drew := hR.symm
        simp only [pickOps, List.filterMap_nil]
        clear gd ne hx hR
        go_wp2
        go_meet
        exact ⟨by first | rfl | rw [HN.out], by first | rfl | rw [HW.out], (Keep.refl _ _).drew⟩
      | false =>
        obtain ⟨me1, me2⟩ := empty_no hw
        have HW := Lib.hid hw
        clear hw
        have gd := still_good (W1).drew
        have ne := still_some (W1).drew
        have hx := still_at (W1).drew
        refine wp_region_calm (stillCalm (W1).drew) [0, 1, 2, 3, 4, 5, 6, 7] [] 115 (by kernel_rfl) (by kernel_rfl) rfl gd rfl ?_
        simp only [pairs, List.filterMap_cons, List.filterMap_nil, List.getElem?_toArray, List.getElem?_cons_succ, List.getElem?_cons_zero, Option.map_some]
        repeat (refine Calm.walk_quiet ne rfl rfl rfl (fun K hK => ?_); go_big_quiet_op; refine hK _ ?_; clear hK K)
        intro w' hR _
        obtain rfl : w' = (W1).drew := hR.symm
        simp only [pickOps, List.filterMap_nil]
        clear gd ne hx hR
        go_wp2
        go_meet
        exact ⟨by first | rfl | rw [HN.out], by first | rfl | rw [HW.out], (Keep.refl _ _).drew⟩
    | false =>
      obtain ⟨ne1, ne2⟩ := empty_no hn
      have HN := Lib.hid hn
      clear hn
      cases hw : strEq e.worker ⟨#[]⟩ with
      | true =>
        have ew : e.worker = ⟨#[]⟩ := strEq_iff.1 hw
        rw [ew] at c2
        clear ew
        have HW := Lib.hid hw
        clear hw
        have gd := still_good (W1).drew
        have ne := still_some (W1).drew
        have hx := still_at (W1).drew
        refine wp_region_calm (stillCalm (W1).drew) [0, 1, 2, 3, 4, 5, 6, 7] [] 115 (by kernel_rfl) (by kernel_rfl) rfl gd rfl ?_
        simp only [pairs, List.filterMap_cons, List.filterMap_nil, List.getElem?_toArray, List.getElem?_cons_succ, List.getElem?_cons_zero, Option.map_some]
        repeat (refine Calm.walk_quiet ne rfl rfl rfl (fun K hK => ?_); go_big_quiet_op; refine hK _ ?_; clear hK K)
        intro w' hR _
        obtain rfl : w' = (W1).drew := hR.symm
        simp only [pickOps, List.filterMap_nil]
        clear gd ne hx hR
        go_wp2
        go_meet
        exact ⟨by first | rfl | rw [HN.out], by first | rfl | rw [HW.out], (Keep.refl _ _).drew⟩
      | false =>
        obtain ⟨me1, me2⟩ := empty_no hw
        have HW := Lib.hid hw
        clear hw
        have gd := still_good (W1).drew
        have ne := still_some (W1).drew
        have hx := still_at (W1).drew
        refine wp_region_calm (stillCalm (W1).drew) [0, 1, 2, 3, 4, 5, 6, 7] [] 115 (by kernel_rfl) (by kernel_rfl) rfl gd rfl ?_
        simp only [pairs, List.filterMap_cons, List.filterMap_nil, List.getElem?_toArray, List.getElem?_cons_succ, List.getElem?_cons_zero, Option.map_some]
        repeat (refine Calm.walk_quiet ne rfl rfl rfl (fun K hK => ?_); go_big_quiet_op; refine hK _ ?_; clear hK K)
        intro w' hR _
        obtain rfl : w' = (W1).drew := hR.symm
        simp only [pickOps, List.filterMap_nil]
        clear gd ne hx hR
        go_wp2
        go_meet
        exact ⟨by first | rfl | rw [HN.out], by first | rfl | rw [HW.out], (Keep.refl _ _).drew⟩
  case rest =>
    obtain ⟨rfl, rfl, kc⟩ := hcut
    have c1 := kc.cell c1 (fun e => e)
    have c2 := kc.cell c2 (fun e => e)
    have KC := Lib.hid kc
    clear kc
    obtain ⟨en, hen⟩ : ∃ b, strEq e.name ⟨#[]⟩ = b := ⟨_, rfl⟩
    obtain ⟨ew, hew⟩ : ∃ b, strEq e.worker ⟨#[]⟩ = b := ⟨_, rfl⟩
    rw [hen, hew] at R1 R3
    rw [hen, hew]
    clear hen hew
    obtain ⟨n1, hn1⟩ : ∃ b, nameOk e.name = b := ⟨_, rfl⟩
    obtain ⟨n2, hn2⟩ : ∃ b, nameOk e.worker = b := ⟨_, rfl⟩
    rw [hn1] at VN1 R1
    rw [hn2] at VN2 R1
    clear hn1 hn2
    go_upto_region 2 with (fail)
    go_cut [28] (fun x wx => x = .bool (!rEv1 e) ∧ wc = wx)
    case first =>
      cases en with
      | true =>
        cases ew with
        | true =>
          have t2 : True := trivial
          go_wp2
          go_meet
          exact ⟨by rw [R1.out]; rfl, rfl⟩
        | false =>
          cases n2 with
          | true =>
            have t2 : True := trivial
            go_wp2_with ((have _t := t2; go_at_call 45; refine (VN2.out _).mono ?_; rintro e w' ⟨rfl, rfl⟩; clear _t t2))
            go_meet
            exact ⟨by rw [R1.out]; rfl, rfl⟩
          | false =>
            have t2 : True := trivial
            go_wp2_with ((have _t := t2; go_at_call 45; refine (VN2.out _).mono ?_; rintro e w' ⟨rfl, rfl⟩; clear _t t2))
            go_meet
            exact ⟨by rw [R1.out]; rfl, rfl⟩
      | false =>
        cases n1 with
        | false =>
          have t1 : True := trivial
          go_wp2_with ((have _t := t1; go_at_call 45; refine (VN1.out _).mono ?_; rintro e w' ⟨rfl, rfl⟩; clear _t t1; have t2 : True := trivial))
          go_meet
          exact ⟨by rw [R1.out]; rfl, rfl⟩
        | true =>
          cases ew with
          | true =>
            have t1 : True := trivial
            go_wp2_with ((have _t := t1; go_at_call 45; refine (VN1.out _).mono ?_; rintro e w' ⟨rfl, rfl⟩; clear _t t1; have t2 : True := trivial))
            go_meet
            exact ⟨by rw [R1.out]; rfl, rfl⟩
          | false =>
            cases n2 with
            | true =>
              have t1 : True := trivial
              go_wp2_with (first | (have _t := t1; go_at_call 45; refine (VN1.out _).mono ?_; rintro e w' ⟨rfl, rfl⟩; clear _t t1; have t2 : True := trivial) | (have _t := t2; go_at_call 45; refine (VN2.out _).mono ?_; rintro e w' ⟨rfl, rfl⟩; clear _t t2))
              go_meet
              exact ⟨by rw [R1.out]; rfl, rfl⟩
            | false =>
              have t1 : True := trivial
              go_wp2_with (first | (have _t := t1; go_at_call 45; refine (VN1.out _).mono ?_; rintro e w' ⟨rfl, rfl⟩; clear _t t1; have t2 : True := trivial) | (have _t := t2; go_at_call 45; refine (VN2.out _).mono ?_; rintro e w' ⟨rfl, rfl⟩; clear _t t2))
              go_meet
              exact ⟨by rw [R1.out]; rfl, rfl⟩
    case rest =>
      obtain ⟨rfl, rfl⟩ := hcut
      clear VN1 VN2 R1 c1 c2
      cases h1 : rEv1 e with
      | false =>
        have A := Lib.hid (show evOk e = false by rw [ANS.out, h1]; rfl)
        clear h1
        go_wp2
        go_ret
        exact ⟨ret_bool A.out.symm, K1.out.trans KC.out⟩
      | true =>
        have A1 := Lib.hid (show evOk e = (rEv2 e && rEv3 e) by rw [ANS.out, h1, Bool.true_and])
        clear h1 ANS
        have d0 : wc.cell? ⟨w.heap.size, 0, none⟩ = some (.int .i64 e.kind) := (B1.out.keep KC.out (fun e => e)).cell 0
        have d3 : wc.cell? ⟨w.heap.size, 3, none⟩ = some (.slice An nn cn) := (B1.out.keep KC.out (fun e => e)).cell 3
        have d4 : wc.cell? ⟨w.heap.size, 4, none⟩ = some (.int .i64 e.ticks) := (B1.out.keep KC.out (fun e => e)).cell 4
        have d5 : wc.cell? ⟨w.heap.size, 5, none⟩ = some (.slice Ai ni ci) := (B1.out.keep KC.out (fun e => e)).cell 5
        go_upto_region 4 with (fail)
        generalize e.kind = kd at R2 R3 d0
        generalize e.ticks = tk at R2 R3 d4
        go_cut [58] (fun x wx => x = .bool (!rEv2 e) ∧ wc = wx)
        case first =>
          by_cases k7 : kd = 7
          · subst k7
            by_cases g2 : 0 < nn
            · have g2' : (0 : Int) < nn := by omega
              go_wp2
              go_meet
              exact ⟨congrArg Value.bool (by rw [R2.out, Bool.eq_iff_iff]; simp; try omega), rfl⟩
            · have g2' : ¬ (0 : Int) < nn := by omega
              have g2'' : decide (0 < nn) = false := decide_eq_false g2
              go_wp2
              go_meet
              exact ⟨congrArg Value.bool (by rw [R2.out, Bool.eq_iff_iff]; simp; try omega), rfl⟩
          by_cases k1 : kd = 1
          · subst k1
            by_cases g1 : 0 < ni
            · have g1' : (0 : Int) < ni := by omega
              go_wp2
              go_meet
              exact ⟨congrArg Value.bool (by rw [R2.out, Bool.eq_iff_iff]; simp; try omega), rfl⟩
            · have g1' : ¬ (0 : Int) < ni := by omega
              have g1'' : decide (0 < ni) = false := decide_eq_false g1
              go_wp2
              go_meet
              exact ⟨congrArg Value.bool (by rw [R2.out, Bool.eq_iff_iff]; simp; try omega), rfl⟩
          have k7' : (kd == 7) = false := by simpa using k7
          have k7'' : (kd != 7) = true := by simpa using k7
          have k1' : (kd == 1) = false := by simpa using k1
          have k1'' : (kd != 1) = true := by simpa using k1
          by_cases g1 : 0 < ni
          · have g1' : (0 : Int) < ni := by omega
            have g1'' : decide (0 < ni) = true := decide_eq_true g1
            go_wp2
            go_meet
            exact ⟨congrArg Value.bool (by rw [R2.out, Bool.eq_iff_iff]; simp; try omega), rfl⟩
          have g1' : ¬ (0 : Int) < ni := by omega
          have g1'' : decide (0 < ni) = false := decide_eq_false g1
          by_cases g2 : 0 < nn
          · have g2' : (0 : Int) < nn := by omega
            have g2'' : decide (0 < nn) = true := decide_eq_true g2
            go_wp2
            go_meet
            exact ⟨congrArg Value.bool (by rw [R2.out, Bool.eq_iff_iff]; simp; try omega), rfl⟩
          have g2' : ¬ (0 : Int) < nn := by omega
          have g2'' : decide (0 < nn) = false := decide_eq_false g2
          by_cases k9 : kd = 9
          · subst k9
            go_wp2
            go_meet
            exact ⟨congrArg Value.bool (by rw [R2.out, Bool.eq_iff_iff]; simp; try omega), rfl⟩
          · have k9' : (kd == 9) = false := by simpa using k9
            have k9'' : (kd != 9) = true := by simpa using k9
            go_wp2
            go_meet
            exact ⟨congrArg Value.bool (by rw [R2.out, Bool.eq_iff_iff]; simp; try omega), rfl⟩
        case rest =>
          obtain ⟨rfl, rfl⟩ := hcut
          cases h2 : rEv2 e with
          | false =>
            have A := Lib.hid (show evOk e = false by rw [A1.out, h2]; rfl)
            clear h2
            go_wp2
            go_ret
            exact ⟨ret_bool A.out.symm, K1.out.trans KC.out⟩
          | true =>
            have A2 := Lib.hid (show evOk e = rEv3 e by rw [A1.out, h2, Bool.true_and])
            clear h2 A1 R2 d5
            by_cases k1 : kd = 1
            · subst k1
              cases en with
              | true =>
                go_wp2
                go_ret
                exact ⟨ret_bool (by rw [A2.out, R3.out]; rfl), K1.out.trans KC.out⟩
              | false =>
                cases ew with
                | false =>
                  go_wp2
                  go_ret
                  exact ⟨ret_bool (by rw [A2.out, R3.out]; rfl), K1.out.trans KC.out⟩
                | true =>
                  have t1 : True := trivial
                  go_wp2_with (have _t := t1; go_at_call 44; refine (NS.out _ KC.out).mono ?_; rintro e w' ⟨rfl, k'⟩; clear _t t1)
                  go_ret
                  exact ⟨ret_bool (by rw [A2.out, R3.out]; simp), (K1.out.trans KC.out).trans k'⟩
            have k1' : (kd == 1) = false := by simpa using k1
            by_cases k2 : kd = 2
            · subst k2
              cases en with
              | true =>
                cases ew with
                | true =>
                  go_wp2
                  go_ret
                  exact ⟨ret_bool (by rw [A2.out, R3.out]; rfl), K1.out.trans KC.out⟩
                | false =>
                  go_wp2
                  go_ret
                  exact ⟨ret_bool (by rw [A2.out, R3.out]; rfl), K1.out.trans KC.out⟩
              | false =>
                cases ew with
                | true =>
                  go_wp2
                  go_ret
                  exact ⟨ret_bool (by rw [A2.out, R3.out]; rfl), K1.out.trans KC.out⟩
                | false =>
                  go_wp2
                  go_ret
                  exact ⟨ret_bool (by rw [A2.out, R3.out]; rfl), K1.out.trans KC.out⟩
            have k2' : (kd == 2) = false := by simpa using k2
            by_cases k3 : kd = 3
            · subst k3
              cases en with
              | true =>
                cases ew with
                | true =>
                  go_wp2
                  go_ret
                  exact ⟨ret_bool (by rw [A2.out, R3.out]; rfl), K1.out.trans KC.out⟩
                | false =>
                  go_wp2
                  go_ret
                  exact ⟨ret_bool (by rw [A2.out, R3.out]; rfl), K1.out.trans KC.out⟩
              | false =>
                cases ew with
                | true =>
                  go_wp2
                  go_ret
                  exact ⟨ret_bool (by rw [A2.out, R3.out]; rfl), K1.out.trans KC.out⟩
                | false =>
                  go_wp2
                  go_ret
                  exact ⟨ret_bool (by rw [A2.out, R3.out]; rfl), K1.out.trans KC.out⟩
            have k3' : (kd == 3) = false := by simpa using k3
            by_cases k4 : kd = 4
            · subst k4
              cases en with
              | true =>
                cases ew with
                | true =>
                  go_wp2
                  go_ret
                  exact ⟨ret_bool (by rw [A2.out, R3.out]; rfl), K1.out.trans KC.out⟩
                | false =>
                  go_wp2
                  go_ret
                  exact ⟨ret_bool (by rw [A2.out, R3.out]; rfl), K1.out.trans KC.out⟩
              | false =>
                cases ew with
                | true =>
                  go_wp2
                  go_ret
                  exact ⟨ret_bool (by rw [A2.out, R3.out]; rfl), K1.out.trans KC.out⟩
                | false =>
                  go_wp2
                  go_ret
                  exact ⟨ret_bool (by rw [A2.out, R3.out]; rfl), K1.out.trans KC.out⟩
            have k4' : (kd == 4) = false := by simpa using k4
            by_cases k5 : kd = 5
            · subst k5
              cases en with
              | true =>
                cases ew with
                | true =>
                  go_wp2
                  go_ret
                  exact ⟨ret_bool (by rw [A2.out, R3.out]; rfl), K1.out.trans KC.out⟩
                | false =>
                  go_wp2
                  go_ret
                  exact ⟨ret_bool (by rw [A2.out, R3.out]; rfl), K1.out.trans KC.out⟩
              | false =>
                cases ew with
                | true =>
                  go_wp2
                  go_ret
                  exact ⟨ret_bool (by rw [A2.out, R3.out]; rfl), K1.out.trans KC.out⟩
                | false =>
                  go_wp2
                  go_ret
                  exact ⟨ret_bool (by rw [A2.out, R3.out]; rfl), K1.out.trans KC.out⟩
            have k5' : (kd == 5) = false := by simpa using k5
            by_cases k6 : kd = 6
            · subst k6
              cases en with
              | true =>
                cases ew with
                | true =>
                  go_wp2
                  go_ret
                  exact ⟨ret_bool (by rw [A2.out, R3.out]; rfl), K1.out.trans KC.out⟩
                | false =>
                  go_wp2
                  go_ret
                  exact ⟨ret_bool (by rw [A2.out, R3.out]; rfl), K1.out.trans KC.out⟩
              | false =>
                cases ew with
                | true =>
                  go_wp2
                  go_ret
                  exact ⟨ret_bool (by rw [A2.out, R3.out]; rfl), K1.out.trans KC.out⟩
                | false =>
                  go_wp2
                  go_ret
                  exact ⟨ret_bool (by rw [A2.out, R3.out]; rfl), K1.out.trans KC.out⟩
            have k6' : (kd == 6) = false := by simpa using k6
            by_cases k7 : kd = 7
            · subst k7
              cases en with
              | true =>
                cases ew with
                | true =>
                  go_wp2
                  go_ret
                  exact ⟨ret_bool (by rw [A2.out, R3.out]; rfl), K1.out.trans KC.out⟩
                | false =>
                  go_wp2
                  go_ret
                  exact ⟨ret_bool (by rw [A2.out, R3.out]; rfl), K1.out.trans KC.out⟩
              | false =>
                cases ew with
                | true =>
                  go_wp2
                  go_ret
                  exact ⟨ret_bool (by rw [A2.out, R3.out]; rfl), K1.out.trans KC.out⟩
                | false =>
                  go_wp2
                  go_ret
                  exact ⟨ret_bool (by rw [A2.out, R3.out]; rfl), K1.out.trans KC.out⟩
            have k7' : (kd == 7) = false := by simpa using k7
            by_cases k8 : kd = 8
            · subst k8
              cases en with
              | true =>
                cases ew with
                | true =>
                  go_wp2
                  go_ret
                  exact ⟨ret_bool (by rw [A2.out, R3.out]; rfl), K1.out.trans KC.out⟩
                | false =>
                  go_wp2
                  go_ret
                  exact ⟨ret_bool (by rw [A2.out, R3.out]; rfl), K1.out.trans KC.out⟩
              | false =>
                cases ew with
                | true =>
                  go_wp2
                  go_ret
                  exact ⟨ret_bool (by rw [A2.out, R3.out]; rfl), K1.out.trans KC.out⟩
                | false =>
                  go_wp2
                  go_ret
                  exact ⟨ret_bool (by rw [A2.out, R3.out]; rfl), K1.out.trans KC.out⟩
            have k8' : (kd == 8) = false := by simpa using k8
            by_cases k9 : kd = 9
            · subst k9
              cases en with
              | false =>
                go_wp2
                go_ret
                exact ⟨ret_bool (by rw [A2.out, R3.out]; rfl), K1.out.trans KC.out⟩
              | true =>
                cases ew with
                | false =>
                  go_wp2
                  go_ret
                  exact ⟨ret_bool (by rw [A2.out, R3.out]; rfl), K1.out.trans KC.out⟩
                | true =>
                  by_cases g : 1 ≤ tk
                  · go_wp2
                    go_ret
                    exact ⟨ret_bool (by rw [A2.out, R3.out]; simp [g]), K1.out.trans KC.out⟩
                  · have g' : decide (1 ≤ tk) = false := decide_eq_false g
                    go_wp2
                    go_ret
                    exact ⟨ret_bool (by rw [A2.out, R3.out]; simp; omega), K1.out.trans KC.out⟩
            have k9' : (kd == 9) = false := by simpa using k9
            go_wp2
            go_ret
            exact ⟨ret_bool (by rw [A2.out, R3.out]; simp [k1, k2, k3, k4, k5, k6, k7, k8, k9]), K1.out.trans KC.out⟩
end Go.Proofs.YtnefbeplgfdkkaaGreatDoor
