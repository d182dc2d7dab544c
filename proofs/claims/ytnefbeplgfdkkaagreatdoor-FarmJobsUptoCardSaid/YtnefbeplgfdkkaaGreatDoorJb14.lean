/-
  (*State).die.
-/
import Derived.Test.YtnefbeplgfdkkaaGreatDoorJb09
namespace Go.Proofs.YtnefbeplgfdkkaaGreatDoor
open Go.RowKit

/-- The facts of a region with one call that answers v. -/
def callCalm (wr : World) (k : Nat) (u : Value) : Calm where
  R := fun _ => Keep none_
  G := fun _ => Keep none_ wr
  eff := [k]
  T := fun _ _ v _ => v = u
  anc := fun _ => []
  own := fun _ _ _ => False
theorem callCalm_good (wr : World) (k : Nat) (u : Value) : (callCalm wr k u).Good := ⟨fun _ _ h => h, fun _ _ _ h => h.size, fun _ _ _ _ _ _ _ _ h _ => h⟩
theorem callCalm_at {wr : World} {k : Nat} {u : Value} (x : (callCalm wr k u).Sub) : Keep none_ wr ((callCalm wr k u).at_ x) := by
  obtain ⟨x, n, _, h⟩ := x
  exact h
theorem callCalm_some (wr : World) (k : Nat) (u : Value) : Nonempty (callCalm wr k u).Sub := ⟨⟨wr, 0, Nat.zero_le _, Keep.refl _ _⟩⟩

/-- 37.3: die. -/
def dieS (s : St) (x : ByteArray) : St := if aliveE s.workers x = 0 then match s.workers[(wkIdx s.workers x).toNat]? with
  | some y => { s with workers := s.workers.set (wkIdx s.workers x).toNat ⟨y.name, true⟩ }
  | none => s
  else s

set_option maxRecDepth 100000 in
set_option maxHeartbeats 400000 in
theorem die_any (s : St) (vp vj vw : Value) (base : Bs) (g : Nat) (x : ByteArray) (w : World) (h : Aft w base g vp vj vw s) :
    Calls Tryz.prog 78 #[.pointer (some ⟨g, 0, none⟩), .string x] w (MethPost base g (aliveE s.workers x) (dieS s x) w) := by
  obtain ⟨A, c, rfl, hw⟩ := ElemsOf_wks (S := none_) h.wks (fun _ _ e => e)
  have c3 := h.blk.cell 3
  simp only [List.getElem?_toArray, List.getElem?_cons_zero, List.getElem?_cons_succ] at c3
  obtain ⟨-, h1, h2⟩ := hw.facts
  unfold maxLen at h2
  have AL := Lib.hid (alive_any s.workers A s.workers.length c g none_ x w c3 hw)
  have HA := Lib.hid h
  have HW := Lib.hid hw
  have ansS : dieS s x = if aliveE s.workers x = 0 then match s.workers[(wkIdx s.workers x).toNat]? with
    | some y => { s with workers := s.workers.set (wkIdx s.workers x).toNat ⟨y.name, true⟩ }
    | none => s
    else s := rfl
  by_cases h0 : aliveE s.workers x = 0
  · rcases idx_cases (fun y : Wk => strEq y.name x) s.workers with hi | ⟨k, hk, hi, -⟩
    · have : aliveE s.workers x = 7 := by unfold aliveE; rw [wkIdx, hi]; rfl
      omega
    · have e2 : dieS s x = { s with workers := s.workers.set k ⟨s.workers[k].name, true⟩ } := by
        rw [ansS, if_pos h0, wkIdx, hi, Int.toNat_natCast, List.getElem?_eq_getElem hk]
      rw [h0] at AL
      have E0 := Lib.hid h0
      obtain ⟨b, cap, cur, eV, hb1, hb2, hb3⟩ := own_cases h.wks (by omega)
      simp only [Value.slice.injEq, true_and] at eV
      obtain ⟨rfl, rfl⟩ := eV
      obtain ⟨b', o', eA, -, hkl, cs, -, hrg, hcs⟩ := hw.elem k hk
      simp only [Option.some.injEq, Addr.mk.injEq, and_true] at eA
      obtain ⟨rfl, rfl⟩ := eA
      have setE := wkCells_set s.workers k hk true
      generalize s.workers[k] = y at hcs e2 setE
      subst hcs
      have c1 : w.cell? ⟨b, 0 + k * 2 + 1, none⟩ = some (.bool y.dead) := hrg 1 _ rfl
      rw [Nat.zero_add] at c1
      have E2 := Lib.hid e2
      have SE := Lib.hid setE
      have HI := Lib.hid hi
      have hkn' : (k : Int) < s.workers.length := by omega
      clear ansS e2 hi hrg setE hb3 hw h h0
      go_enter Tryz.func78, Tryz.ntmps78
      go_upto_region 4 with (go_at_call 101; refine AL.out.mono ?_; rintro e w5 ⟨rfl, k5⟩)
      have d1 := k5.cell c1 (fun e => e)
      have d2 := k5.cell c3 (fun e => e)
      have hb5 := hb2.keep k5 (fun e => e)
      have H5 := Lib.hid (HA.out.keep k5)
      have W5 := Lib.hid (HW.out.keep k5)
      have K5 := Lib.hid k5
      clear k5 c1 c3 hb2
      have gd := callCalm_good w5 6 (.int .i64 k)
      have ne := callCalm_some w5 6 (.int .i64 k)
      have x1 := fun x => (callCalm_at (wr := w5) (k := 6) (u := .int .i64 k) x).cell d2 (fun e => e)
      refine wp_region_calm (callCalm w5 6 (.int .i64 k)) [0, 1, 2, 3, 4, 5, 6, 7, 8] [9] 21 (by kernel_rfl) (by kernel_rfl) rfl gd (Keep.refl _ _).drew ?_
      simp only [pairs, List.filterMap_cons, List.filterMap_nil, List.getElem?_toArray, List.getElem?_cons_succ, List.getElem?_cons_zero, Option.map_some]
      repeat (refine Calm.walk_quiet ne rfl rfl rfl (fun K hK => ?_); go_big_quiet_op; refine hK _ ?_; clear hK K)
      refine Calm.walk_eff rfl rfl (fun n w6 hn hG _ => ?_) ?_
      · have hG' : Keep none_ w5 w6 := hG
        unfold gives
        go_simp
        refine (worker_any s.workers (some ⟨b, 0, none⟩) s.workers.length c g none_ x w6 (hG'.cell d2 (fun e => e)) (W5.out.keep hG')).mono ?_
        rintro e w7 ⟨rfl, hk7⟩
        exact ⟨_, rfl, by rw [HI.out]; rfl, hk7, hG'.trans hk7, fun _ h => h.elim⟩
      rintro v w6 rfl
      clear w6
      go_frame
      repeat (refine Calm.walk_quiet ne rfl rfl rfl (fun K hK => ?_); go_big_quiet_op; refine hK _ ?_; clear hK K)
      intro w6 hG _
      have k56 : Keep none_ w5 w6 := hG
      clear hG ne gd x1
      replace d1 := k56.cell d1 (fun e => e)
      have d3 := (hb5.keep k56 (fun e => e)).frozen (k * 2 + 1)
      have H6 := Lib.hid (H5.out.keep k56)
      have K6 := Lib.hid (K5.out.trans k56)
      clear hb5 k56 d2
      simp only [pickOps, List.filterMap_cons, List.filterMap_nil, List.getElem?_toArray, List.getElem?_cons_succ, List.getElem?_cons_zero]
      go_wp2
      go_ret
      obtain ⟨q1, q2⟩ := H6.out.setWk (by omega) (k * 2 + 1) (.bool true) (by simp) SE.out
      exact ⟨_, _, _, ret_int (by rw [E0.out]), by rw [E2.out]; exact q1, K6.out.weak.trans q2⟩
  · have e2 : dieS s x = s := by rw [ansS, if_neg h0]
    have E2 := Lib.hid e2
    have h0' : (aliveE s.workers x != 0) = true := by simpa using h0
    clear ansS e2 hw h
    go_enter Tryz.func78, Tryz.ntmps78
    go_wp2_with (go_at_call 101; refine AL.out.mono ?_; rintro e w5 ⟨rfl, k5⟩)
    go_ret
    exact ⟨_, _, _, rfl, by rw [E2.out]; exact HA.out.keep k5, k5.weak⟩
end Go.Proofs.YtnefbeplgfdkkaaGreatDoor
/-
  The reference's names: cutroomref23.ValidName, cutroomref37.names, cutroomref23.Strings.
-/
namespace Go.Proofs.YtnefbeplgfdkkaaGreatDoor
open Go.RowKit

/-- A string that a machine can hold. -/
def Szd (x : ByteArray) : Prop := x.size ≤ maxLen

set_option maxHeartbeats 1000000 in
theorem vname_any (s : ByteArray) (hs : Szd s) (w : World) : Calls Tryz.prog 45 #[.string s] w fun e w' => e = .returned (.bool (nameOk s)) ∧ w = w' := by
  unfold Szd maxLen at hs
  go_enter Tryz.func45, Tryz.ntmps45
  go_wp2
  go_loop [3] (fun i => ∃ k : Nat, k ≤ s.size ∧ i = .int .i64 k ∧ (s.data.toList.take k).all okByte = true) (fun i => s.size - (intOf i).toNat)
  case atStart => exact ⟨0, Nat.zero_le _, rfl, rfl⟩
  case round =>
    obtain ⟨k, hk, rfl, hall⟩ := hrel
    by_cases hlt : k < s.size
    · have hsn : (s.data.toList.take (k + 1)).all okByte = okByte s[k] := by rw [take_snoc s k hlt, List.all_append, hall]; simp
      have HS := Lib.hid hsn
      have HA := Lib.hid hall
      clear hsn hall
      generalize hc : s[k] = c at HS
      go_wp2
      all_goals first
        | (go_round
           case rel => exact ⟨k + 1, by omega, by go_num, by rw [HS.out]; unfold okByte; simp at *; omega⟩
           case measure => simp [intOf]; omega)
        | (go_ret
           exact ⟨ret_bool (by unfold nameOk; rw [all_part okByte _ (k + 1) (by rw [HS.out]; unfold okByte; simp at *; omega)]; simp), rfl⟩)
    · obtain rfl : k = s.size := by omega
      have HA := Lib.hid (show s.data.toList.all okByte = true by rw [List.take_of_length_le (by simp)] at hall; exact hall)
      clear hall
      by_cases h1 : 1 ≤ s.size
      · by_cases h2 : s.size ≤ 32
        · have h1' : decide ((1 : Int) ≤ s.size) = true := decide_eq_true (by omega)
          have h2' : decide ((s.size : Int) ≤ 32) = true := decide_eq_true (by omega)
          go_wp2
          go_ret
          exact ⟨ret_bool (by unfold nameOk; rw [HA.out]; simp; omega), rfl⟩
        · have h1' : decide ((1 : Int) ≤ s.size) = true := decide_eq_true (by omega)
          have h2' : decide ((s.size : Int) ≤ 32) = false := decide_eq_false (by omega)
          go_wp2
          go_ret
          exact ⟨ret_bool (by unfold nameOk; rw [HA.out]; simp; omega), rfl⟩
      · have h1' : decide ((1 : Int) ≤ s.size) = false := decide_eq_false (by omega)
        go_wp2
        go_ret
        exact ⟨ret_bool (by unfold nameOk; rw [HA.out]; simp; omega), rfl⟩

set_option maxRecDepth 100000 in
set_option maxHeartbeats 1000000 in
theorem names_any (l : List ByteArray) (hsz : ∀ x ∈ l, Szd x) (v : Value) (S : Nat → Prop) (w : World) (h : StrsOf w S v l) : Calls Tryz.prog 44 #[v, .int .i64 16] w fun e w' => e = .returned (.bool (namesOk l)) ∧ Keep none_ w w' := by
  obtain ⟨A, n, c, rfl, hr⟩ := h
  have hl : l.length = n := by have := hr.len; simp at this; omega
  have hcap := hr.cap
  have hle := hr.le
  unfold maxLen at hcap
  have HL := Lib.hid hl
  have HR := Lib.hid hr.free
  have HZ := Lib.hid (fun (k : Nat) (hk : k < n) => hsz (l.getD k .empty) (by rw [List.getD_eq_getElem?_getD, List.getElem?_eq_getElem (by omega)]; exact List.getElem_mem _))
  clear hl hr hsz
  go_enter Tryz.func44, Tryz.ntmps44
  go_wp2
  go_loopw [5] (fun i wr => ∃ k : Nat, k ≤ n ∧ i = .int .i64 k ∧ (List.range k).all (goodAt l) = true ∧ Keep none_ w wr) (fun i _ => n - (intOf i).toNat)
  case atStart => exact ⟨0, Nat.zero_le _, rfl, rfl, Keep.refl _ _⟩
  case round =>
    obtain ⟨k, hk, rfl, hall, hkr⟩ := hrel
    have HA := Lib.hid hall
    have HK := Lib.hid hkr
    clear hall
    by_cases hlt : k < n
    · obtain ⟨b, o, rfl, -, hc⟩ := (HR.out.keep hkr).strs (by omega)
      have c0 := hc k hlt
      have hlt' : (k : Int) < n := by omega
      have VN := Lib.hid (fun wx => vname_any (l.getD k .empty) (HZ.out k hlt) wx)
      clear hkr
      go_upto_region 4 with (fail)
      cases hn : nameOk (l.getD k .empty) with
      | false =>
        have BAD := Lib.hid (show goodAt l k = false by unfold goodAt; rw [hn]; rfl)
        rw [hn] at VN
        generalize l.getD k .empty = x at c0 VN
        clear hn hc
        have gd := callCalm_good wr 4 (.bool false)
        have ne := callCalm_some wr 4 (.bool false)
        have x1 := fun y => (callCalm_at (wr := wr) (k := 4) (u := .bool false) y).cell c0 (fun e => e)
        refine wp_region_calm (callCalm wr 4 (.bool false)) [0, 1, 2, 3, 4, 5, 6, 7, 8, 9, 10, 11, 12, 13, 14, 15, 16, 17, 18, 19, 20, 21] [] 38 (by kernel_rfl) (by kernel_rfl) rfl gd (Keep.refl _ _).drew ?_
        simp only [pairs, List.filterMap_cons, List.filterMap_nil, List.getElem?_toArray, List.getElem?_cons_succ, List.getElem?_cons_zero, Option.map_some]
        repeat (refine Calm.walk_quiet ne rfl rfl rfl (fun K hK => ?_); go_big_quiet_op; refine hK _ ?_; clear hK K)
        refine Calm.walk_eff rfl rfl (fun n wy hn hG _ => ?_) ?_
        · have hG' : Keep none_ wr wy := hG
          unfold gives
          go_simp
          refine (VN.out wy).mono ?_
          rintro e wz ⟨rfl, rfl⟩
          exact ⟨_, rfl, rfl, Keep.refl _ _, hG', fun _ h => h.elim⟩
        intro vq wy hT
        obtain rfl : vq = .bool false := hT
        clear wy
        go_frame
        repeat (first | (refine Calm.walk_skip rfl ?_; go_frame) | (refine Calm.walk_quiet ne rfl rfl rfl (fun K hK => ?_); go_big_quiet_op; refine hK _ ?_; clear hK K))
        intro w9 hG hD
        have k9 : Keep none_ wr w9 := hG
        have K9 := Lib.hid (HK.out.trans k9)
        clear hG hD gd ne x1 k9 c0
        simp only [pickOps, List.filterMap_nil]
        go_wp2
        go_ret
        exact ⟨ret_bool (by unfold namesOk; rw [HL.out, range_all_part _ k n hlt BAD.out]; rfl), K9.out⟩
      | true =>
        rw [hn] at VN
        by_cases hk0 : k = 0
        · subst hk0
          rw [Nat.add_zero] at c0
          have GOOD := Lib.hid (show goodAt l 0 = true by unfold goodAt; rw [hn]; rfl)
          generalize l.getD 0 .empty = x at c0 VN
          clear hn hc
          have gd := callCalm_good wr 4 (.bool true)
          have ne := callCalm_some wr 4 (.bool true)
          have x1 := fun y => (callCalm_at (wr := wr) (k := 4) (u := .bool true) y).cell c0 (fun e => e)
          refine wp_region_calm (callCalm wr 4 (.bool true)) [0, 1, 2, 3, 4, 5, 6, 7, 8, 9, 10, 11, 12, 13, 14, 15, 16, 17, 18, 19, 20, 21] [] 38 (by kernel_rfl) (by kernel_rfl) rfl gd (Keep.refl _ _).drew ?_
          simp only [pairs, List.filterMap_cons, List.filterMap_nil, List.getElem?_toArray, List.getElem?_cons_succ, List.getElem?_cons_zero, Option.map_some]
          repeat (refine Calm.walk_quiet ne rfl rfl rfl (fun K hK => ?_); go_big_quiet_op; refine hK _ ?_; clear hK K)
          refine Calm.walk_eff rfl rfl (fun n wy hn hG _ => ?_) ?_
          · have hG' : Keep none_ wr wy := hG
            unfold gives
            go_simp
            refine (VN.out wy).mono ?_
            rintro e wz ⟨rfl, rfl⟩
            exact ⟨_, rfl, rfl, Keep.refl _ _, hG', fun _ h => h.elim⟩
          intro vq wy hT
          obtain rfl : vq = .bool true := hT
          clear wy
          go_frame
          repeat (first | (refine Calm.walk_skip rfl ?_; go_frame) | (refine Calm.walk_quiet ne rfl rfl rfl (fun K hK => ?_); go_big_quiet_op; refine hK _ ?_; clear hK K))
          intro w9 hG hD
          have k9 : Keep none_ wr w9 := hG
          have K9 := Lib.hid (HK.out.trans k9)
          clear hG hD gd ne x1 k9 c0
          simp only [pickOps, List.filterMap_nil]
          go_wp2
          go_roundw
          case rel => exact ⟨1, by omega, by go_num, by rw [range_all_succ, GOOD.out, HA.out]; rfl, K9.out⟩
          case measure => simp [intOf]; omega
        · have c1 := hc (k - 1) (by omega)
          have hk1 : (0 : Int) < k := by omega
          have hk2 : decide (0 < k) = true := decide_eq_true (by omega)
          have e1 : (k : Int) - 1 = ((k - 1 : Nat) : Int) := by omega
          have gd0 : goodAt l k = !strLe (l.getD k .empty) (l.getD (k - 1) .empty) := by unfold goodAt; rw [hn]; simp [hk0]
          have GD := Lib.hid gd0
          generalize l.getD k .empty = x at c0 VN GD
          generalize l.getD (k - 1) .empty = y at c1 GD
          obtain ⟨j, hj⟩ : ∃ j, j = k - 1 := ⟨_, rfl⟩
          rw [← hj] at c1 e1
          have hj' : j < n := by omega
          clear hn gd0 hc hj
          obtain ⟨bb, hbb⟩ : ∃ bb, strLe x y = bb := ⟨_, rfl⟩
          have hs' : (Op.bytesLess x.toList y.toList || x.toList == y.toList) = bb := hbb
          have GD2 := Lib.hid (show goodAt l k = !bb by rw [GD.out, hbb])
          clear GD hbb
          have gd := callCalm_good wr 4 (.bool true)
          have ne := callCalm_some wr 4 (.bool true)
          have x1 := fun y => (callCalm_at (wr := wr) (k := 4) (u := .bool true) y).cell c0 (fun e => e)
          have x2 := fun y => (callCalm_at (wr := wr) (k := 4) (u := .bool true) y).cell c1 (fun e => e)
          cases bb with
          | false =>
            refine wp_region_calm (callCalm wr 4 (.bool true)) [0, 1, 2, 3, 4, 5, 6, 7, 8, 9, 10, 11, 12, 13, 14, 15, 16, 17, 18, 19, 20, 21] [] 38 (by kernel_rfl) (by kernel_rfl) rfl gd (Keep.refl _ _).drew ?_
            simp only [pairs, List.filterMap_cons, List.filterMap_nil, List.getElem?_toArray, List.getElem?_cons_succ, List.getElem?_cons_zero, Option.map_some]
            repeat (refine Calm.walk_quiet ne rfl rfl rfl (fun K hK => ?_); go_big_quiet_op; refine hK _ ?_; clear hK K)
            refine Calm.walk_eff rfl rfl (fun n wy hn hG _ => ?_) ?_
            · have hG' : Keep none_ wr wy := hG
              unfold gives
              go_simp
              refine (VN.out wy).mono ?_
              rintro e wz ⟨rfl, rfl⟩
              exact ⟨_, rfl, rfl, Keep.refl _ _, hG', fun _ h => h.elim⟩
            intro vq wy hT
            obtain rfl : vq = .bool true := hT
            clear wy
            go_frame
            repeat (first | (refine Calm.walk_skip rfl ?_; go_frame) | (refine Calm.walk_quiet ne rfl rfl rfl (fun K hK => ?_); go_big_quiet_op; refine hK _ ?_; clear hK K))
            intro w9 hG hD
            have k9 : Keep none_ wr w9 := hG
            have K9 := Lib.hid (HK.out.trans k9)
            clear hG hD gd ne x1 x2 k9 c0 c1
            simp only [pickOps, List.filterMap_nil]
            go_wp2
            go_roundw
            case rel => exact ⟨k + 1, by omega, by go_num, by rw [range_all_succ, GD2.out, HA.out]; rfl, K9.out⟩
            case measure => simp [intOf]; omega
          | true =>
            refine wp_region_calm (callCalm wr 4 (.bool true)) [0, 1, 2, 3, 4, 5, 6, 7, 8, 9, 10, 11, 12, 13, 14, 15, 16, 17, 18, 19, 20, 21] [] 38 (by kernel_rfl) (by kernel_rfl) rfl gd (Keep.refl _ _).drew ?_
            simp only [pairs, List.filterMap_cons, List.filterMap_nil, List.getElem?_toArray, List.getElem?_cons_succ, List.getElem?_cons_zero, Option.map_some]
            repeat (refine Calm.walk_quiet ne rfl rfl rfl (fun K hK => ?_); go_big_quiet_op; refine hK _ ?_; clear hK K)
            refine Calm.walk_eff rfl rfl (fun n wy hn hG _ => ?_) ?_
            · have hG' : Keep none_ wr wy := hG
              unfold gives
              go_simp
              refine (VN.out wy).mono ?_
              rintro e wz ⟨rfl, rfl⟩
              exact ⟨_, rfl, rfl, Keep.refl _ _, hG', fun _ h => h.elim⟩
            intro vq wy hT
            obtain rfl : vq = .bool true := hT
            clear wy
            go_frame
            repeat (first | (refine Calm.walk_skip rfl ?_; go_frame) | (refine Calm.walk_quiet ne rfl rfl rfl (fun K hK => ?_); go_big_quiet_op; refine hK _ ?_; clear hK K))
            intro w9 hG hD
            have k9 : Keep none_ wr w9 := hG
            have K9 := Lib.hid (HK.out.trans k9)
            clear hG hD gd ne x1 x2 k9 c0 c1
            simp only [pickOps, List.filterMap_nil]
            go_wp2
            go_ret
            exact ⟨ret_bool (by unfold namesOk; rw [HL.out, range_all_part _ k n hlt GD2.out]; rfl), K9.out⟩
    · obtain rfl : k = n := by omega
      go_wp2
      go_ret
      exact ⟨ret_bool (by unfold namesOk; rw [HL.out, HA.out, Bool.true_and]; rw [Bool.eq_iff_iff]; simp; omega), HK.out⟩

set_option maxRecDepth 100000 in
set_option maxHeartbeats 1000000 in
theorem strings_any (l : List ByteArray) (v v' : Value) (S S' : Nat → Prop) (w : World) (h : StrsOf w S v l) (h' : StrsOf w S' v' l) : Calls Tryz.prog 19 #[v, v'] w fun e w' => e = .returned (.bool true) ∧ Keep none_ w w' := by
  obtain ⟨A, n, c, rfl, hr⟩ := h
  obtain ⟨A', n', c', rfl, hr'⟩ := h'
  have hl : l.length = n := by have := hr.len; simp at this; omega
  have hl' : l.length = n' := by have := hr'.len; simp at this; omega
  obtain rfl : n = n' := by omega
  have hcap := hr.cap
  have hle := hr.le
  have hcap' := hr'.cap
  have hle' := hr'.le
  unfold maxLen at hcap hcap'
  have HR := Lib.hid hr.free
  have HR' := Lib.hid hr'.free
  clear hl hl' hr hr'
  go_enter Tryz.func19, Tryz.ntmps19
  go_wp2
  go_loopw [5] (fun i wr => ∃ k : Nat, k ≤ n ∧ i = .int .i64 k ∧ Keep none_ w wr) (fun i _ => n - (intOf i).toNat)
  case atStart => exact ⟨0, Nat.zero_le _, rfl, Keep.refl _ _⟩
  case round =>
    obtain ⟨k, hk, rfl, hkr⟩ := hrel
    have HK := Lib.hid hkr
    by_cases hlt : k < n
    · obtain ⟨b, o, rfl, -, hc⟩ := (HR.out.keep hkr).strs (by omega)
      obtain ⟨b', o', rfl, -, hc'⟩ := (HR'.out.keep hkr).strs (by omega)
      have c0 := hc k hlt
      have c0' := hc' k hlt
      have hlt' : (k : Int) < n := by omega
      clear hkr hc hc'
      generalize l.getD k .empty = x at c0 c0'
      have hx : (x.toList == x.toList) = true := by simp
      go_upto_region 6 with (fail)
      have gd := still_good (wr).drew
      have ne := still_some (wr).drew
      have hx := still_at (wr).drew
      refine wp_region_calm (stillCalm (wr).drew) [0, 1, 2, 3, 4, 5, 6, 7, 8] [] 26 (by kernel_rfl) (by kernel_rfl) rfl gd rfl ?_
      simp only [pairs, List.filterMap_cons, List.filterMap_nil, List.getElem?_toArray, List.getElem?_cons_succ, List.getElem?_cons_zero, Option.map_some]
      repeat (refine Calm.walk_quiet ne rfl rfl rfl (fun K hK => ?_); go_big_quiet_op; refine hK _ ?_; clear hK K)
      intro w' hR _
      obtain rfl : w' = (wr).drew := hR.symm
      simp only [pickOps, List.filterMap_nil]
      clear gd ne hx hR
      go_wp2
      go_roundw
      case rel => exact ⟨k + 1, hlt, by go_num, HK.out.drew⟩
      case measure => simp [intOf]; omega
    · obtain rfl : k = n := by omega
      go_wp2
      go_ret
      exact ⟨rfl, HK.out⟩
end Go.Proofs.YtnefbeplgfdkkaaGreatDoor
