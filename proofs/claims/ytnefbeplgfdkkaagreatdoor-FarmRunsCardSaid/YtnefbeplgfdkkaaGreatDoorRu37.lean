/-
  cutroomref37.work: join and die.
-/
import Derived.Test.YtnefbeplgfdkkaaGreatDoorRu36
namespace Go.Proofs.YtnefbeplgfdkkaaGreatDoor
open Go.RowKit

set_option maxRecDepth 100000 in
set_option maxHeartbeats 2000000 in
theorem rwork_join (X : XP) (s : St) (vp vj vw v : Value) (base g : Nat) (S S' : Nat → Prop) (e : Ev) (w : World) (hk : e.kind = 4) (h : RAft X w base (orr S base) g vp vj vw s) (he : EvOf w S' v e) (hwl : s.workers.length ≤ 32) :
    Calls Tryz.prog 85 #[.pointer (some ⟨g, 0, none⟩), v] w (RMeth2 X base (orr S base) g (perE s e) (perO s e) (perS s e) w) := by
  obtain ⟨vn, vi, rfl, hns, his⟩ := he
  obtain ⟨An, nn, cn, rfl, -⟩ := hns
  obtain ⟨Ai, ni, ci, rfl, -⟩ := his
  obtain ⟨W0, hW0⟩ : ∃ W0, W0 = w.alloc (.cells #[.int .i64 e.kind, .string e.name, .string e.worker, .slice An nn cn, .int .i64 e.ticks, .slice Ai ni ci] 78) := ⟨_, rfl⟩
  have k0 : Keep none_ w W0 := hW0 ▸ (Keep.refl none_ w).alloc _
  have b0 : Blk W0 w.heap.size 78 #[.int .i64 e.kind, .string e.name, .string e.worker, .slice An nn cn, .int .i64 e.ticks, .slice Ai ni ci] := hW0 ▸ Blk.new _ _ _
  have a0 := h.keep k0
  obtain ⟨Ap, cp, rfl, -⟩ := own_row (S := none_) a0.strs (fun _ _ e => e)
  obtain ⟨Aj, cj, rfl, hj⟩ := a0.jobs.list
  obtain ⟨Aw, cw, rfl, hw⟩ := ElemsOf_wks (S := none_) a0.wks (fun _ _ e => e)
  obtain ⟨-, q1, q2⟩ := hw.facts
  unfold maxLen at q2
  have ST := Lib.hid a0.state
  have WK := Lib.hid (fun wx (kx : Keep none_ W0 wx) => rworker_any s _ none_ e.worker wx (ST.out.keep kx))
  have d0 : W0.cell? ⟨w.heap.size, 0, none⟩ = some (.int .i64 e.kind) := b0.cell 0
  have d1 : W0.cell? ⟨w.heap.size, 1, none⟩ = some (.string e.name) := b0.cell 1
  have d2 : W0.cell? ⟨w.heap.size, 2, none⟩ = some (.string e.worker) := b0.cell 2
  have g2 : W0.cell? ⟨g, 2, none⟩ = some (.slice Aj s.jobs.length cj) := a0.blk.cell 2
  have g3 : W0.cell? ⟨g, 3, none⟩ = some (.slice Aw s.workers.length cw) := a0.blk.cell 3
  have HA := Lib.hid a0
  have HB := Lib.hid b0
  have K0 := Lib.hid k0
  have HW := Lib.hid hw
  have HJ := Lib.hid hj
  clear h a0 b0 k0 hj
  have PE : perE s e = joinE s e.worker := by unfold perE; simp [hk]
  have PS : perS s e = joinS s e.worker := by unfold perS; simp [hk]
  have E3 := Lib.hid (show perO s e = [] by unfold perO; simp [hk])
  rw [hk] at d0
  clear hk
  have ansE : joinE s e.worker = if wkIdx s.workers e.worker < 0 then (if 32 ≤ s.workers.length then 18 else 0) else match s.workers[(wkIdx s.workers e.worker).toNat]? with
    | some y => if y.dead then 0 else 8
    | none => 0 := rfl
  have ansS : joinS s e.worker = if wkIdx s.workers e.worker < 0 then (if 32 ≤ s.workers.length then s else { s with workers := s.workers ++ [⟨e.worker, false⟩] }) else match s.workers[(wkIdx s.workers e.worker).toNat]? with
    | some y => if y.dead then { s with workers := s.workers.set (wkIdx s.workers e.worker).toNat ⟨y.name, false⟩ } else s
    | none => s := rfl
  rcases idx_cases (fun y : Wk => strEq y.name e.worker) s.workers with hi | ⟨k, hkk, hi, -⟩
  · have hi' : wkIdx s.workers e.worker = -1 := hi
    rw [hi'] at WK
    by_cases h32 : s.workers.length = 32
    · have E1 := Lib.hid (show perE s e = 18 by rw [PE, ansE, hi', if_pos (by decide), if_pos (by omega)])
      have E2 := Lib.hid (show perS s e = s by rw [PS, ansS, hi', if_pos (by decide), if_pos (by omega)])
      clear ansE ansS hi hi' hw PE PS
      have H32 := Lib.hid h32
      clear h32
      go_enter Tryz.func85, Tryz.ntmps85
      go_upto_region 1 with (fail)
      rw [← hW0]
      clear hW0
      have gd := callCalm_good W0 5 (.int .i64 (-1))
      have ne := callCalm_some W0 5 (.int .i64 (-1))
      have x1 := fun y => (callCalm_at (wr := W0) (k := 5) (u := .int .i64 (-1)) y).cell d2 (fun e => e)
      have x3 := Lib.hid (fun y => rangeAt_keep HA.out.blk.rangeAt (callCalm_at (wr := W0) (k := 5) (u := .int .i64 (-1)) y) (fun e => e))
      refine wp_region_calm (callCalm W0 5 (.int .i64 (-1))) [0, 1, 2, 3, 4, 5] [6] 205 (by kernel_rfl) (by kernel_rfl) rfl gd (Keep.refl _ _).drew ?_
      simp only [pairs, List.filterMap_cons, List.filterMap_nil, List.getElem?_toArray, List.getElem?_cons_succ, List.getElem?_cons_zero, Option.map_some]
      repeat (refine Calm.walk_quiet ne rfl rfl rfl (fun K hK => ?_); go_big_quiet_op; refine hK _ ?_; clear hK K)
      refine Calm.walk_load 48 (.tmp 11) rfl ne rfl rfl g 0 rfl #[.int .i64 s.now, .slice Ap s.present.length cp, .slice Aj s.jobs.length cj, .slice Aw s.workers.length cw] _ x3.out Tryz.underlying48 rfl (by kernel_rfl) ?_
      go_frame
      repeat (refine Calm.walk_quiet ne rfl rfl rfl (fun K hK => ?_); go_big_quiet_op; refine hK _ ?_; clear hK K)
      refine Calm.walk_eff rfl rfl (fun n wy hn hG _ => ?_) ?_
      · have hG' : Keep none_ W0 wy := hG
        unfold gives
        go_simp
        refine (WK.out wy hG').mono ?_
        rintro e w' ⟨rfl, k'⟩
        exact ⟨_, rfl, rfl, k', hG'.trans k', fun _ h => h.elim⟩
      intro vq wy hT
      obtain rfl : vq = .int .i64 (-1) := hT
      clear wy
      go_frame
      intro w1 hG hD
      have k1 : Keep none_ W0 w1 := hG
      clear hG hD gd ne x1 x3 WK
      simp only [pickOps, List.filterMap_cons, List.filterMap_nil, List.getElem?_toArray, List.getElem?_cons_succ, List.getElem?_cons_zero]
      replace d0 := k1.cell d0 (fun e => e)
      replace d1 := k1.cell d1 (fun e => e)
      replace d2 := k1.cell d2 (fun e => e)
      replace g2 := k1.cell g2 (fun e => e)
      replace g3 := k1.cell g3 (fun e => e)
      have K1 := Lib.hid (K0.out.trans k1)
      have A1 := Lib.hid (HA.out.keep k1)
      have lg := A1.out.blk.lt
      have lb := A1.out.ge_
      have h32' : (s.workers.length : Int) = 32 := by have := H32.out; omega
      have h32d : decide ((s.workers.length : Int) = 32) = true := decide_eq_true h32'
      go_wp2
      go_ret2
      exact ⟨_, _, _, _, by rw [E1.out]; rfl, by rw [E3.out]; exact ⟨rfl, .inl ⟨rfl, rfl⟩⟩, by rw [E2.out]; exact A1.out, K1.out.weak⟩
    · have E1 := Lib.hid (show perE s e = 0 by rw [PE, ansE, hi', if_pos (by decide), if_neg (by omega)])
      have E2 := Lib.hid (show perS s e = { s with workers := s.workers ++ [⟨e.worker, false⟩] } by rw [PS, ansS, hi', if_pos (by decide), if_neg (by omega)])
      have h32' : ¬ (s.workers.length : Int) = 32 := by omega
      have h32d : decide ((s.workers.length : Int) = 32) = false := decide_eq_false h32'
      clear ansE ansS hi hi' hw PE PS
      go_enter Tryz.func85, Tryz.ntmps85
      go_upto_region 1 with (fail)
      rw [← hW0]
      clear hW0
      have gd := callCalm_good W0 5 (.int .i64 (-1))
      have ne := callCalm_some W0 5 (.int .i64 (-1))
      have x1 := fun y => (callCalm_at (wr := W0) (k := 5) (u := .int .i64 (-1)) y).cell d2 (fun e => e)
      have x3 := Lib.hid (fun y => rangeAt_keep HA.out.blk.rangeAt (callCalm_at (wr := W0) (k := 5) (u := .int .i64 (-1)) y) (fun e => e))
      refine wp_region_calm (callCalm W0 5 (.int .i64 (-1))) [0, 1, 2, 3, 4, 5] [6] 205 (by kernel_rfl) (by kernel_rfl) rfl gd (Keep.refl _ _).drew ?_
      simp only [pairs, List.filterMap_cons, List.filterMap_nil, List.getElem?_toArray, List.getElem?_cons_succ, List.getElem?_cons_zero, Option.map_some]
      repeat (refine Calm.walk_quiet ne rfl rfl rfl (fun K hK => ?_); go_big_quiet_op; refine hK _ ?_; clear hK K)
      refine Calm.walk_load 48 (.tmp 11) rfl ne rfl rfl g 0 rfl #[.int .i64 s.now, .slice Ap s.present.length cp, .slice Aj s.jobs.length cj, .slice Aw s.workers.length cw] _ x3.out Tryz.underlying48 rfl (by kernel_rfl) ?_
      go_frame
      repeat (refine Calm.walk_quiet ne rfl rfl rfl (fun K hK => ?_); go_big_quiet_op; refine hK _ ?_; clear hK K)
      refine Calm.walk_eff rfl rfl (fun n wy hn hG _ => ?_) ?_
      · have hG' : Keep none_ W0 wy := hG
        unfold gives
        go_simp
        refine (WK.out wy hG').mono ?_
        rintro e w' ⟨rfl, k'⟩
        exact ⟨_, rfl, rfl, k', hG'.trans k', fun _ h => h.elim⟩
      intro vq wy hT
      obtain rfl : vq = .int .i64 (-1) := hT
      clear wy
      go_frame
      intro w1 hG hD
      have k1 : Keep none_ W0 w1 := hG
      clear hG hD gd ne x1 x3 WK
      simp only [pickOps, List.filterMap_cons, List.filterMap_nil, List.getElem?_toArray, List.getElem?_cons_succ, List.getElem?_cons_zero]
      replace d0 := k1.cell d0 (fun e => e)
      replace d1 := k1.cell d1 (fun e => e)
      replace d2 := k1.cell d2 (fun e => e)
      replace g2 := k1.cell g2 (fun e => e)
      replace g3 := k1.cell g3 (fun e => e)
      have K1 := Lib.hid (K0.out.trans k1)
      have A1 := Lib.hid (HA.out.keep k1)
      have lg := A1.out.blk.lt
      have lb := A1.out.ge_
      go_upto_region 10 with (fail)
      have EW := Lib.hid (fun x => own_apart A1.out.wks (HB.out.keep k1 (fun e => e)) (by decide) w.heap.size x rfl)
      clear k1 d0 d1 g2 HJ HW HB
      obtain ⟨XX, hXX⟩ : ∃ XX : Value → World → Prop, XX = fun v' w' => w'.ownsRow base 107 2 v' (s.workers.length + 1) (wkCells s.workers ++ [.string e.worker, .bool false]) := ⟨_, rfl⟩
      have gd := appCalm_good (wr := w1) (S := ofBlk (.slice Aw s.workers.length cw)) (k1 := 8) (k2 := 9) (t := 107) (cs := #[.string e.worker, .bool false]) (X := XX) (own_lt A1.out.wks) (fun v w w' h k => by rw [hXX] at *; exact own_keep h k (fun _ _ e => e))
      have HXX := Lib.hid hXX
      clear hXX
      have ne := appCalm_some w1 (ofBlk (.slice Aw s.workers.length cw)) 8 9 107 #[.string e.worker, .bool false] XX
      have og : ¬ ofBlk (.slice Aw s.workers.length cw) g := fun x => own_apart A1.out.wks A1.out.blk (by decide) g x rfl
      have ob : ¬ ofBlk (.slice Aw s.workers.length cw) w.heap.size := fun x => EW.out x
      have x1 := fun x => (appCalm_at (wr := w1) (S := ofBlk (.slice Aw s.workers.length cw)) (k1 := 8) (k2 := 9) (t := 107) (cs := #[.string e.worker, .bool false]) (X := XX) x).cell g3 og
      have x2 := fun x => (appCalm_at (wr := w1) (S := ofBlk (.slice Aw s.workers.length cw)) (k1 := 8) (k2 := 9) (t := 107) (cs := #[.string e.worker, .bool false]) (X := XX) x).cell d2 ob
      refine wp_region_calm (appCalm w1 (ofBlk (.slice Aw s.workers.length cw)) 8 9 107 #[.string e.worker, .bool false] XX) [0, 1, 2, 3, 4, 5, 6, 7, 8, 9, 10, 11] [12] 205 (by kernel_rfl) (by kernel_rfl) rfl gd ⟨(Keep.refl _ _).drew, fun _ => (Keep.refl _ _).drew⟩ ?_
      simp only [pairs, List.filterMap_cons, List.filterMap_nil, List.getElem?_toArray, List.getElem?_cons_succ, List.getElem?_cons_zero, Option.map_some]
      repeat (refine Calm.walk_quiet ne rfl rfl rfl (fun K hK => ?_); go_big_quiet_op; refine hK _ ?_; clear hK K)
      refine Calm.walk_eff rfl rfl (fun n w5 _ hR _ => ?_) ?_
      · unfold gives
        go_simp
        exact ⟨⟨w5.heap.size, hR.1.size, rfl, Blk.new _ _ _⟩, (Keep.refl _ _).alloc _, ⟨hR.1.alloc _, fun hn => (hR.2 (by omega)).alloc _⟩, fun b hb => hb.elim⟩
      rintro v5 w5 ⟨b5, -, rfl, -⟩
      clear w5
      go_frame
      refine Calm.walk_effn rfl rfl (fun n w5 g1 g2 hG hA => ?_) ?_
      · have g2' : n < 2 := g2
        have hk5 : Keep none_ w1 w5 := hG.2 (by omega)
        have hb5 := madeT.slice (hA 8 (List.mem_cons_self ..) _ rfl ⟨rfl, rfl⟩).1
        refine gives_mono (gives_append1 (.tmp 51) (.tmp 55) 46 107 rfl base _ 2 24 Tryz.underlying46 wk_info rfl (by omega) (.slice Aw s.workers.length cw) s.workers.length _ rfl (own_keep A1.out.wks hk5 (fun _ _ e => e)) b5 #[.string e.worker, .bool false] rfl hb5.2 rfl (by simp [Value.oneCell']) (by omega) (by have := hk5.size; omega)) fun v6 w6 h => ?_
        exact ⟨HXX.out ▸ h.1, h.2.1, ⟨hk5.weak.trans h.2.1, fun hn => absurd hn (by have g1' : 1 ≤ n := g1; omega)⟩, fun b hb => hb.elim⟩
      rintro v6 w5 hT
      replace hT : XX v6 w5 := hT
      rw [HXX.out] at hT
      obtain ⟨A6, c6, rfl, -⟩ := own_row (S := none_) hT (fun _ _ e => e)
      clear hT w5
      go_frame
      repeat (refine Calm.walk_quiet ne rfl rfl rfl (fun K hK => ?_); go_big_quiet_op; refine hK _ ?_; clear hK K)
      intro w5 hG hD
      have hk5 : Keep (ofBlk (.slice Aw s.workers.length cw)) w1 w5 := hG.1
      have hown5 : XX (.slice A6 (s.workers.length + 1) c6) w5 := (hD.1 9 rfl _ rfl ⟨rfl, rfl⟩).1
      rw [HXX.out] at hown5
      obtain ⟨r1, r2⟩ := A1.out.newWk (x := ⟨e.worker, false⟩) hk5 hown5
      have R1 := Lib.hid r1
      have R2 := Lib.hid r2
      have b5 := A1.out.blk.keep hk5 og
      have z3 := b5.cell 3
      have f3 := b5.frozen 3
      simp only [List.getElem?_toArray, List.getElem?_cons_zero, List.getElem?_cons_succ] at z3
      clear hD hG ne gd x1 x2 r1 r2 b5 hown5 hk5 og ob
      simp only [pickOps, List.filterMap_cons, List.filterMap_nil, List.getElem?_toArray, List.getElem?_cons_succ, List.getElem?_cons_zero]
      go_wp2
      go_ret2
      exact ⟨_, _, _, _, by rw [E1.out]; rfl, by rw [E3.out]; exact ⟨rfl, .inl ⟨rfl, rfl⟩⟩, by rw [E2.out]; exact R1.out, K1.out.weak.trans R2.out⟩
  · have hi' : wkIdx s.workers e.worker = (k : Int) := hi
    rw [hi'] at WK
    have e1 : perE s e = if s.workers[k].dead then 0 else 8 := by
      rw [PE, ansE, hi', if_neg (by omega), Int.toNat_natCast, List.getElem?_eq_getElem hkk]
    have e2 : perS s e = if s.workers[k].dead then { s with workers := s.workers.set k ⟨s.workers[k].name, false⟩ } else s := by
      rw [PS, ansS, hi', if_neg (by omega), Int.toNat_natCast, List.getElem?_eq_getElem hkk]
    obtain ⟨b, cap, cur, eV, hb1, hb2, hb3⟩ := own_cases HA.out.wks (by omega)
    simp only [Value.slice.injEq, true_and] at eV
    obtain ⟨rfl, rfl⟩ := eV
    obtain ⟨b', o', eA, -, hkl, cs, -, hrg, hcs⟩ := hw.elem k hkk
    simp only [Option.some.injEq, Addr.mk.injEq, and_true] at eA
    obtain ⟨rfl, rfl⟩ := eA
    have setE := wkCells_set s.workers k hkk false
    generalize s.workers[k] = y at hcs e1 e2 setE
    subst hcs
    have c1 : W0.cell? ⟨b, 0 + k * 2 + 1, none⟩ = some (.bool y.dead) := hrg 1 _ rfl
    rw [Nat.zero_add] at c1
    have hkn' : (k : Int) < s.workers.length := by omega
    have E1 := Lib.hid e1
    have E2 := Lib.hid e2
    have SE := Lib.hid setE
    have HB2 := Lib.hid hb2
    clear ansE ansS e1 e2 hi hi' hrg setE hb3 hw hb2 PE PS
    cases hd : y.dead with
    | true =>
      rw [hd] at c1 E1 E2
      clear hd
      go_enter Tryz.func85, Tryz.ntmps85
      go_upto_region 1 with (fail)
      rw [← hW0]
      clear hW0
      have gd := callCalm_good W0 5 (.int .i64 ((k : Nat)))
      have ne := callCalm_some W0 5 (.int .i64 ((k : Nat)))
      have x1 := fun y => (callCalm_at (wr := W0) (k := 5) (u := .int .i64 ((k : Nat))) y).cell d2 (fun e => e)
      have x3 := Lib.hid (fun y => rangeAt_keep HA.out.blk.rangeAt (callCalm_at (wr := W0) (k := 5) (u := .int .i64 ((k : Nat))) y) (fun e => e))
      refine wp_region_calm (callCalm W0 5 (.int .i64 ((k : Nat)))) [0, 1, 2, 3, 4, 5] [6] 205 (by kernel_rfl) (by kernel_rfl) rfl gd (Keep.refl _ _).drew ?_
      simp only [pairs, List.filterMap_cons, List.filterMap_nil, List.getElem?_toArray, List.getElem?_cons_succ, List.getElem?_cons_zero, Option.map_some]
      repeat (refine Calm.walk_quiet ne rfl rfl rfl (fun K hK => ?_); go_big_quiet_op; refine hK _ ?_; clear hK K)
      refine Calm.walk_load 48 (.tmp 11) rfl ne rfl rfl g 0 rfl #[.int .i64 s.now, .slice Ap s.present.length cp, .slice Aj s.jobs.length cj, .slice (some ⟨b, 0, none⟩) s.workers.length cw] _ x3.out Tryz.underlying48 rfl (by kernel_rfl) ?_
      go_frame
      repeat (refine Calm.walk_quiet ne rfl rfl rfl (fun K hK => ?_); go_big_quiet_op; refine hK _ ?_; clear hK K)
      refine Calm.walk_eff rfl rfl (fun n wy hn hG _ => ?_) ?_
      · have hG' : Keep none_ W0 wy := hG
        unfold gives
        go_simp
        refine (WK.out wy hG').mono ?_
        rintro e w' ⟨rfl, k'⟩
        exact ⟨_, rfl, rfl, k', hG'.trans k', fun _ h => h.elim⟩
      intro vq wy hT
      obtain rfl : vq = .int .i64 ((k : Nat)) := hT
      clear wy
      go_frame
      intro w1 hG hD
      have k1 : Keep none_ W0 w1 := hG
      clear hG hD gd ne x1 x3 WK
      simp only [pickOps, List.filterMap_cons, List.filterMap_nil, List.getElem?_toArray, List.getElem?_cons_succ, List.getElem?_cons_zero]
      replace d0 := k1.cell d0 (fun e => e)
      replace d1 := k1.cell d1 (fun e => e)
      replace d2 := k1.cell d2 (fun e => e)
      replace g2 := k1.cell g2 (fun e => e)
      replace g3 := k1.cell g3 (fun e => e)
      have K1 := Lib.hid (K0.out.trans k1)
      have A1 := Lib.hid (HA.out.keep k1)
      have lg := A1.out.blk.lt
      have lb := A1.out.ge_
      have z1 := k1.cell c1 (fun e => e)
      have hb5 := HB2.out.keep k1 (fun e => e)
      have f1 := hb5.frozen (k * 2 + 1)
      clear hb5 c1
      go_wp2
      obtain ⟨r1, r2⟩ := A1.out.setWk (by omega) (k * 2 + 1) (.bool false) (by simp) SE.out
      go_ret2
      exact ⟨_, _, _, _, by rw [E1.out]; rfl, by rw [E3.out]; exact ⟨rfl, .inl ⟨rfl, rfl⟩⟩, by rw [E2.out]; exact r1, K1.out.weak.trans r2⟩
    | false =>
      rw [hd] at c1 E1 E2
      clear hd
      go_enter Tryz.func85, Tryz.ntmps85
      go_upto_region 1 with (fail)
      rw [← hW0]
      clear hW0
      have gd := callCalm_good W0 5 (.int .i64 ((k : Nat)))
      have ne := callCalm_some W0 5 (.int .i64 ((k : Nat)))
      have x1 := fun y => (callCalm_at (wr := W0) (k := 5) (u := .int .i64 ((k : Nat))) y).cell d2 (fun e => e)
      have x3 := Lib.hid (fun y => rangeAt_keep HA.out.blk.rangeAt (callCalm_at (wr := W0) (k := 5) (u := .int .i64 ((k : Nat))) y) (fun e => e))
      refine wp_region_calm (callCalm W0 5 (.int .i64 ((k : Nat)))) [0, 1, 2, 3, 4, 5] [6] 205 (by kernel_rfl) (by kernel_rfl) rfl gd (Keep.refl _ _).drew ?_
      simp only [pairs, List.filterMap_cons, List.filterMap_nil, List.getElem?_toArray, List.getElem?_cons_succ, List.getElem?_cons_zero, Option.map_some]
      repeat (refine Calm.walk_quiet ne rfl rfl rfl (fun K hK => ?_); go_big_quiet_op; refine hK _ ?_; clear hK K)
      refine Calm.walk_load 48 (.tmp 11) rfl ne rfl rfl g 0 rfl #[.int .i64 s.now, .slice Ap s.present.length cp, .slice Aj s.jobs.length cj, .slice (some ⟨b, 0, none⟩) s.workers.length cw] _ x3.out Tryz.underlying48 rfl (by kernel_rfl) ?_
      go_frame
      repeat (refine Calm.walk_quiet ne rfl rfl rfl (fun K hK => ?_); go_big_quiet_op; refine hK _ ?_; clear hK K)
      refine Calm.walk_eff rfl rfl (fun n wy hn hG _ => ?_) ?_
      · have hG' : Keep none_ W0 wy := hG
        unfold gives
        go_simp
        refine (WK.out wy hG').mono ?_
        rintro e w' ⟨rfl, k'⟩
        exact ⟨_, rfl, rfl, k', hG'.trans k', fun _ h => h.elim⟩
      intro vq wy hT
      obtain rfl : vq = .int .i64 ((k : Nat)) := hT
      clear wy
      go_frame
      intro w1 hG hD
      have k1 : Keep none_ W0 w1 := hG
      clear hG hD gd ne x1 x3 WK
      simp only [pickOps, List.filterMap_cons, List.filterMap_nil, List.getElem?_toArray, List.getElem?_cons_succ, List.getElem?_cons_zero]
      replace d0 := k1.cell d0 (fun e => e)
      replace d1 := k1.cell d1 (fun e => e)
      replace d2 := k1.cell d2 (fun e => e)
      replace g2 := k1.cell g2 (fun e => e)
      replace g3 := k1.cell g3 (fun e => e)
      have K1 := Lib.hid (K0.out.trans k1)
      have A1 := Lib.hid (HA.out.keep k1)
      have lg := A1.out.blk.lt
      have lb := A1.out.ge_
      have z1 := k1.cell c1 (fun e => e)
      clear c1
      go_wp2
      go_ret2
      exact ⟨_, _, _, _, by rw [E1.out]; rfl, by rw [E3.out]; exact ⟨rfl, .inl ⟨rfl, rfl⟩⟩, by rw [E2.out]; exact A1.out, K1.out.weak⟩

set_option maxRecDepth 100000 in
set_option maxHeartbeats 2000000 in
theorem rwork_die (X : XP) (s : St) (vp vj vw v : Value) (base g : Nat) (S S' : Nat → Prop) (e : Ev) (w : World) (hk : e.kind = 5) (h : RAft X w base (orr S base) g vp vj vw s) (he : EvOf w S' v e) :
    Calls Tryz.prog 85 #[.pointer (some ⟨g, 0, none⟩), v] w (RMeth2 X base (orr S base) g (perE s e) (perO s e) (perS s e) w) := by
  obtain ⟨vn, vi, rfl, hns, his⟩ := he
  obtain ⟨An, nn, cn, rfl, -⟩ := hns
  obtain ⟨Ai, ni, ci, rfl, -⟩ := his
  obtain ⟨W0, hW0⟩ : ∃ W0, W0 = w.alloc (.cells #[.int .i64 e.kind, .string e.name, .string e.worker, .slice An nn cn, .int .i64 e.ticks, .slice Ai ni ci] 78) := ⟨_, rfl⟩
  have k0 : Keep none_ w W0 := hW0 ▸ (Keep.refl none_ w).alloc _
  have b0 : Blk W0 w.heap.size 78 #[.int .i64 e.kind, .string e.name, .string e.worker, .slice An nn cn, .int .i64 e.ticks, .slice Ai ni ci] := hW0 ▸ Blk.new _ _ _
  have a0 := h.keep k0
  obtain ⟨Ap, cp, rfl, -⟩ := own_row (S := none_) a0.strs (fun _ _ e => e)
  obtain ⟨Aj, cj, rfl, hj⟩ := a0.jobs.list
  obtain ⟨Aw, cw, rfl, hw⟩ := ElemsOf_wks (S := none_) a0.wks (fun _ _ e => e)
  obtain ⟨-, q1, q2⟩ := hw.facts
  unfold maxLen at q2
  have ST := Lib.hid a0.state
  have WK := Lib.hid (fun wx (kx : Keep none_ W0 wx) => rworker_any s _ none_ e.worker wx (ST.out.keep kx))
  have d0 : W0.cell? ⟨w.heap.size, 0, none⟩ = some (.int .i64 e.kind) := b0.cell 0
  have d1 : W0.cell? ⟨w.heap.size, 1, none⟩ = some (.string e.name) := b0.cell 1
  have d2 : W0.cell? ⟨w.heap.size, 2, none⟩ = some (.string e.worker) := b0.cell 2
  have g2 : W0.cell? ⟨g, 2, none⟩ = some (.slice Aj s.jobs.length cj) := a0.blk.cell 2
  have g3 : W0.cell? ⟨g, 3, none⟩ = some (.slice Aw s.workers.length cw) := a0.blk.cell 3
  have HA := Lib.hid a0
  have HB := Lib.hid b0
  have K0 := Lib.hid k0
  have HW := Lib.hid hw
  have HJ := Lib.hid hj
  clear h a0 b0 k0 hj
  have PE : perE s e = aliveE s.workers e.worker := by unfold perE; simp [hk]
  have PS : perS s e = dieS s e.worker := by unfold perS; simp [hk]
  have E3 := Lib.hid (show perO s e = [] by unfold perO; simp [hk])
  rw [hk] at d0
  clear hk
  rcases idx_cases (fun y : Wk => strEq y.name e.worker) s.workers with hi | ⟨k, hkk, hi, -⟩
  · have hi' : wkIdx s.workers e.worker = -1 := hi
    rw [hi'] at WK
    have ae : aliveE s.workers e.worker = 7 := by unfold aliveE; rw [hi']; rfl
    have E1 := Lib.hid (show perE s e = 7 by rw [PE, ae])
    have E2 := Lib.hid (show perS s e = s by rw [PS]; unfold dieS; rw [ae, if_neg (by decide)])
    clear hi hi' hw PE PS ae
    go_enter Tryz.func85, Tryz.ntmps85
    go_upto_region 1 with (fail)
    rw [← hW0]
    clear hW0
    have gd := callCalm_good W0 5 (.int .i64 (-1))
    have ne := callCalm_some W0 5 (.int .i64 (-1))
    have x1 := fun y => (callCalm_at (wr := W0) (k := 5) (u := .int .i64 (-1)) y).cell d2 (fun e => e)
    have x3 := Lib.hid (fun y => rangeAt_keep HA.out.blk.rangeAt (callCalm_at (wr := W0) (k := 5) (u := .int .i64 (-1)) y) (fun e => e))
    refine wp_region_calm (callCalm W0 5 (.int .i64 (-1))) [0, 1, 2, 3, 4, 5] [6] 205 (by kernel_rfl) (by kernel_rfl) rfl gd (Keep.refl _ _).drew ?_
    simp only [pairs, List.filterMap_cons, List.filterMap_nil, List.getElem?_toArray, List.getElem?_cons_succ, List.getElem?_cons_zero, Option.map_some]
    repeat (refine Calm.walk_quiet ne rfl rfl rfl (fun K hK => ?_); go_big_quiet_op; refine hK _ ?_; clear hK K)
    refine Calm.walk_load 48 (.tmp 11) rfl ne rfl rfl g 0 rfl #[.int .i64 s.now, .slice Ap s.present.length cp, .slice Aj s.jobs.length cj, .slice Aw s.workers.length cw] _ x3.out Tryz.underlying48 rfl (by kernel_rfl) ?_
    go_frame
    repeat (refine Calm.walk_quiet ne rfl rfl rfl (fun K hK => ?_); go_big_quiet_op; refine hK _ ?_; clear hK K)
    refine Calm.walk_eff rfl rfl (fun n wy hn hG _ => ?_) ?_
    · have hG' : Keep none_ W0 wy := hG
      unfold gives
      go_simp
      refine (WK.out wy hG').mono ?_
      rintro e w' ⟨rfl, k'⟩
      exact ⟨_, rfl, rfl, k', hG'.trans k', fun _ h => h.elim⟩
    intro vq wy hT
    obtain rfl : vq = .int .i64 (-1) := hT
    clear wy
    go_frame
    intro w1 hG hD
    have k1 : Keep none_ W0 w1 := hG
    clear hG hD gd ne x1 x3 WK
    simp only [pickOps, List.filterMap_cons, List.filterMap_nil, List.getElem?_toArray, List.getElem?_cons_succ, List.getElem?_cons_zero]
    replace d0 := k1.cell d0 (fun e => e)
    replace d1 := k1.cell d1 (fun e => e)
    replace d2 := k1.cell d2 (fun e => e)
    replace g2 := k1.cell g2 (fun e => e)
    replace g3 := k1.cell g3 (fun e => e)
    have K1 := Lib.hid (K0.out.trans k1)
    have A1 := Lib.hid (HA.out.keep k1)
    have lg := A1.out.blk.lt
    have lb := A1.out.ge_
    go_wp2
    go_ret2
    exact ⟨_, _, _, _, by rw [E1.out]; rfl, by rw [E3.out]; exact ⟨rfl, .inl ⟨rfl, rfl⟩⟩, by rw [E2.out]; exact A1.out, K1.out.weak⟩
  · have hi' : wkIdx s.workers e.worker = (k : Int) := hi
    rw [hi'] at WK
    have ae : aliveE s.workers e.worker = if s.workers[k].dead then 14 else 0 := by
      unfold aliveE
      rw [hi', if_neg (by omega), Int.toNat_natCast, List.getElem?_eq_getElem hkk]
    have ds : dieS s e.worker = if aliveE s.workers e.worker = 0 then { s with workers := s.workers.set k ⟨s.workers[k].name, true⟩ } else s := by
      unfold dieS
      rw [hi', Int.toNat_natCast, List.getElem?_eq_getElem hkk]
    rw [ae] at ds
    have e1 : perE s e = if s.workers[k].dead then 14 else 0 := by rw [PE, ae]
    have e2 : perS s e = if (if s.workers[k].dead then (14 : Int) else 0) = 0 then { s with workers := s.workers.set k ⟨s.workers[k].name, true⟩ } else s := by rw [PS, ds]
    obtain ⟨b, cap, cur, eV, hb1, hb2, hb3⟩ := own_cases HA.out.wks (by omega)
    simp only [Value.slice.injEq, true_and] at eV
    obtain ⟨rfl, rfl⟩ := eV
    obtain ⟨b', o', eA, -, hkl, cs, -, hrg, hcs⟩ := hw.elem k hkk
    simp only [Option.some.injEq, Addr.mk.injEq, and_true] at eA
    obtain ⟨rfl, rfl⟩ := eA
    have setE := wkCells_set s.workers k hkk true
    generalize s.workers[k] = y at hcs e1 e2 setE
    subst hcs
    have c1 : W0.cell? ⟨b, 0 + k * 2 + 1, none⟩ = some (.bool y.dead) := hrg 1 _ rfl
    rw [Nat.zero_add] at c1
    have hkn' : (k : Int) < s.workers.length := by omega
    have E1 := Lib.hid e1
    have E2 := Lib.hid e2
    have SE := Lib.hid setE
    have HB2 := Lib.hid hb2
    clear e1 e2 hi hi' hrg setE hb3 hw hb2 PE PS ae ds
    cases hd : y.dead with
    | true =>
      rw [hd] at c1 E1 E2
      clear hd
      go_enter Tryz.func85, Tryz.ntmps85
      go_upto_region 1 with (fail)
      rw [← hW0]
      clear hW0
      have gd := callCalm_good W0 5 (.int .i64 ((k : Nat)))
      have ne := callCalm_some W0 5 (.int .i64 ((k : Nat)))
      have x1 := fun y => (callCalm_at (wr := W0) (k := 5) (u := .int .i64 ((k : Nat))) y).cell d2 (fun e => e)
      have x3 := Lib.hid (fun y => rangeAt_keep HA.out.blk.rangeAt (callCalm_at (wr := W0) (k := 5) (u := .int .i64 ((k : Nat))) y) (fun e => e))
      refine wp_region_calm (callCalm W0 5 (.int .i64 ((k : Nat)))) [0, 1, 2, 3, 4, 5] [6] 205 (by kernel_rfl) (by kernel_rfl) rfl gd (Keep.refl _ _).drew ?_
      simp only [pairs, List.filterMap_cons, List.filterMap_nil, List.getElem?_toArray, List.getElem?_cons_succ, List.getElem?_cons_zero, Option.map_some]
      repeat (refine Calm.walk_quiet ne rfl rfl rfl (fun K hK => ?_); go_big_quiet_op; refine hK _ ?_; clear hK K)
      refine Calm.walk_load 48 (.tmp 11) rfl ne rfl rfl g 0 rfl #[.int .i64 s.now, .slice Ap s.present.length cp, .slice Aj s.jobs.length cj, .slice (some ⟨b, 0, none⟩) s.workers.length cw] _ x3.out Tryz.underlying48 rfl (by kernel_rfl) ?_
      go_frame
      repeat (refine Calm.walk_quiet ne rfl rfl rfl (fun K hK => ?_); go_big_quiet_op; refine hK _ ?_; clear hK K)
      refine Calm.walk_eff rfl rfl (fun n wy hn hG _ => ?_) ?_
      · have hG' : Keep none_ W0 wy := hG
        unfold gives
        go_simp
        refine (WK.out wy hG').mono ?_
        rintro e w' ⟨rfl, k'⟩
        exact ⟨_, rfl, rfl, k', hG'.trans k', fun _ h => h.elim⟩
      intro vq wy hT
      obtain rfl : vq = .int .i64 ((k : Nat)) := hT
      clear wy
      go_frame
      intro w1 hG hD
      have k1 : Keep none_ W0 w1 := hG
      clear hG hD gd ne x1 x3 WK
      simp only [pickOps, List.filterMap_cons, List.filterMap_nil, List.getElem?_toArray, List.getElem?_cons_succ, List.getElem?_cons_zero]
      replace d0 := k1.cell d0 (fun e => e)
      replace d1 := k1.cell d1 (fun e => e)
      replace d2 := k1.cell d2 (fun e => e)
      replace g2 := k1.cell g2 (fun e => e)
      replace g3 := k1.cell g3 (fun e => e)
      have K1 := Lib.hid (K0.out.trans k1)
      have A1 := Lib.hid (HA.out.keep k1)
      have lg := A1.out.blk.lt
      have lb := A1.out.ge_
      have z1 := k1.cell c1 (fun e => e)
      clear c1
      go_wp2
      go_ret2
      exact ⟨_, _, _, _, by rw [E1.out]; rfl, by rw [E3.out]; exact ⟨rfl, .inl ⟨rfl, rfl⟩⟩, by rw [E2.out]; exact A1.out, K1.out.weak⟩
    | false =>
      rw [hd] at c1 E1 E2
      clear hd
      go_enter Tryz.func85, Tryz.ntmps85
      go_upto_region 1 with (fail)
      rw [← hW0]
      clear hW0
      have gd := callCalm_good W0 5 (.int .i64 ((k : Nat)))
      have ne := callCalm_some W0 5 (.int .i64 ((k : Nat)))
      have x1 := fun y => (callCalm_at (wr := W0) (k := 5) (u := .int .i64 ((k : Nat))) y).cell d2 (fun e => e)
      have x3 := Lib.hid (fun y => rangeAt_keep HA.out.blk.rangeAt (callCalm_at (wr := W0) (k := 5) (u := .int .i64 ((k : Nat))) y) (fun e => e))
      refine wp_region_calm (callCalm W0 5 (.int .i64 ((k : Nat)))) [0, 1, 2, 3, 4, 5] [6] 205 (by kernel_rfl) (by kernel_rfl) rfl gd (Keep.refl _ _).drew ?_
      simp only [pairs, List.filterMap_cons, List.filterMap_nil, List.getElem?_toArray, List.getElem?_cons_succ, List.getElem?_cons_zero, Option.map_some]
      repeat (refine Calm.walk_quiet ne rfl rfl rfl (fun K hK => ?_); go_big_quiet_op; refine hK _ ?_; clear hK K)
      refine Calm.walk_load 48 (.tmp 11) rfl ne rfl rfl g 0 rfl #[.int .i64 s.now, .slice Ap s.present.length cp, .slice Aj s.jobs.length cj, .slice (some ⟨b, 0, none⟩) s.workers.length cw] _ x3.out Tryz.underlying48 rfl (by kernel_rfl) ?_
      go_frame
      repeat (refine Calm.walk_quiet ne rfl rfl rfl (fun K hK => ?_); go_big_quiet_op; refine hK _ ?_; clear hK K)
      refine Calm.walk_eff rfl rfl (fun n wy hn hG _ => ?_) ?_
      · have hG' : Keep none_ W0 wy := hG
        unfold gives
        go_simp
        refine (WK.out wy hG').mono ?_
        rintro e w' ⟨rfl, k'⟩
        exact ⟨_, rfl, rfl, k', hG'.trans k', fun _ h => h.elim⟩
      intro vq wy hT
      obtain rfl : vq = .int .i64 ((k : Nat)) := hT
      clear wy
      go_frame
      intro w1 hG hD
      have k1 : Keep none_ W0 w1 := hG
      clear hG hD gd ne x1 x3 WK
      simp only [pickOps, List.filterMap_cons, List.filterMap_nil, List.getElem?_toArray, List.getElem?_cons_succ, List.getElem?_cons_zero]
      replace d0 := k1.cell d0 (fun e => e)
      replace d1 := k1.cell d1 (fun e => e)
      replace d2 := k1.cell d2 (fun e => e)
      replace g2 := k1.cell g2 (fun e => e)
      replace g3 := k1.cell g3 (fun e => e)
      have K1 := Lib.hid (K0.out.trans k1)
      have A1 := Lib.hid (HA.out.keep k1)
      have lg := A1.out.blk.lt
      have lb := A1.out.ge_
      have z1 := k1.cell c1 (fun e => e)
      have hb5 := HB2.out.keep k1 (fun e => e)
      have f1 := hb5.frozen (k * 2 + 1)
      clear hb5 c1
      go_wp2
      obtain ⟨r1, r2⟩ := A1.out.setWk (by omega) (k * 2 + 1) (.bool true) (by simp) SE.out
      go_ret2
      exact ⟨_, _, _, _, by rw [E1.out]; rfl, by rw [E3.out]; exact ⟨rfl, .inl ⟨rfl, rfl⟩⟩, by rw [E2.out]; exact r1, K1.out.weak.trans r2⟩
end Go.Proofs.YtnefbeplgfdkkaaGreatDoor
