/-
  cutroomref37.work: poll.
-/
import Derived.Test.YtnefbeplgfdkkaaGreatDoorRu36
import Derived.Test.YtnefbeplgfdkkaaGreatDoorRu20
import Derived.Test.YtnefbeplgfdkkaaGreatDoorRu39
namespace Go.Proofs.YtnefbeplgfdkkaaGreatDoor
open Go.RowKit

theorem range_split (n k : Nat) (h : k < n) : ∃ r, List.range n = List.range k ++ k :: r := by
  refine ⟨(List.range (n - k - 1)).map (fun i => k + (i + 1)), ?_⟩
  have e : n = k + ((n - k - 1) + 1) := by omega
  rw [e, List.range_add, List.range_succ_eq_map]
  simp
theorem readyL_first {s : St} {k : Nat} (hk : k < s.jobs.length) (h0 : ∀ m, m < k → readyK s m = false) (h1 : readyK s k = true) : ∃ rest, k :: rest = readyL s := by
  obtain ⟨r, hr⟩ := range_split s.jobs.length k hk
  refine ⟨r.filter (readyK s), ?_⟩
  unfold readyL
  rw [hr, List.filter_append, List.filter_cons, if_pos h1]
  have : (List.range k).filter (readyK s) = [] := by
    rw [List.filter_eq_nil_iff]
    intro m hm
    rw [h0 m (List.mem_range.1 hm)]
    decide
  rw [this]
  rfl
theorem readyL_none {s : St} (h0 : ∀ m, m < s.jobs.length → readyK s m = false) : readyL s = [] := by
  unfold readyL
  rw [List.filter_eq_nil_iff]
  intro m hm
  rw [h0 m (List.mem_range.1 hm)]
  decide
theorem bs_any (js : List Jb) (x : ByteArray) : js.any (fun j => strEq j.worker x) = decide (0 ≤ bsIdx js x) := by
  rcases idxOf_range (fun y : Jb => strEq y.worker x) js 0 with ⟨h1, h2⟩ | ⟨q, hq, h1, h2, -⟩
  · rw [show bsIdx js x = -1 from h1, List.any_eq_false.2 (fun y hy => by simpa using h2 y hy)]
    rfl
  · rw [show bsIdx js x = ((0 + q : Nat) : Int) from h1, List.any_eq_true.2 ⟨_, List.getElem_mem hq, h2⟩]
    exact (decide_eq_true (by omega)).symm

set_option maxRecDepth 100000 in
set_option maxHeartbeats 2000000 in
theorem rwork_poll (X : XP) (s : St) (vp vj vw v : Value) (base g : Nat) (S S' : Nat → Prop) (e : Ev) (w : World) (hk : e.kind = 6) (h : RAft X w base (orr S base) g vp vj vw s) (he : EvOf w S' v e) (h0 : 0 ≤ s.now) (h1 : s.now ≤ 1099511627776) :
    Calls Tryz.prog 85 #[.pointer (some ⟨g, 0, none⟩), v] w (RMeth2 X base (orr S base) g (perE s e) (perO s e) (perS s e) w) := by
  obtain ⟨vn, vi, rfl, hns, his⟩ := he
  obtain ⟨An, nn, cn, rfl, -⟩ := hns
  obtain ⟨Ai, ni, ci, rfl, -⟩ := his
  obtain ⟨W0, hW0⟩ : ∃ W0, W0 = w.alloc (.cells #[.int .i64 e.kind, .string e.name, .string e.worker, .slice An nn cn, .int .i64 e.ticks, .slice Ai ni ci] 78) := ⟨_, rfl⟩
  have k0 : Keep none_ w W0 := hW0 ▸ (Keep.refl none_ w).alloc _
  have b0 : Blk W0 w.heap.size 78 #[.int .i64 e.kind, .string e.name, .string e.worker, .slice An nn cn, .int .i64 e.ticks, .slice Ai ni ci] := hW0 ▸ Blk.new _ _ _
  have a0 := h.keep k0
  obtain ⟨Ap, cp, rfl, -⟩ := own_row (S := none_) a0.strs (fun _ _ e => e)
  obtain ⟨Aj, cj, rfl, hj⟩ := a0.jobs.list
  obtain ⟨Aw, cw, rfl, hw⟩ := ElemsOf_wks (S := none_) a0.wks (fun _ _ e => e)
  obtain ⟨-, q1, q2⟩ := hw.facts
  unfold maxLen at q2
  have ST := Lib.hid a0.state
  have WK := Lib.hid (fun wx (kx : Keep none_ W0 wx) => rworker_any s _ none_ e.worker wx (ST.out.keep kx))
  have d0 : W0.cell? ⟨w.heap.size, 0, none⟩ = some (.int .i64 e.kind) := b0.cell 0
  have d1 : W0.cell? ⟨w.heap.size, 1, none⟩ = some (.string e.name) := b0.cell 1
  have d2 : W0.cell? ⟨w.heap.size, 2, none⟩ = some (.string e.worker) := b0.cell 2
  have g2 : W0.cell? ⟨g, 2, none⟩ = some (.slice Aj s.jobs.length cj) := a0.blk.cell 2
  have g3 : W0.cell? ⟨g, 3, none⟩ = some (.slice Aw s.workers.length cw) := a0.blk.cell 3
  have HA := Lib.hid a0
  have HB := Lib.hid b0
  have K0 := Lib.hid k0
  have HW := Lib.hid hw
  have HJ := Lib.hid hj
  clear h a0 b0 k0 hj
  have PE : perE s e = pollE s e.worker := by unfold perE; simp [hk]
  have PS : perS s e = pollS s e.worker := by unfold perS; simp [hk]
  have PO : perO s e = pollO s e.worker := by unfold perO; simp [hk]
  rw [hk] at d0
  clear hk
  rcases idx_cases (fun y : Wk => strEq y.name e.worker) s.workers with hi | ⟨k, hkk, hi, -⟩
  · have hi' : wkIdx s.workers e.worker = -1 := hi
    rw [hi'] at WK
    have ae : aliveE s.workers e.worker = 7 := by unfold aliveE; rw [hi']; rfl
    have pe : pollE s e.worker = 7 := by unfold pollE; rw [ae]; rfl
    have E1 := Lib.hid (show perE s e = 7 by rw [PE, pe])
    have E2 := Lib.hid (show perS s e = s by rw [PS]; unfold pollS; rw [pe, if_neg (by decide)])
    have E3 := Lib.hid (show perO s e = [] by rw [PO]; unfold pollO; rw [pe, if_neg (by decide)])
    clear hi hi' hw PE PS PO ae pe
    go_enter Tryz.func85, Tryz.ntmps85
    go_upto_region 1 with (fail)
    rw [← hW0]
    clear hW0
    have gd := callCalm_good W0 5 (.int .i64 (-1))
    have ne := callCalm_some W0 5 (.int .i64 (-1))
    have x1 := fun y => (callCalm_at (wr := W0) (k := 5) (u := .int .i64 (-1)) y).cell d2 (fun e => e)
    have x3 := Lib.hid (fun y => rangeAt_keep HA.out.blk.rangeAt (callCalm_at (wr := W0) (k := 5) (u := .int .i64 (-1)) y) (fun e => e))
    refine wp_region_calm (callCalm W0 5 (.int .i64 (-1))) [0, 1, 2, 3, 4, 5] [6] 205 (by kernel_rfl) (by kernel_rfl) rfl gd (Keep.refl _ _).drew ?_
    simp only [pairs, List.filterMap_cons, List.filterMap_nil, List.getElem?_toArray, List.getElem?_cons_succ, List.getElem?_cons_zero, Option.map_some]
    repeat (refine Calm.walk_quiet ne rfl rfl rfl (fun K hK => ?_); go_big_quiet_op; refine hK _ ?_; clear hK K)
    refine Calm.walk_load 48 (.tmp 11) rfl ne rfl rfl g 0 rfl #[.int .i64 s.now, .slice Ap s.present.length cp, .slice Aj s.jobs.length cj, .slice Aw s.workers.length cw] _ x3.out Tryz.underlying48 rfl (by kernel_rfl) ?_
    go_frame
    repeat (refine Calm.walk_quiet ne rfl rfl rfl (fun K hK => ?_); go_big_quiet_op; refine hK _ ?_; clear hK K)
    refine Calm.walk_eff rfl rfl (fun n wy hn hG _ => ?_) ?_
    · have hG' : Keep none_ W0 wy := hG
      unfold gives
      go_simp
      refine (WK.out wy hG').mono ?_
      rintro e w' ⟨rfl, k'⟩
      exact ⟨_, rfl, rfl, k', hG'.trans k', fun _ h => h.elim⟩
    intro vq wy hT
    obtain rfl : vq = .int .i64 (-1) := hT
    clear wy
    go_frame
    intro w1 hG hD
    have k1 : Keep none_ W0 w1 := hG
    clear hG hD gd ne x1 x3 WK
    simp only [pickOps, List.filterMap_cons, List.filterMap_nil, List.getElem?_toArray, List.getElem?_cons_succ, List.getElem?_cons_zero]
    replace d0 := k1.cell d0 (fun e => e)
    replace d1 := k1.cell d1 (fun e => e)
    replace d2 := k1.cell d2 (fun e => e)
    replace g2 := k1.cell g2 (fun e => e)
    replace g3 := k1.cell g3 (fun e => e)
    have K1 := Lib.hid (K0.out.trans k1)
    have A1 := Lib.hid (HA.out.keep k1)
    have lg := A1.out.blk.lt
    have lb := A1.out.ge_
    go_wp2
    go_ret2
    exact ⟨_, _, _, _, by rw [E1.out]; rfl, by rw [E3.out]; exact ⟨rfl, .inl ⟨rfl, rfl⟩⟩, by rw [E2.out]; exact A1.out, K1.out.weak⟩
  · have hi' : wkIdx s.workers e.worker = (k : Int) := hi
    rw [hi'] at WK
    have ae : aliveE s.workers e.worker = if s.workers[k].dead then 14 else 0 := by
      unfold aliveE
      rw [hi', if_neg (by omega), Int.toNat_natCast, List.getElem?_eq_getElem hkk]
    obtain ⟨bw, ow, rfl, -, hkl, cs, -, hrg, hcs⟩ := hw.elem k hkk
    generalize s.workers[k] = y at hcs ae
    subst hcs
    have c1 : W0.cell? ⟨bw, ow + k * 2 + 1, none⟩ = some (.bool y.dead) := hrg 1 _ rfl
    obtain ⟨ba, capw, curw, eVw, -⟩ := own_cases HA.out.wks (by omega)
    simp only [Value.slice.injEq, Option.some.injEq, Addr.mk.injEq, and_true, true_and] at eVw
    obtain ⟨⟨rfl, rfl⟩, rfl⟩ := eVw
    rw [Nat.zero_add] at c1
    have hkn' : (k : Int) < s.workers.length := by omega
    clear hi hi' hrg hw
    cases hd : y.dead with
    | true =>
      rw [hd] at c1 ae
      have pe : pollE s e.worker = 14 := by unfold pollE; rw [ae]; rfl
      have E1 := Lib.hid (show perE s e = 14 by rw [PE, pe])
      have E2 := Lib.hid (show perS s e = s by rw [PS]; unfold pollS; rw [pe, if_neg (by decide)])
      have E3 := Lib.hid (show perO s e = [] by rw [PO]; unfold pollO; rw [pe, if_neg (by decide)])
      clear hd ae pe PE PS PO
      go_enter Tryz.func85, Tryz.ntmps85
      go_upto_region 1 with (fail)
      rw [← hW0]
      clear hW0
      have gd := callCalm_good W0 5 (.int .i64 ((k : Nat)))
      have ne := callCalm_some W0 5 (.int .i64 ((k : Nat)))
      have x1 := fun y => (callCalm_at (wr := W0) (k := 5) (u := .int .i64 ((k : Nat))) y).cell d2 (fun e => e)
      have x3 := Lib.hid (fun y => rangeAt_keep HA.out.blk.rangeAt (callCalm_at (wr := W0) (k := 5) (u := .int .i64 ((k : Nat))) y) (fun e => e))
      refine wp_region_calm (callCalm W0 5 (.int .i64 ((k : Nat)))) [0, 1, 2, 3, 4, 5] [6] 205 (by kernel_rfl) (by kernel_rfl) rfl gd (Keep.refl _ _).drew ?_
      simp only [pairs, List.filterMap_cons, List.filterMap_nil, List.getElem?_toArray, List.getElem?_cons_succ, List.getElem?_cons_zero, Option.map_some]
      repeat (refine Calm.walk_quiet ne rfl rfl rfl (fun K hK => ?_); go_big_quiet_op; refine hK _ ?_; clear hK K)
      refine Calm.walk_load 48 (.tmp 11) rfl ne rfl rfl g 0 rfl #[.int .i64 s.now, .slice Ap s.present.length cp, .slice Aj s.jobs.length cj, .slice (some ⟨bw, 0, none⟩) s.workers.length cw] _ x3.out Tryz.underlying48 rfl (by kernel_rfl) ?_
      go_frame
      repeat (refine Calm.walk_quiet ne rfl rfl rfl (fun K hK => ?_); go_big_quiet_op; refine hK _ ?_; clear hK K)
      refine Calm.walk_eff rfl rfl (fun n wy hn hG _ => ?_) ?_
      · have hG' : Keep none_ W0 wy := hG
        unfold gives
        go_simp
        refine (WK.out wy hG').mono ?_
        rintro e w' ⟨rfl, k'⟩
        exact ⟨_, rfl, rfl, k', hG'.trans k', fun _ h => h.elim⟩
      intro vq wy hT
      obtain rfl : vq = .int .i64 ((k : Nat)) := hT
      clear wy
      go_frame
      intro w1 hG hD
      have k1 : Keep none_ W0 w1 := hG
      clear hG hD gd ne x1 x3 WK
      simp only [pickOps, List.filterMap_cons, List.filterMap_nil, List.getElem?_toArray, List.getElem?_cons_succ, List.getElem?_cons_zero]
      replace d0 := k1.cell d0 (fun e => e)
      replace d1 := k1.cell d1 (fun e => e)
      replace d2 := k1.cell d2 (fun e => e)
      replace g2 := k1.cell g2 (fun e => e)
      replace g3 := k1.cell g3 (fun e => e)
      have K1 := Lib.hid (K0.out.trans k1)
      have A1 := Lib.hid (HA.out.keep k1)
      have lg := A1.out.blk.lt
      have lb := A1.out.ge_
      have z1 := k1.cell c1 (fun e => e)
      clear c1
      go_wp2
      go_ret2
      exact ⟨_, _, _, _, by rw [E1.out]; rfl, by rw [E3.out]; exact ⟨rfl, .inl ⟨rfl, rfl⟩⟩, by rw [E2.out]; exact A1.out, K1.out.weak⟩
    | false =>
      rw [hd] at c1 ae
      have pe : pollE s e.worker = if 0 ≤ bsIdx s.jobs e.worker then 13 else 0 := by
        unfold pollE
        rw [ae, if_neg (by decide), bs_any]
        by_cases hb : 0 ≤ bsIdx s.jobs e.worker
        · rw [if_pos hb, decide_eq_true hb, if_pos rfl]
        · rw [if_neg hb, decide_eq_false hb, if_neg (by decide)]
      have BS := Lib.hid (fun wx (kx : Keep none_ W0 wx) => rbusy_any s _ none_ e.worker wx (ST.out.keep kx))
      have PEH := Lib.hid PE
      have PSH := Lib.hid PS
      have POH := Lib.hid PO
      have PP := Lib.hid pe
      clear hd ae pe PE PS PO
      go_enter Tryz.func85, Tryz.ntmps85
      go_upto_region 1 with (fail)
      rw [← hW0]
      clear hW0
      have gd := callCalm_good W0 5 (.int .i64 ((k : Nat)))
      have ne := callCalm_some W0 5 (.int .i64 ((k : Nat)))
      have x1 := fun y => (callCalm_at (wr := W0) (k := 5) (u := .int .i64 ((k : Nat))) y).cell d2 (fun e => e)
      have x3 := Lib.hid (fun y => rangeAt_keep HA.out.blk.rangeAt (callCalm_at (wr := W0) (k := 5) (u := .int .i64 ((k : Nat))) y) (fun e => e))
      refine wp_region_calm (callCalm W0 5 (.int .i64 ((k : Nat)))) [0, 1, 2, 3, 4, 5] [6] 205 (by kernel_rfl) (by kernel_rfl) rfl gd (Keep.refl _ _).drew ?_
      simp only [pairs, List.filterMap_cons, List.filterMap_nil, List.getElem?_toArray, List.getElem?_cons_succ, List.getElem?_cons_zero, Option.map_some]
      repeat (refine Calm.walk_quiet ne rfl rfl rfl (fun K hK => ?_); go_big_quiet_op; refine hK _ ?_; clear hK K)
      refine Calm.walk_load 48 (.tmp 11) rfl ne rfl rfl g 0 rfl #[.int .i64 s.now, .slice Ap s.present.length cp, .slice Aj s.jobs.length cj, .slice (some ⟨bw, 0, none⟩) s.workers.length cw] _ x3.out Tryz.underlying48 rfl (by kernel_rfl) ?_
      go_frame
      repeat (refine Calm.walk_quiet ne rfl rfl rfl (fun K hK => ?_); go_big_quiet_op; refine hK _ ?_; clear hK K)
      refine Calm.walk_eff rfl rfl (fun n wy hn hG _ => ?_) ?_
      · have hG' : Keep none_ W0 wy := hG
        unfold gives
        go_simp
        refine (WK.out wy hG').mono ?_
        rintro e w' ⟨rfl, k'⟩
        exact ⟨_, rfl, rfl, k', hG'.trans k', fun _ h => h.elim⟩
      intro vq wy hT
      obtain rfl : vq = .int .i64 ((k : Nat)) := hT
      clear wy
      go_frame
      intro w1 hG hD
      have k1 : Keep none_ W0 w1 := hG
      clear hG hD gd ne x1 x3 WK
      simp only [pickOps, List.filterMap_cons, List.filterMap_nil, List.getElem?_toArray, List.getElem?_cons_succ, List.getElem?_cons_zero]
      replace d0 := k1.cell d0 (fun e => e)
      replace d1 := k1.cell d1 (fun e => e)
      replace d2 := k1.cell d2 (fun e => e)
      replace g2 := k1.cell g2 (fun e => e)
      replace g3 := k1.cell g3 (fun e => e)
      have K1 := Lib.hid (K0.out.trans k1)
      have A1 := Lib.hid (HA.out.keep k1)
      have lg := A1.out.blk.lt
      have lb := A1.out.ge_
      have z1 := k1.cell c1 (fun e => e)
      have k01 := Lib.hid k1
      clear c1 k1
      go_upto_region 21 with (fail)
      clear z1 d0 g3
      have NW := Lib.hid h1
      have NZ := Lib.hid h0
      clear h0 h1
      rcases idx_cases (fun y : Jb => strEq y.worker e.worker) s.jobs with hb | ⟨m, hm, hb, -⟩
      rotate_left
      · have hb' : bsIdx s.jobs e.worker = (m : Int) := hb
        rw [hb'] at BS PP
        have P13 : pollE s e.worker = 13 := by rw [PP.out, if_pos (by omega)]
        have E1 := Lib.hid (show perE s e = 13 by rw [PEH.out, P13])
        have E2 := Lib.hid (show perS s e = s by rw [PSH.out]; unfold pollS; rw [P13, if_neg (by decide)])
        have E3 := Lib.hid (show perO s e = [] by rw [POH.out]; unfold pollO; rw [P13, if_neg (by decide)])
        clear P13
        clear hb hb' PEH PSH POH PP
        have gd := callCalm_good w1 5 (.int .i64 (m : Nat))
        have ne := callCalm_some w1 5 (.int .i64 (m : Nat))
        have x0 := fun y => (callCalm_at (wr := w1) (k := 5) (u := .int .i64 (m : Nat)) y).cell d2 (fun e => e)
        have r0 := Lib.hid (fun y => rangeAt_keep A1.out.blk.rangeAt (callCalm_at (wr := w1) (k := 5) (u := .int .i64 (m : Nat)) y) (fun e => e))
        refine wp_region_calm (callCalm w1 5 (.int .i64 (m : Nat))) [0, 1, 2, 3, 4, 5, 6] [] 205 (by kernel_rfl) (by kernel_rfl) rfl gd (Keep.refl _ _).drew ?_
        simp only [pairs, List.filterMap_cons, List.filterMap_nil, List.getElem?_toArray, List.getElem?_cons_succ, List.getElem?_cons_zero, Option.map_some]
        repeat (refine Calm.walk_quiet ne rfl rfl rfl (fun K hK => ?_); go_big_quiet_op; refine hK _ ?_; clear hK K)
        refine Calm.walk_load 48 (.tmp 83) rfl ne rfl rfl g (0) (by first | rfl | simp) #[.int .i64 s.now, .slice Ap s.present.length cp, .slice Aj s.jobs.length cj, .slice (some ⟨bw, 0, none⟩) s.workers.length cw] _ r0.out Tryz.underlying48 rfl (by kernel_rfl) ?_
        go_frame
        repeat (refine Calm.walk_quiet ne rfl rfl rfl (fun K hK => ?_); go_big_quiet_op; refine hK _ ?_; clear hK K)
        refine Calm.walk_eff rfl rfl (fun n wy hn hG _ => ?_) ?_
        · have hG' : Keep none_ w1 wy := hG
          unfold gives
          go_simp
          refine ((fun wy (hG' : Keep none_ w1 wy) => BS.out wy (k01.out.trans hG')) wy hG').mono ?_
          rintro e w' ⟨rfl, k'⟩
          exact ⟨_, rfl, rfl, k', hG'.trans k', fun _ h => h.elim⟩
        intro vq wy hT
        obtain rfl : vq = .int .i64 (m : Nat) := hT
        clear wy
        go_frame
        repeat (refine Calm.walk_quiet ne rfl rfl rfl (fun K hK => ?_); go_big_quiet_op; refine hK _ ?_; clear hK K)
        intro w2 hG hD
        have k2 : Keep none_ w1 w2 := hG
        clear hG hD gd ne x0 r0
        simp only [pickOps, List.filterMap_nil]
        go_wp2
        go_ret2
        exact ⟨_, _, _, _, by rw [E1.out]; rfl, by rw [E3.out]; exact ⟨rfl, .inl ⟨rfl, rfl⟩⟩, by rw [E2.out]; exact A1.out.keep k2, (K1.out.trans k2).weak⟩
      · have hb' : bsIdx s.jobs e.worker = -1 := hb
        rw [hb'] at BS PP
        have P0 := Lib.hid (show pollE s e.worker = 0 by rw [PP.out, if_neg (by decide)])
        have E1 := Lib.hid (show perE s e = 0 by rw [PEH.out, P0.out])
        clear hb hb' PEH PP
        have gd := callCalm_good w1 5 (.int .i64 (-1))
        have ne := callCalm_some w1 5 (.int .i64 (-1))
        have x0 := fun y => (callCalm_at (wr := w1) (k := 5) (u := .int .i64 (-1)) y).cell d2 (fun e => e)
        have r0 := Lib.hid (fun y => rangeAt_keep A1.out.blk.rangeAt (callCalm_at (wr := w1) (k := 5) (u := .int .i64 (-1)) y) (fun e => e))
        refine wp_region_calm (callCalm w1 5 (.int .i64 (-1))) [0, 1, 2, 3, 4, 5, 6] [] 205 (by kernel_rfl) (by kernel_rfl) rfl gd (Keep.refl _ _).drew ?_
        simp only [pairs, List.filterMap_cons, List.filterMap_nil, List.getElem?_toArray, List.getElem?_cons_succ, List.getElem?_cons_zero, Option.map_some]
        repeat (refine Calm.walk_quiet ne rfl rfl rfl (fun K hK => ?_); go_big_quiet_op; refine hK _ ?_; clear hK K)
        refine Calm.walk_load 48 (.tmp 83) rfl ne rfl rfl g (0) (by first | rfl | simp) #[.int .i64 s.now, .slice Ap s.present.length cp, .slice Aj s.jobs.length cj, .slice (some ⟨bw, 0, none⟩) s.workers.length cw] _ r0.out Tryz.underlying48 rfl (by kernel_rfl) ?_
        go_frame
        repeat (refine Calm.walk_quiet ne rfl rfl rfl (fun K hK => ?_); go_big_quiet_op; refine hK _ ?_; clear hK K)
        refine Calm.walk_eff rfl rfl (fun n wy hn hG _ => ?_) ?_
        · have hG' : Keep none_ w1 wy := hG
          unfold gives
          go_simp
          refine ((fun wy (hG' : Keep none_ w1 wy) => BS.out wy (k01.out.trans hG')) wy hG').mono ?_
          rintro e w' ⟨rfl, k'⟩
          exact ⟨_, rfl, rfl, k', hG'.trans k', fun _ h => h.elim⟩
        intro vq wy hT
        obtain rfl : vq = .int .i64 (-1) := hT
        clear wy
        go_frame
        repeat (refine Calm.walk_quiet ne rfl rfl rfl (fun K hK => ?_); go_big_quiet_op; refine hK _ ?_; clear hK K)
        intro w2 hG hD
        have k2 : Keep none_ w1 w2 := hG
        clear hG hD gd ne x0 r0
        simp only [pickOps, List.filterMap_nil]
        have A2 := Lib.hid (A1.out.keep k2)
        have K2 := Lib.hid (K1.out.trans k2)
        have B2 := Lib.hid (HB.out.keep (k01.out.trans k2) (fun e => e))
        have ST2 := Lib.hid (ST.out.keep (k01.out.trans k2))
        have HJ2 := Lib.hid (JobsOf.keep HJ.out (k01.out.trans k2))
        have l2 := (k01.out.trans k2).size
        clear A1 K1 k2 k01 HJ HB ST BS d1 d2 g2 HW HA K0
        obtain ⟨-, p1, p2⟩ := HJ2.out.facts
        unfold maxLen at p2
        go_upto_region 24 with (fail)
        go_loopw [7] (fun i wr => ∃ q : Nat, q ≤ s.jobs.length ∧ i = .int .i64 q ∧ (∀ m, m < q → readyK s m = false) ∧ Keep none_ w2 wr) (fun i _ => s.jobs.length - (intOf i).toNat)
        case atStart => exact ⟨0, Nat.zero_le _, rfl, fun m h => absurd h (by omega), Keep.refl _ _⟩
        case round =>
          obtain ⟨q, hq, rfl, hall, hkr⟩ := hrel
          have ALL := Lib.hid hall
          have g2 : wr.cell? ⟨g, 2, none⟩ = some (.slice Aj s.jobs.length cj) := (A2.out.blk.keep hkr (fun e => e)).cell 2
          have g0 : wr.cell? ⟨g, 0, none⟩ = some (.int .i64 s.now) := (A2.out.blk.keep hkr (fun e => e)).cell 0
          have d2 : wr.cell? ⟨w.heap.size, 2, none⟩ = some (.string e.worker) := (B2.out.keep hkr (fun e => e)).cell 2
          have KR := Lib.hid hkr
          clear hall
          by_cases hlt : q < s.jobs.length
          · have hlt' : (q : Int) < s.jobs.length := by omega
            have AR := Lib.hid (A2.out.keep hkr)
            obtain ⟨css, j1, j2, j3, j4⟩ := AR.out.jobs
            obtain ⟨bj, cap, cur, eV, hb1, hb2, hb3⟩ := own_cases j3 (by omega)
            simp only [Value.slice.injEq, true_and] at eV
            obtain ⟨rfl, rfl⟩ := eV
            obtain ⟨b', o', eA, -, hkl2, cs, hcl, hrg, vn, vi, hcs, hns, his⟩ := (JobsOf.keep HJ2.out hkr).elem q hlt
            simp only [Option.some.injEq, Addr.mk.injEq, and_true] at eA
            obtain ⟨rfl, rfl⟩ := eA
            have NA := Lib.hid (show nameAt s q = s.jobs[q].name by unfold nameAt; rw [List.getElem?_eq_getElem hlt])
            have RK := Lib.hid (show readyK s q = readyAt s s.jobs[q] by unfold readyK; rw [List.getElem?_eq_getElem hlt])
            have GS := Lib.hid (giveS_eq (x := e.worker) hlt)
            have JJ := Lib.hid (show ∃ j, j = s.jobs[q] from ⟨_, rfl⟩)
            obtain ⟨j, hj⟩ := JJ.out
            rw [← hj] at hcs hns his NA RK GS
            subst hcs
            obtain ⟨An2, nn2, cn2, rfl, hns'⟩ := hns
            obtain ⟨Ai2, ni2, ci2, rfl, hir⟩ : ∃ Ai ni ci, vi = .slice Ai ni ci ∧ ItemsOf wr none_ vi j.items := by obtain ⟨A, n, c, e, h⟩ := (id his : ItemsOf _ _ _ _); exact ⟨A, n, c, e, his⟩
            have JB := Lib.hid (show JbOf wr none_ [.string j.name, .slice An2 nn2 cn2, .string j.worker, .int .i64 j.until_, .int .i64 j.tries, .bool j.done, .slice Ai2 ni2 ci2] j from ⟨_, _, rfl, ⟨_, _, _, rfl, hns'⟩, hir⟩)
            rw [Nat.zero_add] at hrg
            have HRG := Lib.hid hrg
            have HJJ := Lib.hid hj
            have HB2 := Lib.hid hb2
            have CA := Lib.hid (fun wx (kx : Keep none_ wr wx) => rready_any s j _ #[.string j.name, .slice An2 nn2 cn2, .string j.worker, .int .i64 j.until_, .int .i64 j.tries, .bool j.done, .slice Ai2 ni2 ci2] _ _ wx ((ST2.out.keep hkr).keep kx) (JB.out.keep kx))
            clear j1 j2 j3 j4 hb3 hns' his hir hrg hcl hj JJ hkr hb2
            go_upto_region 26 with (fail)
            cases hr : readyAt s j with
            | false =>
              rw [hr] at CA
              have NX := Lib.hid (show ∀ m, m < q + 1 → readyK s m = false from fun m hm => by
                rcases Nat.lt_or_ge m q with h | h
                · exact ALL.out m h
                · rw [show m = q by omega, RK.out, hr])
              clear hr
              have gd := callCalm_good wr 10 (.bool false)
              have ne := callCalm_some wr 10 (.bool false)
              have x0 := fun y => (callCalm_at (wr := wr) (k := 10) (u := .bool false) y).cell g2 (fun e => e)
              have r0 := Lib.hid (fun y => rangeAt_keep AR.out.blk.rangeAt (callCalm_at (wr := wr) (k := 10) (u := .bool false) y) (fun e => e))
              have r1 := Lib.hid (fun y => rangeAt_keep HRG.out (callCalm_at (wr := wr) (k := 10) (u := .bool false) y) (fun e => e))
              refine wp_region_calm (callCalm wr 10 (.bool false)) [0, 1, 2, 3, 4, 5, 6, 7, 8, 9, 10] [] 205 (by kernel_rfl) (by kernel_rfl) rfl gd (Keep.refl _ _).drew ?_
              simp only [pairs, List.filterMap_cons, List.filterMap_nil, List.getElem?_toArray, List.getElem?_cons_succ, List.getElem?_cons_zero, Option.map_some]
              repeat (refine Calm.walk_quiet ne rfl rfl rfl (fun K hK => ?_); go_big_quiet_op; refine hK _ ?_; clear hK K)
              refine Calm.walk_load 48 (.tmp 99) rfl ne rfl rfl g (0) (by first | rfl | simp) #[.int .i64 s.now, .slice Ap s.present.length cp, .slice (some ⟨bj, 0, none⟩) s.jobs.length cj, .slice (some ⟨bw, 0, none⟩) s.workers.length cw] _ r0.out Tryz.underlying48 rfl (by kernel_rfl) ?_
              go_frame
              repeat (refine Calm.walk_quiet ne rfl rfl rfl (fun K hK => ?_); go_big_quiet_op; refine hK _ ?_; clear hK K)
              refine Calm.walk_load 57 (.tmp 106) rfl ne rfl rfl bj (q * 7) (by first | rfl | simp) #[.string j.name, .slice An2 nn2 cn2, .string j.worker, .int .i64 j.until_, .int .i64 j.tries, .bool j.done, .slice Ai2 ni2 ci2] _ r1.out Tryz.underlying57 rfl (by kernel_rfl) ?_
              go_frame
              repeat (refine Calm.walk_quiet ne rfl rfl rfl (fun K hK => ?_); go_big_quiet_op; refine hK _ ?_; clear hK K)
              refine Calm.walk_eff rfl rfl (fun n wy hn hG _ => ?_) ?_
              · have hG' : Keep none_ wr wy := hG
                unfold gives
                go_simp
                refine (CA.out wy hG').mono ?_
                rintro e w' ⟨rfl, k'⟩
                exact ⟨_, rfl, rfl, k', hG'.trans k', fun _ h => h.elim⟩
              intro vq wy hT
              obtain rfl : vq = .bool false := hT
              clear wy
              go_frame
              repeat (refine Calm.walk_quiet ne rfl rfl rfl (fun K hK => ?_); go_big_quiet_op; refine hK _ ?_; clear hK K)
              intro w3 hG hD
              have k3 : Keep none_ wr w3 := hG
              clear hG hD gd ne x0 r0 r1
              simp only [pickOps, List.filterMap_nil]
              go_wp2
              go_roundw
              case rel => exact ⟨q + 1, hlt, by go_num, NX.out, KR.out.trans k3⟩
              case measure => simp [intOf]; omega
            | true =>
              rw [hr] at CA
              obtain ⟨rest, hrest⟩ := readyL_first hlt ALL.out (by rw [RK.out, hr])
              have E2 := Lib.hid (show perS s e = giveS s e.worker q by rw [PSH.out]; exact pollS_cons P0.out hrest)
              have E3 := Lib.hid (show perO s e = [⟨1, j.name, e.worker⟩] by rw [POH.out, pollO_cons P0.out hrest, NA.out])
              clear hr hrest
              have gd := callCalm_good wr 10 (.bool true)
              have ne := callCalm_some wr 10 (.bool true)
              have x0 := fun y => (callCalm_at (wr := wr) (k := 10) (u := .bool true) y).cell g2 (fun e => e)
              have r0 := Lib.hid (fun y => rangeAt_keep AR.out.blk.rangeAt (callCalm_at (wr := wr) (k := 10) (u := .bool true) y) (fun e => e))
              have r1 := Lib.hid (fun y => rangeAt_keep HRG.out (callCalm_at (wr := wr) (k := 10) (u := .bool true) y) (fun e => e))
              refine wp_region_calm (callCalm wr 10 (.bool true)) [0, 1, 2, 3, 4, 5, 6, 7, 8, 9, 10] [] 205 (by kernel_rfl) (by kernel_rfl) rfl gd (Keep.refl _ _).drew ?_
              simp only [pairs, List.filterMap_cons, List.filterMap_nil, List.getElem?_toArray, List.getElem?_cons_succ, List.getElem?_cons_zero, Option.map_some]
              repeat (refine Calm.walk_quiet ne rfl rfl rfl (fun K hK => ?_); go_big_quiet_op; refine hK _ ?_; clear hK K)
              refine Calm.walk_load 48 (.tmp 99) rfl ne rfl rfl g (0) (by first | rfl | simp) #[.int .i64 s.now, .slice Ap s.present.length cp, .slice (some ⟨bj, 0, none⟩) s.jobs.length cj, .slice (some ⟨bw, 0, none⟩) s.workers.length cw] _ r0.out Tryz.underlying48 rfl (by kernel_rfl) ?_
              go_frame
              repeat (refine Calm.walk_quiet ne rfl rfl rfl (fun K hK => ?_); go_big_quiet_op; refine hK _ ?_; clear hK K)
              refine Calm.walk_load 57 (.tmp 106) rfl ne rfl rfl bj (q * 7) (by first | rfl | simp) #[.string j.name, .slice An2 nn2 cn2, .string j.worker, .int .i64 j.until_, .int .i64 j.tries, .bool j.done, .slice Ai2 ni2 ci2] _ r1.out Tryz.underlying57 rfl (by kernel_rfl) ?_
              go_frame
              repeat (refine Calm.walk_quiet ne rfl rfl rfl (fun K hK => ?_); go_big_quiet_op; refine hK _ ?_; clear hK K)
              refine Calm.walk_eff rfl rfl (fun n wy hn hG _ => ?_) ?_
              · have hG' : Keep none_ wr wy := hG
                unfold gives
                go_simp
                refine (CA.out wy hG').mono ?_
                rintro e w' ⟨rfl, k'⟩
                exact ⟨_, rfl, rfl, k', hG'.trans k', fun _ h => h.elim⟩
              intro vq wy hT
              obtain rfl : vq = .bool true := hT
              clear wy
              go_frame
              repeat (refine Calm.walk_quiet ne rfl rfl rfl (fun K hK => ?_); go_big_quiet_op; refine hK _ ?_; clear hK K)
              intro W hG hD
              have k3 : Keep none_ wr W := hG
              clear hG hD gd ne x0 r0 r1
              simp only [pickOps, List.filterMap_nil]
              go_upto_region 27 with (fail)
              replace g2 := k3.cell g2 (fun e => e)
              replace g0 := k3.cell g0 (fun e => e)
              replace d2 := k3.cell d2 (fun e => e)
              have HAx := Lib.hid (AR.out.keep k3)
              have HBx := Lib.hid (B2.out.keep (KR.out.trans k3) (fun e => e))
              have HBJ := Lib.hid (HB2.out.keep k3 (fun e => e))
              have KX := Lib.hid (K2.out.trans (KR.out.trans k3))
              have RGX := Lib.hid (rangeAt_keep HRG.out k3 (fun e => e))
              have y0 : W.cell? ⟨bj, q * 7 + 0, none⟩ = some (.string j.name) := RGX.out 0 _ rfl
              have y2 : W.cell? ⟨bj, q * 7 + 2, none⟩ = some (.string j.worker) := RGX.out 2 _ rfl
              have y3 : W.cell? ⟨bj, q * 7 + 3, none⟩ = some (.int .i64 j.until_) := RGX.out 3 _ rfl
              rw [Nat.add_zero] at y0
              have f2 := HBJ.out.frozen (q * 7 + 2)
              have f3 := HBJ.out.frozen (q * 7 + 3)
              have nov : s.now + 10 ≤ 9223372036854775807 := by have := NW.out; omega
              have nov0 : 0 ≤ s.now := NZ.out
              clear k3 AR B2 HB2 K2 KR HRG RGX JB CA ST2 HJ2 A2 ALL RK NA
              obtain ⟨W2, hW2⟩ : ∃ W2, W2 = (W.setCell ⟨bj, q * 7 + 2, none⟩ (.string e.worker)).drew := ⟨_, rfl⟩
              have k2 : Keep (one bj) W W2 := hW2 ▸ ((Keep.refl (one bj) W).setCell (p := ⟨bj, q * 7 + 2, none⟩) (.inl rfl) (.string e.worker)).drew
              have sa : ∀ (a : Addr) v, W.cell? a = some v → a.block ≠ bj → ∀ x, ((storeCalm W.drew W2 19).at_ x).cell? a = some v := fun a v ha hne x => by
                rcases store_at _ _ _ x with h | h
                · rw [h]; exact ha
                · rw [h]; exact k2.cell ha hne
              have s1 := sa _ _ d2 (HBx.out.ne_ HBJ.out (by decide))
              have s3 := sa _ _ g0 (HAx.out.blk.ne_ HBJ.out (by decide))
              have s4 := sa _ _ g2 (HAx.out.blk.ne_ HBJ.out (by decide))
              have gd := store_good W.drew W2 19
              have ne := store_some W.drew W2 19
              have HW2 := Lib.hid hW2
              have KK2 := Lib.hid k2
              clear sa k2 hW2
              refine wp_region_calm (storeCalm W.drew W2 19) [0, 1, 2, 3, 4, 5, 6, 7, 8, 9, 10, 11, 12, 13, 14, 15, 16, 17, 18, 19, 20, 21] [22] 205 (by kernel_rfl) (by kernel_rfl) rfl gd (.inl rfl) ?_
              simp only [pairs, List.filterMap_cons, List.filterMap_nil, List.getElem?_toArray, List.getElem?_cons_succ, List.getElem?_cons_zero, Option.map_some]
              repeat (refine Calm.walk_quiet ne rfl rfl rfl (fun K hK => ?_); go_big_quiet_op; refine hK _ ?_; clear hK K)
              refine Calm.walk_eff rfl rfl (fun n w1 hn hG _ => ?_) ?_
              · have e1 := store_first hn hG
                subst e1
                have e2 := HW2.out
                subst e2
                unfold gives
                go_simp
                exact ⟨rfl, ⟨rfl, by simp⟩, .inr ⟨by omega, rfl⟩, fun _ h => h.elim⟩
              rintro v w1 -
              clear w1
              go_frame
              repeat (refine Calm.walk_quiet ne rfl rfl rfl (fun K hK => ?_); go_big_quiet_op; refine hK _ ?_; clear hK K)
              intro w' hG hD
              have e2 : w' = W2 := (hD.1 19 rfl _ rfl ⟨rfl, rfl⟩).1
              subst e2
              clear hD hG gd ne s1 s3 s4
              simp only [pickOps, List.filterMap_cons, List.filterMap_nil, List.getElem?_toArray, List.getElem?_cons_succ, List.getElem?_cons_zero]
              obtain ⟨a2, -⟩ := HAx.out.setJob q hlt 2 (by decide) (.string e.worker) { s.jobs[q] with worker := e.worker } (fun cs h => by
                obtain ⟨vn, vi, rfl, g1, g2⟩ := h
                exact ⟨vn, vi, rfl, g1, g2⟩)
              have a2' := a2.keep ((Keep.refl none_ _).drew)
              have hl2 : ({ s with jobs := s.jobs.set q { s.jobs[q] with worker := e.worker } } : St).jobs.length = s.jobs.length := by simp
              have b2 : Blk w' bj 57 _ := HW2.out ▸ (HBJ.out.set_ (q * 7 + 2) (.string e.worker)).drew
              rw [← HW2.out, ← hl2] at a2'
              obtain ⟨a3, -⟩ := a2'.setJob q (by rw [hl2]; exact hlt) 3 (by decide) (.int .i64 (s.now + 10)) { s.jobs[q] with worker := e.worker, until_ := s.now + 10 } (fun cs h => by
                simp only [List.getElem_set_self] at h
                obtain ⟨vn, vi, rfl, g1, g2⟩ := h
                exact ⟨vn, vi, rfl, g1, g2⟩)
              rw [hl2] at a3
              simp only [List.set_set] at a3
              rw [← HJJ.out, ← GS.out] at a3
              have v3 : w'.cell? ⟨bj, q * 7 + 3, none⟩ = some (.int .i64 j.until_) := by
                rw [HBJ.out.cell] at y3
                rw [b2.cell, Array.getElem?_setIfInBounds_ne (by omega)]
                exact y3
              have w3 := b2.frozen (q * 7 + 3)
              have b3 := b2.set_ (q * 7 + 3) (.int .i64 (s.now + 10))
              have v0 : (w'.setCell ⟨bj, q * 7 + 3, none⟩ (.int .i64 (s.now + 10))).cell? ⟨bj, q * 7, none⟩ = some (.string j.name) := by
                rw [HBJ.out.cell] at y0
                rw [b3.cell, Array.getElem?_setIfInBounds_ne (by omega), Array.getElem?_setIfInBounds_ne (by omega)]
                exact y0
              have kb3 : Keep (one bj) W (w'.setCell ⟨bj, q * 7 + 3, none⟩ (.int .i64 (s.now + 10))) := KK2.out.setCell (p := ⟨bj, q * 7 + 3, none⟩) (.inl rfl) _
              have A3 := Lib.hid a3
              have KG3 := Lib.hid (KX.out.weak.trans (kb3.mono (fun r e => by cases e; exact hb1)))
              have dd2 := kb3.cell d2 (HBx.out.ne_ HBJ.out (by decide))
              have gg2 := kb3.cell g2 (HAx.out.blk.ne_ HBJ.out (by decide))
              clear a2 a2' b2 a3 b3 kb3 y0 y2 y3 f2 f3 d2 g0 g2 HBx HAx HBJ KK2 KX hl2
              go_upto_region 28 with (fail)
              obtain ⟨W3, hW3⟩ : ∃ W3, W3 = w'.setCell ⟨bj, q * 7 + 3, none⟩ (.int .i64 (s.now + 10)) := ⟨_, rfl⟩
              rw [← hW3] at v0 A3 KG3 dd2 gg2 ⊢
              clear hW3 v3 w3
              have lg3 := A3.out.blk.lt
              have gd := factCalm_good (wr := W3) (ks := [11]) (anc := fun _ => []) (T := fun _ v wq => madeT base 125 #[.int .i64 1, .string j.name, .string e.worker] (fun a => .slice (some a) 1 1) v wq) (fun _ _ _ _ h k => h.stable (S := none_) k fun _ e => e.elim)
              have ne := factCalm_some W3 [11] (fun _ => []) (fun _ v wq => madeT base 125 #[.int .i64 1, .string j.name, .string e.worker] (fun a => .slice (some a) 1 1) v wq)
              have x1 := fun y => (factCalm_at (wr := W3) (ks := [11]) (anc := fun _ => []) (T := fun _ v wq => madeT base 125 #[.int .i64 1, .string j.name, .string e.worker] (fun a => .slice (some a) 1 1) v wq) y).cell gg2 (fun e => e)
              have x2 := fun y => (factCalm_at (wr := W3) (ks := [11]) (anc := fun _ => []) (T := fun _ v wq => madeT base 125 #[.int .i64 1, .string j.name, .string e.worker] (fun a => .slice (some a) 1 1) v wq) y).cell v0 (fun e => e)
              have x3 := fun y => (factCalm_at (wr := W3) (ks := [11]) (anc := fun _ => []) (T := fun _ v wq => madeT base 125 #[.int .i64 1, .string j.name, .string e.worker] (fun a => .slice (some a) 1 1) v wq) y).cell dd2 (fun e => e)
              refine wp_region_calm (factCalm W3 [11] (fun _ => []) (fun _ v wq => madeT base 125 #[.int .i64 1, .string j.name, .string e.worker] (fun a => .slice (some a) 1 1) v wq)) [0, 1, 2, 3, 4, 5, 6, 7, 8, 9, 10, 11] [12, 13] 205 (by kernel_rfl) (by kernel_rfl) rfl gd (Keep.refl _ _).drew ?_
              simp only [pairs, List.filterMap_cons, List.filterMap_nil, List.getElem?_toArray, List.getElem?_cons_succ, List.getElem?_cons_zero, Option.map_some]
              repeat (refine Calm.walk_quiet ne rfl rfl rfl (fun K hK => ?_); go_big_quiet_op; refine hK _ ?_; clear hK K)
              refine Calm.walk_eff rfl rfl (fun n w5 hn hG _ => ?_) ?_
              · have hG' : Keep none_ W3 w5 := hG
                unfold gives
                go_simp
                exact ⟨⟨w5.heap.size, by have := hG'.size; omega, rfl, Blk.new _ _ _⟩, (Keep.refl _ _).alloc _, hG'.alloc _, fun _ h => h.elim⟩
              intro vq wy hT
              obtain ⟨b5, hb5, rfl, -⟩ : madeT base 125 #[.int .i64 1, .string j.name, .string e.worker] (fun a => .slice (some a) 1 1) vq wy := hT
              clear wy
              go_frame
              intro w9 hG hD
              have k9 : Keep none_ W3 w9 := hG
              have m9 : madeT base 125 #[.int .i64 1, .string j.name, .string e.worker] (fun a => .slice (some a) 1 1) (.slice (some ⟨b5, 0, none⟩) 1 1) w9 := (hD.1 11 rfl _ rfl ⟨rfl, rfl⟩).1
              have M9 := Lib.hid m9.slice
              clear hG hD gd ne x1 x2 x3 m9
              simp only [pickOps, List.filterMap_cons, List.filterMap_nil, List.getElem?_toArray, List.getElem?_cons_succ, List.getElem?_cons_zero]
              go_wp2
              go_ret2
              exact ⟨_, _, _, _, by rw [E1.out]; rfl, by rw [E3.out]; exact ⟨rfl, .inr ⟨b5, 1, _, rfl, hb5, M9.out.2, Nat.le_refl _, by decide, rfl, rfl⟩⟩, by rw [E2.out]; exact A3.out.keep k9, KG3.out.trans k9.weak⟩
          · obtain rfl : q = s.jobs.length := by omega
            have e0 := readyL_none ALL.out
            have E2 := Lib.hid (show perS s e = s by rw [PSH.out]; unfold pollS; rw [if_pos P0.out, e0])
            have E3 := Lib.hid (show perO s e = [] by rw [POH.out]; unfold pollO; rw [if_pos P0.out, e0])
            clear e0
            go_wp2
            go_ret2
            exact ⟨_, _, _, _, by rw [E1.out]; rfl, by rw [E3.out]; exact ⟨rfl, .inl ⟨rfl, rfl⟩⟩, by rw [E2.out]; exact A2.out.keep KR.out, (K2.out.trans KR.out).weak⟩
end Go.Proofs.YtnefbeplgfdkkaaGreatDoor
