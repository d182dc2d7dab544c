/-
  cutroomref37.work: fail and finish.
-/
import Derived.Test.YtnefbeplgfdkkaaGreatDoorRu36
import Derived.Test.YtnefbeplgfdkkaaGreatDoorRu12
import Derived.Test.YtnefbeplgfdkkaaGreatDoorRu30
namespace Go.Proofs.YtnefbeplgfdkkaaGreatDoor
open Go.RowKit

theorem st2 {w : World} {b i j : Nat} {t : TypeId} {cur : Array Value} {u v : Value} (x : Value) (hb : Blk w b t cur) (_h1 : w.cell? ⟨b, i, none⟩ = some u) (h2 : w.cell? ⟨b, j, none⟩ = some v) (hij : i ≠ j) :
    w.frozen? ⟨b, i, none⟩ = false ∧ (w.setCell ⟨b, i, none⟩ x).cell? ⟨b, j, none⟩ = some v ∧ (w.setCell ⟨b, i, none⟩ x).frozen? ⟨b, j, none⟩ = false := by
  refine ⟨hb.frozen i, ?_, (hb.set_ i x).frozen j⟩
  rw [hb.cell] at h2
  rw [(hb.set_ i x).cell, Array.getElem?_setIfInBounds_ne hij]
  exact h2
theorem st1 {w : World} {b i j : Nat} {t : TypeId} {cur : Array Value} {v : Value} (x : Value) (hb : Blk w b t cur) (h2 : w.cell? ⟨b, j, none⟩ = some v) (hij : i ≠ j) : (w.setCell ⟨b, i, none⟩ x).cell? ⟨b, j, none⟩ = some v := by
  rw [hb.cell] at h2
  rw [(hb.set_ i x).cell, Array.getElem?_setIfInBounds_ne hij]
  exact h2
theorem ItmOf.sub {w : World} {S S' : Nat → Prop} {cs : List Value} {x : Itm} (h : ItmOf w S cs x) (hS : ∀ b, S' b → S b) : ItmOf w S' cs x := by
  obtain ⟨u, s, e, h1, h2, h3, h4⟩ := h
  exact ⟨u, s, e, h1, h2, h3.sub hS (fun _ _ ⟨v, e, hb⟩ => ⟨v, e, hb.sub hS⟩), h4.sub hS (fun _ _ ⟨v, e, hb⟩ => ⟨v, e, hb.sub hS⟩)⟩
theorem ItmOf.one {w : World} {S : Nat → Prop} {cs : List Value} {x : Itm} (h : ItmOf w S cs x) : ∀ v ∈ cs, v.oneCell' = true := by
  obtain ⟨u, s, rfl, h1, h2, h3, h4⟩ := h
  obtain ⟨A, n, c, rfl, -⟩ := h3
  obtain ⟨A', n', c', rfl, -⟩ := h4
  intro v hv
  rcases List.mem_append.1 hv with hv | hv
  · exact h2 v hv
  · simp only [List.mem_cons, List.not_mem_nil, or_false] at hv
    rcases hv with rfl | rfl | rfl <;> rfl

set_option maxRecDepth 100000 in
set_option maxHeartbeats 2000000 in
theorem rwork_fail (X : XP) (s : St) (vp vj vw v : Value) (base g : Nat) (S : Nat → Prop) (e : Ev) (w : World) (hk : e.kind = 8) (h : RAft X w base (orr S base) g vp vj vw s) (he : EvOf w (orr S base) v e) (ht : ∀ j ∈ s.jobs, j.tries ≤ 9223372036854775806 ∧ 0 ≤ j.tries) :
    Calls Tryz.prog 85 #[.pointer (some ⟨g, 0, none⟩), v] w (RMeth3 X base S g (perE s e) (perO s e) (perS s e) w) := by
  obtain ⟨vn, vi, rfl, hns, his⟩ := he
  obtain ⟨An, nn, cn, rfl, -⟩ := hns
  obtain ⟨Ai, ni, ci, icss, rfl, hil, hicl, hic, hir, hiR⟩ := ElemsOf.rows his (by decide)
  obtain ⟨W0, hW0⟩ : ∃ W0, W0 = w.alloc (.cells #[.int .i64 e.kind, .string e.name, .string e.worker, .slice An nn cn, .int .i64 e.ticks, .slice Ai ni ci] 78) := ⟨_, rfl⟩
  have k0 : Keep none_ w W0 := hW0 ▸ (Keep.refl none_ w).alloc _
  have b0 : Blk W0 w.heap.size 78 #[.int .i64 e.kind, .string e.name, .string e.worker, .slice An nn cn, .int .i64 e.ticks, .slice Ai ni ci] := hW0 ▸ Blk.new _ _ _
  have a0 := h.keep k0
  obtain ⟨Ap, cp, rfl, -⟩ := own_row (S := none_) a0.strs (fun _ _ e => e)
  obtain ⟨Aj, cj, rfl, hj⟩ := a0.jobs.list
  obtain ⟨Aw, cw, rfl, hw⟩ := ElemsOf_wks (S := none_) a0.wks (fun _ _ e => e)
  obtain ⟨-, q1, q2⟩ := hw.facts
  unfold maxLen at q2
  have ST := Lib.hid a0.state
  have WK := Lib.hid (fun wx (kx : Keep none_ W0 wx) => rworker_any s _ none_ e.worker wx (ST.out.keep kx))
  have d0 : W0.cell? ⟨w.heap.size, 0, none⟩ = some (.int .i64 e.kind) := b0.cell 0
  have d1 : W0.cell? ⟨w.heap.size, 1, none⟩ = some (.string e.name) := b0.cell 1
  have d2 : W0.cell? ⟨w.heap.size, 2, none⟩ = some (.string e.worker) := b0.cell 2
  have g2 : W0.cell? ⟨g, 2, none⟩ = some (.slice Aj s.jobs.length cj) := a0.blk.cell 2
  have g3 : W0.cell? ⟨g, 3, none⟩ = some (.slice Aw s.workers.length cw) := a0.blk.cell 3
  have HA := Lib.hid a0
  have HB := Lib.hid b0
  have K0 := Lib.hid k0
  have HW := Lib.hid hw
  have HJ := Lib.hid hj
  clear h a0 b0 k0 hj
  have PE : perE s e = endE s e := by unfold perE; simp [hk]
  have PS : perS s e = endS s e := by unfold perS; simp [hk]
  have PO : perO s e = endO s e := by unfold perO; simp [hk]
  have DJ := Lib.hid (fun j : Jb => show doneJ j e = { j with worker := ⟨#[]⟩, until_ := 0, tries := j.tries + 1 } by unfold doneJ; simp [hk])
  have EO := Lib.hid (show (⟨if e.kind = 7 then 2 else 4, e.name, e.worker⟩ : Ot) = ⟨4, e.name, e.worker⟩ by simp [hk])
  rw [hk] at d0
  clear hk
  have JBC := Lib.hid (fun wx (kx : Keep none_ W0 wx) => rjob_any s _ none_ e.name wx (ST.out.keep kx))
  clear hir hil hicl hic hiR his
  rcases idx_cases (fun y : Wk => strEq y.name e.worker) s.workers with hi | ⟨k, hkk, hi, -⟩
  · have hi' : wkIdx s.workers e.worker = -1 := hi
    rw [hi'] at WK
    have ae : aliveE s.workers e.worker = 7 := by unfold aliveE; rw [hi']; rfl
    have pe : endE s e = 7 := by unfold endE; rw [ae]; rfl
    have E1 := Lib.hid (show perE s e = 7 by rw [PE, pe])
    have E2 := Lib.hid (show perS s e = s by rw [PS]; unfold endS; rw [pe, if_neg (by decide)])
    have E3 := Lib.hid (show perO s e = [] by rw [PO]; unfold endO; rw [pe, if_neg (by decide)])
    clear hi hi' hw PE PS PO ae pe
    go_enter Tryz.func85, Tryz.ntmps85
    go_upto_region 1 with (fail)
    rw [← hW0]
    clear hW0
    have gd := callCalm_good W0 5 (.int .i64 (-1))
    have ne := callCalm_some W0 5 (.int .i64 (-1))
    have x1 := fun y => (callCalm_at (wr := W0) (k := 5) (u := .int .i64 (-1)) y).cell d2 (fun e => e)
    have x3 := Lib.hid (fun y => rangeAt_keep HA.out.blk.rangeAt (callCalm_at (wr := W0) (k := 5) (u := .int .i64 (-1)) y) (fun e => e))
    refine wp_region_calm (callCalm W0 5 (.int .i64 (-1))) [0, 1, 2, 3, 4, 5] [6] 205 (by kernel_rfl) (by kernel_rfl) rfl gd (Keep.refl _ _).drew ?_
    simp only [pairs, List.filterMap_cons, List.filterMap_nil, List.getElem?_toArray, List.getElem?_cons_succ, List.getElem?_cons_zero, Option.map_some]
    repeat (refine Calm.walk_quiet ne rfl rfl rfl (fun K hK => ?_); go_big_quiet_op; refine hK _ ?_; clear hK K)
    refine Calm.walk_load 48 (.tmp 11) rfl ne rfl rfl g 0 rfl #[.int .i64 s.now, .slice Ap s.present.length cp, .slice Aj s.jobs.length cj, .slice Aw s.workers.length cw] _ x3.out Tryz.underlying48 rfl (by kernel_rfl) ?_
    go_frame
    repeat (refine Calm.walk_quiet ne rfl rfl rfl (fun K hK => ?_); go_big_quiet_op; refine hK _ ?_; clear hK K)
    refine Calm.walk_eff rfl rfl (fun n wy hn hG _ => ?_) ?_
    · have hG' : Keep none_ W0 wy := hG
      unfold gives
      go_simp
      refine (WK.out wy hG').mono ?_
      rintro e w' ⟨rfl, k'⟩
      exact ⟨_, rfl, rfl, k', hG'.trans k', fun _ h => h.elim⟩
    intro vq wy hT
    obtain rfl : vq = .int .i64 (-1) := hT
    clear wy
    go_frame
    intro w1 hG hD
    have k1 : Keep none_ W0 w1 := hG
    clear hG hD gd ne x1 x3 WK
    simp only [pickOps, List.filterMap_cons, List.filterMap_nil, List.getElem?_toArray, List.getElem?_cons_succ, List.getElem?_cons_zero]
    replace d0 := k1.cell d0 (fun e => e)
    replace d1 := k1.cell d1 (fun e => e)
    replace d2 := k1.cell d2 (fun e => e)
    replace g2 := k1.cell g2 (fun e => e)
    replace g3 := k1.cell g3 (fun e => e)
    have K1 := Lib.hid (K0.out.trans k1)
    have A1 := Lib.hid (HA.out.keep k1)
    have lg := A1.out.blk.lt
    have lb := A1.out.ge_
    go_wp2
    go_ret2
    exact ⟨_, _, _, _, by rw [E1.out]; rfl, by rw [E3.out]; exact ⟨rfl, .inl ⟨rfl, rfl⟩⟩, by rw [E2.out]; exact A1.out.fin, K1.out.weak⟩
  · have hi' : wkIdx s.workers e.worker = (k : Int) := hi
    rw [hi'] at WK
    have ae : aliveE s.workers e.worker = if s.workers[k].dead then 14 else 0 := by
      unfold aliveE
      rw [hi', if_neg (by omega), Int.toNat_natCast, List.getElem?_eq_getElem hkk]
    obtain ⟨bw, ow, rfl, -, hkl, cs, -, hrg, hcs⟩ := hw.elem k hkk
    generalize s.workers[k] = y at hcs ae
    subst hcs
    have c1 : W0.cell? ⟨bw, ow + k * 2 + 1, none⟩ = some (.bool y.dead) := hrg 1 _ rfl
    obtain ⟨ba, capw, curw, eVw, -⟩ := own_cases HA.out.wks (by omega)
    simp only [Value.slice.injEq, Option.some.injEq, Addr.mk.injEq, and_true, true_and] at eVw
    obtain ⟨⟨rfl, rfl⟩, rfl⟩ := eVw
    rw [Nat.zero_add] at c1
    have hkn' : (k : Int) < s.workers.length := by omega
    clear hi hi' hrg hw
    cases hd : y.dead with
    | true =>
      rw [hd] at c1 ae
      have pe : endE s e = 14 := by unfold endE; rw [ae]; rfl
      have E1 := Lib.hid (show perE s e = 14 by rw [PE, pe])
      have E2 := Lib.hid (show perS s e = s by rw [PS]; unfold endS; rw [pe, if_neg (by decide)])
      have E3 := Lib.hid (show perO s e = [] by rw [PO]; unfold endO; rw [pe, if_neg (by decide)])
      clear hd ae pe PE PS PO
      go_enter Tryz.func85, Tryz.ntmps85
      go_upto_region 1 with (fail)
      rw [← hW0]
      clear hW0
      have gd := callCalm_good W0 5 (.int .i64 ((k : Nat)))
      have ne := callCalm_some W0 5 (.int .i64 ((k : Nat)))
      have x1 := fun y => (callCalm_at (wr := W0) (k := 5) (u := .int .i64 ((k : Nat))) y).cell d2 (fun e => e)
      have x3 := Lib.hid (fun y => rangeAt_keep HA.out.blk.rangeAt (callCalm_at (wr := W0) (k := 5) (u := .int .i64 ((k : Nat))) y) (fun e => e))
      refine wp_region_calm (callCalm W0 5 (.int .i64 ((k : Nat)))) [0, 1, 2, 3, 4, 5] [6] 205 (by kernel_rfl) (by kernel_rfl) rfl gd (Keep.refl _ _).drew ?_
      simp only [pairs, List.filterMap_cons, List.filterMap_nil, List.getElem?_toArray, List.getElem?_cons_succ, List.getElem?_cons_zero, Option.map_some]
      repeat (refine Calm.walk_quiet ne rfl rfl rfl (fun K hK => ?_); go_big_quiet_op; refine hK _ ?_; clear hK K)
      refine Calm.walk_load 48 (.tmp 11) rfl ne rfl rfl g 0 rfl #[.int .i64 s.now, .slice Ap s.present.length cp, .slice Aj s.jobs.length cj, .slice (some ⟨bw, 0, none⟩) s.workers.length cw] _ x3.out Tryz.underlying48 rfl (by kernel_rfl) ?_
      go_frame
      repeat (refine Calm.walk_quiet ne rfl rfl rfl (fun K hK => ?_); go_big_quiet_op; refine hK _ ?_; clear hK K)
      refine Calm.walk_eff rfl rfl (fun n wy hn hG _ => ?_) ?_
      · have hG' : Keep none_ W0 wy := hG
        unfold gives
        go_simp
        refine (WK.out wy hG').mono ?_
        rintro e w' ⟨rfl, k'⟩
        exact ⟨_, rfl, rfl, k', hG'.trans k', fun _ h => h.elim⟩
      intro vq wy hT
      obtain rfl : vq = .int .i64 ((k : Nat)) := hT
      clear wy
      go_frame
      intro w1 hG hD
      have k1 : Keep none_ W0 w1 := hG
      clear hG hD gd ne x1 x3 WK
      simp only [pickOps, List.filterMap_cons, List.filterMap_nil, List.getElem?_toArray, List.getElem?_cons_succ, List.getElem?_cons_zero]
      replace d0 := k1.cell d0 (fun e => e)
      replace d1 := k1.cell d1 (fun e => e)
      replace d2 := k1.cell d2 (fun e => e)
      replace g2 := k1.cell g2 (fun e => e)
      replace g3 := k1.cell g3 (fun e => e)
      have K1 := Lib.hid (K0.out.trans k1)
      have A1 := Lib.hid (HA.out.keep k1)
      have lg := A1.out.blk.lt
      have lb := A1.out.ge_
      have z1 := k1.cell c1 (fun e => e)
      clear c1
      go_wp2
      go_ret2
      exact ⟨_, _, _, _, by rw [E1.out]; rfl, by rw [E3.out]; exact ⟨rfl, .inl ⟨rfl, rfl⟩⟩, by rw [E2.out]; exact A1.out.fin, K1.out.weak⟩
    | false =>
      rw [hd] at c1 ae
      have pe : endE s e = if jbIdx s.jobs e.name < 0 then 7 else match s.jobs[(jbIdx s.jobs e.name).toNat]? with
        | some j => if strEq j.worker e.worker then 0 else 13
        | none => 7 := by
        unfold endE
        rw [ae, if_neg (by decide)]
        rfl
      have PEH := Lib.hid PE
      have PSH := Lib.hid PS
      have POH := Lib.hid PO
      have PP := Lib.hid pe
      have TR := Lib.hid ht
      clear hd ae pe PE PS PO ht
      go_enter Tryz.func85, Tryz.ntmps85
      go_upto_region 1 with (fail)
      rw [← hW0]
      clear hW0
      have gd := callCalm_good W0 5 (.int .i64 ((k : Nat)))
      have ne := callCalm_some W0 5 (.int .i64 ((k : Nat)))
      have x1 := fun y => (callCalm_at (wr := W0) (k := 5) (u := .int .i64 ((k : Nat))) y).cell d2 (fun e => e)
      have x3 := Lib.hid (fun y => rangeAt_keep HA.out.blk.rangeAt (callCalm_at (wr := W0) (k := 5) (u := .int .i64 ((k : Nat))) y) (fun e => e))
      refine wp_region_calm (callCalm W0 5 (.int .i64 ((k : Nat)))) [0, 1, 2, 3, 4, 5] [6] 205 (by kernel_rfl) (by kernel_rfl) rfl gd (Keep.refl _ _).drew ?_
      simp only [pairs, List.filterMap_cons, List.filterMap_nil, List.getElem?_toArray, List.getElem?_cons_succ, List.getElem?_cons_zero, Option.map_some]
      repeat (refine Calm.walk_quiet ne rfl rfl rfl (fun K hK => ?_); go_big_quiet_op; refine hK _ ?_; clear hK K)
      refine Calm.walk_load 48 (.tmp 11) rfl ne rfl rfl g 0 rfl #[.int .i64 s.now, .slice Ap s.present.length cp, .slice Aj s.jobs.length cj, .slice (some ⟨bw, 0, none⟩) s.workers.length cw] _ x3.out Tryz.underlying48 rfl (by kernel_rfl) ?_
      go_frame
      repeat (refine Calm.walk_quiet ne rfl rfl rfl (fun K hK => ?_); go_big_quiet_op; refine hK _ ?_; clear hK K)
      refine Calm.walk_eff rfl rfl (fun n wy hn hG _ => ?_) ?_
      · have hG' : Keep none_ W0 wy := hG
        unfold gives
        go_simp
        refine (WK.out wy hG').mono ?_
        rintro e w' ⟨rfl, k'⟩
        exact ⟨_, rfl, rfl, k', hG'.trans k', fun _ h => h.elim⟩
      intro vq wy hT
      obtain rfl : vq = .int .i64 ((k : Nat)) := hT
      clear wy
      go_frame
      intro w1 hG hD
      have k1 : Keep none_ W0 w1 := hG
      clear hG hD gd ne x1 x3 WK
      simp only [pickOps, List.filterMap_cons, List.filterMap_nil, List.getElem?_toArray, List.getElem?_cons_succ, List.getElem?_cons_zero]
      replace d0 := k1.cell d0 (fun e => e)
      replace d1 := k1.cell d1 (fun e => e)
      replace d2 := k1.cell d2 (fun e => e)
      replace g2 := k1.cell g2 (fun e => e)
      replace g3 := k1.cell g3 (fun e => e)
      have K1 := Lib.hid (K0.out.trans k1)
      have A1 := Lib.hid (HA.out.keep k1)
      have lg := A1.out.blk.lt
      have lb := A1.out.ge_
      have z1 := k1.cell c1 (fun e => e)
      have k01 := Lib.hid k1
      clear c1 k1
      go_upto_region 30 with (fail)
      clear z1 g3
      rcases idx_cases (fun y : Jb => strEq y.name e.name) s.jobs with hb | ⟨q, hq, hb, hqn⟩
      · have hb' : jbIdx s.jobs e.name = -1 := hb
        rw [hb'] at JBC PP
        have P7 : endE s e = 7 := by rw [PP.out, if_pos (by decide)]
        have E1 := Lib.hid (show perE s e = 7 by rw [PEH.out, P7])
        have E2 := Lib.hid (show perS s e = s by rw [PSH.out]; unfold endS; rw [P7, if_neg (by decide)])
        have E3 := Lib.hid (show perO s e = [] by rw [POH.out]; unfold endO; rw [P7, if_neg (by decide)])
        clear hb hb' PEH PSH POH PP P7
        have gd := callCalm_good w1 5 (.int .i64 (-1))
        have ne := callCalm_some w1 5 (.int .i64 (-1))
        have x0 := fun y => (callCalm_at (wr := w1) (k := 5) (u := .int .i64 (-1)) y).cell d1 (fun e => e)
        have r0 := Lib.hid (fun y => rangeAt_keep A1.out.blk.rangeAt (callCalm_at (wr := w1) (k := 5) (u := .int .i64 (-1)) y) (fun e => e))
        refine wp_region_calm (callCalm w1 5 (.int .i64 (-1))) [0, 1, 2, 3, 4, 5] [6] 205 (by kernel_rfl) (by kernel_rfl) rfl gd (Keep.refl _ _).drew ?_
        simp only [pairs, List.filterMap_cons, List.filterMap_nil, List.getElem?_toArray, List.getElem?_cons_succ, List.getElem?_cons_zero, Option.map_some]
        repeat (refine Calm.walk_quiet ne rfl rfl rfl (fun K hK => ?_); go_big_quiet_op; refine hK _ ?_; clear hK K)
        refine Calm.walk_load 48 (.tmp 143) rfl ne rfl rfl g (0) (by first | rfl | simp) #[.int .i64 s.now, .slice Ap s.present.length cp, .slice Aj s.jobs.length cj, .slice (some ⟨bw, 0, none⟩) s.workers.length cw] _ r0.out Tryz.underlying48 rfl (by kernel_rfl) ?_
        go_frame
        repeat (refine Calm.walk_quiet ne rfl rfl rfl (fun K hK => ?_); go_big_quiet_op; refine hK _ ?_; clear hK K)
        refine Calm.walk_eff rfl rfl (fun n wy hn hG _ => ?_) ?_
        · have hG' : Keep none_ w1 wy := hG
          unfold gives
          go_simp
          refine ((fun wy (hG' : Keep none_ w1 wy) => JBC.out wy (k01.out.trans hG')) wy hG').mono ?_
          rintro e w' ⟨rfl, k'⟩
          exact ⟨_, rfl, rfl, k', hG'.trans k', fun _ h => h.elim⟩
        intro vq wy hT
        obtain rfl : vq = .int .i64 (-1) := hT
        clear wy
        go_frame
        repeat (refine Calm.walk_quiet ne rfl rfl rfl (fun K hK => ?_); go_big_quiet_op; refine hK _ ?_; clear hK K)
        intro w2 hG hD
        have k2 : Keep none_ w1 w2 := hG
        clear hG hD gd ne x0 r0
        simp only [pickOps, List.filterMap_cons, List.filterMap_nil, List.getElem?_toArray, List.getElem?_cons_succ, List.getElem?_cons_zero]
        go_wp2
        go_ret2
        exact ⟨_, _, _, _, by rw [E1.out]; rfl, by rw [E3.out]; exact ⟨rfl, .inl ⟨rfl, rfl⟩⟩, by rw [E2.out]; exact (A1.out.keep k2).fin, (K1.out.trans k2).weak⟩
      · have hb' : jbIdx s.jobs e.name = (q : Int) := hb
        rw [hb'] at JBC PP
        have gj : s.jobs[q]? = some s.jobs[q] := List.getElem?_eq_getElem hq
        have P1 : endE s e = if strEq s.jobs[q].worker e.worker then 0 else 13 := by
          rw [PP.out, if_neg (by omega), Int.toNat_natCast, gj]
        have ES := Lib.hid (fun h : endE s e = 0 => show endS s e = { s with jobs := s.jobs.set q (doneJ s.jobs[q] e) } by unfold endS; rw [if_pos h, hb', Int.toNat_natCast, gj])
        obtain ⟨b', o', eA, -, hkl2, cs, -, hrg, jn, ji, hcs, hjn, -⟩ := HJ.out.elem q hq
        obtain ⟨css, j1, j2, j3, j4⟩ := HA.out.jobs
        obtain ⟨b, cap, cur, eV, hb1, hb2, hb3⟩ := own_cases j3 (by omega)
        simp only [Value.slice.injEq, true_and] at eV
        obtain ⟨rfl, rfl⟩ := eV
        simp only [Option.some.injEq, Addr.mk.injEq, and_true] at eA
        obtain ⟨rfl, rfl⟩ := eA
        have tr := TR.out _ (List.getElem_mem hq)
        have NM := Lib.hid (strEq_iff.1 hqn)
        obtain ⟨j, hj⟩ : ∃ j, j = s.jobs[q] := ⟨_, rfl⟩
        rw [← hj] at hcs tr P1 ES NM hjn
        subst hcs
        have y0 : W0.cell? ⟨b, 0 + q * 7 + 0, none⟩ = some (.string j.name) := hrg 0 _ rfl
        have y2 : W0.cell? ⟨b, 0 + q * 7 + 2, none⟩ = some (.string j.worker) := hrg 2 _ rfl
        have y3 : W0.cell? ⟨b, 0 + q * 7 + 3, none⟩ = some (.int .i64 j.until_) := hrg 3 _ rfl
        have y4 : W0.cell? ⟨b, 0 + q * 7 + 4, none⟩ = some (.int .i64 j.tries) := hrg 4 _ rfl
        have y5 : W0.cell? ⟨b, 0 + q * 7 + 5, none⟩ = some (.bool j.done) := hrg 5 _ rfl
        have y6 : W0.cell? ⟨b, 0 + q * 7 + 6, none⟩ = some ji := hrg 6 _ rfl
        rw [Nat.zero_add] at y0 y2 y3 y4 y5 y6
        rw [Nat.add_zero] at y0
        have hqn' : (q : Int) < s.jobs.length := by omega
        have HJJ := Lib.hid hj
        have HP1 := Lib.hid P1
        have HBJ := Lib.hid hb2
        have TR1 := Lib.hid tr
        clear hb hb' gj hrg hjn j1 j2 j3 j4 hb3 hj P1 PP hb2 tr TR HJ hqn
        have gd := callCalm_good w1 5 (.int .i64 (q : Nat))
        have ne := callCalm_some w1 5 (.int .i64 (q : Nat))
        have x0 := fun y => (callCalm_at (wr := w1) (k := 5) (u := .int .i64 (q : Nat)) y).cell d1 (fun e => e)
        have r0 := Lib.hid (fun y => rangeAt_keep A1.out.blk.rangeAt (callCalm_at (wr := w1) (k := 5) (u := .int .i64 (q : Nat)) y) (fun e => e))
        refine wp_region_calm (callCalm w1 5 (.int .i64 (q : Nat))) [0, 1, 2, 3, 4, 5] [6] 205 (by kernel_rfl) (by kernel_rfl) rfl gd (Keep.refl _ _).drew ?_
        simp only [pairs, List.filterMap_cons, List.filterMap_nil, List.getElem?_toArray, List.getElem?_cons_succ, List.getElem?_cons_zero, Option.map_some]
        repeat (refine Calm.walk_quiet ne rfl rfl rfl (fun K hK => ?_); go_big_quiet_op; refine hK _ ?_; clear hK K)
        refine Calm.walk_load 48 (.tmp 143) rfl ne rfl rfl g (0) (by first | rfl | simp) #[.int .i64 s.now, .slice Ap s.present.length cp, .slice (some ⟨b, 0, none⟩) s.jobs.length cj, .slice (some ⟨bw, 0, none⟩) s.workers.length cw] _ r0.out Tryz.underlying48 rfl (by kernel_rfl) ?_
        go_frame
        repeat (refine Calm.walk_quiet ne rfl rfl rfl (fun K hK => ?_); go_big_quiet_op; refine hK _ ?_; clear hK K)
        refine Calm.walk_eff rfl rfl (fun n wy hn hG _ => ?_) ?_
        · have hG' : Keep none_ w1 wy := hG
          unfold gives
          go_simp
          refine ((fun wy (hG' : Keep none_ w1 wy) => JBC.out wy (k01.out.trans hG')) wy hG').mono ?_
          rintro e w' ⟨rfl, k'⟩
          exact ⟨_, rfl, rfl, k', hG'.trans k', fun _ h => h.elim⟩
        intro vq wy hT
        obtain rfl : vq = .int .i64 (q : Nat) := hT
        clear wy
        go_frame
        repeat (refine Calm.walk_quiet ne rfl rfl rfl (fun K hK => ?_); go_big_quiet_op; refine hK _ ?_; clear hK K)
        intro w2 hG hD
        have k2 : Keep none_ w1 w2 := hG
        clear hG hD gd ne x0 r0
        simp only [pickOps, List.filterMap_cons, List.filterMap_nil, List.getElem?_toArray, List.getElem?_cons_succ, List.getElem?_cons_zero]
        have k02 := k01.out.trans k2
        have A2 := Lib.hid (A1.out.keep k2)
        have K2 := Lib.hid (K1.out.trans k2)
        have B2 := Lib.hid (HB.out.keep k02 (fun e => e))
        have BJ2 := Lib.hid (HBJ.out.keep k02 (fun e => e))
        replace d0 := k2.cell d0 (fun e => e)
        replace d2 := k2.cell d2 (fun e => e)
        replace g2 := k2.cell g2 (fun e => e)
        replace y0 := k02.cell y0 (fun e => e)
        replace y2 := k02.cell y2 (fun e => e)
        replace y3 := k02.cell y3 (fun e => e)
        replace y4 := k02.cell y4 (fun e => e)
        replace y5 := k02.cell y5 (fun e => e)
        replace y6 := k02.cell y6 (fun e => e)
        clear d1 A1 K1 HB HA HBJ k2 k02 k01 JBC ST HW K0
        go_upto_region 34 with (fail)
        cases hs : strEq j.worker e.worker with
        | false =>
          have P13 : endE s e = 13 := by rw [HP1.out, hs]; rfl
          have E1 := Lib.hid (show perE s e = 13 by rw [PEH.out, P13])
          have E2 := Lib.hid (show perS s e = s by rw [PSH.out]; unfold endS; rw [P13, if_neg (by decide)])
          have E3 := Lib.hid (show perO s e = [] by rw [POH.out]; unfold endO; rw [P13, if_neg (by decide)])
          have hs' : (j.worker.toList == e.worker.toList) = false := hs
          clear hs P13 PEH PSH POH
          have gd := still_good (w2).drew
          have ne := still_some (w2).drew
          have hx := still_at (w2).drew
          refine wp_region_calm (stillCalm (w2).drew) [0, 1, 2, 3, 4, 5, 6] [] 205 (by kernel_rfl) (by kernel_rfl) rfl gd rfl ?_
          simp only [pairs, List.filterMap_cons, List.filterMap_nil, List.getElem?_toArray, List.getElem?_cons_succ, List.getElem?_cons_zero, Option.map_some]
          repeat (refine Calm.walk_quiet ne rfl rfl rfl (fun K hK => ?_); go_big_quiet_op; refine hK _ ?_; clear hK K)
          intro w' hR _
          obtain rfl : w' = (w2).drew := hR.symm
          simp only [pickOps, List.filterMap_nil]
          clear gd ne hx hR
          go_wp2
          go_ret2
          exact ⟨_, _, _, _, by rw [E1.out]; rfl, by rw [E3.out]; exact ⟨rfl, .inl ⟨rfl, rfl⟩⟩, by rw [E2.out]; exact (A2.out.keep (Keep.refl none_ _).drew).fin, K2.out.drew.weak⟩
        | true =>
          have P0 : endE s e = 0 := by rw [HP1.out, hs]; rfl
          have E1 := Lib.hid (show perE s e = 0 by rw [PEH.out, P0])
          have E2 := Lib.hid (show perS s e = { s with jobs := s.jobs.set q ({ j with worker := ⟨#[]⟩, until_ := 0, tries := j.tries + 1 }) } by rw [PSH.out, ES.out P0, DJ.out j])
          have E3 := Lib.hid (show perO s e = [⟨4, j.name, e.worker⟩] by rw [POH.out]; unfold endO; rw [if_pos P0, EO.out, NM.out])
          have hs' : (j.worker.toList == e.worker.toList) = true := hs
          have EW := Lib.hid (strEq_iff.1 hs)
          clear hs P0 PEH PSH POH ES DJ EO NM
          have gd := still_good (w2).drew
          have ne := still_some (w2).drew
          have hx := still_at (w2).drew
          refine wp_region_calm (stillCalm (w2).drew) [0, 1, 2, 3, 4, 5, 6] [] 205 (by kernel_rfl) (by kernel_rfl) rfl gd rfl ?_
          simp only [pairs, List.filterMap_cons, List.filterMap_nil, List.getElem?_toArray, List.getElem?_cons_succ, List.getElem?_cons_zero, Option.map_some]
          repeat (refine Calm.walk_quiet ne rfl rfl rfl (fun K hK => ?_); go_big_quiet_op; refine hK _ ?_; clear hK K)
          intro w' hR _
          obtain rfl : w' = (w2).drew := hR.symm
          simp only [pickOps, List.filterMap_nil]
          clear gd ne hx hR
          obtain ⟨w4, hw4⟩ : ∃ w4, w4 = w2.drew := ⟨_, rfl⟩
          have k4 : Keep none_ w2 w4 := hw4 ▸ (Keep.refl none_ _).drew
          rw [← hw4]
          clear hw4 hs'
          have A4 := Lib.hid (A2.out.keep k4)
          have K4 := Lib.hid (K2.out.trans k4)
          have B4 := Lib.hid (B2.out.keep k4 (fun e => e))
          have BJ4 := Lib.hid (BJ2.out.keep k4 (fun e => e))
          replace d0 := k4.cell d0 (fun e => e)
          replace d2 := k4.cell d2 (fun e => e)
          replace y0 := k4.cell y0 (fun e => e)
          replace y2 := k4.cell y2 (fun e => e)
          replace y3 := k4.cell y3 (fun e => e)
          replace y4 := k4.cell y4 (fun e => e)
          replace y5 := k4.cell y5 (fun e => e)
          replace y6 := k4.cell y6 (fun e => e)
          clear k4 A2 K2 B2 BJ2 g2
          obtain ⟨f2, p3, f3⟩ := st2 (.string ⟨#[]⟩) BJ4.out y2 y3 (by omega)
          obtain ⟨a8, -⟩ := A4.out.setJob q hq 2 (by decide) (.string ⟨#[]⟩) { j with worker := ⟨#[]⟩ } (fun cs h => by
            rw [← HJJ.out] at h
            obtain ⟨vn, vi, rfl, g1, g2⟩ := h
            exact ⟨vn, vi, rfl, g1, g2⟩)
          have hl8 : ({ s with jobs := s.jobs.set q { j with worker := ⟨#[]⟩ } } : St).jobs.length = s.jobs.length := by simp
          rw [← hl8] at a8
          obtain ⟨a9, -⟩ := a8.setJob q (by rw [hl8]; exact hq) 3 (by decide) (.int .i64 0) { j with worker := ⟨#[]⟩, until_ := 0 } (fun cs h => by
            simp only [List.getElem_set_self] at h
            obtain ⟨vn, vi, rfl, g1, g2⟩ := h
            exact ⟨vn, vi, rfl, g1, g2⟩)
          simp only [List.set_set] at a9
          rw [hl8] at a9
          have b8 := BJ4.out.set_ (q * 7 + 2) (.string ⟨#[]⟩)
          have b9 := b8.set_ (q * 7 + 3) (.int .i64 0)
          have r0 := st1 (.int .i64 0) b8 (st1 (.string ⟨#[]⟩) BJ4.out y0 (show q * 7 + 2 ≠ q * 7 by omega)) (show q * 7 + 3 ≠ q * 7 by omega)
          have r4 := st1 (.int .i64 0) b8 (st1 (.string ⟨#[]⟩) BJ4.out y4 (show q * 7 + 2 ≠ q * 7 + 4 by omega)) (show q * 7 + 3 ≠ q * 7 + 4 by omega)
          have r5 := st1 (.int .i64 0) b8 (st1 (.string ⟨#[]⟩) BJ4.out y5 (show q * 7 + 2 ≠ q * 7 + 5 by omega)) (show q * 7 + 3 ≠ q * 7 + 5 by omega)
          have r6 := st1 (.int .i64 0) b8 (st1 (.string ⟨#[]⟩) BJ4.out y6 (show q * 7 + 2 ≠ q * 7 + 6 by omega)) (show q * 7 + 3 ≠ q * 7 + 6 by omega)
          have kb5 : Keep (one b) w4 ((w4.setCell ⟨b, q * 7 + 2, none⟩ (.string ⟨#[]⟩)).setCell ⟨b, q * 7 + 3, none⟩ (.int .i64 0)) := ((Keep.refl (one b) w4).setCell (p := ⟨b, q * 7 + 2, none⟩) (.inl rfl) _).setCell (p := ⟨b, q * 7 + 3, none⟩) (.inl rfl) _
          obtain ⟨w5, hw5⟩ : ∃ w5, w5 = (w4.setCell ⟨b, q * 7 + 2, none⟩ (.string ⟨#[]⟩)).setCell ⟨b, q * 7 + 3, none⟩ (.int .i64 0) := ⟨_, rfl⟩
          rw [← hw5] at a9 b9 r0 r4 r5 r6 kb5
          have neb : ¬ one b w.heap.size := fun e => B4.out.ne_ BJ4.out (by decide) e
          have d0' := kb5.cell d0 neb
          have d2' := kb5.cell d2 neb
          have A5 := Lib.hid a9
          have K5 := Lib.hid (K4.out.weak.trans (kb5.mono (fun x e => by cases e; exact hb1)))
          have B5 := Lib.hid (B4.out.keep kb5 neb)
          have BJ5 := Lib.hid b9
          go_upto_region 37 with (fail)
          rw [← hw5]
          clear hw5 y0 y2 y3 y4 y5 y6 f2 p3 f3 b8 b9 a8 a9 hl8 kb5 neb d0 d2 A4 K4 B4 BJ4
          obtain ⟨tr1, tr2⟩ := TR1.out
          have f4 := BJ5.out.frozen (q * 7 + 4)
          have hl9 : ({ s with jobs := s.jobs.set q { j with worker := ⟨#[]⟩, until_ := 0 } } : St).jobs.length = s.jobs.length := by simp
          have a5 := A5.out
          rw [← hl9] at a5
          obtain ⟨aA, qA⟩ := a5.setJob q (by rw [hl9]; exact hq) 4 (by decide) (.int .i64 (j.tries + 1)) { j with worker := ⟨#[]⟩, until_ := 0, tries := j.tries + 1 } (fun cs h => by
            simp only [List.getElem_set_self] at h
            obtain ⟨vn, vi, rfl, g1, g2⟩ := h
            exact ⟨vn, vi, rfl, g1, g2⟩)
          simp only [List.set_set] at aA
          rw [hl9] at aA
          have kbA : Keep (one b) w5 (w5.setCell ⟨b, q * 7 + 4, none⟩ (.int .i64 (j.tries + 1))) := (Keep.refl (one b) w5).setCell (p := ⟨b, q * 7 + 4, none⟩) (.inl rfl) _
          have v0 := st1 (.int .i64 (j.tries + 1)) BJ5.out r0 (show q * 7 + 4 ≠ q * 7 by omega)
          have neb : ¬ one b w.heap.size := fun e => B5.out.ne_ BJ5.out (by decide) e
          have dd2 := kbA.cell d2' neb
          obtain ⟨W3, hW3⟩ : ∃ W3, W3 = w5.setCell ⟨b, q * 7 + 4, none⟩ (.int .i64 (j.tries + 1)) := ⟨_, rfl⟩
          rw [← hW3] at aA qA v0 dd2
          have A3 := Lib.hid aA
          have KG3 := Lib.hid (K5.out.trans qA)
          go_upto_region 39 with (fail)
          rw [← hW3]
          clear hW3 aA qA kbA neb a5 hl9 f4 r0 r4 r5 r6 d0' d2' A5 K5 B5 BJ5 tr1 tr2
          have lg3 := A3.out.blk.lt
          have lb3 := A3.out.ge_
          have gd := factCalm_good (wr := W3) (ks := [7]) (anc := fun _ => []) (T := (fun _ v wq => madeT base 125 #[.int .i64 4, .string j.name, .string e.worker] (fun a => .slice (some a) 1 1) v wq)) (fun _ _ _ _ h k => h.stable (S := none_) k fun _ e => e.elim)
          have ne := factCalm_some W3 [7] (fun _ => []) (fun _ v wq => madeT base 125 #[.int .i64 4, .string j.name, .string e.worker] (fun a => .slice (some a) 1 1) v wq)
          have x1 := fun y => (factCalm_at (wr := W3) (ks := [7]) (anc := fun _ => []) (T := (fun _ v wq => madeT base 125 #[.int .i64 4, .string j.name, .string e.worker] (fun a => .slice (some a) 1 1) v wq)) y).cell v0 (fun e => e)
          have x3 := fun y => (factCalm_at (wr := W3) (ks := [7]) (anc := fun _ => []) (T := (fun _ v wq => madeT base 125 #[.int .i64 4, .string j.name, .string e.worker] (fun a => .slice (some a) 1 1) v wq)) y).cell dd2 (fun e => e)
          refine wp_region_calm (factCalm W3 [7] (fun _ => []) (fun _ v wq => madeT base 125 #[.int .i64 4, .string j.name, .string e.worker] (fun a => .slice (some a) 1 1) v wq)) [0, 1, 2, 3, 4, 5, 6, 7] [8, 9] 205 (by kernel_rfl) (by kernel_rfl) rfl gd (Keep.refl _ _).drew ?_
          simp only [pairs, List.filterMap_cons, List.filterMap_nil, List.getElem?_toArray, List.getElem?_cons_succ, List.getElem?_cons_zero, Option.map_some]
          repeat (refine Calm.walk_quiet ne rfl rfl rfl (fun K hK => ?_); go_big_quiet_op; refine hK _ ?_; clear hK K)
          refine Calm.walk_eff rfl rfl (fun n w5 hn hG _ => ?_) ?_
          · have hG' : Keep none_ W3 w5 := hG
            unfold gives
            go_simp
            exact ⟨⟨w5.heap.size, by have := hG'.size; omega, rfl, Blk.new _ _ _⟩, (Keep.refl _ _).alloc _, hG'.alloc _, fun _ h => h.elim⟩
          intro vq wy hT
          obtain ⟨b5, hb5, rfl, -⟩ : madeT base 125 #[.int .i64 4, .string j.name, .string e.worker] (fun a => .slice (some a) 1 1) vq wy := hT
          clear wy
          go_frame
          intro w9 hG hD
          have k9 : Keep none_ W3 w9 := hG
          have m9 : madeT base 125 #[.int .i64 4, .string j.name, .string e.worker] (fun a => .slice (some a) 1 1) (.slice (some ⟨b5, 0, none⟩) 1 1) w9 := (hD.1 7 rfl _ rfl ⟨rfl, rfl⟩).1
          have M9 := Lib.hid m9.slice
          clear hG hD gd ne x1 x3 m9
          simp only [pickOps, List.filterMap_cons, List.filterMap_nil, List.getElem?_toArray, List.getElem?_cons_succ, List.getElem?_cons_zero]
          go_wp2
          go_ret2
          exact ⟨_, _, _, _, by rw [E1.out]; rfl, by rw [E3.out]; exact ⟨rfl, .inr ⟨b5, 1, _, rfl, hb5, M9.out.2, Nat.le_refl _, by decide, rfl, rfl⟩⟩, by rw [E2.out]; exact (A3.out.keep k9).fin, KG3.out.trans k9.weak⟩

set_option maxRecDepth 100000 in
set_option maxHeartbeats 2000000 in
theorem rwork_fin (X : XP) (s : St) (vp vj vw v : Value) (base g : Nat) (S : Nat → Prop) (e : Ev) (w : World) (hk : e.kind = 7) (h : RAft X w base (orr S base) g vp vj vw s) (he : EvOf w (orr S base) v e) (ht : ∀ j ∈ s.jobs, j.tries ≤ 9223372036854775806 ∧ 0 ≤ j.tries) (hin : e.items.length * 296 ≤ 140737488355328) (hX : ∀ (S2 : Nat → Prop) (w1 : World) (v1 : Value) (xs cs : List Value), w1.ownsRow base 72 148 v1 e.items.length xs → (∀ b, v1.ownBlock = some b → ¬ S2 b) → X.p S2 w1 cs → X.p S2 w1 (cs.set 6 v1)) (hS : ∀ b, S b → b < base) :
    Calls Tryz.prog 85 #[.pointer (some ⟨g, 0, none⟩), v] w (RMeth3 X base S g (perE s e) (perO s e) (perS s e) w) := by
  obtain ⟨vn, vi, rfl, hns, his⟩ := he
  obtain ⟨An, nn, cn, rfl, -⟩ := hns
  obtain ⟨Ai, ni, ci, icss, rfl, hil, hicl, hic, hir, hiR⟩ := ElemsOf.rows his (by decide)
  obtain ⟨W0, hW0⟩ : ∃ W0, W0 = w.alloc (.cells #[.int .i64 e.kind, .string e.name, .string e.worker, .slice An nn cn, .int .i64 e.ticks, .slice Ai ni ci] 78) := ⟨_, rfl⟩
  have k0 : Keep none_ w W0 := hW0 ▸ (Keep.refl none_ w).alloc _
  have b0 : Blk W0 w.heap.size 78 #[.int .i64 e.kind, .string e.name, .string e.worker, .slice An nn cn, .int .i64 e.ticks, .slice Ai ni ci] := hW0 ▸ Blk.new _ _ _
  have a0 := h.keep k0
  obtain ⟨Ap, cp, rfl, -⟩ := own_row (S := none_) a0.strs (fun _ _ e => e)
  obtain ⟨Aj, cj, rfl, hj⟩ := a0.jobs.list
  obtain ⟨Aw, cw, rfl, hw⟩ := ElemsOf_wks (S := none_) a0.wks (fun _ _ e => e)
  obtain ⟨-, q1, q2⟩ := hw.facts
  unfold maxLen at q2
  have ST := Lib.hid a0.state
  have WK := Lib.hid (fun wx (kx : Keep none_ W0 wx) => rworker_any s _ none_ e.worker wx (ST.out.keep kx))
  have d0 : W0.cell? ⟨w.heap.size, 0, none⟩ = some (.int .i64 e.kind) := b0.cell 0
  have d1 : W0.cell? ⟨w.heap.size, 1, none⟩ = some (.string e.name) := b0.cell 1
  have d2 : W0.cell? ⟨w.heap.size, 2, none⟩ = some (.string e.worker) := b0.cell 2
  have g2 : W0.cell? ⟨g, 2, none⟩ = some (.slice Aj s.jobs.length cj) := a0.blk.cell 2
  have g3 : W0.cell? ⟨g, 3, none⟩ = some (.slice Aw s.workers.length cw) := a0.blk.cell 3
  have HA := Lib.hid a0
  have HB := Lib.hid b0
  have K0 := Lib.hid k0
  have HW := Lib.hid hw
  have HJ := Lib.hid hj
  clear h a0 b0 k0 hj
  have PE : perE s e = endE s e := by unfold perE; simp [hk]
  have PS : perS s e = endS s e := by unfold perS; simp [hk]
  have PO : perO s e = endO s e := by unfold perO; simp [hk]
  have DJ := Lib.hid (fun j : Jb => show doneJ j e = { j with worker := ⟨#[]⟩, until_ := 0, done := true, items := e.items } by unfold doneJ; simp [hk])
  have EO := Lib.hid (show (⟨if e.kind = 7 then 2 else 4, e.name, e.worker⟩ : Ot) = ⟨2, e.name, e.worker⟩ by simp [hk])
  rw [hk] at d0
  clear hk
  have JBC := Lib.hid (fun wx (kx : Keep none_ W0 wx) => rjob_any s _ none_ e.name wx (ST.out.keep kx))
  have IR := Lib.hid hir
  have IC := Lib.hid (And.intro hil (And.intro hicl hic))
  have IQ := Lib.hid hiR
  have IO := Lib.hid (show ∀ u ∈ icss.flatten, u.oneCell' = true from fun u hu => by
    obtain ⟨cs, hcs, hu⟩ := List.mem_flatten.1 hu
    obtain ⟨i, hi, rfl⟩ := List.mem_iff_getElem.1 hcs
    exact (hiR i _ _ (List.getElem?_eq_getElem hi) (List.getElem?_eq_getElem (by omega))).one u hu)
  have IM := Lib.hid (show ni * 296 ≤ 140737488355328 by rw [← hil]; exact hin)
  have HX := Lib.hid hX
  have HS := Lib.hid hS
  obtain ⟨ie, z, hie, hz, hsi, hby, hzs⟩ := info_all (P := Tryz.prog) (t := 72) (n := 148) (b := 296) (by kernel_rfl)
  have I1 := Lib.hid (And.intro hie (And.intro hz (And.intro hsi (And.intro hby hzs))))
  clear hir hil hicl hic hiR hin hX hS hie hz hsi hby hzs his
  rcases idx_cases (fun y : Wk => strEq y.name e.worker) s.workers with hi | ⟨k, hkk, hi, -⟩
  · have hi' : wkIdx s.workers e.worker = -1 := hi
    rw [hi'] at WK
    have ae : aliveE s.workers e.worker = 7 := by unfold aliveE; rw [hi']; rfl
    have pe : endE s e = 7 := by unfold endE; rw [ae]; rfl
    have E1 := Lib.hid (show perE s e = 7 by rw [PE, pe])
    have E2 := Lib.hid (show perS s e = s by rw [PS]; unfold endS; rw [pe, if_neg (by decide)])
    have E3 := Lib.hid (show perO s e = [] by rw [PO]; unfold endO; rw [pe, if_neg (by decide)])
    clear hi hi' hw PE PS PO ae pe
    go_enter Tryz.func85, Tryz.ntmps85
    go_upto_region 1 with (fail)
    rw [← hW0]
    clear hW0
    have gd := callCalm_good W0 5 (.int .i64 (-1))
    have ne := callCalm_some W0 5 (.int .i64 (-1))
    have x1 := fun y => (callCalm_at (wr := W0) (k := 5) (u := .int .i64 (-1)) y).cell d2 (fun e => e)
    have x3 := Lib.hid (fun y => rangeAt_keep HA.out.blk.rangeAt (callCalm_at (wr := W0) (k := 5) (u := .int .i64 (-1)) y) (fun e => e))
    refine wp_region_calm (callCalm W0 5 (.int .i64 (-1))) [0, 1, 2, 3, 4, 5] [6] 205 (by kernel_rfl) (by kernel_rfl) rfl gd (Keep.refl _ _).drew ?_
    simp only [pairs, List.filterMap_cons, List.filterMap_nil, List.getElem?_toArray, List.getElem?_cons_succ, List.getElem?_cons_zero, Option.map_some]
    repeat (refine Calm.walk_quiet ne rfl rfl rfl (fun K hK => ?_); go_big_quiet_op; refine hK _ ?_; clear hK K)
    refine Calm.walk_load 48 (.tmp 11) rfl ne rfl rfl g 0 rfl #[.int .i64 s.now, .slice Ap s.present.length cp, .slice Aj s.jobs.length cj, .slice Aw s.workers.length cw] _ x3.out Tryz.underlying48 rfl (by kernel_rfl) ?_
    go_frame
    repeat (refine Calm.walk_quiet ne rfl rfl rfl (fun K hK => ?_); go_big_quiet_op; refine hK _ ?_; clear hK K)
    refine Calm.walk_eff rfl rfl (fun n wy hn hG _ => ?_) ?_
    · have hG' : Keep none_ W0 wy := hG
      unfold gives
      go_simp
      refine (WK.out wy hG').mono ?_
      rintro e w' ⟨rfl, k'⟩
      exact ⟨_, rfl, rfl, k', hG'.trans k', fun _ h => h.elim⟩
    intro vq wy hT
    obtain rfl : vq = .int .i64 (-1) := hT
    clear wy
    go_frame
    intro w1 hG hD
    have k1 : Keep none_ W0 w1 := hG
    clear hG hD gd ne x1 x3 WK
    simp only [pickOps, List.filterMap_cons, List.filterMap_nil, List.getElem?_toArray, List.getElem?_cons_succ, List.getElem?_cons_zero]
    replace d0 := k1.cell d0 (fun e => e)
    replace d1 := k1.cell d1 (fun e => e)
    replace d2 := k1.cell d2 (fun e => e)
    replace g2 := k1.cell g2 (fun e => e)
    replace g3 := k1.cell g3 (fun e => e)
    have K1 := Lib.hid (K0.out.trans k1)
    have A1 := Lib.hid (HA.out.keep k1)
    have lg := A1.out.blk.lt
    have lb := A1.out.ge_
    go_wp2
    go_ret2
    exact ⟨_, _, _, _, by rw [E1.out]; rfl, by rw [E3.out]; exact ⟨rfl, .inl ⟨rfl, rfl⟩⟩, by rw [E2.out]; exact A1.out.fin, K1.out.weak⟩
  · have hi' : wkIdx s.workers e.worker = (k : Int) := hi
    rw [hi'] at WK
    have ae : aliveE s.workers e.worker = if s.workers[k].dead then 14 else 0 := by
      unfold aliveE
      rw [hi', if_neg (by omega), Int.toNat_natCast, List.getElem?_eq_getElem hkk]
    obtain ⟨bw, ow, rfl, -, hkl, cs, -, hrg, hcs⟩ := hw.elem k hkk
    generalize s.workers[k] = y at hcs ae
    subst hcs
    have c1 : W0.cell? ⟨bw, ow + k * 2 + 1, none⟩ = some (.bool y.dead) := hrg 1 _ rfl
    obtain ⟨ba, capw, curw, eVw, -⟩ := own_cases HA.out.wks (by omega)
    simp only [Value.slice.injEq, Option.some.injEq, Addr.mk.injEq, and_true, true_and] at eVw
    obtain ⟨⟨rfl, rfl⟩, rfl⟩ := eVw
    rw [Nat.zero_add] at c1
    have hkn' : (k : Int) < s.workers.length := by omega
    clear hi hi' hrg hw
    cases hd : y.dead with
    | true =>
      rw [hd] at c1 ae
      have pe : endE s e = 14 := by unfold endE; rw [ae]; rfl
      have E1 := Lib.hid (show perE s e = 14 by rw [PE, pe])
      have E2 := Lib.hid (show perS s e = s by rw [PS]; unfold endS; rw [pe, if_neg (by decide)])
      have E3 := Lib.hid (show perO s e = [] by rw [PO]; unfold endO; rw [pe, if_neg (by decide)])
      clear hd ae pe PE PS PO
      go_enter Tryz.func85, Tryz.ntmps85
      go_upto_region 1 with (fail)
      rw [← hW0]
      clear hW0
      have gd := callCalm_good W0 5 (.int .i64 ((k : Nat)))
      have ne := callCalm_some W0 5 (.int .i64 ((k : Nat)))
      have x1 := fun y => (callCalm_at (wr := W0) (k := 5) (u := .int .i64 ((k : Nat))) y).cell d2 (fun e => e)
      have x3 := Lib.hid (fun y => rangeAt_keep HA.out.blk.rangeAt (callCalm_at (wr := W0) (k := 5) (u := .int .i64 ((k : Nat))) y) (fun e => e))
      refine wp_region_calm (callCalm W0 5 (.int .i64 ((k : Nat)))) [0, 1, 2, 3, 4, 5] [6] 205 (by kernel_rfl) (by kernel_rfl) rfl gd (Keep.refl _ _).drew ?_
      simp only [pairs, List.filterMap_cons, List.filterMap_nil, List.getElem?_toArray, List.getElem?_cons_succ, List.getElem?_cons_zero, Option.map_some]
      repeat (refine Calm.walk_quiet ne rfl rfl rfl (fun K hK => ?_); go_big_quiet_op; refine hK _ ?_; clear hK K)
      refine Calm.walk_load 48 (.tmp 11) rfl ne rfl rfl g 0 rfl #[.int .i64 s.now, .slice Ap s.present.length cp, .slice Aj s.jobs.length cj, .slice (some ⟨bw, 0, none⟩) s.workers.length cw] _ x3.out Tryz.underlying48 rfl (by kernel_rfl) ?_
      go_frame
      repeat (refine Calm.walk_quiet ne rfl rfl rfl (fun K hK => ?_); go_big_quiet_op; refine hK _ ?_; clear hK K)
      refine Calm.walk_eff rfl rfl (fun n wy hn hG _ => ?_) ?_
      · have hG' : Keep none_ W0 wy := hG
        unfold gives
        go_simp
        refine (WK.out wy hG').mono ?_
        rintro e w' ⟨rfl, k'⟩
        exact ⟨_, rfl, rfl, k', hG'.trans k', fun _ h => h.elim⟩
      intro vq wy hT
      obtain rfl : vq = .int .i64 ((k : Nat)) := hT
      clear wy
      go_frame
      intro w1 hG hD
      have k1 : Keep none_ W0 w1 := hG
      clear hG hD gd ne x1 x3 WK
      simp only [pickOps, List.filterMap_cons, List.filterMap_nil, List.getElem?_toArray, List.getElem?_cons_succ, List.getElem?_cons_zero]
      replace d0 := k1.cell d0 (fun e => e)
      replace d1 := k1.cell d1 (fun e => e)
      replace d2 := k1.cell d2 (fun e => e)
      replace g2 := k1.cell g2 (fun e => e)
      replace g3 := k1.cell g3 (fun e => e)
      have K1 := Lib.hid (K0.out.trans k1)
      have A1 := Lib.hid (HA.out.keep k1)
      have lg := A1.out.blk.lt
      have lb := A1.out.ge_
      have z1 := k1.cell c1 (fun e => e)
      clear c1
      go_wp2
      go_ret2
      exact ⟨_, _, _, _, by rw [E1.out]; rfl, by rw [E3.out]; exact ⟨rfl, .inl ⟨rfl, rfl⟩⟩, by rw [E2.out]; exact A1.out.fin, K1.out.weak⟩
    | false =>
      rw [hd] at c1 ae
      have pe : endE s e = if jbIdx s.jobs e.name < 0 then 7 else match s.jobs[(jbIdx s.jobs e.name).toNat]? with
        | some j => if strEq j.worker e.worker then 0 else 13
        | none => 7 := by
        unfold endE
        rw [ae, if_neg (by decide)]
        rfl
      have PEH := Lib.hid PE
      have PSH := Lib.hid PS
      have POH := Lib.hid PO
      have PP := Lib.hid pe
      have TR := Lib.hid ht
      clear hd ae pe PE PS PO ht
      go_enter Tryz.func85, Tryz.ntmps85
      go_upto_region 1 with (fail)
      rw [← hW0]
      clear hW0
      have gd := callCalm_good W0 5 (.int .i64 ((k : Nat)))
      have ne := callCalm_some W0 5 (.int .i64 ((k : Nat)))
      have x1 := fun y => (callCalm_at (wr := W0) (k := 5) (u := .int .i64 ((k : Nat))) y).cell d2 (fun e => e)
      have x3 := Lib.hid (fun y => rangeAt_keep HA.out.blk.rangeAt (callCalm_at (wr := W0) (k := 5) (u := .int .i64 ((k : Nat))) y) (fun e => e))
      refine wp_region_calm (callCalm W0 5 (.int .i64 ((k : Nat)))) [0, 1, 2, 3, 4, 5] [6] 205 (by kernel_rfl) (by kernel_rfl) rfl gd (Keep.refl _ _).drew ?_
      simp only [pairs, List.filterMap_cons, List.filterMap_nil, List.getElem?_toArray, List.getElem?_cons_succ, List.getElem?_cons_zero, Option.map_some]
      repeat (refine Calm.walk_quiet ne rfl rfl rfl (fun K hK => ?_); go_big_quiet_op; refine hK _ ?_; clear hK K)
      refine Calm.walk_load 48 (.tmp 11) rfl ne rfl rfl g 0 rfl #[.int .i64 s.now, .slice Ap s.present.length cp, .slice Aj s.jobs.length cj, .slice (some ⟨bw, 0, none⟩) s.workers.length cw] _ x3.out Tryz.underlying48 rfl (by kernel_rfl) ?_
      go_frame
      repeat (refine Calm.walk_quiet ne rfl rfl rfl (fun K hK => ?_); go_big_quiet_op; refine hK _ ?_; clear hK K)
      refine Calm.walk_eff rfl rfl (fun n wy hn hG _ => ?_) ?_
      · have hG' : Keep none_ W0 wy := hG
        unfold gives
        go_simp
        refine (WK.out wy hG').mono ?_
        rintro e w' ⟨rfl, k'⟩
        exact ⟨_, rfl, rfl, k', hG'.trans k', fun _ h => h.elim⟩
      intro vq wy hT
      obtain rfl : vq = .int .i64 ((k : Nat)) := hT
      clear wy
      go_frame
      intro w1 hG hD
      have k1 : Keep none_ W0 w1 := hG
      clear hG hD gd ne x1 x3 WK
      simp only [pickOps, List.filterMap_cons, List.filterMap_nil, List.getElem?_toArray, List.getElem?_cons_succ, List.getElem?_cons_zero]
      replace d0 := k1.cell d0 (fun e => e)
      replace d1 := k1.cell d1 (fun e => e)
      replace d2 := k1.cell d2 (fun e => e)
      replace g2 := k1.cell g2 (fun e => e)
      replace g3 := k1.cell g3 (fun e => e)
      have K1 := Lib.hid (K0.out.trans k1)
      have A1 := Lib.hid (HA.out.keep k1)
      have lg := A1.out.blk.lt
      have lb := A1.out.ge_
      have z1 := k1.cell c1 (fun e => e)
      have k01 := Lib.hid k1
      clear c1 k1
      go_upto_region 30 with (fail)
      clear z1 g3
      rcases idx_cases (fun y : Jb => strEq y.name e.name) s.jobs with hb | ⟨q, hq, hb, hqn⟩
      · have hb' : jbIdx s.jobs e.name = -1 := hb
        rw [hb'] at JBC PP
        have P7 : endE s e = 7 := by rw [PP.out, if_pos (by decide)]
        have E1 := Lib.hid (show perE s e = 7 by rw [PEH.out, P7])
        have E2 := Lib.hid (show perS s e = s by rw [PSH.out]; unfold endS; rw [P7, if_neg (by decide)])
        have E3 := Lib.hid (show perO s e = [] by rw [POH.out]; unfold endO; rw [P7, if_neg (by decide)])
        clear hb hb' PEH PSH POH PP P7
        have gd := callCalm_good w1 5 (.int .i64 (-1))
        have ne := callCalm_some w1 5 (.int .i64 (-1))
        have x0 := fun y => (callCalm_at (wr := w1) (k := 5) (u := .int .i64 (-1)) y).cell d1 (fun e => e)
        have r0 := Lib.hid (fun y => rangeAt_keep A1.out.blk.rangeAt (callCalm_at (wr := w1) (k := 5) (u := .int .i64 (-1)) y) (fun e => e))
        refine wp_region_calm (callCalm w1 5 (.int .i64 (-1))) [0, 1, 2, 3, 4, 5] [6] 205 (by kernel_rfl) (by kernel_rfl) rfl gd (Keep.refl _ _).drew ?_
        simp only [pairs, List.filterMap_cons, List.filterMap_nil, List.getElem?_toArray, List.getElem?_cons_succ, List.getElem?_cons_zero, Option.map_some]
        repeat (refine Calm.walk_quiet ne rfl rfl rfl (fun K hK => ?_); go_big_quiet_op; refine hK _ ?_; clear hK K)
        refine Calm.walk_load 48 (.tmp 143) rfl ne rfl rfl g (0) (by first | rfl | simp) #[.int .i64 s.now, .slice Ap s.present.length cp, .slice Aj s.jobs.length cj, .slice (some ⟨bw, 0, none⟩) s.workers.length cw] _ r0.out Tryz.underlying48 rfl (by kernel_rfl) ?_
        go_frame
        repeat (refine Calm.walk_quiet ne rfl rfl rfl (fun K hK => ?_); go_big_quiet_op; refine hK _ ?_; clear hK K)
        refine Calm.walk_eff rfl rfl (fun n wy hn hG _ => ?_) ?_
        · have hG' : Keep none_ w1 wy := hG
          unfold gives
          go_simp
          refine ((fun wy (hG' : Keep none_ w1 wy) => JBC.out wy (k01.out.trans hG')) wy hG').mono ?_
          rintro e w' ⟨rfl, k'⟩
          exact ⟨_, rfl, rfl, k', hG'.trans k', fun _ h => h.elim⟩
        intro vq wy hT
        obtain rfl : vq = .int .i64 (-1) := hT
        clear wy
        go_frame
        repeat (refine Calm.walk_quiet ne rfl rfl rfl (fun K hK => ?_); go_big_quiet_op; refine hK _ ?_; clear hK K)
        intro w2 hG hD
        have k2 : Keep none_ w1 w2 := hG
        clear hG hD gd ne x0 r0
        simp only [pickOps, List.filterMap_cons, List.filterMap_nil, List.getElem?_toArray, List.getElem?_cons_succ, List.getElem?_cons_zero]
        go_wp2
        go_ret2
        exact ⟨_, _, _, _, by rw [E1.out]; rfl, by rw [E3.out]; exact ⟨rfl, .inl ⟨rfl, rfl⟩⟩, by rw [E2.out]; exact (A1.out.keep k2).fin, (K1.out.trans k2).weak⟩
      · have hb' : jbIdx s.jobs e.name = (q : Int) := hb
        rw [hb'] at JBC PP
        have gj : s.jobs[q]? = some s.jobs[q] := List.getElem?_eq_getElem hq
        have P1 : endE s e = if strEq s.jobs[q].worker e.worker then 0 else 13 := by
          rw [PP.out, if_neg (by omega), Int.toNat_natCast, gj]
        have ES := Lib.hid (fun h : endE s e = 0 => show endS s e = { s with jobs := s.jobs.set q (doneJ s.jobs[q] e) } by unfold endS; rw [if_pos h, hb', Int.toNat_natCast, gj])
        obtain ⟨b', o', eA, -, hkl2, cs, -, hrg, jn, ji, hcs, hjn, -⟩ := HJ.out.elem q hq
        obtain ⟨css, j1, j2, j3, j4⟩ := HA.out.jobs
        obtain ⟨b, cap, cur, eV, hb1, hb2, hb3⟩ := own_cases j3 (by omega)
        simp only [Value.slice.injEq, true_and] at eV
        obtain ⟨rfl, rfl⟩ := eV
        simp only [Option.some.injEq, Addr.mk.injEq, and_true] at eA
        obtain ⟨rfl, rfl⟩ := eA
        have tr := TR.out _ (List.getElem_mem hq)
        have NM := Lib.hid (strEq_iff.1 hqn)
        obtain ⟨j, hj⟩ : ∃ j, j = s.jobs[q] := ⟨_, rfl⟩
        rw [← hj] at hcs tr P1 ES NM hjn
        subst hcs
        have y0 : W0.cell? ⟨b, 0 + q * 7 + 0, none⟩ = some (.string j.name) := hrg 0 _ rfl
        have y2 : W0.cell? ⟨b, 0 + q * 7 + 2, none⟩ = some (.string j.worker) := hrg 2 _ rfl
        have y3 : W0.cell? ⟨b, 0 + q * 7 + 3, none⟩ = some (.int .i64 j.until_) := hrg 3 _ rfl
        have y4 : W0.cell? ⟨b, 0 + q * 7 + 4, none⟩ = some (.int .i64 j.tries) := hrg 4 _ rfl
        have y5 : W0.cell? ⟨b, 0 + q * 7 + 5, none⟩ = some (.bool j.done) := hrg 5 _ rfl
        have y6 : W0.cell? ⟨b, 0 + q * 7 + 6, none⟩ = some ji := hrg 6 _ rfl
        rw [Nat.zero_add] at y0 y2 y3 y4 y5 y6
        rw [Nat.add_zero] at y0
        have hqn' : (q : Int) < s.jobs.length := by omega
        have HJJ := Lib.hid hj
        have HP1 := Lib.hid P1
        have HBJ := Lib.hid hb2
        have TR1 := Lib.hid tr
        clear hb hb' gj hrg hjn j1 j2 j3 j4 hb3 hj P1 PP hb2 tr TR HJ hqn
        have gd := callCalm_good w1 5 (.int .i64 (q : Nat))
        have ne := callCalm_some w1 5 (.int .i64 (q : Nat))
        have x0 := fun y => (callCalm_at (wr := w1) (k := 5) (u := .int .i64 (q : Nat)) y).cell d1 (fun e => e)
        have r0 := Lib.hid (fun y => rangeAt_keep A1.out.blk.rangeAt (callCalm_at (wr := w1) (k := 5) (u := .int .i64 (q : Nat)) y) (fun e => e))
        refine wp_region_calm (callCalm w1 5 (.int .i64 (q : Nat))) [0, 1, 2, 3, 4, 5] [6] 205 (by kernel_rfl) (by kernel_rfl) rfl gd (Keep.refl _ _).drew ?_
        simp only [pairs, List.filterMap_cons, List.filterMap_nil, List.getElem?_toArray, List.getElem?_cons_succ, List.getElem?_cons_zero, Option.map_some]
        repeat (refine Calm.walk_quiet ne rfl rfl rfl (fun K hK => ?_); go_big_quiet_op; refine hK _ ?_; clear hK K)
        refine Calm.walk_load 48 (.tmp 143) rfl ne rfl rfl g (0) (by first | rfl | simp) #[.int .i64 s.now, .slice Ap s.present.length cp, .slice (some ⟨b, 0, none⟩) s.jobs.length cj, .slice (some ⟨bw, 0, none⟩) s.workers.length cw] _ r0.out Tryz.underlying48 rfl (by kernel_rfl) ?_
        go_frame
        repeat (refine Calm.walk_quiet ne rfl rfl rfl (fun K hK => ?_); go_big_quiet_op; refine hK _ ?_; clear hK K)
        refine Calm.walk_eff rfl rfl (fun n wy hn hG _ => ?_) ?_
        · have hG' : Keep none_ w1 wy := hG
          unfold gives
          go_simp
          refine ((fun wy (hG' : Keep none_ w1 wy) => JBC.out wy (k01.out.trans hG')) wy hG').mono ?_
          rintro e w' ⟨rfl, k'⟩
          exact ⟨_, rfl, rfl, k', hG'.trans k', fun _ h => h.elim⟩
        intro vq wy hT
        obtain rfl : vq = .int .i64 (q : Nat) := hT
        clear wy
        go_frame
        repeat (refine Calm.walk_quiet ne rfl rfl rfl (fun K hK => ?_); go_big_quiet_op; refine hK _ ?_; clear hK K)
        intro w2 hG hD
        have k2 : Keep none_ w1 w2 := hG
        clear hG hD gd ne x0 r0
        simp only [pickOps, List.filterMap_cons, List.filterMap_nil, List.getElem?_toArray, List.getElem?_cons_succ, List.getElem?_cons_zero]
        have k02 := k01.out.trans k2
        have A2 := Lib.hid (A1.out.keep k2)
        have K2 := Lib.hid (K1.out.trans k2)
        have B2 := Lib.hid (HB.out.keep k02 (fun e => e))
        have BJ2 := Lib.hid (HBJ.out.keep k02 (fun e => e))
        replace d0 := k2.cell d0 (fun e => e)
        replace d2 := k2.cell d2 (fun e => e)
        replace g2 := k2.cell g2 (fun e => e)
        replace y0 := k02.cell y0 (fun e => e)
        replace y2 := k02.cell y2 (fun e => e)
        replace y3 := k02.cell y3 (fun e => e)
        replace y4 := k02.cell y4 (fun e => e)
        replace y5 := k02.cell y5 (fun e => e)
        replace y6 := k02.cell y6 (fun e => e)
        clear d1 A1 K1 HB HA HBJ k2 k02 k01 JBC ST HW K0
        go_upto_region 34 with (fail)
        cases hs : strEq j.worker e.worker with
        | false =>
          have P13 : endE s e = 13 := by rw [HP1.out, hs]; rfl
          have E1 := Lib.hid (show perE s e = 13 by rw [PEH.out, P13])
          have E2 := Lib.hid (show perS s e = s by rw [PSH.out]; unfold endS; rw [P13, if_neg (by decide)])
          have E3 := Lib.hid (show perO s e = [] by rw [POH.out]; unfold endO; rw [P13, if_neg (by decide)])
          have hs' : (j.worker.toList == e.worker.toList) = false := hs
          clear hs P13 PEH PSH POH
          have gd := still_good (w2).drew
          have ne := still_some (w2).drew
          have hx := still_at (w2).drew
          refine wp_region_calm (stillCalm (w2).drew) [0, 1, 2, 3, 4, 5, 6] [] 205 (by kernel_rfl) (by kernel_rfl) rfl gd rfl ?_
          simp only [pairs, List.filterMap_cons, List.filterMap_nil, List.getElem?_toArray, List.getElem?_cons_succ, List.getElem?_cons_zero, Option.map_some]
          repeat (refine Calm.walk_quiet ne rfl rfl rfl (fun K hK => ?_); go_big_quiet_op; refine hK _ ?_; clear hK K)
          intro w' hR _
          obtain rfl : w' = (w2).drew := hR.symm
          simp only [pickOps, List.filterMap_nil]
          clear gd ne hx hR
          go_wp2
          go_ret2
          exact ⟨_, _, _, _, by rw [E1.out]; rfl, by rw [E3.out]; exact ⟨rfl, .inl ⟨rfl, rfl⟩⟩, by rw [E2.out]; exact (A2.out.keep (Keep.refl none_ _).drew).fin, K2.out.drew.weak⟩
        | true =>
          have P0 : endE s e = 0 := by rw [HP1.out, hs]; rfl
          have E1 := Lib.hid (show perE s e = 0 by rw [PEH.out, P0])
          have E2 := Lib.hid (show perS s e = { s with jobs := s.jobs.set q ({ j with worker := ⟨#[]⟩, until_ := 0, done := true, items := e.items }) } by rw [PSH.out, ES.out P0, DJ.out j])
          have E3 := Lib.hid (show perO s e = [⟨2, j.name, e.worker⟩] by rw [POH.out]; unfold endO; rw [if_pos P0, EO.out, NM.out])
          have hs' : (j.worker.toList == e.worker.toList) = true := hs
          have EW := Lib.hid (strEq_iff.1 hs)
          clear hs P0 PEH PSH POH ES DJ EO NM
          have gd := still_good (w2).drew
          have ne := still_some (w2).drew
          have hx := still_at (w2).drew
          refine wp_region_calm (stillCalm (w2).drew) [0, 1, 2, 3, 4, 5, 6] [] 205 (by kernel_rfl) (by kernel_rfl) rfl gd rfl ?_
          simp only [pairs, List.filterMap_cons, List.filterMap_nil, List.getElem?_toArray, List.getElem?_cons_succ, List.getElem?_cons_zero, Option.map_some]
          repeat (refine Calm.walk_quiet ne rfl rfl rfl (fun K hK => ?_); go_big_quiet_op; refine hK _ ?_; clear hK K)
          intro w' hR _
          obtain rfl : w' = (w2).drew := hR.symm
          simp only [pickOps, List.filterMap_nil]
          clear gd ne hx hR
          obtain ⟨w4, hw4⟩ : ∃ w4, w4 = w2.drew := ⟨_, rfl⟩
          have k4 : Keep none_ w2 w4 := hw4 ▸ (Keep.refl none_ _).drew
          rw [← hw4]
          clear hw4 hs'
          have A4 := Lib.hid (A2.out.keep k4)
          have K4 := Lib.hid (K2.out.trans k4)
          have B4 := Lib.hid (B2.out.keep k4 (fun e => e))
          have BJ4 := Lib.hid (BJ2.out.keep k4 (fun e => e))
          replace d0 := k4.cell d0 (fun e => e)
          replace d2 := k4.cell d2 (fun e => e)
          replace y0 := k4.cell y0 (fun e => e)
          replace y2 := k4.cell y2 (fun e => e)
          replace y3 := k4.cell y3 (fun e => e)
          replace y4 := k4.cell y4 (fun e => e)
          replace y5 := k4.cell y5 (fun e => e)
          replace y6 := k4.cell y6 (fun e => e)
          clear k4 A2 K2 B2 BJ2 g2
          obtain ⟨f2, p3, f3⟩ := st2 (.string ⟨#[]⟩) BJ4.out y2 y3 (by omega)
          obtain ⟨a8, -⟩ := A4.out.setJob q hq 2 (by decide) (.string ⟨#[]⟩) { j with worker := ⟨#[]⟩ } (fun cs h => by
            rw [← HJJ.out] at h
            obtain ⟨vn, vi, rfl, g1, g2⟩ := h
            exact ⟨vn, vi, rfl, g1, g2⟩)
          have hl8 : ({ s with jobs := s.jobs.set q { j with worker := ⟨#[]⟩ } } : St).jobs.length = s.jobs.length := by simp
          rw [← hl8] at a8
          obtain ⟨a9, -⟩ := a8.setJob q (by rw [hl8]; exact hq) 3 (by decide) (.int .i64 0) { j with worker := ⟨#[]⟩, until_ := 0 } (fun cs h => by
            simp only [List.getElem_set_self] at h
            obtain ⟨vn, vi, rfl, g1, g2⟩ := h
            exact ⟨vn, vi, rfl, g1, g2⟩)
          simp only [List.set_set] at a9
          rw [hl8] at a9
          have b8 := BJ4.out.set_ (q * 7 + 2) (.string ⟨#[]⟩)
          have b9 := b8.set_ (q * 7 + 3) (.int .i64 0)
          have r0 := st1 (.int .i64 0) b8 (st1 (.string ⟨#[]⟩) BJ4.out y0 (show q * 7 + 2 ≠ q * 7 by omega)) (show q * 7 + 3 ≠ q * 7 by omega)
          have r4 := st1 (.int .i64 0) b8 (st1 (.string ⟨#[]⟩) BJ4.out y4 (show q * 7 + 2 ≠ q * 7 + 4 by omega)) (show q * 7 + 3 ≠ q * 7 + 4 by omega)
          have r5 := st1 (.int .i64 0) b8 (st1 (.string ⟨#[]⟩) BJ4.out y5 (show q * 7 + 2 ≠ q * 7 + 5 by omega)) (show q * 7 + 3 ≠ q * 7 + 5 by omega)
          have r6 := st1 (.int .i64 0) b8 (st1 (.string ⟨#[]⟩) BJ4.out y6 (show q * 7 + 2 ≠ q * 7 + 6 by omega)) (show q * 7 + 3 ≠ q * 7 + 6 by omega)
          have kb5 : Keep (one b) w4 ((w4.setCell ⟨b, q * 7 + 2, none⟩ (.string ⟨#[]⟩)).setCell ⟨b, q * 7 + 3, none⟩ (.int .i64 0)) := ((Keep.refl (one b) w4).setCell (p := ⟨b, q * 7 + 2, none⟩) (.inl rfl) _).setCell (p := ⟨b, q * 7 + 3, none⟩) (.inl rfl) _
          obtain ⟨w5, hw5⟩ : ∃ w5, w5 = (w4.setCell ⟨b, q * 7 + 2, none⟩ (.string ⟨#[]⟩)).setCell ⟨b, q * 7 + 3, none⟩ (.int .i64 0) := ⟨_, rfl⟩
          rw [← hw5] at a9 b9 r0 r4 r5 r6 kb5
          have neb : ¬ one b w.heap.size := fun e => B4.out.ne_ BJ4.out (by decide) e
          have d0' := kb5.cell d0 neb
          have d2' := kb5.cell d2 neb
          have A5 := Lib.hid a9
          have K5 := Lib.hid (K4.out.weak.trans (kb5.mono (fun x e => by cases e; exact hb1)))
          have B5 := Lib.hid (B4.out.keep kb5 neb)
          have BJ5 := Lib.hid b9
          go_upto_region 37 with (fail)
          rw [← hw5]
          clear hw5 y0 y2 y3 y4 y5 y6 f2 p3 f3 b8 b9 a8 a9 hl8 kb5 neb d0 d2 A4 K4 B4 BJ4
          go_upto_region 40 with (fail)
          have hbase : base ≤ w5.heap.size := by have := A5.out.ge_; have := A5.out.blk.lt; omega
          have d5 : w5.cell? ⟨w.heap.size, 5, none⟩ = some (.slice Ai ni ci) := B5.out.cell 5
          have KA : Keep none_ w5 (w5.alloc (.cells #[] 72)) := (Keep.refl none_ w5).alloc _
          have R6 := Lib.hid (IR.out.keep ((K5.out.trans KA.weak).mono orr_ge))
          have A6 := Lib.hid (A5.out.keep KA)
          have B6 := Lib.hid (B5.out.keep KA (fun e => e))
          have BJ6 := Lib.hid (BJ5.out.keep KA (fun e => e))
          have d5A := KA.cell d5 (fun e => e)
          have z0 := KA.cell r0 (fun e => e)
          have z5 := KA.cell r5 (fun e => e)
          have z6 := KA.cell r6 (fun e => e)
          have z2 := KA.cell d2' (fun e => e)
          have K6 := Lib.hid (K5.out.trans KA.weak)
          have im := IM.out
          clear KA r0 r4 r5 r6 d0' A5 K5 B5 BJ5
          have t1 : True := trivial
          go_upto_region 41 with (have _t := t1; refine wpList_plain rfl fun K hK => wp_of_gives (gives_append_new (.tmp 189) (.tmp 191) 55 72 rfl base ni ci w5.heap.size 148 296 Tryz.underlying55 I1.out.1 I1.out.2.1 I1.out.2.2.1 I1.out.2.2.2.1 I1.out.2.2.2.2 (by decide) rfl (Blk.new _ _ _) hbase Ai icss.flatten (orr S base) rfl R6.out IO.out (by omega) (by unfold maxLen; omega) (by simp; omega)) (fun v' w' h => hK _ _ ?_); obtain ⟨h1, h2⟩ := h; obtain ⟨A7, c7, rfl, -⟩ := own_row (S := none_) h1 (fun _ _ e => e); have BJ7 := Lib.hid (BJ6.out.keep h2 (fun e => e)); have O7 := Lib.hid h1; have K7 := Lib.hid h2; have x0 := h2.cell z0 (fun e => e); have x2 := h2.cell z2 (fun e => e); have x5 := h2.cell z5 (fun e => e); have x6 := h2.cell z6 (fun e => e); obtain ⟨f5, p6, f6⟩ := st2 (.bool true) BJ7.out x5 x6 (show q * 7 + 5 ≠ q * 7 + 6 by omega); clear h1 h2 hK K z0 z2 z5 z6; go_frame; clear _t t1)
          have A7' := Lib.hid (A6.out.keep K7.out)
          have hl9 : ({ s with jobs := s.jobs.set q { j with worker := ⟨#[]⟩, until_ := 0 } } : St).jobs.length = s.jobs.length := by simp
          have a7 := A7'.out
          rw [← hl9] at a7
          obtain ⟨a8, q8⟩ := a7.setJob q (by rw [hl9]; exact hq) 5 (by decide) (.bool true) { j with worker := ⟨#[]⟩, until_ := 0, done := true } (fun cs h => by
            simp only [List.getElem_set_self] at h
            obtain ⟨vn, vi, rfl, g1, g2⟩ := h
            exact ⟨vn, vi, rfl, g1, g2⟩)
          simp only [List.set_set] at a8
          have hl8 : ({ s with jobs := s.jobs.set q { j with worker := ⟨#[]⟩, until_ := 0, done := true } } : St).jobs.length = s.jobs.length := by simp
          rw [hl9, ← hl8] at a8
          have b8 := BJ7.out.set_ (q * 7 + 5) (.bool true)
          have kb9 : Keep (one b) w' ((w'.setCell ⟨b, q * 7 + 5, none⟩ (.bool true)).setCell ⟨b, q * 7 + 6, none⟩ (.slice A7 ni c7)) := ((Keep.refl (one b) w').setCell (p := ⟨b, q * 7 + 5, none⟩) (.inl rfl) _).setCell (p := ⟨b, q * 7 + 6, none⟩) (.inl rfl) _
          have o9 := own_keep O7.out kb9 (own_apart O7.out BJ7.out (by decide))
          obtain ⟨W3, hW3⟩ : ∃ W3, W3 = (w'.setCell ⟨b, q * 7 + 5, none⟩ (.bool true)).setCell ⟨b, q * 7 + 6, none⟩ (.slice A7 ni c7) := ⟨_, rfl⟩
          have OSUB : ∀ b, stP S base W3 (.slice Ap s.present.length cp) b → orr S base b := fun b e => stP.orr A7'.out.strs b e
          have o7s := own_apart2 O7.out A7'.out.strs (by decide)
          have NST : ∀ b2, (Value.slice A7 ni c7).ownBlock = some b2 → ¬ stP S base W3 (.slice Ap s.present.length cp) b2 := fun b2 hb2 hs => by
            rcases hs with (hs | ⟨-, t2, cs2, hs, n1, n2⟩) | hs
            · have := HS.out b2 hs; have := own_ge o9 b2 hb2; omega
            · exact own_apart o9 (hW3 ▸ hs) (Ne.symm n2) b2 hb2 rfl
            · exact o7s b2 hb2 hs
          have kall := (K6.out.trans K7.out.weak).trans (kb9.mono (fun x e => by cases e; exact hb1))
          obtain ⟨i1, i2, i3⟩ := IC.out
          obtain ⟨a9, -⟩ := a8.setJobTo (S' := stP S base W3 (.slice Ap s.present.length cp)) OSUB q (by rw [hl8]; exact hq) 6 (by decide) (.slice A7 ni c7) { j with worker := ⟨#[]⟩, until_ := 0, done := true, items := e.items } (fun cs hcl h => by
            simp only [List.getElem_set_self] at h
            obtain ⟨⟨vn, vi, rfl, g1, g2⟩, hxp⟩ := h
            refine ⟨⟨vn, .slice A7 ni c7, rfl, (g1.keep ((Keep.refl (one b) _).setCell (p := ⟨b, q * 7 + 6, none⟩) (.inl rfl) _ |>.mono (fun x e => by cases e; exact .inr hb1))).sub OSUB, ?_⟩, ?_⟩
            · obtain ⟨A', c', eA, rr⟩ := own_rowB (S := stP S base W3 (.slice Ap s.present.length cp)) o9 NST
              simp only [Value.slice.injEq, true_and] at eA
              obtain ⟨rfl, rfl⟩ := eA
              exact ElemsOf.of_row i1 i2 i3 rr (fun i cs x hi hx => ItmOf.sub ((IQ.out i cs x hi hx).keep (kall.mono orr_ge)) OSUB)
            · exact HX.out _ _ _ _ _ (by rw [i1]; exact o9) NST (X.sub _ _ _ _ (X.keep _ _ _ _ hxp ((Keep.refl (one b) _).setCell (p := ⟨b, q * 7 + 6, none⟩) (.inl rfl) _ |>.mono (fun x e => by cases e; exact .inr hb1))) OSUB))
          simp only [List.set_set] at a9
          rw [hl8] at a9
          have v0 := st1 (.slice A7 ni c7) b8 (st1 (.bool true) BJ7.out x0 (show q * 7 + 5 ≠ q * 7 by omega)) (show q * 7 + 6 ≠ q * 7 by omega)
          have neb : ¬ one b w.heap.size := fun e => (B6.out.keep K7.out (fun e => e)).ne_ BJ7.out (by decide) e
          have dd2 := kb9.cell x2 neb
          rw [← hW3] at a9 v0 dd2 kall ⊢
          have A3 := Lib.hid a9
          have KG3 := Lib.hid kall
          clear hW3 a7 a8 a9 q8 b8 kb9 o9 kall i1 i2 i3 x0 x2 x5 x6 f5 p6 f6 neb hl8 hl9 A7' A6 B6 BJ6 K6 K7 O7 BJ7
          have lg3 := A3.out.blk.lt
          have lb3 := A3.out.ge_
          have gd := factCalm_good (wr := W3) (ks := [7]) (anc := fun _ => []) (T := (fun _ v wq => madeT base 125 #[.int .i64 2, .string j.name, .string e.worker] (fun a => .slice (some a) 1 1) v wq)) (fun _ _ _ _ h k => h.stable (S := none_) k fun _ e => e.elim)
          have ne := factCalm_some W3 [7] (fun _ => []) (fun _ v wq => madeT base 125 #[.int .i64 2, .string j.name, .string e.worker] (fun a => .slice (some a) 1 1) v wq)
          have x1 := fun y => (factCalm_at (wr := W3) (ks := [7]) (anc := fun _ => []) (T := (fun _ v wq => madeT base 125 #[.int .i64 2, .string j.name, .string e.worker] (fun a => .slice (some a) 1 1) v wq)) y).cell v0 (fun e => e)
          have x3 := fun y => (factCalm_at (wr := W3) (ks := [7]) (anc := fun _ => []) (T := (fun _ v wq => madeT base 125 #[.int .i64 2, .string j.name, .string e.worker] (fun a => .slice (some a) 1 1) v wq)) y).cell dd2 (fun e => e)
          refine wp_region_calm (factCalm W3 [7] (fun _ => []) (fun _ v wq => madeT base 125 #[.int .i64 2, .string j.name, .string e.worker] (fun a => .slice (some a) 1 1) v wq)) [0, 1, 2, 3, 4, 5, 6, 7] [8, 9] 205 (by kernel_rfl) (by kernel_rfl) rfl gd (Keep.refl _ _).drew ?_
          simp only [pairs, List.filterMap_cons, List.filterMap_nil, List.getElem?_toArray, List.getElem?_cons_succ, List.getElem?_cons_zero, Option.map_some]
          repeat (refine Calm.walk_quiet ne rfl rfl rfl (fun K hK => ?_); go_big_quiet_op; refine hK _ ?_; clear hK K)
          refine Calm.walk_eff rfl rfl (fun n w5 hn hG _ => ?_) ?_
          · have hG' : Keep none_ W3 w5 := hG
            unfold gives
            go_simp
            exact ⟨⟨w5.heap.size, by have := hG'.size; omega, rfl, Blk.new _ _ _⟩, (Keep.refl _ _).alloc _, hG'.alloc _, fun _ h => h.elim⟩
          intro vq wy hT
          obtain ⟨b5, hb5, rfl, -⟩ : madeT base 125 #[.int .i64 2, .string j.name, .string e.worker] (fun a => .slice (some a) 1 1) vq wy := hT
          clear wy
          go_frame
          intro w9 hG hD
          have k9 : Keep none_ W3 w9 := hG
          have m9 : madeT base 125 #[.int .i64 2, .string j.name, .string e.worker] (fun a => .slice (some a) 1 1) (.slice (some ⟨b5, 0, none⟩) 1 1) w9 := (hD.1 7 rfl _ rfl ⟨rfl, rfl⟩).1
          have M9 := Lib.hid m9.slice
          clear hG hD gd ne x1 x3 m9
          simp only [pickOps, List.filterMap_cons, List.filterMap_nil, List.getElem?_toArray, List.getElem?_cons_succ, List.getElem?_cons_zero]
          go_wp2
          go_ret2
          exact ⟨_, _, _, _, by rw [E1.out]; rfl, by rw [E3.out]; exact ⟨rfl, .inr ⟨b5, 1, _, rfl, hb5, M9.out.2, Nat.le_refl _, by decide, rfl, rfl⟩⟩, by rw [E2.out]; exact A3.out.fin2 k9, KG3.out.trans k9.weak⟩
end Go.Proofs.YtnefbeplgfdkkaaGreatDoor
