/-
  (*State).end.
-/
import Derived.Test.YtnefbeplgfdkkaaGreatDoorJb10
namespace Go.Proofs.YtnefbeplgfdkkaaGreatDoor
open Go.RowKit

/-- 37.3: finish and fail. -/
structure Ev where
  kind : Int
  name : ByteArray
  worker : ByteArray
  needs : List ByteArray
  ticks : Int
  items : List Itm
def doneJ (j : Jb) (e : Ev) : Jb := if e.kind = 7 then { j with worker := ⟨#[]⟩, until_ := 0, done := true, items := e.items } else { j with worker := ⟨#[]⟩, until_ := 0, tries := j.tries + 1 }
def endE (s : St) (e : Ev) : Int := if aliveE s.workers e.worker ≠ 0 then aliveE s.workers e.worker else if jbIdx s.jobs e.name < 0 then 7 else match s.jobs[(jbIdx s.jobs e.name).toNat]? with
  | some j => if strEq j.worker e.worker then 0 else 13
  | none => 7
def endS (s : St) (e : Ev) : St := if endE s e = 0 then match s.jobs[(jbIdx s.jobs e.name).toNat]? with
  | some j => { s with jobs := s.jobs.set (jbIdx s.jobs e.name).toNat (doneJ j e) }
  | none => s
  else s
def endO (s : St) (e : Ev) : List Ot := if endE s e = 0 then [⟨if e.kind = 7 then 2 else 4, e.name, e.worker⟩] else []
def EvOf (w : World) (S : Nat → Prop) (v : Value) (e : Ev) : Prop := ∃ vn vi, v = .agg #[.int .i64 e.kind, .string e.name, .string e.worker, vn, .int .i64 e.ticks, vi] ∧ StrsOf w S vn e.needs ∧ ItemsOf w S vi e.items

theorem own_one (W : World) (base : Nat) (h : base ≤ W.heap.size) (x : Ot) : (W.alloc (.cells #[.int .i64 x.kind, .string x.job, .string x.worker] 125)).ownsRow base 125 3 (.slice (some ⟨W.heap.size, 0, none⟩) 1 1) [x].length (otCells [x]) :=
  ⟨rfl, .inr ⟨W.heap.size, 1, #[.int .i64 x.kind, .string x.job, .string x.worker], rfl, h, heap_alloc_new W _, Nat.le_refl _, by decide, rfl, rfl⟩⟩

set_option maxRecDepth 100000 in
set_option maxHeartbeats 1000000 in
theorem end_any (s : St) (vp vj vw v : Value) (base : Bs) (g : Nat) (e : Ev) (w : World) (h : Aft w base g vp vj vw s) (he : EvOf w (inn base) v e) (ht : ∀ j ∈ s.jobs, j.tries ≤ 9223372036854775806 ∧ 0 ≤ j.tries) :
    Calls Tryz.prog 80 #[.pointer (some ⟨g, 0, none⟩), v] w (MethPost2 base g (endE s e) (endO s e) (endS s e) w) := by
  obtain ⟨vn, vi, rfl, hvn, hvi⟩ := he
  obtain ⟨Ai, ni, ci, rfl, -⟩ := (id hvi : ItemsOf _ _ _ _)
  have HVI := Lib.hid hvi
  obtain ⟨W0, hW0⟩ : ∃ W0, W0 = w.alloc (.cells #[.int .i64 e.kind, .string e.name, .string e.worker, vn, .int .i64 e.ticks, .slice Ai ni ci] 78) := ⟨_, rfl⟩
  have k0 : Keep none_ w W0 := hW0 ▸ (Keep.refl _ _).alloc _
  have b0 : Blk W0 w.heap.size 78 #[.int .i64 e.kind, .string e.name, .string e.worker, vn, .int .i64 e.ticks, .slice Ai ni ci] := hW0 ▸ Blk.new _ _ _
  have a0 := h.keep k0
  obtain ⟨Aw, cw, rfl, hw⟩ := ElemsOf_wks (S := none_) a0.wks (fun _ _ e => e)
  obtain ⟨Aj, cj, rfl, hj⟩ := ElemsOf_jobs a0.jobs
  have g3 := a0.blk.cell 3
  have g2 := a0.blk.cell 2
  have d0 := b0.cell 0
  have d1 := b0.cell 1
  have d2 := b0.cell 2
  have d5 := b0.cell 5
  simp only [List.getElem?_toArray, List.getElem?_cons_zero, List.getElem?_cons_succ] at g3 g2 d0 d1 d2 d5
  obtain ⟨-, q1, q2⟩ := hj.facts
  unfold maxLen at q2
  have AL := Lib.hid (alive_any s.workers Aw s.workers.length cw g none_ e.worker W0 g3 hw)
  have HA := Lib.hid a0
  have HJ := Lib.hid hj
  have K0 := Lib.hid k0
  have HB := Lib.hid b0
  clear hvn hvi h a0 hw k0 b0
  by_cases ha : aliveE s.workers e.worker = 0
  · rw [ha] at AL
    rcases idx_cases (fun y : Jb => strEq y.name e.name) s.jobs with hi | ⟨k, hk, hi, -⟩
    · have ee : endE s e = 7 := by unfold endE; rw [if_neg (by simp [ha]), jbIdx, hi]; rfl
      have E1 := Lib.hid ee
      have E2 := Lib.hid (show endS s e = s by unfold endS; rw [ee]; rfl)
      have E3 := Lib.hid (show endO s e = [] by unfold endO; rw [ee]; rfl)
      have HI := Lib.hid hi
      clear ee ha hi hj
      go_enter Tryz.func80, Tryz.ntmps80
      go_upto_region 1 with (fail)
      rw [← hW0]
      clear hW0
      go_upto_region 4 with (go_at_call 101; refine AL.out.mono ?_; rintro e w5 ⟨rfl, k5⟩)
      have JB := Lib.hid (job_any s.jobs Aj s.jobs.length cj g none_ e.name w5 (k5.cell g2 (fun e => e)) (HJ.out.keep k5))
      rw [HI.out] at JB
      replace d1 := k5.cell d1 (fun e => e)
      go_wp2_with (go_at_call 97; refine JB.out.mono ?_; rintro e w6 ⟨rfl, k6⟩)
      go_ret2
      exact ⟨_, _, _, _, by rw [E1.out]; rfl, by rw [E3.out]; exact ⟨rfl, .inl ⟨rfl, rfl⟩⟩, by rw [E2.out]; exact HA.out.keep (k5.trans k6), (K0.out.trans (k5.trans k6)).weak⟩
    · obtain ⟨b', o', eA, -, hkl, cs, -, hrg, jn, ji, hcs, -, -⟩ := hj.elem k hk
      obtain ⟨css, j1, j2, j3, j4⟩ := HA.out.jobs
      obtain ⟨b, cap, cur, eV, hb1, hb2, hb3⟩ := own_cases j3 (by omega)
      simp only [Value.slice.injEq, true_and] at eV
      obtain ⟨rfl, rfl⟩ := eV
      simp only [Option.some.injEq, Addr.mk.injEq, and_true] at eA
      obtain ⟨rfl, rfl⟩ := eA
      have tr := ht _ (List.getElem_mem hk)
      have gj : s.jobs[k]? = some s.jobs[k] := List.getElem?_eq_getElem hk
      have idx : jbIdx s.jobs e.name = k := hi
      have HI := Lib.hid hi
      obtain ⟨j, hjj⟩ : ∃ j, j = s.jobs[k] := ⟨_, rfl⟩
      rw [← hjj] at hcs tr gj
      subst hcs
      have y2 : W0.cell? ⟨b, 0 + k * 7 + 2, none⟩ = some (.string j.worker) := hrg 2 _ rfl
      have y3 : W0.cell? ⟨b, 0 + k * 7 + 3, none⟩ = some (.int .i64 j.until_) := hrg 3 _ rfl
      have y4 : W0.cell? ⟨b, 0 + k * 7 + 4, none⟩ = some (.int .i64 j.tries) := hrg 4 _ rfl
      rw [Nat.zero_add] at y2 y3 y4
      have hkn' : (k : Int) < s.jobs.length := by omega
      have ee : endE s e = if strEq j.worker e.worker then 0 else 13 := by
        unfold endE
        rw [if_neg (by simp [ha]), idx, if_neg (by omega), Int.toNat_natCast, gj]
      cases hs : strEq j.worker e.worker with
      | false =>
        rw [hs] at ee
        have E1 := Lib.hid ee
        have E2 := Lib.hid (show endS s e = s by unfold endS; rw [ee]; rfl)
        have E3 := Lib.hid (show endO s e = [] by unfold endO; rw [ee]; rfl)
        have hs' : (j.worker.toList == e.worker.toList) = false := hs
        clear ee ha hi hj gj idx hs hjj hrg j1 j2 j3 j4 hb3
        go_enter Tryz.func80, Tryz.ntmps80
        go_upto_region 1 with (fail)
        rw [← hW0]
        clear hW0
        go_upto_region 4 with (go_at_call 101; refine AL.out.mono ?_; rintro e w5 ⟨rfl, k5⟩)
        have JB := Lib.hid (job_any s.jobs (some ⟨b, 0, none⟩) s.jobs.length cj g none_ e.name w5 (k5.cell g2 (fun e => e)) (HJ.out.keep k5))
        rw [HI.out] at JB
        replace d1 := k5.cell d1 (fun e => e)
        go_upto_region 7 with (go_at_call 97; refine JB.out.mono ?_; rintro e w6 ⟨rfl, k6⟩)
        have k56 := k5.trans k6
        replace g2 := k56.cell g2 (fun e => e)
        replace d2 := k56.cell d2 (fun e => e)
        replace y2 := k56.cell y2 (fun e => e)
        have H6 := Lib.hid (HA.out.keep k56)
        have K6 := Lib.hid (K0.out.trans k56)
        clear k5 k6 k56
        go_upto_region 8 with (fail)
        go_quiet (fail)
        go_wp2
        go_ret2
        exact ⟨_, _, _, _, by rw [E1.out]; rfl, by rw [E3.out]; exact ⟨rfl, .inl ⟨rfl, rfl⟩⟩, by rw [E2.out]; exact H6.out.keep ((Keep.refl none_ _).drewN _), K6.out.weak.drewN _⟩
      | true =>
        rw [hs, if_pos rfl] at ee
        have E1 := Lib.hid ee
        have E2 := Lib.hid (show endS s e = { s with jobs := s.jobs.set k (doneJ j e) } by unfold endS; rw [ee, if_pos rfl, idx, Int.toNat_natCast, gj])
        have E3 := Lib.hid (show endO s e = [⟨if e.kind = 7 then 2 else 4, e.name, e.worker⟩] by unfold endO; rw [ee, if_pos rfl])
        have hs' : (j.worker.toList == e.worker.toList) = true := hs
        have y5 : W0.cell? ⟨b, 0 + k * 7 + 5, none⟩ = some (.bool j.done) := hrg 5 _ rfl
        have y6 : W0.cell? ⟨b, 0 + k * 7 + 6, none⟩ = some ji := hrg 6 _ rfl
        rw [Nat.zero_add] at y5 y6
        have HJ2 := Lib.hid hjj
        have EW := Lib.hid (strEq_iff.1 hs)
        clear ee ha hi hj gj idx hs hjj hrg j1 j2 j3 j4 hb3
        go_enter Tryz.func80, Tryz.ntmps80
        go_upto_region 1 with (fail)
        rw [← hW0]
        clear hW0
        go_upto_region 4 with (go_at_call 101; refine AL.out.mono ?_; rintro e w5 ⟨rfl, k5⟩)
        have JB := Lib.hid (job_any s.jobs (some ⟨b, 0, none⟩) s.jobs.length cj g none_ e.name w5 (k5.cell g2 (fun e => e)) (HJ.out.keep k5))
        rw [HI.out] at JB
        replace d1 := k5.cell d1 (fun e => e)
        go_upto_region 7 with (go_at_call 97; refine JB.out.mono ?_; rintro e w6 ⟨rfl, k6⟩)
        have k56 := k5.trans k6
        replace g2 := k56.cell g2 (fun e => e)
        replace d0 := k56.cell d0 (fun e => e)
        replace d1 := k6.cell d1 (fun e => e)
        replace d2 := k56.cell d2 (fun e => e)
        replace d5 := k56.cell d5 (fun e => e)
        replace y2 := k56.cell y2 (fun e => e)
        replace y3 := k56.cell y3 (fun e => e)
        replace y4 := k56.cell y4 (fun e => e)
        replace y5 := k56.cell y5 (fun e => e)
        replace y6 := k56.cell y6 (fun e => e)
        replace hb2 := hb2.keep k56 (fun e => e)
        have HB6 := Lib.hid (HB.out.keep k56 (fun e => e))
        have HVI6 := Lib.hid (HVI.out.keep (K0.out.trans k56).weak)
        have H6 := Lib.hid (HA.out.keep k56)
        have K6 := Lib.hid (K0.out.trans k56)
        clear k5 k6 k56 HB HVI HA K0 HJ JB AL
        go_upto_region 8 with (fail)
        go_quiet (fail)
        go_upto_region 10 with (fail)
        obtain ⟨w7, hw7⟩ : ∃ w7, w7 = w6.drewN nq := ⟨_, rfl⟩
        have k67 : Keep none_ w6 w7 := hw7 ▸ (Keep.refl none_ _).drewN nq
        rw [← hw7]
        clear hw7 g2 g3
        replace d0 := k67.cell d0 (fun e => e)
        replace d1 := k67.cell d1 (fun e => e)
        replace d2 := k67.cell d2 (fun e => e)
        replace d5 := k67.cell d5 (fun e => e)
        replace y2 := k67.cell y2 (fun e => e)
        replace y3 := k67.cell y3 (fun e => e)
        replace y4 := k67.cell y4 (fun e => e)
        replace y5 := k67.cell y5 (fun e => e)
        replace y6 := k67.cell y6 (fun e => e)
        replace hb2 := hb2.keep k67 (fun e => e)
        have H7 := Lib.hid (H6.out.keep k67)
        have HVI7 := Lib.hid (HVI6.out.keep k67.weak)
        have neb := Lib.hid ((HB6.out.keep k67 (fun e => e)).ne_ hb2 (by decide))
        have K7 := Lib.hid (K6.out.trans k67)
        clear H6 HVI6 HB6 K6 k67
        -- worker and time
        have f2 := hb2.frozen (k * 7 + 2)
        have p3 : (w7.setCell ⟨b, k * 7 + 2, none⟩ (.string ⟨#[]⟩)).cell? ⟨b, k * 7 + 3, none⟩ = some (.int .i64 j.until_) := by
          rw [hb2.cell] at y3
          rw [(hb2.set_ (k * 7 + 2) (.string ⟨#[]⟩)).cell, Array.getElem?_setIfInBounds_ne (by omega)]
          exact y3
        have f3 := (hb2.set_ (k * 7 + 2) (.string ⟨#[]⟩)).frozen (k * 7 + 3)
        obtain ⟨a8, q8⟩ := H7.out.setJob k hk 2 (by decide) (.string ⟨#[]⟩) { j with worker := ⟨#[]⟩ } (fun cs h => by
          rw [← HJ2.out] at h
          obtain ⟨vn, vi, rfl, g1, g2⟩ := h
          exact ⟨vn, vi, rfl, g1, g2⟩)
        have hl8 : ({ s with jobs := s.jobs.set k { j with worker := ⟨#[]⟩ } } : St).jobs.length = s.jobs.length := by simp
        rw [← hl8] at a8
        obtain ⟨a9, q9⟩ := a8.setJob k (by rw [hl8]; exact hk) 3 (by decide) (.int .i64 0) { j with worker := ⟨#[]⟩, until_ := 0 } (fun cs h => by
          simp only [List.getElem_set_self] at h
          obtain ⟨vn, vi, rfl, g1, g2⟩ := h
          exact ⟨vn, vi, rfl, g1, g2⟩)
        simp only [List.set_set] at a9
        rw [hl8] at a9
        obtain ⟨w8, hw8⟩ : ∃ w8, w8 = (w7.setCell ⟨b, k * 7 + 2, none⟩ (.string ⟨#[]⟩)).setCell ⟨b, k * 7 + 3, none⟩ (.int .i64 0) := ⟨_, rfl⟩
        have hb8 := (hb2.set_ (k * 7 + 2) (.string ⟨#[]⟩)).set_ (k * 7 + 3) (.int .i64 0)
        have kb8 : Keep (one b) w7 w8 := hw8 ▸ ((Keep.refl (one b) w7).setCell (p := ⟨b, k * 7 + 2, none⟩) (.inl rfl) _).setCell (p := ⟨b, k * 7 + 3, none⟩) (.inl rfl) _
        have r4 : w8.cell? ⟨b, k * 7 + 4, none⟩ = some (.int .i64 j.tries) := by
          rw [hb2.cell] at y4
          rw [hw8, hb8.cell, Array.getElem?_setIfInBounds_ne (by omega), Array.getElem?_setIfInBounds_ne (by omega)]
          exact y4
        have r5 : w8.cell? ⟨b, k * 7 + 5, none⟩ = some (.bool j.done) := by
          rw [hb2.cell] at y5
          rw [hw8, hb8.cell, Array.getElem?_setIfInBounds_ne (by omega), Array.getElem?_setIfInBounds_ne (by omega)]
          exact y5
        have r6 : w8.cell? ⟨b, k * 7 + 6, none⟩ = some ji := by
          rw [hb2.cell] at y6
          rw [hw8, hb8.cell, Array.getElem?_setIfInBounds_ne (by omega), Array.getElem?_setIfInBounds_ne (by omega)]
          exact y6
        rw [← hw8] at a9 hb8
        have K8 : Keep (ge base) w w8 := K7.out.weak.trans (kb8.mono (fun x e => by cases e; exact hb1))
        have nw : ¬ one b w.heap.size := neb.out
        replace d0 := kb8.cell d0 nw
        replace d1 := kb8.cell d1 nw
        replace d2 := kb8.cell d2 nw
        replace d5 := kb8.cell d5 nw
        have HVI8 := Lib.hid (HVI7.out.keep (kb8.mono (fun x e => by cases e; exact inn_ge _ hb1)))
        have A8 := Lib.hid a9
        have HB8 := Lib.hid hb8
        go_upto_region 11 with (fail)
        rw [← hw8]
        clear hw8 y2 y3 y4 y5 y6 p3 f2 f3 hb8 hb2 a8 a9 q8 q9 hl8 kb8 H7 HVI7 K7
        have lb8 := A8.out.blk.lt
        go_upto_region 12 with (fail)
        obtain ⟨w9, hw9⟩ : ∃ w9, w9 = w8.alloc (.cells #[.int .i64 2, .string e.name, .string e.worker] 125) := ⟨_, rfl⟩
        have k89 : Keep none_ w8 w9 := hw9 ▸ (Keep.refl none_ w8).alloc _
        have b9 : Blk w9 w8.heap.size 125 #[.int .i64 2, .string e.name, .string e.worker] := hw9 ▸ Blk.new _ _ _
        rw [← hw9]
        clear hw9
        replace d0 := k89.cell d0 (fun e => e)
        replace d5 := k89.cell d5 (fun e => e)
        replace r4 := k89.cell r4 (fun e => e)
        replace r5 := k89.cell r5 (fun e => e)
        replace r6 := k89.cell r6 (fun e => e)
        have hb9 := HB8.out.keep k89 (fun e => e)
        have A9 := Lib.hid (A8.out.keep k89)
        have HVI9 := Lib.hid (HVI8.out.keep k89.weak)
        have K9 := Lib.hid (K8.trans k89.weak)
        have nob := Lib.hid (b9.ne_ hb9 (by decide))
        have lbb := hb9.lt
        clear k89 HB8 A8 HVI8 K8 d1 d2
        by_cases h7 : e.kind = 7
        · have E4 := Lib.hid (show doneJ j e = { j with worker := ⟨#[]⟩, until_ := 0, done := true, items := e.items } by unfold doneJ; rw [if_pos h7])
          have h7' : (e.kind == 7) = true := by simpa using h7
          rw [h7] at d0
          rw [if_pos h7] at E3
          clear h7 h7'
          go_upto_region 13 with (fail)
          have f5 := hb9.frozen (k * 7 + 5)
          have xd : ∀ x, ((storeCalm w9.drew ((w9.setCell ⟨b, k * 7 + 5, none⟩ (.bool true)).drew) 6).at_ x).cell? ⟨w.heap.size, 5, none⟩ = some (.slice Ai ni ci) := fun x => by
            rcases store_at _ _ _ x with h | h
            · rw [h]; exact d5
            · rw [h]; exact ((Keep.refl (one b) w9).setCell (p := ⟨b, k * 7 + 5, none⟩) (.inl rfl) (.bool true)).drew.cell d5 nw
          have gd := store_good (w9).drew ((w9.setCell ⟨b, k * 7 + 5, none⟩ (.bool true)).drew) 6
          have ne := store_some (w9).drew ((w9.setCell ⟨b, k * 7 + 5, none⟩ (.bool true)).drew) 6
          refine wp_region_calm (storeCalm (w9).drew ((w9.setCell ⟨b, k * 7 + 5, none⟩ (.bool true)).drew) 6) [0, 1, 2, 3, 4, 5, 6, 7, 8] [9] 68 (by kernel_rfl) (by kernel_rfl) rfl gd (.inl rfl) ?_
          simp only [pairs, List.filterMap_cons, List.filterMap_nil, List.getElem?_toArray, List.getElem?_cons_succ, List.getElem?_cons_zero, Option.map_some]
          repeat (refine Calm.walk_quiet ne rfl rfl rfl (fun K hK => ?_); go_big_quiet_op; refine hK _ ?_; clear hK K)
          refine Calm.walk_eff rfl rfl (fun n w1 hn hG _ => ?_) ?_
          · have e1 := store_first hn hG
            subst e1
            unfold gives
            go_simp
            exact ⟨rfl, ⟨rfl, by simp⟩, .inr ⟨by omega, rfl⟩, fun _ h => h.elim⟩
          rintro v w1 -
          clear w1
          go_frame
          repeat (refine Calm.walk_quiet ne rfl rfl rfl (fun K hK => ?_); go_big_quiet_op; refine hK _ ?_; clear hK K)
          intro w' hG hD
          obtain rfl : w' = (w9.setCell ⟨b, k * 7 + 5, none⟩ (.bool true)).drew := (hD.1 6 rfl _ rfl ⟨rfl, rfl⟩).1
          clear hD hG gd ne xd
          have hl9 : ({ s with jobs := s.jobs.set k { j with worker := ⟨#[]⟩, until_ := 0 } } : St).jobs.length = s.jobs.length := by simp
          have a9 := A9.out
          rw [← hl9] at a9
          obtain ⟨aA, qA⟩ := a9.setJob k (by rw [hl9]; exact hk) 5 (by decide) (.bool true) { j with worker := ⟨#[]⟩, until_ := 0, done := true } (fun cs h => by
            simp only [List.getElem_set_self] at h
            obtain ⟨vn, vi, rfl, g1, g2⟩ := h
            exact ⟨vn, vi, rfl, g1, g2⟩)
          simp only [List.set_set] at aA
          rw [hl9] at aA
          have kbA : Keep (one b) w9 (w9.setCell ⟨b, k * 7 + 5, none⟩ (.bool true)).drew := ((Keep.refl (one b) w9).setCell (p := ⟨b, k * 7 + 5, none⟩) (.inl rfl) (.bool true)).drew
          obtain ⟨wA, hwA⟩ : ∃ wA, wA = (w9.setCell ⟨b, k * 7 + 5, none⟩ (.bool true)).drew := ⟨_, rfl⟩
          have aA' : Aft wA base g vp (.slice (some ⟨b, 0, none⟩) s.jobs.length cj) (.slice Aw s.workers.length cw) { s with jobs := s.jobs.set k { j with worker := ⟨#[]⟩, until_ := 0, done := true } } := hwA ▸ aA.keep ((Keep.refl none_ _).drew)
          have hbA : Blk wA b 57 _ := hwA ▸ (hb9.set_ (k * 7 + 5) (.bool true)).drew
          have rA6 : wA.cell? ⟨b, k * 7 + 6, none⟩ = some ji := by
            rw [hb9.cell] at r6
            rw [hbA.cell, Array.getElem?_setIfInBounds_ne (by omega)]
            exact r6
          rw [← hwA] at kbA
          have bA := b9.keep kbA nob.out
          have fA6 := hbA.frozen (k * 7 + 6)
          have HVA := Lib.hid (HVI9.out.keep (kbA.mono (fun x e => by cases e; exact inn_ge _ hb1)))
          have KA := Lib.hid (K9.out.trans (kbA.mono (fun x e => by cases e; exact hb1)))
          rw [← hwA]
          clear hwA a9 aA qA A9 hb9 b9 HVI9 K9 r4 r5 r6 d5 kbA f5
          have hlA : ({ s with jobs := s.jobs.set k { j with worker := ⟨#[]⟩, until_ := 0, done := true } } : St).jobs.length = s.jobs.length := by simp
          rw [← hlA] at aA'
          obtain ⟨aB, qB⟩ := aA'.setJob k (by rw [hlA]; exact hk) 6 (by decide) (.slice Ai ni ci) { j with worker := ⟨#[]⟩, until_ := 0, done := true, items := e.items } (fun cs h => by
            simp only [List.getElem_set_self] at h
            obtain ⟨vn, vi, rfl, g1, g2⟩ := h
            exact ⟨vn, .slice Ai ni ci, rfl, g1, HVA.out⟩)
          simp only [List.set_set] at aB
          rw [hlA] at aB
          have kbB : Keep (one b) wA (wA.setCell ⟨b, k * 7 + 6, none⟩ (.slice Ai ni ci)) := (Keep.refl (one b) wA).setCell (p := ⟨b, k * 7 + 6, none⟩) (.inl rfl) _
          obtain ⟨wB, hwB⟩ : ∃ wB, wB = wA.setCell ⟨b, k * 7 + 6, none⟩ (.slice Ai ni ci) := ⟨_, rfl⟩
          rw [← hwB] at aB qB kbB
          have bB := bA.keep kbB nob.out
          have AB := Lib.hid aB
          have KB := Lib.hid (KA.out.trans qB)
          simp only [pickOps, List.filterMap_cons, List.filterMap_nil, List.getElem?_toArray, List.getElem?_cons_succ, List.getElem?_cons_zero]
          go_upto_region 16 with (fail)
          rw [← hwB]
          clear hwB aA' aB qB kbB bA hbA rA6 fA6 HVA KA hlA hl9
          have t1 : True := trivial
          go_wp2_with (have _t := t1; refine wpList_load_blk rfl 125 (.tmp 9) rfl w8.heap.size 125 #[.int .i64 2, .string e.name, .string e.worker] _ rfl bB Tryz.underlying125 rfl (by kernel_rfl) ?_; go_frame; clear _t t1)
          go_ret2
          refine ⟨_, _, _, _, by rw [E1.out]; rfl, by rw [E3.out]; exact own_one wB base (Nat.le_trans AB.out.ge_ (Nat.le_of_lt AB.out.blk.lt)) ⟨2, e.name, e.worker⟩, by rw [E2.out, E4.out]; exact AB.out.keep ((Keep.refl none_ _).alloc _), KB.out.trans ((Keep.refl none_ _).alloc _).weak⟩
        · have E4 := Lib.hid (show doneJ j e = { j with worker := ⟨#[]⟩, until_ := 0, tries := j.tries + 1 } by unfold doneJ; rw [if_neg h7])
          have h7' : (e.kind == 7) = false := by simpa using h7
          rw [if_neg h7] at E3
          have hl9 : ({ s with jobs := s.jobs.set k { j with worker := ⟨#[]⟩, until_ := 0 } } : St).jobs.length = s.jobs.length := by simp
          have a9 := A9.out
          rw [← hl9] at a9
          obtain ⟨aA, qA⟩ := a9.setJob k (by rw [hl9]; exact hk) 4 (by decide) (.int .i64 (j.tries + 1)) { j with worker := ⟨#[]⟩, until_ := 0, tries := j.tries + 1 } (fun cs h => by
            simp only [List.getElem_set_self] at h
            obtain ⟨vn, vi, rfl, g1, g2⟩ := h
            exact ⟨vn, vi, rfl, g1, g2⟩)
          simp only [List.set_set] at aA
          rw [hl9] at aA
          have kbA : Keep (one b) w9 (w9.setCell ⟨b, k * 7 + 4, none⟩ (.int .i64 (j.tries + 1))) := (Keep.refl (one b) w9).setCell (p := ⟨b, k * 7 + 4, none⟩) (.inl rfl) _
          have f4 := hb9.frozen (k * 7 + 4)
          obtain ⟨tr1, tr2⟩ := tr
          obtain ⟨wA, hwA⟩ : ∃ wA, wA = w9.setCell ⟨b, k * 7 + 4, none⟩ (.int .i64 (j.tries + 1)) := ⟨_, rfl⟩
          have bA := b9.keep kbA nob.out
          rw [← hwA] at aA qA kbA bA
          have KA := Lib.hid (K9.out.trans qA)
          have hbA := hb9.keep kbA
          go_upto_region 15 with (fail)
          rw [← hwA]
          clear hwA
          have noo : ¬ one w8.heap.size g := fun x => (aA.blk.ne_ bA (by decide)) x
          have oc := bA.cell 0
          have of := bA.frozen 0
          simp only [List.getElem?_toArray, List.getElem?_cons_zero] at oc
          obtain ⟨css2, i1, i2, i3, i4⟩ := aA.jobs
          have kO : Keep (one w8.heap.size) wA (wA.setCell ⟨w8.heap.size, 0, none⟩ (.int .i64 4)) := (Keep.refl (one w8.heap.size) wA).setCell (p := ⟨w8.heap.size, 0, none⟩) (.inl rfl) _
          have lb9 : base ≤ w8.heap.size := Nat.le_trans aA.ge_ (Nat.le_of_lt lb8)
          obtain ⟨wB, hwB⟩ : ∃ wB, wB = wA.setCell ⟨w8.heap.size, 0, none⟩ (.int .i64 4) := ⟨_, rfl⟩
          have bB : Blk wB w8.heap.size 125 #[.int .i64 4, .string e.name, .string e.worker] := by
            have := bA.set_ 0 (.int .i64 4)
            rw [hwB]
            simpa using this
          rw [← hwB] at kO
          have AB := Lib.hid (aA.far kO noo (fun x e => by cases e; exact lb9) (own_apart aA.strs bA (by decide)) (own_apart i3 bA (by decide)) (own_apart aA.wks bA (by decide)))
          have KB := Lib.hid (KA.out.trans (kO.mono (fun x e => by cases e; exact lb9)))
          go_upto_region 16 with (fail)
          rw [← hwB]
          clear hwB aA qA kbA bA KA hbA kO i1 i2 i3 i4 a9 A9 hb9 b9 HVI9 K9 oc of hl9
          have t1 : True := trivial
          go_wp2_with (have _t := t1; refine wpList_load_blk rfl 125 (.tmp 9) rfl w8.heap.size 125 #[.int .i64 4, .string e.name, .string e.worker] _ rfl bB Tryz.underlying125 rfl (by kernel_rfl) ?_; go_frame; clear _t t1)
          go_ret2
          refine ⟨_, _, _, _, by rw [E1.out]; rfl, by rw [E3.out]; exact own_one wB base (Nat.le_trans AB.out.ge_ (Nat.le_of_lt AB.out.blk.lt)) ⟨4, e.name, e.worker⟩, by rw [E2.out, E4.out]; exact AB.out.keep ((Keep.refl none_ _).alloc _), KB.out.trans ((Keep.refl none_ _).alloc _).weak⟩
  · have ee : endE s e = aliveE s.workers e.worker := by unfold endE; rw [if_pos ha]
    have E1 := Lib.hid ee
    have E2 := Lib.hid (show endS s e = s by unfold endS; rw [ee, if_neg ha])
    have E3 := Lib.hid (show endO s e = [] by unfold endO; rw [ee, if_neg ha])
    have ha' : (aliveE s.workers e.worker != 0) = true := by simpa using ha
    clear ee ha hj
    go_enter Tryz.func80, Tryz.ntmps80
    go_upto_region 1 with (fail)
    rw [← hW0]
    clear hW0
    go_wp2_with (go_at_call 101; refine AL.out.mono ?_; rintro e w5 ⟨rfl, k5⟩)
    go_ret2
    exact ⟨_, _, _, _, by rw [E1.out]; rfl, by rw [E3.out]; exact ⟨rfl, .inl ⟨rfl, rfl⟩⟩, by rw [E2.out]; exact HA.out.keep k5, (K0.out.trans k5).weak⟩
end Go.Proofs.YtnefbeplgfdkkaaGreatDoor
