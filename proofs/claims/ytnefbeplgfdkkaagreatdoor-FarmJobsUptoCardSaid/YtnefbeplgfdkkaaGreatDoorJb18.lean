/-
  (*State).tick.
-/
import Derived.Test.YtnefbeplgfdkkaaGreatDoorJb10
namespace Go.Proofs.YtnefbeplgfdkkaaGreatDoor
open Go.RowKit

/-- 37.3: the time of a job's worker has passed. -/
def lapsed (now : Int) (j : Jb) : Bool := !strEq j.worker ⟨#[]⟩ && decide (j.until_ ≤ now)
def relJ (now : Int) (j : Jb) : Jb := if lapsed now j then { j with worker := ⟨#[]⟩, until_ := 0 } else j
def tickTo (s : St) (now : Int) (k : Nat) : St := { s with now := now, jobs := (s.jobs.take k).map (relJ now) ++ s.jobs.drop k }
def outsTo (s : St) (now : Int) (k : Nat) : List Ot := ((s.jobs.take k).filter (lapsed now)).map fun j => ⟨3, j.name, j.worker⟩
def tickE (s : St) (t : Int) : Int := if 1099511627776 < s.now + t then 2 else 0
def tickS (s : St) (t : Int) : St := if 1099511627776 < s.now + t then s else tickTo s (s.now + t) s.jobs.length
def tickO (s : St) (t : Int) : List Ot := if 1099511627776 < s.now + t then [] else outsTo s (s.now + t) s.jobs.length
theorem tickTo_len (s : St) (now : Int) (k : Nat) : (tickTo s now k).jobs.length = s.jobs.length := by simp [tickTo]; omega
theorem tickTo_get (s : St) (now : Int) (k : Nat) (h : k < s.jobs.length) : (tickTo s now k).jobs[k]'(by rw [tickTo_len]; exact h) = s.jobs[k] := by
  simp only [tickTo]
  rw [List.getElem_append_right (by simp; omega)]
  simp [List.length_take, Nat.min_eq_left (Nat.le_of_lt h)]
theorem tickTo_set (s : St) (now : Int) (k : Nat) (h : k < s.jobs.length) : { tickTo s now k with jobs := (tickTo s now k).jobs.set k (relJ now s.jobs[k]) } = tickTo s now (k + 1) := by
  simp only [tickTo, St.mk.injEq, true_and, and_true]
  have hl : ((s.jobs.take k).map (relJ now)).length = k := by simp; omega
  rw [List.set_append_right _ _ (by omega), hl, Nat.sub_self, List.drop_eq_getElem_cons h, List.set_cons_zero, List.take_succ_eq_append_getElem h, List.map_append, List.append_assoc]
  rfl
theorem tickTo_same (s : St) (now : Int) (k : Nat) (h : k < s.jobs.length) (hl : lapsed now s.jobs[k] = false) : tickTo s now k = tickTo s now (k + 1) := by
  rw [← tickTo_set s now k h]
  have : relJ now s.jobs[k] = s.jobs[k] := by unfold relJ; rw [hl]; rfl
  rw [this, ← tickTo_get s now k h, List.set_getElem_self]
theorem outsTo_yes (s : St) (now : Int) (k : Nat) (h : k < s.jobs.length) (hl : lapsed now s.jobs[k] = true) : outsTo s now (k + 1) = outsTo s now k ++ [⟨3, s.jobs[k].name, s.jobs[k].worker⟩] := by
  unfold outsTo
  rw [List.take_succ_eq_append_getElem h, List.filter_append]
  simp [hl]
theorem outsTo_no (s : St) (now : Int) (k : Nat) (h : k < s.jobs.length) (hl : lapsed now s.jobs[k] = false) : outsTo s now (k + 1) = outsTo s now k := by
  unfold outsTo
  rw [List.take_succ_eq_append_getElem h, List.filter_append]
  simp [hl]
theorem outsTo_le (s : St) (now : Int) (k : Nat) : (outsTo s now k).length ≤ k := by
  unfold outsTo
  rw [List.length_map]
  exact Nat.le_trans (List.length_filter_le _ _) (by simp; omega)

set_option maxRecDepth 100000 in
set_option maxHeartbeats 1000000 in
theorem tick_any (s : St) (vp vj vw : Value) (base : Bs) (g : Nat) (t : Int) (w : World) (h : Aft w base g vp vj vw s) (h0 : 0 ≤ s.now) (h1 : s.now ≤ 1099511627776) (t0 : 1 ≤ t) (t1 : t ≤ 1000) (hj : s.jobs.length ≤ 64) :
    Calls Tryz.prog 81 #[.pointer (some ⟨g, 0, none⟩), .int .i64 t] w (MethPost2 base g (tickE s t) (tickO s t) (tickS s t) w) := by
  have c0 := h.blk.cell 0
  have f0 := h.blk.frozen 0
  simp only [List.getElem?_toArray, List.getElem?_cons_zero] at c0
  have HA := Lib.hid h
  by_cases hr : 1099511627776 < s.now + t
  · have E1 := Lib.hid (show tickE s t = 2 by unfold tickE; rw [if_pos hr])
    have E2 := Lib.hid (show tickS s t = s by unfold tickS; rw [if_pos hr])
    have E3 := Lib.hid (show tickO s t = [] by unfold tickO; rw [if_pos hr])
    clear h
    go_enter Tryz.func81, Tryz.ntmps81
    go_wp2
    go_ret2
    exact ⟨_, _, _, _, by rw [E1.out]; rfl, by rw [E3.out]; exact ⟨rfl, .inl ⟨rfl, rfl⟩⟩, by rw [E2.out]; exact HA.out, Keep.refl _ _⟩
  · obtain ⟨now, hnow⟩ : ∃ now, now = s.now + t := ⟨_, rfl⟩
    have E1 := Lib.hid (show tickE s t = 0 by unfold tickE; rw [if_neg hr])
    have E2 := Lib.hid (show tickS s t = tickTo s now s.jobs.length by unfold tickS; rw [if_neg hr, hnow])
    have E3 := Lib.hid (show tickO s t = outsTo s now s.jobs.length by unfold tickO; rw [if_neg hr, hnow])
    obtain ⟨A, c, rfl, hjj⟩ := ElemsOf_jobs h.jobs
    obtain ⟨q1, q2⟩ := h.setNow (s.now + t)
    have k1 := Lib.hid q2
    have a1 := Lib.hid (show Aft (w.setCell ⟨g, 0, none⟩ (.int .i64 (s.now + t))) base g vp (.slice A s.jobs.length c) vw (tickTo s (s.now + t) 0) by unfold tickTo; simpa using q1)
    have b1 := q1.blk.cell 2
    simp only [List.getElem?_toArray, List.getElem?_cons_zero, List.getElem?_cons_succ] at b1
    obtain ⟨W1, hW1⟩ : ∃ W1, W1 = w.setCell ⟨g, 0, none⟩ (.int .i64 (s.now + t)) := ⟨_, rfl⟩
    rw [← hW1] at k1 a1 b1
    rw [← hnow] at a1
    clear h q1 q2 hjj
    go_enter Tryz.func81, Tryz.ntmps81
    go_upto_region 4 with (fail)
    rw [← hW1]
    have HN := Lib.hid hnow
    clear hW1 c0 f0 hnow
    go_upto_region 6 with (fail)
    go_loopw [6, 29] (fun o i wr => ∃ k : Nat, k ≤ s.jobs.length ∧ i = .int .i64 k ∧ wr.ownsRow base 125 3 o (outsTo s now k).length (otCells (outsTo s now k)) ∧ Aft wr base g vp (.slice A s.jobs.length c) vw (tickTo s now k) ∧ Keep (ge base) w wr) (fun _ i _ => s.jobs.length - (intOf i).toNat)
    case atStart => exact ⟨0, Nat.zero_le _, rfl, ⟨rfl, .inl ⟨rfl, rfl⟩⟩, a1.out, k1.out⟩
    case round =>
      obtain ⟨k, hk, rfl, hO, hA, hkr⟩ := hrel
      by_cases hlt : k < s.jobs.length
      · have hlt' : (k : Int) < s.jobs.length := by omega
        have hkl : k < (tickTo s now k).jobs.length := by rw [tickTo_len]; exact hlt
        obtain ⟨A', c', eV, hjb⟩ := ElemsOf_jobs hA.jobs
        have hln := tickTo_len s now k
        rw [hln] at eV hjb
        simp only [Value.slice.injEq, true_and] at eV
        obtain ⟨rfl, rfl⟩ := eV
        obtain ⟨css, j1, j2, j3, j4⟩ := hA.jobs
        rw [hln] at j3
        obtain ⟨b, cap, cur, eV, hb1, hb2, hb3⟩ := own_cases j3 (by omega)
        simp only [Value.slice.injEq, true_and] at eV
        obtain ⟨rfl, rfl⟩ := eV
        obtain ⟨b', o', eA, -, hkl2, cs, -, hrg, vn, vi, hcs, -, -⟩ := hjb.elem k hlt
        simp only [Option.some.injEq, Addr.mk.injEq, and_true] at eA
        obtain ⟨rfl, rfl⟩ := eA
        have hget := tickTo_get s now k hlt
        rw [hget] at hcs
        have T1 := Lib.hid (tickTo_set s now k hlt)
        have T2 := Lib.hid (tickTo_same s now k hlt)
        have O1 := Lib.hid (outsTo_yes s now k hlt)
        have O2 := Lib.hid (outsTo_no s now k hlt)
        have OL := outsTo_le s now k
        have HG := Lib.hid hget
        have lap : lapsed now s.jobs[k] = (!strEq s.jobs[k].worker ⟨#[]⟩ && decide (s.jobs[k].until_ ≤ now)) := rfl
        generalize s.jobs[k] = j at hcs T1 T2 O1 O2 HG lap
        subst hcs
        have LAP := Lib.hid lap
        have y0 : wr.cell? ⟨b, 0 + k * 7, none⟩ = some (.string j.name) := hrg 0 _ rfl
        have y2 : wr.cell? ⟨b, 0 + k * 7 + 2, none⟩ = some (.string j.worker) := hrg 2 _ rfl
        have y3 : wr.cell? ⟨b, 0 + k * 7 + 3, none⟩ = some (.int .i64 j.until_) := hrg 3 _ rfl
        rw [Nat.zero_add] at y0 y2 y3
        have z0 := hA.blk.cell 0
        have z2 := hA.blk.cell 2
        simp only [List.getElem?_toArray, List.getElem?_cons_zero, List.getElem?_cons_succ] at z0 z2
        have z0' : wr.cell? ⟨g, 0, none⟩ = some (.int .i64 now) := z0
        have HO := Lib.hid hO
        have HA3 := Lib.hid hA
        clear j1 j2 j4 hrg lap hget z0 hjb hO hA hb3
        go_upto_region 9 with (fail)
        cases he : strEq j.worker ⟨#[]⟩ with
        | true =>
          have e1 : j.worker = ⟨#[]⟩ := strEq_iff.1 he
          have NL := Lib.hid (show lapsed now j = false by rw [LAP.out, he]; rfl)
          rw [e1] at y2
          clear he e1
          go_quiet (fail)
          go_wp2
          go_roundw
          case rel => exact ⟨k + 1, by omega, by go_num, by rw [O2.out NL.out]; exact own_keep HO.out ((Keep.refl none_ _).drewN nq) (fun _ _ e => e), by rw [← T2.out NL.out]; exact HA3.out.keep ((Keep.refl none_ _).drewN nq), hkr.drewN nq⟩
          case measure => simp [intOf]; omega
        | false =>
          have ne0 : j.worker.toList ≠ [] := fun h => by
            have : strEq j.worker ⟨#[]⟩ = true := by unfold strEq; rw [h, ByteArray.toList_eq]; rfl
            rw [he] at this
            cases this
          have ne1 : (j.worker.toList == []) = false := by simpa using ne0
          have ne2 : j.worker.toList.isEmpty = false := by simpa using ne0
          by_cases hu : j.until_ ≤ now
          · have YL := Lib.hid (show lapsed now j = true by rw [LAP.out, he]; simp [hu])
            clear he
            go_quiet (fail)
            go_upto_region 10 with (fail)
            obtain ⟨w1, hw1⟩ : ∃ w1, w1 = wr.drewN nq := ⟨_, rfl⟩
            have kr1 : Keep none_ wr w1 := hw1 ▸ (Keep.refl none_ _).drewN nq
            rw [← hw1]
            clear hw1
            replace y0 := kr1.cell y0 (fun e => e)
            replace y2 := kr1.cell y2 (fun e => e)
            replace y3 := kr1.cell y3 (fun e => e)
            replace hb2 := hb2.keep kr1 (fun e => e)
            have HO1 := Lib.hid (own_keep HO.out kr1 (fun _ _ e => e))
            have HA1 := Lib.hid (HA3.out.keep kr1)
            have kw1 : Keep (ge base) w w1 := hkr.trans kr1.weak
            obtain ⟨Ao, co, rfl, -⟩ := own_row (S := none_) HO1.out (fun _ _ e => e)
            obtain ⟨X, hX⟩ : ∃ X : Value → World → Prop, X = fun v' w' => w'.ownsRow base 125 3 v' ((outsTo s now k).length + 1) (otCells (outsTo s now k) ++ [.int .i64 3, .string j.name, .string j.worker]) := ⟨_, rfl⟩
            have gd := appCalm_good (wr := w1) (S := ofBlk (.slice Ao (outsTo s now k).length co)) (k1 := 10) (k2 := 11) (t := 125) (cs := #[.int .i64 3, .string j.name, .string j.worker]) (X := X) (own_lt HO1.out) (fun v w w' h k => by rw [hX] at *; exact own_keep h k (fun _ _ e => e))
            have HX := Lib.hid hX
            clear hX HO HA3 kr1 hkr z0' z2
            have ne := appCalm_some w1 (ofBlk (.slice Ao (outsTo s now k).length co)) 10 11 125 #[.int .i64 3, .string j.name, .string j.worker] X
            have ob : ¬ ofBlk (.slice Ao (outsTo s now k).length co) b := fun e => own_apart HO1.out hb2 (by decide) b e rfl
            have x1 := fun x => (appCalm_at (wr := w1) (S := ofBlk (.slice Ao (outsTo s now k).length co)) (k1 := 10) (k2 := 11) (t := 125) (cs := #[.int .i64 3, .string j.name, .string j.worker]) (X := X) x).cell y0 ob
            have x2 := fun x => (appCalm_at (wr := w1) (S := ofBlk (.slice Ao (outsTo s now k).length co)) (k1 := 10) (k2 := 11) (t := 125) (cs := #[.int .i64 3, .string j.name, .string j.worker]) (X := X) x).cell y2 ob
            refine wp_region_calm (appCalm w1 (ofBlk (.slice Ao (outsTo s now k).length co)) 10 11 125 #[.int .i64 3, .string j.name, .string j.worker] X) [0, 1, 2, 3, 4, 5, 6, 7, 8, 9, 10, 11] [12] 74 (by kernel_rfl) (by kernel_rfl) rfl gd ⟨(Keep.refl _ _).drew, fun _ => (Keep.refl _ _).drew⟩ ?_
            simp only [pairs, List.filterMap_cons, List.filterMap_nil, List.getElem?_toArray, List.getElem?_cons_succ, List.getElem?_cons_zero, Option.map_some]
            repeat (refine Calm.walk_quiet ne rfl rfl rfl (fun K hK => ?_); go_big_quiet_op; refine hK _ ?_; clear hK K)
            refine Calm.walk_eff rfl rfl (fun n w5 _ hR _ => ?_) ?_
            · unfold gives
              go_simp
              exact ⟨⟨w5.heap.size, hR.1.size, rfl, Blk.new _ _ _⟩, (Keep.refl _ _).alloc _, ⟨hR.1.alloc _, fun hn => (hR.2 (by omega)).alloc _⟩, fun b hb => hb.elim⟩
            rintro v5 w5 ⟨b5, -, rfl, -⟩
            clear w5
            go_frame
            refine Calm.walk_effn rfl rfl (fun n w5 g1 g2 hG hA => ?_) ?_
            · have g2' : n < 2 := g2
              have hk5 : Keep none_ w1 w5 := hG.2 (by omega)
              have hb5 := madeT.slice (hA 10 (List.mem_cons_self ..) _ rfl ⟨rfl, rfl⟩).1
              refine gives_mono (gives_append1 (.tmp 54) (.tmp 64) 49 125 rfl base _ 3 40 Tryz.underlying49 out_info rfl (by omega) (.slice Ao (outsTo s now k).length co) (outsTo s now k).length _ rfl (own_keep HO1.out hk5 (fun _ _ e => e)) b5 #[.int .i64 3, .string j.name, .string j.worker] rfl hb5.2 rfl (by simp [Value.oneCell']) (by omega) (by have := HA1.out.ge_; have := HA1.out.blk.lt; have := hk5.size; omega)) fun v6 w6 h => ?_
              exact ⟨HX.out ▸ h.1, h.2.1, ⟨hk5.weak.trans h.2.1, fun hn => absurd hn (by have g1' : 1 ≤ n := g1; omega)⟩, fun b hb => hb.elim⟩
            rintro v6 w5 -
            clear w5
            go_frame
            intro w5 hG hD
            have hk5 : Keep (ofBlk (.slice Ao (outsTo s now k).length co)) w1 w5 := hG.1
            have hown5 : X v6 w5 := (hD.1 11 rfl _ rfl ⟨rfl, rfl⟩).1
            rw [HX.out] at hown5
            obtain ⟨A6, c6, rfl, -⟩ := own_row (S := none_) hown5 (fun _ _ e => e)
            clear hD hG ne gd x1 x2
            have O5 := Lib.hid hown5
            have ogg : ¬ ofBlk (.slice Ao (outsTo s now k).length co) g := fun e => own_apart HO1.out HA1.out.blk (by decide) g e rfl
            obtain ⟨css1, i1, i2, i3, i4⟩ := HA1.out.jobs
            have a5 : Aft w5 base g vp (.slice (some ⟨b, 0, none⟩) s.jobs.length c) vw (tickTo s now k) := HA1.out.far hk5 ogg (fun x e => own_ge HO1.out x e) (own_apart2 HA1.out.strs HO1.out (by decide)) (own_apart2 i3 HO1.out (by decide)) (own_apart2 HA1.out.wks HO1.out (by decide))
            rw [← hln] at a5
            obtain ⟨a6, k6⟩ := a5.setJob k hkl 2 (by decide) (.string ⟨#[]⟩) { j with worker := ⟨#[]⟩ } (fun cs h => by
              rw [HG.out] at h
              obtain ⟨vn, vi, rfl, g1, g2⟩ := h
              exact ⟨vn, vi, rfl, g1, g2⟩)
            have hl6 : ({ tickTo s now k with jobs := (tickTo s now k).jobs.set k { j with worker := ⟨#[]⟩ } } : St).jobs.length = (tickTo s now k).jobs.length := by simp
            rw [← hl6] at a6
            obtain ⟨a7, k7⟩ := a6.setJob k (by rw [hl6]; exact hkl) 3 (by decide) (.int .i64 0) { j with worker := ⟨#[]⟩, until_ := 0 } (fun cs h => by
              simp only [List.getElem_set_self] at h
              obtain ⟨vn, vi, rfl, g1, g2⟩ := h
              exact ⟨vn, vi, rfl, g1, g2⟩)
            simp only [List.set_set] at a7
            have hrel : ({ j with worker := ⟨#[]⟩, until_ := 0 } : Jb) = relJ now j := by unfold relJ; rw [YL.out]; rfl
            rw [hrel, T1.out, hl6, hln] at a7
            have A7 := Lib.hid a7
            have K7 := Lib.hid ((kw1.trans (hk5.mono (fun x e => own_ge HO1.out x e))).trans (k6.trans k7))
            have hb5 := hb2.keep hk5 ob
            have e2 := hk5.cell y2 ob
            have f2 := hb5.frozen (k * 7 + 2)
            have e3 : (w5.setCell ⟨b, k * 7 + 2, none⟩ (.string ⟨#[]⟩)).cell? ⟨b, k * 7 + 3, none⟩ = some (.int .i64 j.until_) := by
              have q := hk5.cell y3 ob
              rw [hb5.cell] at q
              rw [(hb5.set_ (k * 7 + 2) (.string ⟨#[]⟩)).cell, Array.getElem?_setIfInBounds_ne (by omega)]
              exact q
            have f3 := (hb5.set_ (k * 7 + 2) (.string ⟨#[]⟩)).frozen (k * 7 + 3)
            have kb : Keep (one b) w5 ((w5.setCell ⟨b, k * 7 + 2, none⟩ (.string ⟨#[]⟩)).setCell ⟨b, k * 7 + 3, none⟩ (.int .i64 0)) := ((Keep.refl (one b) w5).setCell (p := ⟨b, k * 7 + 2, none⟩) (.inl rfl) _).setCell (p := ⟨b, k * 7 + 3, none⟩) (.inl rfl) _
            have O7 := Lib.hid (own_keep O5.out kb (own_apart O5.out hb5 (by decide)))
            clear hown5 a5 a6 a7 k6 k7 hb5 hb2 kb i1 i2 i3 i4 hk5 hl6 hrel kw1 y0 y2 y3 ogg ob
            simp only [pickOps, List.filterMap_cons, List.filterMap_nil, List.getElem?_toArray, List.getElem?_cons_succ, List.getElem?_cons_zero]
            go_wp2
            go_roundw
            case rel =>
              refine ⟨k + 1, by omega, by go_num, ?_, A7.out, K7.out⟩
              rw [O1.out YL.out, otCells_snoc, List.length_append]
              exact O7.out
            case measure => simp [intOf]; omega
          · have hu' : decide (j.until_ ≤ now) = false := decide_eq_false hu
            have NL := Lib.hid (show lapsed now j = false by rw [LAP.out, hu']; simp)
            clear he
            go_quiet (fail)
            go_wp2
            go_roundw
            case rel => exact ⟨k + 1, by omega, by go_num, by rw [O2.out NL.out]; exact own_keep HO.out ((Keep.refl none_ _).drewN nq) (fun _ _ e => e), by rw [← T2.out NL.out]; exact HA3.out.keep ((Keep.refl none_ _).drewN nq), hkr.drewN nq⟩
            case measure => simp [intOf]; omega
      · obtain rfl : k = s.jobs.length := by omega
        obtain ⟨Ao, co, rfl, -⟩ := own_row (S := none_) hO (fun _ _ e => e)
        have HO := Lib.hid hO
        have HA2 := Lib.hid hA
        clear hO hA
        go_wp2
        go_ret2
        exact ⟨_, _, _, _, by rw [E1.out]; rfl, by rw [E3.out]; exact HO.out, by rw [E2.out]; exact HA2.out, hkr⟩
end Go.Proofs.YtnefbeplgfdkkaaGreatDoor
