/-
  cutroomref37.change: tick.
-/
import Derived.Test.YtnefbeplgfdkkaaGreatDoorRu37
import Derived.Test.YtnefbeplgfdkkaaGreatDoorRu40
import Derived.Test.YtnefbeplgfdkkaaGreatDoorRu41
import Derived.Test.YtnefbeplgfdkkaaGreatDoorRu21
namespace Go.Proofs.YtnefbeplgfdkkaaGreatDoor
open Go.RowKit

set_option maxRecDepth 100000 in
set_option maxHeartbeats 2000000 in
theorem rchange_tick (X : XP) (s : St) (vp vj vw v : Value) (base g : Nat) (S : Nat → Prop) (e : Ev) (w : World) (hk : e.kind = 9) (h : RAft X w base (orr S base) g vp vj vw s) (he : EvOf w (orr S base) v e) (h0 : 0 ≤ s.now) (h1 : s.now ≤ 1099511627776) (t0 : 1 ≤ e.ticks) (t1 : e.ticks ≤ 1000) (hjl : s.jobs.length ≤ 64) :
    Calls Tryz.prog 57 #[.pointer (some ⟨g, 0, none⟩), v] w (RMeth3 X base S g (perE s e) (perO s e) (perS s e) w) := by
  have HE := Lib.hid he
  obtain ⟨vn, vi, rfl, hns, his⟩ := he
  have HNS := Lib.hid hns
  obtain ⟨An, nn, cn, rfl, hnr⟩ := hns
  obtain ⟨Ai, ni, ci, rfl, -⟩ := his
  obtain ⟨W0, hW0⟩ : ∃ W0, W0 = w.alloc (.cells #[.int .i64 e.kind, .string e.name, .string e.worker, .slice An nn cn, .int .i64 e.ticks, .slice Ai ni ci] 78) := ⟨_, rfl⟩
  have k0 : Keep none_ w W0 := hW0 ▸ (Keep.refl none_ w).alloc _
  have b0 : Blk W0 w.heap.size 78 #[.int .i64 e.kind, .string e.name, .string e.worker, .slice An nn cn, .int .i64 e.ticks, .slice Ai ni ci] := hW0 ▸ Blk.new _ _ _
  have a0 := h.keep k0
  have d0 : W0.cell? ⟨w.heap.size, 0, none⟩ = some (.int .i64 e.kind) := b0.cell 0
  have HA := Lib.hid a0
  have HB := Lib.hid b0
  have K0 := Lib.hid k0
  have HE0 := Lib.hid (HE.out.keep k0.weak)
  clear h b0 k0
  have PE : perE s e = tickE s e.ticks := by unfold perE; simp [hk]
  have PS : perS s e = tickS s e.ticks := by unfold perS; simp [hk]
  have PO : perO s e = tickO s e.ticks := by unfold perO; simp [hk]
  rw [hk] at d0
  clear hk HE HE0 HNS hnr
  have d4 : W0.cell? ⟨w.heap.size, 4, none⟩ = some (.int .i64 e.ticks) := HB.out.cell 4
  have g0 : W0.cell? ⟨g, 0, none⟩ = some (.int .i64 s.now) := HA.out.blk.cell 0
  have lg := HA.out.blk.lt
  have lb := HA.out.ge_
  by_cases hr : 1099511627776 < s.now + e.ticks
  · have E1 := Lib.hid (show perE s e = 2 by rw [PE]; unfold tickE; rw [if_pos hr])
    have E2 := Lib.hid (show perS s e = s by rw [PS]; unfold tickS; rw [if_pos hr])
    have E3 := Lib.hid (show perO s e = [] by rw [PO]; unfold tickO; rw [if_pos hr])
    clear PE PS PO a0
    go_enter Tryz.func57, Tryz.ntmps57
    go_upto_region 1 with (fail)
    rw [← hW0]
    clear hW0
    go_upto_region 13 with (fail)
    have gd := still_good (W0).drew
    have ne := still_some (W0).drew
    have hx := still_at (W0).drew
    refine wp_region_calm (stillCalm (W0).drew) [0, 1, 2, 3, 4, 5, 6, 7] [] 123 (by kernel_rfl) (by kernel_rfl) rfl gd rfl ?_
    simp only [pairs, List.filterMap_cons, List.filterMap_nil, List.getElem?_toArray, List.getElem?_cons_succ, List.getElem?_cons_zero, Option.map_some]
    repeat (refine Calm.walk_quiet ne rfl rfl rfl (fun K hK => ?_); go_big_quiet_op; refine hK _ ?_; clear hK K)
    intro w' hR _
    obtain rfl : w' = (W0).drew := hR.symm
    simp only [pickOps, List.filterMap_nil]
    clear gd ne hx hR
    go_wp2
    go_ret2
    exact ⟨_, _, _, _, by rw [E1.out]; rfl, by rw [E3.out]; exact ⟨rfl, .inl ⟨rfl, rfl⟩⟩, by rw [E2.out]; exact (HA.out.keep (Keep.refl none_ _).drew).fin, K0.out.drew.weak⟩
  · obtain ⟨now, hnow⟩ : ∃ now, now = s.now + e.ticks := ⟨_, rfl⟩
    have E1 := Lib.hid (show perE s e = 0 by rw [PE]; unfold tickE; rw [if_neg hr])
    have E2 := Lib.hid (show perS s e = tickTo s now s.jobs.length by rw [PS]; unfold tickS; rw [if_neg hr, hnow])
    have E3 := Lib.hid (show perO s e = outsTo s now s.jobs.length by rw [PO]; unfold tickO; rw [if_neg hr, hnow])
    clear PE PS PO
    go_enter Tryz.func57, Tryz.ntmps57
    go_upto_region 1 with (fail)
    rw [← hW0]
    clear hW0
    go_upto_region 13 with (fail)
    have gd := still_good (W0).drew
    have ne := still_some (W0).drew
    have hx := still_at (W0).drew
    refine wp_region_calm (stillCalm (W0).drew) [0, 1, 2, 3, 4, 5, 6, 7] [] 123 (by kernel_rfl) (by kernel_rfl) rfl gd rfl ?_
    simp only [pairs, List.filterMap_cons, List.filterMap_nil, List.getElem?_toArray, List.getElem?_cons_succ, List.getElem?_cons_zero, Option.map_some]
    repeat (refine Calm.walk_quiet ne rfl rfl rfl (fun K hK => ?_); go_big_quiet_op; refine hK _ ?_; clear hK K)
    intro w' hR _
    obtain rfl : w' = (W0).drew := hR.symm
    simp only [pickOps, List.filterMap_nil]
    clear gd ne hx hR
    obtain ⟨V0, hV0⟩ : ∃ V0, V0 = W0.drew := ⟨_, rfl⟩
    have kV : Keep none_ W0 V0 := hV0 ▸ (Keep.refl none_ _).drew
    rw [← hV0]
    clear hV0
    replace d4 := kV.cell d4 (fun e => e)
    replace g0 := kV.cell g0 (fun e => e)
    have AV := Lib.hid (HA.out.keep kV)
    have BV := Lib.hid (HB.out.keep kV (fun e => e))
    have KV := Lib.hid (K0.out.trans kV)
    clear kV a0 HA HB K0 d0
    go_upto_region 15 with (fail)
    have gd := still_good (V0).drew
    have ne := still_some (V0).drew
    have hx := still_at (V0).drew
    refine wp_region_calm (stillCalm (V0).drew) [0, 1, 2, 3, 4, 5, 6, 7, 8, 9] [10] 123 (by kernel_rfl) (by kernel_rfl) rfl gd rfl ?_
    simp only [pairs, List.filterMap_cons, List.filterMap_nil, List.getElem?_toArray, List.getElem?_cons_succ, List.getElem?_cons_zero, Option.map_some]
    repeat (refine Calm.walk_quiet ne rfl rfl rfl (fun K hK => ?_); go_big_quiet_op; refine hK _ ?_; clear hK K)
    intro w' hR _
    obtain rfl : w' = (V0).drew := hR.symm
    simp only [pickOps, List.filterMap_cons, List.filterMap_nil, List.getElem?_toArray, List.getElem?_cons_succ, List.getElem?_cons_zero]
    clear gd ne hx hR
    obtain ⟨V1, hV1⟩ : ∃ V1, V1 = V0.drew := ⟨_, rfl⟩
    have kV : Keep none_ V0 V1 := hV1 ▸ (Keep.refl none_ _).drew
    rw [← hV1]
    clear hV1
    replace g0 := kV.cell g0 (fun e => e)
    have A1 := Lib.hid (AV.out.keep kV)
    have K1 := Lib.hid (KV.out.trans kV)
    have f0 := A1.out.blk.frozen 0
    clear kV AV KV BV d4
    obtain ⟨Aj, cj, rfl, hjj⟩ := A1.out.jobs.list
    obtain ⟨r1, r2⟩ := A1.out.setNow (s.now + e.ticks)
    obtain ⟨W1, hW1⟩ : ∃ W1, W1 = V1.setCell ⟨g, 0, none⟩ (.int .i64 (s.now + e.ticks)) := ⟨_, rfl⟩
    rw [← hW1] at r1 r2
    rw [← hnow] at r1
    have a1 := Lib.hid (show RAft X W1 base (orr S base) g vp (.slice Aj s.jobs.length cj) vw (tickTo s now 0) by unfold tickTo; simpa using r1)
    have k1 := Lib.hid (K1.out.weak.trans r2)
    clear r1 r2 hjj
    go_upto_region 16 with (fail)
    rw [← hW1]
    have HN := Lib.hid hnow
    clear hW1 g0 f0 hnow A1 K1
    go_upto_region 18 with (fail)
    go_loopw [6, 7] (fun o i wr => ∃ k : Nat, k ≤ s.jobs.length ∧ i = .int .i64 k ∧ wr.ownsRow base 125 3 o (outsTo s now k).length (otCells (outsTo s now k)) ∧ RAft X wr base (orr S base) g vp (.slice Aj s.jobs.length cj) vw (tickTo s now k) ∧ Keep (ge base) w wr) (fun _ i _ => s.jobs.length - (intOf i).toNat)
    case atStart => exact ⟨0, Nat.zero_le _, rfl, ⟨rfl, .inl ⟨rfl, rfl⟩⟩, a1.out, k1.out⟩
    case round =>
      obtain ⟨k, hk, rfl, hO, hA, hkr⟩ := hrel
      have z2 : wr.cell? ⟨g, 2, none⟩ = some (.slice Aj s.jobs.length cj) := hA.blk.cell 2
      clear a1 k1
      by_cases hlt : k < s.jobs.length
      · have hlt' : (k : Int) < s.jobs.length := by omega
        have hkl : k < (tickTo s now k).jobs.length := by rw [tickTo_len]; exact hlt
        obtain ⟨A', c', eV, hjb⟩ := hA.jobs.list
        have hln := tickTo_len s now k
        rw [hln] at eV hjb
        simp only [Value.slice.injEq, true_and] at eV
        obtain ⟨rfl, rfl⟩ := eV
        obtain ⟨css, j1, j2, j3, j4⟩ := hA.jobs
        rw [hln] at j3
        obtain ⟨b, cap, cur, eV, hb1, hb2, hb3⟩ := own_cases j3 (by omega)
        simp only [Value.slice.injEq, true_and] at eV
        obtain ⟨rfl, rfl⟩ := eV
        obtain ⟨b', o', eA, -, hkl2, cs, -, hrg, vn, vi, hcs, -, -⟩ := hjb.elem k hlt
        simp only [Option.some.injEq, Addr.mk.injEq, and_true] at eA
        obtain ⟨rfl, rfl⟩ := eA
        have hget := tickTo_get s now k hlt
        rw [hget] at hcs
        have T1 := Lib.hid (tickTo_set s now k hlt)
        have T2 := Lib.hid (tickTo_same s now k hlt)
        have O1 := Lib.hid (outsTo_yes s now k hlt)
        have O2 := Lib.hid (outsTo_no s now k hlt)
        have OL := outsTo_le s now k
        have HG := Lib.hid hget
        have lap : lapsed now s.jobs[k] = (!strEq s.jobs[k].worker ⟨#[]⟩ && decide (s.jobs[k].until_ ≤ now)) := rfl
        generalize s.jobs[k] = j at hcs T1 T2 O1 O2 HG lap
        subst hcs
        have LAP := Lib.hid lap
        have y0 : wr.cell? ⟨b, 0 + k * 7, none⟩ = some (.string j.name) := hrg 0 _ rfl
        have y2 : wr.cell? ⟨b, 0 + k * 7 + 2, none⟩ = some (.string j.worker) := hrg 2 _ rfl
        have y3 : wr.cell? ⟨b, 0 + k * 7 + 3, none⟩ = some (.int .i64 j.until_) := hrg 3 _ rfl
        rw [Nat.zero_add] at y0 y2 y3
        have z0 : wr.cell? ⟨g, 0, none⟩ = some (.int .i64 now) := hA.blk.cell 0
        have HO := Lib.hid hO
        have HA3 := Lib.hid hA
        clear j1 j2 j4 hrg lap hget hjb hO hA hb3
        go_upto_region 21 with (fail)
        cases he : strEq j.worker ⟨#[]⟩ with
        | true =>
          have e1 : j.worker = ⟨#[]⟩ := strEq_iff.1 he
          have NL := Lib.hid (show lapsed now j = false by rw [LAP.out, he]; rfl)
          rw [e1] at y2
          clear he e1
          go_quiet (fail)
          go_wp2
          go_roundw
          case rel => exact ⟨k + 1, by omega, by go_num, by rw [O2.out NL.out]; exact own_keep HO.out ((Keep.refl none_ _).drewN nq) (fun _ _ e => e), by rw [← T2.out NL.out]; exact HA3.out.keep ((Keep.refl none_ _).drewN nq), hkr.drewN nq⟩
          case measure => simp [intOf]; omega
        | false =>
          have ne0 : j.worker.toList ≠ [] := fun h => by
            have : strEq j.worker ⟨#[]⟩ = true := by unfold strEq; rw [h, ByteArray.toList_eq]; rfl
            rw [he] at this
            cases this
          have ne1 : (j.worker.toList == []) = false := by simpa using ne0
          have ne2 : j.worker.toList.isEmpty = false := by simpa using ne0
          by_cases hu : j.until_ ≤ now
          · have YL := Lib.hid (show lapsed now j = true by rw [LAP.out, he]; simp [hu])
            clear he
            go_quiet (fail)
            go_upto_region 22 with (fail)
            obtain ⟨w1, hw1⟩ : ∃ w1, w1 = wr.drewN nq := ⟨_, rfl⟩
            have kr1 : Keep none_ wr w1 := hw1 ▸ (Keep.refl none_ _).drewN nq
            rw [← hw1]
            clear hw1
            replace y0 := kr1.cell y0 (fun e => e)
            replace y2 := kr1.cell y2 (fun e => e)
            replace y3 := kr1.cell y3 (fun e => e)
            replace hb2 := hb2.keep kr1 (fun e => e)
            have HO1 := Lib.hid (own_keep HO.out kr1 (fun _ _ e => e))
            have HA1 := Lib.hid (HA3.out.keep kr1)
            have kw1 : Keep (ge base) w w1 := hkr.trans kr1.weak
            obtain ⟨Ao, co, rfl, -⟩ := own_row (S := none_) HO1.out (fun _ _ e => e)
            obtain ⟨XX, hXX⟩ : ∃ XX : Value → World → Prop, XX = fun v' w' => w'.ownsRow base 125 3 v' ((outsTo s now k).length + 1) (otCells (outsTo s now k) ++ [.int .i64 3, .string j.name, .string j.worker]) := ⟨_, rfl⟩
            have gd := appCalm_good (wr := w1) (S := ofBlk (.slice Ao (outsTo s now k).length co)) (k1 := 10) (k2 := 11) (t := 125) (cs := #[.int .i64 3, .string j.name, .string j.worker]) (X := XX) (own_lt HO1.out) (fun v w w' h k => by rw [hXX] at *; exact own_keep h k (fun _ _ e => e))
            have HXX := Lib.hid hXX
            clear hXX HO HA3 kr1 hkr z0 z2
            have ne := appCalm_some w1 (ofBlk (.slice Ao (outsTo s now k).length co)) 10 11 125 #[.int .i64 3, .string j.name, .string j.worker] XX
            have ob : ¬ ofBlk (.slice Ao (outsTo s now k).length co) b := fun e => own_apart HO1.out hb2 (by decide) b e rfl
            have x1 := fun x => (appCalm_at (wr := w1) (S := ofBlk (.slice Ao (outsTo s now k).length co)) (k1 := 10) (k2 := 11) (t := 125) (cs := #[.int .i64 3, .string j.name, .string j.worker]) (X := XX) x).cell y0 ob
            have x2 := fun x => (appCalm_at (wr := w1) (S := ofBlk (.slice Ao (outsTo s now k).length co)) (k1 := 10) (k2 := 11) (t := 125) (cs := #[.int .i64 3, .string j.name, .string j.worker]) (X := XX) x).cell y2 ob
            refine wp_region_calm (appCalm w1 (ofBlk (.slice Ao (outsTo s now k).length co)) 10 11 125 #[.int .i64 3, .string j.name, .string j.worker] XX) [0, 1, 2, 3, 4, 5, 6, 7, 8, 9, 10, 11] [12] 123 (by kernel_rfl) (by kernel_rfl) rfl gd ⟨(Keep.refl _ _).drew, fun _ => (Keep.refl _ _).drew⟩ ?_
            simp only [pairs, List.filterMap_cons, List.filterMap_nil, List.getElem?_toArray, List.getElem?_cons_succ, List.getElem?_cons_zero, Option.map_some]
            repeat (refine Calm.walk_quiet ne rfl rfl rfl (fun K hK => ?_); go_big_quiet_op; refine hK _ ?_; clear hK K)
            refine Calm.walk_eff rfl rfl (fun n w5 _ hR _ => ?_) ?_
            · unfold gives
              go_simp
              exact ⟨⟨w5.heap.size, hR.1.size, rfl, Blk.new _ _ _⟩, (Keep.refl _ _).alloc _, ⟨hR.1.alloc _, fun hn => (hR.2 (by omega)).alloc _⟩, fun b hb => hb.elim⟩
            rintro v5 w5 ⟨b5, -, rfl, -⟩
            clear w5
            go_frame
            refine Calm.walk_effn rfl rfl (fun n w5 g1 g2 hG hA => ?_) ?_
            · have g2' : n < 2 := g2
              have hk5 : Keep none_ w1 w5 := hG.2 (by omega)
              have hb5 := madeT.slice (hA 10 (List.mem_cons_self ..) _ rfl ⟨rfl, rfl⟩).1
              refine gives_mono (gives_append1 (.tmp 99) (.tmp 109) 49 125 rfl base _ 3 40 Tryz.underlying49 out_info rfl (by omega) (.slice Ao (outsTo s now k).length co) (outsTo s now k).length _ rfl (own_keep HO1.out hk5 (fun _ _ e => e)) b5 #[.int .i64 3, .string j.name, .string j.worker] rfl hb5.2 rfl (by simp [Value.oneCell']) (by omega) (by have := HA1.out.ge_; have := HA1.out.blk.lt; have := hk5.size; omega)) fun v6 w6 h => ?_
              exact ⟨HXX.out ▸ h.1, h.2.1, ⟨hk5.weak.trans h.2.1, fun hn => absurd hn (by have g1' : 1 ≤ n := g1; omega)⟩, fun b hb => hb.elim⟩
            rintro v6 w5 -
            clear w5
            go_frame
            intro w5 hG hD
            have hk5 : Keep (ofBlk (.slice Ao (outsTo s now k).length co)) w1 w5 := hG.1
            have hown5 : XX v6 w5 := (hD.1 11 rfl _ rfl ⟨rfl, rfl⟩).1
            rw [HXX.out] at hown5
            obtain ⟨A6, c6, rfl, -⟩ := own_row (S := none_) hown5 (fun _ _ e => e)
            clear hD hG ne gd x1 x2
            have O5 := Lib.hid hown5
            have ogg : ¬ ofBlk (.slice Ao (outsTo s now k).length co) g := fun e => own_apart HO1.out HA1.out.blk (by decide) g e rfl
            obtain ⟨css1, i1, i2, i3, i4⟩ := HA1.out.jobs
            have a5 : RAft X w5 base (orr S base) g vp (.slice (some ⟨b, 0, none⟩) s.jobs.length cj) vw (tickTo s now k) := HA1.out.far hk5 ogg (fun x e => .inr (own_ge HO1.out x e)) (own_apart2 HA1.out.strs HO1.out (by decide)) (own_apart2 i3 HO1.out (by decide)) (own_apart2 HA1.out.wks HO1.out (by decide))
            rw [← hln] at a5
            obtain ⟨a6, k6⟩ := a5.setJob k hkl 2 (by decide) (.string ⟨#[]⟩) { j with worker := ⟨#[]⟩ } (fun cs h => by
              rw [HG.out] at h
              obtain ⟨vn, vi, rfl, g1, g2⟩ := h
              exact ⟨vn, vi, rfl, g1, g2⟩)
            have hl6 : ({ tickTo s now k with jobs := (tickTo s now k).jobs.set k { j with worker := ⟨#[]⟩ } } : St).jobs.length = (tickTo s now k).jobs.length := by simp
            rw [← hl6] at a6
            obtain ⟨a7, k7⟩ := a6.setJob k (by rw [hl6]; exact hkl) 3 (by decide) (.int .i64 0) { j with worker := ⟨#[]⟩, until_ := 0 } (fun cs h => by
              simp only [List.getElem_set_self] at h
              obtain ⟨vn, vi, rfl, g1, g2⟩ := h
              exact ⟨vn, vi, rfl, g1, g2⟩)
            simp only [List.set_set] at a7
            have hrel : ({ j with worker := ⟨#[]⟩, until_ := 0 } : Jb) = relJ now j := by unfold relJ; rw [YL.out]; rfl
            rw [hrel, T1.out, hl6, hln] at a7
            have A7 := Lib.hid a7
            have K7 := Lib.hid ((kw1.trans (hk5.mono (fun x e => own_ge HO1.out x e))).trans (k6.trans k7))
            have hb5 := hb2.keep hk5 ob
            obtain ⟨f2, e3, f3⟩ := st2 (.string ⟨#[]⟩) hb5 (hk5.cell y2 ob) (hk5.cell y3 ob) (show k * 7 + 2 ≠ k * 7 + 3 by omega)
            have e2 := hk5.cell y2 ob
            have kb : Keep (one b) w5 ((w5.setCell ⟨b, k * 7 + 2, none⟩ (.string ⟨#[]⟩)).setCell ⟨b, k * 7 + 3, none⟩ (.int .i64 0)) := ((Keep.refl (one b) w5).setCell (p := ⟨b, k * 7 + 2, none⟩) (.inl rfl) _).setCell (p := ⟨b, k * 7 + 3, none⟩) (.inl rfl) _
            have O7 := Lib.hid (own_keep O5.out kb (own_apart O5.out hb5 (by decide)))
            clear hown5 a5 a6 a7 k6 k7 hb5 hb2 kb i1 i2 i3 i4 hk5 hl6 hrel kw1 y0 y2 y3 ogg ob
            simp only [pickOps, List.filterMap_cons, List.filterMap_nil, List.getElem?_toArray, List.getElem?_cons_succ, List.getElem?_cons_zero]
            go_wp2
            go_roundw
            case rel =>
              refine ⟨k + 1, by omega, by go_num, ?_, A7.out, K7.out⟩
              rw [O1.out YL.out, otCells_snoc, List.length_append]
              exact O7.out
            case measure => simp [intOf]; omega
          · have hu' : decide (j.until_ ≤ now) = false := decide_eq_false hu
            have NL := Lib.hid (show lapsed now j = false by rw [LAP.out, hu']; simp)
            clear he
            go_quiet (fail)
            go_wp2
            go_roundw
            case rel => exact ⟨k + 1, by omega, by go_num, by rw [O2.out NL.out]; exact own_keep HO.out ((Keep.refl none_ _).drewN nq) (fun _ _ e => e), by rw [← T2.out NL.out]; exact HA3.out.keep ((Keep.refl none_ _).drewN nq), hkr.drewN nq⟩
            case measure => simp [intOf]; omega
      · obtain rfl : k = s.jobs.length := by omega
        obtain ⟨Ao, co, rfl, -⟩ := own_row (S := none_) hO (fun _ _ e => e)
        have HO := Lib.hid hO
        have HA2 := Lib.hid hA
        clear hO hA
        go_wp2
        go_ret2
        exact ⟨_, _, _, _, by rw [E1.out]; rfl, by rw [E3.out]; exact HO.out, by rw [E2.out]; exact HA2.out.fin, hkr⟩
end Go.Proofs.YtnefbeplgfdkkaaGreatDoor
