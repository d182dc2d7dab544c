/-
  farm.Jobs.
-/
import Derived.Test.YtnefbeplgfdkkaaGreatDoorJb39
import Derived.Test.YtnefbeplgfdkkaaGreatDoorJb26
namespace Go.Proofs.YtnefbeplgfdkkaaGreatDoor
open Go.RowKit

set_option maxRecDepth 100000 in
set_option maxHeartbeats 2000000 in
theorem jobs_any (d : Nat) (ps : List Pt) (es : List Ex) (P : Option Addr) (np cp : Nat) (E : Option Addr) (ne ce : Nat) (S : Nat → Prop) (w : World) (hp : PartsOf w S (.slice P np cp) ps) (he : ElemsOf w S 8 (ExAt d w S) (.slice E ne ce) es) (hf : FewN es) (ht : Tab w) :
    Calls Tryz.prog 9 #[.agg #[.slice P np cp], .slice E ne ce] w fun e w' => ∃ v, e = .returned (.tuple #[v, .int .i64 (jobsOut es ps).2]) ∧ EvO w' w.heap.size v (jobsOut es ps).1 ∧ Keep none_ w w' := by
  obtain ⟨hl, hc1, hc2⟩ := ElemsOf.facts he
  obtain ⟨hpl, hpc1, hpc2⟩ := ElemsOf.facts hp
  subst hl hpl
  obtain ⟨W0, hW0⟩ : ∃ W0, W0 = w.alloc (.cells #[.slice P ps.length cp] 24) := ⟨_, rfl⟩
  have k0 : Keep none_ w W0 := hW0 ▸ (Keep.refl _ _).alloc _
  have b0 : Blk W0 w.heap.size 24 #[.slice P ps.length cp] := hW0 ▸ Blk.new _ _ _
  have HP := Lib.hid (hp.keep k0.weak)
  have HE := Lib.hid (ExsAt.keep he k0.weak)
  have HF := Lib.hid hf
  have TB := Lib.hid (ht.keep k0)
  have B0 := Lib.hid b0
  have K0 := Lib.hid k0
  have LO := Lib.hid k0.size
  have PV := Lib.hid (planValid_any ps P ps.length cp es.length S W0 HP.out (Nat.le_trans hc1 hc2))
  have C1 := Lib.hid hc1
  have C2 := Lib.hid hc2
  have hmm := @run_makeMap Tryz.prog
  unfold maxLen at hc2 hpc2
  clear hp he hf ht k0 b0
  go_enter Tryz.func9, Tryz.ntmps9
  go_upto_region 1 with (fail)
  rw [← hW0]
  clear hW0
  have t1 : True := trivial
  cases hpo : planOk es.length ps with
  | false =>
    rw [hpo] at PV
    have Q := Lib.hid (show jobsOut es ps = ([], 1) by unfold jobsOut inOk; rw [hpo]; rfl)
    clear hpo
    go_wp2_with (first | (have _t := t1; refine wpList_load_part 24 (.tmp 2) rfl rfl w.heap.size 0 rfl #[.slice P ps.length cp] _ B0.out.rangeAt Tryz.underlying24 rfl (by kernel_rfl) ?_; go_frame; clear _t t1) | (go_at_call 30; refine PV.out.mono ?_; rintro e w2 ⟨rfl, k2⟩; have K2 := Lib.hid k2; clear k2))
    go_ret2
    rw [Q.out]
    exact ⟨_, rfl, EvO.nil _ _, K0.out.trans K2.out⟩
  | true =>
    rw [hpo] at PV
    have PIN := Lib.hid (plan_in hpo)
    have ANS := Lib.hid (show jobsOut es ps = if es.all exOk then (if (jobEvs es ps).length ≤ 64 then (jobEvs es ps, 0) else ([], 5)) else ([], 1) by unfold jobsOut inOk; rw [hpo]; rfl)
    clear hpo
    go_upto_region 3 with (first | (have _t := t1; refine wpList_load_part 24 (.tmp 2) rfl rfl w.heap.size 0 rfl #[.slice P ps.length cp] _ B0.out.rangeAt Tryz.underlying24 rfl (by kernel_rfl) ?_; go_frame; clear _t t1) | (go_at_call 30; refine PV.out.mono ?_; rintro e w2 ⟨rfl, k2⟩; have K2 := Lib.hid k2; clear k2))
    have HP2 := Lib.hid (HP.out.keep K2.out.weak)
    have HE2 := Lib.hid (ExsAt.keep HE.out K2.out.weak)
    have TB2 := Lib.hid (TB.out.keep K2.out)
    have B2 := Lib.hid (B0.out.keep K2.out (fun e => e))
    have KK := Lib.hid (K0.out.trans K2.out)
    clear HP HE TB B0 K0 K2 LO PV
    go_wp2_with (fail)
    go_loopw [21] (fun i wr => ∃ k : Nat, k ≤ es.length ∧ i = .int .i64 k ∧ (es.take k).all exOk = true ∧ Keep none_ w2 wr) (fun i _ => es.length - (intOf i).toNat)
    case atStart => exact ⟨0, Nat.zero_le _, rfl, rfl, Keep.refl _ _⟩
    case round =>
      obtain ⟨k, hk, rfl, hall, hkr⟩ := hrel
      have HK := Lib.hid hkr
      have HAL := Lib.hid hall
      clear hall
      by_cases hlt : k < es.length
      · have hlt' : (k : Int) < es.length := by omega
        obtain ⟨b, o, rfl, -, hkl, cs, hcl, hrg, he⟩ := ElemsOf.elem (ExsAt.keep HE2.out hkr.weak) k hlt
        have SN := Lib.hid (exs_snoc hkl HAL.out)
        generalize es[k] = y at he SN
        obtain ⟨ca, rfl⟩ : ∃ ca : Array Value, cs = ca.toList := ⟨cs.toArray, by simp⟩
        have SZ := Lib.hid (show ca.size = 8 by simpa using hcl)
        have ON := Lib.hid (ex_one he)
        have RG := Lib.hid hrg
        have HY := Lib.hid he
        clear hcl hrg he hkr
        have t2 : True := trivial
        have t3 : True := trivial
        go_upto_region 6 with (first | (have _t := t2; refine wpList_load_part 89 (.tmp 23) rfl rfl b (o + k * 8) (by first | rfl | simp) ca _ RG.out Tryz.underlying89 rfl (by rw [SZ.out]; kernel_rfl) ?_; go_frame; clear _t t2) | (have _t := t3; refine wpList_store_blk rfl 89 (.tmp 7) (.tmp 24) rfl wr.heap.size 89 _ ca rfl rfl (Blk.new _ _ _) (by rw [SZ.out]; rfl) (by rw [SZ.out]; kernel_rfl) (by rw [← Array.all_toList]; exact List.all_eq_true.2 ON.out) ?_; intro w3 b3 k3 s3; go_frame; clear _t t3))
        have kr3 : Keep none_ wr w3 := ((Keep.refl none_ wr).alloc _).own k3 (Nat.le_refl _)
        have B3 := Lib.hid b3
        have K3 := Lib.hid (HK.out.trans kr3)
        have CL := Lib.hid (exOk_any d y ca S w3 (HY.out.keep kr3.weak))
        clear b3 k3 s3 kr3 RG HY
        have t4 : True := trivial
        cases hy : exOk y with
        | false =>
          have Q := Lib.hid (show jobsOut es ps = ([], 1) by rw [ANS.out, all_part exOk _ (k + 1) (by rw [SN.out, hy])]; rfl)
          rw [hy] at CL
          clear hy
          go_wp2_with (first | (have _t := t4; refine wpList_load_part 89 (.tmp 7) rfl rfl wr.heap.size 0 rfl ca _ B3.out.rangeAt Tryz.underlying89 rfl (by rw [SZ.out]; kernel_rfl) ?_; go_frame; clear _t t4) | (go_at_call 31; refine CL.out.mono ?_; rintro e w4 ⟨rfl, k4⟩; have K4 := Lib.hid (K3.out.trans k4); clear k4))
          go_ret2
          rw [Q.out]
          exact ⟨_, rfl, EvO.nil _ _, KK.out.trans K4.out⟩
        | true =>
          rw [hy] at CL SN
          clear hy
          go_wp2_with (first | (have _t := t4; refine wpList_load_part 89 (.tmp 7) rfl rfl wr.heap.size 0 rfl ca _ B3.out.rangeAt Tryz.underlying89 rfl (by rw [SZ.out]; kernel_rfl) ?_; go_frame; clear _t t4) | (go_at_call 31; refine CL.out.mono ?_; rintro e w4 ⟨rfl, k4⟩; have K4 := Lib.hid (K3.out.trans k4); clear k4))
          go_roundw
          case rel => exact ⟨k + 1, hlt, by go_num, SN.out, K4.out⟩
          case measure => simp [intOf]; omega
      · have AN2 := Lib.hid (show jobsOut es ps = if (jobEvs es ps).length ≤ 64 then (jobEvs es ps, 0) else ([], 5) by
          have := HAL.out
          rw [List.take_of_length_le (by omega)] at this
          rw [ANS.out, this]; rfl)
        have HP3 := Lib.hid (HP2.out.keep hkr.weak)
        have HE3 := Lib.hid (ExsAt.keep HE2.out hkr.weak)
        have TB3 := Lib.hid (TB2.out.keep hkr)
        have B3 := Lib.hid (B2.out.keep hkr (fun e => e))
        have K3 := Lib.hid (KK.out.trans hkr)
        have L3 := Lib.hid (KK.out.trans hkr).size
        have c0 : wr.cell? ⟨w.heap.size, 0, none⟩ = some (.slice P ps.length cp) := B3.out.cell 0
        clear hkr HK HAL ANS HP2 HE2 TB2 B2 KK
        obtain ⟨w5, hw5⟩ : ∃ w5, w5 = wr := ⟨_, rfl⟩
        subst hw5
        go_wp2_with (fail)
        clear c0
        go_loopw [8, 32] (fun u i wr => ∃ k : Nat, k ≤ ps.length ∧ i = .int .i64 k ∧ EvO wr w5.heap.size u (jobEvs es (ps.take k)) ∧ (jobEvs es (ps.take k)).length ≤ 64 ∧ Keep none_ w5 wr) (fun _ i _ => ps.length - (intOf i).toNat)
        case atStart => exact ⟨0, Nat.zero_le _, rfl, EvO.nil _ _, Nat.zero_le _, Keep.refl _ _⟩
        case round =>
          obtain ⟨k, hk, rfl, hu, h64, hkr⟩ := hrel
          obtain ⟨wo, hwo⟩ : ∃ wo, wo = wr := ⟨_, rfl⟩
          subst hwo
          have HK := Lib.hid hkr
          by_cases hlt : k < ps.length
          · have hlt' : (k : Int) < ps.length := by omega
            obtain ⟨b, o, rfl, -, hkl, cs, hcl, hrg, he⟩ := ElemsOf.elem (HP3.out.keep hkr.weak) k hlt
            have SN := Lib.hid (jobEvs_snoc es hkl)
            obtain ⟨f, m, hfm, hln, hm1, hfm2⟩ := PIN.out _ (List.getElem_mem hkl)
            generalize ps[k] = x at he SN hfm hln
            obtain ⟨cpy, fm, ln, md, fr⟩ := x
            simp only at hfm hln
            subst hfm hln
            unfold PtOf at he
            simp only at he
            obtain ⟨ca, rfl⟩ : ∃ ca : Array Value, cs = ca.toList := ⟨cs.toArray, by simp⟩
            obtain rfl : ca = #[.bool cpy, .int .i64 f, .int .i64 m, .string md, .int .i64 fr] := Array.toList_inj.1 he
            have RG := Lib.hid hrg
            clear hcl hrg he hkr
            obtain ⟨css, ho, hE⟩ := hu
            obtain ⟨Ao, co, rfl, -⟩ := own_row (S := none_) ho (fun _ _ e => e)
            have HO := Lib.hid ho
            have HEv := Lib.hid hE
            clear ho hE
            have t2 : True := trivial
            have t3 : True := trivial
            go_upto_region 13 with (first | (have _t := t2; refine wpList_load_part 33 (.tmp 34) rfl rfl b (o + k * 5) (by first | rfl | simp) #[.bool cpy, .int .i64 f, .int .i64 m, .string md, .int .i64 fr] _ RG.out Tryz.underlying33 rfl (by kernel_rfl) ?_; go_frame; clear _t t2) | (have _t := t3; refine wpList_store_blk rfl 33 (.tmp 10) (.tmp 35) rfl wo.heap.size 33 _ _ rfl rfl (Blk.new _ _ _) rfl (by kernel_rfl) (by simp [Value.oneCell']) ?_; intro w3 b3 k3 s3; go_frame; clear _t t3))
            have kr3 : Keep none_ wo w3 := ((Keep.refl none_ wo).alloc _).own k3 (Nat.le_refl _)
            have y0 := b3.cell 0
            have y1 := b3.cell 1
            have y2 := b3.cell 2
            simp only [List.getElem?_toArray, List.getElem?_cons_zero, List.getElem?_cons_succ] at y0 y1 y2
            have B4 := Lib.hid b3
            have KW := Lib.hid kr3
            have K4 := Lib.hid (HK.out.trans kr3)
            clear k3 s3 b3 kr3 RG HK
            cases cpy with
            | true =>
              clear y1 y2
              go_wp2
              go_roundw
              case rel => exact ⟨k + 1, hlt, by go_num, by rw [SN.out, if_pos rfl, List.append_nil]; exact EvO.keep0 ⟨css, HO.out, HEv.out⟩ KW.out, by rw [SN.out, if_pos rfl, List.append_nil]; exact h64, K4.out⟩
              case measure => simp [intOf]; omega
            | false =>
              by_cases hfull : (jobEvs es (ps.take k)).length = 64
              · have Q := Lib.hid (show jobsOut es ps = ([], 5) by
                  have h1 := jobEvs_part es ps (k + 1)
                  rw [SN.out, List.length_append, hfull] at h1
                  rw [AN2.out, if_neg (by simp at h1; omega)])
                have hf' : (((jobEvs es (ps.take k)).length : Int) == 64) = true := by rw [hfull]; rfl
                clear hfull h64
                clear y1 y2
                go_wp2
                go_ret2
                rw [Q.out]
                exact ⟨_, rfl, EvO.nil _ _, K3.out.trans K4.out⟩
              · have hf' : (((jobEvs es (ps.take k)).length : Int) == 64) = false := beq_eq_false_iff_ne.2 (by omega)
                have HN := Lib.hid (show (jobEvs es (ps.take k)).length < 64 by omega)
                clear hfull h64
                obtain ⟨be, oe, rfl, -⟩ := ElemsOf.elem HE3.out f (by omega)
                have HFL := Lib.hid (ExsAt.fresh (ElemsOf.part (ExsAt.keep HE3.out K4.out.weak) f m (ce - f) hfm2 (by have := C1.out; omega) (by have := C2.out; unfold maxLen at *; omega)))
                have hne : ¬ ce = f := by have := C1.out; omega
                have hb1 : (f : Int) + m ≤ ce := by have := C1.out; omega
                clear y1 y2
                go_upto_region 17 with (fail)
                obtain ⟨w6, hw6⟩ : ∃ w6, w6 = w3.alloc (.map #[] 0) := ⟨_, rfl⟩
                rw [← hw6]
                clear y0
                have k6 : Keep none_ w3 w6 := hw6 ▸ (Keep.refl _ _).alloc _
                have KM := Lib.hid (show KMap w6 w3.heap.size [] from hw6 ▸ KMap.new w3)
                have B6 := Lib.hid (B4.out.keep k6 (fun e => e))
                have K6 := Lib.hid k6
                have LT := Lib.hid B4.out.lt
                have L4 := Lib.hid K4.out.size
                have LW := Lib.hid KW.out.size
                have HFL6 := Lib.hid (ExsAt.keep HFL.out k6.weak)
                have y1 : w6.cell? ⟨wo.heap.size, 1, none⟩ = some (.int .i64 f) := B6.out.cell 1
                have y2 : w6.cell? ⟨wo.heap.size, 2, none⟩ = some (.int .i64 m) := B6.out.cell 2
                clear hw6 k6 B4 HFL
                go_wp2_with (fail)
                clear y1 y2 hne hb1
                have FM := Lib.hid (HF.out.film ⟨false, f, m, md, fr⟩)
                go_loopw [52] (fun i wy => ∃ j : Nat, j ≤ m ∧ i = .int .i64 j ∧ KMap wy w3.heap.size ((exsMedia (((es.drop f).take m).take j)).foldl addK []) ∧ Keep (one w3.heap.size) w6 wy) (fun i _ => m - (intOf i).toNat)
                case atStart => exact ⟨0, Nat.zero_le _, rfl, KM.out, Keep.refl _ _⟩
                case round =>
                  obtain ⟨j, hj, rfl, hmap, hjr⟩ := hrel
                  have HS1 := Lib.hid (show ∀ r, one w3.heap.size r → ge w3.heap.size r from fun r e => by cases e; exact Nat.le_refl _)
                  have HM := Lib.hid hmap
                  have HJ := Lib.hid hjr
                  clear hmap
                  by_cases hjm : j < m
                  · have hjm' : (j : Int) < m := by omega
                    obtain ⟨b', o', e', -, hjl, cs, hcl, hrg, hx⟩ := ElemsOf.elem (ExsAt.keep HFL6.out (hjr.mono HS1.out)) j hjm
                    simp only [Option.some.injEq, Addr.mk.injEq, and_true] at e'
                    obtain ⟨rfl, rfl⟩ := e'
                    have SN3 := Lib.hid (exsMedia_snoc hjl)
                    generalize ((es.drop f).take m)[j] = y at hx SN3
                    obtain ⟨ca, rfl⟩ : ∃ ca : Array Value, cs = ca.toList := ⟨cs.toArray, by simp⟩
                    have SZ := Lib.hid (show ca.size = 8 by simpa using hcl)
                    have ON := Lib.hid (ex_one hx)
                    have RG := Lib.hid hrg
                    have HX := Lib.hid hx
                    clear hcl hrg hx hjr
                    have t5 : True := trivial
                    have t6 : True := trivial
                    go_upto_region 20 with (first | (have _t := t5; refine wpList_load_part 89 (.tmp 54) rfl rfl be (oe + f * 8 + j * 8) (by first | rfl | simp) ca _ RG.out Tryz.underlying89 rfl (by rw [SZ.out]; kernel_rfl) ?_; go_frame; clear _t t5) | (have _t := t6; refine wpList_store_blk rfl 89 (.tmp 13) (.tmp 55) rfl wr.heap.size 89 _ ca rfl rfl (Blk.new _ _ _) (by rw [SZ.out]; rfl) (by rw [SZ.out]; kernel_rfl) (by rw [← Array.all_toList]; exact List.all_eq_true.2 ON.out) ?_; intro w7 b7 k7 s7; go_frame; clear _t t6))
                    have kr7 : Keep none_ wr w7 := ((Keep.refl none_ wr).alloc _).own k7 (Nat.le_refl _)
                    have B7 := Lib.hid b7
                    have K7 := Lib.hid (HJ.out.trans kr7.weak)
                    have CL := Lib.hid (collect_any d y ca _ w3.heap.size (ge w3.heap.size) w7 (HX.out.keep kr7.weak) (Nat.le_refl _) (HM.out.keep kr7 (fun e => e)))
                    clear b7 k7 s7 kr7 RG HX
                    have t7 : True := trivial
                    go_wp2_with (first | (have _t := t7; refine wpList_load_part 89 (.tmp 13) rfl rfl wr.heap.size 0 rfl ca _ B7.out.rangeAt Tryz.underlying89 rfl (by rw [SZ.out]; kernel_rfl) ?_; go_frame; clear _t t7) | (go_at_call 32; refine CL.out.mono ?_; rintro e w8 ⟨rfl, h8, k8⟩; have H8 := Lib.hid h8; have K8 := Lib.hid (K7.out.trans k8); clear k8 h8))
                    go_roundw
                    case rel => exact ⟨j + 1, hjm, by go_num, by rw [SN3.out, List.foldl_append]; exact H8.out, K8.out⟩
                    case measure => simp [intOf]; omega
                  · obtain rfl : j = m := by omega
                    have KWy := Lib.hid (KW.out.trans (K6.out.own hjr (Nat.le_refl _)))
                    have K5y := Lib.hid (K4.out.trans (K6.out.own hjr (Nat.le_refl _)))
                    have y1 : wr.cell? ⟨wo.heap.size, 1, none⟩ = some (.int .i64 f) := (B6.out.keep hjr (fun e => by have := LT.out; unfold one at e; omega)).cell 1
                    have TBy := Lib.hid (TB3.out.keep K5y.out)
                    have C2' := C2.out
                    have C1' := C1.out
                    unfold maxLen at C2'
                    have JN := Lib.hid (jobName_any f wr (by omega) (by omega) TBy.out)
                    have EQ := Lib.hid (show ((es.drop f).take j).take j = filmAt es ⟨false, f, j, md, fr⟩ by
                      unfold filmAt
                      rw [List.take_of_length_le (by rw [List.length_take]; omega)]
                      rfl)
                    have HM2 := Lib.hid (show KMap wr w3.heap.size ((exsMedia (filmAt es ⟨false, f, j, md, fr⟩)).foldl addK []) by rw [← EQ.out]; exact HM.out)
                    clear C2' C1' hjr HM HJ HFL6 KM B6 hjm TBy
                    have t8 : True := trivial
                    go_wp2_with (first
                      | (go_at_call 12; refine JN.out.mono ?_; rintro e w7 ⟨rfl, k7⟩; have K7 := Lib.hid k7; have HM7 := Lib.hid (HM2.out.keep k7 (fun e => e)); clear k7)
                      | (go_at_call 34; refine ((callsIn_wide (n := 5)).1 (js_keys (some w3.heap.size) w7)).mono ?_; rintro e w8 ⟨rfl, rfl⟩)
                      | (go_at_call 33; refine (sorted_any HM7.out FM.out.2 FM.out.1).mono ?_; rintro e w9 ⟨v9, rfl, o9, k9⟩; obtain ⟨A9, c9, rfl, -⟩ := own_row (S := none_) o9 (fun _ _ e => e); have O9 := Lib.hid o9; have K9 := Lib.hid k9; have HO9 := Lib.hid (own_keep (own_keep (own_keep HO.out KWy.out (fun _ _ e => e)) K7.out (fun _ _ e => e)) k9 (fun _ _ e => e)); clear o9 k9)
                      | (have _t := t8; refine wpList_append_blk (.tmp 60) (.tmp 68) 36 78 rfl rfl w5.heap.size _ 6 96 Tryz.underlying36 ev_info rfl (by decide) (.slice Ao (jobEvs es (ps.take k)).length co) (jobEvs es (ps.take k)).length css.flatten rfl (own_keep HO9.out ((Keep.refl none_ _).alloc _) (fun _ _ e => e)) w9.heap.size #[.int .i64 1, .string (jobNm f), .string ⟨#[]⟩, .slice A9 (needsOf (exsMedia (filmAt es ⟨false, f, j, md, fr⟩))).length c9, .int .i64 0, .slice none 0 0] rfl (Blk.new _ _ _) rfl (by simp [Value.oneCell']) (by have := HN.out; omega) (Nat.le_trans K5y.out.size (Nat.le_trans K7.out.size (Nat.le_trans K9.out.size ((Keep.refl none_ w9).alloc _).size))) ?_; intro Aq cq wq oq kq; have OQ := Lib.hid oq; have KQ := Lib.hid kq; clear oq kq; go_frame; clear _t t8))
                    have LE := Lib.hid (show w5.heap.size ≤ w7.heap.size + 1 from Nat.le_succ_of_le (Nat.le_trans K5y.out.size K7.out.size))
                    have KT := Lib.hid (show Keep none_ wo w9 from (KWy.out.trans K7.out).trans K9.out)
                    have NS := Lib.hid (show OwnS w9 w5.heap.size (.slice A9 (needsOf (exsMedia (filmAt es ⟨false, f, j, md, fr⟩))).length c9) (needsOf (exsMedia (filmAt es ⟨false, f, j, md, fr⟩))) from own_base O9.out LE.out)
                    have JE : jobEvs es (ps.take (k + 1)) = jobEvs es (ps.take k) ++ [⟨1, jobNm f, ⟨#[]⟩, needsOf (exsMedia (filmAt es ⟨false, f, j, md, fr⟩)), 0, []⟩] := by
                      rw [SN.out, if_neg Bool.false_ne_true]
                      rfl
                    have GO := Lib.hid (show EvO wq w5.heap.size (.slice Aq ((jobEvs es (ps.take k)).length + 1) cq) (jobEvs es (ps.take (k + 1))) by
                      rw [JE]
                      have h2 : All2 (EvOwn w9 w5.heap.size) css (jobEvs es (ps.take k)) := HEv.out.imp (fun _ _ h => h.keep KT.out (fun _ _ _ e => e.elim))
                      exact EvO.snoc (own_keep HO9.out ((Keep.refl none_ w9).alloc _) (fun _ _ e => e)) (h2.imp (fun _ _ h => h.keep ((Keep.refl none_ w9).alloc _) (fun _ _ _ e => e.elim))) (NS.out.keep ((Keep.refl none_ w9).alloc _)) rfl OQ.out KQ.out)
                    have LG := Lib.hid (show (jobEvs es (ps.take (k + 1))).length ≤ 64 by rw [JE, List.length_append]; have := HN.out; simp; omega)
                    have KG := Lib.hid (show Keep none_ w5 wq from (((K5y.out.trans K7.out).trans K9.out).trans ((Keep.refl none_ w9).alloc _)).then KQ.out (fun x e => .inr (own_ge HO9.out x e)))
                    clear JE
                    go_roundw
                    case rel => exact ⟨k + 1, hlt, by go_num, GO.out, LG.out, KG.out⟩
                    case measure => simp [intOf]; omega
          · obtain rfl : k = ps.length := by omega
            rw [List.take_length] at hu h64
            have Q := Lib.hid (show jobsOut es ps = (jobEvs es ps, 0) by rw [AN2.out, if_pos h64])
            have HU := Lib.hid (hu.base L3.out)
            have KK := Lib.hid (K3.out.trans hkr)
            clear hkr hu h64
            go_wp2
            go_ret2
            rw [Q.out]
            exact ⟨_, rfl, HU.out, KK.out⟩
end Go.Proofs.YtnefbeplgfdkkaaGreatDoor
