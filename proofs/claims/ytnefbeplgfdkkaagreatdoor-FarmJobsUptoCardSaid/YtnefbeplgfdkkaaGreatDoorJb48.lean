/-
  cutroomref37.Jobs.
-/
import Derived.Test.YtnefbeplgfdkkaaGreatDoorJb39
import Derived.Test.YtnefbeplgfdkkaaGreatDoorJb26
import Derived.Test.YtnefbeplgfdkkaaGreatDoorJb45
import Derived.Test.YtnefbeplgfdkkaaGreatDoorJb47
namespace Go.Proofs.YtnefbeplgfdkkaaGreatDoor
open Go.RowKit

set_option maxRecDepth 100000 in
set_option maxHeartbeats 2000000 in
theorem rjobs_any (d : Nat) (ps : List Pt) (es : List Ex) (P : Option Addr) (np cp : Nat) (E : Option Addr) (ne ce : Nat) (S : Nat → Prop) (w : World) (hp : PartsOf w S (.slice P np cp) ps) (he : ElemsOf w S 8 (ExAt d w S) (.slice E ne ce) es) (hf : FewN es) (hsm : ps.length ≤ 1048576) :
    Calls Tryz.prog 10 #[.agg #[.slice P np cp], .slice E ne ce] w fun e w' => ∃ v, e = .returned (.tuple #[v, .int .i64 (jobsOut es ps).2]) ∧ EvO w' w.heap.size v (jobsOut es ps).1 ∧ Keep none_ w w' := by
  obtain ⟨hl, hc1, hc2⟩ := ElemsOf.facts he
  obtain ⟨hpl, hpc1, hpc2⟩ := ElemsOf.facts hp
  subst hl hpl
  obtain ⟨W0, hW0⟩ : ∃ W0, W0 = w.alloc (.cells #[.slice P ps.length cp] 24) := ⟨_, rfl⟩
  have k0 : Keep none_ w W0 := hW0 ▸ (Keep.refl _ _).alloc _
  have b0 : Blk W0 w.heap.size 24 #[.slice P ps.length cp] := hW0 ▸ Blk.new _ _ _
  have HP := Lib.hid (hp.keep k0.weak)
  have HE := Lib.hid (ExsAt.keep he k0.weak)
  have HF := Lib.hid hf
  have B0 := Lib.hid b0
  have K0 := Lib.hid k0
  have LO := Lib.hid k0.size
  have PV := Lib.hid (rplanValid_any ps P ps.length cp es.length S W0 HP.out (Nat.le_trans hc1 hc2))
  have C1 := Lib.hid hc1
  have C2 := Lib.hid hc2
  unfold maxLen at hc2 hpc2
  clear hp he hf k0 b0
  go_enter Tryz.func10, Tryz.ntmps10
  go_upto_region 1 with (fail)
  rw [← hW0]
  clear hW0
  have t1 : True := trivial
  cases hpo : planOk es.length ps with
  | false =>
    rw [hpo] at PV
    have Q := Lib.hid (show jobsOut es ps = ([], 1) by unfold jobsOut inOk; rw [hpo]; rfl)
    clear hpo
    go_wp2_with (first | (have _t := t1; refine wpList_load_part 24 (.tmp 2) rfl rfl w.heap.size 0 rfl #[.slice P ps.length cp] _ B0.out.rangeAt Tryz.underlying24 rfl (by kernel_rfl) ?_; go_frame; clear _t t1) | (go_at_call 35; refine PV.out.mono ?_; rintro e w2 ⟨rfl, k2⟩; have K2 := Lib.hid k2; clear k2))
    go_ret2
    rw [Q.out]
    exact ⟨_, rfl, EvO.nil _ _, K0.out.trans K2.out⟩
  | true =>
    rw [hpo] at PV
    have PIN := Lib.hid (plan_in hpo)
    have ANS := Lib.hid (show jobsOut es ps = if es.all exOk then (if (jobEvs es ps).length ≤ 64 then (jobEvs es ps, 0) else ([], 5)) else ([], 1) by unfold jobsOut inOk; rw [hpo]; rfl)
    clear hpo
    go_upto_region 3 with (first | (have _t := t1; refine wpList_load_part 24 (.tmp 2) rfl rfl w.heap.size 0 rfl #[.slice P ps.length cp] _ B0.out.rangeAt Tryz.underlying24 rfl (by kernel_rfl) ?_; go_frame; clear _t t1) | (go_at_call 35; refine PV.out.mono ?_; rintro e w2 ⟨rfl, k2⟩; have K2 := Lib.hid k2; clear k2))
    have HP2 := Lib.hid (HP.out.keep K2.out.weak)
    have HE2 := Lib.hid (ExsAt.keep HE.out K2.out.weak)
    have B2 := Lib.hid (B0.out.keep K2.out (fun e => e))
    have KK := Lib.hid (K0.out.trans K2.out)
    clear HP HE B0 K0 K2 LO PV
    go_wp2_with (fail)
    go_loopw [6] (fun i wr => ∃ k : Nat, k ≤ es.length ∧ i = .int .i64 k ∧ (es.take k).all exOk = true ∧ Keep none_ w2 wr) (fun i _ => es.length - (intOf i).toNat)
    case atStart => exact ⟨0, Nat.zero_le _, rfl, rfl, Keep.refl _ _⟩
    case round =>
      obtain ⟨k, hk, rfl, hall, hkr⟩ := hrel
      have HK := Lib.hid hkr
      have HAL := Lib.hid hall
      clear hall
      by_cases hlt : k < es.length
      · have hlt' : (k : Int) < es.length := by omega
        obtain ⟨b, o, rfl, -, hkl, cs, hcl, hrg, he⟩ := ElemsOf.elem (ExsAt.keep HE2.out hkr.weak) k hlt
        have SN := Lib.hid (exs_snoc hkl HAL.out)
        generalize es[k] = y at he SN
        obtain ⟨ca, rfl⟩ : ∃ ca : Array Value, cs = ca.toList := ⟨cs.toArray, by simp⟩
        have SZ := Lib.hid (show ca.size = 8 by simpa using hcl)
        have RG := Lib.hid hrg
        have CL := Lib.hid (rexOk_any d y ca S wr he)
        clear hcl hrg he hkr
        have t4 : True := trivial
        cases hy : exOk y with
        | false =>
          have Q := Lib.hid (show jobsOut es ps = ([], 1) by rw [ANS.out, all_part exOk _ (k + 1) (by rw [SN.out, hy])]; rfl)
          rw [hy] at CL
          clear hy
          go_wp2_with (first | (have _t := t4; refine wpList_load_part 89 (.tmp 25) rfl rfl b (o + k * 8) (by first | rfl | simp) ca _ RG.out Tryz.underlying89 rfl (by rw [SZ.out]; kernel_rfl) ?_; go_frame; clear _t t4) | (go_at_call 36; refine CL.out.mono ?_; rintro e w4 ⟨rfl, k4⟩; have K4 := Lib.hid (HK.out.trans k4); clear k4))
          go_ret2
          rw [Q.out]
          exact ⟨_, rfl, EvO.nil _ _, KK.out.trans K4.out⟩
        | true =>
          rw [hy] at CL SN
          clear hy
          go_wp2_with (first | (have _t := t4; refine wpList_load_part 89 (.tmp 25) rfl rfl b (o + k * 8) (by first | rfl | simp) ca _ RG.out Tryz.underlying89 rfl (by rw [SZ.out]; kernel_rfl) ?_; go_frame; clear _t t4) | (go_at_call 36; refine CL.out.mono ?_; rintro e w4 ⟨rfl, k4⟩; have K4 := Lib.hid (HK.out.trans k4); clear k4))
          go_roundw
          case rel => exact ⟨k + 1, hlt, by go_num, SN.out, K4.out⟩
          case measure => simp [intOf]; omega
      · have AN2 := Lib.hid (show jobsOut es ps = if (jobEvs es ps).length ≤ 64 then (jobEvs es ps, 0) else ([], 5) by
          have := HAL.out
          rw [List.take_of_length_le (by omega)] at this
          rw [ANS.out, this]; rfl)
        have HP3 := Lib.hid (HP2.out.keep hkr.weak)
        have HE3 := Lib.hid (ExsAt.keep HE2.out hkr.weak)
        have B3 := Lib.hid (B2.out.keep hkr (fun e => e))
        have K3 := Lib.hid (KK.out.trans hkr)
        have L3 := Lib.hid (KK.out.trans hkr).size
        clear hkr HK HAL ANS HP2 HE2 B2 KK
        obtain ⟨w5, hw5⟩ : ∃ w5, w5 = wr := ⟨_, rfl⟩
        subst hw5
        go_wp2_with (fail)
        go_loopw [7, 8] (fun u i wr => ∃ k : Nat, k ≤ ps.length ∧ i = .int .i64 k ∧ EvO wr w5.heap.size u (jobEvs es (ps.take k)) ∧ Keep none_ w5 wr) (fun _ i _ => ps.length - (intOf i).toNat)
        case atStart => exact ⟨0, Nat.zero_le _, rfl, EvO.nil _ _, Keep.refl _ _⟩
        case round =>
          obtain ⟨k, hk, rfl, hu, hkr⟩ := hrel
          obtain ⟨wo, hwo⟩ : ∃ wo, wo = wr := ⟨_, rfl⟩
          subst hwo
          have HK := Lib.hid hkr
          have c0 : wo.cell? ⟨w.heap.size, 0, none⟩ = some (.slice P ps.length cp) := (B3.out.keep hkr (fun e => e)).cell 0
          by_cases hlt : k < ps.length
          · have hlt' : (k : Int) < ps.length := by omega
            obtain ⟨b, o, rfl, -, hkl, cs, hcl, hrg, he⟩ := ElemsOf.elem (HP3.out.keep hkr.weak) k hlt
            have SN := Lib.hid (jobEvs_snoc es hkl)
            obtain ⟨f, m, hfm, hln, hm1, hfm2⟩ := PIN.out _ (List.getElem_mem hkl)
            generalize ps[k] = x at he SN hfm hln
            obtain ⟨cpy, fm, ln, md, fr⟩ := x
            simp only at hfm hln
            subst hfm hln
            unfold PtOf at he
            simp only at he
            obtain ⟨ca, rfl⟩ : ∃ ca : Array Value, cs = ca.toList := ⟨cs.toArray, by simp⟩
            obtain rfl : ca = #[.bool cpy, .int .i64 f, .int .i64 m, .string md, .int .i64 fr] := Array.toList_inj.1 he
            have RG := Lib.hid hrg
            clear hcl hrg he hkr
            obtain ⟨css, ho, hE⟩ := hu
            obtain ⟨Ao, co, rfl, -⟩ := own_row (S := none_) ho (fun _ _ e => e)
            have HO := Lib.hid ho
            have HEv := Lib.hid hE
            clear ho hE
            have t2 : True := trivial
            have t3 : True := trivial
            go_upto_region 13 with (first | (have _t := t2; refine wpList_load_part 33 (.tmp 39) rfl rfl b (o + k * 5) (by first | rfl | simp) #[.bool cpy, .int .i64 f, .int .i64 m, .string md, .int .i64 fr] _ RG.out Tryz.underlying33 rfl (by kernel_rfl) ?_; go_frame; clear _t t2) | (have _t := t3; refine wpList_store_blk rfl 33 (.tmp 9) (.tmp 40) rfl wo.heap.size 33 _ _ rfl rfl (Blk.new _ _ _) rfl (by kernel_rfl) (by simp [Value.oneCell']) ?_; intro w3 b3 k3 s3; go_frame; clear _t t3))
            have kr3 : Keep none_ wo w3 := ((Keep.refl none_ wo).alloc _).own k3 (Nat.le_refl _)
            have y0 := b3.cell 0
            have y1 := b3.cell 1
            simp only [List.getElem?_toArray, List.getElem?_cons_zero, List.getElem?_cons_succ] at y0 y1
            have B4 := Lib.hid b3
            have KW := Lib.hid kr3
            have K4 := Lib.hid (HK.out.trans kr3)
            clear k3 s3 b3 kr3 RG HK c0
            cases cpy with
            | true =>
              clear y1
              go_wp2
              go_roundw
              case rel => exact ⟨k + 1, hlt, by go_num, by rw [SN.out, if_pos rfl, List.append_nil]; exact EvO.keep0 ⟨css, HO.out, HEv.out⟩ KW.out, K4.out⟩
              case measure => simp [intOf]; omega
            | false =>
              have HN := Lib.hid (show (jobEvs es (ps.take k)).length ≤ 1048576 by
                have h1 := jobEvs_part es ps k
                have h2 : (jobEvs es ps).length ≤ ps.length := by
                  unfold jobEvs
                  rw [List.length_map]
                  exact List.length_filter_le _ _
                omega)
              have C2' := C2.out
              have C1' := C1.out
              unfold maxLen at C2'
              have JN := Lib.hid (rjobName_any f w3 (by omega) (by omega))
              clear C1' C2'
              have t4 : True := trivial
              go_upto_region 15 with (first
                | (go_at_call 13; refine JN.out.mono ?_; rintro e w4 ⟨rfl, k4⟩; have K4b := Lib.hid k4; clear k4)
                | (have _t := t4; refine wpList_store_blk rfl 78 (.tmp 10) (.tmp 46) rfl w4.heap.size 78 _ _ rfl rfl (Blk.new _ _ _) rfl (by kernel_rfl) (by simp [Value.oneCell']) ?_; intro w6 b6 k6 s6; go_frame; clear _t t4))
              have kr6 : Keep none_ w4 w6 := ((Keep.refl none_ w4).alloc _).own k6 (Nat.le_refl _)
              have BE := Lib.hid b6
              have B6 := Lib.hid ((B4.out.keep K4b.out (fun e => e)).keep kr6 (fun e => e))
              have LT := Lib.hid (show wo.heap.size < w4.heap.size from Nat.lt_of_lt_of_le B4.out.lt K4b.out.size)
              have K6 := Lib.hid kr6
              have KW4 := Lib.hid (KW.out.trans K4b.out)
              have K54 := Lib.hid (K4.out.trans K4b.out)
              have FM := Lib.hid (HF.out.film ⟨false, f, m, md, fr⟩)
              clear y1
              have y1 : w6.cell? ⟨wo.heap.size, 1, none⟩ = some (.int .i64 f) := B6.out.cell 1
              clear k6 s6 b6 kr6 y0 B4 KW K4 K4b JN
              go_wp2_with (fail)
              clear y1
              go_loopw [11] (fun i wy => ∃ (q : Nat) (A : Option Addr) (n c : Nat), f ≤ q ∧ q ≤ f + m ∧ i = .int .i64 q ∧ Blk wy w4.heap.size 78 #[.int .i64 1, .string (jobNm f), .string ⟨#[]⟩, .slice A n c, .int .i64 0, .slice none 0 0] ∧ OwnS wy w5.heap.size (.slice A n c) (needsOf (exsMedia (((es.drop f).take m).take (q - f)))) ∧ Keep (one w4.heap.size) w6 wy) (fun i _ => f + m - (intOf i).toNat)
              case atStart => exact ⟨f, none, 0, 0, Nat.le_refl _, by omega, rfl, BE.out, by rw [Nat.sub_self]; exact OwnS.nil _ _, Keep.refl _ _⟩
              case round =>
                obtain ⟨q, A, n, c, hq1, hq2, rfl, hbe, hos, hjr⟩ := hrel
                have KT := Lib.hid (K6.out.own hjr (Nat.le_refl _))
                have K5r := Lib.hid (K54.out.trans KT.out)
                have B6r := Lib.hid (B6.out.keep hjr (fun e => by have := LT.out; unfold one at e; omega))
                have HJ := Lib.hid hjr
                have BR := Lib.hid hbe
                have OS := Lib.hid hos
                have y1 : wr.cell? ⟨wo.heap.size, 1, none⟩ = some (.int .i64 f) := B6r.out.cell 1
                have y2 : wr.cell? ⟨wo.heap.size, 2, none⟩ = some (.int .i64 m) := B6r.out.cell 2
                have hfm3 : (f : Int) + m ≤ 9223372036854775807 := by omega
                clear hbe hos hjr
                by_cases hqm : q < f + m
                · have hqm' : (q : Int) < (f : Int) + m := by omega
                  have hqe : q < es.length := by omega
                  have hqe' : (q : Int) < es.length := by omega
                  obtain ⟨b', o', rfl, -, hql, cs, hcl, hrg, hx⟩ := ElemsOf.elem (ExsAt.keep HE3.out K5r.out.weak) q hqe
                  have SN3 := Lib.hid (film_snoc hq1 hqm hqe)
                  have LN3 := Lib.hid (show (needsOf (exsMedia (((es.drop f).take m).take (q - f)))).length + (exMedia es[q]).length ≤ 4294967295 by
                    have h0 : (needsOf (exsMedia (((es.drop f).take m).take (q - f)))).length ≤ _ := ins_all_len (exsMedia (((es.drop f).take m).take (q - f))) []
                    have h1 : (exsMedia (((es.drop f).take m).take (q + 1 - f))).length ≤ 1048576 := FM.out.take _
                    rw [SN3.out, List.length_append] at h1
                    simp only [List.length_nil] at h0
                    omega)
                  generalize es[q] = y at hx SN3 LN3
                  obtain ⟨ca, rfl⟩ : ∃ ca : Array Value, cs = ca.toList := ⟨cs.toArray, by simp⟩
                  have SZ := Lib.hid (show ca.size = 8 by simpa using hcl)
                  have RG := Lib.hid hrg
                  have HX := Lib.hid hx
                  obtain ⟨L, hL⟩ : ∃ L, L = needsOf (exsMedia (((es.drop f).take m).take (q + 1 - f))) := ⟨_, rfl⟩
                  have HL := Lib.hid hL
                  have NX := Lib.hid (fun (yw : World) (ky : Keep none_ wr yw) => needs_any d y ca _ (.slice A n c) w5.heap.size S yw (HX.out.keep ky.weak) (OS.out.keep ky) (Nat.le_trans K5r.out.size ky.size) (needsOf_asc _) LN3.out)
                  have EL := Lib.hid (show (exMedia y).foldl insN (needsOf (exsMedia (((es.drop f).take m).take (q - f)))) = L by rw [hL, SN3.out]; unfold needsOf; rw [List.foldl_append])
                  have y3 : wr.cell? ⟨w4.heap.size, 3, none⟩ = some (.slice A n c) := BR.out.cell 3
                  clear hcl hrg hx hL
                  go_upto_region 18 with (fail)
                  have gd := factCalm_good (wr := wr) (ks := [6]) (anc := fun _ => []) (T := fun _ v y => OwnS y w5.heap.size v L) (fun _ _ _ _ h hk => OwnS.keep h hk)
                  have ne := factCalm_some wr [6] (fun _ => []) (fun _ v y => OwnS y w5.heap.size v L)
                  have x3 := fun y => (factCalm_at (wr := wr) (ks := [6]) (anc := fun _ => []) (T := fun _ v y => OwnS y w5.heap.size v L) y).cell y3 (fun e => e)
                  have xr := Lib.hid (fun y => rangeAt_keep RG.out (factCalm_at (wr := wr) (ks := [6]) (anc := fun _ => []) (T := fun _ v y => OwnS y w5.heap.size v L) y) (fun e => e))
                  refine wp_region_calm (factCalm wr [6] (fun _ => []) (fun _ v y => OwnS y w5.heap.size v L)) [0, 1, 2, 3, 4, 5, 6, 7] [8] 74 (by kernel_rfl) (by kernel_rfl) rfl gd (Keep.refl _ _).drew ?_
                  simp only [pairs, List.filterMap_cons, List.filterMap_nil, List.getElem?_toArray, List.getElem?_cons_succ, List.getElem?_cons_zero, Option.map_some]
                  repeat (refine Calm.walk_quiet ne rfl rfl rfl (fun K hK => ?_); go_big_quiet_op; refine hK _ ?_; clear hK K)
                  refine Calm.walk_load 89 (.tmp 62) rfl ne rfl rfl b' (o' + q * 8) (by first | rfl | simp) ca _ xr.out Tryz.underlying89 rfl (by rw [SZ.out]; kernel_rfl) ?_
                  go_frame
                  refine Calm.walk_eff rfl rfl (fun nn wy hn hG _ => ?_) ?_
                  · have hG' : Keep none_ wr wy := hG
                    unfold gives
                    go_simp
                    refine (NX.out wy hG').mono ?_
                    rintro e wz ⟨v, rfl, hv, hk⟩
                    rw [EL.out] at hv
                    exact ⟨_, rfl, hv, hk, hG'.trans hk, fun _ h => h.elim⟩
                  intro vb wy hT
                  obtain ⟨A3, d3, rfl, -⟩ := own_row (S := none_) (show OwnS wy w5.heap.size vb L from hT) (fun _ _ e => e)
                  clear hT wy
                  go_frame
                  repeat (refine Calm.walk_quiet ne rfl rfl rfl (fun K hK => ?_); go_big_quiet_op; refine hK _ ?_; clear hK K)
                  intro w7 hG hD
                  have k7 : Keep none_ wr w7 := hG
                  have o7 : OwnS w7 w5.heap.size (.slice A3 L.length d3) L := (hD.1 6 rfl _ rfl ⟨rfl, rfl⟩).1
                  have B7 := BR.out.keep k7 (fun e => e)
                  have z7 := B7.cell 3
                  simp only [List.getElem?_toArray, List.getElem?_cons_zero, List.getElem?_cons_succ] at z7
                  have f7 := B7.frozen 3
                  have K7 := Lib.hid k7
                  have O7 := Lib.hid o7
                  have BB7 := Lib.hid B7
                  clear hG hD gd ne x3 xr k7 o7 B7 y3 y1 y2
                  simp only [pickOps, List.filterMap_cons, List.filterMap_nil, List.getElem?_toArray, List.getElem?_cons_succ, List.getElem?_cons_zero]
                  go_wp2
                  go_roundw
                  case rel =>
                    have kst : Keep (one w4.heap.size) w7 (w7.setCell ⟨w4.heap.size, 3, none⟩ (.slice A3 L.length d3)) := (Keep.refl (one w4.heap.size) w7).setCell (p := ⟨w4.heap.size, 3, none⟩) (.inl rfl) _
                    have hb3 := BB7.out.set_ 3 (.slice A3 L.length d3)
                    refine ⟨q + 1, A3, L.length, d3, by omega, by omega, by go_num, hb3, ?_, (HJ.out.trans K7.out.weak).trans kst⟩
                    rw [← HL.out]
                    exact own_far O7.out kst (fun b t cs a1 a2 a3 => by
                      cases a1
                      have : some (Obj.cells cs t (0, 0)) = some (Obj.cells _ 78 (0, 0)) := a3.symm.trans BB7.out
                      cases this
                      decide)
                  case measure => simp [intOf]; omega
                · obtain rfl : q = f + m := by omega
                  have hqm' : ¬ ((f + m : Nat) : Int) < (f : Int) + m := by omega
                  have KWr := Lib.hid (KW4.out.trans KT.out)
                  have EQ : ((es.drop f).take m).take (f + m - f) = filmAt es ⟨false, f, m, md, fr⟩ := by
                    unfold filmAt
                    rw [List.take_of_length_le (by rw [List.length_take]; omega)]
                    rfl
                  rw [EQ] at OS
                  have HOr := Lib.hid (own_keep HO.out KWr.out (fun _ _ e => e))
                  clear EQ hqm
                  have t8 : True := trivial
                  have t9 : True := trivial
                  go_wp2_with (first
                    | (have _t := t8; refine wpList_load_part 78 (.tmp 10) rfl rfl w4.heap.size 0 rfl #[.int .i64 1, .string (jobNm f), .string ⟨#[]⟩, .slice A n c, .int .i64 0, .slice none 0 0] _ BR.out.rangeAt Tryz.underlying78 rfl (by kernel_rfl) ?_; go_frame; clear _t t8)
                    | (have _t := t9; refine wpList_append_blk (.tmp 66) (.tmp 68) 36 78 rfl rfl w5.heap.size _ 6 96 Tryz.underlying36 ev_info rfl (by decide) (.slice Ao (jobEvs es (ps.take k)).length co) (jobEvs es (ps.take k)).length css.flatten rfl (own_keep HOr.out ((Keep.refl none_ _).alloc _) (fun _ _ e => e)) wr.heap.size #[.int .i64 1, .string (jobNm f), .string ⟨#[]⟩, .slice A n c, .int .i64 0, .slice none 0 0] rfl (Blk.new _ _ _) rfl (by simp [Value.oneCell']) (by have := HN.out; omega) (Nat.le_trans K5r.out.size ((Keep.refl none_ wr).alloc _).size) ?_; intro Aq cq wq oq kq; have OQ := Lib.hid oq; have KQ := Lib.hid kq; clear oq kq; go_frame; clear _t t9))
                  have JE : jobEvs es (ps.take (k + 1)) = jobEvs es (ps.take k) ++ [⟨1, jobNm f, ⟨#[]⟩, needsOf (exsMedia (filmAt es ⟨false, f, m, md, fr⟩)), 0, []⟩] := by
                    rw [SN.out, if_neg Bool.false_ne_true]
                    rfl
                  have GO := Lib.hid (show EvO wq w5.heap.size (.slice Aq ((jobEvs es (ps.take k)).length + 1) cq) (jobEvs es (ps.take (k + 1))) by
                    rw [JE]
                    have h2 : All2 (EvOwn wr w5.heap.size) css (jobEvs es (ps.take k)) := HEv.out.imp (fun _ _ h => h.keep KWr.out (fun _ _ _ e => e.elim))
                    exact EvO.snoc (own_keep HOr.out ((Keep.refl none_ wr).alloc _) (fun _ _ e => e)) (h2.imp (fun _ _ h => h.keep ((Keep.refl none_ wr).alloc _) (fun _ _ _ e => e.elim))) (OS.out.keep ((Keep.refl none_ wr).alloc _)) rfl OQ.out KQ.out)
                  have KG := Lib.hid (show Keep none_ w5 wq from (K5r.out.trans ((Keep.refl none_ wr).alloc _)).then KQ.out (fun x e => .inr (own_ge HOr.out x e)))
                  clear JE
                  go_roundw
                  case rel => exact ⟨k + 1, hlt, by go_num, GO.out, KG.out⟩
                  case measure => simp [intOf]; omega
          · obtain rfl : k = ps.length := by omega
            rw [List.take_length] at hu
            have HU := Lib.hid (hu.base L3.out)
            have KK := Lib.hid (K3.out.trans hkr)
            obtain ⟨css, ho, -⟩ := hu
            obtain ⟨Ao, co, rfl, -⟩ := own_row (S := none_) ho (fun _ _ e => e)
            clear hkr ho
            by_cases h64 : (jobEvs es ps).length ≤ 64
            · have Q := Lib.hid (show jobsOut es ps = (jobEvs es ps, 0) by rw [AN2.out, if_pos h64])
              have h64' : ¬ (64 : Int) < (jobEvs es ps).length := by omega
              go_wp2
              go_ret2
              rw [Q.out]
              exact ⟨_, rfl, HU.out, KK.out⟩
            · have Q := Lib.hid (show jobsOut es ps = ([], 5) by rw [AN2.out, if_neg h64])
              have h64' : (64 : Int) < (jobEvs es ps).length := by omega
              go_wp2
              go_ret2
              rw [Q.out]
              exact ⟨_, rfl, EvO.nil _ _, KK.out⟩
end Go.Proofs.YtnefbeplgfdkkaaGreatDoor
