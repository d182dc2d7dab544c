/-
  FarmLeases: the walk.
-/
import Derived.Test.YtnefbeplgfdkkaaDoorLeaP
import Derived.Test.YtnefbeplgfdkkaaDoorLiv
namespace Go.Proofs.YtnefbeplgfdkkaaDoor
open Go.RowKit

set_option maxRecDepth 100000 in
set_option maxHeartbeats 4000000 in
theorem leases_any (A : Option Addr) (n c : Nat) (zs : List Int) (w : World) (hr : Row w none_ 1 A n c (zs.map (Value.int .i64))) (hz : I64s zs) :
    Calls Tryd.prog 6 #[.slice A n c] w fun e w' => e = .returned (.bool true) ∧ Keep none_ w w' := by
  have ht : TapeAt (w.alloc (.cells #[.slice A n c, .int .i64 0] 45)) w.heap.size 0 := ⟨A, n, c, 0, zs, Blk.new _ _ _, Nat.le_refl _, ((hr.fresh (S := ge w.heap.size) (fun k e => e) (by decide)).keep ((Keep.refl _ _).alloc _)), hz⟩
  have k0 : Keep none_ w (w.alloc (.cells #[.slice A n c, .int .i64 0] 45)) := (Keep.refl _ _).alloc _
  have ze := zero_event
  have zs := zero_state
  obtain ⟨W0, hW0⟩ : ∃ W0, W0 = w.alloc (.cells #[.slice A n c, .int .i64 0] 45) := ⟨_, rfl⟩
  rw [← hW0] at ht k0
  have lT : w.heap.size < W0.heap.size := ht.lt
  obtain ⟨bs, hbs⟩ : ∃ bs, bs = w.heap.size + 1 := ⟨_, rfl⟩
  have hbs0 : bs = W0.heap.size := by rw [hbs, hW0, World.size_alloc]
  obtain ⟨W1, hW1⟩ : ∃ W1, W1 = W0.alloc (.cells #[.int .i64 0, .slice none 0 0, .slice none 0 0, .slice none 0 0] 30) := ⟨_, rfl⟩
  have k1 : Keep none_ W0 W1 := hW1 ▸ (Keep.refl none_ W0).alloc _
  have b1 : Blk W1 bs 30 #[.int .i64 0, .slice none 0 0, .slice none 0 0, .slice none 0 0] := hW1 ▸ hbs0 ▸ Blk.new _ _ _
  have EV := Lib.hid (events_any w.heap.size 0 30 W1 (TapeAt.far ht k1 (fun b e => e.elim)) (by decide) (by decide))
  have K0 := Lib.hid (k0.trans k1)
  have B1 := Lib.hid b1
  have l1 := b1.lt
  have wb : w.heap.size < bs := by omega
  clear hbs0
  clear hr hz ht k0 k1 b1
  go_enter Tryd.func6, Tryd.ntmps6
  go_upto_region 3 with (fail)
  rw [← hW0, ← hbs, ← hW1]
  clear hW0 hbs hW1 lT
  have t1 : True := trivial
  go_upto_region 4 with (have _t := t1; go_at_call 10; refine EV.out.mono ?_; rintro e w1 ⟨vl, l, css, rfl, ho, hE, hl, hg, -, k1⟩; have hSS : ∀ b, W1.heap.size ≤ b → ¬ one bs b := (fun b h1 h2 => by unfold one at h2; omega); obtain ⟨LA, lc, rfl, -⟩ := own_row (S := none_) ho (fun _ _ e => e); have EO := Lib.hid (EvsOf.ownS hSS ho (hE.imp (fun _ _ h => h.csS hSS))); have K1 := Lib.hid (K0.out.own k1 (Nat.le_refl _)); have BS := Lib.hid (B1.out.keep k1 (fun e => by unfold one at e; omega)); have HG := Lib.hid hg; clear ho hE k1 hg hSS _t t1)
  clear EV K0 B1 l1
  have hlen : l.length ≤ 30 := hl
  clear hl
  go_loopw [22] (fun i wr => ∃ (k : Nat) (s : St) (P1 : Option Addr) (P2 P3 : Nat) (P4 : Option Addr) (P5 P6 : Nat) (P7 : Option Addr) (P8 P9 : Nat), k ≤ l.length ∧ i = .int .i64 k ∧ V s ∧ ItsOk s ∧ Blk wr bs 30 #[.int .i64 s.now, .slice P1 P2 P3, .slice P4 P5 P6, .slice P7 P8 P9] ∧ StateOf wr (one bs) (.agg #[.int .i64 s.now, .slice P1 P2 P3, .slice P4 P5 P6, .slice P7 P8 P9]) s ∧ EvsOf wr (one bs) (.slice LA l.length lc) l ∧ Keep none_ w wr) (fun i _ => l.length - (intOf i).toNat)
  case atStart => exact ⟨0, zeroSt, _, _, _, _, _, _, _, _, _, Nat.zero_le _, rfl, V.zero, ItsOk.zero, BS.out, zeroSt_of _ _, EO.out, K1.out⟩
  case round =>
    clear BS EO K1
    obtain ⟨k, s, P1, P2, P3, P4, P5, P6, P7, P8, P9, hk, rfl, hv, hi, hB, hS, hE, hkr⟩ := hrel
    have HV := Lib.hid hv
    have HI := Lib.hid hi
    have HB := Lib.hid hB
    have HS := Lib.hid hS
    have HE := Lib.hid hE
    have HK := Lib.hid hkr
    have lbs := hB.lt
    have lw := hkr.size
    by_cases hlt : k < l.length
    · have hlt' : (k : Int) < l.length := by omega
      obtain ⟨be, oe, rfl, hbe, hkl2, cs, hcl, hrg, vn, vi, hcs, hns, his⟩ := hE.elem k hlt
      have hgk := HG.out l[k] (List.getElem_mem hlt)
      generalize l[k] = e at hcs hns his hgk
      subst hcs
      obtain ⟨An, nn, cn, rfl, hns'⟩ := hns
      obtain ⟨Ai, ni, ci, rfl, his'⟩ : ∃ Ai ni ci, vi = .slice Ai ni ci ∧ ItemsOf wr (one bs) vi e.items := by obtain ⟨A, n, c, e, h⟩ := (id his : ItemsOf wr (one bs) vi e.items); exact ⟨A, n, c, e, his⟩
      have HNS := Lib.hid (show StrsOf wr (one bs) (.slice An nn cn) e.needs from ⟨_, _, _, rfl, hns'⟩)
      have HIS := Lib.hid his'
      have HRG := Lib.hid hrg
      have HGK := Lib.hid hgk
      clear hv hi hB hS hE hkr hrg hns' his his' hgk hcl
      have t1 : True := trivial
      have t2 : True := trivial
      go_upto_region 6 with (first | (have _t := t1; refine wpList_load_part 25 (.tmp 24) rfl rfl be (oe + k * 6) (by first | rfl | simp) #[.int .i64 e.kind, .string e.name, .string e.worker, .slice An nn cn, .int .i64 e.ticks, .slice Ai ni ci] _ HRG.out Tryd.underlying25 rfl (by kernel_rfl) ?_; go_frame; clear _t t1) | (have _t := t2; refine wpList_store_blk rfl 25 (.tmp 6) (.tmp 25) rfl wr.heap.size 25 _ _ rfl rfl (Blk.new _ _ _) rfl (by kernel_rfl) (by simp [Value.oneCell']) ?_; intro w5 b5 k5 s5; go_frame; clear _t t2))
      have kr5 : Keep none_ wr w5 := ((Keep.refl none_ wr).alloc _).own k5 (Nat.le_refl _)
      have B5 := Lib.hid b5
      have KR5 := Lib.hid kr5
      have HB5 := Lib.hid (HB.out.keep kr5 (fun e => e))
      have HS5 := Lib.hid (HS.out.keep kr5.weak)
      have HNS5 := Lib.hid (HNS.out.keep kr5.weak)
      have HIS5 := Lib.hid (HIS.out.keep kr5.weak)
      have l5 := kr5.size
      have lb5 := b5.lt
      clear k5 s5 b5 kr5 HNS HIS HRG
      have RD := Lib.hid (rdy_any s _ _ w5 HS5.out)
      have t3 : True := trivial
      have t4 : True := trivial
      go_upto_region 7 with (first | (have _t := t3; refine wpList_load_part 30 (.tmp 4) rfl rfl bs 0 rfl #[.int .i64 s.now, .slice P1 P2 P3, .slice P4 P5 P6, .slice P7 P8 P9] _ HB5.out.rangeAt Tryd.underlying30 rfl (by kernel_rfl) ?_; go_frame; clear _t t3) | (have _t := t4; go_at_call 12; refine RD.out.mono ?_; rintro en w6 ⟨v6, rfl, o6, k6⟩; have hrf : readyF s = readyL s := (by unfold readyF; rw [(valid_iff s).2 HV.out]; rfl); rw [hrf] at o6; obtain ⟨RA, rc, rfl, rr⟩ := own_row (S := none_) o6 (fun _ _ e => e); have RR6 := Lib.hid rr; have K6 := Lib.hid k6; clear o6 k6 rr hrf _t t4))
      have l6 := K6.out.size
      have HB6 := Lib.hid (HB5.out.keep K6.out (fun e => e))
      have B6 := Lib.hid (B5.out.keep K6.out (fun e => e))
      have ST := Lib.hid (step_new s e (.agg #[.int .i64 s.now, .slice P1 P2 P3, .slice P4 P5 P6, .slice P7 P8 P9]) (.agg #[.int .i64 e.kind, .string e.name, .string e.worker, .slice An nn cn, .int .i64 e.ticks, .slice Ai ni ci]) (one bs) (one bs) w6 (HS5.out.keep K6.out.weak) ⟨_, _, rfl, HNS5.out.keep K6.out.weak, HIS5.out.keep K6.out.weak⟩ HI.out HGK.out.items)
      clear RD
      have t5 : True := trivial
      have t6 : True := trivial
      have t7 : True := trivial
      have t8 : True := trivial
      go_upto_region 8 with (first | (have _t := t5; refine wpList_load_part 30 (.tmp 4) rfl rfl bs 0 rfl #[.int .i64 s.now, .slice P1 P2 P3, .slice P4 P5 P6, .slice P7 P8 P9] _ HB6.out.rangeAt Tryd.underlying30 rfl (by kernel_rfl) ?_; go_frame; clear _t t5) | (have _t := t6; refine wpList_load_part 25 (.tmp 6) rfl rfl wr.heap.size 0 rfl #[.int .i64 e.kind, .string e.name, .string e.worker, .slice An nn cn, .int .i64 e.ticks, .slice Ai ni ci] _ B6.out.rangeAt Tryd.underlying25 rfl (by kernel_rfl) ?_; go_frame; clear _t t6) | (have _t := t7; go_at_call 8; refine ST.out.mono ?_; rintro en w7 ⟨v7, vo7, rfl, h7, o7, k7⟩; obtain ⟨O7a, O7c, rfl, or7⟩ := o7; obtain ⟨Q1, Q2, Q3, Q4, Q5, Q6, Q7, Q8, Q9, rfl, -⟩ := h7.open_; have H7 := Lib.hid (h7.sub (S' := one bs) (fun x e => by unfold one at e; unfold bel; omega)); have K7 := Lib.hid k7; have OR7 := Lib.hid or7; clear h7 or7 k7 _t t7) | (have _t := t8; refine wpList_store_blk rfl 30 (.tmp 8) (.tmp 32) rfl w7.heap.size 30 _ _ rfl rfl (Blk.new _ _ _) rfl (by kernel_rfl) (by simp [Value.oneCell']) ?_; intro w8 b8 k8 s8; go_frame; clear _t t8))
      have k78 : Keep none_ w7 w8 := ((Keep.refl none_ w7).alloc _).own k8 (Nat.le_refl _)
      have kr8 : Keep none_ wr w8 := ((KR5.out.trans K6.out).trans K7.out).trans k78
      have HB8 := Lib.hid (HB.out.keep kr8 (fun e => e))
      have HS8 := Lib.hid (HS.out.keep kr8.weak)
      have HE8 := Lib.hid (HE.out.keep kr8.weak)
      have KR8 := Lib.hid kr8
      have H8 := Lib.hid (H7.out.keep k78.weak)
      have B8 := Lib.hid b8
      have E8 := Lib.hid (B6.out.keep (K7.out.trans k78) (fun e => e))
      have RR8 := Lib.hid (RR6.out.keep (K7.out.trans k78))
      have OR8 := Lib.hid (OR7.out.keep k78)
      have l8 := kr8.size
      clear b8 k8 s8 k78 kr8 HB HS HE HB5 HS5 HB6 B5 B6 KR5 K6 K7 RR6 OR7 H7 HNS5 HIS5 ST l5 l6
      by_cases h0 : stepE s e = 0
      · have HVt := Lib.hid (lea_V HV.out h0)
        have HIt := Lib.hid (HI.out.step HGK.out.items (s := s))
        have POLL := Lib.hid (fun (k0 : Nat) (r : List Nat) (h6 : e.kind = 6) (hr : readyL s = k0 :: r) => lea_poll h0 h6 hr)
        rw [h0]
        obtain ⟨t, ht⟩ : ∃ t, stepS s e = t := ⟨_, rfl⟩
        rw [ht] at H8 B8 HVt HIt ⊢
        clear ht h0
        have c0 : w8.cell? ⟨wr.heap.size, 0, none⟩ = some (.int .i64 e.kind) := E8.out.cell 0
        have c2 : w8.cell? ⟨wr.heap.size, 2, none⟩ = some (.string e.worker) := E8.out.cell 2
        go_upto_region 9 with (fail)
        obtain ⟨nr, hnr⟩ : ∃ nr, (readyL s).length = nr := ⟨_, rfl⟩
        obtain ⟨no, hno⟩ : ∃ no, (stepO s e).length = no := ⟨_, rfl⟩
        rw [hnr] at RR8
        rw [hno] at OR8
        rw [hnr, hno]
        have HNR := Lib.hid hnr
        have HNO := Lib.hid hno
        clear hnr hno
        go_cut [22, 61] from 22 to 137 (fun i x wx => i = .int .i64 k ∧ x = .bool false ∧ Keep none_ w8 wx)
        case first =>
          by_cases h6 : e.kind = 6
          · have h6' : (e.kind == 6) = true := by simpa using h6
            cases hr : readyL s with
            | nil =>
              obtain rfl : nr = 0 := by rw [← HNR.out, hr]; rfl
              clear hr
              have gd := still_good (w8).drew
              have ne := still_some (w8).drew
              have hx := still_at (w8).drew
              refine wp_region_calm (stillCalm (w8).drew) [0, 1, 2, 3, 4, 5, 6, 7, 8, 9, 10, 11, 12, 13, 14, 15, 16, 17, 18, 19, 20, 21, 22, 23, 24] [] 143 (by kernel_rfl) (by kernel_rfl) rfl gd rfl ?_
              simp only [pairs, List.filterMap_cons, List.filterMap_nil, List.getElem?_toArray, List.getElem?_cons_succ, List.getElem?_cons_zero, Option.map_some]
              repeat (first | (refine Calm.walk_skip rfl ?_; go_frame) | (refine Calm.walk_quiet ne rfl rfl rfl (fun K hK => ?_); go_big_quiet_op; refine hK _ ?_; clear hK K))
              intro w' hR _
              obtain rfl : w' = (w8).drew := hR.symm
              simp only [pickOps, List.filterMap_nil]
              clear gd ne hx hR
              go_wp2
              go_meet
              exact ⟨rfl, rfl, (Keep.refl _ _).drew⟩
            | cons k0 r =>
              have hz : decide (0 < nr) = true := by rw [← HNR.out, hr]; simp
              have hso := POLL.out k0 r h6 hr
              have hn1 : no = 1 := by rw [← HNO.out, hso]; rfl
              subst hn1
              have rr := RR8.out
              have orr := OR8.out
              rw [hr] at rr
              rw [hso] at orr
              obtain ⟨b1, o1, rfl, -, hc1⟩ := rr.at_ (by simpa using hz)
              obtain ⟨b2, o2, rfl, -, hc2⟩ := orr.at_ (by decide)
              have d1 : w8.cell? ⟨b1, o1, none⟩ = some (.string (nameAt s k0)) := hc1 0 _ rfl
              have D2 := Lib.hid (show w8.rangeAt b2 o2 [.int .i64 1, .string (nameAt s k0), .string e.worker] from hc2)
              have hm : 0 < nr := by simpa using hz
              clear hr hso rr orr hc1 hc2
              have gd := still_good w8.drew
              have ne := still_some w8.drew
              have hx := still_at w8.drew
              refine wp_region_calm (stillCalm w8.drew) [0, 1, 2, 3, 4, 5, 6, 7, 8, 9, 10, 11, 12, 13, 14, 15, 16, 17, 18, 19, 20, 21, 22, 23, 24] [] 143 (by kernel_rfl) (by kernel_rfl) rfl gd rfl ?_
              simp only [pairs, List.filterMap_cons, List.filterMap_nil, List.getElem?_toArray, List.getElem?_cons_succ, List.getElem?_cons_zero, Option.map_some]
              repeat (first | (refine Calm.walk_skip rfl ?_; go_frame) | (refine Calm.walk_quiet ne rfl rfl rfl (fun K hK => ?_); go_big_quiet_op; refine hK _ ?_; clear hK K))
              refine Calm.walk_load 40 (.tmp 51) rfl ne rfl rfl b2 o2 (by first | rfl | simp) #[.int .i64 1, .string (nameAt s k0), .string e.worker] _ (fun x => by rw [hx x]; exact D2.out) Tryd.underlying40 rfl (by kernel_rfl) ?_
              go_frame
              repeat (first | (refine Calm.walk_skip rfl ?_; go_frame) | (refine Calm.walk_quiet ne rfl rfl rfl (fun K hK => ?_); go_big_quiet_op; refine hK _ ?_; clear hK K))
              intro w' hR _
              obtain rfl : w' = w8.drew := hR.symm
              simp only [pickOps, List.filterMap_nil]
              clear gd ne hx hR
              go_wp2
              go_meet
              exact ⟨rfl, rfl, (Keep.refl _ _).drew⟩
          · have h6' : (e.kind == 6) = false := by simpa using h6
            have gd := still_good (w8).drew
            have ne := still_some (w8).drew
            have hx := still_at (w8).drew
            refine wp_region_calm (stillCalm (w8).drew) [0, 1, 2, 3, 4, 5, 6, 7, 8, 9, 10, 11, 12, 13, 14, 15, 16, 17, 18, 19, 20, 21, 22, 23, 24] [] 143 (by kernel_rfl) (by kernel_rfl) rfl gd rfl ?_
            simp only [pairs, List.filterMap_cons, List.filterMap_nil, List.getElem?_toArray, List.getElem?_cons_succ, List.getElem?_cons_zero, Option.map_some]
            repeat (first | (refine Calm.walk_skip rfl ?_; go_frame) | (refine Calm.walk_quiet ne rfl rfl rfl (fun K hK => ?_); go_big_quiet_op; refine hK _ ?_; clear hK K))
            intro w' hR _
            obtain rfl : w' = (w8).drew := hR.symm
            simp only [pickOps, List.filterMap_nil]
            clear gd ne hx hR
            go_wp2
            go_meet
            exact ⟨rfl, rfl, (Keep.refl _ _).drew⟩
        case rest =>
          obtain ⟨rfl, rfl, k9⟩ := hcut
          have HB9 := Lib.hid (HB8.out.keep k9 (fun e => e))
          have B9 := Lib.hid (B8.out.keep k9 (fun e => e))
          have HE9 := Lib.hid (HE8.out.keep k9.weak)
          have H9 := Lib.hid (H8.out.keep k9.weak)
          have K9 := Lib.hid ((HK.out.trans KR8.out).trans k9)
          have l9 := k9.size
          clear k9 HB8 B8 HE8 HS8 H8 HK KR8 E8 RR8 OR8 POLL HNR HNO c0 c2 HV HI HGK
          have t9 : True := trivial
          have t10 : True := trivial
          go_upto_region 12 with (first | (have _t := t9; refine wpList_load_part 30 (.tmp 8) rfl rfl w7.heap.size 0 rfl #[.int .i64 t.now, .slice Q1 Q2 Q3, .slice Q4 Q5 Q6, .slice Q7 Q8 Q9] _ B9.out.rangeAt Tryd.underlying30 rfl (by kernel_rfl) ?_; go_frame; clear _t t9) | (have _t := t10; refine wpList_store_blk rfl 30 (.tmp 4) (.tmp 62) rfl bs 30 _ _ rfl rfl HB9.out rfl (by kernel_rfl) (by simp [Value.oneCell']) ?_; intro w10 b10 k10 s10; go_frame; clear _t t10))
          have HB := Lib.hid b10
          have HS := Lib.hid (H9.out.keep k10)
          have HE := Lib.hid (HE9.out.keep k10)
          have HK := Lib.hid (K9.out.own k10 (Nat.le_of_lt wb))
          have l10 := b10.lt
          have JO := Lib.hid (StateOf.jobsAt HS.out)
          obtain ⟨hlj, hqc, hqm⟩ := JO.out.facts
          unfold maxLen at hqm
          have y2 : w10.cell? ⟨bs, 2, none⟩ = some (.slice Q4 Q5 Q6) := b10.cell 2
          clear b10 k10 s10 HB9 B9 HE9 H9 K9
          go_upto_region 13 with (fail)
          clear y2
          go_loopw [66] (fun i wz => ∃ m : Nat, m ≤ Q5 ∧ i = .int .i64 m ∧ Keep none_ w10 wz) (fun i _ => Q5 - (intOf i).toNat)
          case atStart => exact ⟨0, Nat.zero_le _, rfl, Keep.refl _ _⟩
          case round =>
            obtain ⟨m, hm, rfl, hkz⟩ := hrel
            have HKZ := Lib.hid hkz
            clear hkz
            by_cases hlt : m < Q5
            · have hlt' : (m : Int) < Q5 := by omega
              obtain ⟨bj, oj, rfl, hcs⟩ := (JO.out.keep HKZ.out.weak).cells (by omega)
              have hml : m < t.jobs.length := by omega
              have CS := Lib.hid (fun (wx : World) (kx : Keep none_ w10 wx) => ((JO.out.keep kx.weak).cells (by omega)))
              obtain ⟨j, hj⟩ : ∃ j, t.jobs[m] = j := ⟨_, rfl⟩
              have HJ := Lib.hid hj
              clear hj hcs
              have y2 : wr.cell? ⟨bs, 2, none⟩ = some (.slice (some ⟨bj, oj, none⟩) Q5 Q6) := (HB.out.keep HKZ.out (fun e => e)).cell 2
              go_upto_region 16 with (fail)
              clear y2
              go_loopw [72] (fun i wz => ∃ p : Nat, p ≤ Q5 ∧ i = .int .i64 p ∧ Keep none_ w10 wz) (fun i _ => Q5 - (intOf i).toNat)
              case atStart => exact ⟨0, Nat.zero_le _, rfl, HKZ.out⟩
              case round =>
                clear HKZ
                obtain ⟨p, hp, rfl, hkp⟩ := hrel
                have HKP := Lib.hid hkp
                clear hkp
                have y2 : wr.cell? ⟨bs, 2, none⟩ = some (.slice (some ⟨bj, oj, none⟩) Q5 Q6) := (HB.out.keep HKP.out (fun e => e)).cell 2
                obtain ⟨bj', oj', ej, hcs⟩ := CS.out wr HKP.out
                injection ej with ej
                injection ej with ej1 ej2
                subst ej1 ej2
                by_cases hltp : p < Q5
                · have hltp' : (p : Int) < Q5 := by omega
                  have hpl : p < t.jobs.length := by omega
                  have y3 := (hcs m hml).2.1
                  have y4 := (hcs p hpl).2.1
                  rw [HJ.out] at y3
                  by_cases hmp : m = p
                  · subst hmp
                    clear y4 hcs
                    go_upto_region 18 with (fail)
                    have gd := still_good (wr).drew
                    have ne := still_some (wr).drew
                    have hx := still_at (wr).drew
                    refine wp_region_calm (stillCalm (wr).drew) [0, 1, 2, 3, 4, 5, 6, 7, 8, 9, 10, 11, 12, 13, 14, 15, 16, 17, 18, 19, 20, 21, 22, 23, 24, 25, 26] [] 143 (by kernel_rfl) (by kernel_rfl) rfl gd rfl ?_
                    simp only [pairs, List.filterMap_cons, List.filterMap_nil, List.getElem?_toArray, List.getElem?_cons_succ, List.getElem?_cons_zero, Option.map_some]
                    repeat (first | (refine Calm.walk_skip rfl ?_; go_frame) | (refine Calm.walk_quiet ne rfl rfl rfl (fun K hK => ?_); go_big_quiet_op; refine hK _ ?_; clear hK K))
                    intro w' hR _
                    obtain rfl : w' = (wr).drew := hR.symm
                    simp only [pickOps, List.filterMap_nil]
                    clear gd ne hx hR
                    go_wp2
                    go_roundw
                    case rel => exact ⟨m + 1, by omega, by go_num, HKP.out.drew⟩
                    case measure => simp [intOf]; omega
                  · have hmp1 : ((m : Int) == (p : Int)) = false := by simp; omega
                    have hmp2 : ((m : Int) != (p : Int)) = true := by simp; omega
                    have hmp3 : (m == p) = false := by simpa using hmp
                    have hmp4 : (m != p) = true := by simpa using hmp
                    cases he : strEq j.worker ⟨#[]⟩ with
                    | true =>
                      have e1 : j.worker = ⟨#[]⟩ := strEq_iff.1 he
                      rw [e1] at y3
                      clear he e1 hcs
                      go_upto_region 18 with (fail)
                      have gd := still_good (wr).drew
                      have ne := still_some (wr).drew
                      have hx := still_at (wr).drew
                      refine wp_region_calm (stillCalm (wr).drew) [0, 1, 2, 3, 4, 5, 6, 7, 8, 9, 10, 11, 12, 13, 14, 15, 16, 17, 18, 19, 20, 21, 22, 23, 24, 25, 26] [] 143 (by kernel_rfl) (by kernel_rfl) rfl gd rfl ?_
                      simp only [pairs, List.filterMap_cons, List.filterMap_nil, List.getElem?_toArray, List.getElem?_cons_succ, List.getElem?_cons_zero, Option.map_some]
                      repeat (first | (refine Calm.walk_skip rfl ?_; go_frame) | (refine Calm.walk_quiet ne rfl rfl rfl (fun K hK => ?_); go_big_quiet_op; refine hK _ ?_; clear hK K))
                      intro w' hR _
                      obtain rfl : w' = (wr).drew := hR.symm
                      simp only [pickOps, List.filterMap_nil]
                      clear gd ne hx hR
                      go_wp2
                      go_roundw
                      case rel => exact ⟨p + 1, by omega, by go_num, HKP.out.drew⟩
                      case measure => simp [intOf]; omega
                    | false =>
                      have ne0 : j.worker.toList ≠ [] := fun h => by
                        have : strEq j.worker ⟨#[]⟩ = true := by unfold strEq; rw [h, ByteArray.toList_eq]; rfl
                        rw [he] at this
                        cases this
                      have ne1 : (j.worker.toList == []) = false := by simpa using ne0
                      have ne2 : j.worker.toList.isEmpty = false := by simpa using ne0
                      have ap : j.worker ≠ t.jobs[p].worker := by
                        rw [← HJ.out]
                        refine lea_apart HVt.out hml hpl hmp (fun e => ?_)
                        rw [HJ.out] at e
                        exact strEq_no.1 he e
                      have ne3 : (j.worker.toList == t.jobs[p].worker.toList) = false := strEq_no.2 ap
                      generalize t.jobs[p].worker = x at y4 ne3
                      clear he ap hcs ne0
                      go_upto_region 18 with (fail)
                      have gd := still_good (wr).drew
                      have ne := still_some (wr).drew
                      have hx := still_at (wr).drew
                      refine wp_region_calm (stillCalm (wr).drew) [0, 1, 2, 3, 4, 5, 6, 7, 8, 9, 10, 11, 12, 13, 14, 15, 16, 17, 18, 19, 20, 21, 22, 23, 24, 25, 26] [] 143 (by kernel_rfl) (by kernel_rfl) rfl gd rfl ?_
                      simp only [pairs, List.filterMap_cons, List.filterMap_nil, List.getElem?_toArray, List.getElem?_cons_succ, List.getElem?_cons_zero, Option.map_some]
                      repeat (first | (refine Calm.walk_skip rfl ?_; go_frame) | (refine Calm.walk_quiet ne rfl rfl rfl (fun K hK => ?_); go_big_quiet_op; refine hK _ ?_; clear hK K))
                      intro w' hR _
                      obtain rfl : w' = (wr).drew := hR.symm
                      simp only [pickOps, List.filterMap_nil]
                      clear gd ne hx hR
                      go_wp2
                      go_roundw
                      case rel => exact ⟨p + 1, by omega, by go_num, HKP.out.drew⟩
                      case measure => simp [intOf]; omega
                · obtain rfl : p = Q5 := by omega
                  clear hcs y2
                  have RD := Lib.hid (rdy_any t _ _ wr (HS.out.keep HKP.out.weak))
                  have HBP := Lib.hid (HB.out.keep HKP.out (fun e => e))
                  have t11 : True := trivial
                  have t12 : True := trivial
                  go_upto_region 22 with (first | (have _t := t11; refine wpList_load_part 30 (.tmp 4) rfl rfl bs 0 rfl #[.int .i64 t.now, .slice Q1 Q2 Q3, .slice (some ⟨bj, oj, none⟩) p Q6, .slice Q7 Q8 Q9] _ HBP.out.rangeAt Tryd.underlying30 rfl (by kernel_rfl) ?_; go_frame; clear _t t11) | (have _t := t12; go_at_call 12; refine RD.out.mono ?_; rintro en w11 ⟨v11, rfl, o11, k11⟩; have hrf : readyF t = readyL t := (by unfold readyF; rw [(valid_iff t).2 HVt.out]; rfl); rw [hrf] at o11; obtain ⟨RB, rd, rfl, rr⟩ := own_row (S := none_) o11 (fun _ _ e => e); have RR11 := Lib.hid rr; have K11 := Lib.hid (HKP.out.trans k11); clear o11 k11 rr hrf _t t12))
                  obtain ⟨nr2, hnr2⟩ : ∃ nr, (readyL t).length = nr := ⟨_, rfl⟩
                  rw [hnr2] at RR11
                  rw [hnr2]
                  have hn64 : nr2 ≤ p := by
                    have h1 : (readyL t).length ≤ (List.range t.jobs.length).length := List.length_filter_le _ _
                    rw [hnr2, List.length_range] at h1
                    omega
                  clear RD HBP
                  go_loopw [106] (fun i wz => ∃ q : Nat, q ≤ nr2 ∧ i = .int .i64 q ∧ Keep none_ w11 wz) (fun i _ => nr2 - (intOf i).toNat)
                  case atStart => exact ⟨0, Nat.zero_le _, rfl, Keep.refl _ _⟩
                  case round =>
                    obtain ⟨q, hq, rfl, hkq⟩ := hrel
                    have HKQ := Lib.hid (K11.out.trans hkq)
                    by_cases hltq : q < nr2
                    · have hltq' : (q : Int) < nr2 := by omega
                      obtain ⟨bq, oq, u, rfl, hu, hcu⟩ := row_str (RR11.out.keep hkq) q hltq
                      have hql : q < (readyL t).length := by omega
                      have hu' : u = .string (nameAt t (readyL t)[q]) := by
                        unfold namesOf at hu
                        rw [List.getElem?_map, List.getElem?_map, List.getElem?_eq_getElem hql] at hu
                        exact (Option.some.inj hu).symm
                      subst hu'
                      have y2 : wr.cell? ⟨bs, 2, none⟩ = some (.slice (some ⟨bj, oj, none⟩) p Q6) := (HB.out.keep HKQ.out (fun e => e)).cell 2
                      obtain ⟨bj', oj', ej, hcs⟩ := CS.out wr HKQ.out
                      injection ej with ej
                      injection ej with ej1 ej2
                      subst ej1 ej2
                      obtain ⟨y3, y4, y5⟩ := hcs m hml
                      rw [HJ.out] at y3 y4 y5
                      have rdy := lea_ready HVt.out (i := m) (m := q) hml hql
                      rw [HJ.out] at rdy
                      have KQ := Lib.hid hkq
                      generalize nameAt t (readyL t)[q] = x at hcu rdy
                      clear hcs hu hkq
                      cases he : strEq x j.name with
                      | true =>
                        obtain ⟨r1, r2⟩ := rdy (strEq_iff.1 he)
                        rw [r1] at y4
                        rw [r2] at y5
                        have he' : (x.toList == j.name.toList) = true := he
                        clear he r1 r2 rdy
                        go_wp2
                        go_roundw
                        case rel => exact ⟨q + 1, by omega, by go_num, KQ.out⟩
                        case measure => simp [intOf]; omega
                      | false =>
                        have he' : (x.toList == j.name.toList) = false := he
                        clear he rdy
                        go_wp2
                        go_roundw
                        case rel => exact ⟨q + 1, by omega, by go_num, KQ.out⟩
                        case measure => simp [intOf]; omega
                    · obtain rfl : q = nr2 := by omega
                      go_wp2
                      go_roundw
                      case rel => exact ⟨m + 1, by omega, by go_num, HKQ.out⟩
                      case measure => simp [intOf]; omega
            · obtain rfl : m = Q5 := by omega
              have HKR := Lib.hid (HK.out.trans HKZ.out)
              go_wp2
              go_roundw
              case rel => exact ⟨k + 1, t, Q1, Q2, Q3, Q4, m, Q6, Q7, Q8, Q9, by omega, by go_num, HVt.out, HIt.out, HB.out.keep HKZ.out (fun e => e), HS.out.keep HKZ.out.weak, HE.out.keep HKZ.out.weak, HKR.out⟩
              case measure => simp [intOf]; omega
      · have h0' : (stepE s e != 0) = true := by simpa using h0
        go_wp2
        go_roundw
        case rel => exact ⟨k + 1, s, P1, P2, P3, P4, P5, P6, P7, P8, P9, hlt, by go_num, HV.out, HI.out, HB8.out, HS8.out, HE8.out, HK.out.trans KR8.out⟩
        case measure => simp [intOf]; omega
    · obtain rfl : k = l.length := by omega
      have VA := Lib.hid (valid_any s _ _ wr HS.out)
      rw [(valid_iff s).2 HV.out] at VA
      have AW := Lib.hid awake_any
      clear hv hi hB hS hE hkr hlt HG
      have t3 : True := trivial
      go_wp2_with (first | (have _t := t3; refine wpList_load_part 30 (.tmp 4) rfl rfl bs 0 rfl #[.int .i64 s.now, .slice P1 P2 P3, .slice P4 P5 P6, .slice P7 P8 P9] _ HB.out.rangeAt Tryd.underlying30 rfl (by kernel_rfl) ?_; go_frame; clear _t t3) | (go_at_call 13; refine VA.out.mono ?_; rintro en w14 ⟨rfl, k14⟩; have K14 := Lib.hid (HK.out.trans k14); clear k14) | (go_at_call 9; refine (AW.out _).mono ?_; rintro e w15 ⟨rfl, k15⟩; have K15 := Lib.hid (K14.out.trans k15); clear k15))
      go_ret
      exact ⟨by rfl, K15.out⟩
end Go.Proofs.YtnefbeplgfdkkaaDoor
