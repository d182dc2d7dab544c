/-
  The reference's bound of a matrix and a quantiser.
-/
import Derived.Test.YtebdgoikmclflaaGreatDoorEb09
namespace Go.Proofs.YtebdgoikmclflaaGreatDoor
open Go.RowKit

set_option maxHeartbeats 400000 in
theorem size_any (v : Int) (h1 : -12 ≤ v) (h2 : v ≤ 12) (w : World) : Calls Tryz.prog 35 #[.int .i64 v] w fun e w' => e = .returned (.int .i64 (max v (-v))) ∧ w = w' := by
  by_cases h : v < 0
  · go_enter Tryz.func35, Tryz.ntmps35
    go_wp2
    go_ret
    exact ⟨ret_int (by omega), rfl⟩
  · go_enter Tryz.func35, Tryz.ntmps35
    go_wp2
    go_ret
    exact ⟨ret_int (by omega), rfl⟩
set_option maxRecDepth 100000 in
set_option maxHeartbeats 1000000 in
theorem may_any (zs : List Int) (q : Int) (w : World) (hl : zs.length = 64) : Calls Tryz.prog 34 #[.agg (zs.map (Value.int .u8)).toArray, .int .i64 q] w fun e w' => e = .returned (.bool (ge8 zs && qOk q)) ∧ Keep none_ w w' := by
  have QV := Lib.hid (fun w => quantR_any zs w hl)
  obtain ⟨cs, hcs⟩ : ∃ cs, cs = (zs.map (Value.int .u8)).toArray := ⟨_, rfl⟩
  have hsz : cs.size = 64 := by rw [hcs]; simp [hl]
  rw [← hcs] at QV ⊢
  have SZ := Lib.hid hsz
  clear hcs hsz
  obtain ⟨W0, hW0⟩ : ∃ W0, W0 = w.alloc (.cells cs 24) := ⟨_, rfl⟩
  have k0 : Keep none_ w W0 := hW0 ▸ (Keep.refl _ _).alloc _
  have b0 : Blk W0 w.heap.size 24 cs := hW0 ▸ Blk.new _ _ _
  have B0 := Lib.hid b0
  have K0 := Lib.hid k0
  clear k0 b0
  have t1 : True := trivial
  have t2 : True := trivial
  go_enter Tryz.func34, Tryz.ntmps34
  go_upto_region 1 with (fail)
  rw [← hW0]
  clear hW0
  cases hg : ge8 zs with
  | false =>
    rw [hg] at QV
    have HGG := Lib.hid hg
    clear hg
    go_wp2_with (first | (have _t := t1; refine wpList_load_blk rfl 24 (.tmp 2) rfl w.heap.size 24 _ _ rfl B0.out Tryz.underlying24 rfl (by rw [SZ.out]; kernel_rfl) ?_; go_frame; clear _t t1) | (have _t := t2; go_at_call 33; refine (QV.out W0).mono ?_; rintro e w2 ⟨rfl, k2⟩; have K2 := Lib.hid (K0.out.trans k2); clear k2 _t t2))
    go_ret
    exact ⟨by rw [HGG.out]; rfl, K2.out⟩
  | true =>
    rw [hg] at QV
    have HGG := Lib.hid hg
    clear hg
    by_cases h1 : 1 ≤ q
    · by_cases h2 : q ≤ 31
      · have h1' : decide (1 ≤ q) = true := decide_eq_true h1
        have h2' : decide (q ≤ 31) = true := decide_eq_true h2
        have Q := Lib.hid (show qOk q = true by unfold qOk; rw [h1', h2']; rfl)
        go_wp2_with (first | (have _t := t1; refine wpList_load_blk rfl 24 (.tmp 2) rfl w.heap.size 24 _ _ rfl B0.out Tryz.underlying24 rfl (by rw [SZ.out]; kernel_rfl) ?_; go_frame; clear _t t1) | (have _t := t2; go_at_call 33; refine (QV.out W0).mono ?_; rintro e w2 ⟨rfl, k2⟩; have K2 := Lib.hid (K0.out.trans k2); clear k2 _t t2))
        go_ret
        exact ⟨by rw [HGG.out, Q.out]; rfl, K2.out⟩
      · have h1' : decide (1 ≤ q) = true := decide_eq_true h1
        have h2' : decide (q ≤ 31) = false := decide_eq_false h2
        have Q := Lib.hid (show qOk q = false by unfold qOk; rw [h1', h2']; rfl)
        go_wp2_with (first | (have _t := t1; refine wpList_load_blk rfl 24 (.tmp 2) rfl w.heap.size 24 _ _ rfl B0.out Tryz.underlying24 rfl (by rw [SZ.out]; kernel_rfl) ?_; go_frame; clear _t t1) | (have _t := t2; go_at_call 33; refine (QV.out W0).mono ?_; rintro e w2 ⟨rfl, k2⟩; have K2 := Lib.hid (K0.out.trans k2); clear k2 _t t2))
        go_ret
        exact ⟨by rw [HGG.out, Q.out]; rfl, K2.out⟩
    · have h1' : decide (1 ≤ q) = false := decide_eq_false h1
      have Q := Lib.hid (show qOk q = false by unfold qOk; rw [h1']; rfl)
      go_wp2_with (first | (have _t := t1; refine wpList_load_blk rfl 24 (.tmp 2) rfl w.heap.size 24 _ _ rfl B0.out Tryz.underlying24 rfl (by rw [SZ.out]; kernel_rfl) ?_; go_frame; clear _t t1) | (have _t := t2; go_at_call 33; refine (QV.out W0).mono ?_; rintro e w2 ⟨rfl, k2⟩; have K2 := Lib.hid (K0.out.trans k2); clear k2 _t t2))
      go_ret
      exact ⟨by rw [HGG.out, Q.out]; rfl, K2.out⟩
set_option maxRecDepth 100000 in
set_option maxHeartbeats 4000000 in
theorem rbound_any (zs : List Int) (q : Int) (w : World) (hl : zs.length = 64) (hz : U8r zs) : Calls Tryz.prog 15 #[.agg (zs.map (Value.int .u8)).toArray, .int .i64 q] w fun e w' => e = .returned (.int .i64 (bndF zs q)) ∧ Keep none_ w w' := by
  have MY := Lib.hid (fun w => may_any zs q w hl)
  obtain ⟨cs, hcs⟩ : ∃ cs, cs = (zs.map (Value.int .u8)).toArray := ⟨_, rfl⟩
  have hget : ∀ k (hk : k < 64), cs[k]? = some (.int .u8 (zs.getD k 0)) := fun k hk => by rw [hcs, List.getD, List.getElem?_eq_getElem (by omega)]; simp [hl, hk]
  have hsz : cs.size = 64 := by rw [hcs]; simp [hl]
  rw [← hcs] at MY ⊢
  have HG := Lib.hid hget
  have SZ := Lib.hid hsz
  have HZ := Lib.hid hz
  clear hcs hget hsz hz
  obtain ⟨W0, hW0⟩ : ∃ W0, W0 = w.alloc (.cells cs 24) := ⟨_, rfl⟩
  have k0 : Keep none_ w W0 := hW0 ▸ (Keep.refl _ _).alloc _
  have b0 : Blk W0 w.heap.size 24 cs := hW0 ▸ Blk.new _ _ _
  have B0 := Lib.hid b0
  have K0 := Lib.hid k0
  clear k0 b0
  have t1 : True := trivial
  have t2 : True := trivial
  go_enter Tryz.func15, Tryz.ntmps15
  go_upto_region 1 with (fail)
  rw [← hW0]
  clear hW0
  cases hg : ge8 zs && qOk q with
  | false =>
    rw [hg] at MY
    have Q := Lib.hid (show bndF zs q = 0 by unfold bndF; rw [hg]; rfl)
    clear hg
    go_wp2_with (first | (have _t := t1; refine wpList_load_blk rfl 24 (.tmp 2) rfl w.heap.size 24 _ _ rfl B0.out Tryz.underlying24 rfl (by rw [SZ.out]; kernel_rfl) ?_; go_frame; clear _t t1) | (have _t := t2; go_at_call 34; refine (MY.out W0).mono ?_; rintro e w2 ⟨rfl, k2⟩; have K2 := Lib.hid (K0.out.trans k2); clear k2 _t t2))
    go_ret
    exact ⟨by rw [Q.out]; rfl, K2.out⟩
  | true =>
    rw [hg] at MY
    have Q := Lib.hid (show bndF zs q = bndOf zs q by unfold bndF; rw [hg]; rfl)
    rw [Bool.and_eq_true] at hg
    obtain ⟨hg, hq⟩ := hg
    have G8 := Lib.hid (fun n hn => ge8_at hl hg n hn)
    have q1 : 1 ≤ q := by unfold qOk at hq; simp at hq; omega
    have q2 : q ≤ 31 := by unfold qOk at hq; simp at hq; omega
    have Q12 := Lib.hid (And.intro q1 q2)
    clear hg hq q1 q2
    go_upto_region 3 with (first | (have _t := t1; refine wpList_load_blk rfl 24 (.tmp 2) rfl w.heap.size 24 _ _ rfl B0.out Tryz.underlying24 rfl (by rw [SZ.out]; kernel_rfl) ?_; go_frame; clear _t t1) | (have _t := t2; go_at_call 34; refine (MY.out W0).mono ?_; rintro e w2 ⟨rfl, k2⟩; have B2 := Lib.hid (B0.out.keep k2 (fun e => e)); have K2 := Lib.hid (K0.out.trans k2); clear k2 _t t2))
    clear B0 K0 MY
    go_wp2_with (fail)
    go_loopw [5, 6] (fun gr i wy => ∃ k : Nat, k ≤ 8 ∧ i = .int .i64 k ∧ gr = .int .i64 (maxK zs q k) ∧ Keep none_ w2 wy) (fun _ i _ => 8 - (intOf i).toNat)
    case atStart => exact ⟨0, by decide, rfl, rfl, Keep.refl _ _⟩
    case round =>
      obtain ⟨k, hk, rfl, rfl, hkk⟩ := hrel
      have HKK := Lib.hid hkk
      clear hkk
      obtain ⟨wk, hwk⟩ : ∃ wk, wk = wr := ⟨_, rfl⟩
      subst hwk
      obtain ⟨mk1, mk2⟩ := maxK_bound HZ.out Q12.out.1 Q12.out.2 k hk
      by_cases hlk : k < 8
      · have hlk' : (k : Int) < 8 := by omega
        go_wp2_with (fail)
        go_loopw [5, 7] (fun gr i wy => ∃ l : Nat, l ≤ 8 ∧ i = .int .i64 l ∧ gr = .int .i64 (maxL zs q k (maxK zs q k) l) ∧ Keep none_ wk wy) (fun _ i _ => 8 - (intOf i).toNat)
        case atStart => exact ⟨0, by decide, rfl, rfl, Keep.refl _ _⟩
        case round =>
          obtain ⟨l, hl8, rfl, rfl, hkl⟩ := hrel
          have HKL := Lib.hid hkl
          clear hkl
          obtain ⟨wl, hwl⟩ : ∃ wl, wl = wr := ⟨_, rfl⟩
          subst hwl
          have ML := Lib.hid (maxL_bound HZ.out Q12.out.1 Q12.out.2 k _ hlk mk1 mk2 l hl8)
          by_cases hll : l < 8
          · have hll' : (l : Int) < 8 := by omega
            go_wp2_with (fail)
            go_loopw [8, 9] (fun sm i wy => ∃ n : Nat, n ≤ 64 ∧ i = .int .i64 n ∧ sm = .int .i64 (sumB zs q k l n) ∧ Keep none_ wl wy) (fun _ i _ => 64 - (intOf i).toNat)
            case atStart => exact ⟨0, by decide, rfl, rfl, Keep.refl _ _⟩
            case round =>
              obtain ⟨n, hn, rfl, rfl, hkn⟩ := hrel
              by_cases hln : n < 64
              · have hln' : (n : Int) < 64 := by omega
                have BB := Lib.hid (B2.out.keep ((HKK.out.trans HKL.out).trans hkn) (fun e => e))
                have HKN := Lib.hid hkn
                clear hkn
                obtain ⟨i, hi⟩ : ∃ i : Nat, i = n / 8 := ⟨_, rfl⟩
                obtain ⟨j, hj⟩ : ∃ j : Nat, j = n % 8 := ⟨_, rfl⟩
                have e1 : (n : Int) / 8 = (i : Int) := by omega
                have e2 : (n : Int) % 8 = (j : Int) := by omega
                have hi8 : i < 8 := by omega
                have hj8 : j < 8 := by omega
                obtain ⟨a1, a2⟩ := tab_bound i k hi8 hlk
                obtain ⟨c1, c2⟩ := tab_bound j l hj8 hll
                obtain ⟨d1, d2⟩ := tt_bound a1 a2 c1 c2
                obtain ⟨z1, z2⟩ := HZ.out n hln
                have z8 := G8.out n hln
                obtain ⟨-, -, s1, s2⟩ := stp_bound z1 z2 Q12.out.1 Q12.out.2 hln
                obtain ⟨u1, u2⟩ := tts_bound d1 d2 s1 s2
                obtain ⟨v1, v2⟩ := sumB_bound HZ.out Q12.out.1 Q12.out.2 k l hlk hll n hn
                have SN := Lib.hid (show sumB zs q k l (n + 1) = sumB zs q k l n + tab i k * tab j l * stp (zs.getD n 0) q n by rw [hi, hj]; rfl)
                have R1 := Lib.hid (fun w => rbasis_any i k hi8 hlk w)
                have R2 := Lib.hid (fun w => rbasis_any j l hj8 hll w)
                obtain ⟨p1, p2, -, -⟩ := bas_bound i k hi8 hlk
                obtain ⟨p3, p4, -, -⟩ := bas_bound j l hj8 hll
                have S1 := Lib.hid (fun w => size_any (basOf i k) p1 p2 w)
                have S2 := Lib.hid (fun w => size_any (basOf j l) p3 p4 w)
                have N1_ := Lib.hid (fun w => rnorm_any i hi8 w)
                have N2_ := Lib.hid (fun w => rnorm_any j hj8 w)
                have T1 := Lib.hid (show tab i k = max (basOf i k) (-(basOf i k)) * (739840 / normOf i) from rfl)
                have T2 := Lib.hid (show tab j l = max (basOf j l) (-(basOf j l)) * (739840 / normOf j) from rfl)
                have m1 := norm_mem i hi8
                have m2 := norm_mem j hj8
                have ST := Lib.hid (fun w => rstep_any (zs.getD n 0) q n z8 z2 Q12.out.1 Q12.out.2 hln w)
                have x1 : wr.cell? ⟨w.heap.size, n, none⟩ = some (.int .u8 (zs.getD n 0)) := by rw [BB.out.cell]; exact HG.out n hln
                generalize stp (zs.getD n 0) q n = sp at *
                generalize zs.getD n 0 = z at *
                generalize tab i k = ta at *
                generalize tab j l = tb at *
                generalize normOf i = NA at *
                generalize normOf j = NB at *
                have y1 : 0 ≤ max (basOf i k) (-(basOf i k)) ∧ max (basOf i k) (-(basOf i k)) ≤ 12 := by omega
                have y2 : 0 ≤ max (basOf j l) (-(basOf j l)) ∧ max (basOf j l) (-(basOf j l)) ≤ 12 := by omega
                generalize max (basOf i k) (-(basOf i k)) = xi at *
                generalize max (basOf j l) (-(basOf j l)) = xj at *
                obtain ⟨y11, y12⟩ := y1
                obtain ⟨y21, y22⟩ := y2
                clear hi hj p1 p2 p3 p4
                rcases m1 with rfl | rfl | rfl <;> rcases m2 with rfl | rfl | rfl
                · have E1 : xi * 1445 = ta := by have := T1.out; omega
                  have E2 : xj * 1445 = tb := by have := T2.out; omega
                  have ta1 : True := trivial
                  have ta2 : True := trivial
                  have ta3 : True := trivial
                  have tb1 : True := trivial
                  have tb2 : True := trivial
                  have tb3 : True := trivial
                  have tc1 : True := trivial
                  go_wp2_with (first
                    | (have _t := ta1; go_at_call 36; refine (R1.out wr).mono ?_; rintro e wa ⟨rfl, k_⟩; have KA := Lib.hid k_; clear k_ _t ta1)
                    | (have _t := ta2; go_at_call 35; refine (S1.out wa).mono ?_; rintro e wb ⟨rfl, k_⟩; have KB := Lib.hid (k_ ▸ KA.out : Keep none_ wr wb); clear k_ _t ta2)
                    | (have _t := ta3; go_at_call 37; refine (N1_.out wb).mono ?_; rintro e wc ⟨rfl, k_⟩; have KC := Lib.hid (KB.out.trans k_); clear k_ _t ta3)
                    | (have _t := tb1; go_at_call 36; refine (R2.out wc).mono ?_; rintro e wd ⟨rfl, k_⟩; have KD := Lib.hid (KC.out.trans k_); clear k_ _t tb1)
                    | (have _t := tb2; go_at_call 35; refine (S2.out wd).mono ?_; rintro e we ⟨rfl, k_⟩; have KE := Lib.hid (k_ ▸ KD.out : Keep none_ wr we); clear k_ _t tb2)
                    | (have _t := tb3; go_at_call 37; refine (N2_.out we).mono ?_; rintro e wf ⟨rfl, k_⟩; have KF := Lib.hid (KE.out.trans k_); have x2 : wf.cell? ⟨w.heap.size, n, none⟩ = some (.int .u8 z) := KF.out.cell x1 (fun e => e); clear k_ _t tb3)
                    | (have _t := tc1; go_at_call 38; refine (ST.out wf).mono ?_; rintro e wg ⟨rfl, k_⟩; have KG := Lib.hid (HKN.out.trans (KF.out.trans k_)); clear k_ _t tc1))
                  go_roundw
                  case rel => exact ⟨n + 1, hln, by go_num, by rw [SN.out], KG.out⟩
                  case measure => simp [intOf]; omega
                · have E1 : xi * 1445 = ta := by have := T1.out; omega
                  have E2 : xj * 1280 = tb := by have := T2.out; omega
                  have ta1 : True := trivial
                  have ta2 : True := trivial
                  have ta3 : True := trivial
                  have tb1 : True := trivial
                  have tb2 : True := trivial
                  have tb3 : True := trivial
                  have tc1 : True := trivial
                  go_wp2_with (first
                    | (have _t := ta1; go_at_call 36; refine (R1.out wr).mono ?_; rintro e wa ⟨rfl, k_⟩; have KA := Lib.hid k_; clear k_ _t ta1)
                    | (have _t := ta2; go_at_call 35; refine (S1.out wa).mono ?_; rintro e wb ⟨rfl, k_⟩; have KB := Lib.hid (k_ ▸ KA.out : Keep none_ wr wb); clear k_ _t ta2)
                    | (have _t := ta3; go_at_call 37; refine (N1_.out wb).mono ?_; rintro e wc ⟨rfl, k_⟩; have KC := Lib.hid (KB.out.trans k_); clear k_ _t ta3)
                    | (have _t := tb1; go_at_call 36; refine (R2.out wc).mono ?_; rintro e wd ⟨rfl, k_⟩; have KD := Lib.hid (KC.out.trans k_); clear k_ _t tb1)
                    | (have _t := tb2; go_at_call 35; refine (S2.out wd).mono ?_; rintro e we ⟨rfl, k_⟩; have KE := Lib.hid (k_ ▸ KD.out : Keep none_ wr we); clear k_ _t tb2)
                    | (have _t := tb3; go_at_call 37; refine (N2_.out we).mono ?_; rintro e wf ⟨rfl, k_⟩; have KF := Lib.hid (KE.out.trans k_); have x2 : wf.cell? ⟨w.heap.size, n, none⟩ = some (.int .u8 z) := KF.out.cell x1 (fun e => e); clear k_ _t tb3)
                    | (have _t := tc1; go_at_call 38; refine (ST.out wf).mono ?_; rintro e wg ⟨rfl, k_⟩; have KG := Lib.hid (HKN.out.trans (KF.out.trans k_)); clear k_ _t tc1))
                  go_roundw
                  case rel => exact ⟨n + 1, hln, by go_num, by rw [SN.out], KG.out⟩
                  case measure => simp [intOf]; omega
                · have E1 : xi * 1445 = ta := by have := T1.out; omega
                  have E2 : xj * 2312 = tb := by have := T2.out; omega
                  have ta1 : True := trivial
                  have ta2 : True := trivial
                  have ta3 : True := trivial
                  have tb1 : True := trivial
                  have tb2 : True := trivial
                  have tb3 : True := trivial
                  have tc1 : True := trivial
                  go_wp2_with (first
                    | (have _t := ta1; go_at_call 36; refine (R1.out wr).mono ?_; rintro e wa ⟨rfl, k_⟩; have KA := Lib.hid k_; clear k_ _t ta1)
                    | (have _t := ta2; go_at_call 35; refine (S1.out wa).mono ?_; rintro e wb ⟨rfl, k_⟩; have KB := Lib.hid (k_ ▸ KA.out : Keep none_ wr wb); clear k_ _t ta2)
                    | (have _t := ta3; go_at_call 37; refine (N1_.out wb).mono ?_; rintro e wc ⟨rfl, k_⟩; have KC := Lib.hid (KB.out.trans k_); clear k_ _t ta3)
                    | (have _t := tb1; go_at_call 36; refine (R2.out wc).mono ?_; rintro e wd ⟨rfl, k_⟩; have KD := Lib.hid (KC.out.trans k_); clear k_ _t tb1)
                    | (have _t := tb2; go_at_call 35; refine (S2.out wd).mono ?_; rintro e we ⟨rfl, k_⟩; have KE := Lib.hid (k_ ▸ KD.out : Keep none_ wr we); clear k_ _t tb2)
                    | (have _t := tb3; go_at_call 37; refine (N2_.out we).mono ?_; rintro e wf ⟨rfl, k_⟩; have KF := Lib.hid (KE.out.trans k_); have x2 : wf.cell? ⟨w.heap.size, n, none⟩ = some (.int .u8 z) := KF.out.cell x1 (fun e => e); clear k_ _t tb3)
                    | (have _t := tc1; go_at_call 38; refine (ST.out wf).mono ?_; rintro e wg ⟨rfl, k_⟩; have KG := Lib.hid (HKN.out.trans (KF.out.trans k_)); clear k_ _t tc1))
                  go_roundw
                  case rel => exact ⟨n + 1, hln, by go_num, by rw [SN.out], KG.out⟩
                  case measure => simp [intOf]; omega
                · have E1 : xi * 1280 = ta := by have := T1.out; omega
                  have E2 : xj * 1445 = tb := by have := T2.out; omega
                  have ta1 : True := trivial
                  have ta2 : True := trivial
                  have ta3 : True := trivial
                  have tb1 : True := trivial
                  have tb2 : True := trivial
                  have tb3 : True := trivial
                  have tc1 : True := trivial
                  go_wp2_with (first
                    | (have _t := ta1; go_at_call 36; refine (R1.out wr).mono ?_; rintro e wa ⟨rfl, k_⟩; have KA := Lib.hid k_; clear k_ _t ta1)
                    | (have _t := ta2; go_at_call 35; refine (S1.out wa).mono ?_; rintro e wb ⟨rfl, k_⟩; have KB := Lib.hid (k_ ▸ KA.out : Keep none_ wr wb); clear k_ _t ta2)
                    | (have _t := ta3; go_at_call 37; refine (N1_.out wb).mono ?_; rintro e wc ⟨rfl, k_⟩; have KC := Lib.hid (KB.out.trans k_); clear k_ _t ta3)
                    | (have _t := tb1; go_at_call 36; refine (R2.out wc).mono ?_; rintro e wd ⟨rfl, k_⟩; have KD := Lib.hid (KC.out.trans k_); clear k_ _t tb1)
                    | (have _t := tb2; go_at_call 35; refine (S2.out wd).mono ?_; rintro e we ⟨rfl, k_⟩; have KE := Lib.hid (k_ ▸ KD.out : Keep none_ wr we); clear k_ _t tb2)
                    | (have _t := tb3; go_at_call 37; refine (N2_.out we).mono ?_; rintro e wf ⟨rfl, k_⟩; have KF := Lib.hid (KE.out.trans k_); have x2 : wf.cell? ⟨w.heap.size, n, none⟩ = some (.int .u8 z) := KF.out.cell x1 (fun e => e); clear k_ _t tb3)
                    | (have _t := tc1; go_at_call 38; refine (ST.out wf).mono ?_; rintro e wg ⟨rfl, k_⟩; have KG := Lib.hid (HKN.out.trans (KF.out.trans k_)); clear k_ _t tc1))
                  go_roundw
                  case rel => exact ⟨n + 1, hln, by go_num, by rw [SN.out], KG.out⟩
                  case measure => simp [intOf]; omega
                · have E1 : xi * 1280 = ta := by have := T1.out; omega
                  have E2 : xj * 1280 = tb := by have := T2.out; omega
                  have ta1 : True := trivial
                  have ta2 : True := trivial
                  have ta3 : True := trivial
                  have tb1 : True := trivial
                  have tb2 : True := trivial
                  have tb3 : True := trivial
                  have tc1 : True := trivial
                  go_wp2_with (first
                    | (have _t := ta1; go_at_call 36; refine (R1.out wr).mono ?_; rintro e wa ⟨rfl, k_⟩; have KA := Lib.hid k_; clear k_ _t ta1)
                    | (have _t := ta2; go_at_call 35; refine (S1.out wa).mono ?_; rintro e wb ⟨rfl, k_⟩; have KB := Lib.hid (k_ ▸ KA.out : Keep none_ wr wb); clear k_ _t ta2)
                    | (have _t := ta3; go_at_call 37; refine (N1_.out wb).mono ?_; rintro e wc ⟨rfl, k_⟩; have KC := Lib.hid (KB.out.trans k_); clear k_ _t ta3)
                    | (have _t := tb1; go_at_call 36; refine (R2.out wc).mono ?_; rintro e wd ⟨rfl, k_⟩; have KD := Lib.hid (KC.out.trans k_); clear k_ _t tb1)
                    | (have _t := tb2; go_at_call 35; refine (S2.out wd).mono ?_; rintro e we ⟨rfl, k_⟩; have KE := Lib.hid (k_ ▸ KD.out : Keep none_ wr we); clear k_ _t tb2)
                    | (have _t := tb3; go_at_call 37; refine (N2_.out we).mono ?_; rintro e wf ⟨rfl, k_⟩; have KF := Lib.hid (KE.out.trans k_); have x2 : wf.cell? ⟨w.heap.size, n, none⟩ = some (.int .u8 z) := KF.out.cell x1 (fun e => e); clear k_ _t tb3)
                    | (have _t := tc1; go_at_call 38; refine (ST.out wf).mono ?_; rintro e wg ⟨rfl, k_⟩; have KG := Lib.hid (HKN.out.trans (KF.out.trans k_)); clear k_ _t tc1))
                  go_roundw
                  case rel => exact ⟨n + 1, hln, by go_num, by rw [SN.out], KG.out⟩
                  case measure => simp [intOf]; omega
                · have E1 : xi * 1280 = ta := by have := T1.out; omega
                  have E2 : xj * 2312 = tb := by have := T2.out; omega
                  have ta1 : True := trivial
                  have ta2 : True := trivial
                  have ta3 : True := trivial
                  have tb1 : True := trivial
                  have tb2 : True := trivial
                  have tb3 : True := trivial
                  have tc1 : True := trivial
                  go_wp2_with (first
                    | (have _t := ta1; go_at_call 36; refine (R1.out wr).mono ?_; rintro e wa ⟨rfl, k_⟩; have KA := Lib.hid k_; clear k_ _t ta1)
                    | (have _t := ta2; go_at_call 35; refine (S1.out wa).mono ?_; rintro e wb ⟨rfl, k_⟩; have KB := Lib.hid (k_ ▸ KA.out : Keep none_ wr wb); clear k_ _t ta2)
                    | (have _t := ta3; go_at_call 37; refine (N1_.out wb).mono ?_; rintro e wc ⟨rfl, k_⟩; have KC := Lib.hid (KB.out.trans k_); clear k_ _t ta3)
                    | (have _t := tb1; go_at_call 36; refine (R2.out wc).mono ?_; rintro e wd ⟨rfl, k_⟩; have KD := Lib.hid (KC.out.trans k_); clear k_ _t tb1)
                    | (have _t := tb2; go_at_call 35; refine (S2.out wd).mono ?_; rintro e we ⟨rfl, k_⟩; have KE := Lib.hid (k_ ▸ KD.out : Keep none_ wr we); clear k_ _t tb2)
                    | (have _t := tb3; go_at_call 37; refine (N2_.out we).mono ?_; rintro e wf ⟨rfl, k_⟩; have KF := Lib.hid (KE.out.trans k_); have x2 : wf.cell? ⟨w.heap.size, n, none⟩ = some (.int .u8 z) := KF.out.cell x1 (fun e => e); clear k_ _t tb3)
                    | (have _t := tc1; go_at_call 38; refine (ST.out wf).mono ?_; rintro e wg ⟨rfl, k_⟩; have KG := Lib.hid (HKN.out.trans (KF.out.trans k_)); clear k_ _t tc1))
                  go_roundw
                  case rel => exact ⟨n + 1, hln, by go_num, by rw [SN.out], KG.out⟩
                  case measure => simp [intOf]; omega
                · have E1 : xi * 2312 = ta := by have := T1.out; omega
                  have E2 : xj * 1445 = tb := by have := T2.out; omega
                  have ta1 : True := trivial
                  have ta2 : True := trivial
                  have ta3 : True := trivial
                  have tb1 : True := trivial
                  have tb2 : True := trivial
                  have tb3 : True := trivial
                  have tc1 : True := trivial
                  go_wp2_with (first
                    | (have _t := ta1; go_at_call 36; refine (R1.out wr).mono ?_; rintro e wa ⟨rfl, k_⟩; have KA := Lib.hid k_; clear k_ _t ta1)
                    | (have _t := ta2; go_at_call 35; refine (S1.out wa).mono ?_; rintro e wb ⟨rfl, k_⟩; have KB := Lib.hid (k_ ▸ KA.out : Keep none_ wr wb); clear k_ _t ta2)
                    | (have _t := ta3; go_at_call 37; refine (N1_.out wb).mono ?_; rintro e wc ⟨rfl, k_⟩; have KC := Lib.hid (KB.out.trans k_); clear k_ _t ta3)
                    | (have _t := tb1; go_at_call 36; refine (R2.out wc).mono ?_; rintro e wd ⟨rfl, k_⟩; have KD := Lib.hid (KC.out.trans k_); clear k_ _t tb1)
                    | (have _t := tb2; go_at_call 35; refine (S2.out wd).mono ?_; rintro e we ⟨rfl, k_⟩; have KE := Lib.hid (k_ ▸ KD.out : Keep none_ wr we); clear k_ _t tb2)
                    | (have _t := tb3; go_at_call 37; refine (N2_.out we).mono ?_; rintro e wf ⟨rfl, k_⟩; have KF := Lib.hid (KE.out.trans k_); have x2 : wf.cell? ⟨w.heap.size, n, none⟩ = some (.int .u8 z) := KF.out.cell x1 (fun e => e); clear k_ _t tb3)
                    | (have _t := tc1; go_at_call 38; refine (ST.out wf).mono ?_; rintro e wg ⟨rfl, k_⟩; have KG := Lib.hid (HKN.out.trans (KF.out.trans k_)); clear k_ _t tc1))
                  go_roundw
                  case rel => exact ⟨n + 1, hln, by go_num, by rw [SN.out], KG.out⟩
                  case measure => simp [intOf]; omega
                · have E1 : xi * 2312 = ta := by have := T1.out; omega
                  have E2 : xj * 1280 = tb := by have := T2.out; omega
                  have ta1 : True := trivial
                  have ta2 : True := trivial
                  have ta3 : True := trivial
                  have tb1 : True := trivial
                  have tb2 : True := trivial
                  have tb3 : True := trivial
                  have tc1 : True := trivial
                  go_wp2_with (first
                    | (have _t := ta1; go_at_call 36; refine (R1.out wr).mono ?_; rintro e wa ⟨rfl, k_⟩; have KA := Lib.hid k_; clear k_ _t ta1)
                    | (have _t := ta2; go_at_call 35; refine (S1.out wa).mono ?_; rintro e wb ⟨rfl, k_⟩; have KB := Lib.hid (k_ ▸ KA.out : Keep none_ wr wb); clear k_ _t ta2)
                    | (have _t := ta3; go_at_call 37; refine (N1_.out wb).mono ?_; rintro e wc ⟨rfl, k_⟩; have KC := Lib.hid (KB.out.trans k_); clear k_ _t ta3)
                    | (have _t := tb1; go_at_call 36; refine (R2.out wc).mono ?_; rintro e wd ⟨rfl, k_⟩; have KD := Lib.hid (KC.out.trans k_); clear k_ _t tb1)
                    | (have _t := tb2; go_at_call 35; refine (S2.out wd).mono ?_; rintro e we ⟨rfl, k_⟩; have KE := Lib.hid (k_ ▸ KD.out : Keep none_ wr we); clear k_ _t tb2)
                    | (have _t := tb3; go_at_call 37; refine (N2_.out we).mono ?_; rintro e wf ⟨rfl, k_⟩; have KF := Lib.hid (KE.out.trans k_); have x2 : wf.cell? ⟨w.heap.size, n, none⟩ = some (.int .u8 z) := KF.out.cell x1 (fun e => e); clear k_ _t tb3)
                    | (have _t := tc1; go_at_call 38; refine (ST.out wf).mono ?_; rintro e wg ⟨rfl, k_⟩; have KG := Lib.hid (HKN.out.trans (KF.out.trans k_)); clear k_ _t tc1))
                  go_roundw
                  case rel => exact ⟨n + 1, hln, by go_num, by rw [SN.out], KG.out⟩
                  case measure => simp [intOf]; omega
                · have E1 : xi * 2312 = ta := by have := T1.out; omega
                  have E2 : xj * 2312 = tb := by have := T2.out; omega
                  have ta1 : True := trivial
                  have ta2 : True := trivial
                  have ta3 : True := trivial
                  have tb1 : True := trivial
                  have tb2 : True := trivial
                  have tb3 : True := trivial
                  have tc1 : True := trivial
                  go_wp2_with (first
                    | (have _t := ta1; go_at_call 36; refine (R1.out wr).mono ?_; rintro e wa ⟨rfl, k_⟩; have KA := Lib.hid k_; clear k_ _t ta1)
                    | (have _t := ta2; go_at_call 35; refine (S1.out wa).mono ?_; rintro e wb ⟨rfl, k_⟩; have KB := Lib.hid (k_ ▸ KA.out : Keep none_ wr wb); clear k_ _t ta2)
                    | (have _t := ta3; go_at_call 37; refine (N1_.out wb).mono ?_; rintro e wc ⟨rfl, k_⟩; have KC := Lib.hid (KB.out.trans k_); clear k_ _t ta3)
                    | (have _t := tb1; go_at_call 36; refine (R2.out wc).mono ?_; rintro e wd ⟨rfl, k_⟩; have KD := Lib.hid (KC.out.trans k_); clear k_ _t tb1)
                    | (have _t := tb2; go_at_call 35; refine (S2.out wd).mono ?_; rintro e we ⟨rfl, k_⟩; have KE := Lib.hid (k_ ▸ KD.out : Keep none_ wr we); clear k_ _t tb2)
                    | (have _t := tb3; go_at_call 37; refine (N2_.out we).mono ?_; rintro e wf ⟨rfl, k_⟩; have KF := Lib.hid (KE.out.trans k_); have x2 : wf.cell? ⟨w.heap.size, n, none⟩ = some (.int .u8 z) := KF.out.cell x1 (fun e => e); clear k_ _t tb3)
                    | (have _t := tc1; go_at_call 38; refine (ST.out wf).mono ?_; rintro e wg ⟨rfl, k_⟩; have KG := Lib.hid (HKN.out.trans (KF.out.trans k_)); clear k_ _t tc1))
                  go_roundw
                  case rel => exact ⟨n + 1, hln, by go_num, by rw [SN.out], KG.out⟩
                  case measure => simp [intOf]; omega
              · obtain rfl : n = 64 := by omega
                have GO := Lib.hid (HKL.out.trans hkn)
                clear hkn
                have ml := ML.out
                obtain ⟨v1, v2⟩ := sumB_all HZ.out Q12.out.1 Q12.out.2 k l hlk hll
                have MM := Lib.hid (show maxL zs q k (maxK zs q k) (l + 1) = max (maxL zs q k (maxK zs q k) l) (sumB zs q k l 64) from rfl)
                generalize maxL zs q k (maxK zs q k) l = x1 at *
                generalize sumB zs q k l 64 = x2 at *
                go_wp2
                go_roundw
                case rel => exact ⟨l + 1, hll, by go_num, congrArg (Value.int .i64) (by rw [MM.out]; omega), GO.out⟩
                case measure => simp [intOf]; omega
          · obtain rfl : l = 8 := by omega
            have GO := Lib.hid (HKK.out.trans HKL.out)
            go_wp2
            go_roundw
            case rel => exact ⟨k + 1, hlk, by go_num, rfl, GO.out⟩
            case measure => simp [intOf]; omega
      · obtain rfl : k = 8 := by omega
        have R := Lib.hid (show bndOf zs q = (maxK zs q 8 + 547363225600) / 1094726451200 from rfl)
        have GO := Lib.hid (K2.out.trans HKK.out)
        generalize maxK zs q 8 = x1 at *
        go_wp2
        go_ret
        exact ⟨by rw [Q.out, R.out]; rfl, GO.out⟩
end Go.Proofs.YtebdgoikmclflaaGreatDoor
