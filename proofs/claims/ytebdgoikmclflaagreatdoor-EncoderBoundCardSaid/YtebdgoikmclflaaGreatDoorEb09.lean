/-
  quant.Bound.
-/
import Derived.Test.YtebdgoikmclflaaGreatDoorEb08
namespace Go.Proofs.YtebdgoikmclflaaGreatDoor
open Go.RowKit

/-- Calls whose values are known, in a region that draws its order. -/
def valCalm (wr : World) (ks : List Nat) (us : Nat → Value) : Calm where
  R := fun _ => Keep none_
  G := fun _ y => Keep none_ wr y
  eff := ks
  T := fun k _ v _ => v = us k
  anc := fun _ => []
  own := fun _ _ _ => False
theorem valCalm_good (wr : World) (ks : List Nat) (us : Nat → Value) : (valCalm wr ks us).Good where
  mono := fun _ _ h => h
  size := fun _ _ _ h => h.size
  stable := fun _ _ _ _ _ _ _ _ h _ => h
theorem valCalm_some (wr : World) (ks : List Nat) (us : Nat → Value) : Nonempty (valCalm wr ks us).Sub := ⟨⟨wr, 0, Nat.zero_le _, Keep.refl _ _⟩⟩
theorem valCalm_at {wr : World} {ks : List Nat} {us : Nat → Value} (x : (valCalm wr ks us).Sub) : Keep none_ wr ((valCalm wr ks us).at_ x) := by
  obtain ⟨x, n, _, h⟩ := x
  exact h
theorem run_index_l64 (cs : Array Value) (k : Nat) (u : Value) (hk : k < 64) (hc : cs[k]? = some u) (w : World) : (Instr.index 72 (.agg cs) (.int .i64 (k : Int))).run Tryz.prog w = .ok u w := by
  have hs : (sizeOf 2).run Tryz.prog w = .ok 1 w := by kernel_rfl
  simp [Instr.index, run_underlying Tryz.underlying72, asIntOf, go_sem, part, hs, hc]
  omega
theorem zero_steps (zs : List Int) (q : Int) : ((stepsAt zs q 0).map (Value.int .i64)).toArray = zero64 := by
  have : stepsAt zs q 0 = List.replicate 64 0 := by
    unfold stepsAt
    simp
    rfl
  rw [this]
  rfl
theorem zero_tab : ((tabAt 0).map (Value.int .i64)).toArray = zero64 := by
  have : tabAt 0 = List.replicate 64 0 := by
    unfold tabAt
    simp
    rfl
  rw [this]
  rfl
set_option maxRecDepth 100000 in
set_option maxHeartbeats 4000000 in
theorem qbound_any (zs : List Int) (q : Int) (w : World) (hl : zs.length = 64) (hz : U8r zs) : Calls Tryz.prog 13 #[.agg (zs.map (Value.int .u8)).toArray, .int .i64 q] w fun e w' => e = .returned (.int .i64 (bndF zs q)) ∧ Keep none_ w w' := by
  have QV := Lib.hid (fun w => quant_any zs w hl)
  have VQ := Lib.hid (fun w => vqQ q w)
  obtain ⟨cs, hcs⟩ : ∃ cs, cs = (zs.map (Value.int .u8)).toArray := ⟨_, rfl⟩
  have hget : ∀ k (hk : k < 64), cs[k]? = some (.int .u8 (zs.getD k 0)) := fun k hk => by rw [hcs, List.getD, List.getElem?_eq_getElem (by omega)]; simp [hl, hk]
  have hsz : cs.size = 64 := by rw [hcs]; simp [hl]
  rw [← hcs] at QV ⊢
  have HG := Lib.hid hget
  have SZ := Lib.hid hsz
  have HZ := Lib.hid hz
  clear hcs hget hsz hz
  obtain ⟨W0, hW0⟩ : ∃ W0, W0 = w.alloc (.cells cs 24) := ⟨_, rfl⟩
  have k0 : Keep none_ w W0 := hW0 ▸ (Keep.refl _ _).alloc _
  have b0 : Blk W0 w.heap.size 24 cs := hW0 ▸ Blk.new _ _ _
  have B0 := Lib.hid b0
  have K0 := Lib.hid k0
  clear k0 b0
  have ze : ∀ w, (zeroValue 72).run Tryz.prog w = .ok (.agg zero64) w := fun w => by kernel_rfl
  have zt : ∀ w, (zeroValue 75).run Tryz.prog w = .ok (.agg zero64) w := fun w => by kernel_rfl
  obtain ⟨zc, hzc⟩ : ∃ zc, zc = zero64 := ⟨_, rfl⟩
  rw [← hzc] at ze zt
  have HZC := Lib.hid hzc
  clear hzc
  have t1 : True := trivial
  have t2 : True := trivial
  have t3 : True := trivial
  go_enter Tryz.func13, Tryz.ntmps13
  go_upto_region 1 with (fail)
  rw [← hW0]
  clear hW0
  cases hg : ge8 zs with
  | false =>
    rw [hg] at QV
    have Q := Lib.hid (show bndF zs q = 0 by unfold bndF; rw [hg]; rfl)
    clear hg
    go_wp2_with (first | (have _t := t1; refine wpList_load_blk rfl 24 (.tmp 2) rfl w.heap.size 24 _ _ rfl B0.out Tryz.underlying24 rfl (by rw [SZ.out]; kernel_rfl) ?_; go_frame; clear _t t1) | (have _t := t2; go_at_call 27; refine (QV.out W0).mono ?_; rintro e w2 ⟨rfl, k2⟩; have K2 := Lib.hid (K0.out.trans k2); clear k2 _t t2))
    go_ret
    exact ⟨by rw [Q.out]; rfl, K2.out⟩
  | true =>
    rw [hg] at QV
    cases hq : qOk q with
    | false =>
      rw [hq] at VQ
      have Q := Lib.hid (show bndF zs q = 0 by unfold bndF; rw [hg, hq]; rfl)
      clear hg hq
      go_wp2_with (first | (have _t := t1; refine wpList_load_blk rfl 24 (.tmp 2) rfl w.heap.size 24 _ _ rfl B0.out Tryz.underlying24 rfl (by rw [SZ.out]; kernel_rfl) ?_; go_frame; clear _t t1) | (have _t := t2; go_at_call 27; refine (QV.out W0).mono ?_; rintro e w2 ⟨rfl, k2⟩; have K2 := Lib.hid (K0.out.trans k2); clear k2 _t t2) | (have _t := t3; go_at_call 28; refine (VQ.out w2).mono ?_; rintro e w' ⟨rfl, rfl⟩; clear _t t3))
      go_ret
      exact ⟨by rw [Q.out]; rfl, K2.out⟩
    | true =>
      rw [hq] at VQ
      have Q := Lib.hid (show bndF zs q = bndOf zs q by unfold bndF; rw [hg, hq]; rfl)
      have G8 := Lib.hid (fun n hn => ge8_at hl hg n hn)
      have q1 : 1 ≤ q := by unfold qOk at hq; simp at hq; omega
      have q2 : q ≤ 31 := by unfold qOk at hq; simp at hq; omega
      have Q12 := Lib.hid (And.intro q1 q2)
      clear hg hq q1 q2
      go_upto_region 3 with (first | (have _t := t1; refine wpList_load_blk rfl 24 (.tmp 2) rfl w.heap.size 24 _ _ rfl B0.out Tryz.underlying24 rfl (by rw [SZ.out]; kernel_rfl) ?_; go_frame; clear _t t1) | (have _t := t2; go_at_call 27; refine (QV.out W0).mono ?_; rintro e w2 ⟨rfl, k2⟩; have B2 := Lib.hid (B0.out.keep k2 (fun e => e)); have K2 := Lib.hid (K0.out.trans k2); clear k2 _t t2) | (have _t := t3; go_at_call 28; refine (VQ.out w2).mono ?_; rintro e w' ⟨rfl, rfl⟩; clear _t t3))
      go_upto_region 4 with (fail)
      obtain ⟨w3, hw3⟩ : ∃ w3, w3 = w2.alloc (.cells zc 72) := ⟨_, rfl⟩
      rw [← hw3]
      have k3 : Keep none_ w2 w3 := hw3 ▸ (Keep.refl none_ w2).alloc _
      have S3 := Lib.hid (show IntsB w3 w2.heap.size 72 (stepsAt zs q 0) by unfold IntsB; rw [zero_steps, ← HZC.out]; exact hw3 ▸ Blk.new _ _ _)
      have B3 := Lib.hid (B2.out.keep k3 (fun e => e))
      have K3 := Lib.hid (K2.out.trans k3)
      clear hw3 k3
      have t4 : True := trivial
      go_upto_region 5 with (have _t := t4; refine wpList_load_blk rfl 24 (.tmp 2) rfl w.heap.size 24 _ _ rfl B3.out Tryz.underlying24 rfl (by rw [SZ.out]; kernel_rfl) ?_; go_frame; clear _t t4)
      go_loopw [27] (fun i wr => ∃ k : Nat, k ≤ 64 ∧ i = .int .i64 k ∧ IntsB wr w2.heap.size 72 (stepsAt zs q k) ∧ Keep none_ w wr ∧ w2.heap.size < wr.heap.size) (fun i _ => 64 - (intOf i).toNat)
      case atStart => exact ⟨0, by decide, rfl, S3.out, K3.out, (show Blk _ _ _ _ from S3.out).lt⟩
      case round =>
        obtain ⟨k, hk, rfl, hS, hkr, hlt0⟩ := hrel
        have HS := Lib.hid hS
        have HK := Lib.hid hkr
        clear hS hkr
        by_cases hlt : k < 64
        · have hlt' : (k : Int) < 64 := by omega
          have hc := run_index_u8 cs k _ hlt (HG.out k hlt)
          obtain ⟨z1, z2⟩ := HZ.out k hlt
          have z8 := G8.out k hlt
          have SN := Lib.hid (steps_snoc zs q k hlt)
          have ST := Lib.hid (fun w => step_any (zs.getD k 0) q k z8 z2 Q12.out.1 Q12.out.2 hlt w)
          generalize zs.getD k 0 = z at hc z1 z2 z8 SN ST
          have t5 : True := trivial
          go_wp2_with (have _t := t5; go_at_call 29; refine (ST.out wr).mono ?_; rintro e w5 ⟨rfl, k5⟩; have S5 := Lib.hid (show IntsB w5 w2.heap.size 72 (stepsAt zs q k) from Blk.keep HS.out k5 (fun e => e)); have K5 := Lib.hid (HK.out.trans k5); have L5 := Lib.hid k5.size; have c5 := IntsB.cell S5.out k (by unfold stepsAt; simpa using hlt); have z5 := Blk.frozen S5.out k; clear k5 _t t5)
          have SS := Lib.hid (show IntsB (w5.setCell ⟨w2.heap.size, k, none⟩ (.int .i64 (stp z q k))) w2.heap.size 72 (stepsAt zs q (k + 1)) from SN.out ▸ S5.out.set_ k _)
          have KS := Lib.hid (show Keep none_ w (w5.setCell ⟨w2.heap.size, k, none⟩ (.int .i64 (stp z q k))) from K5.out.own ((Keep.refl (one w2.heap.size) w5).setCell (p := ⟨w2.heap.size, k, none⟩) (.inl rfl) _) K2.out.size)
          have LS := Lib.hid (show w2.heap.size < (w5.setCell ⟨w2.heap.size, k, none⟩ (.int .i64 (stp z q k))).heap.size from (show Blk _ _ _ _ from SS.out).lt)
          clear c5 z5 hc
          go_roundw
          case rel => exact ⟨k + 1, hlt, by go_num, SS.out, KS.out, LS.out⟩
          case measure => simp [intOf]; omega
        · obtain rfl : k = 64 := by omega
          clear hlt K3 S3 B3 B2 B0 K0 QV VQ
          have L2 := Lib.hid K2.out.size
          go_upto_region 10 with (fail)
          obtain ⟨b5, hb5⟩ : ∃ b5, b5 = w2.heap.size := ⟨_, rfl⟩
          rw [← hb5] at HS L2 ⊢
          clear hb5
          obtain ⟨w4, hw4⟩ : ∃ w4, w4 = wr.alloc (.cells zc 75) := ⟨_, rfl⟩
          rw [← hw4]
          have k4 : Keep none_ wr w4 := hw4 ▸ (Keep.refl none_ wr).alloc _
          have T4 := Lib.hid (show IntsB w4 wr.heap.size 75 (tabAt (0 * 8)) by unfold IntsB; rw [Nat.zero_mul, zero_tab, ← HZC.out]; exact hw4 ▸ Blk.new _ _ _)
          have S4 := Lib.hid (show IntsB w4 b5 72 (stepsAt zs q 64) from Blk.keep HS.out k4 (fun e => e))
          have K4 := Lib.hid (HK.out.trans k4)
          have L4 := Lib.hid HK.out.size
          have NE := Lib.hid (show b5 ≠ wr.heap.size from fun e => by have := (show Blk _ _ _ _ from HS.out).lt; omega)
          clear hw4 k4 HS HK
          obtain ⟨b8, hb8⟩ : ∃ b8, b8 = wr.heap.size := ⟨_, rfl⟩
          rw [← hb8] at T4 L4 NE ⊢
          clear hb8 K2
          go_wp2_with (fail)
          go_loopw [39] (fun i wy => ∃ m : Nat, m ≤ 8 ∧ i = .int .i64 m ∧ IntsB wy b8 75 (tabAt (m * 8)) ∧ IntsB wy b5 72 (stepsAt zs q 64) ∧ Keep none_ w wy) (fun i _ => 8 - (intOf i).toNat)
          case atStart => exact ⟨0, by decide, rfl, T4.out, S4.out, K4.out⟩
          case round =>
            obtain ⟨m, hm, rfl, hT, hS, hkm⟩ := hrel
            obtain ⟨wm, hwm⟩ : ∃ wm, wm = wr := ⟨_, rfl⟩
            subst hwm
            have HT := Lib.hid hT
            have HS := Lib.hid hS
            have HK := Lib.hid hkm
            clear hT hS hkm
            by_cases hlm : m < 8
            · have hlm' : (m : Int) < 8 := by omega
              go_wp2_with (fail)
              go_loopw [42] (fun j wy => ∃ k : Nat, k ≤ 8 ∧ j = .int .i64 k ∧ IntsB wy b8 75 (tabAt (m * 8 + k)) ∧ Keep (one b8) wm wy) (fun j _ => 8 - (intOf j).toNat)
              case atStart => exact ⟨0, by decide, rfl, HT.out, Keep.refl _ _⟩
              case round =>
                obtain ⟨k, hk, rfl, hT2, hk2⟩ := hrel
                have HT2 := Lib.hid hT2
                have HK2 := Lib.hid hk2
                clear hT2 hk2
                by_cases hlk : k < 8
                · have hlk' : (k : Int) < 8 := by omega
                  have BS := Lib.hid (fun w => basis_any m k hlm hlk w)
                  have NB := Lib.hid (fun w => norm_any m hlm w)
                  obtain ⟨b1, b2, -, -⟩ := bas_bound m k hlm hlk
                  have TB := Lib.hid (show tab m k = max (basOf m k) (-(basOf m k)) * (739840 / normOf m) from rfl)
                  have TN := Lib.hid (show (tabAt (m * 8 + k)).set (m * 8 + k) (tab m k) = tabAt (m * 8 + k + 1) from by
                    have h := tabAt_snoc (m * 8 + k) (by omega)
                    rwa [show (m * 8 + k) / 8 = m by omega, show (m * 8 + k) % 8 = k by omega] at h)
                  have hN := norm_mem m hlm
                  generalize normOf m = N at *
                  generalize basOf m k = bs at *
                  generalize tab m k = tb at *
                  have t6 : True := trivial
                  go_upto_region 17 with (have _t := t6; go_at_call 30; refine (BS.out wr).mono ?_; rintro e w5 ⟨rfl, k5⟩; have T5 := Lib.hid (show IntsB w5 b8 75 (tabAt (m * 8 + k)) from Blk.keep HT2.out k5 (fun e => e)); have K5 := Lib.hid (HK2.out.trans (k5.mono (fun _ e => e.elim))); clear k5 _t t6)
                  have gd := valCalm_good w5 [7] (fun _ => .int .i64 N)
                  have ne := valCalm_some w5 [7] (fun _ => .int .i64 N)
                  rcases hN with rfl | rfl | rfl
                  all_goals
                    refine wp_region_calm (valCalm w5 [7] (fun _ => _)) [0, 1, 2, 3, 4, 5, 6, 7, 8, 9, 10, 11] [12] 99 (by kernel_rfl) (by kernel_rfl) rfl gd (Keep.refl _ _).drew ?_
                    simp only [pairs, List.filterMap_cons, List.filterMap_nil, List.getElem?_toArray, List.getElem?_cons_succ, List.getElem?_cons_zero, Option.map_some]
                    repeat (refine Calm.walk_quiet ne rfl rfl rfl (fun K hK => ?_); go_big_quiet_op; refine hK _ ?_; clear hK K)
                    refine Calm.walk_eff rfl rfl (fun n wy hn hG _ => ?_) ?_
                    · have hG' : Keep none_ w5 wy := hG
                      unfold gives
                      go_simp
                      refine (NB.out wy).mono ?_
                      rintro e wz ⟨rfl, hkz⟩
                      exact ⟨_, rfl, rfl, hkz, hG'.trans hkz, fun _ h => h.elim⟩
                    intro vq wy hT
                    have hT' : vq = .int .i64 _ := hT
                    subst hT'
                    clear wy hT
                    go_frame
                    repeat (refine Calm.walk_quiet ne rfl rfl rfl (fun K hK => ?_); go_big_quiet_op; refine hK _ ?_; clear hK K)
                    intro w7 hG hD
                    have k7 : Keep none_ w5 w7 := hG
                    have T7 := Lib.hid (show IntsB w7 b8 75 (tabAt (m * 8 + k)) from Blk.keep T5.out k7 (fun e => e))
                    have K7 := Lib.hid (K5.out.trans (k7.mono (fun _ e => e.elim)))
                    have c7 := IntsB.cell T7.out (m * 8 + k) (by unfold tabAt; simp; omega)
                    have z7 := Blk.frozen T7.out (m * 8 + k)
                    clear hG hD gd ne k7
                    simp only [pickOps, List.filterMap_cons, List.filterMap_nil, List.getElem?_toArray, List.getElem?_cons_succ, List.getElem?_cons_zero]
                    go_wp2
                    all_goals
                      have h := T7.out.set_ (m * 8 + k) tb
                      rw [TN.out] at h
                      go_roundw
                      case rel =>
                        refine ⟨_, _, _, ⟨k + 1, hlk, by go_num, ?_, K7.out.trans ((Keep.refl (one b8) w7).setCell (p := ⟨b8, m * 8 + k, none⟩) (.inl rfl) _)⟩, rfl, rfl, rfl⟩
                        first | (rw [show bs * 1445 = tb by have := TB.out; omega]; exact h) | (rw [show bs * 1280 = tb by have := TB.out; omega]; exact h) | (rw [show bs * 2312 = tb by have := TB.out; omega]; exact h) | (rw [show -bs * 1445 = tb by have := TB.out; omega]; exact h) | (rw [show -bs * 1280 = tb by have := TB.out; omega]; exact h) | (rw [show -bs * 2312 = tb by have := TB.out; omega]; exact h)
                      case measure => simp [intOf]; omega
                · obtain rfl : k = 8 := by omega
                  have S9 := Lib.hid (show IntsB wr b5 72 (stepsAt zs q 64) from Blk.keep HS.out HK2.out (fun e => NE.out e))
                  have K9 := Lib.hid (HK.out.own HK2.out L4.out)
                  have T9 := Lib.hid (show IntsB wr b8 75 (tabAt ((m + 1) * 8)) by rw [Nat.succ_mul]; exact HT2.out)
                  go_wp2
                  go_roundw
                  case rel => exact ⟨m + 1, hlm, by go_num, T9.out, S9.out, K9.out⟩
                  case measure => simp [intOf]; omega
            · obtain rfl : m = 8 := by omega
              clear hlm NE L4 T4 S4 K4
              go_wp2_with (fail)
              go_loopw [12, 62] (fun gr i wy => ∃ k : Nat, k ≤ 8 ∧ i = .int .i64 k ∧ gr = .int .i64 (maxK zs q k) ∧ Keep none_ wm wy) (fun _ i _ => 8 - (intOf i).toNat)
              case atStart => exact ⟨0, by decide, rfl, rfl, Keep.refl _ _⟩
              case round =>
                obtain ⟨k, hk, rfl, rfl, hkk⟩ := hrel
                have HKK := Lib.hid hkk
                clear hkk
                obtain ⟨wk, hwk⟩ : ∃ wk, wk = wr := ⟨_, rfl⟩
                subst hwk
                obtain ⟨mk1, mk2⟩ := maxK_bound HZ.out Q12.out.1 Q12.out.2 k hk
                by_cases hlk : k < 8
                · have hlk' : (k : Int) < 8 := by omega
                  go_wp2_with (fail)
                  go_loopw [12, 65] (fun gr i wy => ∃ l : Nat, l ≤ 8 ∧ i = .int .i64 l ∧ gr = .int .i64 (maxL zs q k (maxK zs q k) l) ∧ Keep none_ wk wy) (fun _ i _ => 8 - (intOf i).toNat)
                  case atStart => exact ⟨0, by decide, rfl, rfl, Keep.refl _ _⟩
                  case round =>
                    obtain ⟨l, hl8, rfl, rfl, hkl⟩ := hrel
                    have HKL := Lib.hid hkl
                    clear hkl
                    obtain ⟨wl, hwl⟩ : ∃ wl, wl = wr := ⟨_, rfl⟩
                    subst hwl
                    have ML := Lib.hid (maxL_bound HZ.out Q12.out.1 Q12.out.2 k _ hlk mk1 mk2 l hl8)
                    by_cases hll : l < 8
                    · have hll' : (l : Int) < 8 := by omega
                      have SL := Lib.hid (show IntsB wl b5 72 (stepsAt zs q 64) from Blk.keep HS.out (HKK.out.trans HKL.out) (fun e => e))
                      obtain ⟨ss, hss⟩ : ∃ ss, ss = ((stepsAt zs q 64).map (Value.int .i64)).toArray := ⟨_, rfl⟩
                      have SB := Lib.hid (show Blk wl b5 72 ss from hss ▸ SL.out)
                      have SSZ := Lib.hid (show ss.size = 64 by rw [hss]; unfold stepsAt; simp)
                      have SG := Lib.hid (show ∀ n, n < 64 → ss[n]? = some (.int .i64 (stp (zs.getD n 0) q n)) from fun n hn => by
                        rw [hss, List.getElem?_toArray, List.getElem?_map]
                        unfold stepsAt
                        simp [hn])
                      clear hss
                      have t7 : True := trivial
                      go_wp2_with (have _t := t7; refine wpList_load_blk rfl 72 (.tmp 5) rfl b5 72 _ _ rfl SB.out Tryz.underlying72 rfl (by rw [SSZ.out]; kernel_rfl) ?_; go_frame; clear _t t7)
                      go_loopw [15, 69] (fun sm i wy => ∃ n : Nat, n ≤ 64 ∧ i = .int .i64 n ∧ sm = .int .i64 (sumB zs q k l n) ∧ Keep none_ wl wy) (fun _ i _ => 64 - (intOf i).toNat)
                      case atStart => exact ⟨0, by decide, rfl, rfl, Keep.refl _ _⟩
                      case round =>
                        obtain ⟨n, hn, rfl, rfl, hkn⟩ := hrel
                        by_cases hln : n < 64
                        · have hln' : (n : Int) < 64 := by omega
                          have hc := run_index_l64 ss n _ hln (SG.out n hln)
                          have TT := Lib.hid (show IntsB wr b8 75 (tabAt 64) from Blk.keep HT.out ((HKK.out.trans HKL.out).trans hkn) (fun e => e))
                          have HKN := Lib.hid hkn
                          clear hkn
                          obtain ⟨i, hi⟩ : ∃ i : Nat, i = n / 8 := ⟨_, rfl⟩
                          obtain ⟨j, hj⟩ : ∃ j : Nat, j = n % 8 := ⟨_, rfl⟩
                          have e1 : (n : Int) / 8 = (i : Int) := by omega
                          have e2 : (n : Int) % 8 = (j : Int) := by omega
                          have hi8 : i < 8 := by omega
                          have hj8 : j < 8 := by omega
                          have hi8' : (i : Int) < 8 := by omega
                          have hj8' : (j : Int) < 8 := by omega
                          have x1 : wr.cell? ⟨b8, i * 8 + k, none⟩ = some (.int .i64 (tab i k)) := by rw [← tabAt_get i k hi8 hlk]; exact IntsB.cell TT.out _ (by unfold tabAt; simp; omega)
                          have x2 : wr.cell? ⟨b8, j * 8 + l, none⟩ = some (.int .i64 (tab j l)) := by rw [← tabAt_get j l hj8 hll]; exact IntsB.cell TT.out _ (by unfold tabAt; simp; omega)
                          obtain ⟨a1, a2⟩ := tab_bound i k hi8 hlk
                          obtain ⟨c1, c2⟩ := tab_bound j l hj8 hll
                          obtain ⟨d1, d2⟩ := tt_bound a1 a2 c1 c2
                          obtain ⟨z1, z2⟩ := HZ.out n hln
                          obtain ⟨-, -, s1, s2⟩ := stp_bound z1 z2 Q12.out.1 Q12.out.2 hln
                          obtain ⟨u1, u2⟩ := tts_bound d1 d2 s1 s2
                          obtain ⟨v1, v2⟩ := sumB_bound HZ.out Q12.out.1 Q12.out.2 k l hlk hll n hn
                          have SN := Lib.hid (show sumB zs q k l (n + 1) = sumB zs q k l n + tab i k * tab j l * stp (zs.getD n 0) q n by rw [hi, hj]; rfl)
                          generalize stp (zs.getD n 0) q n = sp at *
                          generalize tab i k = ta at *
                          generalize tab j l = tb at *
                          clear hi hj
                          have GO := Lib.hid (show Keep none_ wl wr.drew from HKN.out.drew)
                          go_upto_region 31 with (fail)
                          have gd := still_good (wr).drew
                          have ne := still_some (wr).drew
                          have hx := still_at (wr).drew
                          refine wp_region_calm (stillCalm (wr).drew) [0, 1, 2, 3, 4, 5, 6, 7, 8, 9, 10, 11, 12, 13, 14, 15, 16, 17] [] 99 (by kernel_rfl) (by kernel_rfl) rfl gd rfl ?_
                          simp only [pairs, List.filterMap_cons, List.filterMap_nil, List.getElem?_toArray, List.getElem?_cons_succ, List.getElem?_cons_zero, Option.map_some]
                          repeat (refine Calm.walk_quiet ne rfl rfl rfl (fun K hK => ?_); go_big_quiet_op; refine hK _ ?_; clear hK K)
                          intro w' hR _
                          obtain rfl : w' = (wr).drew := hR.symm
                          simp only [pickOps, List.filterMap_nil]
                          clear gd ne hx hR
                          go_wp2
                          go_roundw
                          case rel => exact ⟨n + 1, hln, by go_num, by rw [SN.out], GO.out⟩
                          case measure => simp [intOf]; omega
                        · obtain rfl : n = 64 := by omega
                          have GO := Lib.hid (HKL.out.trans hkn)
                          clear hkn
                          have ml := ML.out
                          obtain ⟨v1, v2⟩ := sumB_all HZ.out Q12.out.1 Q12.out.2 k l hlk hll
                          have MM := Lib.hid (show maxL zs q k (maxK zs q k) (l + 1) = max (maxL zs q k (maxK zs q k) l) (sumB zs q k l 64) from rfl)
                          generalize maxL zs q k (maxK zs q k) l = x1 at *
                          generalize sumB zs q k l 64 = x2 at *
                          go_wp2
                          go_roundw
                          case rel => exact ⟨l + 1, hll, by go_num, congrArg (Value.int .i64) (by rw [MM.out]; omega), GO.out⟩
                          case measure => simp [intOf]; omega
                    · obtain rfl : l = 8 := by omega
                      have GO := Lib.hid (HKK.out.trans HKL.out)
                      go_wp2
                      go_roundw
                      case rel => exact ⟨k + 1, hlk, by go_num, rfl, GO.out⟩
                      case measure => simp [intOf]; omega
                · obtain rfl : k = 8 := by omega
                  have R := Lib.hid (show bndOf zs q = (maxK zs q 8 + 547363225600) / 1094726451200 from rfl)
                  have GO := Lib.hid (HK.out.trans HKK.out)
                  generalize maxK zs q 8 = x1 at *
                  go_wp2
                  go_ret
                  exact ⟨by rw [Q.out, R.out]; rfl, GO.out⟩
end Go.Proofs.YtebdgoikmclflaaGreatDoor
