/-
  transform.Inverse of a block of zeros.
-/
import Derived.Test.YtebdgoikmclflaaGreatDoorEb24
namespace Go.Proofs.YtebdgoikmclflaaGreatDoor
open Go.RowKit

/-- The matrix, its first p entries multiplied. -/
def scl (p : Nat) : List Int := (List.range 64).map fun n => basOf (n / 8) (n % 8) * (if n < p then 739840 / normOf (n / 8) else 1)
theorem scl_snoc (k : Nat) (hk : k < 64) : (scl k).set k (basOf (k / 8) (k % 8) * (739840 / normOf (k / 8))) = scl (k + 1) := by
  apply List.ext_getElem?
  intro i
  unfold scl
  rw [List.getElem?_set]
  by_cases hik : k = i
  · subst hik
    simp [hk]
  · rw [if_neg hik]
    simp only [List.getElem?_map]
    cases h : (List.range 64)[i]? with
    | none => rfl
    | some j =>
      have : j = i := by
        obtain ⟨h1, h2⟩ := List.getElem?_eq_some_iff.1 h
        simpa using h2.symm
      subst this
      simp only [Option.map_some]
      congr 1
      by_cases h1 : j < k
      · rw [if_pos h1, if_pos (by omega)]
      · rw [if_neg h1, if_neg (by omega)]
theorem scl_zero : ((scl 0).map (Value.int .i64)).toArray = basV := by kernel_rfl
theorem scl_at (p i k : Nat) (hi : i < 8) (hk : k < 8) : (scl p).getD (i * 8 + k) 0 = basOf i k * (if i * 8 + k < p then 739840 / normOf i else 1) := by
  have e1 : (i * 8 + k) / 8 = i := by omega
  have e2 : (i * 8 + k) % 8 = k := by omega
  have e3 : i * 8 + k < 64 := by omega
  unfold scl
  simp [List.getD, e1, e2, e3]
theorem scl_bound (i k : Nat) (hi : i < 8) (hk : k < 8) : -27744 ≤ basOf i k * (739840 / normOf i) ∧ basOf i k * (739840 / normOf i) ≤ 27744 := by
  have : ∀ (i k : Fin 8), -27744 ≤ basOf i.1 k.1 * (739840 / normOf i.1) ∧ basOf i.1 k.1 * (739840 / normOf i.1) ≤ 27744 := by decide +kernel
  exact this ⟨i, hi⟩ ⟨k, hk⟩
set_option maxRecDepth 100000 in
set_option maxHeartbeats 1000000 in
theorem nearest_zero (w : World) : Calls Tryz.prog 158 #[.int .i64 0] w fun e w' => e = .returned (.int .i64 0) ∧ w = w' := by
  go_enter Tryz.func158, Tryz.ntmps158
  go_wp2
  go_ret
  exact ⟨rfl, rfl⟩
set_option maxRecDepth 100000 in
set_option maxHeartbeats 4000000 in
theorem inverse_any (w : World) : Calls Tryz.prog 114 #[.agg (A64 0)] w fun e w' => e = .returned (.agg (A64 0)) ∧ Keep none_ w w' := by
  obtain ⟨zc, hzc⟩ : ∃ zc, zc = A64 0 := ⟨_, rfl⟩
  have ze : ∀ w, (zeroValue 99).run Tryz.prog w = .ok (.agg zc) w := by rw [hzc, ← A64_zero]; exact fun w => by kernel_rfl
  have zl : ∀ w, (zeroValue 72).run Tryz.prog w = .ok (.agg zc) w := by rw [hzc, ← A64_zero]; exact fun w => by kernel_rfl
  have zm : ∀ w, (zeroValue 75).run Tryz.prog w = .ok (.agg zc) w := by rw [hzc, ← A64_zero]; exact fun w => by kernel_rfl
  have SZ := Lib.hid (show zc.size = 64 by rw [hzc]; exact A64_size 0)
  have OZ := Lib.hid (show zc.all (·.oneCell') = true by rw [hzc]; exact A64_one 0)
  rw [← hzc]
  obtain ⟨W0, hW0⟩ : ∃ W0, W0 = (w.alloc (.cells zc 99)).alloc (.cells zc 99) := ⟨_, rfl⟩
  obtain ⟨x0, r0, k0⟩ := two (Keep.eq_ hW0)
  have X0 := Lib.hid x0
  have R0 := Lib.hid r0
  have K0 := Lib.hid k0
  have S0 := Lib.hid (show w.heap.size + 1 < W0.heap.size from (show Blk _ _ _ _ from r0).lt)
  have HZC := Lib.hid hzc
  clear k0 x0 r0 hzc
  have t2 : True := trivial
  have t3 : True := trivial
  have t4 : True := trivial
  go_enter Tryz.func114, Tryz.ntmps114
  go_upto_region 1 with (fail)
  rw [← hW0]
  clear hW0
  go_wp2_with (first | (have _t := t2; go_at_call 63; refine (matrix_any W0).mono ?_; rintro e w2 ⟨rfl, k2⟩; have KX2 := Lib.hid k2; clear k2 _t t2) | (have _t := t3; refine wpList_store_blk rfl 75 (.tmp 3) (.tmp 17) rfl w2.heap.size 75 _ basV rfl rfl (Blk.new _ _ _) (by rw [SZ.out]; kernel_rfl) (by kernel_rfl) (by kernel_rfl) ?_; intro w3 h5 k5 s5; have M3 := Lib.hid h5; have KX3 := Lib.hid (show Keep none_ w2 w3 from ((Keep.refl none_ w2).alloc _).own k5 (Nat.le_refl _)); clear h5 k5 s5; go_frame; clear _t t3) | (have _t := t4; go_at_call 64; refine (norms_any w3).mono ?_; rintro e w4 ⟨rfl, k4⟩; have KX4 := Lib.hid k4; clear k4 _t t4))
  have M4 := Lib.hid (show IntsB w4 w2.heap.size 75 (scl (0 * 8)) from by unfold IntsB; rw [Nat.zero_mul, scl_zero]; exact M3.out.keep KX4.out (fun e => e))
  have KY4 := Lib.hid ((KX2.out.trans KX3.out).trans KX4.out)
  have X4 := Lib.hid (show ZB w4 w.heap.size 99 from by unfold ZB; rw [← HZC.out]; exact X0.out.keep KY4.out (fun e => e))
  have R4 := Lib.hid (R0.out.keep KY4.out (fun e => e))
  have K4 := Lib.hid (K0.out.trans KY4.out)
  have LM := Lib.hid (show w2.heap.size < w4.heap.size from (show Blk _ _ _ _ from M4.out).lt)
  have L2 := Lib.hid (show w.heap.size + 1 < w2.heap.size from Nat.lt_of_lt_of_le S0.out KX2.out.size)
  obtain ⟨gm, hgm⟩ : ∃ gm, gm = w2.heap.size := ⟨_, rfl⟩
  rw [← hgm] at M4 LM L2 ⊢
  clear hgm M3 KX3 KX2 KX4 KY4
  go_loopw [19] (fun i wr => ∃ k : Nat, k ≤ 8 ∧ i = .int .i64 k ∧ IntsB wr gm 75 (scl (k * 8)) ∧ Keep (one gm) w4 wr) (fun i _ => 8 - (intOf i).toNat)
  case atStart => exact ⟨0, by decide, rfl, M4.out, Keep.refl _ _⟩
  case round =>
    obtain ⟨k, hk, rfl, hZ, hkr⟩ := hrel
    obtain ⟨wa, hwa⟩ : ∃ wa, wa = wr := ⟨_, rfl⟩
    subst hwa
    have HMa := Lib.hid hZ
    have HKa := Lib.hid hkr
    clear hZ hkr
    by_cases hlk : k < 8
    · have hlk' : (k : Int) < 8 := by omega
      have hix := run_index_norms k hlk
      have hN := norm_mem k hlk
      have HN := Lib.hid (show ∀ m, m < 8 → basOf k m * (739840 / normOf k) = basOf k m * (739840 / normOf k) from fun _ _ => rfl)
      go_wp2_with (fail)
      go_loopw [23] (fun j wr => ∃ m : Nat, m ≤ 8 ∧ j = .int .i64 m ∧ IntsB wr gm 75 (scl (k * 8 + m)) ∧ Keep (one gm) w4 wr) (fun j _ => 8 - (intOf j).toNat)
      case atStart => exact ⟨0, by decide, rfl, HMa.out, HKa.out⟩
      case round =>
        obtain ⟨m, hm, rfl, hZ, hkr⟩ := hrel
        have HM := Lib.hid hZ
        have HK := Lib.hid hkr
        clear hZ hkr
        by_cases hlm : m < 8
        · have hlm' : (m : Int) < 8 := by omega
          obtain ⟨b1, b2, -, -⟩ := bas_bound k m hlk hlm
          have SN := Lib.hid (show (scl (k * 8 + m)).set (k * 8 + m) (basOf k m * (739840 / normOf k)) = scl (k * 8 + m + 1) from by
            have h := scl_snoc (k * 8 + m) (by omega)
            rwa [show (k * 8 + m) / 8 = k by omega, show (k * 8 + m) % 8 = m by omega] at h)
          have c7 : wr.cell? ⟨gm, k * 8 + m, none⟩ = some (.int .i64 (basOf k m)) := by
            rw [IntsB.cell HM.out (k * 8 + m) (by unfold scl; simp; omega), scl_at _ k m hlk hlm, if_neg (by omega), Int.mul_one]
          have z7 := Blk.frozen HM.out (k * 8 + m)
          have KG := Lib.hid (show ∀ v, Keep (one gm) w4 (wr.drew.setCell ⟨gm, k * 8 + m, none⟩ v) from fun v => HK.out.drew.setCell (p := ⟨gm, k * 8 + m, none⟩) (.inl rfl) _)
          have MG := Lib.hid (show IntsB (wr.drew.setCell ⟨gm, k * 8 + m, none⟩ (.int .i64 (basOf k m * (739840 / normOf k)))) gm 75 (scl (k * 8 + m + 1)) from by
            have h := IntsB.set_ (show IntsB wr.drew gm 75 (scl (k * 8 + m)) from Blk.drew HM.out) (k * 8 + m) (basOf k m * (739840 / normOf k))
            rw [SN.out] at h
            exact h)
          clear SN HN hix
          generalize basOf k m = q at *
          generalize normOf k = N at *
          rcases hN with rfl | rfl | rfl
          all_goals
            go_upto_region 8 with (fail)
            have gd := still_good (wr).drew
            have ne := still_some (wr).drew
            have hx := still_at (wr).drew
            refine wp_region_calm (stillCalm (wr).drew) [0, 1, 2, 3, 4, 5, 6, 7, 8, 9] [10] 106 (by kernel_rfl) (by kernel_rfl) rfl gd rfl ?_
            simp only [pairs, List.filterMap_cons, List.filterMap_nil, List.getElem?_toArray, List.getElem?_cons_succ, List.getElem?_cons_zero, Option.map_some]
            repeat (refine Calm.walk_quiet ne rfl rfl rfl (fun K hK => ?_); go_big_quiet_op; refine hK _ ?_; clear hK K)
            intro w' hR _
            obtain rfl : w' = (wr).drew := hR.symm
            simp only [pickOps, List.filterMap_cons, List.filterMap_nil, List.getElem?_toArray, List.getElem?_cons_succ, List.getElem?_cons_zero]
            clear gd ne hx hR
            go_wp2
            go_roundw
            case rel => exact ⟨m + 1, hlm, by go_num, MG.out, KG.out _⟩
            case measure => simp [intOf]; omega
        · obtain rfl : m = 8 := by omega
          have ME := Lib.hid (show IntsB wr gm 75 (scl ((k + 1) * 8)) by rw [Nat.succ_mul]; exact HM.out)
          go_wp2
          go_roundw
          case rel => exact ⟨k + 1, hlk, by go_num, ME.out, HK.out⟩
          case measure => simp [intOf]; omega
    · obtain rfl : k = 8 := by omega
      clear hlk hk
      have X5 := Lib.hid (X4.out.keep HKa.out (fun e => by have := L2.out; unfold one at e; omega))
      have R5 := Lib.hid (R4.out.keep HKa.out (fun e => by have := L2.out; unfold one at e; omega))
      have K5 := Lib.hid (K4.out.own HKa.out (by have := L2.out; omega))
      have LM := Lib.hid (show gm < wa.heap.size from (show Blk _ _ _ _ from HMa.out).lt)
      clear X4 R4 K4 HKa M4
      go_upto_region 12 with (fail)
      obtain ⟨w6, hw6⟩ : ∃ w6, w6 = wa.alloc (.cells zc 72) := ⟨_, rfl⟩
      rw [← hw6]
      have k6 : Keep none_ wa w6 := hw6 ▸ (Keep.refl none_ wa).alloc _
      have Z6 := Lib.hid (show ZB w6 wa.heap.size 72 from by unfold ZB; rw [← HZC.out]; exact hw6 ▸ Blk.new _ _ _)
      have M6 := Lib.hid (show IntsB w6 gm 75 (scl 64) from Blk.keep HMa.out k6 (fun e => e))
      have X6 := Lib.hid (X5.out.keep k6 (fun e => e))
      have R6 := Lib.hid (R5.out.keep k6 (fun e => e))
      have K6 := Lib.hid (K5.out.trans k6)
      clear hw6 k6 HMa X5 R5 K5
      obtain ⟨gr, hgr⟩ : ∃ gr, gr = wa.heap.size := ⟨_, rfl⟩
      rw [← hgr] at Z6 LM ⊢
      clear hgr
      have MAT := Lib.hid (show ∀ wy, Keep (one gr) w6 wy → ∀ i j, i < 8 → j < 8 → ∃ q, wy.cell? ⟨gm, i * 8 + j, none⟩ = some (.int .i64 q) ∧ -27744 ≤ q ∧ q ≤ 27744 from fun wy hk i j hi hj => ⟨basOf i j * (739840 / normOf i), by
        rw [IntsB.cell (show IntsB wy gm 75 (scl 64) from Blk.keep M6.out hk (fun e => by have := LM.out; unfold one at e; omega)) (i * 8 + j) (by unfold scl; simp; omega), scl_at _ i j hi hj, if_pos (by omega)], scl_bound i j hi hj⟩)
      have SRC := Lib.hid (show ∀ wy, Keep (one gr) w6 wy → ∀ p, p < 64 → wy.cell? ⟨w.heap.size, p, none⟩ = some (.int .i64 0) from fun wy hk p hp => (X6.out.keep hk (fun e => by have := LM.out; have := L2.out; unfold one at e; omega)).cell p hp)
      go_wp2_with (fail)
      go_loopw [38] (fun i wr => ∃ k : Nat, k ≤ 8 ∧ i = .int .i64 k ∧ ZB wr gr 72 ∧ Keep (one gr) w6 wr) (fun i _ => 8 - (intOf i).toNat)
      case atStart => exact ⟨0, by decide, rfl, Z6.out, Keep.refl _ _⟩
      case round =>
        obtain ⟨k, hk, rfl, hZ, hkr⟩ := hrel
        obtain ⟨wa, hwa⟩ : ∃ wa, wa = wr := ⟨_, rfl⟩
        subst hwa
        have HZa := Lib.hid hZ
        have HKa := Lib.hid hkr
        clear hZ hkr
        by_cases hlk : k < 8
        · have hlk' : (k : Int) < 8 := by omega
          go_wp2_with (fail)
          go_loopw [41] (fun j wr => ∃ m : Nat, m ≤ 8 ∧ j = .int .i64 m ∧ ZB wr gr 72 ∧ Keep (one gr) w6 wr) (fun j _ => 8 - (intOf j).toNat)
          case atStart => exact ⟨0, by decide, rfl, HZa.out, HKa.out⟩
          case round =>
            obtain ⟨m, hm, rfl, hZ, hkr⟩ := hrel
            obtain ⟨wb, hwb⟩ : ∃ wb, wb = wr := ⟨_, rfl⟩
            subst hwb
            have HZb := Lib.hid hZ
            have HKb := Lib.hid hkr
            clear hZ hkr
            by_cases hlm : m < 8
            · have hlm' : (m : Int) < 8 := by omega
              go_wp2_with (fail)
              go_loopw [10, 44] (fun s l wr => ∃ n : Nat, n ≤ 8 ∧ l = .int .i64 n ∧ s = .int .i64 0 ∧ Keep none_ wb wr) (fun _ l _ => 8 - (intOf l).toNat)
              case atStart => exact ⟨0, by decide, rfl, rfl, Keep.refl _ _⟩
              case round =>
                obtain ⟨n, hn, rfl, rfl, hkn⟩ := hrel
                have HKn := Lib.hid hkn
                clear hkn
                by_cases hln : n < 8
                · have hln' : (n : Int) < 8 := by omega
                  obtain ⟨p, hp⟩ : ∃ p : Nat, p = 8 * k + n := ⟨_, rfl⟩
                  have hp64 : p < 64 := by omega
                  have hp64' : (p : Int) < 64 := by omega
                  have e1 : (8 : Int) * (k : Int) + (n : Int) = (p : Int) := by omega
                  obtain ⟨q, x1, q1, q2⟩ : ∃ q, wr.cell? ⟨gm, n * 8 + m, none⟩ = some (.int .i64 q) ∧ -27744 ≤ q ∧ q ≤ 27744 := MAT.out wr ((HKb.out.trans (HKn.out.mono (fun _ e => e.elim)))) n m hln hlm
                  have x2 : wr.cell? ⟨w.heap.size, p, none⟩ = some (.int .i64 0) := SRC.out wr (HKb.out.trans (HKn.out.mono (fun _ e => e.elim))) p hp64
                  clear hp
                  have GO := Lib.hid (show Keep none_ wb wr.drew from HKn.out.drew)
                  go_upto_region 22 with (fail)
                  have gd := still_good (wr).drew
                  have ne := still_some (wr).drew
                  have hx := still_at (wr).drew
                  refine wp_region_calm (stillCalm (wr).drew) [0, 1, 2, 3, 4, 5, 6, 7, 8, 9, 10, 11, 12, 13, 14, 15, 16] [] 106 (by kernel_rfl) (by kernel_rfl) rfl gd rfl ?_
                  simp only [pairs, List.filterMap_cons, List.filterMap_nil, List.getElem?_toArray, List.getElem?_cons_succ, List.getElem?_cons_zero, Option.map_some]
                  repeat (refine Calm.walk_quiet ne rfl rfl rfl (fun K hK => ?_); go_big_quiet_op; refine hK _ ?_; clear hK K)
                  intro w' hR _
                  obtain rfl : w' = (wr).drew := hR.symm
                  simp only [pickOps, List.filterMap_nil]
                  clear gd ne hx hR
                  go_wp2
                  go_roundw
                  case rel => exact ⟨n + 1, hln, by go_num, by first | rfl | simp, GO.out⟩
                  case measure => simp [intOf]; omega
                · obtain rfl : n = 8 := by omega
                  obtain ⟨p, hp⟩ : ∃ p : Nat, p = 8 * k + m := ⟨_, rfl⟩
                  have hp64 : p < 64 := by omega
                  have hp64' : (p : Int) < 64 := by omega
                  have e1 : (8 : Int) * (k : Int) + (m : Int) = (p : Int) := by omega
                  have ZW := Lib.hid (HZb.out.keep HKn.out (fun e => e))
                  have c7 := ZW.out.cell p hp64
                  have z7 := Blk.frozen ZW.out p
                  have ZS := Lib.hid (ZW.out.set_ p)
                  have KS := Lib.hid (show Keep (one gr) w6 (wr.setCell ⟨gr, p, none⟩ (.int .i64 0)) from ((HKb.out.trans (HKn.out.mono (fun _ e => e.elim))).setCell (p := ⟨gr, p, none⟩) (.inl rfl) _))
                  clear hp
                  go_wp2
                  go_roundw
                  case rel => exact ⟨m + 1, hlm, by go_num, ZS.out, KS.out⟩
                  case measure => simp [intOf]; omega
            · obtain rfl : m = 8 := by omega
              go_wp2
              go_roundw
              case rel => exact ⟨k + 1, hlk, by go_num, HZb.out, HKb.out⟩
              case measure => simp [intOf]; omega
        · obtain rfl : k = 8 := by omega
          clear hlk hk
          have M7 := Lib.hid (show IntsB wa gm 75 (scl 64) from Blk.keep M6.out HKa.out (fun e => by have := LM.out; unfold one at e; omega))
          have R7 := Lib.hid (R6.out.keep HKa.out (fun e => by have := LM.out; have := L2.out; unfold one at e; omega))
          have K7 := Lib.hid (show Keep none_ w wa from K6.out.own HKa.out (by have := LM.out; have := L2.out; omega))
          have LR := Lib.hid (show gr < wa.heap.size from (show Blk _ _ _ _ from HZa.out).lt)
          clear MAT SRC HKa M6 R6 K6 X6
          go_upto_region 28 with (fail)
          obtain ⟨w8, hw8⟩ : ∃ w8, w8 = wa.alloc (.cells zc 99) := ⟨_, rfl⟩
          rw [← hw8]
          have k8 : Keep none_ wa w8 := hw8 ▸ (Keep.refl none_ wa).alloc _
          have Z8 := Lib.hid (show ZB w8 wa.heap.size 99 from by unfold ZB; rw [← HZC.out]; exact hw8 ▸ Blk.new _ _ _)
          have M8 := Lib.hid (show IntsB w8 gm 75 (scl 64) from Blk.keep M7.out k8 (fun e => e))
          have X8 := Lib.hid (HZa.out.keep k8 (fun e => e))
          have R8 := Lib.hid (R7.out.keep k8 (fun e => e))
          have K8 := Lib.hid (K7.out.trans k8)
          clear hw8 k8
          obtain ⟨gy, hgy⟩ : ∃ gy, gy = wa.heap.size := ⟨_, rfl⟩
          rw [← hgy] at Z8 LR ⊢
          clear hgy
          have MAT := Lib.hid (show ∀ wy, Keep (one gy) w8 wy → ∀ i j, i < 8 → j < 8 → ∃ q, wy.cell? ⟨gm, i * 8 + j, none⟩ = some (.int .i64 q) ∧ -27744 ≤ q ∧ q ≤ 27744 from fun wy hk i j hi hj => ⟨basOf i j * (739840 / normOf i), by
            rw [IntsB.cell (show IntsB wy gm 75 (scl 64) from Blk.keep M8.out hk (fun e => by have := LM.out; have := LR.out; unfold one at e; omega)) (i * 8 + j) (by unfold scl; simp; omega), scl_at _ i j hi hj, if_pos (by omega)], scl_bound i j hi hj⟩)
          have SRC := Lib.hid (show ∀ wy, Keep (one gy) w8 wy → ∀ p, p < 64 → wy.cell? ⟨gr, p, none⟩ = some (.int .i64 0) from fun wy hk p hp => (X8.out.keep hk (fun e => by have := LR.out; unfold one at e; omega)).cell p hp)
          clear HZa M7 R7 K7
          go_wp2_with (fail)
          go_loopw [72] (fun i wr => ∃ k : Nat, k ≤ 8 ∧ i = .int .i64 k ∧ ZB wr gy 99 ∧ Keep (one gy) w8 wr) (fun i _ => 8 - (intOf i).toNat)
          case atStart => exact ⟨0, by decide, rfl, Z8.out, Keep.refl _ _⟩
          case round =>
            obtain ⟨k, hk, rfl, hZ, hkr⟩ := hrel
            obtain ⟨wa, hwa⟩ : ∃ wa, wa = wr := ⟨_, rfl⟩
            subst hwa
            have HZa := Lib.hid hZ
            have HKa := Lib.hid hkr
            clear hZ hkr
            by_cases hlk : k < 8
            · have hlk' : (k : Int) < 8 := by omega
              go_wp2_with (fail)
              go_loopw [75] (fun j wr => ∃ m : Nat, m ≤ 8 ∧ j = .int .i64 m ∧ ZB wr gy 99 ∧ Keep (one gy) w8 wr) (fun j _ => 8 - (intOf j).toNat)
              case atStart => exact ⟨0, by decide, rfl, HZa.out, HKa.out⟩
              case round =>
                obtain ⟨m, hm, rfl, hZ, hkr⟩ := hrel
                obtain ⟨wb, hwb⟩ : ∃ wb, wb = wr := ⟨_, rfl⟩
                subst hwb
                have HZb := Lib.hid hZ
                have HKb := Lib.hid hkr
                clear hZ hkr
                by_cases hlm : m < 8
                · have hlm' : (m : Int) < 8 := by omega
                  go_wp2_with (fail)
                  go_loopw [15, 78] (fun s l wr => ∃ n : Nat, n ≤ 8 ∧ l = .int .i64 n ∧ s = .int .i64 0 ∧ Keep none_ wb wr) (fun _ l _ => 8 - (intOf l).toNat)
                  case atStart => exact ⟨0, by decide, rfl, rfl, Keep.refl _ _⟩
                  case round =>
                    obtain ⟨n, hn, rfl, rfl, hkn⟩ := hrel
                    have HKn := Lib.hid hkn
                    clear hkn
                    by_cases hln : n < 8
                    · have hln' : (n : Int) < 8 := by omega
                      obtain ⟨p, hp⟩ : ∃ p : Nat, p = 8 * n + m := ⟨_, rfl⟩
                      have hp64 : p < 64 := by omega
                      have hp64' : (p : Int) < 64 := by omega
                      have e1 : (8 : Int) * (n : Int) + (m : Int) = (p : Int) := by omega
                      obtain ⟨q, x1, q1, q2⟩ : ∃ q, wr.cell? ⟨gm, n * 8 + k, none⟩ = some (.int .i64 q) ∧ -27744 ≤ q ∧ q ≤ 27744 := MAT.out wr ((HKb.out.trans (HKn.out.mono (fun _ e => e.elim)))) n k hln hlk
                      have x2 : wr.cell? ⟨gr, p, none⟩ = some (.int .i64 0) := SRC.out wr (HKb.out.trans (HKn.out.mono (fun _ e => e.elim))) p hp64
                      clear hp
                      have GO := Lib.hid (show Keep none_ wb wr.drew from HKn.out.drew)
                      go_upto_region 38 with (fail)
                      have gd := still_good (wr).drew
                      have ne := still_some (wr).drew
                      have hx := still_at (wr).drew
                      refine wp_region_calm (stillCalm (wr).drew) [0, 1, 2, 3, 4, 5, 6, 7, 8, 9, 10, 11, 12, 13, 14] [] 106 (by kernel_rfl) (by kernel_rfl) rfl gd rfl ?_
                      simp only [pairs, List.filterMap_cons, List.filterMap_nil, List.getElem?_toArray, List.getElem?_cons_succ, List.getElem?_cons_zero, Option.map_some]
                      repeat (refine Calm.walk_quiet ne rfl rfl rfl (fun K hK => ?_); go_big_quiet_op; refine hK _ ?_; clear hK K)
                      intro w' hR _
                      obtain rfl : w' = (wr).drew := hR.symm
                      simp only [pickOps, List.filterMap_nil]
                      clear gd ne hx hR
                      go_wp2
                      go_roundw
                      case rel => exact ⟨n + 1, hln, by go_num, by first | rfl | simp, GO.out⟩
                      case measure => simp [intOf]; omega
                    · obtain rfl : n = 8 := by omega
                      obtain ⟨p, hp⟩ : ∃ p : Nat, p = 8 * k + m := ⟨_, rfl⟩
                      have hp64 : p < 64 := by omega
                      have hp64' : (p : Int) < 64 := by omega
                      have e1 : (8 : Int) * (k : Int) + (m : Int) = (p : Int) := by omega
                      have ZW := Lib.hid (HZb.out.keep HKn.out (fun e => e))
                      have c7 := ZW.out.cell p hp64
                      have z7 := Blk.frozen ZW.out p
                      have ZS := Lib.hid (ZW.out.set_ p)
                      have KS := Lib.hid (show Keep (one gy) w8 (wr.setCell ⟨gy, p, none⟩ (.int .i64 0)) from ((HKb.out.trans (HKn.out.mono (fun _ e => e.elim))).setCell (p := ⟨gy, p, none⟩) (.inl rfl) _))
                      clear hp
                      have tn : True := trivial
                      go_wp2_with (have _t := tn; go_at_call 158; refine (nearest_zero _).mono ?_; rintro e w' ⟨rfl, rfl⟩; clear _t tn)
                      go_roundw
                      case rel => 
                        repeat apply Exists.intro
                        refine ⟨?_, rfl⟩
                        exact ⟨m + 1, hlm, by go_num, ZS.out, KS.out⟩
                      case measure => simp [intOf]; omega
                · obtain rfl : m = 8 := by omega
                  go_wp2
                  go_roundw
                  case rel => exact ⟨k + 1, hlk, by go_num, HZb.out, HKb.out⟩
                  case measure => simp [intOf]; omega
            · obtain rfl : k = 8 := by omega
              clear hlk hk
              have RA := Lib.hid (R8.out.keep HKa.out (fun e => by have := LM.out; have := L2.out; have := LR.out; unfold one at e; omega))
              have KA := Lib.hid (show Keep none_ w wa from K8.out.own HKa.out (by have := LM.out; have := L2.out; have := LR.out; omega))
              have u1 : True := trivial
              have u2 : True := trivial
              have YA := Lib.hid (show Blk wa gy 99 zc from by rw [HZC.out]; exact HZa.out)
              go_wp2_with (first | (have _t := u1; refine wpList_load_blk rfl 99 (.tmp 12) rfl gy 99 _ _ rfl YA.out Tryz.underlying99 rfl (by rw [SZ.out]; kernel_rfl) ?_; go_frame; clear _t u1) | (have _t := u2; refine wpList_store_blk rfl 99 (.tmp 2) (.tmp 105) rfl (w.heap.size + 1) 99 _ _ rfl rfl RA.out rfl (by rw [SZ.out]; kernel_rfl) OZ.out ?_; intro w9 hb8 hk8 hs8; have B9 := Lib.hid hb8; have K9 := Lib.hid hk8; clear hb8 hk8 hs8; go_frame; clear _t u2))
              refine bodyPost_ret (results_cell Tryz.results114 rfl (run_loadVar_blk B9.out Tryz.underlying99 rfl (by rw [SZ.out]; kernel_rfl))) rfl ⟨rfl, KA.out.own K9.out (Nat.le_succ _)⟩
end Go.Proofs.YtebdgoikmclflaaGreatDoor
