/-
  transform.Forward of a block of zeros.
-/
import Derived.Test.YtebdgoikmclflaaGreatDoorEb23
namespace Go.Proofs.YtebdgoikmclflaaGreatDoor
open Go.RowKit

/-- A block of 64 zeros. -/
def ZB (w : World) (b : Nat) (t : TypeId) : Prop := Blk w b t (A64 0)
theorem ZB.cell {w : World} {b : Nat} {t : TypeId} (h : ZB w b t) (k : Nat) (hk : k < 64) : w.cell? ⟨b, k, none⟩ = some (.int .i64 0) := by
  rw [Blk.cell h]
  exact A64_get 0 k hk
theorem rep_set (N k : Nat) (z : Int) : (List.replicate N z).set k z = List.replicate N z := by
  apply List.ext_getElem?
  intro i
  rw [List.getElem?_set]
  by_cases h : k = i
  · subst h
    rw [if_pos rfl, List.length_replicate]
    by_cases h2 : k < N
    · rw [if_pos h2, List.getElem?_replicate, if_pos h2]
    · rw [if_neg h2, List.getElem?_eq_none (by rw [List.length_replicate]; omega)]
  · rw [if_neg h]
theorem A64_set (z : Int) (k : Nat) : (A64 z).setIfInBounds k (.int .i64 z) = A64 z := by
  apply Array.toList_inj.1
  unfold A64
  simp only [Array.toList_setIfInBounds]
  rw [← List.map_set, rep_set]
theorem ZB.set_ {w : World} {b : Nat} {t : TypeId} (h : ZB w b t) (k : Nat) : ZB (w.setCell ⟨b, k, none⟩ (.int .i64 0)) b t := by
  have := Blk.set_ h k (.int .i64 0)
  rw [A64_set] at this
  exact this
theorem ZB.keep {w w' : World} {S : Nat → Prop} {b : Nat} {t : TypeId} (h : ZB w b t) (k : Keep S w w') (hS : ¬ S b) : ZB w' b t := Blk.keep h k hS
set_option maxRecDepth 100000 in
set_option maxHeartbeats 4000000 in
theorem forward_any (w : World) : Calls Tryz.prog 132 #[.agg (A64 0)] w fun e w' => e = .returned (.tuple #[.agg (A64 0), .int .i64 0]) ∧ Keep none_ w w' := by
  obtain ⟨zc, hzc⟩ : ∃ zc, zc = A64 0 := ⟨_, rfl⟩
  have ze : ∀ w, (zeroValue 99).run Tryz.prog w = .ok (.agg zc) w := by rw [hzc, ← A64_zero]; exact fun w => by kernel_rfl
  have zm : ∀ w, (zeroValue 75).run Tryz.prog w = .ok (.agg zc) w := by rw [hzc, ← A64_zero]; exact fun w => by kernel_rfl
  have SZ := Lib.hid (show zc.size = 64 by rw [hzc]; exact A64_size 0)
  have OZ := Lib.hid (show zc.all (·.oneCell') = true by rw [hzc]; exact A64_one 0)
  have GZ := Lib.hid (show ∀ k, k < 64 → zc[k]? = some (.int .i64 0) from fun k hk => by rw [hzc]; exact A64_get 0 k hk)
  rw [← hzc]
  obtain ⟨W0, hW0⟩ : ∃ W0, W0 = (w.alloc (.cells zc 99)).alloc (.cells zc 99) := ⟨_, rfl⟩
  obtain ⟨x0, r0, k0⟩ := two (Keep.eq_ hW0)
  have X0 := Lib.hid x0
  have R0 := Lib.hid r0
  have K0 := Lib.hid k0
  have S0 := Lib.hid (show w.heap.size + 1 < W0.heap.size from (show Blk _ _ _ _ from r0).lt)
  have HZC := Lib.hid hzc
  clear k0 x0 r0 hzc
  have t1 : True := trivial
  go_enter Tryz.func132, Tryz.ntmps132
  go_upto_region 1 with (fail)
  rw [← hW0]
  clear hW0
  go_wp2_with (have _t := t1; refine wpList_load_blk rfl 99 (.tmp 1) rfl w.heap.size 99 _ _ rfl X0.out Tryz.underlying99 rfl (by rw [SZ.out]; kernel_rfl) ?_; go_frame; clear _t t1)
  go_loopw [18] (fun i wr => ∃ k : Nat, k ≤ 64 ∧ i = .int .i64 k ∧ W0 = wr) (fun i _ => 64 - (intOf i).toNat)
  case atStart => exact ⟨0, by decide, rfl, by trivial⟩
  case round =>
   obtain ⟨k, hk, rfl, rfl⟩ := hrel
   by_cases hlt : k < 64
   · have hlt' : (k : Int) < 64 := by omega
     have hc := run_index_i64a zc k _ hlt (GZ.out k hlt)
     go_wp2
     go_roundw
     case rel => exact ⟨k + 1, hlt, by go_num, by trivial⟩
     case measure => simp [intOf]; omega
   · obtain rfl : k = 64 := by omega
     clear hlt hk
     have t2 : True := trivial
     have t3 : True := trivial
     go_upto_region 8 with (first | (have _t := t2; go_at_call 63; refine (matrix_any W0).mono ?_; rintro e w2 ⟨rfl, k2⟩; have KX2 := Lib.hid k2; clear k2 _t t2) | (have _t := t3; refine wpList_store_blk rfl 75 (.tmp 6) (.tmp 29) rfl w2.heap.size 75 _ basV rfl rfl (Blk.new _ _ _) (by rw [SZ.out]; kernel_rfl) (by kernel_rfl) (by kernel_rfl) ?_; intro w3 h5 k5 s5; have M3 := Lib.hid h5; have KX3 := Lib.hid (show Keep none_ w2 w3 from ((Keep.refl none_ w2).alloc _).own k5 (Nat.le_refl _)); clear h5 k5 s5; go_frame; clear _t t3))
     go_upto_region 9 with (fail)
     obtain ⟨w4, hw4⟩ : ∃ w4, w4 = w3.alloc (.cells zc 99) := ⟨_, rfl⟩
     rw [← hw4]
     have k4 : Keep none_ w3 w4 := hw4 ▸ (Keep.refl none_ w3).alloc _
     have Z4 := Lib.hid (show ZB w4 w3.heap.size 99 from by unfold ZB; rw [← HZC.out]; exact hw4 ▸ Blk.new _ _ _)
     have M4 := Lib.hid (M3.out.keep k4 (fun e => e))
     have KY4 := Lib.hid ((KX2.out.trans KX3.out).trans k4)
     have X4 := Lib.hid (show ZB w4 w.heap.size 99 from by unfold ZB; rw [← HZC.out]; exact X0.out.keep KY4.out (fun e => e))
     have R4 := Lib.hid (R0.out.keep KY4.out (fun e => e))
     have K4 := Lib.hid (K0.out.trans KY4.out)
     have LM := Lib.hid (M3.out.lt)
     have L2 := Lib.hid (show w.heap.size + 1 < w2.heap.size from Nat.lt_of_lt_of_le S0.out KX2.out.size)
     clear hw4 k4
     obtain ⟨gm, hgm⟩ : ∃ gm, gm = w2.heap.size := ⟨_, rfl⟩
     obtain ⟨gr, hgr⟩ : ∃ gr, gr = w3.heap.size := ⟨_, rfl⟩
     rw [← hgm] at M4 LM L2 ⊢
     rw [← hgr] at Z4 LM ⊢
     clear hgm hgr M3 KX3 KX2
     have MAT := Lib.hid (show ∀ wy, Keep (one gr) w4 wy → ∀ i j, i < 8 → j < 8 → ∃ q, wy.cell? ⟨gm, i * 8 + j, none⟩ = some (.int .i64 q) ∧ -27744 ≤ q ∧ q ≤ 27744 from fun wy hk i j hi hj => ⟨basOf i j, by rw [(M4.out.keep hk (fun e => by have := LM.out; unfold one at e; omega)).cell]; exact basV_get i j hi hj, by have := bas_bound i j hi hj; omega, by have := bas_bound i j hi hj; omega⟩)
     have SRC := Lib.hid (show ∀ wy, Keep (one gr) w4 wy → ∀ p, p < 64 → wy.cell? ⟨w.heap.size, p, none⟩ = some (.int .i64 0) from fun wy hk p hp => (X4.out.keep hk (fun e => by have := LM.out; have := L2.out; unfold one at e; omega)).cell p hp)
     go_wp2_with (fail)
     go_loopw [30] (fun i wr => ∃ k : Nat, k ≤ 8 ∧ i = .int .i64 k ∧ ZB wr gr 99 ∧ Keep (one gr) w4 wr) (fun i _ => 8 - (intOf i).toNat)
     case atStart => exact ⟨0, by decide, rfl, Z4.out, Keep.refl _ _⟩
     case round =>
       obtain ⟨k, hk, rfl, hZ, hkr⟩ := hrel
       obtain ⟨wa, hwa⟩ : ∃ wa, wa = wr := ⟨_, rfl⟩
       subst hwa
       have HZa := Lib.hid hZ
       have HKa := Lib.hid hkr
       clear hZ hkr
       by_cases hlk : k < 8
       · have hlk' : (k : Int) < 8 := by omega
         go_wp2_with (fail)
         go_loopw [33] (fun j wr => ∃ m : Nat, m ≤ 8 ∧ j = .int .i64 m ∧ ZB wr gr 99 ∧ Keep (one gr) w4 wr) (fun j _ => 8 - (intOf j).toNat)
         case atStart => exact ⟨0, by decide, rfl, HZa.out, HKa.out⟩
         case round =>
           obtain ⟨m, hm, rfl, hZ, hkr⟩ := hrel
           obtain ⟨wb, hwb⟩ : ∃ wb, wb = wr := ⟨_, rfl⟩
           subst hwb
           have HZb := Lib.hid hZ
           have HKb := Lib.hid hkr
           clear hZ hkr
           by_cases hlm : m < 8
           · have hlm' : (m : Int) < 8 := by omega
             go_wp2_with (fail)
             go_loopw [10, 36] (fun s l wr => ∃ n : Nat, n ≤ 8 ∧ l = .int .i64 n ∧ s = .int .i64 0 ∧ Keep none_ wb wr) (fun _ l _ => 8 - (intOf l).toNat)
             case atStart => exact ⟨0, by decide, rfl, rfl, Keep.refl _ _⟩
             case round =>
               obtain ⟨n, hn, rfl, rfl, hkn⟩ := hrel
               have HKn := Lib.hid hkn
               clear hkn
               by_cases hln : n < 8
               · have hln' : (n : Int) < 8 := by omega
                 obtain ⟨p, hp⟩ : ∃ p : Nat, p = 8 * k + n := ⟨_, rfl⟩
                 have hp64 : p < 64 := by omega
                 have hp64' : (p : Int) < 64 := by omega
                 have e1 : (8 : Int) * (k : Int) + (n : Int) = (p : Int) := by omega
                 obtain ⟨q, x1, q1, q2⟩ : ∃ q, wr.cell? ⟨gm, m * 8 + n, none⟩ = some (.int .i64 q) ∧ -27744 ≤ q ∧ q ≤ 27744 := MAT.out wr ((HKb.out.trans (HKn.out.mono (fun _ e => e.elim)))) m n hlm hln
                 have x2 : wr.cell? ⟨w.heap.size, p, none⟩ = some (.int .i64 0) := SRC.out wr (HKb.out.trans (HKn.out.mono (fun _ e => e.elim))) p hp64
                 clear hp
                 have GO := Lib.hid (show Keep none_ wb wr.drew from HKn.out.drew)
                 go_upto_region 19 with (fail)
                 have gd := still_good (wr).drew
                 have ne := still_some (wr).drew
                 have hx := still_at (wr).drew
                 refine wp_region_calm (stillCalm (wr).drew) [0, 1, 2, 3, 4, 5, 6, 7, 8, 9, 10, 11, 12, 13, 14] [] 95 (by kernel_rfl) (by kernel_rfl) rfl gd rfl ?_
                 simp only [pairs, List.filterMap_cons, List.filterMap_nil, List.getElem?_toArray, List.getElem?_cons_succ, List.getElem?_cons_zero, Option.map_some]
                 repeat (refine Calm.walk_quiet ne rfl rfl rfl (fun K hK => ?_); go_big_quiet_op; refine hK _ ?_; clear hK K)
                 intro w' hR _
                 obtain rfl : w' = (wr).drew := hR.symm
                 simp only [pickOps, List.filterMap_nil]
                 clear gd ne hx hR
                 go_wp2
                 go_roundw
                 case rel => exact ⟨n + 1, hln, by go_num, by first | rfl | simp, GO.out⟩
                 case measure => simp [intOf]; omega
               · obtain rfl : n = 8 := by omega
                 obtain ⟨p, hp⟩ : ∃ p : Nat, p = 8 * k + m := ⟨_, rfl⟩
                 have hp64 : p < 64 := by omega
                 have hp64' : (p : Int) < 64 := by omega
                 have e1 : (8 : Int) * (k : Int) + (m : Int) = (p : Int) := by omega
                 have ZW := Lib.hid (HZb.out.keep HKn.out (fun e => e))
                 have c7 := ZW.out.cell p hp64
                 have z7 := Blk.frozen ZW.out p
                 have ZS := Lib.hid (ZW.out.set_ p)
                 have KS := Lib.hid (show Keep (one gr) w4 (wr.setCell ⟨gr, p, none⟩ (.int .i64 0)) from ((HKb.out.trans (HKn.out.mono (fun _ e => e.elim))).setCell (p := ⟨gr, p, none⟩) (.inl rfl) _))
                 clear hp
                 go_wp2
                 go_roundw
                 case rel => exact ⟨m + 1, hlm, by go_num, ZS.out, KS.out⟩
                 case measure => simp [intOf]; omega
           · obtain rfl : m = 8 := by omega
             go_wp2
             go_roundw
             case rel => exact ⟨k + 1, hlk, by go_num, HZb.out, HKb.out⟩
             case measure => simp [intOf]; omega
       · obtain rfl : k = 8 := by omega
         clear hlk hk
         have Z5 := HZa
         have M5 := Lib.hid (M4.out.keep HKa.out (fun e => by have := LM.out; unfold one at e; omega))
         have R5 := Lib.hid (R4.out.keep HKa.out (fun e => by have := LM.out; have := L2.out; unfold one at e; omega))
         have K5 := Lib.hid (show Keep none_ w wa from K4.out.own HKa.out (by have := LM.out; have := L2.out; omega))
         have LR := Lib.hid (show gr < wa.heap.size from (show Blk _ _ _ _ from HZa.out).lt)
         clear MAT SRC HKa M4 R4 K4 X4 KY4
         go_upto_region 25 with (fail)
         obtain ⟨w6, hw6⟩ : ∃ w6, w6 = wa.alloc (.cells zc 99) := ⟨_, rfl⟩
         rw [← hw6]
         have k6 : Keep none_ wa w6 := hw6 ▸ (Keep.refl none_ wa).alloc _
         have Z6 := Lib.hid (show ZB w6 wa.heap.size 99 from by unfold ZB; rw [← HZC.out]; exact hw6 ▸ Blk.new _ _ _)
         have M6 := Lib.hid (M5.out.keep k6 (fun e => e))
         have X6 := Lib.hid (HZa.out.keep k6 (fun e => e))
         have R6 := Lib.hid (R5.out.keep k6 (fun e => e))
         have K6 := Lib.hid (K5.out.trans k6)
         clear hw6 k6
         obtain ⟨gy, hgy⟩ : ∃ gy, gy = wa.heap.size := ⟨_, rfl⟩
         rw [← hgy] at Z6 LR ⊢
         clear hgy
         have MAT := Lib.hid (show ∀ wy, Keep (one gy) w6 wy → ∀ i j, i < 8 → j < 8 → ∃ q, wy.cell? ⟨gm, i * 8 + j, none⟩ = some (.int .i64 q) ∧ -27744 ≤ q ∧ q ≤ 27744 from fun wy hk i j hi hj => ⟨basOf i j, by rw [(M6.out.keep hk (fun e => by have := LM.out; have := LR.out; unfold one at e; omega)).cell]; exact basV_get i j hi hj, by have := bas_bound i j hi hj; omega, by have := bas_bound i j hi hj; omega⟩)
         have SRC := Lib.hid (show ∀ wy, Keep (one gy) w6 wy → ∀ p, p < 64 → wy.cell? ⟨gr, p, none⟩ = some (.int .i64 0) from fun wy hk p hp => (X6.out.keep hk (fun e => by have := LR.out; unfold one at e; omega)).cell p hp)
         clear HZa Z5 M5 R5 K5
         go_wp2_with (fail)
         go_loopw [62] (fun i wr => ∃ k : Nat, k ≤ 8 ∧ i = .int .i64 k ∧ ZB wr gy 99 ∧ Keep (one gy) w6 wr) (fun i _ => 8 - (intOf i).toNat)
         case atStart => exact ⟨0, by decide, rfl, Z6.out, Keep.refl _ _⟩
         case round =>
           obtain ⟨k, hk, rfl, hZ, hkr⟩ := hrel
           obtain ⟨wa, hwa⟩ : ∃ wa, wa = wr := ⟨_, rfl⟩
           subst hwa
           have HZa := Lib.hid hZ
           have HKa := Lib.hid hkr
           clear hZ hkr
           by_cases hlk : k < 8
           · have hlk' : (k : Int) < 8 := by omega
             go_wp2_with (fail)
             go_loopw [65] (fun j wr => ∃ m : Nat, m ≤ 8 ∧ j = .int .i64 m ∧ ZB wr gy 99 ∧ Keep (one gy) w6 wr) (fun j _ => 8 - (intOf j).toNat)
             case atStart => exact ⟨0, by decide, rfl, HZa.out, HKa.out⟩
             case round =>
               obtain ⟨m, hm, rfl, hZ, hkr⟩ := hrel
               obtain ⟨wb, hwb⟩ : ∃ wb, wb = wr := ⟨_, rfl⟩
               subst hwb
               have HZb := Lib.hid hZ
               have HKb := Lib.hid hkr
               clear hZ hkr
               by_cases hlm : m < 8
               · have hlm' : (m : Int) < 8 := by omega
                 go_wp2_with (fail)
                 go_loopw [15, 68] (fun s l wr => ∃ n : Nat, n ≤ 8 ∧ l = .int .i64 n ∧ s = .int .i64 0 ∧ Keep none_ wb wr) (fun _ l _ => 8 - (intOf l).toNat)
                 case atStart => exact ⟨0, by decide, rfl, rfl, Keep.refl _ _⟩
                 case round =>
                   obtain ⟨n, hn, rfl, rfl, hkn⟩ := hrel
                   have HKn := Lib.hid hkn
                   clear hkn
                   by_cases hln : n < 8
                   · have hln' : (n : Int) < 8 := by omega
                     obtain ⟨p, hp⟩ : ∃ p : Nat, p = 8 * n + m := ⟨_, rfl⟩
                     have hp64 : p < 64 := by omega
                     have hp64' : (p : Int) < 64 := by omega
                     have e1 : (8 : Int) * (n : Int) + (m : Int) = (p : Int) := by omega
                     obtain ⟨q, x1, q1, q2⟩ : ∃ q, wr.cell? ⟨gm, k * 8 + n, none⟩ = some (.int .i64 q) ∧ -27744 ≤ q ∧ q ≤ 27744 := MAT.out wr ((HKb.out.trans (HKn.out.mono (fun _ e => e.elim)))) k n hlk hln
                     have x2 : wr.cell? ⟨gr, p, none⟩ = some (.int .i64 0) := SRC.out wr (HKb.out.trans (HKn.out.mono (fun _ e => e.elim))) p hp64
                     clear hp
                     have GO := Lib.hid (show Keep none_ wb wr.drew from HKn.out.drew)
                     go_upto_region 35 with (fail)
                     have gd := still_good (wr).drew
                     have ne := still_some (wr).drew
                     have hx := still_at (wr).drew
                     refine wp_region_calm (stillCalm (wr).drew) [0, 1, 2, 3, 4, 5, 6, 7, 8, 9, 10, 11, 12, 13, 14] [] 95 (by kernel_rfl) (by kernel_rfl) rfl gd rfl ?_
                     simp only [pairs, List.filterMap_cons, List.filterMap_nil, List.getElem?_toArray, List.getElem?_cons_succ, List.getElem?_cons_zero, Option.map_some]
                     repeat (refine Calm.walk_quiet ne rfl rfl rfl (fun K hK => ?_); go_big_quiet_op; refine hK _ ?_; clear hK K)
                     intro w' hR _
                     obtain rfl : w' = (wr).drew := hR.symm
                     simp only [pickOps, List.filterMap_nil]
                     clear gd ne hx hR
                     go_wp2
                     go_roundw
                     case rel => exact ⟨n + 1, hln, by go_num, by first | rfl | simp, GO.out⟩
                     case measure => simp [intOf]; omega
                   · obtain rfl : n = 8 := by omega
                     obtain ⟨p, hp⟩ : ∃ p : Nat, p = 8 * k + m := ⟨_, rfl⟩
                     have hp64 : p < 64 := by omega
                     have hp64' : (p : Int) < 64 := by omega
                     have e1 : (8 : Int) * (k : Int) + (m : Int) = (p : Int) := by omega
                     have ZW := Lib.hid (HZb.out.keep HKn.out (fun e => e))
                     have c7 := ZW.out.cell p hp64
                     have z7 := Blk.frozen ZW.out p
                     have ZS := Lib.hid (ZW.out.set_ p)
                     have KS := Lib.hid (show Keep (one gy) w6 (wr.setCell ⟨gy, p, none⟩ (.int .i64 0)) from ((HKb.out.trans (HKn.out.mono (fun _ e => e.elim))).setCell (p := ⟨gy, p, none⟩) (.inl rfl) _))
                     clear hp
                     go_wp2
                     go_roundw
                     case rel => exact ⟨m + 1, hlm, by go_num, ZS.out, KS.out⟩
                     case measure => simp [intOf]; omega
               · obtain rfl : m = 8 := by omega
                 go_wp2
                 go_roundw
                 case rel => exact ⟨k + 1, hlk, by go_num, HZb.out, HKb.out⟩
                 case measure => simp [intOf]; omega
           · obtain rfl : k = 8 := by omega
             clear hlk hk
             have RA := Lib.hid (R6.out.keep HKa.out (fun e => by have := LM.out; have := L2.out; have := LR.out; unfold one at e; omega))
             have KA := Lib.hid (show Keep none_ w wa from K6.out.own HKa.out (by have := LM.out; have := L2.out; have := LR.out; omega))
             have u1 : True := trivial
             have u2 : True := trivial
             have YA := Lib.hid (show Blk wa gy 99 zc from by rw [HZC.out]; exact HZa.out)
             go_wp2_with (first | (have _t := u1; refine wpList_load_blk rfl 99 (.tmp 12) rfl gy 99 _ _ rfl YA.out Tryz.underlying99 rfl (by rw [SZ.out]; kernel_rfl) ?_; go_frame; clear _t u1) | (have _t := u2; refine wpList_store_blk rfl 99 (.tmp 2) (.tmp 94) rfl (w.heap.size + 1) 99 _ _ rfl rfl RA.out rfl (by rw [SZ.out]; kernel_rfl) OZ.out ?_; intro w8 hb8 hk8 hs8; have B8 := Lib.hid hb8; have K8 := Lib.hid hk8; clear hb8 hk8 hs8; go_frame; clear _t u2))
             refine bodyPost_ret (results_cell_tmp' Tryz.results132 rfl (run_loadVar_blk B8.out Tryz.underlying99 rfl (by rw [SZ.out]; kernel_rfl))) rfl ⟨rfl, KA.out.own K8.out (Nat.le_succ _)⟩
end Go.Proofs.YtebdgoikmclflaaGreatDoor
