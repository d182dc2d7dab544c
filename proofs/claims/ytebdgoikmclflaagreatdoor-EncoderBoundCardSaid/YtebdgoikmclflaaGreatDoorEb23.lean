/-
  plane.SetBlock of a block of one number into a frame of the same number.
-/
import Derived.Test.YtebdgoikmclflaaGreatDoorEb22
namespace Go.Proofs.YtebdgoikmclflaaGreatDoor
open Go.RowKit

/-- Calls whose values are known, which may change the blocks S and keep F, in a region that draws its order. -/
def mutCalm (wr : World) (ks : List Nat) (S : Nat → Prop) (F : World → Prop) (us : Nat → Value) : Calm where
  R := fun _ => Keep S
  G := fun _ y => Keep S wr y ∧ F y
  eff := ks
  T := fun k _ v _ => v = us k
  anc := fun _ => []
  own := fun _ _ _ => False
theorem mutCalm_good {wr : World} {ks : List Nat} {S : Nat → Prop} {F : World → Prop} {us : Nat → Value} : (mutCalm wr ks S F us).Good :=
  ⟨fun _ _ h => h, fun _ _ _ h => h.size, fun _ _ _ _ _ _ _ _ h _ => h⟩
theorem mutCalm_at {wr : World} {ks : List Nat} {S : Nat → Prop} {F : World → Prop} {us : Nat → Value} (x : (mutCalm wr ks S F us).Sub) : Keep S wr ((mutCalm wr ks S F us).at_ x) := by
  obtain ⟨x, n, _, h⟩ := x
  exact h.1
theorem mutCalm_some {wr : World} {ks : List Nat} {S : Nat → Prop} {F : World → Prop} {us : Nat → Value} (h : F wr) : Nonempty (mutCalm wr ks S F us).Sub := ⟨⟨wr, 0, Nat.zero_le _, Keep.refl _ _, h⟩⟩
theorem run_index_i64a (cs : Array Value) (k : Nat) (u : Value) (hk : k < 64) (hc : cs[k]? = some u) (w : World) : (Instr.index 99 (.agg cs) (.int .i64 (k : Int))).run Tryz.prog w = .ok u w := by
  have hs : (sizeOf 3).run Tryz.prog w = .ok 1 w := by kernel_rfl
  simp [Instr.index, run_underlying Tryz.underlying99, asIntOf, go_sem, part, hs, hc]
  omega
theorem pasteB' (z : Int) (bd bs : Nat) (w : World) (hd : ByteBlk w bd (List.replicate 64 z)) (hs : ByteBlk w bs (List.replicate 64 z)) (hz : 0 ≤ z ∧ z ≤ 255) (hne : bs ≠ bd) : Calls Tryz.prog 83 #[.slice (some ⟨bd, 0, none⟩) 64 64, .agg #[.int .i64 0, .int .i64 8, .int .i64 8, .int .i64 8], .slice (some ⟨bs, 0, none⟩) 64 64] w fun e w' => e = .returned (.tuple #[]) ∧ ByteBlk w' bd (List.replicate 64 z) ∧ Keep (one bd) w w' := pasteB z z bd bs w hd hs hz hne
set_option maxRecDepth 100000 in
set_option maxHeartbeats 2000000 in
theorem setblock0 (z : Int) (hz : 0 ≤ z ∧ z ≤ 255) (A1 A2 A3 : Option Addr) (c1 c2 c3 : Nat) (w : World) (hf : FrC w z A1 A2 A3 c1 c2 c3) : Calls Tryz.prog 115 #[.agg #[.int .i64 16, .int .i64 16, .slice A1 256 c1, .slice A2 64 c2, .slice A3 64 c3], .int .i64 0, .int .i64 0, .int .i64 0, .bool false, .agg (A64 z)] w fun e w' => ∃ b1 b2 b3, e = .returned (.tuple #[.agg #[.int .i64 16, .int .i64 16, .slice (some ⟨b1, 0, none⟩) 256 256, .slice (some ⟨b2, 0, none⟩) 64 64, .slice (some ⟨b3, 0, none⟩) 64 64], .int .i64 0]) ∧ NewFr w' w.heap.size z b1 b2 b3 ∧ Keep none_ w w' := by
  obtain ⟨ac, hac⟩ : ∃ ac, ac = A64 z := ⟨_, rfl⟩
  have AS := Lib.hid (show ac.size = 64 by rw [hac]; exact A64_size z)
  have AG := Lib.hid (show ∀ k, k < 64 → ac[k]? = some (.int .i64 z) from fun k hk => by rw [hac]; exact A64_get z k hk)
  rw [← hac]
  clear hac
  have mk : ∀ w, (Instr.makeSlice 30 (.int .i64 64) (.int .i64 64)).run Tryz.prog w = .ok (.slice (some ⟨w.heap.size, 0, none⟩) 64 64) (w.alloc (.cells (madeCells #[.int .u8 0] 64) 5)) := mk_u8 64 (by decide)
  obtain ⟨W0, hW0⟩ : ∃ W0, W0 = ((w.alloc (.cells #[.int .i64 16, .int .i64 16, .slice A1 256 c1, .slice A2 64 c2, .slice A3 64 c3] 32)).alloc (.cells ac 99)).alloc (.cells #[.int .i64 0, .int .i64 0, .slice none 0 0, .slice none 0 0, .slice none 0 0] 32) := ⟨_, rfl⟩
  obtain ⟨f0, a0, r0, k0⟩ := three (Keep.eq_ hW0)
  have HF := Lib.hid (hf.keep k0)
  have F0 := Lib.hid f0
  have A0 := Lib.hid a0
  have R0 := Lib.hid r0
  have K0 := Lib.hid k0
  have S0 := Lib.hid (show w.heap.size + 1 + 1 < W0.heap.size from (show Blk _ _ _ _ from r0).lt)
  have HZ := Lib.hid hz
  clear k0 f0 a0 r0 hf hz
  have t1 : True := trivial
  have t2 : True := trivial
  go_enter Tryz.func115, Tryz.ntmps115
  go_upto_region 1 with (fail)
  rw [← hW0]
  clear hW0
  go_upto_region 3 with (first | (have _t := t1; refine wpList_load_blk rfl 32 (.tmp 6) rfl w.heap.size 32 _ _ rfl F0.out Tryz.underlying32 rfl (by kernel_rfl) ?_; go_frame; clear _t t1) | (have _t := t2; go_at_call 80; refine (has_any A1 A2 A3 c1 c2 c3 W0).mono ?_; rintro e w2 ⟨rfl, k2⟩; have F2 := Lib.hid (F0.out.keep k2 (fun e => e)); have A2' := Lib.hid (A0.out.keep k2 (fun e => e)); have R2 := Lib.hid (R0.out.keep k2 (fun e => e)); have HF2 := Lib.hid (HF.out.keep k2); have K2 := Lib.hid (K0.out.trans k2); have S2 := Lib.hid (Nat.lt_of_lt_of_le S0.out k2.size); clear k2 _t t2))
  go_upto_region 4 with (fail)
  obtain ⟨w3, hw3⟩ : ∃ w3, w3 = w2.alloc (.cells (madeCells #[.int .u8 0] 64) 5) := ⟨_, rfl⟩
  rw [← hw3]
  have k3 : Keep none_ w2 w3 := hw3 ▸ (Keep.refl none_ w2).alloc _
  have X3 := Lib.hid (show ByteBlk w3 w2.heap.size (mixL 64 0 0 z) by rw [mixL_zero]; exact ByteBlk.made w3 64 _ (hw3 ▸ Blk.new _ _ _))
  have A3' := Lib.hid (A2'.out.keep k3 (fun e => e))
  have KX3 := Lib.hid k3
  clear hw3 k3
  have t3 : True := trivial
  go_upto_region 5 with (have _t := t3; refine wpList_load_blk rfl 99 (.tmp 11) rfl (w.heap.size + 1) 99 _ _ rfl A3'.out Tryz.underlying99 rfl (by rw [AS.out]; kernel_rfl) ?_; go_frame; clear _t t3)
  go_loopw [34] (fun i wr => ∃ k : Nat, k ≤ 64 ∧ i = .int .i64 k ∧ ByteBlk wr w2.heap.size (mixL 64 k 0 z) ∧ Keep (one w2.heap.size) w3 wr) (fun i _ => 64 - (intOf i).toNat)
  case atStart => exact ⟨0, by decide, rfl, X3.out, Keep.refl _ _⟩
  case round =>
    obtain ⟨k, hk, rfl, hX, hkr⟩ := hrel
    have HX := Lib.hid hX
    have HK := Lib.hid hkr
    clear hX hkr
    by_cases hlt : k < 64
    · have hlt' : (k : Int) < 64 := by omega
      have hc := run_index_i64a ac k _ hlt (AG.out k hlt)
      have c7 := HX.out.cell (k := k) (by rw [mixL_length (by omega)]; exact hlt)
      have z7 := Blk.frozen HX.out.1 k
      have XS := Lib.hid (show ByteBlk (wr.setCell ⟨w2.heap.size, k, none⟩ (.int .u8 z)) w2.heap.size (mixL 64 (k + 1) 0 z) from by have h := HX.out.set_ k HZ.out; rw [mixL_set hlt] at h; exact h)
      have KS := Lib.hid (show Keep (one w2.heap.size) w3 (wr.setCell ⟨w2.heap.size, k, none⟩ (.int .u8 z)) from HK.out.setCell (p := ⟨w2.heap.size, k, none⟩) (.inl rfl) _)
      obtain ⟨z1, z2⟩ := HZ.out
      generalize (mixL 64 k 0 z)[k]'_ = q at c7
      go_wp2
      go_roundw
      case rel => exact ⟨k + 1, hlt, by go_num, XS.out, KS.out⟩
      case measure => simp [intOf]; omega
    · obtain rfl : k = 64 := by omega
      have X5 := Lib.hid (show ByteBlk wr w2.heap.size (List.replicate 64 z) from by have h := HX.out; rw [mixL_all] at h; exact h)
      have ne2 : ∀ b, b ≠ w2.heap.size → ¬ one w2.heap.size b := fun b h e => h e
      have KW := Lib.hid (show Keep none_ w2 wr from KX3.out.own HK.out (Nat.le_refl _))
      have F5 := Lib.hid (F2.out.keep KW.out (fun e => e))
      have R5 := Lib.hid (R2.out.keep KW.out (fun e => e))
      have HF5 := Lib.hid (HF2.out.keep KW.out)
      have K5 := Lib.hid (K2.out.trans KW.out)
      clear hlt hk HX HK ne2
      have u1 : True := trivial
      have u2 : True := trivial
      have u3 : True := trivial
      go_upto_region 10 with (first | (have _t := u1; refine wpList_load_blk rfl 32 (.tmp 6) rfl w.heap.size 32 _ _ rfl F5.out Tryz.underlying32 rfl (by kernel_rfl) ?_; go_frame; clear _t u1) | (have _t := u2; go_at_call 81; refine (clone_any z A1 A2 A3 c1 c2 c3 wr HF5.out).mono ?_; rintro e w6 ⟨b1, b2, b3, rfl, hn, k4⟩; have HN6 := Lib.hid hn; have KX6 := Lib.hid k4; clear hn k4 _t u2) | (have _t := u3; refine wpList_store_blk rfl 32 (.tmp 17) (.tmp 47) rfl w6.heap.size 32 _ #[.int .i64 16, .int .i64 16, .slice (some ⟨b1, 0, none⟩) 256 256, .slice (some ⟨b2, 0, none⟩) 64 64, .slice (some ⟨b3, 0, none⟩) 64 64] rfl rfl (Blk.new _ _ _) rfl (by kernel_rfl) (by simp [Value.oneCell']) ?_; intro w7 h5 k5 s5; have O7 := Lib.hid h5; have KX7 := Lib.hid (show Keep none_ w6 w7 from ((Keep.refl none_ w6).alloc _).own k5 (Nat.le_refl _)); clear h5 k5 s5; go_frame; clear _t u3))
      have KY7 := Lib.hid (KX6.out.trans KX7.out)
      have F7 := Lib.hid (F5.out.keep KY7.out (fun e => e))
      have R7 := Lib.hid (R5.out.keep KY7.out (fun e => e))
      have X7 := Lib.hid (X5.out.keep KY7.out (fun e => e))
      have NF := Lib.hid (HN6.out.keep0 KX7.out)
      have K7 := Lib.hid (K5.out.trans KY7.out)
      have LS := Lib.hid (Blk.lt' X5.out)
      have LW := Lib.hid (show w.heap.size + 1 + 1 < wr.heap.size from Nat.lt_of_lt_of_le S2.out KW.out.size)
      have LB := Lib.hid (show b1 < w6.heap.size ∧ b2 < w6.heap.size ∧ b3 < w6.heap.size from ⟨Blk.lt' HN6.out.y, Blk.lt' HN6.out.u, Blk.lt' HN6.out.v⟩)
      clear F5 R5 HF5 K5 HN6
      have NE := Lib.hid (show w2.heap.size ≠ b1 ∧ w.heap.size ≠ b1 ∧ w.heap.size + 1 + 1 ≠ b1 ∧ w6.heap.size ≠ b1 from by
        have h1 := NF.out.l1; have h2 := NF.out.l2; have h3 := NF.out.l3; have h4 := LS.out; have h5 := LW.out; obtain ⟨h6, h7, h8⟩ := LB.out
        omega)
      obtain ⟨us, hus⟩ : ∃ us : Nat → Value, us = fun k => if k = 2 then .slice (some ⟨b1, 0, none⟩) 256 256 else if k = 9 then .agg #[.int .i64 0, .int .i64 16, .int .i64 8, .int .i64 8] else .tuple #[] := ⟨_, rfl⟩
      have US := Lib.hid hus
      clear hus
      obtain ⟨F, hF⟩ : ∃ F : World → Prop, F = fun y => ByteBlk y b1 (List.replicate 256 z) := ⟨_, rfl⟩
      have HFF := Lib.hid hF
      clear hF
      have gd : (mutCalm w7 [2, 9, 11] (one b1) F us).Good := mutCalm_good
      have hst : F w7.drew := by rw [HFF.out]; exact NF.out.y.keep (Keep.refl none_ _).drew (fun e => e)
      have ne : Nonempty (mutCalm w7 [2, 9, 11] (one b1) F us).Sub := mutCalm_some (by rw [HFF.out]; exact NF.out.y)
      have x0 : ∀ y : (mutCalm w7 [2, 9, 11] (one b1) F us).Sub, ((mutCalm w7 [2, 9, 11] (one b1) F us).at_ y).cell? ⟨w.heap.size, 0, none⟩ = some (.int .i64 16) := fun y => (mutCalm_at y).cell (F7.out.cell 0) (one_ne NE.out.2.1)
      have xl : ∀ y : (mutCalm w7 [2, 9, 11] (one b1) F us).Sub, ((mutCalm w7 [2, 9, 11] (one b1) F us).at_ y).rangeAt w6.heap.size 0 #[.int .i64 16, .int .i64 16, .slice (some ⟨b1, 0, none⟩) 256 256, .slice (some ⟨b2, 0, none⟩) 64 64, .slice (some ⟨b3, 0, none⟩) 64 64].toList := fun y => (O7.out.keep (mutCalm_at y) (one_ne NE.out.2.2.2)).rangeAt
      refine wp_region_calm (mutCalm w7 [2, 9, 11] (one b1) F us) [0, 1, 2, 3, 4, 5, 6, 7, 8, 9, 10, 11] [] 61 (by kernel_rfl) (by kernel_rfl) rfl gd ⟨(Keep.refl _ _).drew, hst⟩ ?_
      simp only [pairs, List.filterMap_cons, List.filterMap_nil, List.getElem?_toArray, List.getElem?_cons_succ, List.getElem?_cons_zero, Option.map_some]
      refine Calm.walk_load 32 (.tmp 17) rfl ne rfl rfl w6.heap.size 0 rfl #[.int .i64 16, .int .i64 16, .slice (some ⟨b1, 0, none⟩) 256 256, .slice (some ⟨b2, 0, none⟩) 64 64, .slice (some ⟨b3, 0, none⟩) 64 64] _ xl Tryz.underlying32 rfl (by kernel_rfl) ?_
      go_frame
      repeat (refine Calm.walk_quiet ne rfl rfl rfl (fun K hK => ?_); go_big_quiet_op; refine hK _ ?_; clear hK K)
      refine Calm.walk_eff rfl rfl (fun n wy _ hR _ => ?_) ?_
      · obtain ⟨hR1, hF⟩ := hR
        unfold gives
        go_simp
        refine (component_any 0 (by decide) (some ⟨b1, 0, none⟩) (some ⟨b2, 0, none⟩) (some ⟨b3, 0, none⟩) 256 64 64 wy).mono ?_
        rintro e wz ⟨he, hk⟩
        rw [HFF.out] at hF
        exact ⟨.slice (some ⟨b1, 0, none⟩) 256 256, he, (by show _ = us _; rw [US.out]; rfl), hk.weak, ⟨hR1.trans hk.weak, by rw [HFF.out]; exact hF.keep hk (fun e => e)⟩, fun _ h => h.elim⟩
      intro v wy hv
      obtain rfl : v = .slice (some ⟨b1, 0, none⟩) 256 256 := by have h : v = us 2 := hv; rw [US.out] at h; exact h
      clear wy hv
      go_frame
      repeat (refine Calm.walk_quiet ne rfl rfl rfl (fun K hK => ?_); go_big_quiet_op; refine hK _ ?_; clear hK K)
      refine Calm.walk_eff rfl rfl (fun n wy _ hR _ => ?_) ?_
      · obtain ⟨hR1, hF⟩ := hR
        unfold gives
        go_simp
        refine (place_any 0 (by decide) wy).mono ?_
        rintro e wz ⟨he, hk⟩
        rw [HFF.out] at hF
        exact ⟨.agg #[.int .i64 0, .int .i64 16, .int .i64 8, .int .i64 8], he, (by show _ = us _; rw [US.out]; rfl), hk.weak, ⟨hR1.trans hk.weak, by rw [HFF.out]; exact hF.keep hk (fun e => e)⟩, fun _ h => h.elim⟩
      intro v wy hv
      obtain rfl : v = .agg #[.int .i64 0, .int .i64 16, .int .i64 8, .int .i64 8] := by have h : v = us 9 := hv; rw [US.out] at h; exact h
      clear wy hv
      go_frame
      repeat (refine Calm.walk_quiet ne rfl rfl rfl (fun K hK => ?_); go_big_quiet_op; refine hK _ ?_; clear hK K)
      refine Calm.walk_eff rfl rfl (fun n wy _ hR _ => ?_) ?_
      · obtain ⟨hR1, hF⟩ := hR
        rw [HFF.out] at hF
        unfold gives
        go_simp
        refine (paste0 z b1 w2.heap.size wy hF (X7.out.keep hR1 (one_ne NE.out.1)) HZ.out NE.out.1).mono ?_
        rintro e wz ⟨rfl, hp, hk⟩
        exact ⟨_, rfl, (by show _ = us _; rw [US.out]; rfl), hk, ⟨hR1.trans hk, by rw [HFF.out]; exact hp⟩, fun _ h => h.elim⟩
      intro v wy hv
      obtain rfl : v = .tuple #[] := by have h : v = us 11 := hv; rw [US.out] at h; exact h
      clear wy hv
      go_frame
      intro w8 hG hD
      obtain ⟨hR', hF⟩ := hG
      rw [HFF.out] at hF
      have N8 := Lib.hid (show NewFr w8 wr.heap.size z b1 b2 b3 from ⟨hF, NF.out.u.keep hR' (one_ne (Ne.symm NF.out.yu)), NF.out.v.keep hR' (one_ne (Ne.symm NF.out.yv)), NF.out.yu, NF.out.yv, NF.out.uv, NF.out.l1, NF.out.l2, NF.out.l3⟩)
      have O8 := Lib.hid (O7.out.keep hR' (one_ne NE.out.2.2.2))
      have R8 := Lib.hid (R7.out.keep hR' (one_ne NE.out.2.2.1))
      have K8 := Lib.hid (K7.out.own hR' (show w.heap.size ≤ b1 from by have h1 := NF.out.l1; have h2 := NF.out.l2; have h3 := NF.out.l3; have h5 := LW.out; omega))
      clear hR' hF hD gd ne hst x0 xl US HFF
      simp only [pickOps, List.filterMap_nil]
      have v1 : True := trivial
      have v2 : True := trivial
      go_wp2_with (first | (have _t := v1; refine wpList_load_blk rfl 32 (.tmp 17) rfl w6.heap.size 32 _ _ rfl O8.out Tryz.underlying32 rfl (by kernel_rfl) ?_; go_frame; clear _t v1) | (have _t := v2; refine wpList_store_blk rfl 32 (.tmp 12) (.tmp 60) rfl (w.heap.size + 1 + 1) 32 _ _ rfl rfl R8.out rfl (by kernel_rfl) (by simp [Value.oneCell']) ?_; intro w12 hb12 hk12 hs12; have B12 := Lib.hid hb12; have K12 := Lib.hid hk12; clear hb12 hk12 hs12; go_frame; clear _t v2))
      have hh := N8.out
      have l5 := LW.out
      have l1 := hh.l1
      have l2 := hh.l2
      have l3 := hh.l3
      refine bodyPost_ret (results_cell_tmp' Tryz.results115 rfl (run_loadVar_blk B12.out Tryz.underlying32 rfl (by kernel_rfl))) rfl ⟨b1, b2, b3, rfl, (hh.keep K12.out (one_ne (by omega)) (one_ne (by omega)) (one_ne (by omega))).low (by omega), K8.out.own K12.out (by omega)⟩
set_option maxRecDepth 100000 in
set_option maxHeartbeats 2000000 in
theorem setblock1 (z : Int) (hz : 0 ≤ z ∧ z ≤ 255) (A1 A2 A3 : Option Addr) (c1 c2 c3 : Nat) (w : World) (hf : FrC w z A1 A2 A3 c1 c2 c3) : Calls Tryz.prog 115 #[.agg #[.int .i64 16, .int .i64 16, .slice A1 256 c1, .slice A2 64 c2, .slice A3 64 c3], .int .i64 0, .int .i64 0, .int .i64 1, .bool false, .agg (A64 z)] w fun e w' => ∃ b1 b2 b3, e = .returned (.tuple #[.agg #[.int .i64 16, .int .i64 16, .slice (some ⟨b1, 0, none⟩) 256 256, .slice (some ⟨b2, 0, none⟩) 64 64, .slice (some ⟨b3, 0, none⟩) 64 64], .int .i64 0]) ∧ NewFr w' w.heap.size z b1 b2 b3 ∧ Keep none_ w w' := by
  obtain ⟨ac, hac⟩ : ∃ ac, ac = A64 z := ⟨_, rfl⟩
  have AS := Lib.hid (show ac.size = 64 by rw [hac]; exact A64_size z)
  have AG := Lib.hid (show ∀ k, k < 64 → ac[k]? = some (.int .i64 z) from fun k hk => by rw [hac]; exact A64_get z k hk)
  rw [← hac]
  clear hac
  have mk : ∀ w, (Instr.makeSlice 30 (.int .i64 64) (.int .i64 64)).run Tryz.prog w = .ok (.slice (some ⟨w.heap.size, 0, none⟩) 64 64) (w.alloc (.cells (madeCells #[.int .u8 0] 64) 5)) := mk_u8 64 (by decide)
  obtain ⟨W0, hW0⟩ : ∃ W0, W0 = ((w.alloc (.cells #[.int .i64 16, .int .i64 16, .slice A1 256 c1, .slice A2 64 c2, .slice A3 64 c3] 32)).alloc (.cells ac 99)).alloc (.cells #[.int .i64 0, .int .i64 0, .slice none 0 0, .slice none 0 0, .slice none 0 0] 32) := ⟨_, rfl⟩
  obtain ⟨f0, a0, r0, k0⟩ := three (Keep.eq_ hW0)
  have HF := Lib.hid (hf.keep k0)
  have F0 := Lib.hid f0
  have A0 := Lib.hid a0
  have R0 := Lib.hid r0
  have K0 := Lib.hid k0
  have S0 := Lib.hid (show w.heap.size + 1 + 1 < W0.heap.size from (show Blk _ _ _ _ from r0).lt)
  have HZ := Lib.hid hz
  clear k0 f0 a0 r0 hf hz
  have t1 : True := trivial
  have t2 : True := trivial
  go_enter Tryz.func115, Tryz.ntmps115
  go_upto_region 1 with (fail)
  rw [← hW0]
  clear hW0
  go_upto_region 3 with (first | (have _t := t1; refine wpList_load_blk rfl 32 (.tmp 6) rfl w.heap.size 32 _ _ rfl F0.out Tryz.underlying32 rfl (by kernel_rfl) ?_; go_frame; clear _t t1) | (have _t := t2; go_at_call 80; refine (has_any A1 A2 A3 c1 c2 c3 W0).mono ?_; rintro e w2 ⟨rfl, k2⟩; have F2 := Lib.hid (F0.out.keep k2 (fun e => e)); have A2' := Lib.hid (A0.out.keep k2 (fun e => e)); have R2 := Lib.hid (R0.out.keep k2 (fun e => e)); have HF2 := Lib.hid (HF.out.keep k2); have K2 := Lib.hid (K0.out.trans k2); have S2 := Lib.hid (Nat.lt_of_lt_of_le S0.out k2.size); clear k2 _t t2))
  go_upto_region 4 with (fail)
  obtain ⟨w3, hw3⟩ : ∃ w3, w3 = w2.alloc (.cells (madeCells #[.int .u8 0] 64) 5) := ⟨_, rfl⟩
  rw [← hw3]
  have k3 : Keep none_ w2 w3 := hw3 ▸ (Keep.refl none_ w2).alloc _
  have X3 := Lib.hid (show ByteBlk w3 w2.heap.size (mixL 64 0 0 z) by rw [mixL_zero]; exact ByteBlk.made w3 64 _ (hw3 ▸ Blk.new _ _ _))
  have A3' := Lib.hid (A2'.out.keep k3 (fun e => e))
  have KX3 := Lib.hid k3
  clear hw3 k3
  have t3 : True := trivial
  go_upto_region 5 with (have _t := t3; refine wpList_load_blk rfl 99 (.tmp 11) rfl (w.heap.size + 1) 99 _ _ rfl A3'.out Tryz.underlying99 rfl (by rw [AS.out]; kernel_rfl) ?_; go_frame; clear _t t3)
  go_loopw [34] (fun i wr => ∃ k : Nat, k ≤ 64 ∧ i = .int .i64 k ∧ ByteBlk wr w2.heap.size (mixL 64 k 0 z) ∧ Keep (one w2.heap.size) w3 wr) (fun i _ => 64 - (intOf i).toNat)
  case atStart => exact ⟨0, by decide, rfl, X3.out, Keep.refl _ _⟩
  case round =>
    obtain ⟨k, hk, rfl, hX, hkr⟩ := hrel
    have HX := Lib.hid hX
    have HK := Lib.hid hkr
    clear hX hkr
    by_cases hlt : k < 64
    · have hlt' : (k : Int) < 64 := by omega
      have hc := run_index_i64a ac k _ hlt (AG.out k hlt)
      have c7 := HX.out.cell (k := k) (by rw [mixL_length (by omega)]; exact hlt)
      have z7 := Blk.frozen HX.out.1 k
      have XS := Lib.hid (show ByteBlk (wr.setCell ⟨w2.heap.size, k, none⟩ (.int .u8 z)) w2.heap.size (mixL 64 (k + 1) 0 z) from by have h := HX.out.set_ k HZ.out; rw [mixL_set hlt] at h; exact h)
      have KS := Lib.hid (show Keep (one w2.heap.size) w3 (wr.setCell ⟨w2.heap.size, k, none⟩ (.int .u8 z)) from HK.out.setCell (p := ⟨w2.heap.size, k, none⟩) (.inl rfl) _)
      obtain ⟨z1, z2⟩ := HZ.out
      generalize (mixL 64 k 0 z)[k]'_ = q at c7
      go_wp2
      go_roundw
      case rel => exact ⟨k + 1, hlt, by go_num, XS.out, KS.out⟩
      case measure => simp [intOf]; omega
    · obtain rfl : k = 64 := by omega
      have X5 := Lib.hid (show ByteBlk wr w2.heap.size (List.replicate 64 z) from by have h := HX.out; rw [mixL_all] at h; exact h)
      have ne2 : ∀ b, b ≠ w2.heap.size → ¬ one w2.heap.size b := fun b h e => h e
      have KW := Lib.hid (show Keep none_ w2 wr from KX3.out.own HK.out (Nat.le_refl _))
      have F5 := Lib.hid (F2.out.keep KW.out (fun e => e))
      have R5 := Lib.hid (R2.out.keep KW.out (fun e => e))
      have HF5 := Lib.hid (HF2.out.keep KW.out)
      have K5 := Lib.hid (K2.out.trans KW.out)
      clear hlt hk HX HK ne2
      have u1 : True := trivial
      have u2 : True := trivial
      have u3 : True := trivial
      go_upto_region 10 with (first | (have _t := u1; refine wpList_load_blk rfl 32 (.tmp 6) rfl w.heap.size 32 _ _ rfl F5.out Tryz.underlying32 rfl (by kernel_rfl) ?_; go_frame; clear _t u1) | (have _t := u2; go_at_call 81; refine (clone_any z A1 A2 A3 c1 c2 c3 wr HF5.out).mono ?_; rintro e w6 ⟨b1, b2, b3, rfl, hn, k4⟩; have HN6 := Lib.hid hn; have KX6 := Lib.hid k4; clear hn k4 _t u2) | (have _t := u3; refine wpList_store_blk rfl 32 (.tmp 17) (.tmp 47) rfl w6.heap.size 32 _ #[.int .i64 16, .int .i64 16, .slice (some ⟨b1, 0, none⟩) 256 256, .slice (some ⟨b2, 0, none⟩) 64 64, .slice (some ⟨b3, 0, none⟩) 64 64] rfl rfl (Blk.new _ _ _) rfl (by kernel_rfl) (by simp [Value.oneCell']) ?_; intro w7 h5 k5 s5; have O7 := Lib.hid h5; have KX7 := Lib.hid (show Keep none_ w6 w7 from ((Keep.refl none_ w6).alloc _).own k5 (Nat.le_refl _)); clear h5 k5 s5; go_frame; clear _t u3))
      have KY7 := Lib.hid (KX6.out.trans KX7.out)
      have F7 := Lib.hid (F5.out.keep KY7.out (fun e => e))
      have R7 := Lib.hid (R5.out.keep KY7.out (fun e => e))
      have X7 := Lib.hid (X5.out.keep KY7.out (fun e => e))
      have NF := Lib.hid (HN6.out.keep0 KX7.out)
      have K7 := Lib.hid (K5.out.trans KY7.out)
      have LS := Lib.hid (Blk.lt' X5.out)
      have LW := Lib.hid (show w.heap.size + 1 + 1 < wr.heap.size from Nat.lt_of_lt_of_le S2.out KW.out.size)
      have LB := Lib.hid (show b1 < w6.heap.size ∧ b2 < w6.heap.size ∧ b3 < w6.heap.size from ⟨Blk.lt' HN6.out.y, Blk.lt' HN6.out.u, Blk.lt' HN6.out.v⟩)
      clear F5 R5 HF5 K5 HN6
      have NE := Lib.hid (show w2.heap.size ≠ b1 ∧ w.heap.size ≠ b1 ∧ w.heap.size + 1 + 1 ≠ b1 ∧ w6.heap.size ≠ b1 from by
        have h1 := NF.out.l1; have h2 := NF.out.l2; have h3 := NF.out.l3; have h4 := LS.out; have h5 := LW.out; obtain ⟨h6, h7, h8⟩ := LB.out
        omega)
      obtain ⟨us, hus⟩ : ∃ us : Nat → Value, us = fun k => if k = 2 then .slice (some ⟨b1, 0, none⟩) 256 256 else if k = 9 then .agg #[.int .i64 8, .int .i64 16, .int .i64 8, .int .i64 8] else .tuple #[] := ⟨_, rfl⟩
      have US := Lib.hid hus
      clear hus
      obtain ⟨F, hF⟩ : ∃ F : World → Prop, F = fun y => ByteBlk y b1 (List.replicate 256 z) := ⟨_, rfl⟩
      have HFF := Lib.hid hF
      clear hF
      have gd : (mutCalm w7 [2, 9, 11] (one b1) F us).Good := mutCalm_good
      have hst : F w7.drew := by rw [HFF.out]; exact NF.out.y.keep (Keep.refl none_ _).drew (fun e => e)
      have ne : Nonempty (mutCalm w7 [2, 9, 11] (one b1) F us).Sub := mutCalm_some (by rw [HFF.out]; exact NF.out.y)
      have x0 : ∀ y : (mutCalm w7 [2, 9, 11] (one b1) F us).Sub, ((mutCalm w7 [2, 9, 11] (one b1) F us).at_ y).cell? ⟨w.heap.size, 0, none⟩ = some (.int .i64 16) := fun y => (mutCalm_at y).cell (F7.out.cell 0) (one_ne NE.out.2.1)
      have xl : ∀ y : (mutCalm w7 [2, 9, 11] (one b1) F us).Sub, ((mutCalm w7 [2, 9, 11] (one b1) F us).at_ y).rangeAt w6.heap.size 0 #[.int .i64 16, .int .i64 16, .slice (some ⟨b1, 0, none⟩) 256 256, .slice (some ⟨b2, 0, none⟩) 64 64, .slice (some ⟨b3, 0, none⟩) 64 64].toList := fun y => (O7.out.keep (mutCalm_at y) (one_ne NE.out.2.2.2)).rangeAt
      refine wp_region_calm (mutCalm w7 [2, 9, 11] (one b1) F us) [0, 1, 2, 3, 4, 5, 6, 7, 8, 9, 10, 11] [] 61 (by kernel_rfl) (by kernel_rfl) rfl gd ⟨(Keep.refl _ _).drew, hst⟩ ?_
      simp only [pairs, List.filterMap_cons, List.filterMap_nil, List.getElem?_toArray, List.getElem?_cons_succ, List.getElem?_cons_zero, Option.map_some]
      refine Calm.walk_load 32 (.tmp 17) rfl ne rfl rfl w6.heap.size 0 rfl #[.int .i64 16, .int .i64 16, .slice (some ⟨b1, 0, none⟩) 256 256, .slice (some ⟨b2, 0, none⟩) 64 64, .slice (some ⟨b3, 0, none⟩) 64 64] _ xl Tryz.underlying32 rfl (by kernel_rfl) ?_
      go_frame
      repeat (refine Calm.walk_quiet ne rfl rfl rfl (fun K hK => ?_); go_big_quiet_op; refine hK _ ?_; clear hK K)
      refine Calm.walk_eff rfl rfl (fun n wy _ hR _ => ?_) ?_
      · obtain ⟨hR1, hF⟩ := hR
        unfold gives
        go_simp
        refine (component_any 1 (by decide) (some ⟨b1, 0, none⟩) (some ⟨b2, 0, none⟩) (some ⟨b3, 0, none⟩) 256 64 64 wy).mono ?_
        rintro e wz ⟨he, hk⟩
        rw [HFF.out] at hF
        exact ⟨.slice (some ⟨b1, 0, none⟩) 256 256, he, (by show _ = us _; rw [US.out]; rfl), hk.weak, ⟨hR1.trans hk.weak, by rw [HFF.out]; exact hF.keep hk (fun e => e)⟩, fun _ h => h.elim⟩
      intro v wy hv
      obtain rfl : v = .slice (some ⟨b1, 0, none⟩) 256 256 := by have h : v = us 2 := hv; rw [US.out] at h; exact h
      clear wy hv
      go_frame
      repeat (refine Calm.walk_quiet ne rfl rfl rfl (fun K hK => ?_); go_big_quiet_op; refine hK _ ?_; clear hK K)
      refine Calm.walk_eff rfl rfl (fun n wy _ hR _ => ?_) ?_
      · obtain ⟨hR1, hF⟩ := hR
        unfold gives
        go_simp
        refine (place_any 1 (by decide) wy).mono ?_
        rintro e wz ⟨he, hk⟩
        rw [HFF.out] at hF
        exact ⟨.agg #[.int .i64 8, .int .i64 16, .int .i64 8, .int .i64 8], he, (by show _ = us _; rw [US.out]; rfl), hk.weak, ⟨hR1.trans hk.weak, by rw [HFF.out]; exact hF.keep hk (fun e => e)⟩, fun _ h => h.elim⟩
      intro v wy hv
      obtain rfl : v = .agg #[.int .i64 8, .int .i64 16, .int .i64 8, .int .i64 8] := by have h : v = us 9 := hv; rw [US.out] at h; exact h
      clear wy hv
      go_frame
      repeat (refine Calm.walk_quiet ne rfl rfl rfl (fun K hK => ?_); go_big_quiet_op; refine hK _ ?_; clear hK K)
      refine Calm.walk_eff rfl rfl (fun n wy _ hR _ => ?_) ?_
      · obtain ⟨hR1, hF⟩ := hR
        rw [HFF.out] at hF
        unfold gives
        go_simp
        refine (paste1 z b1 w2.heap.size wy hF (X7.out.keep hR1 (one_ne NE.out.1)) HZ.out NE.out.1).mono ?_
        rintro e wz ⟨rfl, hp, hk⟩
        exact ⟨_, rfl, (by show _ = us _; rw [US.out]; rfl), hk, ⟨hR1.trans hk, by rw [HFF.out]; exact hp⟩, fun _ h => h.elim⟩
      intro v wy hv
      obtain rfl : v = .tuple #[] := by have h : v = us 11 := hv; rw [US.out] at h; exact h
      clear wy hv
      go_frame
      intro w8 hG hD
      obtain ⟨hR', hF⟩ := hG
      rw [HFF.out] at hF
      have N8 := Lib.hid (show NewFr w8 wr.heap.size z b1 b2 b3 from ⟨hF, NF.out.u.keep hR' (one_ne (Ne.symm NF.out.yu)), NF.out.v.keep hR' (one_ne (Ne.symm NF.out.yv)), NF.out.yu, NF.out.yv, NF.out.uv, NF.out.l1, NF.out.l2, NF.out.l3⟩)
      have O8 := Lib.hid (O7.out.keep hR' (one_ne NE.out.2.2.2))
      have R8 := Lib.hid (R7.out.keep hR' (one_ne NE.out.2.2.1))
      have K8 := Lib.hid (K7.out.own hR' (show w.heap.size ≤ b1 from by have h1 := NF.out.l1; have h2 := NF.out.l2; have h3 := NF.out.l3; have h5 := LW.out; omega))
      clear hR' hF hD gd ne hst x0 xl US HFF
      simp only [pickOps, List.filterMap_nil]
      have v1 : True := trivial
      have v2 : True := trivial
      go_wp2_with (first | (have _t := v1; refine wpList_load_blk rfl 32 (.tmp 17) rfl w6.heap.size 32 _ _ rfl O8.out Tryz.underlying32 rfl (by kernel_rfl) ?_; go_frame; clear _t v1) | (have _t := v2; refine wpList_store_blk rfl 32 (.tmp 12) (.tmp 60) rfl (w.heap.size + 1 + 1) 32 _ _ rfl rfl R8.out rfl (by kernel_rfl) (by simp [Value.oneCell']) ?_; intro w12 hb12 hk12 hs12; have B12 := Lib.hid hb12; have K12 := Lib.hid hk12; clear hb12 hk12 hs12; go_frame; clear _t v2))
      have hh := N8.out
      have l5 := LW.out
      have l1 := hh.l1
      have l2 := hh.l2
      have l3 := hh.l3
      refine bodyPost_ret (results_cell_tmp' Tryz.results115 rfl (run_loadVar_blk B12.out Tryz.underlying32 rfl (by kernel_rfl))) rfl ⟨b1, b2, b3, rfl, (hh.keep K12.out (one_ne (by omega)) (one_ne (by omega)) (one_ne (by omega))).low (by omega), K8.out.own K12.out (by omega)⟩
set_option maxRecDepth 100000 in
set_option maxHeartbeats 2000000 in
theorem setblock2 (z : Int) (hz : 0 ≤ z ∧ z ≤ 255) (A1 A2 A3 : Option Addr) (c1 c2 c3 : Nat) (w : World) (hf : FrC w z A1 A2 A3 c1 c2 c3) : Calls Tryz.prog 115 #[.agg #[.int .i64 16, .int .i64 16, .slice A1 256 c1, .slice A2 64 c2, .slice A3 64 c3], .int .i64 0, .int .i64 0, .int .i64 2, .bool false, .agg (A64 z)] w fun e w' => ∃ b1 b2 b3, e = .returned (.tuple #[.agg #[.int .i64 16, .int .i64 16, .slice (some ⟨b1, 0, none⟩) 256 256, .slice (some ⟨b2, 0, none⟩) 64 64, .slice (some ⟨b3, 0, none⟩) 64 64], .int .i64 0]) ∧ NewFr w' w.heap.size z b1 b2 b3 ∧ Keep none_ w w' := by
  obtain ⟨ac, hac⟩ : ∃ ac, ac = A64 z := ⟨_, rfl⟩
  have AS := Lib.hid (show ac.size = 64 by rw [hac]; exact A64_size z)
  have AG := Lib.hid (show ∀ k, k < 64 → ac[k]? = some (.int .i64 z) from fun k hk => by rw [hac]; exact A64_get z k hk)
  rw [← hac]
  clear hac
  have mk : ∀ w, (Instr.makeSlice 30 (.int .i64 64) (.int .i64 64)).run Tryz.prog w = .ok (.slice (some ⟨w.heap.size, 0, none⟩) 64 64) (w.alloc (.cells (madeCells #[.int .u8 0] 64) 5)) := mk_u8 64 (by decide)
  obtain ⟨W0, hW0⟩ : ∃ W0, W0 = ((w.alloc (.cells #[.int .i64 16, .int .i64 16, .slice A1 256 c1, .slice A2 64 c2, .slice A3 64 c3] 32)).alloc (.cells ac 99)).alloc (.cells #[.int .i64 0, .int .i64 0, .slice none 0 0, .slice none 0 0, .slice none 0 0] 32) := ⟨_, rfl⟩
  obtain ⟨f0, a0, r0, k0⟩ := three (Keep.eq_ hW0)
  have HF := Lib.hid (hf.keep k0)
  have F0 := Lib.hid f0
  have A0 := Lib.hid a0
  have R0 := Lib.hid r0
  have K0 := Lib.hid k0
  have S0 := Lib.hid (show w.heap.size + 1 + 1 < W0.heap.size from (show Blk _ _ _ _ from r0).lt)
  have HZ := Lib.hid hz
  clear k0 f0 a0 r0 hf hz
  have t1 : True := trivial
  have t2 : True := trivial
  go_enter Tryz.func115, Tryz.ntmps115
  go_upto_region 1 with (fail)
  rw [← hW0]
  clear hW0
  go_upto_region 3 with (first | (have _t := t1; refine wpList_load_blk rfl 32 (.tmp 6) rfl w.heap.size 32 _ _ rfl F0.out Tryz.underlying32 rfl (by kernel_rfl) ?_; go_frame; clear _t t1) | (have _t := t2; go_at_call 80; refine (has_any A1 A2 A3 c1 c2 c3 W0).mono ?_; rintro e w2 ⟨rfl, k2⟩; have F2 := Lib.hid (F0.out.keep k2 (fun e => e)); have A2' := Lib.hid (A0.out.keep k2 (fun e => e)); have R2 := Lib.hid (R0.out.keep k2 (fun e => e)); have HF2 := Lib.hid (HF.out.keep k2); have K2 := Lib.hid (K0.out.trans k2); have S2 := Lib.hid (Nat.lt_of_lt_of_le S0.out k2.size); clear k2 _t t2))
  go_upto_region 4 with (fail)
  obtain ⟨w3, hw3⟩ : ∃ w3, w3 = w2.alloc (.cells (madeCells #[.int .u8 0] 64) 5) := ⟨_, rfl⟩
  rw [← hw3]
  have k3 : Keep none_ w2 w3 := hw3 ▸ (Keep.refl none_ w2).alloc _
  have X3 := Lib.hid (show ByteBlk w3 w2.heap.size (mixL 64 0 0 z) by rw [mixL_zero]; exact ByteBlk.made w3 64 _ (hw3 ▸ Blk.new _ _ _))
  have A3' := Lib.hid (A2'.out.keep k3 (fun e => e))
  have KX3 := Lib.hid k3
  clear hw3 k3
  have t3 : True := trivial
  go_upto_region 5 with (have _t := t3; refine wpList_load_blk rfl 99 (.tmp 11) rfl (w.heap.size + 1) 99 _ _ rfl A3'.out Tryz.underlying99 rfl (by rw [AS.out]; kernel_rfl) ?_; go_frame; clear _t t3)
  go_loopw [34] (fun i wr => ∃ k : Nat, k ≤ 64 ∧ i = .int .i64 k ∧ ByteBlk wr w2.heap.size (mixL 64 k 0 z) ∧ Keep (one w2.heap.size) w3 wr) (fun i _ => 64 - (intOf i).toNat)
  case atStart => exact ⟨0, by decide, rfl, X3.out, Keep.refl _ _⟩
  case round =>
    obtain ⟨k, hk, rfl, hX, hkr⟩ := hrel
    have HX := Lib.hid hX
    have HK := Lib.hid hkr
    clear hX hkr
    by_cases hlt : k < 64
    · have hlt' : (k : Int) < 64 := by omega
      have hc := run_index_i64a ac k _ hlt (AG.out k hlt)
      have c7 := HX.out.cell (k := k) (by rw [mixL_length (by omega)]; exact hlt)
      have z7 := Blk.frozen HX.out.1 k
      have XS := Lib.hid (show ByteBlk (wr.setCell ⟨w2.heap.size, k, none⟩ (.int .u8 z)) w2.heap.size (mixL 64 (k + 1) 0 z) from by have h := HX.out.set_ k HZ.out; rw [mixL_set hlt] at h; exact h)
      have KS := Lib.hid (show Keep (one w2.heap.size) w3 (wr.setCell ⟨w2.heap.size, k, none⟩ (.int .u8 z)) from HK.out.setCell (p := ⟨w2.heap.size, k, none⟩) (.inl rfl) _)
      obtain ⟨z1, z2⟩ := HZ.out
      generalize (mixL 64 k 0 z)[k]'_ = q at c7
      go_wp2
      go_roundw
      case rel => exact ⟨k + 1, hlt, by go_num, XS.out, KS.out⟩
      case measure => simp [intOf]; omega
    · obtain rfl : k = 64 := by omega
      have X5 := Lib.hid (show ByteBlk wr w2.heap.size (List.replicate 64 z) from by have h := HX.out; rw [mixL_all] at h; exact h)
      have ne2 : ∀ b, b ≠ w2.heap.size → ¬ one w2.heap.size b := fun b h e => h e
      have KW := Lib.hid (show Keep none_ w2 wr from KX3.out.own HK.out (Nat.le_refl _))
      have F5 := Lib.hid (F2.out.keep KW.out (fun e => e))
      have R5 := Lib.hid (R2.out.keep KW.out (fun e => e))
      have HF5 := Lib.hid (HF2.out.keep KW.out)
      have K5 := Lib.hid (K2.out.trans KW.out)
      clear hlt hk HX HK ne2
      have u1 : True := trivial
      have u2 : True := trivial
      have u3 : True := trivial
      go_upto_region 10 with (first | (have _t := u1; refine wpList_load_blk rfl 32 (.tmp 6) rfl w.heap.size 32 _ _ rfl F5.out Tryz.underlying32 rfl (by kernel_rfl) ?_; go_frame; clear _t u1) | (have _t := u2; go_at_call 81; refine (clone_any z A1 A2 A3 c1 c2 c3 wr HF5.out).mono ?_; rintro e w6 ⟨b1, b2, b3, rfl, hn, k4⟩; have HN6 := Lib.hid hn; have KX6 := Lib.hid k4; clear hn k4 _t u2) | (have _t := u3; refine wpList_store_blk rfl 32 (.tmp 17) (.tmp 47) rfl w6.heap.size 32 _ #[.int .i64 16, .int .i64 16, .slice (some ⟨b1, 0, none⟩) 256 256, .slice (some ⟨b2, 0, none⟩) 64 64, .slice (some ⟨b3, 0, none⟩) 64 64] rfl rfl (Blk.new _ _ _) rfl (by kernel_rfl) (by simp [Value.oneCell']) ?_; intro w7 h5 k5 s5; have O7 := Lib.hid h5; have KX7 := Lib.hid (show Keep none_ w6 w7 from ((Keep.refl none_ w6).alloc _).own k5 (Nat.le_refl _)); clear h5 k5 s5; go_frame; clear _t u3))
      have KY7 := Lib.hid (KX6.out.trans KX7.out)
      have F7 := Lib.hid (F5.out.keep KY7.out (fun e => e))
      have R7 := Lib.hid (R5.out.keep KY7.out (fun e => e))
      have X7 := Lib.hid (X5.out.keep KY7.out (fun e => e))
      have NF := Lib.hid (HN6.out.keep0 KX7.out)
      have K7 := Lib.hid (K5.out.trans KY7.out)
      have LS := Lib.hid (Blk.lt' X5.out)
      have LW := Lib.hid (show w.heap.size + 1 + 1 < wr.heap.size from Nat.lt_of_lt_of_le S2.out KW.out.size)
      have LB := Lib.hid (show b1 < w6.heap.size ∧ b2 < w6.heap.size ∧ b3 < w6.heap.size from ⟨Blk.lt' HN6.out.y, Blk.lt' HN6.out.u, Blk.lt' HN6.out.v⟩)
      clear F5 R5 HF5 K5 HN6
      have NE := Lib.hid (show w2.heap.size ≠ b1 ∧ w.heap.size ≠ b1 ∧ w.heap.size + 1 + 1 ≠ b1 ∧ w6.heap.size ≠ b1 from by
        have h1 := NF.out.l1; have h2 := NF.out.l2; have h3 := NF.out.l3; have h4 := LS.out; have h5 := LW.out; obtain ⟨h6, h7, h8⟩ := LB.out
        omega)
      obtain ⟨us, hus⟩ : ∃ us : Nat → Value, us = fun k => if k = 2 then .slice (some ⟨b1, 0, none⟩) 256 256 else if k = 9 then .agg #[.int .i64 128, .int .i64 16, .int .i64 8, .int .i64 8] else .tuple #[] := ⟨_, rfl⟩
      have US := Lib.hid hus
      clear hus
      obtain ⟨F, hF⟩ : ∃ F : World → Prop, F = fun y => ByteBlk y b1 (List.replicate 256 z) := ⟨_, rfl⟩
      have HFF := Lib.hid hF
      clear hF
      have gd : (mutCalm w7 [2, 9, 11] (one b1) F us).Good := mutCalm_good
      have hst : F w7.drew := by rw [HFF.out]; exact NF.out.y.keep (Keep.refl none_ _).drew (fun e => e)
      have ne : Nonempty (mutCalm w7 [2, 9, 11] (one b1) F us).Sub := mutCalm_some (by rw [HFF.out]; exact NF.out.y)
      have x0 : ∀ y : (mutCalm w7 [2, 9, 11] (one b1) F us).Sub, ((mutCalm w7 [2, 9, 11] (one b1) F us).at_ y).cell? ⟨w.heap.size, 0, none⟩ = some (.int .i64 16) := fun y => (mutCalm_at y).cell (F7.out.cell 0) (one_ne NE.out.2.1)
      have xl : ∀ y : (mutCalm w7 [2, 9, 11] (one b1) F us).Sub, ((mutCalm w7 [2, 9, 11] (one b1) F us).at_ y).rangeAt w6.heap.size 0 #[.int .i64 16, .int .i64 16, .slice (some ⟨b1, 0, none⟩) 256 256, .slice (some ⟨b2, 0, none⟩) 64 64, .slice (some ⟨b3, 0, none⟩) 64 64].toList := fun y => (O7.out.keep (mutCalm_at y) (one_ne NE.out.2.2.2)).rangeAt
      refine wp_region_calm (mutCalm w7 [2, 9, 11] (one b1) F us) [0, 1, 2, 3, 4, 5, 6, 7, 8, 9, 10, 11] [] 61 (by kernel_rfl) (by kernel_rfl) rfl gd ⟨(Keep.refl _ _).drew, hst⟩ ?_
      simp only [pairs, List.filterMap_cons, List.filterMap_nil, List.getElem?_toArray, List.getElem?_cons_succ, List.getElem?_cons_zero, Option.map_some]
      refine Calm.walk_load 32 (.tmp 17) rfl ne rfl rfl w6.heap.size 0 rfl #[.int .i64 16, .int .i64 16, .slice (some ⟨b1, 0, none⟩) 256 256, .slice (some ⟨b2, 0, none⟩) 64 64, .slice (some ⟨b3, 0, none⟩) 64 64] _ xl Tryz.underlying32 rfl (by kernel_rfl) ?_
      go_frame
      repeat (refine Calm.walk_quiet ne rfl rfl rfl (fun K hK => ?_); go_big_quiet_op; refine hK _ ?_; clear hK K)
      refine Calm.walk_eff rfl rfl (fun n wy _ hR _ => ?_) ?_
      · obtain ⟨hR1, hF⟩ := hR
        unfold gives
        go_simp
        refine (component_any 2 (by decide) (some ⟨b1, 0, none⟩) (some ⟨b2, 0, none⟩) (some ⟨b3, 0, none⟩) 256 64 64 wy).mono ?_
        rintro e wz ⟨he, hk⟩
        rw [HFF.out] at hF
        exact ⟨.slice (some ⟨b1, 0, none⟩) 256 256, he, (by show _ = us _; rw [US.out]; rfl), hk.weak, ⟨hR1.trans hk.weak, by rw [HFF.out]; exact hF.keep hk (fun e => e)⟩, fun _ h => h.elim⟩
      intro v wy hv
      obtain rfl : v = .slice (some ⟨b1, 0, none⟩) 256 256 := by have h : v = us 2 := hv; rw [US.out] at h; exact h
      clear wy hv
      go_frame
      repeat (refine Calm.walk_quiet ne rfl rfl rfl (fun K hK => ?_); go_big_quiet_op; refine hK _ ?_; clear hK K)
      refine Calm.walk_eff rfl rfl (fun n wy _ hR _ => ?_) ?_
      · obtain ⟨hR1, hF⟩ := hR
        unfold gives
        go_simp
        refine (place_any 2 (by decide) wy).mono ?_
        rintro e wz ⟨he, hk⟩
        rw [HFF.out] at hF
        exact ⟨.agg #[.int .i64 128, .int .i64 16, .int .i64 8, .int .i64 8], he, (by show _ = us _; rw [US.out]; rfl), hk.weak, ⟨hR1.trans hk.weak, by rw [HFF.out]; exact hF.keep hk (fun e => e)⟩, fun _ h => h.elim⟩
      intro v wy hv
      obtain rfl : v = .agg #[.int .i64 128, .int .i64 16, .int .i64 8, .int .i64 8] := by have h : v = us 9 := hv; rw [US.out] at h; exact h
      clear wy hv
      go_frame
      repeat (refine Calm.walk_quiet ne rfl rfl rfl (fun K hK => ?_); go_big_quiet_op; refine hK _ ?_; clear hK K)
      refine Calm.walk_eff rfl rfl (fun n wy _ hR _ => ?_) ?_
      · obtain ⟨hR1, hF⟩ := hR
        rw [HFF.out] at hF
        unfold gives
        go_simp
        refine (paste2 z b1 w2.heap.size wy hF (X7.out.keep hR1 (one_ne NE.out.1)) HZ.out NE.out.1).mono ?_
        rintro e wz ⟨rfl, hp, hk⟩
        exact ⟨_, rfl, (by show _ = us _; rw [US.out]; rfl), hk, ⟨hR1.trans hk, by rw [HFF.out]; exact hp⟩, fun _ h => h.elim⟩
      intro v wy hv
      obtain rfl : v = .tuple #[] := by have h : v = us 11 := hv; rw [US.out] at h; exact h
      clear wy hv
      go_frame
      intro w8 hG hD
      obtain ⟨hR', hF⟩ := hG
      rw [HFF.out] at hF
      have N8 := Lib.hid (show NewFr w8 wr.heap.size z b1 b2 b3 from ⟨hF, NF.out.u.keep hR' (one_ne (Ne.symm NF.out.yu)), NF.out.v.keep hR' (one_ne (Ne.symm NF.out.yv)), NF.out.yu, NF.out.yv, NF.out.uv, NF.out.l1, NF.out.l2, NF.out.l3⟩)
      have O8 := Lib.hid (O7.out.keep hR' (one_ne NE.out.2.2.2))
      have R8 := Lib.hid (R7.out.keep hR' (one_ne NE.out.2.2.1))
      have K8 := Lib.hid (K7.out.own hR' (show w.heap.size ≤ b1 from by have h1 := NF.out.l1; have h2 := NF.out.l2; have h3 := NF.out.l3; have h5 := LW.out; omega))
      clear hR' hF hD gd ne hst x0 xl US HFF
      simp only [pickOps, List.filterMap_nil]
      have v1 : True := trivial
      have v2 : True := trivial
      go_wp2_with (first | (have _t := v1; refine wpList_load_blk rfl 32 (.tmp 17) rfl w6.heap.size 32 _ _ rfl O8.out Tryz.underlying32 rfl (by kernel_rfl) ?_; go_frame; clear _t v1) | (have _t := v2; refine wpList_store_blk rfl 32 (.tmp 12) (.tmp 60) rfl (w.heap.size + 1 + 1) 32 _ _ rfl rfl R8.out rfl (by kernel_rfl) (by simp [Value.oneCell']) ?_; intro w12 hb12 hk12 hs12; have B12 := Lib.hid hb12; have K12 := Lib.hid hk12; clear hb12 hk12 hs12; go_frame; clear _t v2))
      have hh := N8.out
      have l5 := LW.out
      have l1 := hh.l1
      have l2 := hh.l2
      have l3 := hh.l3
      refine bodyPost_ret (results_cell_tmp' Tryz.results115 rfl (run_loadVar_blk B12.out Tryz.underlying32 rfl (by kernel_rfl))) rfl ⟨b1, b2, b3, rfl, (hh.keep K12.out (one_ne (by omega)) (one_ne (by omega)) (one_ne (by omega))).low (by omega), K8.out.own K12.out (by omega)⟩
set_option maxRecDepth 100000 in
set_option maxHeartbeats 2000000 in
theorem setblock3 (z : Int) (hz : 0 ≤ z ∧ z ≤ 255) (A1 A2 A3 : Option Addr) (c1 c2 c3 : Nat) (w : World) (hf : FrC w z A1 A2 A3 c1 c2 c3) : Calls Tryz.prog 115 #[.agg #[.int .i64 16, .int .i64 16, .slice A1 256 c1, .slice A2 64 c2, .slice A3 64 c3], .int .i64 0, .int .i64 0, .int .i64 3, .bool false, .agg (A64 z)] w fun e w' => ∃ b1 b2 b3, e = .returned (.tuple #[.agg #[.int .i64 16, .int .i64 16, .slice (some ⟨b1, 0, none⟩) 256 256, .slice (some ⟨b2, 0, none⟩) 64 64, .slice (some ⟨b3, 0, none⟩) 64 64], .int .i64 0]) ∧ NewFr w' w.heap.size z b1 b2 b3 ∧ Keep none_ w w' := by
  obtain ⟨ac, hac⟩ : ∃ ac, ac = A64 z := ⟨_, rfl⟩
  have AS := Lib.hid (show ac.size = 64 by rw [hac]; exact A64_size z)
  have AG := Lib.hid (show ∀ k, k < 64 → ac[k]? = some (.int .i64 z) from fun k hk => by rw [hac]; exact A64_get z k hk)
  rw [← hac]
  clear hac
  have mk : ∀ w, (Instr.makeSlice 30 (.int .i64 64) (.int .i64 64)).run Tryz.prog w = .ok (.slice (some ⟨w.heap.size, 0, none⟩) 64 64) (w.alloc (.cells (madeCells #[.int .u8 0] 64) 5)) := mk_u8 64 (by decide)
  obtain ⟨W0, hW0⟩ : ∃ W0, W0 = ((w.alloc (.cells #[.int .i64 16, .int .i64 16, .slice A1 256 c1, .slice A2 64 c2, .slice A3 64 c3] 32)).alloc (.cells ac 99)).alloc (.cells #[.int .i64 0, .int .i64 0, .slice none 0 0, .slice none 0 0, .slice none 0 0] 32) := ⟨_, rfl⟩
  obtain ⟨f0, a0, r0, k0⟩ := three (Keep.eq_ hW0)
  have HF := Lib.hid (hf.keep k0)
  have F0 := Lib.hid f0
  have A0 := Lib.hid a0
  have R0 := Lib.hid r0
  have K0 := Lib.hid k0
  have S0 := Lib.hid (show w.heap.size + 1 + 1 < W0.heap.size from (show Blk _ _ _ _ from r0).lt)
  have HZ := Lib.hid hz
  clear k0 f0 a0 r0 hf hz
  have t1 : True := trivial
  have t2 : True := trivial
  go_enter Tryz.func115, Tryz.ntmps115
  go_upto_region 1 with (fail)
  rw [← hW0]
  clear hW0
  go_upto_region 3 with (first | (have _t := t1; refine wpList_load_blk rfl 32 (.tmp 6) rfl w.heap.size 32 _ _ rfl F0.out Tryz.underlying32 rfl (by kernel_rfl) ?_; go_frame; clear _t t1) | (have _t := t2; go_at_call 80; refine (has_any A1 A2 A3 c1 c2 c3 W0).mono ?_; rintro e w2 ⟨rfl, k2⟩; have F2 := Lib.hid (F0.out.keep k2 (fun e => e)); have A2' := Lib.hid (A0.out.keep k2 (fun e => e)); have R2 := Lib.hid (R0.out.keep k2 (fun e => e)); have HF2 := Lib.hid (HF.out.keep k2); have K2 := Lib.hid (K0.out.trans k2); have S2 := Lib.hid (Nat.lt_of_lt_of_le S0.out k2.size); clear k2 _t t2))
  go_upto_region 4 with (fail)
  obtain ⟨w3, hw3⟩ : ∃ w3, w3 = w2.alloc (.cells (madeCells #[.int .u8 0] 64) 5) := ⟨_, rfl⟩
  rw [← hw3]
  have k3 : Keep none_ w2 w3 := hw3 ▸ (Keep.refl none_ w2).alloc _
  have X3 := Lib.hid (show ByteBlk w3 w2.heap.size (mixL 64 0 0 z) by rw [mixL_zero]; exact ByteBlk.made w3 64 _ (hw3 ▸ Blk.new _ _ _))
  have A3' := Lib.hid (A2'.out.keep k3 (fun e => e))
  have KX3 := Lib.hid k3
  clear hw3 k3
  have t3 : True := trivial
  go_upto_region 5 with (have _t := t3; refine wpList_load_blk rfl 99 (.tmp 11) rfl (w.heap.size + 1) 99 _ _ rfl A3'.out Tryz.underlying99 rfl (by rw [AS.out]; kernel_rfl) ?_; go_frame; clear _t t3)
  go_loopw [34] (fun i wr => ∃ k : Nat, k ≤ 64 ∧ i = .int .i64 k ∧ ByteBlk wr w2.heap.size (mixL 64 k 0 z) ∧ Keep (one w2.heap.size) w3 wr) (fun i _ => 64 - (intOf i).toNat)
  case atStart => exact ⟨0, by decide, rfl, X3.out, Keep.refl _ _⟩
  case round =>
    obtain ⟨k, hk, rfl, hX, hkr⟩ := hrel
    have HX := Lib.hid hX
    have HK := Lib.hid hkr
    clear hX hkr
    by_cases hlt : k < 64
    · have hlt' : (k : Int) < 64 := by omega
      have hc := run_index_i64a ac k _ hlt (AG.out k hlt)
      have c7 := HX.out.cell (k := k) (by rw [mixL_length (by omega)]; exact hlt)
      have z7 := Blk.frozen HX.out.1 k
      have XS := Lib.hid (show ByteBlk (wr.setCell ⟨w2.heap.size, k, none⟩ (.int .u8 z)) w2.heap.size (mixL 64 (k + 1) 0 z) from by have h := HX.out.set_ k HZ.out; rw [mixL_set hlt] at h; exact h)
      have KS := Lib.hid (show Keep (one w2.heap.size) w3 (wr.setCell ⟨w2.heap.size, k, none⟩ (.int .u8 z)) from HK.out.setCell (p := ⟨w2.heap.size, k, none⟩) (.inl rfl) _)
      obtain ⟨z1, z2⟩ := HZ.out
      generalize (mixL 64 k 0 z)[k]'_ = q at c7
      go_wp2
      go_roundw
      case rel => exact ⟨k + 1, hlt, by go_num, XS.out, KS.out⟩
      case measure => simp [intOf]; omega
    · obtain rfl : k = 64 := by omega
      have X5 := Lib.hid (show ByteBlk wr w2.heap.size (List.replicate 64 z) from by have h := HX.out; rw [mixL_all] at h; exact h)
      have ne2 : ∀ b, b ≠ w2.heap.size → ¬ one w2.heap.size b := fun b h e => h e
      have KW := Lib.hid (show Keep none_ w2 wr from KX3.out.own HK.out (Nat.le_refl _))
      have F5 := Lib.hid (F2.out.keep KW.out (fun e => e))
      have R5 := Lib.hid (R2.out.keep KW.out (fun e => e))
      have HF5 := Lib.hid (HF2.out.keep KW.out)
      have K5 := Lib.hid (K2.out.trans KW.out)
      clear hlt hk HX HK ne2
      have u1 : True := trivial
      have u2 : True := trivial
      have u3 : True := trivial
      go_upto_region 10 with (first | (have _t := u1; refine wpList_load_blk rfl 32 (.tmp 6) rfl w.heap.size 32 _ _ rfl F5.out Tryz.underlying32 rfl (by kernel_rfl) ?_; go_frame; clear _t u1) | (have _t := u2; go_at_call 81; refine (clone_any z A1 A2 A3 c1 c2 c3 wr HF5.out).mono ?_; rintro e w6 ⟨b1, b2, b3, rfl, hn, k4⟩; have HN6 := Lib.hid hn; have KX6 := Lib.hid k4; clear hn k4 _t u2) | (have _t := u3; refine wpList_store_blk rfl 32 (.tmp 17) (.tmp 47) rfl w6.heap.size 32 _ #[.int .i64 16, .int .i64 16, .slice (some ⟨b1, 0, none⟩) 256 256, .slice (some ⟨b2, 0, none⟩) 64 64, .slice (some ⟨b3, 0, none⟩) 64 64] rfl rfl (Blk.new _ _ _) rfl (by kernel_rfl) (by simp [Value.oneCell']) ?_; intro w7 h5 k5 s5; have O7 := Lib.hid h5; have KX7 := Lib.hid (show Keep none_ w6 w7 from ((Keep.refl none_ w6).alloc _).own k5 (Nat.le_refl _)); clear h5 k5 s5; go_frame; clear _t u3))
      have KY7 := Lib.hid (KX6.out.trans KX7.out)
      have F7 := Lib.hid (F5.out.keep KY7.out (fun e => e))
      have R7 := Lib.hid (R5.out.keep KY7.out (fun e => e))
      have X7 := Lib.hid (X5.out.keep KY7.out (fun e => e))
      have NF := Lib.hid (HN6.out.keep0 KX7.out)
      have K7 := Lib.hid (K5.out.trans KY7.out)
      have LS := Lib.hid (Blk.lt' X5.out)
      have LW := Lib.hid (show w.heap.size + 1 + 1 < wr.heap.size from Nat.lt_of_lt_of_le S2.out KW.out.size)
      have LB := Lib.hid (show b1 < w6.heap.size ∧ b2 < w6.heap.size ∧ b3 < w6.heap.size from ⟨Blk.lt' HN6.out.y, Blk.lt' HN6.out.u, Blk.lt' HN6.out.v⟩)
      clear F5 R5 HF5 K5 HN6
      have NE := Lib.hid (show w2.heap.size ≠ b1 ∧ w.heap.size ≠ b1 ∧ w.heap.size + 1 + 1 ≠ b1 ∧ w6.heap.size ≠ b1 from by
        have h1 := NF.out.l1; have h2 := NF.out.l2; have h3 := NF.out.l3; have h4 := LS.out; have h5 := LW.out; obtain ⟨h6, h7, h8⟩ := LB.out
        omega)
      obtain ⟨us, hus⟩ : ∃ us : Nat → Value, us = fun k => if k = 2 then .slice (some ⟨b1, 0, none⟩) 256 256 else if k = 9 then .agg #[.int .i64 136, .int .i64 16, .int .i64 8, .int .i64 8] else .tuple #[] := ⟨_, rfl⟩
      have US := Lib.hid hus
      clear hus
      obtain ⟨F, hF⟩ : ∃ F : World → Prop, F = fun y => ByteBlk y b1 (List.replicate 256 z) := ⟨_, rfl⟩
      have HFF := Lib.hid hF
      clear hF
      have gd : (mutCalm w7 [2, 9, 11] (one b1) F us).Good := mutCalm_good
      have hst : F w7.drew := by rw [HFF.out]; exact NF.out.y.keep (Keep.refl none_ _).drew (fun e => e)
      have ne : Nonempty (mutCalm w7 [2, 9, 11] (one b1) F us).Sub := mutCalm_some (by rw [HFF.out]; exact NF.out.y)
      have x0 : ∀ y : (mutCalm w7 [2, 9, 11] (one b1) F us).Sub, ((mutCalm w7 [2, 9, 11] (one b1) F us).at_ y).cell? ⟨w.heap.size, 0, none⟩ = some (.int .i64 16) := fun y => (mutCalm_at y).cell (F7.out.cell 0) (one_ne NE.out.2.1)
      have xl : ∀ y : (mutCalm w7 [2, 9, 11] (one b1) F us).Sub, ((mutCalm w7 [2, 9, 11] (one b1) F us).at_ y).rangeAt w6.heap.size 0 #[.int .i64 16, .int .i64 16, .slice (some ⟨b1, 0, none⟩) 256 256, .slice (some ⟨b2, 0, none⟩) 64 64, .slice (some ⟨b3, 0, none⟩) 64 64].toList := fun y => (O7.out.keep (mutCalm_at y) (one_ne NE.out.2.2.2)).rangeAt
      refine wp_region_calm (mutCalm w7 [2, 9, 11] (one b1) F us) [0, 1, 2, 3, 4, 5, 6, 7, 8, 9, 10, 11] [] 61 (by kernel_rfl) (by kernel_rfl) rfl gd ⟨(Keep.refl _ _).drew, hst⟩ ?_
      simp only [pairs, List.filterMap_cons, List.filterMap_nil, List.getElem?_toArray, List.getElem?_cons_succ, List.getElem?_cons_zero, Option.map_some]
      refine Calm.walk_load 32 (.tmp 17) rfl ne rfl rfl w6.heap.size 0 rfl #[.int .i64 16, .int .i64 16, .slice (some ⟨b1, 0, none⟩) 256 256, .slice (some ⟨b2, 0, none⟩) 64 64, .slice (some ⟨b3, 0, none⟩) 64 64] _ xl Tryz.underlying32 rfl (by kernel_rfl) ?_
      go_frame
      repeat (refine Calm.walk_quiet ne rfl rfl rfl (fun K hK => ?_); go_big_quiet_op; refine hK _ ?_; clear hK K)
      refine Calm.walk_eff rfl rfl (fun n wy _ hR _ => ?_) ?_
      · obtain ⟨hR1, hF⟩ := hR
        unfold gives
        go_simp
        refine (component_any 3 (by decide) (some ⟨b1, 0, none⟩) (some ⟨b2, 0, none⟩) (some ⟨b3, 0, none⟩) 256 64 64 wy).mono ?_
        rintro e wz ⟨he, hk⟩
        rw [HFF.out] at hF
        exact ⟨.slice (some ⟨b1, 0, none⟩) 256 256, he, (by show _ = us _; rw [US.out]; rfl), hk.weak, ⟨hR1.trans hk.weak, by rw [HFF.out]; exact hF.keep hk (fun e => e)⟩, fun _ h => h.elim⟩
      intro v wy hv
      obtain rfl : v = .slice (some ⟨b1, 0, none⟩) 256 256 := by have h : v = us 2 := hv; rw [US.out] at h; exact h
      clear wy hv
      go_frame
      repeat (refine Calm.walk_quiet ne rfl rfl rfl (fun K hK => ?_); go_big_quiet_op; refine hK _ ?_; clear hK K)
      refine Calm.walk_eff rfl rfl (fun n wy _ hR _ => ?_) ?_
      · obtain ⟨hR1, hF⟩ := hR
        unfold gives
        go_simp
        refine (place_any 3 (by decide) wy).mono ?_
        rintro e wz ⟨he, hk⟩
        rw [HFF.out] at hF
        exact ⟨.agg #[.int .i64 136, .int .i64 16, .int .i64 8, .int .i64 8], he, (by show _ = us _; rw [US.out]; rfl), hk.weak, ⟨hR1.trans hk.weak, by rw [HFF.out]; exact hF.keep hk (fun e => e)⟩, fun _ h => h.elim⟩
      intro v wy hv
      obtain rfl : v = .agg #[.int .i64 136, .int .i64 16, .int .i64 8, .int .i64 8] := by have h : v = us 9 := hv; rw [US.out] at h; exact h
      clear wy hv
      go_frame
      repeat (refine Calm.walk_quiet ne rfl rfl rfl (fun K hK => ?_); go_big_quiet_op; refine hK _ ?_; clear hK K)
      refine Calm.walk_eff rfl rfl (fun n wy _ hR _ => ?_) ?_
      · obtain ⟨hR1, hF⟩ := hR
        rw [HFF.out] at hF
        unfold gives
        go_simp
        refine (paste3 z b1 w2.heap.size wy hF (X7.out.keep hR1 (one_ne NE.out.1)) HZ.out NE.out.1).mono ?_
        rintro e wz ⟨rfl, hp, hk⟩
        exact ⟨_, rfl, (by show _ = us _; rw [US.out]; rfl), hk, ⟨hR1.trans hk, by rw [HFF.out]; exact hp⟩, fun _ h => h.elim⟩
      intro v wy hv
      obtain rfl : v = .tuple #[] := by have h : v = us 11 := hv; rw [US.out] at h; exact h
      clear wy hv
      go_frame
      intro w8 hG hD
      obtain ⟨hR', hF⟩ := hG
      rw [HFF.out] at hF
      have N8 := Lib.hid (show NewFr w8 wr.heap.size z b1 b2 b3 from ⟨hF, NF.out.u.keep hR' (one_ne (Ne.symm NF.out.yu)), NF.out.v.keep hR' (one_ne (Ne.symm NF.out.yv)), NF.out.yu, NF.out.yv, NF.out.uv, NF.out.l1, NF.out.l2, NF.out.l3⟩)
      have O8 := Lib.hid (O7.out.keep hR' (one_ne NE.out.2.2.2))
      have R8 := Lib.hid (R7.out.keep hR' (one_ne NE.out.2.2.1))
      have K8 := Lib.hid (K7.out.own hR' (show w.heap.size ≤ b1 from by have h1 := NF.out.l1; have h2 := NF.out.l2; have h3 := NF.out.l3; have h5 := LW.out; omega))
      clear hR' hF hD gd ne hst x0 xl US HFF
      simp only [pickOps, List.filterMap_nil]
      have v1 : True := trivial
      have v2 : True := trivial
      go_wp2_with (first | (have _t := v1; refine wpList_load_blk rfl 32 (.tmp 17) rfl w6.heap.size 32 _ _ rfl O8.out Tryz.underlying32 rfl (by kernel_rfl) ?_; go_frame; clear _t v1) | (have _t := v2; refine wpList_store_blk rfl 32 (.tmp 12) (.tmp 60) rfl (w.heap.size + 1 + 1) 32 _ _ rfl rfl R8.out rfl (by kernel_rfl) (by simp [Value.oneCell']) ?_; intro w12 hb12 hk12 hs12; have B12 := Lib.hid hb12; have K12 := Lib.hid hk12; clear hb12 hk12 hs12; go_frame; clear _t v2))
      have hh := N8.out
      have l5 := LW.out
      have l1 := hh.l1
      have l2 := hh.l2
      have l3 := hh.l3
      refine bodyPost_ret (results_cell_tmp' Tryz.results115 rfl (run_loadVar_blk B12.out Tryz.underlying32 rfl (by kernel_rfl))) rfl ⟨b1, b2, b3, rfl, (hh.keep K12.out (one_ne (by omega)) (one_ne (by omega)) (one_ne (by omega))).low (by omega), K8.out.own K12.out (by omega)⟩
set_option maxRecDepth 100000 in
set_option maxHeartbeats 2000000 in
theorem setblock4 (z : Int) (hz : 0 ≤ z ∧ z ≤ 255) (A1 A2 A3 : Option Addr) (c1 c2 c3 : Nat) (w : World) (hf : FrC w z A1 A2 A3 c1 c2 c3) : Calls Tryz.prog 115 #[.agg #[.int .i64 16, .int .i64 16, .slice A1 256 c1, .slice A2 64 c2, .slice A3 64 c3], .int .i64 0, .int .i64 0, .int .i64 4, .bool false, .agg (A64 z)] w fun e w' => ∃ b1 b2 b3, e = .returned (.tuple #[.agg #[.int .i64 16, .int .i64 16, .slice (some ⟨b1, 0, none⟩) 256 256, .slice (some ⟨b2, 0, none⟩) 64 64, .slice (some ⟨b3, 0, none⟩) 64 64], .int .i64 0]) ∧ NewFr w' w.heap.size z b1 b2 b3 ∧ Keep none_ w w' := by
  obtain ⟨ac, hac⟩ : ∃ ac, ac = A64 z := ⟨_, rfl⟩
  have AS := Lib.hid (show ac.size = 64 by rw [hac]; exact A64_size z)
  have AG := Lib.hid (show ∀ k, k < 64 → ac[k]? = some (.int .i64 z) from fun k hk => by rw [hac]; exact A64_get z k hk)
  rw [← hac]
  clear hac
  have mk : ∀ w, (Instr.makeSlice 30 (.int .i64 64) (.int .i64 64)).run Tryz.prog w = .ok (.slice (some ⟨w.heap.size, 0, none⟩) 64 64) (w.alloc (.cells (madeCells #[.int .u8 0] 64) 5)) := mk_u8 64 (by decide)
  obtain ⟨W0, hW0⟩ : ∃ W0, W0 = ((w.alloc (.cells #[.int .i64 16, .int .i64 16, .slice A1 256 c1, .slice A2 64 c2, .slice A3 64 c3] 32)).alloc (.cells ac 99)).alloc (.cells #[.int .i64 0, .int .i64 0, .slice none 0 0, .slice none 0 0, .slice none 0 0] 32) := ⟨_, rfl⟩
  obtain ⟨f0, a0, r0, k0⟩ := three (Keep.eq_ hW0)
  have HF := Lib.hid (hf.keep k0)
  have F0 := Lib.hid f0
  have A0 := Lib.hid a0
  have R0 := Lib.hid r0
  have K0 := Lib.hid k0
  have S0 := Lib.hid (show w.heap.size + 1 + 1 < W0.heap.size from (show Blk _ _ _ _ from r0).lt)
  have HZ := Lib.hid hz
  clear k0 f0 a0 r0 hf hz
  have t1 : True := trivial
  have t2 : True := trivial
  go_enter Tryz.func115, Tryz.ntmps115
  go_upto_region 1 with (fail)
  rw [← hW0]
  clear hW0
  go_upto_region 3 with (first | (have _t := t1; refine wpList_load_blk rfl 32 (.tmp 6) rfl w.heap.size 32 _ _ rfl F0.out Tryz.underlying32 rfl (by kernel_rfl) ?_; go_frame; clear _t t1) | (have _t := t2; go_at_call 80; refine (has_any A1 A2 A3 c1 c2 c3 W0).mono ?_; rintro e w2 ⟨rfl, k2⟩; have F2 := Lib.hid (F0.out.keep k2 (fun e => e)); have A2' := Lib.hid (A0.out.keep k2 (fun e => e)); have R2 := Lib.hid (R0.out.keep k2 (fun e => e)); have HF2 := Lib.hid (HF.out.keep k2); have K2 := Lib.hid (K0.out.trans k2); have S2 := Lib.hid (Nat.lt_of_lt_of_le S0.out k2.size); clear k2 _t t2))
  go_upto_region 4 with (fail)
  obtain ⟨w3, hw3⟩ : ∃ w3, w3 = w2.alloc (.cells (madeCells #[.int .u8 0] 64) 5) := ⟨_, rfl⟩
  rw [← hw3]
  have k3 : Keep none_ w2 w3 := hw3 ▸ (Keep.refl none_ w2).alloc _
  have X3 := Lib.hid (show ByteBlk w3 w2.heap.size (mixL 64 0 0 z) by rw [mixL_zero]; exact ByteBlk.made w3 64 _ (hw3 ▸ Blk.new _ _ _))
  have A3' := Lib.hid (A2'.out.keep k3 (fun e => e))
  have KX3 := Lib.hid k3
  clear hw3 k3
  have t3 : True := trivial
  go_upto_region 5 with (have _t := t3; refine wpList_load_blk rfl 99 (.tmp 11) rfl (w.heap.size + 1) 99 _ _ rfl A3'.out Tryz.underlying99 rfl (by rw [AS.out]; kernel_rfl) ?_; go_frame; clear _t t3)
  go_loopw [34] (fun i wr => ∃ k : Nat, k ≤ 64 ∧ i = .int .i64 k ∧ ByteBlk wr w2.heap.size (mixL 64 k 0 z) ∧ Keep (one w2.heap.size) w3 wr) (fun i _ => 64 - (intOf i).toNat)
  case atStart => exact ⟨0, by decide, rfl, X3.out, Keep.refl _ _⟩
  case round =>
    obtain ⟨k, hk, rfl, hX, hkr⟩ := hrel
    have HX := Lib.hid hX
    have HK := Lib.hid hkr
    clear hX hkr
    by_cases hlt : k < 64
    · have hlt' : (k : Int) < 64 := by omega
      have hc := run_index_i64a ac k _ hlt (AG.out k hlt)
      have c7 := HX.out.cell (k := k) (by rw [mixL_length (by omega)]; exact hlt)
      have z7 := Blk.frozen HX.out.1 k
      have XS := Lib.hid (show ByteBlk (wr.setCell ⟨w2.heap.size, k, none⟩ (.int .u8 z)) w2.heap.size (mixL 64 (k + 1) 0 z) from by have h := HX.out.set_ k HZ.out; rw [mixL_set hlt] at h; exact h)
      have KS := Lib.hid (show Keep (one w2.heap.size) w3 (wr.setCell ⟨w2.heap.size, k, none⟩ (.int .u8 z)) from HK.out.setCell (p := ⟨w2.heap.size, k, none⟩) (.inl rfl) _)
      obtain ⟨z1, z2⟩ := HZ.out
      generalize (mixL 64 k 0 z)[k]'_ = q at c7
      go_wp2
      go_roundw
      case rel => exact ⟨k + 1, hlt, by go_num, XS.out, KS.out⟩
      case measure => simp [intOf]; omega
    · obtain rfl : k = 64 := by omega
      have X5 := Lib.hid (show ByteBlk wr w2.heap.size (List.replicate 64 z) from by have h := HX.out; rw [mixL_all] at h; exact h)
      have ne2 : ∀ b, b ≠ w2.heap.size → ¬ one w2.heap.size b := fun b h e => h e
      have KW := Lib.hid (show Keep none_ w2 wr from KX3.out.own HK.out (Nat.le_refl _))
      have F5 := Lib.hid (F2.out.keep KW.out (fun e => e))
      have R5 := Lib.hid (R2.out.keep KW.out (fun e => e))
      have HF5 := Lib.hid (HF2.out.keep KW.out)
      have K5 := Lib.hid (K2.out.trans KW.out)
      clear hlt hk HX HK ne2
      have u1 : True := trivial
      have u2 : True := trivial
      have u3 : True := trivial
      go_upto_region 10 with (first | (have _t := u1; refine wpList_load_blk rfl 32 (.tmp 6) rfl w.heap.size 32 _ _ rfl F5.out Tryz.underlying32 rfl (by kernel_rfl) ?_; go_frame; clear _t u1) | (have _t := u2; go_at_call 81; refine (clone_any z A1 A2 A3 c1 c2 c3 wr HF5.out).mono ?_; rintro e w6 ⟨b1, b2, b3, rfl, hn, k4⟩; have HN6 := Lib.hid hn; have KX6 := Lib.hid k4; clear hn k4 _t u2) | (have _t := u3; refine wpList_store_blk rfl 32 (.tmp 17) (.tmp 47) rfl w6.heap.size 32 _ #[.int .i64 16, .int .i64 16, .slice (some ⟨b1, 0, none⟩) 256 256, .slice (some ⟨b2, 0, none⟩) 64 64, .slice (some ⟨b3, 0, none⟩) 64 64] rfl rfl (Blk.new _ _ _) rfl (by kernel_rfl) (by simp [Value.oneCell']) ?_; intro w7 h5 k5 s5; have O7 := Lib.hid h5; have KX7 := Lib.hid (show Keep none_ w6 w7 from ((Keep.refl none_ w6).alloc _).own k5 (Nat.le_refl _)); clear h5 k5 s5; go_frame; clear _t u3))
      have KY7 := Lib.hid (KX6.out.trans KX7.out)
      have F7 := Lib.hid (F5.out.keep KY7.out (fun e => e))
      have R7 := Lib.hid (R5.out.keep KY7.out (fun e => e))
      have X7 := Lib.hid (X5.out.keep KY7.out (fun e => e))
      have NF := Lib.hid (HN6.out.keep0 KX7.out)
      have K7 := Lib.hid (K5.out.trans KY7.out)
      have LS := Lib.hid (Blk.lt' X5.out)
      have LW := Lib.hid (show w.heap.size + 1 + 1 < wr.heap.size from Nat.lt_of_lt_of_le S2.out KW.out.size)
      have LB := Lib.hid (show b1 < w6.heap.size ∧ b2 < w6.heap.size ∧ b3 < w6.heap.size from ⟨Blk.lt' HN6.out.y, Blk.lt' HN6.out.u, Blk.lt' HN6.out.v⟩)
      clear F5 R5 HF5 K5 HN6
      have NE := Lib.hid (show w2.heap.size ≠ b2 ∧ w.heap.size ≠ b2 ∧ w.heap.size + 1 + 1 ≠ b2 ∧ w6.heap.size ≠ b2 from by
        have h1 := NF.out.l1; have h2 := NF.out.l2; have h3 := NF.out.l3; have h4 := LS.out; have h5 := LW.out; obtain ⟨h6, h7, h8⟩ := LB.out
        omega)
      obtain ⟨us, hus⟩ : ∃ us : Nat → Value, us = fun k => if k = 2 then .slice (some ⟨b2, 0, none⟩) 64 64 else if k = 9 then .agg #[.int .i64 0, .int .i64 8, .int .i64 8, .int .i64 8] else .tuple #[] := ⟨_, rfl⟩
      have US := Lib.hid hus
      clear hus
      obtain ⟨F, hF⟩ : ∃ F : World → Prop, F = fun y => ByteBlk y b2 (List.replicate 64 z) := ⟨_, rfl⟩
      have HFF := Lib.hid hF
      clear hF
      have gd : (mutCalm w7 [2, 9, 11] (one b2) F us).Good := mutCalm_good
      have hst : F w7.drew := by rw [HFF.out]; exact NF.out.u.keep (Keep.refl none_ _).drew (fun e => e)
      have ne : Nonempty (mutCalm w7 [2, 9, 11] (one b2) F us).Sub := mutCalm_some (by rw [HFF.out]; exact NF.out.u)
      have x0 : ∀ y : (mutCalm w7 [2, 9, 11] (one b2) F us).Sub, ((mutCalm w7 [2, 9, 11] (one b2) F us).at_ y).cell? ⟨w.heap.size, 0, none⟩ = some (.int .i64 16) := fun y => (mutCalm_at y).cell (F7.out.cell 0) (one_ne NE.out.2.1)
      have xl : ∀ y : (mutCalm w7 [2, 9, 11] (one b2) F us).Sub, ((mutCalm w7 [2, 9, 11] (one b2) F us).at_ y).rangeAt w6.heap.size 0 #[.int .i64 16, .int .i64 16, .slice (some ⟨b1, 0, none⟩) 256 256, .slice (some ⟨b2, 0, none⟩) 64 64, .slice (some ⟨b3, 0, none⟩) 64 64].toList := fun y => (O7.out.keep (mutCalm_at y) (one_ne NE.out.2.2.2)).rangeAt
      refine wp_region_calm (mutCalm w7 [2, 9, 11] (one b2) F us) [0, 1, 2, 3, 4, 5, 6, 7, 8, 9, 10, 11] [] 61 (by kernel_rfl) (by kernel_rfl) rfl gd ⟨(Keep.refl _ _).drew, hst⟩ ?_
      simp only [pairs, List.filterMap_cons, List.filterMap_nil, List.getElem?_toArray, List.getElem?_cons_succ, List.getElem?_cons_zero, Option.map_some]
      refine Calm.walk_load 32 (.tmp 17) rfl ne rfl rfl w6.heap.size 0 rfl #[.int .i64 16, .int .i64 16, .slice (some ⟨b1, 0, none⟩) 256 256, .slice (some ⟨b2, 0, none⟩) 64 64, .slice (some ⟨b3, 0, none⟩) 64 64] _ xl Tryz.underlying32 rfl (by kernel_rfl) ?_
      go_frame
      repeat (refine Calm.walk_quiet ne rfl rfl rfl (fun K hK => ?_); go_big_quiet_op; refine hK _ ?_; clear hK K)
      refine Calm.walk_eff rfl rfl (fun n wy _ hR _ => ?_) ?_
      · obtain ⟨hR1, hF⟩ := hR
        unfold gives
        go_simp
        refine (component_any 4 (by decide) (some ⟨b1, 0, none⟩) (some ⟨b2, 0, none⟩) (some ⟨b3, 0, none⟩) 256 64 64 wy).mono ?_
        rintro e wz ⟨he, hk⟩
        rw [HFF.out] at hF
        exact ⟨.slice (some ⟨b2, 0, none⟩) 64 64, he, (by show _ = us _; rw [US.out]; rfl), hk.weak, ⟨hR1.trans hk.weak, by rw [HFF.out]; exact hF.keep hk (fun e => e)⟩, fun _ h => h.elim⟩
      intro v wy hv
      obtain rfl : v = .slice (some ⟨b2, 0, none⟩) 64 64 := by have h : v = us 2 := hv; rw [US.out] at h; exact h
      clear wy hv
      go_frame
      repeat (refine Calm.walk_quiet ne rfl rfl rfl (fun K hK => ?_); go_big_quiet_op; refine hK _ ?_; clear hK K)
      refine Calm.walk_eff rfl rfl (fun n wy _ hR _ => ?_) ?_
      · obtain ⟨hR1, hF⟩ := hR
        unfold gives
        go_simp
        refine (place_any 4 (by decide) wy).mono ?_
        rintro e wz ⟨he, hk⟩
        rw [HFF.out] at hF
        exact ⟨.agg #[.int .i64 0, .int .i64 8, .int .i64 8, .int .i64 8], he, (by show _ = us _; rw [US.out]; rfl), hk.weak, ⟨hR1.trans hk.weak, by rw [HFF.out]; exact hF.keep hk (fun e => e)⟩, fun _ h => h.elim⟩
      intro v wy hv
      obtain rfl : v = .agg #[.int .i64 0, .int .i64 8, .int .i64 8, .int .i64 8] := by have h : v = us 9 := hv; rw [US.out] at h; exact h
      clear wy hv
      go_frame
      repeat (refine Calm.walk_quiet ne rfl rfl rfl (fun K hK => ?_); go_big_quiet_op; refine hK _ ?_; clear hK K)
      refine Calm.walk_eff rfl rfl (fun n wy _ hR _ => ?_) ?_
      · obtain ⟨hR1, hF⟩ := hR
        rw [HFF.out] at hF
        unfold gives
        go_simp
        refine (pasteB' z b2 w2.heap.size wy hF (X7.out.keep hR1 (one_ne NE.out.1)) HZ.out NE.out.1).mono ?_
        rintro e wz ⟨rfl, hp, hk⟩
        exact ⟨_, rfl, (by show _ = us _; rw [US.out]; rfl), hk, ⟨hR1.trans hk, by rw [HFF.out]; exact hp⟩, fun _ h => h.elim⟩
      intro v wy hv
      obtain rfl : v = .tuple #[] := by have h : v = us 11 := hv; rw [US.out] at h; exact h
      clear wy hv
      go_frame
      intro w8 hG hD
      obtain ⟨hR', hF⟩ := hG
      rw [HFF.out] at hF
      have N8 := Lib.hid (show NewFr w8 wr.heap.size z b1 b2 b3 from ⟨NF.out.y.keep hR' (one_ne NF.out.yu), hF, NF.out.v.keep hR' (one_ne (Ne.symm NF.out.uv)), NF.out.yu, NF.out.yv, NF.out.uv, NF.out.l1, NF.out.l2, NF.out.l3⟩)
      have O8 := Lib.hid (O7.out.keep hR' (one_ne NE.out.2.2.2))
      have R8 := Lib.hid (R7.out.keep hR' (one_ne NE.out.2.2.1))
      have K8 := Lib.hid (K7.out.own hR' (show w.heap.size ≤ b2 from by have h1 := NF.out.l1; have h2 := NF.out.l2; have h3 := NF.out.l3; have h5 := LW.out; omega))
      clear hR' hF hD gd ne hst x0 xl US HFF
      simp only [pickOps, List.filterMap_nil]
      have v1 : True := trivial
      have v2 : True := trivial
      go_wp2_with (first | (have _t := v1; refine wpList_load_blk rfl 32 (.tmp 17) rfl w6.heap.size 32 _ _ rfl O8.out Tryz.underlying32 rfl (by kernel_rfl) ?_; go_frame; clear _t v1) | (have _t := v2; refine wpList_store_blk rfl 32 (.tmp 12) (.tmp 60) rfl (w.heap.size + 1 + 1) 32 _ _ rfl rfl R8.out rfl (by kernel_rfl) (by simp [Value.oneCell']) ?_; intro w12 hb12 hk12 hs12; have B12 := Lib.hid hb12; have K12 := Lib.hid hk12; clear hb12 hk12 hs12; go_frame; clear _t v2))
      have hh := N8.out
      have l5 := LW.out
      have l1 := hh.l1
      have l2 := hh.l2
      have l3 := hh.l3
      refine bodyPost_ret (results_cell_tmp' Tryz.results115 rfl (run_loadVar_blk B12.out Tryz.underlying32 rfl (by kernel_rfl))) rfl ⟨b1, b2, b3, rfl, (hh.keep K12.out (one_ne (by omega)) (one_ne (by omega)) (one_ne (by omega))).low (by omega), K8.out.own K12.out (by omega)⟩
set_option maxRecDepth 100000 in
set_option maxHeartbeats 2000000 in
theorem setblock5 (z : Int) (hz : 0 ≤ z ∧ z ≤ 255) (A1 A2 A3 : Option Addr) (c1 c2 c3 : Nat) (w : World) (hf : FrC w z A1 A2 A3 c1 c2 c3) : Calls Tryz.prog 115 #[.agg #[.int .i64 16, .int .i64 16, .slice A1 256 c1, .slice A2 64 c2, .slice A3 64 c3], .int .i64 0, .int .i64 0, .int .i64 5, .bool false, .agg (A64 z)] w fun e w' => ∃ b1 b2 b3, e = .returned (.tuple #[.agg #[.int .i64 16, .int .i64 16, .slice (some ⟨b1, 0, none⟩) 256 256, .slice (some ⟨b2, 0, none⟩) 64 64, .slice (some ⟨b3, 0, none⟩) 64 64], .int .i64 0]) ∧ NewFr w' w.heap.size z b1 b2 b3 ∧ Keep none_ w w' := by
  obtain ⟨ac, hac⟩ : ∃ ac, ac = A64 z := ⟨_, rfl⟩
  have AS := Lib.hid (show ac.size = 64 by rw [hac]; exact A64_size z)
  have AG := Lib.hid (show ∀ k, k < 64 → ac[k]? = some (.int .i64 z) from fun k hk => by rw [hac]; exact A64_get z k hk)
  rw [← hac]
  clear hac
  have mk : ∀ w, (Instr.makeSlice 30 (.int .i64 64) (.int .i64 64)).run Tryz.prog w = .ok (.slice (some ⟨w.heap.size, 0, none⟩) 64 64) (w.alloc (.cells (madeCells #[.int .u8 0] 64) 5)) := mk_u8 64 (by decide)
  obtain ⟨W0, hW0⟩ : ∃ W0, W0 = ((w.alloc (.cells #[.int .i64 16, .int .i64 16, .slice A1 256 c1, .slice A2 64 c2, .slice A3 64 c3] 32)).alloc (.cells ac 99)).alloc (.cells #[.int .i64 0, .int .i64 0, .slice none 0 0, .slice none 0 0, .slice none 0 0] 32) := ⟨_, rfl⟩
  obtain ⟨f0, a0, r0, k0⟩ := three (Keep.eq_ hW0)
  have HF := Lib.hid (hf.keep k0)
  have F0 := Lib.hid f0
  have A0 := Lib.hid a0
  have R0 := Lib.hid r0
  have K0 := Lib.hid k0
  have S0 := Lib.hid (show w.heap.size + 1 + 1 < W0.heap.size from (show Blk _ _ _ _ from r0).lt)
  have HZ := Lib.hid hz
  clear k0 f0 a0 r0 hf hz
  have t1 : True := trivial
  have t2 : True := trivial
  go_enter Tryz.func115, Tryz.ntmps115
  go_upto_region 1 with (fail)
  rw [← hW0]
  clear hW0
  go_upto_region 3 with (first | (have _t := t1; refine wpList_load_blk rfl 32 (.tmp 6) rfl w.heap.size 32 _ _ rfl F0.out Tryz.underlying32 rfl (by kernel_rfl) ?_; go_frame; clear _t t1) | (have _t := t2; go_at_call 80; refine (has_any A1 A2 A3 c1 c2 c3 W0).mono ?_; rintro e w2 ⟨rfl, k2⟩; have F2 := Lib.hid (F0.out.keep k2 (fun e => e)); have A2' := Lib.hid (A0.out.keep k2 (fun e => e)); have R2 := Lib.hid (R0.out.keep k2 (fun e => e)); have HF2 := Lib.hid (HF.out.keep k2); have K2 := Lib.hid (K0.out.trans k2); have S2 := Lib.hid (Nat.lt_of_lt_of_le S0.out k2.size); clear k2 _t t2))
  go_upto_region 4 with (fail)
  obtain ⟨w3, hw3⟩ : ∃ w3, w3 = w2.alloc (.cells (madeCells #[.int .u8 0] 64) 5) := ⟨_, rfl⟩
  rw [← hw3]
  have k3 : Keep none_ w2 w3 := hw3 ▸ (Keep.refl none_ w2).alloc _
  have X3 := Lib.hid (show ByteBlk w3 w2.heap.size (mixL 64 0 0 z) by rw [mixL_zero]; exact ByteBlk.made w3 64 _ (hw3 ▸ Blk.new _ _ _))
  have A3' := Lib.hid (A2'.out.keep k3 (fun e => e))
  have KX3 := Lib.hid k3
  clear hw3 k3
  have t3 : True := trivial
  go_upto_region 5 with (have _t := t3; refine wpList_load_blk rfl 99 (.tmp 11) rfl (w.heap.size + 1) 99 _ _ rfl A3'.out Tryz.underlying99 rfl (by rw [AS.out]; kernel_rfl) ?_; go_frame; clear _t t3)
  go_loopw [34] (fun i wr => ∃ k : Nat, k ≤ 64 ∧ i = .int .i64 k ∧ ByteBlk wr w2.heap.size (mixL 64 k 0 z) ∧ Keep (one w2.heap.size) w3 wr) (fun i _ => 64 - (intOf i).toNat)
  case atStart => exact ⟨0, by decide, rfl, X3.out, Keep.refl _ _⟩
  case round =>
    obtain ⟨k, hk, rfl, hX, hkr⟩ := hrel
    have HX := Lib.hid hX
    have HK := Lib.hid hkr
    clear hX hkr
    by_cases hlt : k < 64
    · have hlt' : (k : Int) < 64 := by omega
      have hc := run_index_i64a ac k _ hlt (AG.out k hlt)
      have c7 := HX.out.cell (k := k) (by rw [mixL_length (by omega)]; exact hlt)
      have z7 := Blk.frozen HX.out.1 k
      have XS := Lib.hid (show ByteBlk (wr.setCell ⟨w2.heap.size, k, none⟩ (.int .u8 z)) w2.heap.size (mixL 64 (k + 1) 0 z) from by have h := HX.out.set_ k HZ.out; rw [mixL_set hlt] at h; exact h)
      have KS := Lib.hid (show Keep (one w2.heap.size) w3 (wr.setCell ⟨w2.heap.size, k, none⟩ (.int .u8 z)) from HK.out.setCell (p := ⟨w2.heap.size, k, none⟩) (.inl rfl) _)
      obtain ⟨z1, z2⟩ := HZ.out
      generalize (mixL 64 k 0 z)[k]'_ = q at c7
      go_wp2
      go_roundw
      case rel => exact ⟨k + 1, hlt, by go_num, XS.out, KS.out⟩
      case measure => simp [intOf]; omega
    · obtain rfl : k = 64 := by omega
      have X5 := Lib.hid (show ByteBlk wr w2.heap.size (List.replicate 64 z) from by have h := HX.out; rw [mixL_all] at h; exact h)
      have ne2 : ∀ b, b ≠ w2.heap.size → ¬ one w2.heap.size b := fun b h e => h e
      have KW := Lib.hid (show Keep none_ w2 wr from KX3.out.own HK.out (Nat.le_refl _))
      have F5 := Lib.hid (F2.out.keep KW.out (fun e => e))
      have R5 := Lib.hid (R2.out.keep KW.out (fun e => e))
      have HF5 := Lib.hid (HF2.out.keep KW.out)
      have K5 := Lib.hid (K2.out.trans KW.out)
      clear hlt hk HX HK ne2
      have u1 : True := trivial
      have u2 : True := trivial
      have u3 : True := trivial
      go_upto_region 10 with (first | (have _t := u1; refine wpList_load_blk rfl 32 (.tmp 6) rfl w.heap.size 32 _ _ rfl F5.out Tryz.underlying32 rfl (by kernel_rfl) ?_; go_frame; clear _t u1) | (have _t := u2; go_at_call 81; refine (clone_any z A1 A2 A3 c1 c2 c3 wr HF5.out).mono ?_; rintro e w6 ⟨b1, b2, b3, rfl, hn, k4⟩; have HN6 := Lib.hid hn; have KX6 := Lib.hid k4; clear hn k4 _t u2) | (have _t := u3; refine wpList_store_blk rfl 32 (.tmp 17) (.tmp 47) rfl w6.heap.size 32 _ #[.int .i64 16, .int .i64 16, .slice (some ⟨b1, 0, none⟩) 256 256, .slice (some ⟨b2, 0, none⟩) 64 64, .slice (some ⟨b3, 0, none⟩) 64 64] rfl rfl (Blk.new _ _ _) rfl (by kernel_rfl) (by simp [Value.oneCell']) ?_; intro w7 h5 k5 s5; have O7 := Lib.hid h5; have KX7 := Lib.hid (show Keep none_ w6 w7 from ((Keep.refl none_ w6).alloc _).own k5 (Nat.le_refl _)); clear h5 k5 s5; go_frame; clear _t u3))
      have KY7 := Lib.hid (KX6.out.trans KX7.out)
      have F7 := Lib.hid (F5.out.keep KY7.out (fun e => e))
      have R7 := Lib.hid (R5.out.keep KY7.out (fun e => e))
      have X7 := Lib.hid (X5.out.keep KY7.out (fun e => e))
      have NF := Lib.hid (HN6.out.keep0 KX7.out)
      have K7 := Lib.hid (K5.out.trans KY7.out)
      have LS := Lib.hid (Blk.lt' X5.out)
      have LW := Lib.hid (show w.heap.size + 1 + 1 < wr.heap.size from Nat.lt_of_lt_of_le S2.out KW.out.size)
      have LB := Lib.hid (show b1 < w6.heap.size ∧ b2 < w6.heap.size ∧ b3 < w6.heap.size from ⟨Blk.lt' HN6.out.y, Blk.lt' HN6.out.u, Blk.lt' HN6.out.v⟩)
      clear F5 R5 HF5 K5 HN6
      have NE := Lib.hid (show w2.heap.size ≠ b3 ∧ w.heap.size ≠ b3 ∧ w.heap.size + 1 + 1 ≠ b3 ∧ w6.heap.size ≠ b3 from by
        have h1 := NF.out.l1; have h2 := NF.out.l2; have h3 := NF.out.l3; have h4 := LS.out; have h5 := LW.out; obtain ⟨h6, h7, h8⟩ := LB.out
        omega)
      obtain ⟨us, hus⟩ : ∃ us : Nat → Value, us = fun k => if k = 2 then .slice (some ⟨b3, 0, none⟩) 64 64 else if k = 9 then .agg #[.int .i64 0, .int .i64 8, .int .i64 8, .int .i64 8] else .tuple #[] := ⟨_, rfl⟩
      have US := Lib.hid hus
      clear hus
      obtain ⟨F, hF⟩ : ∃ F : World → Prop, F = fun y => ByteBlk y b3 (List.replicate 64 z) := ⟨_, rfl⟩
      have HFF := Lib.hid hF
      clear hF
      have gd : (mutCalm w7 [2, 9, 11] (one b3) F us).Good := mutCalm_good
      have hst : F w7.drew := by rw [HFF.out]; exact NF.out.v.keep (Keep.refl none_ _).drew (fun e => e)
      have ne : Nonempty (mutCalm w7 [2, 9, 11] (one b3) F us).Sub := mutCalm_some (by rw [HFF.out]; exact NF.out.v)
      have x0 : ∀ y : (mutCalm w7 [2, 9, 11] (one b3) F us).Sub, ((mutCalm w7 [2, 9, 11] (one b3) F us).at_ y).cell? ⟨w.heap.size, 0, none⟩ = some (.int .i64 16) := fun y => (mutCalm_at y).cell (F7.out.cell 0) (one_ne NE.out.2.1)
      have xl : ∀ y : (mutCalm w7 [2, 9, 11] (one b3) F us).Sub, ((mutCalm w7 [2, 9, 11] (one b3) F us).at_ y).rangeAt w6.heap.size 0 #[.int .i64 16, .int .i64 16, .slice (some ⟨b1, 0, none⟩) 256 256, .slice (some ⟨b2, 0, none⟩) 64 64, .slice (some ⟨b3, 0, none⟩) 64 64].toList := fun y => (O7.out.keep (mutCalm_at y) (one_ne NE.out.2.2.2)).rangeAt
      refine wp_region_calm (mutCalm w7 [2, 9, 11] (one b3) F us) [0, 1, 2, 3, 4, 5, 6, 7, 8, 9, 10, 11] [] 61 (by kernel_rfl) (by kernel_rfl) rfl gd ⟨(Keep.refl _ _).drew, hst⟩ ?_
      simp only [pairs, List.filterMap_cons, List.filterMap_nil, List.getElem?_toArray, List.getElem?_cons_succ, List.getElem?_cons_zero, Option.map_some]
      refine Calm.walk_load 32 (.tmp 17) rfl ne rfl rfl w6.heap.size 0 rfl #[.int .i64 16, .int .i64 16, .slice (some ⟨b1, 0, none⟩) 256 256, .slice (some ⟨b2, 0, none⟩) 64 64, .slice (some ⟨b3, 0, none⟩) 64 64] _ xl Tryz.underlying32 rfl (by kernel_rfl) ?_
      go_frame
      repeat (refine Calm.walk_quiet ne rfl rfl rfl (fun K hK => ?_); go_big_quiet_op; refine hK _ ?_; clear hK K)
      refine Calm.walk_eff rfl rfl (fun n wy _ hR _ => ?_) ?_
      · obtain ⟨hR1, hF⟩ := hR
        unfold gives
        go_simp
        refine (component_any 5 (by decide) (some ⟨b1, 0, none⟩) (some ⟨b2, 0, none⟩) (some ⟨b3, 0, none⟩) 256 64 64 wy).mono ?_
        rintro e wz ⟨he, hk⟩
        rw [HFF.out] at hF
        exact ⟨.slice (some ⟨b3, 0, none⟩) 64 64, he, (by show _ = us _; rw [US.out]; rfl), hk.weak, ⟨hR1.trans hk.weak, by rw [HFF.out]; exact hF.keep hk (fun e => e)⟩, fun _ h => h.elim⟩
      intro v wy hv
      obtain rfl : v = .slice (some ⟨b3, 0, none⟩) 64 64 := by have h : v = us 2 := hv; rw [US.out] at h; exact h
      clear wy hv
      go_frame
      repeat (refine Calm.walk_quiet ne rfl rfl rfl (fun K hK => ?_); go_big_quiet_op; refine hK _ ?_; clear hK K)
      refine Calm.walk_eff rfl rfl (fun n wy _ hR _ => ?_) ?_
      · obtain ⟨hR1, hF⟩ := hR
        unfold gives
        go_simp
        refine (place_any 5 (by decide) wy).mono ?_
        rintro e wz ⟨he, hk⟩
        rw [HFF.out] at hF
        exact ⟨.agg #[.int .i64 0, .int .i64 8, .int .i64 8, .int .i64 8], he, (by show _ = us _; rw [US.out]; rfl), hk.weak, ⟨hR1.trans hk.weak, by rw [HFF.out]; exact hF.keep hk (fun e => e)⟩, fun _ h => h.elim⟩
      intro v wy hv
      obtain rfl : v = .agg #[.int .i64 0, .int .i64 8, .int .i64 8, .int .i64 8] := by have h : v = us 9 := hv; rw [US.out] at h; exact h
      clear wy hv
      go_frame
      repeat (refine Calm.walk_quiet ne rfl rfl rfl (fun K hK => ?_); go_big_quiet_op; refine hK _ ?_; clear hK K)
      refine Calm.walk_eff rfl rfl (fun n wy _ hR _ => ?_) ?_
      · obtain ⟨hR1, hF⟩ := hR
        rw [HFF.out] at hF
        unfold gives
        go_simp
        refine (pasteB' z b3 w2.heap.size wy hF (X7.out.keep hR1 (one_ne NE.out.1)) HZ.out NE.out.1).mono ?_
        rintro e wz ⟨rfl, hp, hk⟩
        exact ⟨_, rfl, (by show _ = us _; rw [US.out]; rfl), hk, ⟨hR1.trans hk, by rw [HFF.out]; exact hp⟩, fun _ h => h.elim⟩
      intro v wy hv
      obtain rfl : v = .tuple #[] := by have h : v = us 11 := hv; rw [US.out] at h; exact h
      clear wy hv
      go_frame
      intro w8 hG hD
      obtain ⟨hR', hF⟩ := hG
      rw [HFF.out] at hF
      have N8 := Lib.hid (show NewFr w8 wr.heap.size z b1 b2 b3 from ⟨NF.out.y.keep hR' (one_ne NF.out.yv), NF.out.u.keep hR' (one_ne NF.out.uv), hF, NF.out.yu, NF.out.yv, NF.out.uv, NF.out.l1, NF.out.l2, NF.out.l3⟩)
      have O8 := Lib.hid (O7.out.keep hR' (one_ne NE.out.2.2.2))
      have R8 := Lib.hid (R7.out.keep hR' (one_ne NE.out.2.2.1))
      have K8 := Lib.hid (K7.out.own hR' (show w.heap.size ≤ b3 from by have h1 := NF.out.l1; have h2 := NF.out.l2; have h3 := NF.out.l3; have h5 := LW.out; omega))
      clear hR' hF hD gd ne hst x0 xl US HFF
      simp only [pickOps, List.filterMap_nil]
      have v1 : True := trivial
      have v2 : True := trivial
      go_wp2_with (first | (have _t := v1; refine wpList_load_blk rfl 32 (.tmp 17) rfl w6.heap.size 32 _ _ rfl O8.out Tryz.underlying32 rfl (by kernel_rfl) ?_; go_frame; clear _t v1) | (have _t := v2; refine wpList_store_blk rfl 32 (.tmp 12) (.tmp 60) rfl (w.heap.size + 1 + 1) 32 _ _ rfl rfl R8.out rfl (by kernel_rfl) (by simp [Value.oneCell']) ?_; intro w12 hb12 hk12 hs12; have B12 := Lib.hid hb12; have K12 := Lib.hid hk12; clear hb12 hk12 hs12; go_frame; clear _t v2))
      have hh := N8.out
      have l5 := LW.out
      have l1 := hh.l1
      have l2 := hh.l2
      have l3 := hh.l3
      refine bodyPost_ret (results_cell_tmp' Tryz.results115 rfl (run_loadVar_blk B12.out Tryz.underlying32 rfl (by kernel_rfl))) rfl ⟨b1, b2, b3, rfl, (hh.keep K12.out (one_ne (by omega)) (one_ne (by omega)) (one_ne (by omega))).low (by omega), K8.out.own K12.out (by omega)⟩
end Go.Proofs.YtebdgoikmclflaaGreatDoor
