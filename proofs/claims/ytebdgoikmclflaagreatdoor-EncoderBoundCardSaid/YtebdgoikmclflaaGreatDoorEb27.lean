/-
  slices.SortFunc of at most eight small numbers: they stay small.
-/
import Derived.Test.YtebdgoikmclflaaGreatDoorEb26
namespace Go.Proofs.YtebdgoikmclflaaGreatDoor
open Go.RowKit

/-- Block g holds 64 numbers, each at least 0 and less than 64. -/
def OrdB (w : World) (g : Nat) : Prop := ∃ zs : List Int, zs.length = 64 ∧ IntsB w g 99 zs ∧ ∀ z ∈ zs, 0 ≤ z ∧ z < 64
theorem OrdB.keep {w w' : World} {S : Nat → Prop} {g : Nat} (h : OrdB w g) (k : Keep S w w') (hS : ¬ S g) : OrdB w' g := by
  obtain ⟨zs, h1, h2, h3⟩ := h
  exact ⟨zs, h1, Blk.keep h2 k hS, h3⟩
theorem OrdB.drew {w : World} {g : Nat} (h : OrdB w g) : OrdB w.drew g := by
  obtain ⟨zs, h1, h2, h3⟩ := h
  exact ⟨zs, h1, Blk.drew h2, h3⟩
theorem OrdB.cell {w : World} {g : Nat} (h : OrdB w g) (k : Nat) (hk : k < 64) : ∃ z, w.cell? ⟨g, k, none⟩ = some (.int .i64 z) ∧ 0 ≤ z ∧ z < 64 := by
  obtain ⟨zs, h1, h2, h3⟩ := h
  refine ⟨_, IntsB.cell h2 k (by omega), ?_⟩
  rw [List.getD, List.getElem?_eq_getElem (by omega)]
  exact h3 _ (List.getElem_mem (by omega))
theorem OrdB.froz {w : World} {g : Nat} (h : OrdB w g) (k : Nat) : w.frozen? ⟨g, k, none⟩ = false := by
  obtain ⟨zs, h1, h2, h3⟩ := h
  exact Blk.frozen h2 k
theorem OrdB.set_ {w : World} {g : Nat} (h : OrdB w g) (k : Nat) {z : Int} (h0 : 0 ≤ z) (h1 : z < 64) : OrdB (w.setCell ⟨g, k, none⟩ (.int .i64 z)) g := by
  obtain ⟨zs, g1, g2, g3⟩ := h
  refine ⟨zs.set k z, by rw [List.length_set]; exact g1, g2.set_ k z, fun y hy => ?_⟩
  rcases List.mem_or_eq_of_mem_set hy with h | h
  · exact g3 y h
  · rw [h]; exact ⟨h0, h1⟩
theorem OrdB.lt {w : World} {g : Nat} (h : OrdB w g) : g < w.heap.size := by
  obtain ⟨zs, g1, g2, g3⟩ := h
  exact (show Blk _ _ _ _ from g2).lt
set_option maxRecDepth 100000 in
theorem isNaN_any (x : Int) (w : World) : Calls Tryz.prog 195 #[.int .i64 x] w fun e w' => e = .returned (.bool false) ∧ w = w' := by
  go_enter Tryz.func195, Tryz.ntmps195
  go_wp2
  go_ret
  exact ⟨rfl, rfl⟩
set_option maxRecDepth 100000 in
set_option maxHeartbeats 1000000 in
theorem compare_any (x y : Int) (w : World) : Calls Tryz.prog 190 #[.int .i64 x, .int .i64 y] w fun e w' => ∃ r, e = .returned (.int .i64 r) ∧ (-1 ≤ r ∧ r ≤ 1) ∧ w = w' := by
  by_cases h1 : x < y
  · go_enter Tryz.func190, Tryz.ntmps190
    go_wp2_with (go_at_call 195; refine (isNaN_any _ _).mono ?_; rintro e w' ⟨rfl, rfl⟩)
    go_ret
    exact ⟨-1, rfl, by decide, rfl⟩
  · by_cases h2 : y < x
    · go_enter Tryz.func190, Tryz.ntmps190
      go_wp2_with (go_at_call 195; refine (isNaN_any _ _).mono ?_; rintro e w' ⟨rfl, rfl⟩)
      go_ret
      exact ⟨1, rfl, by decide, rfl⟩
    · go_enter Tryz.func190, Tryz.ntmps190
      go_wp2_with (go_at_call 195; refine (isNaN_any _ _).mono ?_; rintro e w' ⟨rfl, rfl⟩)
      go_ret
      exact ⟨0, rfl, by decide, rfl⟩
set_option maxRecDepth 100000 in
set_option maxHeartbeats 1000000 in
theorem zcmp_any (x y s : Int) (bs : Nat) (w : World) (hx : 0 ≤ x ∧ x < 64) (hy : 0 ≤ y ∧ y < 64) (hs : 0 ≤ s ∧ s < 15) (hc : w.cell? ⟨bs, 0, none⟩ = some (.int .i64 s)) : Calls Tryz.prog 189 #[.int .i64 x, .int .i64 y, .pointer (some ⟨bs, 0, none⟩)] w fun e w' => ∃ r, e = .returned (.int .i64 r) ∧ (-1 ≤ r ∧ r ≤ 1) ∧ w = w' := by
  obtain ⟨x0, x1⟩ := hx
  obtain ⟨y0, y1⟩ := hy
  obtain ⟨s0, s1⟩ := hs
  by_cases h : s % 2 = 0
  · go_enter Tryz.func189, Tryz.ntmps189
    go_wp2_with (go_at_call 190; refine (compare_any _ _ _).mono ?_; rintro e w' ⟨r, rfl, hr, rfl⟩; have HR := Lib.hid hr; clear hr)
    go_ret
    exact ⟨_, rfl, HR.out, rfl⟩
  · go_enter Tryz.func189, Tryz.ntmps189
    go_wp2_with (go_at_call 190; refine (compare_any _ _ _).mono ?_; rintro e w' ⟨r, rfl, hr, rfl⟩; have HR := Lib.hid hr; clear hr)
    go_ret
    exact ⟨_, rfl, HR.out, rfl⟩
/-- The exchange of two elements. -/
def swpCalm (wr : World) (g : Nat) (ld st : List Nat) : Calm where
  R := fun _ => Keep (one g)
  G := fun _ y => Keep (one g) wr y ∧ OrdB y g
  eff := ld ++ st
  T := fun k _ v _ => k ∈ ld → ∃ z, v = .int .i64 z ∧ 0 ≤ z ∧ z < 64
  anc := fun _ => []
  own := fun _ _ _ => False
theorem swpCalm_good {wr : World} {g : Nat} {ld st : List Nat} : (swpCalm wr g ld st).Good :=
  ⟨fun _ _ h => h, fun _ _ _ h => h.size, fun _ _ _ _ _ _ _ _ h _ => h⟩
theorem swpCalm_some {wr : World} {g : Nat} {ld st : List Nat} (h : OrdB wr g) : Nonempty (swpCalm wr g ld st).Sub := ⟨⟨wr, 0, Nat.zero_le _, Keep.refl _ _, h⟩⟩
set_option maxRecDepth 100000 in
set_option maxHeartbeats 4000000 in
theorem insort_any (gx f m c bs : Nat) (s : Int) (w : World) (ho : OrdB w gx) (hf : f + m ≤ 64) (hm : 1 ≤ m) (hs : 0 ≤ s ∧ s < 15) (hc : w.cell? ⟨bs, 0, none⟩ = some (.int .i64 s)) (hne : bs ≠ gx) : Calls Tryz.prog 197 #[.slice (some ⟨gx, f, none⟩) m c, .int .i64 0, .int .i64 m, .func (.func 189) #[] #[.pointer (some ⟨bs, 0, none⟩)]] w fun e w' => e = .returned (.tuple #[]) ∧ OrdB w' gx ∧ Keep (one gx) w w' := by
  have HO := Lib.hid ho
  have HC := Lib.hid hc
  have HS := Lib.hid hs
  have NE := Lib.hid hne
  clear ho hc hne hs
  go_enter Tryz.func197, Tryz.ntmps197
  go_wp2_with (fail)
  go_loopw [8] (fun i wr => ∃ k : Nat, 1 ≤ k ∧ k ≤ m ∧ i = .int .i64 k ∧ OrdB wr gx ∧ Keep (one gx) w wr) (fun i _ => m - (intOf i).toNat)
  case atStart => exact ⟨1, by decide, hm, rfl, HO.out, Keep.refl _ _⟩
  case round =>
    obtain ⟨k, hk1, hk, rfl, hO, hkr⟩ := hrel
    obtain ⟨wa, hwa⟩ : ∃ wa, wa = wr := ⟨_, rfl⟩
    subst hwa
    have HOa := Lib.hid hO
    have HKa := Lib.hid hkr
    clear hO hkr
    by_cases hlt : k < m
    · have hlt' : (k : Int) < m := by omega
      go_wp2_with (fail)
      go_loopw [9] (fun i wr => ∃ j : Nat, j ≤ k ∧ i = .int .i64 j ∧ OrdB wr gx ∧ Keep (one gx) w wr) (fun i _ => (intOf i).toNat)
      case atStart => exact ⟨k, Nat.le_refl _, rfl, HOa.out, HKa.out⟩
      case round =>
        obtain ⟨j, hj, rfl, hO, hkr⟩ := hrel
        have HOb := Lib.hid hO
        have HKb := Lib.hid hkr
        clear hO hkr
        by_cases h0 : 0 < j
        · have h0' : (0 : Int) < j := by omega
          obtain ⟨p, hp⟩ : ∃ p : Nat, j = p + 1 := ⟨j - 1, by omega⟩
          have e1 : (j : Int) - 1 = (p : Int) := by omega
          have j1 : (j : Int) < m := by omega
          have p1 : (p : Int) < m := by omega
          obtain ⟨z1, c1, l1, u1⟩ := HOb.out.cell (f + j) (by omega)
          obtain ⟨z2, c2, l2, u2⟩ := HOb.out.cell (f + p) (by omega)
          have HP := Lib.hid hp
          have M1 := Lib.hid (show (intOf (.int .i64 (p : Int))).toNat < (intOf (.int .i64 (j : Int))).toNat by simp [intOf]; omega)
          clear hp
          have Z12 := Lib.hid (And.intro (And.intro l1 u1) (And.intro l2 u2))
          clear l1 u1 l2 u2
          obtain ⟨T, hT⟩ : ∃ T : Nat → Value → World → Prop, T = fun _ v _ => ∃ r, v = .int .i64 r ∧ -1 ≤ r ∧ r ≤ 1 := ⟨_, rfl⟩
          have HT := Lib.hid hT
          clear hT
          have gd : (facCalm wr [14] T).Good := facCalm_good (fun k v w w' h _ => by rw [HT.out] at h ⊢; exact h)
          have ne := facCalm_some wr [14] T
          have x1 : ∀ y : (facCalm wr [14] T).Sub, ((facCalm wr [14] T).at_ y).cell? ⟨gx, f + j, none⟩ = some (.int .i64 z1) := fun y => (facCalm_at y).cell c1 (fun e => e)
          have x2 : ∀ y : (facCalm wr [14] T).Sub, ((facCalm wr [14] T).at_ y).cell? ⟨gx, f + p, none⟩ = some (.int .i64 z2) := fun y => (facCalm_at y).cell c2 (fun e => e)
          clear c1 c2
          go_upto_region 4 with (fail)
          refine wp_region_calm (facCalm wr [14] T) [0, 1, 2, 3, 4, 5, 6, 7, 8, 9, 10, 11, 12, 13, 14, 15, 16] [] 53 (by kernel_rfl) (by kernel_rfl) rfl gd (Keep.refl _ _).drew ?_
          simp only [pairs, List.filterMap_cons, List.filterMap_nil, List.getElem?_toArray, List.getElem?_cons_succ, List.getElem?_cons_zero, Option.map_some]
          repeat (refine Calm.walk_quiet ne rfl rfl rfl (fun K hK => ?_); go_big_quiet_op; refine hK _ ?_; clear hK K)
          refine Calm.walk_eff rfl rfl (fun n wy _ hR _ => ?_) ?_
          · have hR' : Keep none_ wr wy := hR
            unfold gives
            go_simp
            refine (zcmp_any z1 z2 s bs wy Z12.out.1 Z12.out.2 HS.out (hR'.cell (HKb.out.cell HC.out (fun e => NE.out e)) (fun e => e))).mono ?_
            rintro e wz ⟨r, rfl, hr, rfl⟩
            exact ⟨_, rfl, (by show T _ _ _; rw [HT.out]; exact ⟨r, rfl, hr⟩), Keep.refl _ _, hR', fun _ h => h.elim⟩
          intro v wy hv
          obtain ⟨r, rfl, r1, r2⟩ : ∃ r, v = .int .i64 r ∧ -1 ≤ r ∧ r ≤ 1 := by have h : T 14 v wy := hv; rw [HT.out] at h; exact h
          clear wy hv
          go_frame
          repeat (refine Calm.walk_quiet ne rfl rfl rfl (fun K hK => ?_); go_big_quiet_op; refine hK _ ?_; clear hK K)
          intro w6 hG hD
          have O6 := Lib.hid (HOb.out.keep (show Keep none_ wr w6 from hG) (fun e => e))
          have K6 := Lib.hid (HKb.out.trans ((show Keep none_ wr w6 from hG).weak))
          clear hG hD gd ne x1 x2 HT
          simp only [pickOps, List.filterMap_nil]
          by_cases hr : r < 0
          · go_upto_region 6 with (fail)
            have gd : (swpCalm w6 gx [9, 13] [15, 17]).Good := swpCalm_good
            have ne : Nonempty (swpCalm w6 gx [9, 13] [15, 17]).Sub := swpCalm_some O6.out
            refine wp_region_calm (swpCalm w6 gx [9, 13] [15, 17]) [0, 1, 2, 3, 4, 5, 6, 7, 8, 9, 10, 11, 12, 13, 14, 15, 16, 17] [] 53 (by kernel_rfl) (by kernel_rfl) rfl gd ⟨(Keep.refl _ _).drew, O6.out.drew⟩ ?_
            simp only [pairs, List.filterMap_cons, List.filterMap_nil, List.getElem?_toArray, List.getElem?_cons_succ, List.getElem?_cons_zero, Option.map_some]
            repeat (refine Calm.walk_quiet ne rfl rfl rfl (fun K hK => ?_); go_big_quiet_op; refine hK _ ?_; clear hK K)
            refine Calm.walk_eff rfl rfl (fun n wy _ hR _ => ?_) ?_
            · obtain ⟨g1, g2⟩ := hR
              obtain ⟨z, c1, l1, u1⟩ := g2.cell (f + p) (by omega)
              unfold gives
              go_simp
              exact ⟨fun _ => ⟨z, rfl, l1, u1⟩, Keep.refl _ _, ⟨g1, g2⟩, fun _ h => h.elim⟩
            intro v wy hv
            obtain ⟨y1, rfl, ly1, uy1⟩ := hv (by decide)
            clear wy hv
            go_frame
            repeat (refine Calm.walk_quiet ne rfl rfl rfl (fun K hK => ?_); go_big_quiet_op; refine hK _ ?_; clear hK K)
            refine Calm.walk_eff rfl rfl (fun n wy _ hR _ => ?_) ?_
            · obtain ⟨g1, g2⟩ := hR
              obtain ⟨z, c1, l1, u1⟩ := g2.cell (f + j) (by omega)
              unfold gives
              go_simp
              exact ⟨fun _ => ⟨z, rfl, l1, u1⟩, Keep.refl _ _, ⟨g1, g2⟩, fun _ h => h.elim⟩
            intro v wy hv
            obtain ⟨y2, rfl, ly2, uy2⟩ := hv (by decide)
            clear wy hv
            go_frame
            repeat (refine Calm.walk_quiet ne rfl rfl rfl (fun K hK => ?_); go_big_quiet_op; refine hK _ ?_; clear hK K)
            refine Calm.walk_eff rfl rfl (fun n wy _ hR _ => ?_) ?_
            · obtain ⟨g1, g2⟩ := hR
              obtain ⟨z, c1, l1, u1⟩ := g2.cell (f + j) (by omega)
              have f1 := g2.froz (f + j)
              unfold gives
              go_simp
              exact ⟨fun h => absurd h (by decide), (Keep.refl (one gx) wy).setCell (p := ⟨gx, f + j, none⟩) (.inl rfl) _, ⟨g1.trans ((Keep.refl (one gx) wy).setCell (p := ⟨gx, f + j, none⟩) (.inl rfl) _), g2.set_ (f + j) ly1 uy1⟩, fun _ h => h.elim⟩
            intro v wy hv
            clear wy hv
            go_frame
            repeat (refine Calm.walk_quiet ne rfl rfl rfl (fun K hK => ?_); go_big_quiet_op; refine hK _ ?_; clear hK K)
            refine Calm.walk_eff rfl rfl (fun n wy _ hR _ => ?_) ?_
            · obtain ⟨g1, g2⟩ := hR
              obtain ⟨z, c1, l1, u1⟩ := g2.cell (f + p) (by omega)
              have f1 := g2.froz (f + p)
              unfold gives
              go_simp
              exact ⟨fun h => absurd h (by decide), (Keep.refl (one gx) wy).setCell (p := ⟨gx, f + p, none⟩) (.inl rfl) _, ⟨g1.trans ((Keep.refl (one gx) wy).setCell (p := ⟨gx, f + p, none⟩) (.inl rfl) _), g2.set_ (f + p) ly2 uy2⟩, fun _ h => h.elim⟩
            intro v wy hv
            clear wy hv
            go_frame
            intro w7 hG hD
            obtain ⟨g1, g2⟩ := hG
            have O7 := Lib.hid g2
            have K7 := Lib.hid (K6.out.trans g1)
            clear g1 g2 hD gd ne
            simp only [pickOps, List.filterMap_nil]
            go_wp2
            go_roundw
            case rel => exact ⟨p, by have := HP.out; omega, by go_num, O7.out, K7.out⟩
            case measure => first | exact M1.out | (have := HP.out; simp [intOf]; omega)
          · go_wp2
            go_roundw
            case rel => exact ⟨k + 1, by omega, hlt, by go_num, O6.out, K6.out⟩
            case measure => simp [intOf]; omega
        · obtain rfl : j = 0 := by omega
          go_upto_region 4 with (fail)
          have gd : (facCalm wr [14] (fun _ _ _ => True)).Good := facCalm_good (fun _ _ _ _ h _ => h)
          have ne := facCalm_some wr [14] (fun _ _ _ => True)
          refine wp_region_calm (facCalm wr [14] (fun _ _ _ => True)) [0, 1, 2, 3, 4, 5, 6, 7, 8, 9, 10, 11, 12, 13, 14, 15, 16] [] 53 (by kernel_rfl) (by kernel_rfl) rfl gd (Keep.refl _ _).drew ?_
          simp only [pairs, List.filterMap_cons, List.filterMap_nil, List.getElem?_toArray, List.getElem?_cons_succ, List.getElem?_cons_zero, Option.map_some]
          repeat (first | (refine Calm.walk_skip rfl ?_; go_frame) | (refine Calm.walk_quiet ne rfl rfl rfl (fun K hK => ?_); go_big_quiet_op; refine hK _ ?_; clear hK K))
          intro w6 hG hD
          have O6 := Lib.hid (HOb.out.keep (show Keep none_ wr w6 from hG) (fun e => e))
          have K6 := Lib.hid (HKb.out.trans ((show Keep none_ wr w6 from hG).weak))
          clear hG hD gd ne
          simp only [pickOps, List.filterMap_nil]
          go_wp2
          go_roundw
          case rel => exact ⟨k + 1, by omega, hlt, by go_num, O6.out, K6.out⟩
          case measure => simp [intOf]; omega
    · obtain rfl : k = m := by omega
      clear hlt
      go_wp2
      go_end0
      exact ⟨rfl, HOa.out, HKa.out⟩
end Go.Proofs.YtebdgoikmclflaaGreatDoor
