/-
  cloneItems of any items, with their user data and slices.
-/
import Derived.Test.YtnefbeplgfdkkaaGreatDoorRu33
import Derived.Test.YtnefbeplgfdkkaaGreatDoorRu36
namespace Go.Proofs.YtnefbeplgfdkkaaGreatDoor
open Go.RowKit

/-- What item i of the row v lies outside of, when the first k are made anew. -/
def CS (v : Value) (lo up k i : Nat) : Nat → Prop := fun z => ofBlk v z ∨ up ≤ z ∨ (i < k ∧ z < lo)
/-- The same for a part of an item of block b; the item's own two rows are vu and vs. -/
def IS (b : Nat) (vu vs : Value) (lo k i : Nat) : Nat → Prop := fun z => z = b ∨ ofBlk vu z ∨ ofBlk vs z ∨ (i < k ∧ z < lo)
theorem itm_ones {w : World} {S : Nat → Prop} {css : List (List Value)} {l : List Itm} (hl : css.length = l.length) (hR : ∀ (i : Nat) (cs : List Value) (x : Itm), css[i]? = some cs → l[i]? = some x → ItmOf w S cs x) : ∀ u ∈ css.flatten, u.oneCell' = true := fun u hu => by
  obtain ⟨cs, hcs, hv⟩ := List.mem_flatten.1 hu
  obtain ⟨i, hi, rfl⟩ := List.mem_iff_getElem.1 hcs
  obtain ⟨a, b, e, h1, h2, h3, h4⟩ := hR i _ _ (List.getElem?_eq_getElem hi) (List.getElem?_eq_getElem (by rw [← hl]; exact hi))
  obtain ⟨A, n, c, rfl, -⟩ := h3
  obtain ⟨A', n', c', rfl, -⟩ := h4
  rw [e] at hv
  rcases List.mem_append.1 hv with hv | hv
  · exact h2 u hv
  · simp only [List.mem_cons, List.not_mem_nil, or_false] at hv
    rcases hv with rfl | rfl | rfl <;> rfl
theorem user_ones {w : World} {S : Nat → Prop} {css : List (List Value)} {l : List (List Int)} (hl : css.length = l.length) (hR : ∀ (i : Nat) (cs : List Value) (x : List Int), css[i]? = some cs → l[i]? = some x → UserR w S cs x) : ∀ u ∈ css.flatten, u.oneCell' = true := fun u hu => by
  obtain ⟨cs, hcs, hv⟩ := List.mem_flatten.1 hu
  obtain ⟨i, hi, rfl⟩ := List.mem_iff_getElem.1 hcs
  obtain ⟨v, e, A, n, c, rfl, -⟩ := hR i _ _ (List.getElem?_eq_getElem hi) (List.getElem?_eq_getElem (by rw [← hl]; exact hi))
  rw [e] at hv
  simp only [List.mem_cons, List.not_mem_nil, or_false] at hv
  rw [hv]; rfl
theorem unit_ones {w : World} {S : Nat → Prop} {css : List (List Value)} {l : List (Int × List Int)} (hl : css.length = l.length) (hR : ∀ (i : Nat) (cs : List Value) (x : Int × List Int), css[i]? = some cs → l[i]? = some x → UnitR w S cs x) : ∀ u ∈ css.flatten, u.oneCell' = true := fun u hu => by
  obtain ⟨cs, hcs, hv⟩ := List.mem_flatten.1 hu
  obtain ⟨i, hi, rfl⟩ := List.mem_iff_getElem.1 hcs
  obtain ⟨v, e, A, n, c, rfl, -⟩ := hR i _ _ (List.getElem?_eq_getElem hi) (List.getElem?_eq_getElem (by rw [← hl]; exact hi))
  rw [e] at hv
  simp only [List.mem_cons, List.not_mem_nil, or_false] at hv
  rcases hv with rfl | rfl <;> rfl

set_option maxRecDepth 100000 in
set_option maxHeartbeats 2000000 in
theorem clb_big (l : List Itm) (hz : ItSz l) : Clb l := by
  intro v S w h
  obtain ⟨A, n, c, css, rfl, hl, hcl, hcs, hr, hR⟩ := ElemsOf.rows (ItemsOf.fresh h) (by decide)
  subst hl
  have CL := Lib.hid (clone_itms A l.length c css.flatten (ge w.heap.size) w hr (itm_ones hcl hR) hz.1)
  have HZ := Lib.hid hz
  have hll : l.length ≤ 140737488355328 := by have := hz.1; omega
  have HR := Lib.hid hR
  clear h hR hr hz
  go_enter Tryz.func82, Tryz.ntmps82
  go_upto_region 2 with (go_at_call 102; refine CL.out.mono ?_; rintro e w5 ⟨v5, rfl, o5, k5⟩)
  obtain ⟨A5, c5, rfl, -⟩ := own_row (S := none_) o5 (fun _ _ e => e)
  have P5 := Lib.hid (show PRow ItmOf w5 w.heap.size 72 148 (CS (.slice A5 l.length c5) w.heap.size w5.heap.size 0) (.slice A5 l.length c5) l from
    ⟨css, hcl, hcs, o5, fun i cs x hi hx => itmLaw.sub _ _ _ _ _ ((HR.out i cs x hi hx).keep k5.weak) (fun z hz => hz.elim (fun e => own_ge o5 z e) (fun e => e.elim (fun e => Nat.le_trans k5.size e) (fun e => absurd e.1 (Nat.not_lt_zero _))))⟩)
  have K5 := Lib.hid k5
  have LO := Lib.hid k5.size
  clear o5 k5 CL HR hcs hcl css
  go_wp2
  go_loopw [12] (fun i wr => ∃ k : Nat, k ≤ l.length ∧ i = .int .i64 k ∧ PRow ItmOf wr w.heap.size 72 148 (CS (.slice A5 l.length c5) w.heap.size wr.heap.size k) (.slice A5 l.length c5) l ∧ Keep none_ w wr) (fun i _ => l.length - (intOf i).toNat)
  case atStart => exact ⟨0, Nat.zero_le _, rfl, P5.out, K5.out⟩
  case round =>
    obtain ⟨k, hk, rfl, hP, hkr⟩ := hrel
    obtain ⟨wo, hwo⟩ : ∃ wo, wo = wr := ⟨_, rfl⟩
    subst hwo
    by_cases hlt : k < l.length
    · have hlt' : (k : Int) < l.length := by omega
      obtain ⟨css, q1, q2, q3, q4⟩ := hP
      obtain ⟨b, cap, cur, eV, hb1, hb2, hb3, hb4, hb5, hb6⟩ := own_cases q3 (by omega)
      simp only [Value.slice.injEq, true_and] at eV
      obtain ⟨rfl, rfl⟩ := eV
      have hkc : k < css.length := by omega
      have hg := List.getElem?_eq_getElem hkc
      obtain ⟨x, hxl⟩ : ∃ x, l[k]? = some x := ⟨_, List.getElem?_eq_getElem hlt⟩
      obtain ⟨u, s, ecs, hfl, hone, hu, hs⟩ := q4 k _ x hg hxl
      obtain ⟨B, nu, d, ucss, rfl, ul, ucl, ucs, ur, uR⟩ := ElemsOf.rows hu (by decide)
      obtain ⟨B', ns, d', scss, rfl, sl, scl, scs, sr, sR⟩ := ElemsOf.rows hs (by decide)
      subst ul
      subst sl
      have hx := HZ.out.2 x (List.mem_of_getElem? hxl)
      have HXL := Lib.hid hxl
      have szr := hkr.size
      have at_ : ∀ r, r < 148 → wo.cell? ⟨b, k * 148 + r, none⟩ = css[k][r]? := fun r hr => by
        rw [hb2.cell, ← flatten_get css q2 k _ hg r hr, ← hb6, List.getElem?_take, if_pos (by omega), Array.getElem?_toList]
      have r5 : wo.cell? ⟨b, k * 148 + 145, none⟩ = some (.slice B x.user.length d) := by
        rw [at_ 145 (by decide), ecs, List.getElem?_append_right (by omega), hfl]
        rfl
      have r6 : wo.cell? ⟨b, k * 148 + 146, none⟩ = some (.slice B' x.slices.length d') := by
        rw [at_ 146 (by decide), ecs, List.getElem?_append_right (by omega), hfl]
        rfl
      have q1' := ur.cap
      have q2' := sr.cap
      have obl : ∀ z, one b z → CS (.slice (some ⟨b, 0, none⟩) l.length c5) w.heap.size wo.heap.size k k z := fun z e => by cases e; exact .inl rfl
      have HUC := Lib.hid (fun (y : World) (hk : Keep (one b) wo y) => clone_bss B x.user.length d ucss.flatten _ y (ur.keep (hk.mono obl)) (user_ones (by omega) uR) (by omega))
      have HSC := Lib.hid (fun (y : World) (hk : Keep (one b) wo y) => clone_units B' x.slices.length d' scss.flatten _ y (sr.keep (hk.mono obl)) (unit_ones (by omega) sR) (by omega))
      have HUR := Lib.hid (And.intro ucl (And.intro ucs uR))
      have HSR := Lib.hid (And.intro scl (And.intro scs sR))
      have HX := Lib.hid hx
      have HB2 := Lib.hid hb2
      have HQ := Lib.hid (And.intro q1 (And.intro q2 (And.intro q3 q4)))
      have HG := Lib.hid hg
      have HE := Lib.hid (And.intro ecs (And.intro hfl hone))
      have HKR := Lib.hid hkr
      have OBL := Lib.hid obl
      clear q1 q2 q3 q4 hg hb3 hb6 ecs hfl hone at_ hkr hu hs ur uR sr sR ucl ucs scl scs hx hxl obl
      go_upto_region 6 with (fail)
      have cc5 : cur[k * 148 + 145]? = some (.slice B x.user.length d) := by rw [← hb2.cell]; exact r5
      have cc6 : cur[k * 148 + 146]? = some (.slice B' x.slices.length d') := by rw [← hb2.cell]; exact r6
      have hI : k * 148 + 145 < cur.size := (Array.getElem?_eq_some_iff.1 cc5).1
      have lb := hb2.lt
      obtain ⟨T1, hT1⟩ : ∃ T1 : Value → World → Prop, T1 = fun v y => y.ownsRow wo.heap.size 131 1 v x.user.length ucss.flatten := ⟨_, rfl⟩
      obtain ⟨T2, hT2⟩ : ∃ T2 : Value → World → Prop, T2 = fun v y => y.ownsRow wo.heap.size 163 2 v x.slices.length scss.flatten := ⟨_, rfl⟩
      have gd : (pairCalm wo b 72 cur (k * 148 + 145) (.slice B x.user.length d) T1 T2).Good := pairCalm_good (fun v x y h hk => by rw [hT1] at h ⊢; exact own_keep h hk (fun z hz e => by cases e; have := own_ge h _ hz; omega)) (fun v x y h hk => by rw [hT2] at h ⊢; exact own_keep h hk (fun z hz e => by cases e; have := own_ge h _ hz; omega))
      have ne : Nonempty (pairCalm wo b 72 cur (k * 148 + 145) (.slice B x.user.length d) T1 T2).Sub := ⟨⟨wo, 0, Nat.zero_le _, Keep.refl _ _, cur, hb2, rfl, fun _ _ => rfl, fun _ => rfl⟩⟩
      have x6 := fun y => (pairCalm_at (wr := wo) (b := b) (t := 72) (cur := cur) (I := k * 148 + 145) (v0 := .slice B x.user.length d) (T1 := T1) (T2 := T2) y).2 (k * 148 + 146) _ (by omega) cc6
      have HT1 := Lib.hid hT1
      have HT2 := Lib.hid hT2
      have HI := Lib.hid hI
      have st := pair_start (k * 148 + 145) hb2
      have C5 := Lib.hid cc5
      have C6 := Lib.hid cc6
      clear hT1 hT2 hb2 hI cc5 cc6 r5 r6
      refine wp_region_calm (pairCalm wo b 72 cur (k * 148 + 145) (.slice B x.user.length d) T1 T2) [0, 1, 2, 3, 4, 5, 6, 7, 8, 9, 10, 11, 12, 13, 14] [15, 16, 17] 85 (by kernel_rfl) (by kernel_rfl) rfl gd st ?_
      clear st
      simp only [pairs, List.filterMap_cons, List.filterMap_nil, List.getElem?_toArray, List.getElem?_cons_succ, List.getElem?_cons_zero, Option.map_some]
      repeat (refine Calm.walk_quiet ne rfl rfl rfl (fun K hK => ?_); go_big_quiet_op; refine hK _ ?_; clear hK K)
      refine Calm.walk_eff rfl rfl (fun n w3 hn hG _ => ?_) ?_
      · have f1 := pair_load hG hn C5.out
        unfold gives
        go_simp
        exact ⟨rfl, ⟨(Keep.refl _ _), fun _ => Keep.refl _ _⟩, pair_call hG (Keep.refl _ _), fun _ h => h.elim⟩
      intro v w3 hT
      have hT' : v = .slice B x.user.length d := hT
      clear hT
      subst hT'
      clear w3
      go_frame
      refine Calm.walk_eff rfl rfl (fun n w3 hn hG _ => ?_) ?_
      · unfold gives
        go_simp
        refine (HUC.out w3 hG.1).mono ?_
        rintro e w4 ⟨v, rfl, hv, hk⟩
        exact ⟨_, rfl, by rw [HT1.out]; exact own_base hv hG.1.size, ⟨hk.weak, fun _ => hk⟩, pair_call hG hk, fun _ h => h.elim⟩
      intro vu w3 hT
      have hT' : w3.ownsRow wo.heap.size 131 1 vu x.user.length ucss.flatten := by have h5 : T1 vu w3 := hT; rw [HT1.out] at h5; exact h5
      obtain ⟨A1, d1, rfl, hq⟩ := own_row (S := none_) hT' (fun _ _ e => e)
      have e1 := hq.cap
      clear hT hT' w3 hq
      go_frame
      repeat (refine Calm.walk_quiet ne rfl rfl rfl (fun K hK => ?_); go_big_quiet_op; refine hK _ ?_; clear hK K)
      refine Calm.walk_eff rfl rfl (fun n w3 hn hG _ => ?_) ?_
      · unfold gives
        go_simp
        refine (HSC.out w3 hG.1).mono ?_
        rintro e w4 ⟨v, rfl, hv, hk⟩
        exact ⟨_, rfl, by rw [HT2.out]; exact own_base hv hG.1.size, ⟨hk.weak, fun _ => hk⟩, pair_call hG hk, fun _ h => h.elim⟩
      intro vs w3 hT
      have hT' : w3.ownsRow wo.heap.size 163 2 vs x.slices.length scss.flatten := by have h5 : T2 vs w3 := hT; rw [HT2.out] at h5; exact h5
      obtain ⟨A2, d2, rfl, hq⟩ := own_row (S := none_) hT' (fun _ _ e => e)
      have e2 := hq.cap
      clear hT hT' w3 hq
      go_frame
      repeat (refine Calm.walk_quiet ne rfl rfl rfl (fun K hK => ?_); go_big_quiet_op; refine hK _ ?_; clear hK K)
      refine Calm.walk_effn rfl rfl (fun n w3 ha hn hG _ => ?_) ?_
      · obtain ⟨⟨v0, f1⟩, f2⟩ := pair_at hG HI.out
        obtain ⟨g1, g2, g3⟩ := pair_store hG ha (.slice A1 x.user.length d1)
        unfold gives
        go_simp
        exact ⟨g1, ⟨g2, fun e => absurd rfl e⟩, g3, fun _ h => h.elim⟩
      rintro v w1 -
      clear w1
      go_frame
      repeat (refine Calm.walk_quiet ne rfl rfl rfl (fun K hK => ?_); go_big_quiet_op; refine hK _ ?_; clear hK K)
      intro w6 hG hD
      have k6 : Keep (one b) wo w6 := hG.1
      have b6 : Blk w6 b 72 (cur.setIfInBounds (k * 148 + 145) (.slice A1 x.user.length d1)) := (hD.1 14 rfl _ rfl ⟨rfl, rfl⟩).1
      have u6 : w6.ownsRow wo.heap.size 131 1 (.slice A1 x.user.length d1) x.user.length ucss.flatten := by
        have h5 : T1 (.slice A1 x.user.length d1) w6 := (hD.1 6 rfl _ rfl ⟨rfl, rfl⟩).1
        rw [HT1.out] at h5; exact h5
      have s6o : w6.ownsRow wo.heap.size 163 2 (.slice A2 x.slices.length d2) x.slices.length scss.flatten := by
        have h5 : T2 (.slice A2 x.slices.length d2) w6 := (hD.1 11 rfl _ rfl ⟨rfl, rfl⟩).1
        rw [HT2.out] at h5; exact h5
      have U6 := Lib.hid u6
      have S6 := Lib.hid s6o
      clear hG hD gd ne x6 u6 s6o HT1 HT2 HUC HSC
      simp only [pickOps, List.filterMap_cons, List.filterMap_nil, List.getElem?_toArray, List.getElem?_cons_succ, List.getElem?_cons_zero]
      have lI : k * 148 + 146 < cur.size := (Array.getElem?_eq_some_iff.1 C6.out).1
      have s6 : w6.cell? ⟨b, k * 148 + 146, none⟩ = some (.slice B' x.slices.length d') := by rw [b6.cell, Array.getElem?_setIfInBounds_ne (by omega)]; exact C6.out
      have t6 := b6.frozen (k * 148 + 146)
      have bb8 := b6.set_ (k * 148 + 146) (.slice A2 x.slices.length d2)
      have cu5 := bb8.cell (k * 148 + 145)
      have cu6 := bb8.cell (k * 148 + 146)
      rw [Array.getElem?_setIfInBounds_ne (by omega), Array.getElem?_setIfInBounds_self_of_lt HI.out] at cu5
      rw [Array.getElem?_setIfInBounds_self_of_lt (by simpa using lI)] at cu6
      have k68 : Keep (one b) w6 (w6.setCell ⟨b, k * 148 + 146, none⟩ (.slice A2 x.slices.length d2)) := (Keep.refl (one b) w6).setCell (p := ⟨b, k * 148 + 146, none⟩) (.inl rfl) _
      have k8 : Keep (one b) wo (w6.setCell ⟨b, k * 148 + 146, none⟩ (.slice A2 x.slices.length d2)) := k6.trans k68
      have o8 : (w6.setCell ⟨b, k * 148 + 146, none⟩ (.slice A2 x.slices.length d2)).ownsRow w.heap.size 72 148 (.slice (some ⟨b, 0, none⟩) l.length c5) l.length (css.set k ((css[k]'(List.getElem?_eq_some_iff.1 HG.out).1 |>.set 145 (.slice A1 x.user.length d1)).set 146 (.slice A2 x.slices.length d2))).flatten := by
        obtain ⟨q1, q2, q3, q4⟩ := HQ.out
        have o1 := own_set q3 (k * 148 + 145) (.slice A1 x.user.length d1)
        rw [flatten_set css q2 k _ HG.out 145 (by decide)] at o1
        have hkc : k < css.length := (List.getElem?_eq_some_iff.1 HG.out).1
        have len7 : ∀ y ∈ css.set k (css[k].set 145 (.slice A1 x.user.length d1)), y.length = 148 := fun y hy => by
          rcases List.mem_or_eq_of_mem_set hy with hy | rfl
          · exact q2 y hy
          · rw [List.length_set]; exact q2 _ (List.getElem_mem hkc)
        have o2 := own_set o1 (k * 148 + 146) (.slice A2 x.slices.length d2)
        rw [flatten_set _ len7 k (css[k].set 145 (.slice A1 x.user.length d1)) (by rw [List.getElem?_set_self hkc]) 146 (by decide), List.set_set] at o2
        exact own_move o2 ((HB2.out.set_ _ _).set_ _ _) bb8
      have nbu : ∀ z, ofBlk (.slice A1 x.user.length d1) z → ¬ one b z := own_apart (own_keep U6.out k68 (own_apart U6.out b6 (by decide))) bb8 (by decide)
      have nbs : ∀ z, ofBlk (.slice A2 x.slices.length d2) z → ¬ one b z := own_apart (own_keep S6.out k68 (own_apart S6.out b6 (by decide))) bb8 (by decide)
      have U8 := Lib.hid (show PRow UserR (w6.setCell ⟨b, k * 148 + 146, none⟩ (.slice A2 x.slices.length d2)) wo.heap.size 131 1 (IS b (.slice A1 x.user.length d1) (.slice A2 x.slices.length d2) w.heap.size 0) (.slice A1 x.user.length d1) x.user from
        ⟨ucss, HUR.out.1, HUR.out.2.1, own_keep U6.out k68 nbu, fun i cs x hi hx => userLaw.sub _ _ _ _ _ (userLaw.keep _ _ _ _ _ (HUR.out.2.2 i cs x hi hx) (k8.mono OBL.out)) (fun z e => e.elim (fun e => OBL.out z e) (fun e => e.elim (fun e => .inr (.inl (own_ge U6.out z e))) (fun e => e.elim (fun e => .inr (.inl (own_ge S6.out z e))) (fun e => absurd e.1 (Nat.not_lt_zero _)))))⟩)
      have S8 := Lib.hid (show PRow UnitR (w6.setCell ⟨b, k * 148 + 146, none⟩ (.slice A2 x.slices.length d2)) wo.heap.size 163 2 (IS b (.slice A1 x.user.length d1) (.slice A2 x.slices.length d2) w.heap.size 0) (.slice A2 x.slices.length d2) x.slices from
        ⟨scss, HSR.out.1, HSR.out.2.1, own_keep S6.out k68 nbs, fun i cs x hi hx => unitLaw.sub _ _ _ _ _ (unitLaw.keep _ _ _ _ _ (HSR.out.2.2 i cs x hi hx) (k8.mono OBL.out)) (fun z e => e.elim (fun e => OBL.out z e) (fun e => e.elim (fun e => .inr (.inl (own_ge U6.out z e))) (fun e => e.elim (fun e => .inr (.inl (own_ge S6.out z e))) (fun e => absurd e.1 (Nat.not_lt_zero _)))))⟩)
      have K8 := Lib.hid k8
      have O8 := Lib.hid o8
      have B8 := Lib.hid bb8
      have NBU := Lib.hid nbu
      have NBS := Lib.hid nbs
      clear o8 k8 k68 bb8 b6 k6 C5 C6 HI nbu nbs U6 S6
      obtain ⟨w8, hw8⟩ : ∃ w8, w8 = w6.setCell ⟨b, k * 148 + 146, none⟩ (.slice A2 x.slices.length d2) := ⟨_, rfl⟩
      rw [← hw8] at cu5 cu6 K8 O8 U8 S8 B8
      go_upto_region 7 with (fail)
      rw [← hw8]
      clear hw8 s6 t6
      have LU := Lib.hid (show ∀ z, ofBlk (.slice A1 x.user.length d1) z → z < w8.heap.size from fun z e => by obtain ⟨_, _, _, h, _⟩ := U8.out; exact own_lt h z e)
      have LS := Lib.hid (show ∀ z, ofBlk (.slice A2 x.slices.length d2) z → z < w8.heap.size from fun z e => by obtain ⟨_, _, _, h, _⟩ := S8.out; exact own_lt h z e)
      have lb8 : b < w8.heap.size := B8.out.lt
      have szw : w.heap.size ≤ wo.heap.size := HKR.out.size
      have sz8 : wo.heap.size ≤ w8.heap.size := K8.out.size
      have nu5 : ¬ ofBlk (.slice A1 x.user.length d1) b := fun e => NBU.out b e rfl
      have ns5 : ¬ ofBlk (.slice A2 x.slices.length d2) b := fun e => NBS.out b e rfl
      have hul : x.user.length ≤ 140737488355328 := by have := HX.out.1; omega
      have hsl : x.slices.length ≤ 140737488355328 := by have := HX.out.2.2.1; omega
      go_wp2
      go_loopw [40] (fun i wr => ∃ q : Nat, q ≤ x.user.length ∧ i = .int .i64 q ∧ PRow UserR wr wo.heap.size 131 1 (IS b (.slice A1 x.user.length d1) (.slice A2 x.slices.length d2) w.heap.size q) (.slice A1 x.user.length d1) x.user ∧ Keep (ofBlk (.slice A1 x.user.length d1)) w8 wr) (fun i _ => x.user.length - (intOf i).toNat)
      case atStart => exact ⟨0, Nat.zero_le _, rfl, U8.out, Keep.refl _ _⟩
      case round =>
        obtain ⟨q, hq, rfl, hU, hku⟩ := hrel
        have y5 := hku.cell cu5 nu5
        by_cases hql : q < x.user.length
        · have hql' : (q : Int) < x.user.length := by omega
          obtain ⟨bu, cu, curu, eV, ub1, ub2⟩ : ∃ bu cu curu, Value.slice A1 x.user.length d1 = .slice (some ⟨bu, 0, none⟩) x.user.length cu ∧ wo.heap.size ≤ bu ∧ Blk wr bu 131 curu := by
            obtain ⟨_, _, _, h, _⟩ := hU
            obtain ⟨b', cap', cur', e, h1, h2, -⟩ := own_cases h (by omega)
            exact ⟨b', cap', cur', e, h1, h2⟩
          simp only [Value.slice.injEq, true_and] at eV
          obtain ⟨rfl, rfl⟩ := eV
          obtain ⟨ecs, el, ⟨ev, rfl, Ab, nb, cb, rfl, rb⟩, eat⟩ := hU.get q hql
          have ye : wr.cell? ⟨bu, q * 1 + 0, none⟩ = some (.slice Ab nb cb) := eat 0 _ (by decide) rfl
          rw [Nat.mul_one, Nat.add_zero] at ye
          have zm := HX.out.2.1 _ (List.getElem_mem hql)
          have zl := rb.len
          have zc := rb.cap
          have zn := rb.le
          rw [List.length_map, Nat.mul_one] at zl
          have CB := Lib.hid (fun (y : World) (ky : Keep none_ wr y) => clone_bytes Ab nb cb _ _ y (rb.keep ky.weak) (fun u hu => by obtain ⟨y, -, rfl⟩ := List.mem_map.1 hu; rfl) (by omega))
          have HU := Lib.hid hU
          have HKU := Lib.hid hku
          have UB2 := Lib.hid ub2
          have szu := hku.size
          have EL := Lib.hid el
          generalize hzs : x.user[q] = zs at CB zm zl
          have HZS := Lib.hid hzs
          clear hU hku ub2 eat rb el hzs
          unfold maxLen at zc
          go_upto_region 10 with (fail)
          have gd := factCalm_good (wr := wr) (ks := [12]) (anc := fun _ => []) (T := fun _ v y => y.ownsRow wr.heap.size 5 1 v nb (zs.map (Value.int .u8))) (fun _ _ _ _ h hk => own_keep h hk (fun _ _ e => e))
          have ne := factCalm_some wr [12] (fun _ => []) (fun _ v y => y.ownsRow wr.heap.size 5 1 v nb (zs.map (Value.int .u8)))
          have x5 := fun y => (factCalm_at (wr := wr) (ks := [12]) (anc := fun _ => []) (T := fun _ v y => y.ownsRow wr.heap.size 5 1 v nb (zs.map (Value.int .u8))) y).cell y5 (fun e => e)
          have xe := fun y => (factCalm_at (wr := wr) (ks := [12]) (anc := fun _ => []) (T := fun _ v y => y.ownsRow wr.heap.size 5 1 v nb (zs.map (Value.int .u8))) y).cell ye (fun e => e)
          refine wp_region_calm (factCalm wr [12] (fun _ => []) (fun _ v y => y.ownsRow wr.heap.size 5 1 v nb (zs.map (Value.int .u8)))) [0, 1, 2, 3, 4, 5, 6, 7, 8, 9, 10, 11, 12, 13] [14] 85 (by kernel_rfl) (by kernel_rfl) rfl gd (Keep.refl _ _).drew ?_
          simp only [pairs, List.filterMap_cons, List.filterMap_nil, List.getElem?_toArray, List.getElem?_cons_succ, List.getElem?_cons_zero, Option.map_some]
          repeat (refine Calm.walk_quiet ne rfl rfl rfl (fun K hK => ?_); go_big_quiet_op; refine hK _ ?_; clear hK K)
          refine Calm.walk_eff rfl rfl (fun n wy hn hG _ => ?_) ?_
          · have hG' : Keep none_ wr wy := hG
            unfold gives
            go_simp
            refine (CB.out wy hG').mono ?_
            rintro e wz ⟨v, rfl, hv, hk⟩
            exact ⟨_, rfl, own_base hv hG'.size, hk, hG'.trans hk, fun _ h => h.elim⟩
          intro vb wy hT
          obtain ⟨A3, d3, rfl, -⟩ := own_row (S := none_) (show wy.ownsRow wr.heap.size 5 1 vb nb (zs.map (Value.int .u8)) from hT) (fun _ _ e => e)
          clear hT wy
          go_frame
          repeat (refine Calm.walk_quiet ne rfl rfl rfl (fun K hK => ?_); go_big_quiet_op; refine hK _ ?_; clear hK K)
          intro w7 hG hD
          have k7 : Keep none_ wr w7 := hG
          have o7 : w7.ownsRow wr.heap.size 5 1 (.slice A3 nb d3) nb (zs.map (Value.int .u8)) := (hD.1 12 rfl _ rfl ⟨rfl, rfl⟩).1
          have B7 := UB2.out.keep k7 (fun e => e)
          have z7 := k7.cell ye (fun e => e)
          have f7 := B7.frozen q
          have K7 := Lib.hid k7
          have O7 := Lib.hid o7
          have BB7 := Lib.hid B7
          clear hG hD gd ne x5 xe k7 o7 B7 y5 ye
          simp only [pickOps, List.filterMap_cons, List.filterMap_nil, List.getElem?_toArray, List.getElem?_cons_succ, List.getElem?_cons_zero]
          go_wp2
          go_roundw
          case rel =>
            have kst : Keep (one bu) w7 (w7.setCell ⟨bu, q * 1 + 0, none⟩ (.slice A3 nb d3)) := (Keep.refl (one bu) w7).setCell (p := ⟨bu, q * 1 + 0, none⟩) (.inl rfl) _
            have o9 := own_keep O7.out kst (own_apart O7.out BB7.out (by decide))
            have g0 := K7.out.size
            have nI : ∀ z, ofBlk (.slice A3 nb d3) z → ¬ IS b (.slice (some ⟨bu, 0, none⟩) x.user.length d1) (.slice A2 x.slices.length d2) w.heap.size (q + 1) q z := fun z e e' => by
              have h0 := own_ge O7.out z e
              rcases e' with e' | e' | e' | e'
              · omega
              · have := LU.out z e'; omega
              · have := LS.out z e'; omega
              · omega
            have p9 := (HU.out.keep userLaw (K7.out) (fun _ _ e => e.elim) (fun _ _ e => e)).set userLaw (T' := IS b (.slice (some ⟨bu, 0, none⟩) x.user.length d1) (.slice A2 x.slices.length d2) w.heap.size (q + 1)) q hql 0 (by decide) (.slice A3 nb d3) (fun i => .inr (.inl rfl)) (fun i hi z e => e.imp id (fun e => e.imp id (fun e => e.imp id (fun e => ⟨by omega, e.2⟩)))) (fun cs ⟨v, e, hb⟩ => by
              obtain ⟨A4, d4, e4, r4⟩ := own_rowB o9 nI
              exact ⟨_, by rw [e]; rfl, _, _, _, e4, by rw [HZS.out]; exact r4⟩)
            rw [Nat.mul_one, Nat.add_zero] at p9 kst
            exact ⟨q + 1, by omega, by go_num, p9, (HKU.out.trans K7.out.weak).trans (kst.mono (fun z e => by cases e; rfl))⟩
          case measure => simp [intOf]; omega
        · obtain rfl : q = x.user.length := by omega
          have nuS : ∀ z, (Value.slice A2 x.slices.length d2).ownBlock = some z → ¬ ofBlk (.slice A1 x.user.length d1) z := by
            obtain ⟨_, _, _, h1, _⟩ := U8.out
            obtain ⟨_, _, _, h2, _⟩ := S8.out
            exact own_apart2 h2 h1 (by decide)
          have S9 := Lib.hid (PRow.keep unitLaw S8.out hku (fun _ z e => .inr (.inl e)) nuS)
          obtain ⟨w9, hw9⟩ : ∃ w9, w9 = wr := ⟨_, rfl⟩
          subst hw9
          have y6 := hku.cell cu6 nu5
          have U9 := Lib.hid hU
          have K9 := Lib.hid hku
          have sz9 : w8.heap.size ≤ w9.heap.size := hku.size
          clear hU hku y5 hq
          go_upto_region 12 with (fail)
          go_wp2
          go_loopw [63] (fun i wu => ∃ q : Nat, q ≤ x.slices.length ∧ i = .int .i64 q ∧ PRow UnitR wu wo.heap.size 163 2 (IS b (.slice A1 x.user.length d1) (.slice A2 x.slices.length d2) w.heap.size q) (.slice A2 x.slices.length d2) x.slices ∧ Keep (ofBlk (.slice A2 x.slices.length d2)) w9 wu) (fun i _ => x.slices.length - (intOf i).toNat)
          case atStart => exact ⟨0, Nat.zero_le _, rfl, S9.out, Keep.refl _ _⟩
          case round =>
            obtain ⟨q, hq, rfl, hU, hku⟩ := hrel
            have y7 := hku.cell y6 ns5
            by_cases hql : q < x.slices.length
            · have hql' : (q : Int) < x.slices.length := by omega
              obtain ⟨bu, cu, curu, eV, ub1, ub2⟩ : ∃ bu cu curu, Value.slice A2 x.slices.length d2 = .slice (some ⟨bu, 0, none⟩) x.slices.length cu ∧ wo.heap.size ≤ bu ∧ Blk wr bu 163 curu := by
                obtain ⟨_, _, _, h, _⟩ := hU
                obtain ⟨b', cap', cur', e, h1, h2, -⟩ := own_cases h (by omega)
                exact ⟨b', cap', cur', e, h1, h2⟩
              simp only [Value.slice.injEq, true_and] at eV
              obtain ⟨rfl, rfl⟩ := eV
              obtain ⟨ecs, el, ⟨ev, rfl, Ab, nb, cb, rfl, rb⟩, eat⟩ := hU.get q hql
              have ye : wr.cell? ⟨bu, q * 2 + 1, none⟩ = some (.slice Ab nb cb) := eat 1 _ (by decide) rfl
              have zm := HX.out.2.2.2 _ (List.getElem_mem hql)
              have zl := rb.len
              have zc := rb.cap
              have zn := rb.le
              rw [List.length_map, Nat.mul_one] at zl
              have CB := Lib.hid (fun (y : World) (ky : Keep none_ wr y) => clone_bytes Ab nb cb _ _ y (rb.keep ky.weak) (fun u hu => by obtain ⟨y, -, rfl⟩ := List.mem_map.1 hu; rfl) (by omega))
              have HU := Lib.hid hU
              have HKU := Lib.hid hku
              have UB2 := Lib.hid ub2
              have szu := hku.size
              generalize hzs : x.slices[q].2 = zs at CB zm zl
              have HZS := Lib.hid hzs
              clear hU hku ub2 eat rb el hzs
              unfold maxLen at zc
              go_upto_region 15 with (fail)
              have gd := factCalm_good (wr := wr) (ks := [13]) (anc := fun _ => []) (T := fun _ v y => y.ownsRow wr.heap.size 5 1 v nb (zs.map (Value.int .u8))) (fun _ _ _ _ h hk => own_keep h hk (fun _ _ e => e))
              have ne := factCalm_some wr [13] (fun _ => []) (fun _ v y => y.ownsRow wr.heap.size 5 1 v nb (zs.map (Value.int .u8)))
              have x5 := fun y => (factCalm_at (wr := wr) (ks := [13]) (anc := fun _ => []) (T := fun _ v y => y.ownsRow wr.heap.size 5 1 v nb (zs.map (Value.int .u8))) y).cell y7 (fun e => e)
              have xe := fun y => (factCalm_at (wr := wr) (ks := [13]) (anc := fun _ => []) (T := fun _ v y => y.ownsRow wr.heap.size 5 1 v nb (zs.map (Value.int .u8))) y).cell ye (fun e => e)
              refine wp_region_calm (factCalm wr [13] (fun _ => []) (fun _ v y => y.ownsRow wr.heap.size 5 1 v nb (zs.map (Value.int .u8)))) [0, 1, 2, 3, 4, 5, 6, 7, 8, 9, 10, 11, 12, 13, 14, 15] [16] 85 (by kernel_rfl) (by kernel_rfl) rfl gd (Keep.refl _ _).drew ?_
              simp only [pairs, List.filterMap_cons, List.filterMap_nil, List.getElem?_toArray, List.getElem?_cons_succ, List.getElem?_cons_zero, Option.map_some]
              repeat (refine Calm.walk_quiet ne rfl rfl rfl (fun K hK => ?_); go_big_quiet_op; refine hK _ ?_; clear hK K)
              refine Calm.walk_eff rfl rfl (fun n wy hn hG _ => ?_) ?_
              · have hG' : Keep none_ wr wy := hG
                unfold gives
                go_simp
                refine (CB.out wy hG').mono ?_
                rintro e wz ⟨v, rfl, hv, hk⟩
                exact ⟨_, rfl, own_base hv hG'.size, hk, hG'.trans hk, fun _ h => h.elim⟩
              intro vb wy hT
              obtain ⟨A3, d3, rfl, -⟩ := own_row (S := none_) (show wy.ownsRow wr.heap.size 5 1 vb nb (zs.map (Value.int .u8)) from hT) (fun _ _ e => e)
              clear hT wy
              go_frame
              repeat (refine Calm.walk_quiet ne rfl rfl rfl (fun K hK => ?_); go_big_quiet_op; refine hK _ ?_; clear hK K)
              intro w7 hG hD
              have k7 : Keep none_ wr w7 := hG
              have o7 : w7.ownsRow wr.heap.size 5 1 (.slice A3 nb d3) nb (zs.map (Value.int .u8)) := (hD.1 13 rfl _ rfl ⟨rfl, rfl⟩).1
              have B7 := UB2.out.keep k7 (fun e => e)
              have z7 := k7.cell ye (fun e => e)
              have f7 := B7.frozen (q * 2 + 1)
              have K7 := Lib.hid k7
              have O7 := Lib.hid o7
              have BB7 := Lib.hid B7
              clear hG hD gd ne x5 xe k7 o7 B7 y7 ye
              simp only [pickOps, List.filterMap_cons, List.filterMap_nil, List.getElem?_toArray, List.getElem?_cons_succ, List.getElem?_cons_zero]
              go_wp2
              go_roundw
              case rel =>
                have kst : Keep (one bu) w7 (w7.setCell ⟨bu, q * 2 + 1, none⟩ (.slice A3 nb d3)) := (Keep.refl (one bu) w7).setCell (p := ⟨bu, q * 2 + 1, none⟩) (.inl rfl) _
                have o9 := own_keep O7.out kst (own_apart O7.out BB7.out (by decide))
                have g0 := K7.out.size
                have nI : ∀ z, ofBlk (.slice A3 nb d3) z → ¬ IS b (.slice A1 x.user.length d1) (.slice (some ⟨bu, 0, none⟩) x.slices.length d2) w.heap.size (q + 1) q z := fun z e e' => by
                  have h0 := own_ge O7.out z e
                  rcases e' with e' | e' | e' | e'
                  · omega
                  · have := LU.out z e'; omega
                  · have := LS.out z e'; omega
                  · omega
                have p9 := (HU.out.keep unitLaw (K7.out) (fun _ _ e => e.elim) (fun _ _ e => e)).set unitLaw (T' := IS b (.slice A1 x.user.length d1) (.slice (some ⟨bu, 0, none⟩) x.slices.length d2) w.heap.size (q + 1)) q hql 1 (by decide) (.slice A3 nb d3) (fun i => .inr (.inr (.inl rfl))) (fun i hi z e => e.imp id (fun e => e.imp id (fun e => e.imp id (fun e => ⟨by omega, e.2⟩)))) (fun cs ⟨v, e, hb⟩ => by
                  obtain ⟨A4, d4, e4, r4⟩ := own_rowB o9 nI
                  exact ⟨_, by rw [e]; rfl, _, _, _, e4, by rw [HZS.out]; exact r4⟩)
                exact ⟨q + 1, by omega, by go_num, p9, (HKU.out.trans K7.out.weak).trans (kst.mono (fun z e => by cases e; rfl))⟩
              case measure => simp [intOf]; omega
            · obtain rfl : q = x.slices.length := by omega
              have SS := Lib.hid hU
              have KS := Lib.hid hku
              clear hU hku y7
              go_wp2
              go_roundw
              case rel =>
                have hkc : k < css.length := (List.getElem?_eq_some_iff.1 HG.out).1
                obtain ⟨_, _, _, ou8, _⟩ := id U8.out
                obtain ⟨_, _, _, ou9, _⟩ := id U9.out
                obtain ⟨_, _, _, os9, _⟩ := id S9.out
                obtain ⟨_, _, _, osr, _⟩ := id SS.out
                have nSU : ∀ z, (Value.slice A1 x.user.length d1).ownBlock = some z → ¬ ofBlk (.slice A2 x.slices.length d2) z := own_apart2 ou9 os9 (by decide)
                have ur := PRow.keep userLaw U9.out KS.out (fun _ z e => .inr (.inr (.inl e))) nSU
                obtain ⟨_, _, _, our, _⟩ := id ur
                have kt : Keep (fun z => z = b ∨ wo.heap.size ≤ z) wo wr := ((K8.out.mono (fun z e => .inl e)).trans (K9.out.mono (fun z e => .inr (own_ge ou8 z e)))).trans (KS.out.mono (fun z e => .inr (own_ge os9 z e)))
                have szr : wo.heap.size ≤ wr.heap.size := kt.size
                have or : wr.ownsRow w.heap.size 72 148 (.slice (some ⟨b, 0, none⟩) l.length c5) l.length _ := own_keep (own_keep O8.out K9.out (own_apart2 O8.out ou8 (by decide))) KS.out (own_apart2 (own_keep O8.out K9.out (own_apart2 O8.out ou8 (by decide))) os9 (by decide))
                obtain ⟨q1, q2, q3, q4⟩ := HQ.out
                obtain ⟨ecs, hfl, hone⟩ := HE.out
                refine ⟨k + 1, by omega, by go_num, ⟨_, by simp [q1], fun y hy => ?_, or, fun i cs y hi hy => ?_⟩, HKR.out.then kt (fun z e => .inr (e.elim (fun e => by omega) (fun e => by omega)))⟩
                · rcases List.mem_or_eq_of_mem_set hy with hy | rfl
                  · exact q2 y hy
                  · rw [List.length_set, List.length_set]; exact q2 _ (List.getElem_mem hkc)
                · rw [List.getElem?_set] at hi
                  by_cases e : k = i
                  · subst e
                    rw [if_pos rfl, if_pos hkc, Option.some.injEq] at hi
                    rw [HXL.out, Option.some.injEq] at hy
                    rw [← hi, ← hy, ecs, flat_user hfl, flat_slices hfl]
                    have nU : ∀ z, (Value.slice A1 x.user.length d1).ownBlock = some z → ¬ CS (.slice (some ⟨b, 0, none⟩) l.length c5) w.heap.size wr.heap.size (k + 1) k z := fun z e e' => by
                      have h0 := own_ge our z e
                      have h1 := own_lt our z e
                      rcases e' with e' | e' | e'
                      · exact NBU.out z e (by cases e'; rfl)
                      · omega
                      · omega
                    have nS : ∀ z, (Value.slice A2 x.slices.length d2).ownBlock = some z → ¬ CS (.slice (some ⟨b, 0, none⟩) l.length c5) w.heap.size wr.heap.size (k + 1) k z := fun z e e' => by
                      have h0 := own_ge osr z e
                      have h1 := own_lt osr z e
                      rcases e' with e' | e' | e'
                      · exact NBS.out z e (by cases e'; rfl)
                      · omega
                      · omega
                    have tr : ∀ (n i : Nat), i < n → ∀ z, CS (.slice (some ⟨b, 0, none⟩) l.length c5) w.heap.size wr.heap.size (k + 1) k z → orr (IS b (.slice A1 x.user.length d1) (.slice A2 x.slices.length d2) w.heap.size n i) wr.heap.size z := fun n i hi z e => e.elim (fun e => .inl (.inl (by cases e; rfl))) (fun e => e.elim .inr (fun e => .inl (.inr (.inr (.inr ⟨hi, e.2⟩)))))
                    exact ⟨_, _, rfl, hfl, hone, (ur.orr userLaw).elems userLaw nU (tr _), (SS.out.orr unitLaw).elems unitLaw nS (tr _)⟩
                  · rw [if_neg e] at hi
                    exact itmLaw.sub _ _ _ _ _ (itmLaw.keep _ _ _ _ _ (q4 i cs y hi hy) (kt.mono (fun z e => e.elim (fun e => .inl (by rw [e]; rfl)) (fun e => .inr (.inl e))))) (fun z e' => e'.elim .inl (fun e' => e'.elim (fun e' => .inr (.inl (by omega))) (fun e' => .inr (.inr ⟨by omega, e'.2⟩))))
              case measure => simp [intOf]; omega
    · obtain rfl : k = l.length := by omega
      go_wp2
      go_ret
      have ho : ∀ z, (Value.slice A5 l.length c5).ownBlock = some z → ¬ bel w.heap.size z := fun z e h => by
        obtain ⟨_, _, _, o, _⟩ := hP
        have := own_ge o z e
        unfold bel at h
        omega
      exact ⟨_, rfl, hP.elems itmLaw ho (fun i hi z e => .inr (.inr ⟨hi, e⟩)), hkr⟩
end Go.Proofs.YtnefbeplgfdkkaaGreatDoor
