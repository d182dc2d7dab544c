/-
  cutroomref12.SameCoded of equal pictures.
-/
import Derived.Test.YtnefbeplgfdkkaaGreatDoorRu33
namespace Go.Proofs.YtnefbeplgfdkkaaGreatDoor
open Go.RowKit

set_option maxRecDepth 100000 in
set_option maxHeartbeats 1000000 in
theorem sameCoded_any (h6 : Array Value) (hs6 : h6.size = 6) (hq : EqOk Tryz.prog 10000 66 (.agg h6) (.agg h6)) (us : List (List Int)) (ts : List (Int × List Int)) (u u' s s' : Value) (S S' : Nat → Prop) (w : World) (hu : ElemsOf w S 1 (UserR w S) u us) (hu' : ElemsOf w S' 1 (UserR w S') u' us) (ht : ElemsOf w S 2 (UnitR w S) s ts) (ht' : ElemsOf w S' 2 (UnitR w S') s' ts) :
    Calls Tryz.prog 83 #[.agg (h6 ++ #[u, s]), .agg (h6 ++ #[u', s'])] w fun e w' => e = .returned (.bool true) ∧ Keep none_ w w' := by
  obtain ⟨A, n, c, rfl, h1, h2, hn, -⟩ := id hu
  obtain ⟨A', n', c', rfl, h1', h2', hn', -⟩ := id hu'
  obtain ⟨B, m, d, rfl, g1, g2, gn, -⟩ := id ht
  obtain ⟨B', m', d', rfl, g1', g2', gn', -⟩ := id ht'
  obtain rfl : n = n' := by omega
  obtain rfl : m = m' := by omega
  unfold maxLen at h2 h2' g2 g2'
  obtain ⟨r, hr1, hr2⟩ := hq
  obtain rfl : r = true := hr1 rfl
  obtain ⟨C1, hC1⟩ : ∃ C1, h6 ++ #[.slice A n c, .slice B m d] = C1 := ⟨_, rfl⟩
  obtain ⟨C2, hC2⟩ : ∃ C2, h6 ++ #[.slice A' n c', .slice B' m d'] = C2 := ⟨_, rfl⟩
  rw [hC1, hC2]
  obtain ⟨W1, hW1⟩ : ∃ W1, W1 = (w.alloc (.cells C1 70)).alloc (.cells C2 70) := ⟨_, rfl⟩
  have k1 : Keep none_ w W1 := hW1 ▸ ((Keep.refl none_ w).alloc _).alloc _
  obtain ⟨b0, b1, -⟩ := two (Keep.refl none_ ((w.alloc (.cells C1 70)).alloc (.cells C2 70)))
  rw [← hW1] at b0 b1
  have y1 : W1.cell? ⟨w.heap.size, 6, none⟩ = some (.slice A n c) := by rw [b0.cell, ← hC1, Array.getElem?_append_right (by omega), hs6]; rfl
  have y2 : W1.cell? ⟨w.heap.size, 7, none⟩ = some (.slice B m d) := by rw [b0.cell, ← hC1, Array.getElem?_append_right (by omega), hs6]; rfl
  have z1 : W1.cell? ⟨w.heap.size + 1, 6, none⟩ = some (.slice A' n c') := by rw [b1.cell, ← hC2, Array.getElem?_append_right (by omega), hs6]; rfl
  have z2 : W1.cell? ⟨w.heap.size + 1, 7, none⟩ = some (.slice B' m d') := by rw [b1.cell, ← hC2, Array.getElem?_append_right (by omega), hs6]; rfl
  have RA := Lib.hid (show W1.rangeAt w.heap.size 0 h6.toList from fun j v hj => by
    have hj' := (List.getElem?_eq_some_iff.1 hj).1
    rw [Nat.zero_add, b0.cell, ← hC1, Array.getElem?_append_left (by simpa using hj')]
    simpa using hj)
  have RB := Lib.hid (show W1.rangeAt (w.heap.size + 1) 0 h6.toList from fun j v hj => by
    have hj' := (List.getElem?_eq_some_iff.1 hj).1
    rw [Nat.zero_add, b1.cell, ← hC2, Array.getElem?_append_left (by simpa using hj')]
    simpa using hj)
  have SZ := Lib.hid (show (Tryz.prog.info? 66).map (·.size) = some h6.size by rw [hs6]; kernel_rfl)
  have HR2 := Lib.hid hr2
  have K1 := Lib.hid k1
  have HU := Lib.hid hu
  have HU' := Lib.hid hu'
  have SU := Lib.hid (fun (wx : World) (kx : Keep none_ W1 wx) => sameUnits_any ts _ _ S S' wx (ElemsOf.keep (R' := UnitR wx S) ht (k1.trans kx).weak (fun _ e => e) (fun cs x h => unitLaw.keep _ _ _ _ _ h (k1.trans kx).weak)) (ElemsOf.keep (R' := UnitR wx S') ht' (k1.trans kx).weak (fun _ e => e) (fun cs x h => unitLaw.keep _ _ _ _ _ h (k1.trans kx).weak)))
  have HN := Lib.hid hn
  clear hu hu' ht ht' b0 b1 k1 hr1 hr2 hC1 hC2 hn hn' gn gn' hs6
  go_enter Tryz.func83, Tryz.ntmps83
  go_upto_region 1 with (fail)
  rw [← hW1]
  clear hW1
  have t1 : True := trivial
  have t2 : True := trivial
  have t3 : True := trivial
  have t4 : True := trivial
  go_upto_region 4 with (first | (have _t := t1; refine wpList_load_part 66 (.tmp 6) rfl rfl w.heap.size 0 rfl h6 _ RA.out Tryz.underlying66 rfl SZ.out ?_; go_frame; clear _t t1) | (have _t := t2; refine wpList_load_part 66 (.tmp 8) rfl rfl (w.heap.size + 1) 0 rfl h6 _ RB.out Tryz.underlying66 rfl SZ.out ?_; go_frame; clear _t t2) | (have _t := t3; refine wpList_neq_agg 66 (.tmp 7) (.tmp 9) _ rfl rfl h6 h6 rfl rfl (by kernel_rfl) true HR2.out ?_; go_frame; clear _t t3) | (have _t := t4; go_at_call 106; refine (SU.out W1 (Keep.refl _ _)).mono ?_; rintro e w2 ⟨rfl, k2⟩; have q1 := k2.cell y1 (fun e => e); have q2 := k2.cell z1 (fun e => e); have K2 := Lib.hid (K1.out.trans k2); clear k2 _t t4))
  have L1 : n ≤ maxLen := by unfold maxLen; omega
  go_loopw [5] (fun i wr => ∃ k : Nat, k ≤ n ∧ i = .int .i64 k ∧ Keep none_ w2 wr) (fun i _ => n - (intOf i).toNat)
  case atStart => exact ⟨0, Nat.zero_le _, rfl, Keep.refl _ _⟩
  case round =>
    obtain ⟨k, hk, rfl, hkr⟩ := hrel
    have p1 := hkr.cell q1 (fun e => e)
    have p2 := hkr.cell q2 (fun e => e)
    have HK := Lib.hid (K2.out.trans hkr)
    have HK2 := Lib.hid hkr
    have HR := Lib.hid (ElemsOf.keep (w' := wr) (R' := UserR wr S) HU.out HK.out.weak (fun _ e => e) (fun cs x h => userLaw.keep _ _ _ _ _ h HK.out.weak))
    have HR' := Lib.hid (ElemsOf.keep (w' := wr) (R' := UserR wr S') HU'.out HK.out.weak (fun _ e => e) (fun cs x h => userLaw.keep _ _ _ _ _ h HK.out.weak))
    clear hkr
    by_cases hlt : k < n
    · have hlt' : (k : Int) < n := by omega
      obtain ⟨b, o, rfl, -, hkl, cs, hcl, hrg, va, rfl, ha⟩ := ElemsOf.elem HR.out k hlt
      obtain ⟨b', o', rfl, -, hkl', cs', hcl', hrg', va', rfl, ha'⟩ := ElemsOf.elem HR'.out k hlt
      generalize us[k] = zs at ha ha'
      have e1 : wr.cell? ⟨b, o + k, none⟩ = some va := by have := hrg 0 va rfl; rwa [Nat.mul_one, Nat.add_zero] at this
      have e2 : wr.cell? ⟨b', o' + k, none⟩ = some va' := by have := hrg' 0 va' rfl; rwa [Nat.mul_one, Nat.add_zero] at this
      have SM := Lib.hid (fun (wx : World) (kx : Keep none_ wr wx) => sameBytes_any zs va va' S S' wx (ha.keep kx.weak) (ha'.keep kx.weak))
      clear hrg hrg' ha ha' hcl hcl'
      go_upto_region 6 with (fail)
      have gd := callCalm_good wr 10 (.bool true)
      have ne := callCalm_some wr 10 (.bool true)
      have x1 := fun y => (callCalm_at (wr := wr) (k := 10) (u := .bool true) y).cell p1 (fun e => e)
      have x2 := fun y => (callCalm_at (wr := wr) (k := 10) (u := .bool true) y).cell p2 (fun e => e)
      have x3 := fun y => (callCalm_at (wr := wr) (k := 10) (u := .bool true) y).cell e1 (fun e => e)
      have x4 := fun y => (callCalm_at (wr := wr) (k := 10) (u := .bool true) y).cell e2 (fun e => e)
      refine wp_region_calm (callCalm wr 10 (.bool true)) [0, 1, 2, 3, 4, 5, 6, 7, 8, 9, 10, 11] [] 47 (by kernel_rfl) (by kernel_rfl) rfl gd (Keep.refl _ _).drew ?_
      simp only [pairs, List.filterMap_cons, List.filterMap_nil, List.getElem?_toArray, List.getElem?_cons_succ, List.getElem?_cons_zero, Option.map_some]
      repeat (refine Calm.walk_quiet ne rfl rfl rfl (fun K hK => ?_); go_big_quiet_op; refine hK _ ?_; clear hK K)
      refine Calm.walk_eff rfl rfl (fun n wy hn hG _ => ?_) ?_
      · have hG' : Keep none_ wr wy := hG
        unfold gives
        go_simp
        refine (SM.out wy hG').mono ?_
        rintro e wz ⟨rfl, kz⟩
        exact ⟨_, rfl, rfl, kz, hG'.trans kz, fun _ h => h.elim⟩
      intro vq wy hT
      obtain rfl : vq = .bool true := hT
      clear wy
      go_frame
      repeat (refine Calm.walk_quiet ne rfl rfl rfl (fun K hK => ?_); go_big_quiet_op; refine hK _ ?_; clear hK K)
      intro w9 hG hD
      have k89 : Keep none_ wr w9 := hG
      have HK9 := Lib.hid (HK2.out.trans k89)
      clear hG hD gd ne x1 x2 x3 x4 k89 SM
      simp only [pickOps, List.filterMap_nil]
      go_wp2
      go_roundw
      case rel => exact ⟨k + 1, hlt, by go_num, HK9.out⟩
      case measure => simp [intOf]; omega
    · obtain rfl : k = n := by omega
      go_wp2
      go_ret
      exact ⟨rfl, HK.out⟩
end Go.Proofs.YtnefbeplgfdkkaaGreatDoor
/-
  cutroomref12.SameItem of any item and itself.
-/
namespace Go.Proofs.YtnefbeplgfdkkaaGreatDoor
open Go.RowKit

/-- The parts of an item that are compared as a whole are of their types. -/
structure ItW (x : Itm) : Prop where
  kind : ∃ k, x.flat[0]? = some (.int .i64 k)
  seq : EqOk Tryz.prog 10000 62 (.agg ((x.flat.drop 1).take 135).toArray) (.agg ((x.flat.drop 1).take 135).toArray)
  grp : EqOk Tryz.prog 10000 64 (.agg ((x.flat.drop 136).take 3).toArray) (.agg ((x.flat.drop 136).take 3).toArray)
  pic : EqOk Tryz.prog 10000 66 (.agg ((x.flat.drop 139).take 6).toArray) (.agg ((x.flat.drop 139).take 6).toArray)
theorem flat_part {w : World} {g : Nat} {cs : Array Value} {fl : List Value} {r : List Value} (hb : Blk w g 72 cs) (e : cs.toList = fl ++ r) (hl : fl.length = 145) (o n : Nat) (ho : o + n ≤ 145) : w.rangeAt g o ((fl.drop o).take n).toArray.toList := fun j v hj => by
  rw [List.getElem?_take] at hj
  split at hj
  · rw [List.getElem?_drop] at hj
    rw [hb.cell, ← Array.getElem?_toList, e, List.getElem?_append_left (by omega)]
    exact hj
  · cases hj

theorem coded_part {w : World} {g : Nat} {cs : Array Value} {fl : List Value} {u s p : Value} (hb : Blk w g 72 cs) (e : cs.toList = fl ++ [u, s, p]) (hl : fl.length = 145) : w.rangeAt g 139 (((fl.drop 139).take 6).toArray ++ #[u, s]).toList := fun j v hj => by
  have hj' : ((fl.drop 139).take 6 ++ [u, s])[j]? = some v := by simpa using hj
  have hjl := (List.getElem?_eq_some_iff.1 hj').1
  have e2 : fl.take 139 ++ (fl.drop 139).take 6 = fl := by
    rw [List.take_of_length_le (l := fl.drop 139) (by simp; omega), List.take_append_drop]
  have e3 : fl ++ [u, s, p] = fl.take 139 ++ (((fl.drop 139).take 6 ++ [u, s]) ++ [p]) := by
    conv => lhs; rw [← e2]
    simp
  have hl2 : (fl.take 139).length = 139 := by simp; omega
  rw [hb.cell, ← Array.getElem?_toList, e, e3, List.getElem?_append_right (by omega), hl2, Nat.add_sub_cancel_left, List.getElem?_append_left hjl]
  exact hj'
set_option maxRecDepth 100000 in
set_option maxHeartbeats 1000000 in
theorem sameItem_big (x : Itm) (hx : ItW x) : SameOk x := by
  intro w S S' cs cs' h h'
  obtain ⟨k, hk⟩ := hx.kind
  obtain ⟨c0, c1, c2, c3⟩ := h.kind hk
  obtain ⟨d0, d1, d2, d3⟩ := h'.kind hk
  obtain ⟨u, s, e, hfl, hone, hu, hs⟩ := h
  obtain ⟨u', s', e', -, -, hu', hs'⟩ := h'
  obtain ⟨r1, hr1, hs1⟩ := hx.seq
  obtain rfl : r1 = true := hr1 rfl
  obtain ⟨r2, hr2, hs2⟩ := hx.grp
  obtain rfl : r2 = true := hr2 rfl
  obtain ⟨W1, hW1⟩ : ∃ W1, W1 = (w.alloc (.cells cs 72)).alloc (.cells cs' 72) := ⟨_, rfl⟩
  have k1 : Keep none_ w W1 := hW1 ▸ ((Keep.refl none_ w).alloc _).alloc _
  obtain ⟨b0, b1, -⟩ := two (Keep.refl none_ ((w.alloc (.cells cs 72)).alloc (.cells cs' 72)))
  rw [← hW1] at b0 b1
  have y0 := (b0.cell 0).trans c0
  have y1 := (b0.cell 147).trans c1
  have z0 := (b1.cell 0).trans d0
  have z1 := (b1.cell 147).trans d1
  have A1 := Lib.hid (flat_part b0 e hfl 1 135 (by decide))
  have A2 := Lib.hid (flat_part b1 e' hfl 1 135 (by decide))
  have B1 := Lib.hid (flat_part b0 e hfl 136 3 (by decide))
  have B2 := Lib.hid (flat_part b1 e' hfl 136 3 (by decide))
  have C1 := Lib.hid (coded_part b0 e hfl)
  have C2 := Lib.hid (coded_part b1 e' hfl)
  have SC := Lib.hid (sameCoded_any ((x.flat.drop 139).take 6).toArray (by simp; omega) hx.pic x.user x.slices u u' s s' S S' W1 (ElemsOf.keep (R' := UserR W1 S) hu k1.weak (fun _ e => e) (fun cs x h => userLaw.keep _ _ _ _ _ h k1.weak)) (ElemsOf.keep (R' := UserR W1 S') hu' k1.weak (fun _ e => e) (fun cs x h => userLaw.keep _ _ _ _ _ h k1.weak)) (ElemsOf.keep (R' := UnitR W1 S) hs k1.weak (fun _ e => e) (fun cs x h => unitLaw.keep _ _ _ _ _ h k1.weak)) (ElemsOf.keep (R' := UnitR W1 S') hs' k1.weak (fun _ e => e) (fun cs x h => unitLaw.keep _ _ _ _ _ h k1.weak)))
  obtain ⟨q1, hq1⟩ : ∃ q, ((x.flat.drop 1).take 135).toArray = q := ⟨_, rfl⟩
  obtain ⟨q2, hq2⟩ : ∃ q, ((x.flat.drop 136).take 3).toArray = q := ⟨_, rfl⟩
  obtain ⟨q3, hq3⟩ : ∃ q, ((x.flat.drop 139).take 6).toArray ++ #[u, s] = q := ⟨_, rfl⟩
  obtain ⟨q4, hq4⟩ : ∃ q, ((x.flat.drop 139).take 6).toArray ++ #[u', s'] = q := ⟨_, rfl⟩
  have Z1 := Lib.hid (show (Tryz.prog.info? 62).map (·.size) = some q1.size by rw [show q1.size = 135 by rw [← hq1]; simp [hfl]]; kernel_rfl)
  have Z2 := Lib.hid (show (Tryz.prog.info? 64).map (·.size) = some q2.size by rw [show q2.size = 3 by rw [← hq2]; simp [hfl]]; kernel_rfl)
  have Z3 := Lib.hid (show (Tryz.prog.info? 70).map (·.size) = some q3.size by rw [show q3.size = 8 by rw [← hq3]; simp [hfl]]; kernel_rfl)
  have Z4 := Lib.hid (show (Tryz.prog.info? 70).map (·.size) = some q4.size by rw [show q4.size = 8 by rw [← hq4]; simp [hfl]]; kernel_rfl)
  rw [hq1] at A1 A2 hs1
  rw [hq2] at B1 B2 hs2
  rw [hq3] at C1 SC
  rw [hq4] at C2 SC
  have HS1 := Lib.hid hs1
  have HS2 := Lib.hid hs2
  have K1 := Lib.hid k1
  clear hs1 hs2 k1 hq1 hq2 hq3 hq4 hu hu' hs hs' e e' b0 b1 c0 c1 c2 c3 d0 d1 d2 d3 hr1 hr2 hone
  go_enter Tryz.func55, Tryz.ntmps55
  go_upto_region 1 with (fail)
  rw [← hW1]
  clear hW1
  by_cases k1 : k = 1
  · subst k1
    have t1 : True := trivial
    have t2 : True := trivial
    have t3 : True := trivial
    go_wp2_with (first | (have _t := t1; refine wpList_load_part 62 (.tmp 21) rfl rfl w.heap.size 1 rfl q1 _ A1.out Tryz.underlying62 rfl Z1.out ?_; go_frame; clear _t t1) | (have _t := t2; refine wpList_load_part 62 (.tmp 23) rfl rfl (w.heap.size + 1) 1 rfl q1 _ A2.out Tryz.underlying62 rfl Z1.out ?_; go_frame; clear _t t2) | (have _t := t3; refine wpList_eql_agg 62 (.tmp 22) (.tmp 24) _ rfl rfl q1 q1 rfl rfl (by kernel_rfl) true HS1.out ?_; go_frame; clear _t t3))
    go_ret
    exact ⟨rfl, K1.out⟩
  have k1b : (k == 1) = false := beq_eq_false_iff_ne.2 k1
  by_cases k2 : k = 2
  · subst k2
    have t1 : True := trivial
    have t2 : True := trivial
    have t3 : True := trivial
    go_wp2_with (first | (have _t := t1; refine wpList_load_part 64 (.tmp 28) rfl rfl w.heap.size 136 rfl q2 _ B1.out Tryz.underlying64 rfl Z2.out ?_; go_frame; clear _t t1) | (have _t := t2; refine wpList_load_part 64 (.tmp 30) rfl rfl (w.heap.size + 1) 136 rfl q2 _ B2.out Tryz.underlying64 rfl Z2.out ?_; go_frame; clear _t t2) | (have _t := t3; refine wpList_eql_agg 64 (.tmp 29) (.tmp 31) _ rfl rfl q2 q2 rfl rfl (by kernel_rfl) true HS2.out ?_; go_frame; clear _t t3))
    go_ret
    exact ⟨rfl, K1.out⟩
  have k2b : (k == 2) = false := beq_eq_false_iff_ne.2 k2
  by_cases k3 : k = 3
  · subst k3
    have t1 : True := trivial
    have t2 : True := trivial
    have t3 : True := trivial
    go_wp2_with (first | (have _t := t1; refine wpList_load_part 70 (.tmp 35) rfl rfl w.heap.size 139 rfl q3 _ C1.out Tryz.underlying70 rfl Z3.out ?_; go_frame; clear _t t1) | (have _t := t2; refine wpList_load_part 70 (.tmp 37) rfl rfl (w.heap.size + 1) 139 rfl q4 _ C2.out Tryz.underlying70 rfl Z4.out ?_; go_frame; clear _t t2) | (have _t := t3; go_at_call 83; refine SC.out.mono ?_; rintro e w2 ⟨rfl, k2⟩; have K2 := Lib.hid (K1.out.trans k2); clear k2 _t t3))
    go_ret
    exact ⟨rfl, K2.out⟩
  have k3b : (k == 3) = false := beq_eq_false_iff_ne.2 k3
  go_wp2
  go_ret
  exact ⟨rfl, K1.out⟩
end Go.Proofs.YtnefbeplgfdkkaaGreatDoor
