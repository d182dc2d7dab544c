/-
  plane.Block on frames of one number.
-/
import Derived.Test.YtebdgoikmclflaaGreatDoorEb21
namespace Go.Proofs.YtebdgoikmclflaaGreatDoor
open Go.RowKit

/-- 64 numbers z. -/
def A64 (z : Int) : Array Value := ((List.replicate 64 z).map (Value.int .i64)).toArray
theorem A64_size (z : Int) : (A64 z).size = 64 := by unfold A64; simp
theorem A64_one (z : Int) : (A64 z).all (·.oneCell') = true := by unfold A64; simp [Value.oneCell']
theorem A64_get (z : Int) (k : Nat) (hk : k < 64) : (A64 z)[k]? = some (.int .i64 z) := by
  unfold A64
  rw [List.getElem?_toArray, List.getElem?_map, List.getElem?_replicate, if_pos hk]
  rfl
theorem A64_zero : zero64 = A64 0 := by kernel_rfl
theorem IntsB.all {w : World} {b : Nat} {t : TypeId} {x z : Int} (h : IntsB w b t (mixL 64 64 x z)) : Blk w b t (A64 z) := by
  unfold IntsB at h
  rw [mixL_all] at h
  exact h
theorem IntsB.start {w : World} {b : Nat} {t : TypeId} {z : Int} (h : Blk w b t (A64 0)) : IntsB w b t (mixL 64 0 0 z) := by
  unfold IntsB
  rw [mixL_zero]
  exact h
theorem mixL_set {N k : Nat} {x z : Int} (h : k < N) : (mixL N k x z).set k z = mixL N (k + 1) x z := by
  apply List.ext_getElem?
  intro i
  unfold mixL
  rw [List.getElem?_set]
  by_cases hik : k = i
  · subst hik
    have : k < (List.replicate k z ++ List.replicate (N - k) x).length := by simp; omega
    rw [if_pos rfl, if_pos this, List.getElem?_append_left (by simp), List.getElem?_replicate, if_pos (by omega)]
  · rw [if_neg hik]
    by_cases h1 : i < k
    · rw [List.getElem?_append_left (by simpa using h1), List.getElem?_append_left (by simp; omega), List.getElem?_replicate, List.getElem?_replicate, if_pos h1, if_pos (by omega)]
    · rw [List.getElem?_append_right (by simp; omega), List.getElem?_append_right (by simp; omega), List.getElem?_replicate, List.getElem?_replicate]
      simp only [List.length_replicate]
      by_cases h2 : i - k < N - k
      · rw [if_pos h2, if_pos (by omega)]
      · rw [if_neg h2, if_neg (by omega)]
theorem IntsB.next {w : World} {b k : Nat} {t : TypeId} {x z : Int} (h : IntsB w b t (mixL 64 k x z)) (hk : k < 64) : IntsB (w.setCell ⟨b, k, none⟩ (.int .i64 z)) b t (mixL 64 (k + 1) x z) := by
  have := h.set_ k z
  rw [mixL_set hk] at this
  exact this
/-- Calls that leave what was there, in a region that draws its order. -/
def facCalm (wr : World) (ks : List Nat) (T : Nat → Value → World → Prop) : Calm where
  R := fun _ => Keep none_
  G := fun _ => Keep none_ wr
  eff := ks
  T := fun k _ v w => T k v w
  anc := fun _ => []
  own := fun _ _ _ => False
theorem facCalm_good {wr : World} {ks : List Nat} {T : Nat → Value → World → Prop} (hT : ∀ k v w w', T k v w → Keep none_ w w' → T k v w') : (facCalm wr ks T).Good :=
  ⟨fun _ _ h => h, fun _ _ _ h => h.size, fun _ _ _ _ _ _ _ _ h k => hT _ _ _ _ h k⟩
theorem facCalm_at {wr : World} {ks : List Nat} {T : Nat → Value → World → Prop} (x : (facCalm wr ks T).Sub) : Keep none_ wr ((facCalm wr ks T).at_ x) := by
  obtain ⟨x, n, _, h⟩ := x
  exact h
theorem facCalm_some (wr : World) (ks : List Nat) (T : Nat → Value → World → Prop) : Nonempty (facCalm wr ks T).Sub := ⟨⟨wr, 0, Nat.zero_le _, Keep.refl _ _⟩⟩
set_option maxRecDepth 100000 in
set_option maxHeartbeats 2000000 in
theorem block0 (z : Int) (hz : 0 ≤ z ∧ z ≤ 255) (A1 A2 A3 : Option Addr) (c1 c2 c3 : Nat) (w : World) (hf : FrC w z A1 A2 A3 c1 c2 c3) : Calls Tryz.prog 113 #[.agg #[.int .i64 16, .int .i64 16, .slice A1 256 c1, .slice A2 64 c2, .slice A3 64 c3], .int .i64 0, .int .i64 0, .int .i64 0, .bool false] w fun e w' => e = .returned (.tuple #[.agg (A64 z), .int .i64 0]) ∧ Keep none_ w w' := by
  obtain ⟨zc, hzc⟩ : ∃ zc, zc = A64 0 := ⟨_, rfl⟩
  have ze : ∀ w, (zeroValue 99).run Tryz.prog w = .ok (.agg zc) w := by rw [hzc, ← A64_zero]; exact fun w => by kernel_rfl
  obtain ⟨W0, hW0⟩ : ∃ W0, W0 = (w.alloc (.cells #[.int .i64 16, .int .i64 16, .slice A1 256 c1, .slice A2 64 c2, .slice A3 64 c3] 32)).alloc (.cells zc 99) := ⟨_, rfl⟩
  obtain ⟨f0, r0, k0⟩ := two (Keep.eq_ hW0)
  have HF := Lib.hid (hf.keep k0)
  have F0 := Lib.hid f0
  have R0 := Lib.hid r0
  have K0 := Lib.hid k0
  have HZC := Lib.hid hzc
  have S0 := Lib.hid (show w.heap.size + 1 < W0.heap.size from (show Blk _ _ _ _ from r0).lt)
  obtain ⟨z1, z2⟩ := hz
  have Z12 := Lib.hid (And.intro z1 z2)
  clear k0 f0 r0 hf hzc z1 z2
  have t1 : True := trivial
  have t2 : True := trivial
  go_enter Tryz.func113, Tryz.ntmps113
  go_upto_region 1 with (fail)
  rw [← hW0]
  clear hW0
  go_upto_region 3 with (first | (have _t := t1; refine wpList_load_blk rfl 32 (.tmp 5) rfl w.heap.size 32 _ _ rfl F0.out Tryz.underlying32 rfl (by kernel_rfl) ?_; go_frame; clear _t t1) | (have _t := t2; go_at_call 80; refine (has_any A1 A2 A3 c1 c2 c3 W0).mono ?_; rintro e w2 ⟨rfl, k2⟩; have F2 := Lib.hid (F0.out.keep k2 (fun e => e)); have R2 := Lib.hid (R0.out.keep k2 (fun e => e)); have HF2 := Lib.hid (HF.out.keep k2); have K2 := Lib.hid (K0.out.trans k2); have S2 := Lib.hid (Nat.lt_of_lt_of_le S0.out k2.size); clear k2 _t t2))
  go_upto_region 4 with (fail)
  obtain ⟨w3, hw3⟩ : ∃ w3, w3 = w2.alloc (.cells zc 99) := ⟨_, rfl⟩
  rw [← hw3]
  have k3 : Keep none_ w2 w3 := hw3 ▸ (Keep.refl none_ w2).alloc _
  have X3 := Lib.hid (show IntsB w3 w2.heap.size 99 (mixL 64 0 0 z) from IntsB.start (by rw [← HZC.out]; exact hw3 ▸ Blk.new _ _ _))
  have F3 := Lib.hid (F2.out.keep k3 (fun e => e))
  have R3 := Lib.hid (R2.out.keep k3 (fun e => e))
  have HF3 := Lib.hid (HF2.out.keep k3)
  have K3 := Lib.hid (K2.out.trans k3)
  clear hw3 k3 F2 R2 HF2
  obtain ⟨T, hT⟩ : ∃ T : Nat → Value → World → Prop, T = fun k v wz => if k = 2 then v = .slice A1 256 c1 else if k = 9 then v = .agg #[.int .i64 0, .int .i64 16, .int .i64 8, .int .i64 8] else NewB w3.heap.size 64 z v wz := ⟨_, rfl⟩
  have HT := Lib.hid hT
  clear hT
  have gd : (facCalm w3 [2, 9, 10] T).Good := facCalm_good (fun k v w w' h hk => by
    rw [HT.out] at h ⊢
    by_cases e1 : k = 2
    · simp only [e1, if_true] at h ⊢; exact h
    · by_cases e2 : k = 9
      · simp only [e2, if_true] at h ⊢; exact h
      · simp only [e1, e2, if_false] at h ⊢; exact NewB.keep h hk)
  have ne := facCalm_some w3 [2, 9, 10] T
  have x0 : ∀ y : (facCalm w3 [2, 9, 10] T).Sub, ((facCalm w3 [2, 9, 10] T).at_ y).cell? ⟨w.heap.size, 0, none⟩ = some (.int .i64 16) := fun y => (facCalm_at y).cell (F3.out.cell 0) (fun e => e)
  have xl : ∀ y : (facCalm w3 [2, 9, 10] T).Sub, ((facCalm w3 [2, 9, 10] T).at_ y).rangeAt w.heap.size 0 #[.int .i64 16, .int .i64 16, .slice A1 256 c1, .slice A2 64 c2, .slice A3 64 c3].toList := fun y => (F3.out.keep (facCalm_at y) (fun e => e)).rangeAt
  refine wp_region_calm (facCalm w3 [2, 9, 10] T) [0, 1, 2, 3, 4, 5, 6, 7, 8, 9, 10, 11, 12] [] 52 (by kernel_rfl) (by kernel_rfl) rfl gd (Keep.refl _ _).drew ?_
  simp only [pairs, List.filterMap_cons, List.filterMap_nil, List.getElem?_toArray, List.getElem?_cons_succ, List.getElem?_cons_zero, Option.map_some]
  refine Calm.walk_load 32 (.tmp 5) rfl ne rfl rfl w.heap.size 0 rfl #[.int .i64 16, .int .i64 16, .slice A1 256 c1, .slice A2 64 c2, .slice A3 64 c3] _ xl Tryz.underlying32 rfl (by kernel_rfl) ?_
  go_frame
  repeat (refine Calm.walk_quiet ne rfl rfl rfl (fun K hK => ?_); go_big_quiet_op; refine hK _ ?_; clear hK K)
  refine Calm.walk_eff rfl rfl (fun n wy _ hR _ => ?_) ?_
  · have hR' : Keep none_ w3 wy := hR
    unfold gives
    go_simp
    refine (component_any 0 (by decide) A1 A2 A3 c1 c2 c3 wy).mono ?_
    rintro e wz ⟨he, hk⟩
    exact ⟨.slice A1 256 c1, he, (by show T _ _ _; rw [HT.out]; rfl), hk, hR'.trans hk, fun _ h => h.elim⟩
  intro v wy hv
  obtain rfl : v = .slice A1 256 c1 := by have h : T 2 v wy := hv; rw [HT.out] at h; exact h
  clear wy hv
  go_frame
  repeat (refine Calm.walk_quiet ne rfl rfl rfl (fun K hK => ?_); go_big_quiet_op; refine hK _ ?_; clear hK K)
  refine Calm.walk_eff rfl rfl (fun n wy _ hR _ => ?_) ?_
  · have hR' : Keep none_ w3 wy := hR
    unfold gives
    go_simp
    refine (place_any 0 (by decide) wy).mono ?_
    rintro e wz ⟨he, hk⟩
    exact ⟨.agg #[.int .i64 0, .int .i64 16, .int .i64 8, .int .i64 8], he, (by show T _ _ _; rw [HT.out]; rfl), hk, hR'.trans hk, fun _ h => h.elim⟩
  intro v wy hv
  obtain rfl : v = .agg #[.int .i64 0, .int .i64 16, .int .i64 8, .int .i64 8] := by have h : T 9 v wy := hv; rw [HT.out] at h; exact h
  clear wy hv
  go_frame
  refine Calm.walk_eff rfl rfl (fun n wy _ hR _ => ?_) ?_
  · have hR' : Keep none_ w3 wy := hR
    unfold gives
    go_simp
    refine (cut0 z A1 c1 wy (HF3.out.keep hR').y).mono ?_
    rintro e wz ⟨b, rfl, hb, hl, hk⟩
    exact ⟨_, rfl, (by show T _ _ _; rw [HT.out]; exact ⟨b, rfl, hb, Nat.le_trans hR'.size hl⟩), hk, hR'.trans hk, fun _ h => h.elim⟩
  intro v wy hv
  obtain ⟨b1, rfl, -⟩ : NewB w3.heap.size 64 z v wy := by have h : T 10 v wy := hv; rw [HT.out] at h; exact h
  clear wy hv
  go_frame
  repeat (refine Calm.walk_quiet ne rfl rfl rfl (fun K hK => ?_); go_big_quiet_op; refine hK _ ?_; clear hK K)
  intro w6 hR hD
  have hR' : Keep none_ w3 w6 := hR
  have f1 := NewB.of (N := 64) (by have h : T 10 _ w6 := (hD.1 10 rfl _ rfl ⟨rfl, rfl⟩).1; rw [HT.out] at h; exact h)
  have X6 := Lib.hid (show IntsB w6 w2.heap.size 99 (mixL 64 0 0 z) from Blk.keep X3.out hR' (fun e => e))
  have R6 := Lib.hid (R3.out.keep hR' (fun e => e))
  have K6 := Lib.hid (K3.out.trans hR')
  have B6 := Lib.hid f1.1
  have L6 := Lib.hid (show w2.heap.size < b1 from Nat.lt_of_lt_of_le (show Blk _ _ _ _ from X3.out).lt f1.2)
  clear hD hR gd ne x0 xl HT f1 hR' X3 R3 F3 HF3
  simp only [pickOps, List.filterMap_nil]
  go_wp2
  go_loopw [41] (fun i wr => ∃ k : Nat, k ≤ 64 ∧ i = .int .i64 k ∧ IntsB wr w2.heap.size 99 (mixL 64 k 0 z) ∧ Keep (one w2.heap.size) w6 wr) (fun i _ => 64 - (intOf i).toNat)
  case atStart => exact ⟨0, by decide, rfl, X6.out, Keep.refl _ _⟩
  case round =>
    obtain ⟨k, hk, rfl, hX, hkr⟩ := hrel
    have HX := Lib.hid hX
    have HK := Lib.hid hkr
    clear hX hkr
    by_cases hlt : k < 64
    · have hlt' : (k : Int) < 64 := by omega
      have xs : wr.cell? ⟨b1, k, none⟩ = some (.int .u8 z) := by
        have h := (B6.out.keep HK.out (fun e => by have := L6.out; unfold one at e; omega)).cell (k := k) (by simpa using hlt)
        rw [List.getElem_replicate] at h
        exact h
      have c7 : ∃ q, wr.cell? ⟨w2.heap.size, k, none⟩ = some (.int .i64 q) := ⟨_, IntsB.cell HX.out k (by rw [mixL_length (by omega)]; exact hlt)⟩
      obtain ⟨q, c7⟩ := c7
      have z7 := Blk.frozen HX.out k
      have XS := Lib.hid (HX.out.next hlt)
      have KS := Lib.hid (show Keep (one w2.heap.size) w6 (wr.setCell ⟨w2.heap.size, k, none⟩ (.int .i64 z)) from HK.out.setCell (p := ⟨w2.heap.size, k, none⟩) (.inl rfl) _)
      obtain ⟨z1, z2⟩ := Z12.out
      go_wp2
      go_roundw
      case rel => exact ⟨k + 1, hlt, by go_num, XS.out, KS.out⟩
      case measure => simp [intOf]; omega
    · obtain rfl : k = 64 := by omega
      have XA := Lib.hid (HX.out.all)
      have RA := Lib.hid (R6.out.keep HK.out (fun e => by have := S2.out; unfold one at e; omega))
      have u1 : True := trivial
      have u2 : True := trivial
      have E1 := Lib.hid (show zc.size = (A64 z).size by rw [HZC.out, A64_size, A64_size])
      clear hlt hk
      go_wp2_with (first | (have _t := u1; refine wpList_load_blk rfl 99 (.tmp 12) rfl w2.heap.size 99 _ _ rfl XA.out Tryz.underlying99 rfl (by rw [A64_size]; kernel_rfl) ?_; go_frame; clear _t u1) | (have _t := u2; refine wpList_store_blk rfl 99 (.tmp 10) (.tmp 51) rfl (w.heap.size + 1) 99 _ _ rfl rfl RA.out E1.out (by rw [A64_size]; kernel_rfl) (A64_one z) ?_; intro w8 hb8 hk8 hs8; have B8 := Lib.hid hb8; have K8 := Lib.hid hk8; clear hb8 hk8 hs8; go_frame; clear _t u2))
      refine bodyPost_ret (results_cell_tmp' Tryz.results113 rfl (run_loadVar_blk B8.out Tryz.underlying99 rfl (by rw [A64_size]; kernel_rfl))) rfl ⟨rfl, (K6.out.own HK.out (by have := S2.out; omega)).own K8.out (Nat.le_succ _)⟩
set_option maxRecDepth 100000 in
set_option maxHeartbeats 2000000 in
theorem block1 (z : Int) (hz : 0 ≤ z ∧ z ≤ 255) (A1 A2 A3 : Option Addr) (c1 c2 c3 : Nat) (w : World) (hf : FrC w z A1 A2 A3 c1 c2 c3) : Calls Tryz.prog 113 #[.agg #[.int .i64 16, .int .i64 16, .slice A1 256 c1, .slice A2 64 c2, .slice A3 64 c3], .int .i64 0, .int .i64 0, .int .i64 1, .bool false] w fun e w' => e = .returned (.tuple #[.agg (A64 z), .int .i64 0]) ∧ Keep none_ w w' := by
  obtain ⟨zc, hzc⟩ : ∃ zc, zc = A64 0 := ⟨_, rfl⟩
  have ze : ∀ w, (zeroValue 99).run Tryz.prog w = .ok (.agg zc) w := by rw [hzc, ← A64_zero]; exact fun w => by kernel_rfl
  obtain ⟨W0, hW0⟩ : ∃ W0, W0 = (w.alloc (.cells #[.int .i64 16, .int .i64 16, .slice A1 256 c1, .slice A2 64 c2, .slice A3 64 c3] 32)).alloc (.cells zc 99) := ⟨_, rfl⟩
  obtain ⟨f0, r0, k0⟩ := two (Keep.eq_ hW0)
  have HF := Lib.hid (hf.keep k0)
  have F0 := Lib.hid f0
  have R0 := Lib.hid r0
  have K0 := Lib.hid k0
  have HZC := Lib.hid hzc
  have S0 := Lib.hid (show w.heap.size + 1 < W0.heap.size from (show Blk _ _ _ _ from r0).lt)
  obtain ⟨z1, z2⟩ := hz
  have Z12 := Lib.hid (And.intro z1 z2)
  clear k0 f0 r0 hf hzc z1 z2
  have t1 : True := trivial
  have t2 : True := trivial
  go_enter Tryz.func113, Tryz.ntmps113
  go_upto_region 1 with (fail)
  rw [← hW0]
  clear hW0
  go_upto_region 3 with (first | (have _t := t1; refine wpList_load_blk rfl 32 (.tmp 5) rfl w.heap.size 32 _ _ rfl F0.out Tryz.underlying32 rfl (by kernel_rfl) ?_; go_frame; clear _t t1) | (have _t := t2; go_at_call 80; refine (has_any A1 A2 A3 c1 c2 c3 W0).mono ?_; rintro e w2 ⟨rfl, k2⟩; have F2 := Lib.hid (F0.out.keep k2 (fun e => e)); have R2 := Lib.hid (R0.out.keep k2 (fun e => e)); have HF2 := Lib.hid (HF.out.keep k2); have K2 := Lib.hid (K0.out.trans k2); have S2 := Lib.hid (Nat.lt_of_lt_of_le S0.out k2.size); clear k2 _t t2))
  go_upto_region 4 with (fail)
  obtain ⟨w3, hw3⟩ : ∃ w3, w3 = w2.alloc (.cells zc 99) := ⟨_, rfl⟩
  rw [← hw3]
  have k3 : Keep none_ w2 w3 := hw3 ▸ (Keep.refl none_ w2).alloc _
  have X3 := Lib.hid (show IntsB w3 w2.heap.size 99 (mixL 64 0 0 z) from IntsB.start (by rw [← HZC.out]; exact hw3 ▸ Blk.new _ _ _))
  have F3 := Lib.hid (F2.out.keep k3 (fun e => e))
  have R3 := Lib.hid (R2.out.keep k3 (fun e => e))
  have HF3 := Lib.hid (HF2.out.keep k3)
  have K3 := Lib.hid (K2.out.trans k3)
  clear hw3 k3 F2 R2 HF2
  obtain ⟨T, hT⟩ : ∃ T : Nat → Value → World → Prop, T = fun k v wz => if k = 2 then v = .slice A1 256 c1 else if k = 9 then v = .agg #[.int .i64 8, .int .i64 16, .int .i64 8, .int .i64 8] else NewB w3.heap.size 64 z v wz := ⟨_, rfl⟩
  have HT := Lib.hid hT
  clear hT
  have gd : (facCalm w3 [2, 9, 10] T).Good := facCalm_good (fun k v w w' h hk => by
    rw [HT.out] at h ⊢
    by_cases e1 : k = 2
    · simp only [e1, if_true] at h ⊢; exact h
    · by_cases e2 : k = 9
      · simp only [e2, if_true] at h ⊢; exact h
      · simp only [e1, e2, if_false] at h ⊢; exact NewB.keep h hk)
  have ne := facCalm_some w3 [2, 9, 10] T
  have x0 : ∀ y : (facCalm w3 [2, 9, 10] T).Sub, ((facCalm w3 [2, 9, 10] T).at_ y).cell? ⟨w.heap.size, 0, none⟩ = some (.int .i64 16) := fun y => (facCalm_at y).cell (F3.out.cell 0) (fun e => e)
  have xl : ∀ y : (facCalm w3 [2, 9, 10] T).Sub, ((facCalm w3 [2, 9, 10] T).at_ y).rangeAt w.heap.size 0 #[.int .i64 16, .int .i64 16, .slice A1 256 c1, .slice A2 64 c2, .slice A3 64 c3].toList := fun y => (F3.out.keep (facCalm_at y) (fun e => e)).rangeAt
  refine wp_region_calm (facCalm w3 [2, 9, 10] T) [0, 1, 2, 3, 4, 5, 6, 7, 8, 9, 10, 11, 12] [] 52 (by kernel_rfl) (by kernel_rfl) rfl gd (Keep.refl _ _).drew ?_
  simp only [pairs, List.filterMap_cons, List.filterMap_nil, List.getElem?_toArray, List.getElem?_cons_succ, List.getElem?_cons_zero, Option.map_some]
  refine Calm.walk_load 32 (.tmp 5) rfl ne rfl rfl w.heap.size 0 rfl #[.int .i64 16, .int .i64 16, .slice A1 256 c1, .slice A2 64 c2, .slice A3 64 c3] _ xl Tryz.underlying32 rfl (by kernel_rfl) ?_
  go_frame
  repeat (refine Calm.walk_quiet ne rfl rfl rfl (fun K hK => ?_); go_big_quiet_op; refine hK _ ?_; clear hK K)
  refine Calm.walk_eff rfl rfl (fun n wy _ hR _ => ?_) ?_
  · have hR' : Keep none_ w3 wy := hR
    unfold gives
    go_simp
    refine (component_any 1 (by decide) A1 A2 A3 c1 c2 c3 wy).mono ?_
    rintro e wz ⟨he, hk⟩
    exact ⟨.slice A1 256 c1, he, (by show T _ _ _; rw [HT.out]; rfl), hk, hR'.trans hk, fun _ h => h.elim⟩
  intro v wy hv
  obtain rfl : v = .slice A1 256 c1 := by have h : T 2 v wy := hv; rw [HT.out] at h; exact h
  clear wy hv
  go_frame
  repeat (refine Calm.walk_quiet ne rfl rfl rfl (fun K hK => ?_); go_big_quiet_op; refine hK _ ?_; clear hK K)
  refine Calm.walk_eff rfl rfl (fun n wy _ hR _ => ?_) ?_
  · have hR' : Keep none_ w3 wy := hR
    unfold gives
    go_simp
    refine (place_any 1 (by decide) wy).mono ?_
    rintro e wz ⟨he, hk⟩
    exact ⟨.agg #[.int .i64 8, .int .i64 16, .int .i64 8, .int .i64 8], he, (by show T _ _ _; rw [HT.out]; rfl), hk, hR'.trans hk, fun _ h => h.elim⟩
  intro v wy hv
  obtain rfl : v = .agg #[.int .i64 8, .int .i64 16, .int .i64 8, .int .i64 8] := by have h : T 9 v wy := hv; rw [HT.out] at h; exact h
  clear wy hv
  go_frame
  refine Calm.walk_eff rfl rfl (fun n wy _ hR _ => ?_) ?_
  · have hR' : Keep none_ w3 wy := hR
    unfold gives
    go_simp
    refine (cut1 z A1 c1 wy (HF3.out.keep hR').y).mono ?_
    rintro e wz ⟨b, rfl, hb, hl, hk⟩
    exact ⟨_, rfl, (by show T _ _ _; rw [HT.out]; exact ⟨b, rfl, hb, Nat.le_trans hR'.size hl⟩), hk, hR'.trans hk, fun _ h => h.elim⟩
  intro v wy hv
  obtain ⟨b1, rfl, -⟩ : NewB w3.heap.size 64 z v wy := by have h : T 10 v wy := hv; rw [HT.out] at h; exact h
  clear wy hv
  go_frame
  repeat (refine Calm.walk_quiet ne rfl rfl rfl (fun K hK => ?_); go_big_quiet_op; refine hK _ ?_; clear hK K)
  intro w6 hR hD
  have hR' : Keep none_ w3 w6 := hR
  have f1 := NewB.of (N := 64) (by have h : T 10 _ w6 := (hD.1 10 rfl _ rfl ⟨rfl, rfl⟩).1; rw [HT.out] at h; exact h)
  have X6 := Lib.hid (show IntsB w6 w2.heap.size 99 (mixL 64 0 0 z) from Blk.keep X3.out hR' (fun e => e))
  have R6 := Lib.hid (R3.out.keep hR' (fun e => e))
  have K6 := Lib.hid (K3.out.trans hR')
  have B6 := Lib.hid f1.1
  have L6 := Lib.hid (show w2.heap.size < b1 from Nat.lt_of_lt_of_le (show Blk _ _ _ _ from X3.out).lt f1.2)
  clear hD hR gd ne x0 xl HT f1 hR' X3 R3 F3 HF3
  simp only [pickOps, List.filterMap_nil]
  go_wp2
  go_loopw [41] (fun i wr => ∃ k : Nat, k ≤ 64 ∧ i = .int .i64 k ∧ IntsB wr w2.heap.size 99 (mixL 64 k 0 z) ∧ Keep (one w2.heap.size) w6 wr) (fun i _ => 64 - (intOf i).toNat)
  case atStart => exact ⟨0, by decide, rfl, X6.out, Keep.refl _ _⟩
  case round =>
    obtain ⟨k, hk, rfl, hX, hkr⟩ := hrel
    have HX := Lib.hid hX
    have HK := Lib.hid hkr
    clear hX hkr
    by_cases hlt : k < 64
    · have hlt' : (k : Int) < 64 := by omega
      have xs : wr.cell? ⟨b1, k, none⟩ = some (.int .u8 z) := by
        have h := (B6.out.keep HK.out (fun e => by have := L6.out; unfold one at e; omega)).cell (k := k) (by simpa using hlt)
        rw [List.getElem_replicate] at h
        exact h
      have c7 : ∃ q, wr.cell? ⟨w2.heap.size, k, none⟩ = some (.int .i64 q) := ⟨_, IntsB.cell HX.out k (by rw [mixL_length (by omega)]; exact hlt)⟩
      obtain ⟨q, c7⟩ := c7
      have z7 := Blk.frozen HX.out k
      have XS := Lib.hid (HX.out.next hlt)
      have KS := Lib.hid (show Keep (one w2.heap.size) w6 (wr.setCell ⟨w2.heap.size, k, none⟩ (.int .i64 z)) from HK.out.setCell (p := ⟨w2.heap.size, k, none⟩) (.inl rfl) _)
      obtain ⟨z1, z2⟩ := Z12.out
      go_wp2
      go_roundw
      case rel => exact ⟨k + 1, hlt, by go_num, XS.out, KS.out⟩
      case measure => simp [intOf]; omega
    · obtain rfl : k = 64 := by omega
      have XA := Lib.hid (HX.out.all)
      have RA := Lib.hid (R6.out.keep HK.out (fun e => by have := S2.out; unfold one at e; omega))
      have u1 : True := trivial
      have u2 : True := trivial
      have E1 := Lib.hid (show zc.size = (A64 z).size by rw [HZC.out, A64_size, A64_size])
      clear hlt hk
      go_wp2_with (first | (have _t := u1; refine wpList_load_blk rfl 99 (.tmp 12) rfl w2.heap.size 99 _ _ rfl XA.out Tryz.underlying99 rfl (by rw [A64_size]; kernel_rfl) ?_; go_frame; clear _t u1) | (have _t := u2; refine wpList_store_blk rfl 99 (.tmp 10) (.tmp 51) rfl (w.heap.size + 1) 99 _ _ rfl rfl RA.out E1.out (by rw [A64_size]; kernel_rfl) (A64_one z) ?_; intro w8 hb8 hk8 hs8; have B8 := Lib.hid hb8; have K8 := Lib.hid hk8; clear hb8 hk8 hs8; go_frame; clear _t u2))
      refine bodyPost_ret (results_cell_tmp' Tryz.results113 rfl (run_loadVar_blk B8.out Tryz.underlying99 rfl (by rw [A64_size]; kernel_rfl))) rfl ⟨rfl, (K6.out.own HK.out (by have := S2.out; omega)).own K8.out (Nat.le_succ _)⟩
set_option maxRecDepth 100000 in
set_option maxHeartbeats 2000000 in
theorem block2 (z : Int) (hz : 0 ≤ z ∧ z ≤ 255) (A1 A2 A3 : Option Addr) (c1 c2 c3 : Nat) (w : World) (hf : FrC w z A1 A2 A3 c1 c2 c3) : Calls Tryz.prog 113 #[.agg #[.int .i64 16, .int .i64 16, .slice A1 256 c1, .slice A2 64 c2, .slice A3 64 c3], .int .i64 0, .int .i64 0, .int .i64 2, .bool false] w fun e w' => e = .returned (.tuple #[.agg (A64 z), .int .i64 0]) ∧ Keep none_ w w' := by
  obtain ⟨zc, hzc⟩ : ∃ zc, zc = A64 0 := ⟨_, rfl⟩
  have ze : ∀ w, (zeroValue 99).run Tryz.prog w = .ok (.agg zc) w := by rw [hzc, ← A64_zero]; exact fun w => by kernel_rfl
  obtain ⟨W0, hW0⟩ : ∃ W0, W0 = (w.alloc (.cells #[.int .i64 16, .int .i64 16, .slice A1 256 c1, .slice A2 64 c2, .slice A3 64 c3] 32)).alloc (.cells zc 99) := ⟨_, rfl⟩
  obtain ⟨f0, r0, k0⟩ := two (Keep.eq_ hW0)
  have HF := Lib.hid (hf.keep k0)
  have F0 := Lib.hid f0
  have R0 := Lib.hid r0
  have K0 := Lib.hid k0
  have HZC := Lib.hid hzc
  have S0 := Lib.hid (show w.heap.size + 1 < W0.heap.size from (show Blk _ _ _ _ from r0).lt)
  obtain ⟨z1, z2⟩ := hz
  have Z12 := Lib.hid (And.intro z1 z2)
  clear k0 f0 r0 hf hzc z1 z2
  have t1 : True := trivial
  have t2 : True := trivial
  go_enter Tryz.func113, Tryz.ntmps113
  go_upto_region 1 with (fail)
  rw [← hW0]
  clear hW0
  go_upto_region 3 with (first | (have _t := t1; refine wpList_load_blk rfl 32 (.tmp 5) rfl w.heap.size 32 _ _ rfl F0.out Tryz.underlying32 rfl (by kernel_rfl) ?_; go_frame; clear _t t1) | (have _t := t2; go_at_call 80; refine (has_any A1 A2 A3 c1 c2 c3 W0).mono ?_; rintro e w2 ⟨rfl, k2⟩; have F2 := Lib.hid (F0.out.keep k2 (fun e => e)); have R2 := Lib.hid (R0.out.keep k2 (fun e => e)); have HF2 := Lib.hid (HF.out.keep k2); have K2 := Lib.hid (K0.out.trans k2); have S2 := Lib.hid (Nat.lt_of_lt_of_le S0.out k2.size); clear k2 _t t2))
  go_upto_region 4 with (fail)
  obtain ⟨w3, hw3⟩ : ∃ w3, w3 = w2.alloc (.cells zc 99) := ⟨_, rfl⟩
  rw [← hw3]
  have k3 : Keep none_ w2 w3 := hw3 ▸ (Keep.refl none_ w2).alloc _
  have X3 := Lib.hid (show IntsB w3 w2.heap.size 99 (mixL 64 0 0 z) from IntsB.start (by rw [← HZC.out]; exact hw3 ▸ Blk.new _ _ _))
  have F3 := Lib.hid (F2.out.keep k3 (fun e => e))
  have R3 := Lib.hid (R2.out.keep k3 (fun e => e))
  have HF3 := Lib.hid (HF2.out.keep k3)
  have K3 := Lib.hid (K2.out.trans k3)
  clear hw3 k3 F2 R2 HF2
  obtain ⟨T, hT⟩ : ∃ T : Nat → Value → World → Prop, T = fun k v wz => if k = 2 then v = .slice A1 256 c1 else if k = 9 then v = .agg #[.int .i64 128, .int .i64 16, .int .i64 8, .int .i64 8] else NewB w3.heap.size 64 z v wz := ⟨_, rfl⟩
  have HT := Lib.hid hT
  clear hT
  have gd : (facCalm w3 [2, 9, 10] T).Good := facCalm_good (fun k v w w' h hk => by
    rw [HT.out] at h ⊢
    by_cases e1 : k = 2
    · simp only [e1, if_true] at h ⊢; exact h
    · by_cases e2 : k = 9
      · simp only [e2, if_true] at h ⊢; exact h
      · simp only [e1, e2, if_false] at h ⊢; exact NewB.keep h hk)
  have ne := facCalm_some w3 [2, 9, 10] T
  have x0 : ∀ y : (facCalm w3 [2, 9, 10] T).Sub, ((facCalm w3 [2, 9, 10] T).at_ y).cell? ⟨w.heap.size, 0, none⟩ = some (.int .i64 16) := fun y => (facCalm_at y).cell (F3.out.cell 0) (fun e => e)
  have xl : ∀ y : (facCalm w3 [2, 9, 10] T).Sub, ((facCalm w3 [2, 9, 10] T).at_ y).rangeAt w.heap.size 0 #[.int .i64 16, .int .i64 16, .slice A1 256 c1, .slice A2 64 c2, .slice A3 64 c3].toList := fun y => (F3.out.keep (facCalm_at y) (fun e => e)).rangeAt
  refine wp_region_calm (facCalm w3 [2, 9, 10] T) [0, 1, 2, 3, 4, 5, 6, 7, 8, 9, 10, 11, 12] [] 52 (by kernel_rfl) (by kernel_rfl) rfl gd (Keep.refl _ _).drew ?_
  simp only [pairs, List.filterMap_cons, List.filterMap_nil, List.getElem?_toArray, List.getElem?_cons_succ, List.getElem?_cons_zero, Option.map_some]
  refine Calm.walk_load 32 (.tmp 5) rfl ne rfl rfl w.heap.size 0 rfl #[.int .i64 16, .int .i64 16, .slice A1 256 c1, .slice A2 64 c2, .slice A3 64 c3] _ xl Tryz.underlying32 rfl (by kernel_rfl) ?_
  go_frame
  repeat (refine Calm.walk_quiet ne rfl rfl rfl (fun K hK => ?_); go_big_quiet_op; refine hK _ ?_; clear hK K)
  refine Calm.walk_eff rfl rfl (fun n wy _ hR _ => ?_) ?_
  · have hR' : Keep none_ w3 wy := hR
    unfold gives
    go_simp
    refine (component_any 2 (by decide) A1 A2 A3 c1 c2 c3 wy).mono ?_
    rintro e wz ⟨he, hk⟩
    exact ⟨.slice A1 256 c1, he, (by show T _ _ _; rw [HT.out]; rfl), hk, hR'.trans hk, fun _ h => h.elim⟩
  intro v wy hv
  obtain rfl : v = .slice A1 256 c1 := by have h : T 2 v wy := hv; rw [HT.out] at h; exact h
  clear wy hv
  go_frame
  repeat (refine Calm.walk_quiet ne rfl rfl rfl (fun K hK => ?_); go_big_quiet_op; refine hK _ ?_; clear hK K)
  refine Calm.walk_eff rfl rfl (fun n wy _ hR _ => ?_) ?_
  · have hR' : Keep none_ w3 wy := hR
    unfold gives
    go_simp
    refine (place_any 2 (by decide) wy).mono ?_
    rintro e wz ⟨he, hk⟩
    exact ⟨.agg #[.int .i64 128, .int .i64 16, .int .i64 8, .int .i64 8], he, (by show T _ _ _; rw [HT.out]; rfl), hk, hR'.trans hk, fun _ h => h.elim⟩
  intro v wy hv
  obtain rfl : v = .agg #[.int .i64 128, .int .i64 16, .int .i64 8, .int .i64 8] := by have h : T 9 v wy := hv; rw [HT.out] at h; exact h
  clear wy hv
  go_frame
  refine Calm.walk_eff rfl rfl (fun n wy _ hR _ => ?_) ?_
  · have hR' : Keep none_ w3 wy := hR
    unfold gives
    go_simp
    refine (cut2 z A1 c1 wy (HF3.out.keep hR').y).mono ?_
    rintro e wz ⟨b, rfl, hb, hl, hk⟩
    exact ⟨_, rfl, (by show T _ _ _; rw [HT.out]; exact ⟨b, rfl, hb, Nat.le_trans hR'.size hl⟩), hk, hR'.trans hk, fun _ h => h.elim⟩
  intro v wy hv
  obtain ⟨b1, rfl, -⟩ : NewB w3.heap.size 64 z v wy := by have h : T 10 v wy := hv; rw [HT.out] at h; exact h
  clear wy hv
  go_frame
  repeat (refine Calm.walk_quiet ne rfl rfl rfl (fun K hK => ?_); go_big_quiet_op; refine hK _ ?_; clear hK K)
  intro w6 hR hD
  have hR' : Keep none_ w3 w6 := hR
  have f1 := NewB.of (N := 64) (by have h : T 10 _ w6 := (hD.1 10 rfl _ rfl ⟨rfl, rfl⟩).1; rw [HT.out] at h; exact h)
  have X6 := Lib.hid (show IntsB w6 w2.heap.size 99 (mixL 64 0 0 z) from Blk.keep X3.out hR' (fun e => e))
  have R6 := Lib.hid (R3.out.keep hR' (fun e => e))
  have K6 := Lib.hid (K3.out.trans hR')
  have B6 := Lib.hid f1.1
  have L6 := Lib.hid (show w2.heap.size < b1 from Nat.lt_of_lt_of_le (show Blk _ _ _ _ from X3.out).lt f1.2)
  clear hD hR gd ne x0 xl HT f1 hR' X3 R3 F3 HF3
  simp only [pickOps, List.filterMap_nil]
  go_wp2
  go_loopw [41] (fun i wr => ∃ k : Nat, k ≤ 64 ∧ i = .int .i64 k ∧ IntsB wr w2.heap.size 99 (mixL 64 k 0 z) ∧ Keep (one w2.heap.size) w6 wr) (fun i _ => 64 - (intOf i).toNat)
  case atStart => exact ⟨0, by decide, rfl, X6.out, Keep.refl _ _⟩
  case round =>
    obtain ⟨k, hk, rfl, hX, hkr⟩ := hrel
    have HX := Lib.hid hX
    have HK := Lib.hid hkr
    clear hX hkr
    by_cases hlt : k < 64
    · have hlt' : (k : Int) < 64 := by omega
      have xs : wr.cell? ⟨b1, k, none⟩ = some (.int .u8 z) := by
        have h := (B6.out.keep HK.out (fun e => by have := L6.out; unfold one at e; omega)).cell (k := k) (by simpa using hlt)
        rw [List.getElem_replicate] at h
        exact h
      have c7 : ∃ q, wr.cell? ⟨w2.heap.size, k, none⟩ = some (.int .i64 q) := ⟨_, IntsB.cell HX.out k (by rw [mixL_length (by omega)]; exact hlt)⟩
      obtain ⟨q, c7⟩ := c7
      have z7 := Blk.frozen HX.out k
      have XS := Lib.hid (HX.out.next hlt)
      have KS := Lib.hid (show Keep (one w2.heap.size) w6 (wr.setCell ⟨w2.heap.size, k, none⟩ (.int .i64 z)) from HK.out.setCell (p := ⟨w2.heap.size, k, none⟩) (.inl rfl) _)
      obtain ⟨z1, z2⟩ := Z12.out
      go_wp2
      go_roundw
      case rel => exact ⟨k + 1, hlt, by go_num, XS.out, KS.out⟩
      case measure => simp [intOf]; omega
    · obtain rfl : k = 64 := by omega
      have XA := Lib.hid (HX.out.all)
      have RA := Lib.hid (R6.out.keep HK.out (fun e => by have := S2.out; unfold one at e; omega))
      have u1 : True := trivial
      have u2 : True := trivial
      have E1 := Lib.hid (show zc.size = (A64 z).size by rw [HZC.out, A64_size, A64_size])
      clear hlt hk
      go_wp2_with (first | (have _t := u1; refine wpList_load_blk rfl 99 (.tmp 12) rfl w2.heap.size 99 _ _ rfl XA.out Tryz.underlying99 rfl (by rw [A64_size]; kernel_rfl) ?_; go_frame; clear _t u1) | (have _t := u2; refine wpList_store_blk rfl 99 (.tmp 10) (.tmp 51) rfl (w.heap.size + 1) 99 _ _ rfl rfl RA.out E1.out (by rw [A64_size]; kernel_rfl) (A64_one z) ?_; intro w8 hb8 hk8 hs8; have B8 := Lib.hid hb8; have K8 := Lib.hid hk8; clear hb8 hk8 hs8; go_frame; clear _t u2))
      refine bodyPost_ret (results_cell_tmp' Tryz.results113 rfl (run_loadVar_blk B8.out Tryz.underlying99 rfl (by rw [A64_size]; kernel_rfl))) rfl ⟨rfl, (K6.out.own HK.out (by have := S2.out; omega)).own K8.out (Nat.le_succ _)⟩
set_option maxRecDepth 100000 in
set_option maxHeartbeats 2000000 in
theorem block3 (z : Int) (hz : 0 ≤ z ∧ z ≤ 255) (A1 A2 A3 : Option Addr) (c1 c2 c3 : Nat) (w : World) (hf : FrC w z A1 A2 A3 c1 c2 c3) : Calls Tryz.prog 113 #[.agg #[.int .i64 16, .int .i64 16, .slice A1 256 c1, .slice A2 64 c2, .slice A3 64 c3], .int .i64 0, .int .i64 0, .int .i64 3, .bool false] w fun e w' => e = .returned (.tuple #[.agg (A64 z), .int .i64 0]) ∧ Keep none_ w w' := by
  obtain ⟨zc, hzc⟩ : ∃ zc, zc = A64 0 := ⟨_, rfl⟩
  have ze : ∀ w, (zeroValue 99).run Tryz.prog w = .ok (.agg zc) w := by rw [hzc, ← A64_zero]; exact fun w => by kernel_rfl
  obtain ⟨W0, hW0⟩ : ∃ W0, W0 = (w.alloc (.cells #[.int .i64 16, .int .i64 16, .slice A1 256 c1, .slice A2 64 c2, .slice A3 64 c3] 32)).alloc (.cells zc 99) := ⟨_, rfl⟩
  obtain ⟨f0, r0, k0⟩ := two (Keep.eq_ hW0)
  have HF := Lib.hid (hf.keep k0)
  have F0 := Lib.hid f0
  have R0 := Lib.hid r0
  have K0 := Lib.hid k0
  have HZC := Lib.hid hzc
  have S0 := Lib.hid (show w.heap.size + 1 < W0.heap.size from (show Blk _ _ _ _ from r0).lt)
  obtain ⟨z1, z2⟩ := hz
  have Z12 := Lib.hid (And.intro z1 z2)
  clear k0 f0 r0 hf hzc z1 z2
  have t1 : True := trivial
  have t2 : True := trivial
  go_enter Tryz.func113, Tryz.ntmps113
  go_upto_region 1 with (fail)
  rw [← hW0]
  clear hW0
  go_upto_region 3 with (first | (have _t := t1; refine wpList_load_blk rfl 32 (.tmp 5) rfl w.heap.size 32 _ _ rfl F0.out Tryz.underlying32 rfl (by kernel_rfl) ?_; go_frame; clear _t t1) | (have _t := t2; go_at_call 80; refine (has_any A1 A2 A3 c1 c2 c3 W0).mono ?_; rintro e w2 ⟨rfl, k2⟩; have F2 := Lib.hid (F0.out.keep k2 (fun e => e)); have R2 := Lib.hid (R0.out.keep k2 (fun e => e)); have HF2 := Lib.hid (HF.out.keep k2); have K2 := Lib.hid (K0.out.trans k2); have S2 := Lib.hid (Nat.lt_of_lt_of_le S0.out k2.size); clear k2 _t t2))
  go_upto_region 4 with (fail)
  obtain ⟨w3, hw3⟩ : ∃ w3, w3 = w2.alloc (.cells zc 99) := ⟨_, rfl⟩
  rw [← hw3]
  have k3 : Keep none_ w2 w3 := hw3 ▸ (Keep.refl none_ w2).alloc _
  have X3 := Lib.hid (show IntsB w3 w2.heap.size 99 (mixL 64 0 0 z) from IntsB.start (by rw [← HZC.out]; exact hw3 ▸ Blk.new _ _ _))
  have F3 := Lib.hid (F2.out.keep k3 (fun e => e))
  have R3 := Lib.hid (R2.out.keep k3 (fun e => e))
  have HF3 := Lib.hid (HF2.out.keep k3)
  have K3 := Lib.hid (K2.out.trans k3)
  clear hw3 k3 F2 R2 HF2
  obtain ⟨T, hT⟩ : ∃ T : Nat → Value → World → Prop, T = fun k v wz => if k = 2 then v = .slice A1 256 c1 else if k = 9 then v = .agg #[.int .i64 136, .int .i64 16, .int .i64 8, .int .i64 8] else NewB w3.heap.size 64 z v wz := ⟨_, rfl⟩
  have HT := Lib.hid hT
  clear hT
  have gd : (facCalm w3 [2, 9, 10] T).Good := facCalm_good (fun k v w w' h hk => by
    rw [HT.out] at h ⊢
    by_cases e1 : k = 2
    · simp only [e1, if_true] at h ⊢; exact h
    · by_cases e2 : k = 9
      · simp only [e2, if_true] at h ⊢; exact h
      · simp only [e1, e2, if_false] at h ⊢; exact NewB.keep h hk)
  have ne := facCalm_some w3 [2, 9, 10] T
  have x0 : ∀ y : (facCalm w3 [2, 9, 10] T).Sub, ((facCalm w3 [2, 9, 10] T).at_ y).cell? ⟨w.heap.size, 0, none⟩ = some (.int .i64 16) := fun y => (facCalm_at y).cell (F3.out.cell 0) (fun e => e)
  have xl : ∀ y : (facCalm w3 [2, 9, 10] T).Sub, ((facCalm w3 [2, 9, 10] T).at_ y).rangeAt w.heap.size 0 #[.int .i64 16, .int .i64 16, .slice A1 256 c1, .slice A2 64 c2, .slice A3 64 c3].toList := fun y => (F3.out.keep (facCalm_at y) (fun e => e)).rangeAt
  refine wp_region_calm (facCalm w3 [2, 9, 10] T) [0, 1, 2, 3, 4, 5, 6, 7, 8, 9, 10, 11, 12] [] 52 (by kernel_rfl) (by kernel_rfl) rfl gd (Keep.refl _ _).drew ?_
  simp only [pairs, List.filterMap_cons, List.filterMap_nil, List.getElem?_toArray, List.getElem?_cons_succ, List.getElem?_cons_zero, Option.map_some]
  refine Calm.walk_load 32 (.tmp 5) rfl ne rfl rfl w.heap.size 0 rfl #[.int .i64 16, .int .i64 16, .slice A1 256 c1, .slice A2 64 c2, .slice A3 64 c3] _ xl Tryz.underlying32 rfl (by kernel_rfl) ?_
  go_frame
  repeat (refine Calm.walk_quiet ne rfl rfl rfl (fun K hK => ?_); go_big_quiet_op; refine hK _ ?_; clear hK K)
  refine Calm.walk_eff rfl rfl (fun n wy _ hR _ => ?_) ?_
  · have hR' : Keep none_ w3 wy := hR
    unfold gives
    go_simp
    refine (component_any 3 (by decide) A1 A2 A3 c1 c2 c3 wy).mono ?_
    rintro e wz ⟨he, hk⟩
    exact ⟨.slice A1 256 c1, he, (by show T _ _ _; rw [HT.out]; rfl), hk, hR'.trans hk, fun _ h => h.elim⟩
  intro v wy hv
  obtain rfl : v = .slice A1 256 c1 := by have h : T 2 v wy := hv; rw [HT.out] at h; exact h
  clear wy hv
  go_frame
  repeat (refine Calm.walk_quiet ne rfl rfl rfl (fun K hK => ?_); go_big_quiet_op; refine hK _ ?_; clear hK K)
  refine Calm.walk_eff rfl rfl (fun n wy _ hR _ => ?_) ?_
  · have hR' : Keep none_ w3 wy := hR
    unfold gives
    go_simp
    refine (place_any 3 (by decide) wy).mono ?_
    rintro e wz ⟨he, hk⟩
    exact ⟨.agg #[.int .i64 136, .int .i64 16, .int .i64 8, .int .i64 8], he, (by show T _ _ _; rw [HT.out]; rfl), hk, hR'.trans hk, fun _ h => h.elim⟩
  intro v wy hv
  obtain rfl : v = .agg #[.int .i64 136, .int .i64 16, .int .i64 8, .int .i64 8] := by have h : T 9 v wy := hv; rw [HT.out] at h; exact h
  clear wy hv
  go_frame
  refine Calm.walk_eff rfl rfl (fun n wy _ hR _ => ?_) ?_
  · have hR' : Keep none_ w3 wy := hR
    unfold gives
    go_simp
    refine (cut3 z A1 c1 wy (HF3.out.keep hR').y).mono ?_
    rintro e wz ⟨b, rfl, hb, hl, hk⟩
    exact ⟨_, rfl, (by show T _ _ _; rw [HT.out]; exact ⟨b, rfl, hb, Nat.le_trans hR'.size hl⟩), hk, hR'.trans hk, fun _ h => h.elim⟩
  intro v wy hv
  obtain ⟨b1, rfl, -⟩ : NewB w3.heap.size 64 z v wy := by have h : T 10 v wy := hv; rw [HT.out] at h; exact h
  clear wy hv
  go_frame
  repeat (refine Calm.walk_quiet ne rfl rfl rfl (fun K hK => ?_); go_big_quiet_op; refine hK _ ?_; clear hK K)
  intro w6 hR hD
  have hR' : Keep none_ w3 w6 := hR
  have f1 := NewB.of (N := 64) (by have h : T 10 _ w6 := (hD.1 10 rfl _ rfl ⟨rfl, rfl⟩).1; rw [HT.out] at h; exact h)
  have X6 := Lib.hid (show IntsB w6 w2.heap.size 99 (mixL 64 0 0 z) from Blk.keep X3.out hR' (fun e => e))
  have R6 := Lib.hid (R3.out.keep hR' (fun e => e))
  have K6 := Lib.hid (K3.out.trans hR')
  have B6 := Lib.hid f1.1
  have L6 := Lib.hid (show w2.heap.size < b1 from Nat.lt_of_lt_of_le (show Blk _ _ _ _ from X3.out).lt f1.2)
  clear hD hR gd ne x0 xl HT f1 hR' X3 R3 F3 HF3
  simp only [pickOps, List.filterMap_nil]
  go_wp2
  go_loopw [41] (fun i wr => ∃ k : Nat, k ≤ 64 ∧ i = .int .i64 k ∧ IntsB wr w2.heap.size 99 (mixL 64 k 0 z) ∧ Keep (one w2.heap.size) w6 wr) (fun i _ => 64 - (intOf i).toNat)
  case atStart => exact ⟨0, by decide, rfl, X6.out, Keep.refl _ _⟩
  case round =>
    obtain ⟨k, hk, rfl, hX, hkr⟩ := hrel
    have HX := Lib.hid hX
    have HK := Lib.hid hkr
    clear hX hkr
    by_cases hlt : k < 64
    · have hlt' : (k : Int) < 64 := by omega
      have xs : wr.cell? ⟨b1, k, none⟩ = some (.int .u8 z) := by
        have h := (B6.out.keep HK.out (fun e => by have := L6.out; unfold one at e; omega)).cell (k := k) (by simpa using hlt)
        rw [List.getElem_replicate] at h
        exact h
      have c7 : ∃ q, wr.cell? ⟨w2.heap.size, k, none⟩ = some (.int .i64 q) := ⟨_, IntsB.cell HX.out k (by rw [mixL_length (by omega)]; exact hlt)⟩
      obtain ⟨q, c7⟩ := c7
      have z7 := Blk.frozen HX.out k
      have XS := Lib.hid (HX.out.next hlt)
      have KS := Lib.hid (show Keep (one w2.heap.size) w6 (wr.setCell ⟨w2.heap.size, k, none⟩ (.int .i64 z)) from HK.out.setCell (p := ⟨w2.heap.size, k, none⟩) (.inl rfl) _)
      obtain ⟨z1, z2⟩ := Z12.out
      go_wp2
      go_roundw
      case rel => exact ⟨k + 1, hlt, by go_num, XS.out, KS.out⟩
      case measure => simp [intOf]; omega
    · obtain rfl : k = 64 := by omega
      have XA := Lib.hid (HX.out.all)
      have RA := Lib.hid (R6.out.keep HK.out (fun e => by have := S2.out; unfold one at e; omega))
      have u1 : True := trivial
      have u2 : True := trivial
      have E1 := Lib.hid (show zc.size = (A64 z).size by rw [HZC.out, A64_size, A64_size])
      clear hlt hk
      go_wp2_with (first | (have _t := u1; refine wpList_load_blk rfl 99 (.tmp 12) rfl w2.heap.size 99 _ _ rfl XA.out Tryz.underlying99 rfl (by rw [A64_size]; kernel_rfl) ?_; go_frame; clear _t u1) | (have _t := u2; refine wpList_store_blk rfl 99 (.tmp 10) (.tmp 51) rfl (w.heap.size + 1) 99 _ _ rfl rfl RA.out E1.out (by rw [A64_size]; kernel_rfl) (A64_one z) ?_; intro w8 hb8 hk8 hs8; have B8 := Lib.hid hb8; have K8 := Lib.hid hk8; clear hb8 hk8 hs8; go_frame; clear _t u2))
      refine bodyPost_ret (results_cell_tmp' Tryz.results113 rfl (run_loadVar_blk B8.out Tryz.underlying99 rfl (by rw [A64_size]; kernel_rfl))) rfl ⟨rfl, (K6.out.own HK.out (by have := S2.out; omega)).own K8.out (Nat.le_succ _)⟩
set_option maxRecDepth 100000 in
set_option maxHeartbeats 2000000 in
theorem block4 (z : Int) (hz : 0 ≤ z ∧ z ≤ 255) (A1 A2 A3 : Option Addr) (c1 c2 c3 : Nat) (w : World) (hf : FrC w z A1 A2 A3 c1 c2 c3) : Calls Tryz.prog 113 #[.agg #[.int .i64 16, .int .i64 16, .slice A1 256 c1, .slice A2 64 c2, .slice A3 64 c3], .int .i64 0, .int .i64 0, .int .i64 4, .bool false] w fun e w' => e = .returned (.tuple #[.agg (A64 z), .int .i64 0]) ∧ Keep none_ w w' := by
  obtain ⟨zc, hzc⟩ : ∃ zc, zc = A64 0 := ⟨_, rfl⟩
  have ze : ∀ w, (zeroValue 99).run Tryz.prog w = .ok (.agg zc) w := by rw [hzc, ← A64_zero]; exact fun w => by kernel_rfl
  obtain ⟨W0, hW0⟩ : ∃ W0, W0 = (w.alloc (.cells #[.int .i64 16, .int .i64 16, .slice A1 256 c1, .slice A2 64 c2, .slice A3 64 c3] 32)).alloc (.cells zc 99) := ⟨_, rfl⟩
  obtain ⟨f0, r0, k0⟩ := two (Keep.eq_ hW0)
  have HF := Lib.hid (hf.keep k0)
  have F0 := Lib.hid f0
  have R0 := Lib.hid r0
  have K0 := Lib.hid k0
  have HZC := Lib.hid hzc
  have S0 := Lib.hid (show w.heap.size + 1 < W0.heap.size from (show Blk _ _ _ _ from r0).lt)
  obtain ⟨z1, z2⟩ := hz
  have Z12 := Lib.hid (And.intro z1 z2)
  clear k0 f0 r0 hf hzc z1 z2
  have t1 : True := trivial
  have t2 : True := trivial
  go_enter Tryz.func113, Tryz.ntmps113
  go_upto_region 1 with (fail)
  rw [← hW0]
  clear hW0
  go_upto_region 3 with (first | (have _t := t1; refine wpList_load_blk rfl 32 (.tmp 5) rfl w.heap.size 32 _ _ rfl F0.out Tryz.underlying32 rfl (by kernel_rfl) ?_; go_frame; clear _t t1) | (have _t := t2; go_at_call 80; refine (has_any A1 A2 A3 c1 c2 c3 W0).mono ?_; rintro e w2 ⟨rfl, k2⟩; have F2 := Lib.hid (F0.out.keep k2 (fun e => e)); have R2 := Lib.hid (R0.out.keep k2 (fun e => e)); have HF2 := Lib.hid (HF.out.keep k2); have K2 := Lib.hid (K0.out.trans k2); have S2 := Lib.hid (Nat.lt_of_lt_of_le S0.out k2.size); clear k2 _t t2))
  go_upto_region 4 with (fail)
  obtain ⟨w3, hw3⟩ : ∃ w3, w3 = w2.alloc (.cells zc 99) := ⟨_, rfl⟩
  rw [← hw3]
  have k3 : Keep none_ w2 w3 := hw3 ▸ (Keep.refl none_ w2).alloc _
  have X3 := Lib.hid (show IntsB w3 w2.heap.size 99 (mixL 64 0 0 z) from IntsB.start (by rw [← HZC.out]; exact hw3 ▸ Blk.new _ _ _))
  have F3 := Lib.hid (F2.out.keep k3 (fun e => e))
  have R3 := Lib.hid (R2.out.keep k3 (fun e => e))
  have HF3 := Lib.hid (HF2.out.keep k3)
  have K3 := Lib.hid (K2.out.trans k3)
  clear hw3 k3 F2 R2 HF2
  obtain ⟨T, hT⟩ : ∃ T : Nat → Value → World → Prop, T = fun k v wz => if k = 2 then v = .slice A2 64 c2 else if k = 9 then v = .agg #[.int .i64 0, .int .i64 8, .int .i64 8, .int .i64 8] else NewB w3.heap.size 64 z v wz := ⟨_, rfl⟩
  have HT := Lib.hid hT
  clear hT
  have gd : (facCalm w3 [2, 9, 10] T).Good := facCalm_good (fun k v w w' h hk => by
    rw [HT.out] at h ⊢
    by_cases e1 : k = 2
    · simp only [e1, if_true] at h ⊢; exact h
    · by_cases e2 : k = 9
      · simp only [e2, if_true] at h ⊢; exact h
      · simp only [e1, e2, if_false] at h ⊢; exact NewB.keep h hk)
  have ne := facCalm_some w3 [2, 9, 10] T
  have x0 : ∀ y : (facCalm w3 [2, 9, 10] T).Sub, ((facCalm w3 [2, 9, 10] T).at_ y).cell? ⟨w.heap.size, 0, none⟩ = some (.int .i64 16) := fun y => (facCalm_at y).cell (F3.out.cell 0) (fun e => e)
  have xl : ∀ y : (facCalm w3 [2, 9, 10] T).Sub, ((facCalm w3 [2, 9, 10] T).at_ y).rangeAt w.heap.size 0 #[.int .i64 16, .int .i64 16, .slice A1 256 c1, .slice A2 64 c2, .slice A3 64 c3].toList := fun y => (F3.out.keep (facCalm_at y) (fun e => e)).rangeAt
  refine wp_region_calm (facCalm w3 [2, 9, 10] T) [0, 1, 2, 3, 4, 5, 6, 7, 8, 9, 10, 11, 12] [] 52 (by kernel_rfl) (by kernel_rfl) rfl gd (Keep.refl _ _).drew ?_
  simp only [pairs, List.filterMap_cons, List.filterMap_nil, List.getElem?_toArray, List.getElem?_cons_succ, List.getElem?_cons_zero, Option.map_some]
  refine Calm.walk_load 32 (.tmp 5) rfl ne rfl rfl w.heap.size 0 rfl #[.int .i64 16, .int .i64 16, .slice A1 256 c1, .slice A2 64 c2, .slice A3 64 c3] _ xl Tryz.underlying32 rfl (by kernel_rfl) ?_
  go_frame
  repeat (refine Calm.walk_quiet ne rfl rfl rfl (fun K hK => ?_); go_big_quiet_op; refine hK _ ?_; clear hK K)
  refine Calm.walk_eff rfl rfl (fun n wy _ hR _ => ?_) ?_
  · have hR' : Keep none_ w3 wy := hR
    unfold gives
    go_simp
    refine (component_any 4 (by decide) A1 A2 A3 c1 c2 c3 wy).mono ?_
    rintro e wz ⟨he, hk⟩
    exact ⟨.slice A2 64 c2, he, (by show T _ _ _; rw [HT.out]; rfl), hk, hR'.trans hk, fun _ h => h.elim⟩
  intro v wy hv
  obtain rfl : v = .slice A2 64 c2 := by have h : T 2 v wy := hv; rw [HT.out] at h; exact h
  clear wy hv
  go_frame
  repeat (refine Calm.walk_quiet ne rfl rfl rfl (fun K hK => ?_); go_big_quiet_op; refine hK _ ?_; clear hK K)
  refine Calm.walk_eff rfl rfl (fun n wy _ hR _ => ?_) ?_
  · have hR' : Keep none_ w3 wy := hR
    unfold gives
    go_simp
    refine (place_any 4 (by decide) wy).mono ?_
    rintro e wz ⟨he, hk⟩
    exact ⟨.agg #[.int .i64 0, .int .i64 8, .int .i64 8, .int .i64 8], he, (by show T _ _ _; rw [HT.out]; rfl), hk, hR'.trans hk, fun _ h => h.elim⟩
  intro v wy hv
  obtain rfl : v = .agg #[.int .i64 0, .int .i64 8, .int .i64 8, .int .i64 8] := by have h : T 9 v wy := hv; rw [HT.out] at h; exact h
  clear wy hv
  go_frame
  refine Calm.walk_eff rfl rfl (fun n wy _ hR _ => ?_) ?_
  · have hR' : Keep none_ w3 wy := hR
    unfold gives
    go_simp
    refine (cutB z A2 c2 wy (HF3.out.keep hR').u).mono ?_
    rintro e wz ⟨b, rfl, hb, hl, hk⟩
    exact ⟨_, rfl, (by show T _ _ _; rw [HT.out]; exact ⟨b, rfl, hb, Nat.le_trans hR'.size hl⟩), hk, hR'.trans hk, fun _ h => h.elim⟩
  intro v wy hv
  obtain ⟨b1, rfl, -⟩ : NewB w3.heap.size 64 z v wy := by have h : T 10 v wy := hv; rw [HT.out] at h; exact h
  clear wy hv
  go_frame
  repeat (refine Calm.walk_quiet ne rfl rfl rfl (fun K hK => ?_); go_big_quiet_op; refine hK _ ?_; clear hK K)
  intro w6 hR hD
  have hR' : Keep none_ w3 w6 := hR
  have f1 := NewB.of (N := 64) (by have h : T 10 _ w6 := (hD.1 10 rfl _ rfl ⟨rfl, rfl⟩).1; rw [HT.out] at h; exact h)
  have X6 := Lib.hid (show IntsB w6 w2.heap.size 99 (mixL 64 0 0 z) from Blk.keep X3.out hR' (fun e => e))
  have R6 := Lib.hid (R3.out.keep hR' (fun e => e))
  have K6 := Lib.hid (K3.out.trans hR')
  have B6 := Lib.hid f1.1
  have L6 := Lib.hid (show w2.heap.size < b1 from Nat.lt_of_lt_of_le (show Blk _ _ _ _ from X3.out).lt f1.2)
  clear hD hR gd ne x0 xl HT f1 hR' X3 R3 F3 HF3
  simp only [pickOps, List.filterMap_nil]
  go_wp2
  go_loopw [41] (fun i wr => ∃ k : Nat, k ≤ 64 ∧ i = .int .i64 k ∧ IntsB wr w2.heap.size 99 (mixL 64 k 0 z) ∧ Keep (one w2.heap.size) w6 wr) (fun i _ => 64 - (intOf i).toNat)
  case atStart => exact ⟨0, by decide, rfl, X6.out, Keep.refl _ _⟩
  case round =>
    obtain ⟨k, hk, rfl, hX, hkr⟩ := hrel
    have HX := Lib.hid hX
    have HK := Lib.hid hkr
    clear hX hkr
    by_cases hlt : k < 64
    · have hlt' : (k : Int) < 64 := by omega
      have xs : wr.cell? ⟨b1, k, none⟩ = some (.int .u8 z) := by
        have h := (B6.out.keep HK.out (fun e => by have := L6.out; unfold one at e; omega)).cell (k := k) (by simpa using hlt)
        rw [List.getElem_replicate] at h
        exact h
      have c7 : ∃ q, wr.cell? ⟨w2.heap.size, k, none⟩ = some (.int .i64 q) := ⟨_, IntsB.cell HX.out k (by rw [mixL_length (by omega)]; exact hlt)⟩
      obtain ⟨q, c7⟩ := c7
      have z7 := Blk.frozen HX.out k
      have XS := Lib.hid (HX.out.next hlt)
      have KS := Lib.hid (show Keep (one w2.heap.size) w6 (wr.setCell ⟨w2.heap.size, k, none⟩ (.int .i64 z)) from HK.out.setCell (p := ⟨w2.heap.size, k, none⟩) (.inl rfl) _)
      obtain ⟨z1, z2⟩ := Z12.out
      go_wp2
      go_roundw
      case rel => exact ⟨k + 1, hlt, by go_num, XS.out, KS.out⟩
      case measure => simp [intOf]; omega
    · obtain rfl : k = 64 := by omega
      have XA := Lib.hid (HX.out.all)
      have RA := Lib.hid (R6.out.keep HK.out (fun e => by have := S2.out; unfold one at e; omega))
      have u1 : True := trivial
      have u2 : True := trivial
      have E1 := Lib.hid (show zc.size = (A64 z).size by rw [HZC.out, A64_size, A64_size])
      clear hlt hk
      go_wp2_with (first | (have _t := u1; refine wpList_load_blk rfl 99 (.tmp 12) rfl w2.heap.size 99 _ _ rfl XA.out Tryz.underlying99 rfl (by rw [A64_size]; kernel_rfl) ?_; go_frame; clear _t u1) | (have _t := u2; refine wpList_store_blk rfl 99 (.tmp 10) (.tmp 51) rfl (w.heap.size + 1) 99 _ _ rfl rfl RA.out E1.out (by rw [A64_size]; kernel_rfl) (A64_one z) ?_; intro w8 hb8 hk8 hs8; have B8 := Lib.hid hb8; have K8 := Lib.hid hk8; clear hb8 hk8 hs8; go_frame; clear _t u2))
      refine bodyPost_ret (results_cell_tmp' Tryz.results113 rfl (run_loadVar_blk B8.out Tryz.underlying99 rfl (by rw [A64_size]; kernel_rfl))) rfl ⟨rfl, (K6.out.own HK.out (by have := S2.out; omega)).own K8.out (Nat.le_succ _)⟩
set_option maxRecDepth 100000 in
set_option maxHeartbeats 2000000 in
theorem block5 (z : Int) (hz : 0 ≤ z ∧ z ≤ 255) (A1 A2 A3 : Option Addr) (c1 c2 c3 : Nat) (w : World) (hf : FrC w z A1 A2 A3 c1 c2 c3) : Calls Tryz.prog 113 #[.agg #[.int .i64 16, .int .i64 16, .slice A1 256 c1, .slice A2 64 c2, .slice A3 64 c3], .int .i64 0, .int .i64 0, .int .i64 5, .bool false] w fun e w' => e = .returned (.tuple #[.agg (A64 z), .int .i64 0]) ∧ Keep none_ w w' := by
  obtain ⟨zc, hzc⟩ : ∃ zc, zc = A64 0 := ⟨_, rfl⟩
  have ze : ∀ w, (zeroValue 99).run Tryz.prog w = .ok (.agg zc) w := by rw [hzc, ← A64_zero]; exact fun w => by kernel_rfl
  obtain ⟨W0, hW0⟩ : ∃ W0, W0 = (w.alloc (.cells #[.int .i64 16, .int .i64 16, .slice A1 256 c1, .slice A2 64 c2, .slice A3 64 c3] 32)).alloc (.cells zc 99) := ⟨_, rfl⟩
  obtain ⟨f0, r0, k0⟩ := two (Keep.eq_ hW0)
  have HF := Lib.hid (hf.keep k0)
  have F0 := Lib.hid f0
  have R0 := Lib.hid r0
  have K0 := Lib.hid k0
  have HZC := Lib.hid hzc
  have S0 := Lib.hid (show w.heap.size + 1 < W0.heap.size from (show Blk _ _ _ _ from r0).lt)
  obtain ⟨z1, z2⟩ := hz
  have Z12 := Lib.hid (And.intro z1 z2)
  clear k0 f0 r0 hf hzc z1 z2
  have t1 : True := trivial
  have t2 : True := trivial
  go_enter Tryz.func113, Tryz.ntmps113
  go_upto_region 1 with (fail)
  rw [← hW0]
  clear hW0
  go_upto_region 3 with (first | (have _t := t1; refine wpList_load_blk rfl 32 (.tmp 5) rfl w.heap.size 32 _ _ rfl F0.out Tryz.underlying32 rfl (by kernel_rfl) ?_; go_frame; clear _t t1) | (have _t := t2; go_at_call 80; refine (has_any A1 A2 A3 c1 c2 c3 W0).mono ?_; rintro e w2 ⟨rfl, k2⟩; have F2 := Lib.hid (F0.out.keep k2 (fun e => e)); have R2 := Lib.hid (R0.out.keep k2 (fun e => e)); have HF2 := Lib.hid (HF.out.keep k2); have K2 := Lib.hid (K0.out.trans k2); have S2 := Lib.hid (Nat.lt_of_lt_of_le S0.out k2.size); clear k2 _t t2))
  go_upto_region 4 with (fail)
  obtain ⟨w3, hw3⟩ : ∃ w3, w3 = w2.alloc (.cells zc 99) := ⟨_, rfl⟩
  rw [← hw3]
  have k3 : Keep none_ w2 w3 := hw3 ▸ (Keep.refl none_ w2).alloc _
  have X3 := Lib.hid (show IntsB w3 w2.heap.size 99 (mixL 64 0 0 z) from IntsB.start (by rw [← HZC.out]; exact hw3 ▸ Blk.new _ _ _))
  have F3 := Lib.hid (F2.out.keep k3 (fun e => e))
  have R3 := Lib.hid (R2.out.keep k3 (fun e => e))
  have HF3 := Lib.hid (HF2.out.keep k3)
  have K3 := Lib.hid (K2.out.trans k3)
  clear hw3 k3 F2 R2 HF2
  obtain ⟨T, hT⟩ : ∃ T : Nat → Value → World → Prop, T = fun k v wz => if k = 2 then v = .slice A3 64 c3 else if k = 9 then v = .agg #[.int .i64 0, .int .i64 8, .int .i64 8, .int .i64 8] else NewB w3.heap.size 64 z v wz := ⟨_, rfl⟩
  have HT := Lib.hid hT
  clear hT
  have gd : (facCalm w3 [2, 9, 10] T).Good := facCalm_good (fun k v w w' h hk => by
    rw [HT.out] at h ⊢
    by_cases e1 : k = 2
    · simp only [e1, if_true] at h ⊢; exact h
    · by_cases e2 : k = 9
      · simp only [e2, if_true] at h ⊢; exact h
      · simp only [e1, e2, if_false] at h ⊢; exact NewB.keep h hk)
  have ne := facCalm_some w3 [2, 9, 10] T
  have x0 : ∀ y : (facCalm w3 [2, 9, 10] T).Sub, ((facCalm w3 [2, 9, 10] T).at_ y).cell? ⟨w.heap.size, 0, none⟩ = some (.int .i64 16) := fun y => (facCalm_at y).cell (F3.out.cell 0) (fun e => e)
  have xl : ∀ y : (facCalm w3 [2, 9, 10] T).Sub, ((facCalm w3 [2, 9, 10] T).at_ y).rangeAt w.heap.size 0 #[.int .i64 16, .int .i64 16, .slice A1 256 c1, .slice A2 64 c2, .slice A3 64 c3].toList := fun y => (F3.out.keep (facCalm_at y) (fun e => e)).rangeAt
  refine wp_region_calm (facCalm w3 [2, 9, 10] T) [0, 1, 2, 3, 4, 5, 6, 7, 8, 9, 10, 11, 12] [] 52 (by kernel_rfl) (by kernel_rfl) rfl gd (Keep.refl _ _).drew ?_
  simp only [pairs, List.filterMap_cons, List.filterMap_nil, List.getElem?_toArray, List.getElem?_cons_succ, List.getElem?_cons_zero, Option.map_some]
  refine Calm.walk_load 32 (.tmp 5) rfl ne rfl rfl w.heap.size 0 rfl #[.int .i64 16, .int .i64 16, .slice A1 256 c1, .slice A2 64 c2, .slice A3 64 c3] _ xl Tryz.underlying32 rfl (by kernel_rfl) ?_
  go_frame
  repeat (refine Calm.walk_quiet ne rfl rfl rfl (fun K hK => ?_); go_big_quiet_op; refine hK _ ?_; clear hK K)
  refine Calm.walk_eff rfl rfl (fun n wy _ hR _ => ?_) ?_
  · have hR' : Keep none_ w3 wy := hR
    unfold gives
    go_simp
    refine (component_any 5 (by decide) A1 A2 A3 c1 c2 c3 wy).mono ?_
    rintro e wz ⟨he, hk⟩
    exact ⟨.slice A3 64 c3, he, (by show T _ _ _; rw [HT.out]; rfl), hk, hR'.trans hk, fun _ h => h.elim⟩
  intro v wy hv
  obtain rfl : v = .slice A3 64 c3 := by have h : T 2 v wy := hv; rw [HT.out] at h; exact h
  clear wy hv
  go_frame
  repeat (refine Calm.walk_quiet ne rfl rfl rfl (fun K hK => ?_); go_big_quiet_op; refine hK _ ?_; clear hK K)
  refine Calm.walk_eff rfl rfl (fun n wy _ hR _ => ?_) ?_
  · have hR' : Keep none_ w3 wy := hR
    unfold gives
    go_simp
    refine (place_any 5 (by decide) wy).mono ?_
    rintro e wz ⟨he, hk⟩
    exact ⟨.agg #[.int .i64 0, .int .i64 8, .int .i64 8, .int .i64 8], he, (by show T _ _ _; rw [HT.out]; rfl), hk, hR'.trans hk, fun _ h => h.elim⟩
  intro v wy hv
  obtain rfl : v = .agg #[.int .i64 0, .int .i64 8, .int .i64 8, .int .i64 8] := by have h : T 9 v wy := hv; rw [HT.out] at h; exact h
  clear wy hv
  go_frame
  refine Calm.walk_eff rfl rfl (fun n wy _ hR _ => ?_) ?_
  · have hR' : Keep none_ w3 wy := hR
    unfold gives
    go_simp
    refine (cutB z A3 c3 wy (HF3.out.keep hR').v).mono ?_
    rintro e wz ⟨b, rfl, hb, hl, hk⟩
    exact ⟨_, rfl, (by show T _ _ _; rw [HT.out]; exact ⟨b, rfl, hb, Nat.le_trans hR'.size hl⟩), hk, hR'.trans hk, fun _ h => h.elim⟩
  intro v wy hv
  obtain ⟨b1, rfl, -⟩ : NewB w3.heap.size 64 z v wy := by have h : T 10 v wy := hv; rw [HT.out] at h; exact h
  clear wy hv
  go_frame
  repeat (refine Calm.walk_quiet ne rfl rfl rfl (fun K hK => ?_); go_big_quiet_op; refine hK _ ?_; clear hK K)
  intro w6 hR hD
  have hR' : Keep none_ w3 w6 := hR
  have f1 := NewB.of (N := 64) (by have h : T 10 _ w6 := (hD.1 10 rfl _ rfl ⟨rfl, rfl⟩).1; rw [HT.out] at h; exact h)
  have X6 := Lib.hid (show IntsB w6 w2.heap.size 99 (mixL 64 0 0 z) from Blk.keep X3.out hR' (fun e => e))
  have R6 := Lib.hid (R3.out.keep hR' (fun e => e))
  have K6 := Lib.hid (K3.out.trans hR')
  have B6 := Lib.hid f1.1
  have L6 := Lib.hid (show w2.heap.size < b1 from Nat.lt_of_lt_of_le (show Blk _ _ _ _ from X3.out).lt f1.2)
  clear hD hR gd ne x0 xl HT f1 hR' X3 R3 F3 HF3
  simp only [pickOps, List.filterMap_nil]
  go_wp2
  go_loopw [41] (fun i wr => ∃ k : Nat, k ≤ 64 ∧ i = .int .i64 k ∧ IntsB wr w2.heap.size 99 (mixL 64 k 0 z) ∧ Keep (one w2.heap.size) w6 wr) (fun i _ => 64 - (intOf i).toNat)
  case atStart => exact ⟨0, by decide, rfl, X6.out, Keep.refl _ _⟩
  case round =>
    obtain ⟨k, hk, rfl, hX, hkr⟩ := hrel
    have HX := Lib.hid hX
    have HK := Lib.hid hkr
    clear hX hkr
    by_cases hlt : k < 64
    · have hlt' : (k : Int) < 64 := by omega
      have xs : wr.cell? ⟨b1, k, none⟩ = some (.int .u8 z) := by
        have h := (B6.out.keep HK.out (fun e => by have := L6.out; unfold one at e; omega)).cell (k := k) (by simpa using hlt)
        rw [List.getElem_replicate] at h
        exact h
      have c7 : ∃ q, wr.cell? ⟨w2.heap.size, k, none⟩ = some (.int .i64 q) := ⟨_, IntsB.cell HX.out k (by rw [mixL_length (by omega)]; exact hlt)⟩
      obtain ⟨q, c7⟩ := c7
      have z7 := Blk.frozen HX.out k
      have XS := Lib.hid (HX.out.next hlt)
      have KS := Lib.hid (show Keep (one w2.heap.size) w6 (wr.setCell ⟨w2.heap.size, k, none⟩ (.int .i64 z)) from HK.out.setCell (p := ⟨w2.heap.size, k, none⟩) (.inl rfl) _)
      obtain ⟨z1, z2⟩ := Z12.out
      go_wp2
      go_roundw
      case rel => exact ⟨k + 1, hlt, by go_num, XS.out, KS.out⟩
      case measure => simp [intOf]; omega
    · obtain rfl : k = 64 := by omega
      have XA := Lib.hid (HX.out.all)
      have RA := Lib.hid (R6.out.keep HK.out (fun e => by have := S2.out; unfold one at e; omega))
      have u1 : True := trivial
      have u2 : True := trivial
      have E1 := Lib.hid (show zc.size = (A64 z).size by rw [HZC.out, A64_size, A64_size])
      clear hlt hk
      go_wp2_with (first | (have _t := u1; refine wpList_load_blk rfl 99 (.tmp 12) rfl w2.heap.size 99 _ _ rfl XA.out Tryz.underlying99 rfl (by rw [A64_size]; kernel_rfl) ?_; go_frame; clear _t u1) | (have _t := u2; refine wpList_store_blk rfl 99 (.tmp 10) (.tmp 51) rfl (w.heap.size + 1) 99 _ _ rfl rfl RA.out E1.out (by rw [A64_size]; kernel_rfl) (A64_one z) ?_; intro w8 hb8 hk8 hs8; have B8 := Lib.hid hb8; have K8 := Lib.hid hk8; clear hb8 hk8 hs8; go_frame; clear _t u2))
      refine bodyPost_ret (results_cell_tmp' Tryz.results113 rfl (run_loadVar_blk B8.out Tryz.underlying99 rfl (by rw [A64_size]; kernel_rfl))) rfl ⟨rfl, (K6.out.own HK.out (by have := S2.out; omega)).own K8.out (Nat.le_succ _)⟩
end Go.Proofs.YtebdgoikmclflaaGreatDoor
