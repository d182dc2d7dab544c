/-
  slices.Repeat of one byte.
-/
import Derived.Test.YtebdgoikmclflaaGreatDoorEb18
namespace Go.Proofs.YtebdgoikmclflaaGreatDoor
open Go.RowKit

/-- One operation with an effect on the blocks S, in a region that draws its order. -/
def effCalm (wr : World) (k : Nat) (S : Nat → Prop) (X : Value → World → Prop) : Calm where
  R := fun i w w' => i = k ∧ Keep S w w'
  G := fun n w => Keep S wr w ∧ (n = 0 → Keep none_ wr w)
  eff := [k]
  T := fun _ _ v w => X v w
  anc := fun _ => []
  own := fun _ _ _ => False
theorem effCalm_good {wr : World} {k : Nat} {S : Nat → Prop} {X : Value → World → Prop} : (effCalm wr k S X).Good where
  mono := fun _ _ h => ⟨h.1, fun e => by cases e⟩
  size := fun _ _ _ h => h.2.size
  stable := fun i j _ _ _ _ he hne _ hR => by
    have hj : j = k := by simpa [effCalm] using he
    exact absurd (hR.1.trans hj.symm) hne
theorem effCalm_at {wr : World} {k : Nat} {S : Nat → Prop} {X : Value → World → Prop} (x : (effCalm wr k S X).Sub) : Keep S wr ((effCalm wr k S X).at_ x) := by
  obtain ⟨x, n, _, h⟩ := x
  exact h.1
theorem effCalm_some (wr : World) (k : Nat) (S : Nat → Prop) (X : Value → World → Prop) : Nonempty (effCalm wr k S X).Sub := ⟨⟨wr, 0, Nat.zero_le _, Keep.refl _ _, fun _ => Keep.refl _ _⟩⟩
theorem gives_copy_is {P : Program} {o : Oper} {a : Act} {w : World} {X : Value → World → Prop} (d s : Operand) (t t' : TypeId) (ho : o.op = .call { callee := .builtin .copy, args := #[d, s], argTypes := #[t, t'] })
    (v u : Value) (hd : a.eval d = v) (hs : a.eval s = u) {v' : Value} {w' : World} (hr : (Builtin.copy_ #[t, t'] o.type #[v, u]).run P w = .ok v' w') (h : X v' w') : gives P o a w X := by
  unfold gives execOp
  simp only [ho, resolve, invoke, builtin, Sem.run_bind, Sem.run_pure, Result.andThen_ok, List.map_toArray, List.map_cons, List.map_nil, hd, hs, hr]
  exact h
theorem mixL_get {N a j : Nat} {x y : Int} (h : j < a) (h' : j < (mixL N a x y).length) : (mixL N a x y)[j] = y := by
  have hh : (mixL N a x y)[j]? = some y := by
    unfold mixL
    rw [List.getElem?_append_left (by simp; omega), List.getElem?_replicate, if_pos h]
  rw [List.getElem?_eq_getElem h'] at hh
  exact Option.some.inj hh
set_option maxRecDepth 100000 in
set_option maxHeartbeats 1000000 in
theorem mul64_256 (w : World) : Calls Tryz.prog 164 #[.int .u64 1, .int .u64 256] w fun e w' => e = .returned (.tuple #[.int .u64 0, .int .u64 256]) ∧ w = w' := by
  go_enter Tryz.func164, Tryz.ntmps164
  go_wp2
  go_ret2
  exact ⟨rfl, rfl⟩
set_option maxRecDepth 100000 in
set_option maxHeartbeats 1000000 in
theorem mul_256 (w : World) : Calls Tryz.prog 124 #[.int .u64 1, .int .u64 256] w fun e w' => e = .returned (.tuple #[.int .u64 0, .int .u64 256]) ∧ w = w' := by
  go_enter Tryz.func124, Tryz.ntmps124
  go_wp2_with (go_at_call 164; refine (mul64_256 _).mono ?_; rintro e w' ⟨rfl, rfl⟩)
  go_ret2
  exact ⟨rfl, rfl⟩
set_option maxRecDepth 100000 in
set_option maxHeartbeats 2000000 in
theorem repeat_256 (z : Int) (bs : Nat) (w : World) (hs : w.cell? ⟨bs, 0, none⟩ = some (.int .u8 z)) (hz : 0 ≤ z ∧ z ≤ 255) : Calls Tryz.prog 84 #[.slice (some ⟨bs, 0, none⟩) 1 1, .int .i64 256] w fun e w' => ∃ b, e = .returned (.slice (some ⟨b, 0, none⟩) 256 256) ∧ ByteBlk w' b (List.replicate 256 z) ∧ w.heap.size ≤ b ∧ Keep none_ w w' := by
  have mk : ∀ w, (Instr.makeSlice 30 (.int .i64 256) (.int .i64 256)).run Tryz.prog w = .ok (.slice (some ⟨w.heap.size, 0, none⟩) 256 256) (w.alloc (.cells (madeCells #[.int .u8 0] 256) 5)) := mk_u8 256 (by decide)
  obtain ⟨W1, hW1⟩ : ∃ W1, W1 = w.alloc (.cells (madeCells #[.int .u8 0] 256) 5) := ⟨_, rfl⟩
  have k1 : Keep none_ w W1 := hW1 ▸ (Keep.refl _ _).alloc _
  have d1 : ByteBlk W1 w.heap.size (mixL 256 0 0 z) := by rw [mixL_zero]; exact ByteBlk.made W1 256 _ (hW1 ▸ Blk.new _ _ _)
  obtain ⟨wc, hcr, hcb, hck⟩ := copy_blk (w := W1) (g := w.heap.size) (o := 0) (dLen := 256) (dCap := 256) (sb := bs) (so := 0) (sLen := 1) (sCap := 1) (n := 1) (z := z) 3 d1 rfl hz (fun j hj => by have e : j = 0 := (by omega); rw [e]; exact k1.cell hs (fun e => e)) (by rw [mixL_length (by decide)]; decide)
  rw [mixL_more (by decide), Nat.zero_add] at hcb
  have HR := Lib.hid hcr
  have HB := Lib.hid hcb
  have HK := Lib.hid (k1.own hck (Nat.le_refl _))
  have HW := Lib.hid hW1
  have HZ := Lib.hid hz
  clear hcr hcb hck d1 k1 hW1 hs hz
  have t1 : True := trivial
  have t2 : True := trivial
  go_enter Tryz.func84, Tryz.ntmps84
  go_upto_region 7 with (have _t := t1; go_at_call 124; refine (mul_256 _).mono ?_; rintro e w' ⟨rfl, rfl⟩; clear _t t1)
  rw [← HW.out]
  clear HW
  go_upto_region 8 with (have _t := t2; refine wpList_copy_is (.tmp 31) (.tmp 32) 30 30 rfl rfl _ _ rfl rfl HR.out ?_; go_frame; clear _t t2)
  clear HR
  go_loopw [8] (fun i wr => ∃ k : Nat, 1 ≤ k ∧ k ≤ 256 ∧ i = .int .i64 k ∧ ByteBlk wr w.heap.size (mixL 256 k 0 z) ∧ Keep none_ w wr) (fun i _ => 256 - (intOf i).toNat)
  case atStart => exact ⟨1, by decide, by decide, rfl, HB.out, HK.out⟩
  case round =>
    obtain ⟨k, hk1, hk, rfl, hD, hkr⟩ := hrel
    have HD := Lib.hid hD
    have HKr := Lib.hid hkr
    clear hD hkr HB HK
    by_cases hlt : k < 256
    · have hlt' : (k : Int) < 256 := by omega
      go_upto_region 9 with (fail)
      have e1 : (k : Int) ≤ 256 := by omega
      have e2 : ¬ (256 : Int) = k := by omega
      obtain ⟨m, hm⟩ : ∃ m : Nat, m = min k (256 - k) := ⟨_, rfl⟩
      have m1 : 1 ≤ m := by omega
      have m2 : k + m ≤ 256 := by omega
      have m3 : m ≤ k := by omega
      have HM := Lib.hid hm
      clear hm
      obtain ⟨X, hX⟩ : ∃ X : Value → World → Prop, X = fun v w2 => v = .int .i64 m ∧ ByteBlk w2 w.heap.size (mixL 256 (k + m) 0 z) := ⟨_, rfl⟩
      have HX := Lib.hid hX
      clear hX
      have gd := effCalm_good (wr := wr) (k := 7) (S := one w.heap.size) (X := X)
      have ne := effCalm_some wr 7 (one w.heap.size) X
      refine wp_region_calm (effCalm wr 7 (one w.heap.size) X) [0, 1, 2, 3, 4, 5, 6, 7, 8] [9] 48 (by kernel_rfl) (by kernel_rfl) rfl gd ⟨(Keep.refl _ _).drew, fun _ => (Keep.refl _ _).drew⟩ ?_
      simp only [pairs, List.filterMap_cons, List.filterMap_nil, List.getElem?_toArray, List.getElem?_cons_succ, List.getElem?_cons_zero, Option.map_some]
      repeat (refine Calm.walk_quiet ne rfl rfl rfl (fun K hK => ?_); go_big_quiet_op; refine hK _ ?_; clear hK K)
      refine Calm.walk_eff rfl rfl (fun n wy hn hG _ => ?_) ?_
      · obtain ⟨g1, g2⟩ := hG
        have hn0 : n = 0 := by simp only [effCalm, List.length_cons, List.length_nil] at hn; omega
        have gk := g2 hn0
        have hDy := HD.out.keep gk (fun e => e)
        have hsrc : ∀ j, j < m → wy.cell? ⟨w.heap.size, 0 + j, none⟩ = some (.int .u8 z) := fun j hj => by
          have h := hDy.cell (k := j) (by rw [mixL_length (by omega)]; omega)
          rw [mixL_get (by omega)] at h
          rw [Nat.zero_add]
          exact h
        obtain ⟨wc, hcr, hcb, hck⟩ := copy_blk (w := wy) (g := w.heap.size) (o := k) (dLen := 256 - k) (dCap := 256 - k) (sb := w.heap.size) (so := 0) (sLen := k) (sCap := 256) (n := m) (z := z) 3 hDy (HM.out.trans rfl) HZ.out hsrc (by rw [mixL_length (by omega)]; omega)
        rw [mixL_more (by omega)] at hcb
        refine gives_copy_is (.tmp 41) (.tmp 44) 30 30 rfl _ _ rfl rfl hcr ?_
        exact ⟨(by show X _ _; rw [HX.out]; exact ⟨rfl, hcb⟩), ⟨rfl, hck⟩, ⟨g1.trans hck, fun e => by cases e⟩, fun _ h => h.elim⟩
      intro v wy hT
      obtain ⟨rfl, -⟩ : v = .int .i64 m ∧ _ := by have h : X v wy := hT; rw [HX.out] at h; exact h
      clear wy hT
      go_frame
      repeat (refine Calm.walk_quiet ne rfl rfl rfl (fun K hK => ?_); go_big_quiet_op; refine hK _ ?_; clear hK K)
      intro w7 hG hD
      have CB := Lib.hid (show ByteBlk w7 w.heap.size (mixL 256 (k + m) 0 z) from by have h : X _ w7 := (hD.1 7 rfl _ rfl ⟨rfl, rfl⟩).1; rw [HX.out] at h; exact h.2)
      have CK := Lib.hid (show Keep none_ w w7 from HKr.out.own hG.1 (Nat.le_refl _))
      clear hG hD gd ne HX
      simp only [pickOps, List.filterMap_cons, List.filterMap_nil, List.getElem?_toArray, List.getElem?_cons_succ, List.getElem?_cons_zero]
      go_wp2
      go_roundw
      case rel => refine ⟨_, _, _, _, _, _, _, _, _, _, _, _, _, _, ⟨k + m, by omega, m2, by go_num, CB.out, CK.out⟩, rfl⟩
      case measure => simp [intOf]; omega
    · obtain rfl : k = 256 := by omega
      have GO := Lib.hid (show ByteBlk wr w.heap.size (List.replicate 256 z) from by have h := HD.out; rw [mixL_all] at h; exact h)
      clear hlt hk hk1
      go_wp2
      go_ret
      exact ⟨w.heap.size, rfl, GO.out, Nat.le_refl _, HKr.out⟩
set_option maxRecDepth 100000 in
set_option maxHeartbeats 1000000 in
theorem mul64_64 (w : World) : Calls Tryz.prog 164 #[.int .u64 1, .int .u64 64] w fun e w' => e = .returned (.tuple #[.int .u64 0, .int .u64 64]) ∧ w = w' := by
  go_enter Tryz.func164, Tryz.ntmps164
  go_wp2
  go_ret2
  exact ⟨rfl, rfl⟩
set_option maxRecDepth 100000 in
set_option maxHeartbeats 1000000 in
theorem mul_64 (w : World) : Calls Tryz.prog 124 #[.int .u64 1, .int .u64 64] w fun e w' => e = .returned (.tuple #[.int .u64 0, .int .u64 64]) ∧ w = w' := by
  go_enter Tryz.func124, Tryz.ntmps124
  go_wp2_with (go_at_call 164; refine (mul64_64 _).mono ?_; rintro e w' ⟨rfl, rfl⟩)
  go_ret2
  exact ⟨rfl, rfl⟩
set_option maxRecDepth 100000 in
set_option maxHeartbeats 2000000 in
theorem repeat_64 (z : Int) (bs : Nat) (w : World) (hs : w.cell? ⟨bs, 0, none⟩ = some (.int .u8 z)) (hz : 0 ≤ z ∧ z ≤ 255) : Calls Tryz.prog 84 #[.slice (some ⟨bs, 0, none⟩) 1 1, .int .i64 64] w fun e w' => ∃ b, e = .returned (.slice (some ⟨b, 0, none⟩) 64 64) ∧ ByteBlk w' b (List.replicate 64 z) ∧ w.heap.size ≤ b ∧ Keep none_ w w' := by
  have mk : ∀ w, (Instr.makeSlice 30 (.int .i64 64) (.int .i64 64)).run Tryz.prog w = .ok (.slice (some ⟨w.heap.size, 0, none⟩) 64 64) (w.alloc (.cells (madeCells #[.int .u8 0] 64) 5)) := mk_u8 64 (by decide)
  obtain ⟨W1, hW1⟩ : ∃ W1, W1 = w.alloc (.cells (madeCells #[.int .u8 0] 64) 5) := ⟨_, rfl⟩
  have k1 : Keep none_ w W1 := hW1 ▸ (Keep.refl _ _).alloc _
  have d1 : ByteBlk W1 w.heap.size (mixL 64 0 0 z) := by rw [mixL_zero]; exact ByteBlk.made W1 64 _ (hW1 ▸ Blk.new _ _ _)
  obtain ⟨wc, hcr, hcb, hck⟩ := copy_blk (w := W1) (g := w.heap.size) (o := 0) (dLen := 64) (dCap := 64) (sb := bs) (so := 0) (sLen := 1) (sCap := 1) (n := 1) (z := z) 3 d1 rfl hz (fun j hj => by have e : j = 0 := (by omega); rw [e]; exact k1.cell hs (fun e => e)) (by rw [mixL_length (by decide)]; decide)
  rw [mixL_more (by decide), Nat.zero_add] at hcb
  have HR := Lib.hid hcr
  have HB := Lib.hid hcb
  have HK := Lib.hid (k1.own hck (Nat.le_refl _))
  have HW := Lib.hid hW1
  have HZ := Lib.hid hz
  clear hcr hcb hck d1 k1 hW1 hs hz
  have t1 : True := trivial
  have t2 : True := trivial
  go_enter Tryz.func84, Tryz.ntmps84
  go_upto_region 7 with (have _t := t1; go_at_call 124; refine (mul_64 _).mono ?_; rintro e w' ⟨rfl, rfl⟩; clear _t t1)
  rw [← HW.out]
  clear HW
  go_upto_region 8 with (have _t := t2; refine wpList_copy_is (.tmp 31) (.tmp 32) 30 30 rfl rfl _ _ rfl rfl HR.out ?_; go_frame; clear _t t2)
  clear HR
  go_loopw [8] (fun i wr => ∃ k : Nat, 1 ≤ k ∧ k ≤ 64 ∧ i = .int .i64 k ∧ ByteBlk wr w.heap.size (mixL 64 k 0 z) ∧ Keep none_ w wr) (fun i _ => 64 - (intOf i).toNat)
  case atStart => exact ⟨1, by decide, by decide, rfl, HB.out, HK.out⟩
  case round =>
    obtain ⟨k, hk1, hk, rfl, hD, hkr⟩ := hrel
    have HD := Lib.hid hD
    have HKr := Lib.hid hkr
    clear hD hkr HB HK
    by_cases hlt : k < 64
    · have hlt' : (k : Int) < 64 := by omega
      go_upto_region 9 with (fail)
      have e1 : (k : Int) ≤ 64 := by omega
      have e2 : ¬ (64 : Int) = k := by omega
      obtain ⟨m, hm⟩ : ∃ m : Nat, m = min k (64 - k) := ⟨_, rfl⟩
      have m1 : 1 ≤ m := by omega
      have m2 : k + m ≤ 64 := by omega
      have m3 : m ≤ k := by omega
      have HM := Lib.hid hm
      clear hm
      obtain ⟨X, hX⟩ : ∃ X : Value → World → Prop, X = fun v w2 => v = .int .i64 m ∧ ByteBlk w2 w.heap.size (mixL 64 (k + m) 0 z) := ⟨_, rfl⟩
      have HX := Lib.hid hX
      clear hX
      have gd := effCalm_good (wr := wr) (k := 7) (S := one w.heap.size) (X := X)
      have ne := effCalm_some wr 7 (one w.heap.size) X
      refine wp_region_calm (effCalm wr 7 (one w.heap.size) X) [0, 1, 2, 3, 4, 5, 6, 7, 8] [9] 48 (by kernel_rfl) (by kernel_rfl) rfl gd ⟨(Keep.refl _ _).drew, fun _ => (Keep.refl _ _).drew⟩ ?_
      simp only [pairs, List.filterMap_cons, List.filterMap_nil, List.getElem?_toArray, List.getElem?_cons_succ, List.getElem?_cons_zero, Option.map_some]
      repeat (refine Calm.walk_quiet ne rfl rfl rfl (fun K hK => ?_); go_big_quiet_op; refine hK _ ?_; clear hK K)
      refine Calm.walk_eff rfl rfl (fun n wy hn hG _ => ?_) ?_
      · obtain ⟨g1, g2⟩ := hG
        have hn0 : n = 0 := by simp only [effCalm, List.length_cons, List.length_nil] at hn; omega
        have gk := g2 hn0
        have hDy := HD.out.keep gk (fun e => e)
        have hsrc : ∀ j, j < m → wy.cell? ⟨w.heap.size, 0 + j, none⟩ = some (.int .u8 z) := fun j hj => by
          have h := hDy.cell (k := j) (by rw [mixL_length (by omega)]; omega)
          rw [mixL_get (by omega)] at h
          rw [Nat.zero_add]
          exact h
        obtain ⟨wc, hcr, hcb, hck⟩ := copy_blk (w := wy) (g := w.heap.size) (o := k) (dLen := 64 - k) (dCap := 64 - k) (sb := w.heap.size) (so := 0) (sLen := k) (sCap := 64) (n := m) (z := z) 3 hDy (HM.out.trans rfl) HZ.out hsrc (by rw [mixL_length (by omega)]; omega)
        rw [mixL_more (by omega)] at hcb
        refine gives_copy_is (.tmp 41) (.tmp 44) 30 30 rfl _ _ rfl rfl hcr ?_
        exact ⟨(by show X _ _; rw [HX.out]; exact ⟨rfl, hcb⟩), ⟨rfl, hck⟩, ⟨g1.trans hck, fun e => by cases e⟩, fun _ h => h.elim⟩
      intro v wy hT
      obtain ⟨rfl, -⟩ : v = .int .i64 m ∧ _ := by have h : X v wy := hT; rw [HX.out] at h; exact h
      clear wy hT
      go_frame
      repeat (refine Calm.walk_quiet ne rfl rfl rfl (fun K hK => ?_); go_big_quiet_op; refine hK _ ?_; clear hK K)
      intro w7 hG hD
      have CB := Lib.hid (show ByteBlk w7 w.heap.size (mixL 64 (k + m) 0 z) from by have h : X _ w7 := (hD.1 7 rfl _ rfl ⟨rfl, rfl⟩).1; rw [HX.out] at h; exact h.2)
      have CK := Lib.hid (show Keep none_ w w7 from HKr.out.own hG.1 (Nat.le_refl _))
      clear hG hD gd ne HX
      simp only [pickOps, List.filterMap_cons, List.filterMap_nil, List.getElem?_toArray, List.getElem?_cons_succ, List.getElem?_cons_zero]
      go_wp2
      go_roundw
      case rel => refine ⟨_, _, _, _, _, _, _, _, _, _, _, _, _, _, ⟨k + m, by omega, m2, by go_num, CB.out, CK.out⟩, rfl⟩
      case measure => simp [intOf]; omega
    · obtain rfl : k = 64 := by omega
      have GO := Lib.hid (show ByteBlk wr w.heap.size (List.replicate 64 z) from by have h := HD.out; rw [mixL_all] at h; exact h)
      clear hlt hk hk1
      go_wp2
      go_ret
      exact ⟨w.heap.size, rfl, GO.out, Nat.le_refl _, HKr.out⟩
end Go.Proofs.YtebdgoikmclflaaGreatDoor
