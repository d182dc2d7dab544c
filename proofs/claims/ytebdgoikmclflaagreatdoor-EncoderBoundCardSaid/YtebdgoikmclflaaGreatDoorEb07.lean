/-
  The transform's basis, and the reference's; the steps of a quantiser.
-/
import Derived.Test.YtebdgoikmclflaaGreatDoorEb06
import Derived.MapViews
import Derived.DeepKeys2
namespace Go.Proofs.YtebdgoikmclflaaGreatDoor
open Go.RowKit

theorem eight {p : Nat → Prop} (h0 : p 0) (h1 : p 1) (h2 : p 2) (h3 : p 3) (h4 : p 4) (h5 : p 5) (h6 : p 6) (h7 : p 7) (i : Nat) (hi : i < 8) : p i := by
  rcases (show i = 0 ∨ i = 1 ∨ i = 2 ∨ i = 3 ∨ i = 4 ∨ i = 5 ∨ i = 6 ∨ i = 7 by omega) with rfl | rfl | rfl | rfl | rfl | rfl | rfl | rfl <;> assumption
theorem basL_get (i k : Nat) (hi : i < 8) (hk : k < 8) : basL[8 * i + k]? = some (basOf i k) := by
  have hl : basL.length = 64 := rfl
  unfold basOf
  rw [List.getD, List.getElem?_eq_getElem (by omega)]
  rfl
theorem rowV_get (i k : Nat) (hi : i < 8) (hk : k < 8) : (rowV i)[k]? = some (.int .i64 (basOf i k)) := by
  unfold rowV
  rw [List.getElem?_toArray, List.getElem?_map, List.getElem?_take, if_pos hk, List.getElem?_drop, basL_get i k hi hk]
  rfl
theorem basV_get (i k : Nat) (hi : i < 8) (hk : k < 8) : basV[i * 8 + k]? = some (.int .i64 (basOf i k)) := by
  unfold basV
  rw [List.getElem?_toArray, List.getElem?_map, Nat.mul_comm i 8, basL_get i k hi hk]
  rfl
theorem run_index_bas (i : Nat) (hi : i < 8) (w : World) : (Instr.index 75 (.agg basV) (.int .i64 (i : Int))).run Tryz.prog w = .ok (.agg (rowV i)) w := by
  refine eight (p := fun i => ∀ w, (Instr.index 75 (.agg basV) (.int .i64 (i : Int))).run Tryz.prog w = .ok (.agg (rowV i)) w) ?_ ?_ ?_ ?_ ?_ ?_ ?_ ?_ i hi w
  all_goals
    intro w
    kernel_rfl
theorem run_index_row (i k : Nat) (hi : i < 8) (hk : k < 8) (w : World) : (Instr.index 74 (.agg (rowV i)) (.int .i64 (k : Int))).run Tryz.prog w = .ok (.int .i64 (basOf i k)) w := by
  have hc := rowV_get i k hi hk
  have hs : (sizeOf 3).run Tryz.prog w = .ok 1 w := by kernel_rfl
  simp [Instr.index, run_underlying Tryz.underlying74, asIntOf, go_sem, part, hk, hc, hs]
set_option maxRecDepth 100000 in
set_option maxHeartbeats 1000000 in
theorem basis_any (i k : Nat) (hi : i < 8) (hk : k < 8) (w : World) : Calls Tryz.prog 30 #[.int .i64 i, .int .i64 k] w fun e w' => e = .returned (.int .i64 (basOf i k)) ∧ Keep none_ w w' := by
  have h0 : ¬ (i : Int) < 0 := by omega
  have h8 : ¬ (8 : Int) ≤ i := by omega
  have g0 : ¬ (k : Int) < 0 := by omega
  have g8 : ¬ (8 : Int) ≤ k := by omega
  have hx := fun w => run_index_bas i hi w
  have hy := fun w => run_index_row i k hi hk w
  go_enter Tryz.func30, Tryz.ntmps30
  go_wp2_with (go_at_call 63; refine (matrix_any w).mono ?_; rintro e w2 ⟨rfl, k2⟩; have K2 := Lib.hid k2; clear k2)
  go_ret
  exact ⟨rfl, K2.out⟩
set_option maxRecDepth 100000 in
set_option maxHeartbeats 1000000 in
theorem rbasis_any (i k : Nat) (hi : i < 8) (hk : k < 8) (w : World) : Calls Tryz.prog 36 #[.int .i64 i, .int .i64 k] w fun e w' => e = .returned (.int .i64 (basOf i k)) ∧ Keep none_ w w' := by
  have h0 : ¬ (i : Int) < 0 := by omega
  have h8 : ¬ (7 : Int) < i := by omega
  have g0 : ¬ (k : Int) < 0 := by omega
  have g8 : ¬ (7 : Int) < k := by omega
  have hi8 : (i : Int) < 8 := by omega
  have hk8 : (k : Int) < 8 := by omega
  have ze : ∀ w, (zeroValue 75).run Tryz.prog w = .ok (.agg zero64) w := fun w => by kernel_rfl
  obtain ⟨zc, hzc⟩ : ∃ zc, zc = zero64 := ⟨_, rfl⟩
  rw [← hzc] at ze
  have Z0 := Lib.hid (show zc.size = 64 by rw [hzc]; rfl)
  clear hzc
  go_enter Tryz.func36, Tryz.ntmps36
  go_upto_region 3 with (fail)
  refine wp_region_lit ?_
  refine wpList_build_is 74 _ rfl rfl (rowV 0) (by kernel_rfl) ?_
  go_frame
  refine wpList_build_is 74 _ rfl rfl (rowV 1) (by kernel_rfl) ?_
  go_frame
  refine wpList_build_is 74 _ rfl rfl (rowV 2) (by kernel_rfl) ?_
  go_frame
  refine wpList_build_is 74 _ rfl rfl (rowV 3) (by kernel_rfl) ?_
  go_frame
  refine wpList_build_is 74 _ rfl rfl (rowV 4) (by kernel_rfl) ?_
  go_frame
  refine wpList_build_is 74 _ rfl rfl (rowV 5) (by kernel_rfl) ?_
  go_frame
  refine wpList_build_is 74 _ rfl rfl (rowV 6) (by kernel_rfl) ?_
  go_frame
  refine wpList_build_is 74 _ rfl rfl (rowV 7) (by kernel_rfl) ?_
  go_frame
  refine wpList_build_is 75 _ rfl rfl basV (by kernel_rfl) ?_
  go_frame
  have t1 : True := trivial
  go_upto_region 4 with (have _t := t1; refine wpList_store_blk rfl 75 (.tmp 5) (.tmp 28) rfl w.heap.size 75 _ basV rfl rfl (Blk.new _ _ _) (by rw [Z0.out]; rfl) (by kernel_rfl) (by kernel_rfl) ?_; intro w3 b3 k3 s3; have B3 := Lib.hid b3; have K3 := Lib.hid (show Keep none_ w w3 from ((Keep.refl none_ w).alloc _).own k3 (Nat.le_refl _)); clear b3 k3 s3; go_frame; clear _t t1)
  have c0 : w3.cell? ⟨w.heap.size, i * 8 + k, none⟩ = some (.int .i64 (basOf i k)) := by rw [B3.out.cell]; exact basV_get i k hi hk
  go_wp2
  go_ret
  exact ⟨rfl, K3.out⟩
def sqs (i : Nat) : Nat → Int
  | 0 => 0
  | k + 1 => sqs i k + basOf i k * basOf i k
theorem sqs_norm (i : Nat) (hi : i < 8) : sqs i 8 = normOf i := by
  have : ∀ (i : Fin 8), sqs i.1 8 = normOf i.1 := by decide +kernel
  exact this ⟨i, hi⟩
theorem sqs_bound (i k : Nat) (hi : i < 8) (hk : k < 9) : 0 ≤ sqs i k ∧ sqs i k ≤ 578 := by
  have : ∀ (i : Fin 8) (k : Fin 9), 0 ≤ sqs i.1 k.1 ∧ sqs i.1 k.1 ≤ 578 := by decide +kernel
  exact this ⟨i, hi⟩ ⟨k, hk⟩
theorem bas_bound (i k : Nat) (hi : i < 8) (hk : k < 8) : -12 ≤ basOf i k ∧ basOf i k ≤ 12 ∧ 0 ≤ basOf i k * basOf i k ∧ basOf i k * basOf i k ≤ 144 := by
  have : ∀ (i k : Fin 8), -12 ≤ basOf i.1 k.1 ∧ basOf i.1 k.1 ≤ 12 ∧ 0 ≤ basOf i.1 k.1 * basOf i.1 k.1 ∧ basOf i.1 k.1 * basOf i.1 k.1 ≤ 144 := by decide +kernel
  exact this ⟨i, hi⟩ ⟨k, hk⟩
set_option maxRecDepth 100000 in
set_option maxHeartbeats 1000000 in
theorem rnorm_any (i : Nat) (hi : i < 8) (w : World) : Calls Tryz.prog 37 #[.int .i64 i] w fun e w' => e = .returned (.int .i64 (normOf i)) ∧ Keep none_ w w' := by
  go_enter Tryz.func37, Tryz.ntmps37
  go_wp2_with (fail)
  go_loopw [3, 4] (fun s j wr => ∃ k : Nat, k ≤ 8 ∧ j = .int .i64 k ∧ s = .int .i64 (sqs i k) ∧ Keep none_ w wr) (fun _ j _ => 8 - (intOf j).toNat)
  case atStart => exact ⟨0, by decide, rfl, rfl, Keep.refl _ _⟩
  case round =>
    obtain ⟨k, hk, rfl, rfl, hkr⟩ := hrel
    have HK := Lib.hid hkr
    clear hkr
    by_cases hlt : k < 8
    · have hlt' : (k : Int) < 8 := by omega
      obtain ⟨b1, b2, b3, b4⟩ := bas_bound i k hi hlt
      obtain ⟨s1, s2⟩ := sqs_bound i k hi (by omega)
      have hb := Lib.hid (show sqs i (k + 1) = sqs i k + basOf i k * basOf i k from rfl)
      have RB := Lib.hid (fun w => rbasis_any i k hi hlt w)
      have t1 : True := trivial
      have t2 : True := trivial
      go_wp2_with (first | (have _t := t1; go_at_call 36; refine (RB.out wr).mono ?_; rintro e w2 ⟨rfl, k2⟩; have K2 := Lib.hid (HK.out.trans k2); clear k2 _t t1) | (have _t := t2; go_at_call 36; refine (RB.out w2).mono ?_; rintro e w3 ⟨rfl, k3⟩; have K3 := Lib.hid (K2.out.trans k3); clear k3 _t t2))
      go_roundw
      case rel => exact ⟨k + 1, hlt, by go_num, by rw [hb.out], K3.out⟩
      case measure => simp [intOf]; omega
    · obtain rfl : k = 8 := by omega
      have N := Lib.hid (sqs_norm i hi)
      go_wp2
      go_ret
      exact ⟨by rw [← N.out]; rfl, HK.out⟩
/-- The gain of a step, by the norms. -/
def gainF (a b : Int) : Int := if a * b = 262144 then 32 else if a * b = 295936 then 34 else if a * b = 163840 then 25 else if a * b = 334084 then 36 else if a * b = 184960 then 27 else 20
def gainOf (n : Nat) : Int := gainF (normOf (n / 8)) (normOf (n % 8))
def stp (z q : Int) (n : Nat) : Int := z * q * gainOf n
theorem norm_mem (i : Nat) (hi : i < 8) : normOf i = 512 ∨ normOf i = 578 ∨ normOf i = 320 := by
  have : ∀ (i : Fin 8), normOf i.1 = 512 ∨ normOf i.1 = 578 ∨ normOf i.1 = 320 := by decide +kernel
  exact this ⟨i, hi⟩
theorem gain_bound (n : Nat) (hn : n < 64) : 20 ≤ gainOf n ∧ gainOf n ≤ 36 := by
  have : ∀ (n : Fin 64), 20 ≤ gainOf n.1 ∧ gainOf n.1 ≤ 36 := by decide +kernel
  exact this ⟨n, hn⟩
/-- Two pairs of numbers compared. -/
def pairLits (x y : Int) : Prop := Tryz.prog.keyLits 4 96 [.int .i64 x, .int .i64 y] = some [.int .i64 x, .int .i64 y]
theorem eq2 (a b c d : Int) (w : World) (l1 : pairLits a b) (l2 : pairLits c d) : (Op.equalIn 10000 96 (.agg #[.int .i64 a, .int .i64 b]) (.agg #[.int .i64 c, .int .i64 d])).run Tryz.prog w = .ok (decide (a = c) && decide (b = d)) w := by
  have hk : Tryz.prog.keyTypeAt 4 96 = true := by kernel_rfl
  have f1 : ∀ x y : Int, (Value.agg #[.int .i64 x, .int .i64 y]).formed Tryz.prog 96 = true := fun x y => by kernel_rfl
  obtain ⟨r, hr, hiff⟩ := run_equalIn_deep (10000 - 4) 4 96 hk w 4 4 _ _ _ _ (f1 a b) (f1 c d) l1 l2
  rw [Nat.sub_add_cancel (by decide)] at hr
  rw [hr]
  have : r = (decide (a = c) && decide (b = d)) := by
    rw [Bool.eq_iff_iff, hiff]
    simp
  rw [this]
set_option maxRecDepth 100000 in
set_option maxHeartbeats 4000000 in
theorem gain_any (a b : Int) (ha : a = 512 ∨ a = 578 ∨ a = 320) (hb : b = 512 ∨ b = 578 ∨ b = 320) (w : World) : Calls Tryz.prog 62 #[.int .i64 a, .int .i64 b] w fun e w' => e = .returned (.int .i64 (gainF a b)) ∧ Keep none_ w w' := by
  rcases ha with rfl | rfl | rfl <;> rcases hb with rfl | rfl | rfl
  all_goals
    have t13 : True := trivial
    have t16 : True := trivial
    have t19 : True := trivial
    have t22 : True := trivial
    have t25 : True := trivial
    go_enter Tryz.func62, Tryz.ntmps62
    go_wp2_with (first | (have _t := t13; refine wpList_eql_agg 96 (.tmp 11) (.tmp 13) 96 rfl rfl _ _ rfl rfl (by kernel_rfl) _ (fun w => eq2 _ _ _ _ w (by unfold pairLits; kernel_rfl) (by unfold pairLits; kernel_rfl)) ?_; go_frame; clear _t t13) | (have _t := t16; refine wpList_eql_agg 96 (.tmp 11) (.tmp 16) 96 rfl rfl _ _ rfl rfl (by kernel_rfl) _ (fun w => eq2 _ _ _ _ w (by unfold pairLits; kernel_rfl) (by unfold pairLits; kernel_rfl)) ?_; go_frame; clear _t t16) | (have _t := t19; refine wpList_eql_agg 96 (.tmp 11) (.tmp 19) 96 rfl rfl _ _ rfl rfl (by kernel_rfl) _ (fun w => eq2 _ _ _ _ w (by unfold pairLits; kernel_rfl) (by unfold pairLits; kernel_rfl)) ?_; go_frame; clear _t t19) | (have _t := t22; refine wpList_eql_agg 96 (.tmp 11) (.tmp 22) 96 rfl rfl _ _ rfl rfl (by kernel_rfl) _ (fun w => eq2 _ _ _ _ w (by unfold pairLits; kernel_rfl) (by unfold pairLits; kernel_rfl)) ?_; go_frame; clear _t t22) | (have _t := t25; refine wpList_eql_agg 96 (.tmp 11) (.tmp 25) 96 rfl rfl _ _ rfl rfl (by kernel_rfl) _ (fun w => eq2 _ _ _ _ w (by unfold pairLits; kernel_rfl) (by unfold pairLits; kernel_rfl)) ?_; go_frame; clear _t t25))
    go_ret
    exact ⟨by first | rfl | decide, by first | exact Keep.refl _ _ | exact (Keep.refl _ _).drew⟩
end Go.Proofs.YtebdgoikmclflaaGreatDoor
