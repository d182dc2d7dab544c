/-
  The steps of a quantiser, and the reference's.
-/
import Derived.Test.YtebdgoikmclflaaGreatDoorEb07
namespace Go.Proofs.YtebdgoikmclflaaGreatDoor
open Go.RowKit

def qOk (q : Int) : Bool := decide (1 ≤ q) && decide (q ≤ 31)
theorem vqE (q : Int) (w : World) : Calls Tryz.prog 12 #[.int .i64 q] w fun e w' => e = .returned (.bool (qOk q)) ∧ w = w' := by
  by_cases h1 : 1 ≤ q
  · by_cases h2 : q ≤ 31
    · have h1' : decide (1 ≤ q) = true := decide_eq_true h1
      have h2' : decide (q ≤ 31) = true := decide_eq_true h2
      go_enter Tryz.func12, Tryz.ntmps12
      go_wp2
      go_ret
      exact ⟨ret_bool (by unfold qOk; rw [h1', h2']; rfl), rfl⟩
    · have h1' : decide (1 ≤ q) = true := decide_eq_true h1
      have h2' : decide (q ≤ 31) = false := decide_eq_false h2
      go_enter Tryz.func12, Tryz.ntmps12
      go_wp2
      go_ret
      exact ⟨ret_bool (by unfold qOk; rw [h1', h2']; rfl), rfl⟩
  · have h1' : decide (1 ≤ q) = false := decide_eq_false h1
    go_enter Tryz.func12, Tryz.ntmps12
    go_wp2
    go_ret
    exact ⟨ret_bool (by unfold qOk; rw [h1']; rfl), rfl⟩
theorem vqQ (q : Int) (w : World) : Calls Tryz.prog 28 #[.int .i64 q] w fun e w' => e = .returned (.bool (qOk q)) ∧ w = w' := by
  by_cases h1 : 1 ≤ q
  · by_cases h2 : q ≤ 31
    · have h1' : decide (1 ≤ q) = true := decide_eq_true h1
      have h2' : decide (q ≤ 31) = true := decide_eq_true h2
      go_enter Tryz.func28, Tryz.ntmps28
      go_wp2
      go_ret
      exact ⟨ret_bool (by unfold qOk; rw [h1', h2']; rfl), rfl⟩
    · have h1' : decide (1 ≤ q) = true := decide_eq_true h1
      have h2' : decide (q ≤ 31) = false := decide_eq_false h2
      go_enter Tryz.func28, Tryz.ntmps28
      go_wp2
      go_ret
      exact ⟨ret_bool (by unfold qOk; rw [h1', h2']; rfl), rfl⟩
  · have h1' : decide (1 ≤ q) = false := decide_eq_false h1
    go_enter Tryz.func28, Tryz.ntmps28
    go_wp2
    go_ret
    exact ⟨ret_bool (by unfold qOk; rw [h1']; rfl), rfl⟩
theorem vqM (q : Int) (w : World) : Calls Tryz.prog 76 #[.int .i64 q] w fun e w' => e = .returned (.bool (qOk q)) ∧ w = w' := by
  by_cases h1 : 1 ≤ q
  · by_cases h2 : q ≤ 31
    · have h1' : decide (1 ≤ q) = true := decide_eq_true h1
      have h2' : decide (q ≤ 31) = true := decide_eq_true h2
      go_enter Tryz.func76, Tryz.ntmps76
      go_wp2
      go_ret
      exact ⟨ret_bool (by unfold qOk; rw [h1', h2']; rfl), rfl⟩
    · have h1' : decide (1 ≤ q) = true := decide_eq_true h1
      have h2' : decide (q ≤ 31) = false := decide_eq_false h2
      go_enter Tryz.func76, Tryz.ntmps76
      go_wp2
      go_ret
      exact ⟨ret_bool (by unfold qOk; rw [h1', h2']; rfl), rfl⟩
  · have h1' : decide (1 ≤ q) = false := decide_eq_false h1
    go_enter Tryz.func76, Tryz.ntmps76
    go_wp2
    go_ret
    exact ⟨ret_bool (by unfold qOk; rw [h1']; rfl), rfl⟩
theorem stp_bound {z q : Int} {n : Nat} (z1 : 0 ≤ z) (z2 : z ≤ 255) (q1 : 1 ≤ q) (q2 : q ≤ 31) (hn : n < 64) : 0 ≤ z * q ∧ z * q ≤ 7905 ∧ 0 ≤ stp z q n ∧ stp z q n ≤ 284580 := by
  obtain ⟨g1, g2⟩ := gain_bound n hn
  have a1 : 0 ≤ z * q := Int.mul_nonneg z1 (by omega)
  have a2 : z * q ≤ 255 * 31 := Int.mul_le_mul z2 q2 (by omega) (by omega)
  refine ⟨a1, by omega, Int.mul_nonneg a1 (by omega), ?_⟩
  have : z * q * gainOf n ≤ 7905 * 36 := Int.mul_le_mul (by omega) g2 (by omega) (by omega)
  unfold stp
  omega
set_option maxRecDepth 100000 in
set_option maxHeartbeats 1000000 in
theorem step_any (z q : Int) (n : Nat) (z1 : 8 ≤ z) (z2 : z ≤ 255) (q1 : 1 ≤ q) (q2 : q ≤ 31) (hn : n < 64) (w : World) : Calls Tryz.prog 29 #[.int .i64 z, .int .i64 q, .int .i64 n] w fun e w' => e = .returned (.int .i64 (stp z q n)) ∧ Keep none_ w w' := by
  have h1 : ¬ z < 8 := by omega
  have h2 : ¬ 255 < z := by omega
  have h3 : ¬ (n : Int) < 0 := by omega
  have h4 : ¬ (64 : Int) ≤ n := by omega
  obtain ⟨m1, m2, m3, m4⟩ := stp_bound (z := z) (q := q) (n := n) (by omega) z2 q1 q2 hn
  have NQ := Lib.hid (fun w => norm_any (n / 8) (by omega) w)
  have NR := Lib.hid (fun w => norm_any (n % 8) (by omega) w)
  have GA := Lib.hid (fun w => gain_any _ _ (norm_mem (n / 8) (by omega)) (norm_mem (n % 8) (by omega)) w)
  have e1 : ((n / 8 : Nat) : Int) = (n : Int) / 8 := by omega
  have e2 : ((n % 8 : Nat) : Int) = (n : Int) % 8 := by omega
  have hs : z * q * gainF (normOf (n / 8)) (normOf (n % 8)) = stp z q n := rfl
  have hq : qOk q = true := by unfold qOk; simp; omega
  have VQ := Lib.hid (fun w => hq ▸ vqQ q w)
  clear hq
  have t0 : True := trivial
  have t1 : True := trivial
  have t2 : True := trivial
  have t3 : True := trivial
  go_enter Tryz.func29, Tryz.ntmps29
  go_wp2_with (first | (have _t := t0; go_at_call 28; refine (VQ.out w).mono ?_; rintro e w' ⟨rfl, rfl⟩; clear _t t0) | (have _t := t1; go_at_call 31; refine (show Calls Tryz.prog 31 #[.int .i64 ((n : Int) / 8)] w _ from e1 ▸ NQ.out w).mono ?_; rintro e w2 ⟨rfl, k2⟩; have K2 := Lib.hid k2; clear k2 _t t1) | (have _t := t2; go_at_call 31; refine (show Calls Tryz.prog 31 #[.int .i64 ((n : Int) % 8)] w2 _ from e2 ▸ NR.out w2).mono ?_; rintro e w3 ⟨rfl, k3⟩; have K3 := Lib.hid (K2.out.trans k3); clear k3 _t t2) | (have _t := t3; go_at_call 62; refine (GA.out w3).mono ?_; rintro e w4 ⟨rfl, k4⟩; have K4 := Lib.hid (K3.out.trans k4); clear k4 _t t3))
  go_ret
  exact ⟨rfl, K4.out⟩
set_option maxRecDepth 100000 in
set_option maxHeartbeats 2000000 in
theorem rstep_any (z q : Int) (n : Nat) (z1 : 8 ≤ z) (z2 : z ≤ 255) (q1 : 1 ≤ q) (q2 : q ≤ 31) (hn : n < 64) (w : World) : Calls Tryz.prog 38 #[.int .i64 z, .int .i64 q, .int .i64 n] w fun e w' => e = .returned (.int .i64 (stp z q n)) ∧ Keep none_ w w' := by
  have h1 : ¬ z < 8 := by omega
  have h2 : ¬ 255 < z := by omega
  have h3 : ¬ (n : Int) < 0 := by omega
  have h4 : ¬ (63 : Int) < n := by omega
  have hq : ¬ q < 1 := by omega
  have hq2 : ¬ 31 < q := by omega
  obtain ⟨m1, m2, m3, m4⟩ := stp_bound (z := z) (q := q) (n := n) (by omega) z2 q1 q2 hn
  have NQ := Lib.hid (fun w => rnorm_any (n / 8) (by omega) w)
  have NR := Lib.hid (fun w => rnorm_any (n % 8) (by omega) w)
  have e1 : ((n / 8 : Nat) : Int) = (n : Int) / 8 := by omega
  have e2 : ((n % 8 : Nat) : Int) = (n : Int) % 8 := by omega
  have hs : stp z q n = z * q * gainF (normOf (n / 8)) (normOf (n % 8)) := rfl
  have A := norm_mem (n / 8) (by omega)
  have B := norm_mem (n % 8) (by omega)
  generalize normOf (n / 8) = a at *
  generalize normOf (n % 8) = b at *
  rcases A with rfl | rfl | rfl <;> rcases B with rfl | rfl | rfl
  all_goals
    have hs' := Lib.hid hs
    clear hs m3 m4
    have t1 : True := trivial
    have t2 : True := trivial
    go_enter Tryz.func38, Tryz.ntmps38
    go_wp2_with (first | (have _t := t1; go_at_call 37; refine (show Calls Tryz.prog 37 #[.int .i64 ((n : Int) / 8)] w _ from e1 ▸ NQ.out w).mono ?_; rintro e w2 ⟨rfl, k2⟩; have K2 := Lib.hid k2; clear k2 _t t1) | (have _t := t2; go_at_call 37; refine (show Calls Tryz.prog 37 #[.int .i64 ((n : Int) % 8)] w2 _ from e2 ▸ NR.out w2).mono ?_; rintro e w3 ⟨rfl, k3⟩; have K3 := Lib.hid (K2.out.trans k3); clear k3 _t t2))
    go_ret
    exact ⟨by rw [hs'.out]; rfl, K3.out⟩
end Go.Proofs.YtebdgoikmclflaaGreatDoor
/-
  The bound of a matrix and a quantiser: plain facts.
-/
namespace Go.Proofs.YtebdgoikmclflaaGreatDoor
open Go.RowKit

def tab (i k : Nat) : Int := max (basOf i k) (-(basOf i k)) * (739840 / normOf i)
theorem tab_bound (i k : Nat) (hi : i < 8) (hk : k < 8) : 0 ≤ tab i k ∧ tab i k ≤ 18496 := by
  have : ∀ (i k : Fin 8), 0 ≤ tab i.1 k.1 ∧ tab i.1 k.1 ≤ 18496 := by decide +kernel
  exact this ⟨i, hi⟩ ⟨k, hk⟩
/-- The sum of the errors of sample (k, l), as far as entry n. -/
def sumB (zs : List Int) (q : Int) (k l : Nat) : Nat → Int
  | 0 => 0
  | n + 1 => sumB zs q k l n + tab (n / 8) k * tab (n % 8) l * stp (zs.getD n 0) q n
def maxL (zs : List Int) (q : Int) (k : Nat) (m : Int) : Nat → Int
  | 0 => m
  | l + 1 => max (maxL zs q k m l) (sumB zs q k l 64)
def maxK (zs : List Int) (q : Int) : Nat → Int
  | 0 => 0
  | k + 1 => maxL zs q k (maxK zs q k) 8
def bndOf (zs : List Int) (q : Int) : Int := (maxK zs q 8 + 547363225600) / 1094726451200
def bndF (zs : List Int) (q : Int) : Int := if ge8 zs && qOk q then bndOf zs q else 0
theorem tt_bound {a b : Int} (a1 : 0 ≤ a) (a2 : a ≤ 18496) (b1 : 0 ≤ b) (b2 : b ≤ 18496) : 0 ≤ a * b ∧ a * b ≤ 342102016 := ⟨Int.mul_nonneg a1 b1, by have : a * b ≤ 18496 * 18496 := Int.mul_le_mul a2 b2 b1 (by omega); omega⟩
theorem tts_bound {a b : Int} (a1 : 0 ≤ a) (a2 : a ≤ 342102016) (b1 : 0 ≤ b) (b2 : b ≤ 284580) : 0 ≤ a * b ∧ a * b ≤ 97355391713280 := ⟨Int.mul_nonneg a1 b1, by have : a * b ≤ 342102016 * 284580 := Int.mul_le_mul a2 b2 b1 (by omega); omega⟩
def U8r (zs : List Int) : Prop := ∀ n, n < 64 → 0 ≤ zs.getD n 0 ∧ zs.getD n 0 ≤ 255
theorem sumB_bound {zs : List Int} {q : Int} (hz : U8r zs) (q1 : 1 ≤ q) (q2 : q ≤ 31) (k l : Nat) (hk : k < 8) (hl : l < 8) : ∀ n, n ≤ 64 → 0 ≤ sumB zs q k l n ∧ sumB zs q k l n ≤ n * 97355391713280
  | 0, _ => ⟨Int.le_refl _, by simp [sumB]⟩
  | n + 1, hn => by
    obtain ⟨h1, h2⟩ := sumB_bound hz q1 q2 k l hk hl n (by omega)
    obtain ⟨z1, z2⟩ := hz n (by omega)
    obtain ⟨-, -, s1, s2⟩ := stp_bound z1 z2 q1 q2 (n := n) (by omega)
    obtain ⟨a1, a2⟩ := tab_bound (n / 8) k (by omega) hk
    obtain ⟨b1, b2⟩ := tab_bound (n % 8) l (by omega) hl
    obtain ⟨t1, t2⟩ := tt_bound a1 a2 b1 b2
    obtain ⟨u1, u2⟩ := tts_bound t1 t2 s1 s2
    unfold sumB
    constructor
    · omega
    · push_cast
      omega
theorem sumB_all {zs : List Int} {q : Int} (hz : U8r zs) (q1 : 1 ≤ q) (q2 : q ≤ 31) (k l : Nat) (hk : k < 8) (hl : l < 8) : 0 ≤ sumB zs q k l 64 ∧ sumB zs q k l 64 ≤ 6230745069649920 := by
  obtain ⟨h1, h2⟩ := sumB_bound hz q1 q2 k l hk hl 64 (by omega)
  exact ⟨h1, by omega⟩
theorem maxL_bound {zs : List Int} {q : Int} (hz : U8r zs) (q1 : 1 ≤ q) (q2 : q ≤ 31) (k : Nat) (m : Int) (hk : k < 8) (m1 : 0 ≤ m) (m2 : m ≤ 6230745069649920) : ∀ l, l ≤ 8 → 0 ≤ maxL zs q k m l ∧ maxL zs q k m l ≤ 6230745069649920
  | 0, _ => ⟨m1, m2⟩
  | l + 1, hl => by
    obtain ⟨h1, h2⟩ := maxL_bound hz q1 q2 k m hk m1 m2 l (by omega)
    obtain ⟨s1, s2⟩ := sumB_all hz q1 q2 k l hk (by omega)
    unfold maxL
    omega
theorem maxK_bound {zs : List Int} {q : Int} (hz : U8r zs) (q1 : 1 ≤ q) (q2 : q ≤ 31) : ∀ k, k ≤ 8 → 0 ≤ maxK zs q k ∧ maxK zs q k ≤ 6230745069649920
  | 0, _ => ⟨Int.le_refl _, by simp [maxK]⟩
  | k + 1, hk => by
    obtain ⟨h1, h2⟩ := maxK_bound hz q1 q2 k (by omega)
    unfold maxK
    exact maxL_bound hz q1 q2 k _ (by omega) h1 h2 8 (by omega)
theorem ge8_at {zs : List Int} (hl : zs.length = 64) (h : ge8 zs = true) (n : Nat) (hn : n < 64) : 8 ≤ zs.getD n 0 := by
  unfold ge8 at h
  rw [List.all_eq_true] at h
  have := h zs[n] (List.getElem_mem (by omega))
  rw [List.getD, List.getElem?_eq_getElem (by omega)]
  simpa using this
/-- The steps, as far as entry k. -/
def stepsAt (zs : List Int) (q : Int) (k : Nat) : List Int := (List.range 64).map fun n => if n < k then stp (zs.getD n 0) q n else 0
theorem steps_snoc (zs : List Int) (q : Int) (k : Nat) (hk : k < 64) : (stepsAt zs q k).set k (stp (zs.getD k 0) q k) = stepsAt zs q (k + 1) := by
  apply List.ext_getElem?
  intro i
  unfold stepsAt
  rw [List.getElem?_set]
  by_cases hik : k = i
  · subst hik
    simp [hk]
  · rw [if_neg hik]
    simp only [List.getElem?_map]
    cases h : (List.range 64)[i]? with
    | none => rfl
    | some j =>
      have : j = i := by
        obtain ⟨h1, h2⟩ := List.getElem?_eq_some_iff.1 h
        simpa using h2.symm
      subst this
      simp only [Option.map_some]
      congr 1
      by_cases h1 : j < k
      · rw [if_pos h1, if_pos (by omega)]
      · rw [if_neg h1, if_neg (by omega)]
def tabAt (k : Nat) : List Int := (List.range 64).map fun n => if n < k then tab (n / 8) (n % 8) else 0
theorem tabAt_snoc (k : Nat) (hk : k < 64) : (tabAt k).set k (tab (k / 8) (k % 8)) = tabAt (k + 1) := by
  apply List.ext_getElem?
  intro i
  unfold tabAt
  rw [List.getElem?_set]
  by_cases hik : k = i
  · subst hik
    simp [hk]
  · rw [if_neg hik]
    simp only [List.getElem?_map]
    cases h : (List.range 64)[i]? with
    | none => rfl
    | some j =>
      have : j = i := by
        obtain ⟨h1, h2⟩ := List.getElem?_eq_some_iff.1 h
        simpa using h2.symm
      subst this
      simp only [Option.map_some]
      congr 1
      by_cases h1 : j < k
      · rw [if_pos h1, if_pos (by omega)]
      · rw [if_neg h1, if_neg (by omega)]
/-- A list of numbers in a block. -/
def IntsB (w : World) (b : Nat) (t : TypeId) (zs : List Int) : Prop := Blk w b t (zs.map (Value.int .i64)).toArray
theorem IntsB.set_ {w : World} {b : Nat} {t : TypeId} {zs : List Int} (h : IntsB w b t zs) (k : Nat) (z : Int) : IntsB (w.setCell ⟨b, k, none⟩ (.int .i64 z)) b t (zs.set k z) := by
  have := Blk.set_ h k (.int .i64 z)
  unfold IntsB
  rw [List.map_set]
  simpa using this
theorem IntsB.cell {w : World} {b : Nat} {t : TypeId} {zs : List Int} (h : IntsB w b t zs) (k : Nat) (hk : k < zs.length) : w.cell? ⟨b, k, none⟩ = some (.int .i64 (zs.getD k 0)) := by
  rw [Blk.cell h]
  rw [List.getElem?_toArray, List.getElem?_map, List.getElem?_eq_getElem hk, List.getD, List.getElem?_eq_getElem hk]
  rfl
theorem stepsAt_get (zs : List Int) (q : Int) (n : Nat) (hn : n < 64) : (stepsAt zs q 64).getD n 0 = stp (zs.getD n 0) q n := by
  unfold stepsAt
  simp [List.getD, hn]
theorem tabAt_get (i k : Nat) (hi : i < 8) (hk : k < 8) : (tabAt 64).getD (i * 8 + k) 0 = tab i k := by
  unfold tabAt
  have h : i * 8 + k < 64 := by omega
  have e1 : (i * 8 + k) / 8 = i := by omega
  have e2 : (i * 8 + k) % 8 = k := by omega
  simp [List.getD, h, e1, e2]
end Go.Proofs.YtebdgoikmclflaaGreatDoor
