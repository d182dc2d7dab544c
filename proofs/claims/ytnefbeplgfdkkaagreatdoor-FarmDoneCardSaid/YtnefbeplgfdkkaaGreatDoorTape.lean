/-
  The tape of numbers: Next gives a number in range and moves on; Image makes a frame.
-/
import Derived.Test.YtnefbeplgfdkkaaGreatDoorBase
namespace Go.Proofs.YtnefbeplgfdkkaaGreatDoor
open Go.RowKit

/-- Every number of the list fits int64. -/
def I64s (zs : List Int) : Prop := ∀ z ∈ zs, -9223372036854775808 ≤ z ∧ z ≤ 9223372036854775807

/-- Block g holds a tape that has been asked at most m times. -/
def TapeAt (w : World) (g m : Nat) : Prop :=
  ∃ (A : Option Addr) (n c at_ : Nat) (zs : List Int), Blk w g 29 #[.slice A n c, .int .i64 at_] ∧ at_ ≤ m ∧ Row w (ge g) 1 A n c (zs.map (Value.int .i64)) ∧ I64s zs

theorem TapeAt.lt {w : World} {g m : Nat} (h : TapeAt w g m) : g < w.heap.size := by
  obtain ⟨A, n, c, at_, zs, hb, _⟩ := h
  exact hb.lt
/-- A tape, and what lies below its block, over a step that writes later blocks alone. -/
theorem TapeAt.far {w w' : World} {S : Nat → Prop} {g m : Nat} (h : TapeAt w g m) (k : Keep S w w') (hS : ∀ b, S b → g < b) : TapeAt w' g m := by
  obtain ⟨A, n, c, at_, zs, hb, hm, hr, hz⟩ := h
  exact ⟨A, n, c, at_, zs, hb.keep k (fun e => Nat.lt_irrefl _ (hS g e)), hm, hr.keep (k.mono fun b e => Nat.le_of_lt (hS b e)), hz⟩
theorem TapeAt.mono {w : World} {g m m' : Nat} (h : TapeAt w g m) (hm : m ≤ m') : TapeAt w g m' := by
  obtain ⟨A, n, c, at_, zs, hb, hle, hr⟩ := h
  exact ⟨A, n, c, at_, zs, hb, Nat.le_trans hle hm, hr⟩
theorem keep_moved (w : World) (g k : Nat) (u : Value) : Keep (one g) w ((w.setCell ⟨g, 1, none⟩ u).drewN k) := ((Keep.refl (one g) w).setCell (p := ⟨g, 1, none⟩) (.inl rfl) u).drewN k
theorem TapeAt.moved {w : World} {A : Option Addr} {g n c at_ m k : Nat} {zs : List Int} (hb : Blk w g 29 #[.slice A n c, .int .i64 at_]) (hm : at_ ≤ m)
    (hr : Row w (ge g) 1 A n c (zs.map (Value.int .i64))) (hz : I64s zs) : TapeAt ((w.setCell ⟨g, 1, none⟩ (.int .i64 (at_ + 1))).drewN k) g (m + 1) := by
  refine ⟨A, n, c, at_ + 1, zs, ?_, by omega, ?_, hz⟩
  · exact (hb.set_ 1 _).drewN k
  · exact hr.keep ((keep_moved _ _ _ _).mono fun b e => by cases e; exact Nat.le_refl _)

/-- What Next answers. -/
def NextPost (g m : Nat) (k : Int) (w : World) (e : Ending) (w' : World) : Prop :=
  ∃ r : Int, e = .returned (.int .i64 r) ∧ (1 ≤ k → 0 ≤ r ∧ r < k) ∧ (k < 1 → r = 0) ∧ TapeAt w' g (m + 1) ∧ Keep (one g) w w'

theorem in_range (v k : Int) (h : 1 ≤ k) : 0 ≤ (v.tmod k + k) % k ∧ (v.tmod k + k) % k < k := ⟨Int.emod_nonneg _ (by omega), Int.emod_lt_of_pos _ (by omega)⟩
theorem tmod_lo (v k : Int) (h : 1 ≤ k) : -k < v.tmod k ∧ v.tmod k < k := by
  have h1 := Int.tmod_lt_of_pos v (b := k) (by omega)
  have h2 := Int.lt_tmod_of_pos v (b := k) (by omega)
  omega

set_option maxHeartbeats 400000 in
theorem next_any (g m : Nat) (k : Int) (w : World) (ht : TapeAt w g m) (hk : k ≤ 4294967296) (hm : m ≤ 4503599627370496) :
    Calls Tryz.prog 8 #[.pointer (some ⟨g, 0, none⟩), .int .i64 k] w (NextPost g m k w) := by
  by_cases hk1 : k < 1
  · go_enter Tryz.func8, Tryz.ntmps8
    go_wp2
    go_ret
    exact ⟨0, rfl, fun h => by omega, fun _ => rfl, ht.mono (by omega), Keep.refl _ _⟩
  · obtain ⟨A, n, c, at_, zs, hb, hle, hr, hz⟩ := ht
    have c0 := hb.cell 0
    have c1 := hb.cell 1
    have f1 := hb.frozen 1
    simp only [List.getElem?_toArray, List.getElem?_cons_zero, List.getElem?_cons_succ] at c0 c1
    have hcap := hr.cap
    have hnc := hr.le
    unfold maxLen at hcap
    by_cases hlt : at_ < n
    · obtain ⟨b, o, rfl, hbg, hcell⟩ := hr.at_ (by omega)
      have hl : at_ < zs.length := by have := hr.len; simp at this; omega
      have hv := hcell at_ (.int .i64 zs[at_]) (by simp [hl])
      obtain ⟨hz1, hz2⟩ := hz zs[at_] (List.getElem_mem hl)
      have HR := Lib.hid hr
      have HZ := Lib.hid hz
      have HC := Lib.hid hcell
      have HB := Lib.hid hb
      generalize zs[at_] = v at hv hz1 hz2
      clear hr hz hcell hb hl
      have hlt' : (at_ : Int) < n := by omega
      obtain ⟨ht1, ht2⟩ := tmod_lo v k (by omega)
      go_enter Tryz.func8, Tryz.ntmps8
      go_wp2
      go_quiet (fail)
      go_wp2
      go_quiet (fail)
      go_wp2
      go_ret
      exact ⟨_, rfl, fun h => in_range v k h, fun h => by omega, TapeAt.moved HB.out hle HR.out HZ.out, keep_moved _ _ _ _⟩
    · have ht1 := Int.emod_nonneg ((at_ : Int) * 7 + 3) (b := k) (by omega)
      have ht2 := Int.emod_lt_of_pos ((at_ : Int) * 7 + 3) (b := k) (by omega)
      have HR := Lib.hid hr
      have HZ := Lib.hid hz
      have HB := Lib.hid hb
      clear hr hz hb
      go_enter Tryz.func8, Tryz.ntmps8
      go_wp2
      go_quiet (fail)
      go_wp2

      go_ret
      exact ⟨_, rfl, fun h => ⟨Int.emod_nonneg _ (by omega), Int.emod_lt_of_pos _ (by omega)⟩, fun h => by omega, TapeAt.moved HB.out hle HR.out HZ.out, keep_moved _ _ _ _⟩
end Go.Proofs.YtnefbeplgfdkkaaGreatDoor
