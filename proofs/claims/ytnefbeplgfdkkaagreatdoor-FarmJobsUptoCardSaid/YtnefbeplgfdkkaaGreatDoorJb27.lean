/-
  The rows' words: the row shut where the call has left what was there; the laid variables at the witness.
-/
import Derived.Test.YtnefbeplgfdkkaaGreatDoorRows
import Derived.Test.YtnefbeplgfdkkaaGreatDoorTie
import Derived.Test.YtnefbeplgfdkkaaGreatDoorJb01
import Derived.ProofKit
import Derived.LaidMore
import Derived.Stop.Joined
import Derived.Lib.SmallJoins
import Derived.OpenShut
import Derived.Below
import Derived.Carry
import Derived.ChangeSame
import Derived.SevenTiedAt
import Derived.Test.YtnefbeplgfdkkaaGreatDoorJb26
namespace Go.Proofs.YtnefbeplgfdkkaaGreatDoor
open Go.ChangeShapes Go.WideShapes Go.ChangeAt Go.RowKit Go.Joins Go.Deep

theorem Tryz.own : ownKnob Tryz.prog.godebug = none := by kernel_rfl
theorem Tryz.laidOut : laidOutB Tryz.prog = true := by kernel_rfl
theorem door_met (os : Os) (args : Array Value) : laidMetH Tryz.prog Rows.farmDoneRow.laid ((World.doorLaid Tryz.prog 4000 os).forCall (fun _ _ => 0) ⟨#[], args, []⟩).memory :=
  laidMetH_of_parts3 (fuel := 8) (laidMet_of_run' 8 (by kernel_rfl) (by kernel_rfl)) (by kernel_rfl) (by kernel_rfl)
section
variable {H : Type} {enc : TypeId × Value → H} {P : Program} {w : World} {base : Nat} {held : Bool}
/-- The row's last step where the call has left what was there, and returns true. -/
theorem post_of_keep {f : Func} {s : ChangeSpec} {apart fresh handsOn again : Bool} {W W' : World} {args : Array Value} {v : Value} {ds gs : List (DataW H)} {before pa pv : List MemPlace}
    (hW : DataW.Whole enc P f.params.toList s.vars apart W args.toList ds gs before)
    (hres : ∀ (b : Nat) (sp : Nat → Bool) (hd : Bool), DataW.TrodAll enc P W' b sp hd f.resultTypes.toList (v.resultList f.resultTypes.size) (s.fn H (ds ++ gs)).results [])
    (hargs : ∀ sp : Nat → Bool, (∀ p ∈ before, sp p.block = true) → DataW.TrodAll enc P W' 0 sp true f.params.toList args.toList (s.fn H (ds ++ gs)).args pa)
    (hvars : ∀ sp : Nat → Bool, (∀ p ∈ before, sp p.block = true) → DataW.TrodVars enc P W' sp s.vars (s.fn H (ds ++ gs)).vars pv)
    (hps : before = pa ++ pv) (hb : Below W.heap.size W W')
    (hok : ∀ (j : Nat) (t : TypeId) (r : Value), f.resultTypes[j]? = some t → (v.resultList f.resultTypes.size)[j]? = some r → Value.okWide P W' .any 0 t r) :
    s.post enc P f apart fresh handsOn again W args v W' := by
  have hlt : ∀ p ∈ before, p.block < W.heap.size := fun p hp => hW.lt p hp
  have hold : ∀ p ∈ before, (fun b => decide (b < W.heap.size)) p.block = true := fun p hp => by simpa using hlt p hp
  refine ⟨ds, gs, before, [], pa, pv, hW, hres _ _ _, hargs _ hold, hvars _ hold, World.keptBut_mono (fun p hp => ⟨hp, ?_⟩) (hb.frame (· ∈ before)), fun _ => ?_⟩
  · rw [hps, List.mem_append] at hp
    exact Or.inr hp
  · obtain ⟨_, _, _, _, _, hz, hn⟩ := hW
    refine ⟨hok, _, _, ([] ++ pa) ++ pv, ⟨[] ++ pa, pv, trodAll_append (hargs _ (fun _ _ => rfl)) (hres _ _ _), hvars _ (fun _ _ => rfl), rfl, ?_, ?_⟩, ?_⟩
    · intro b off hp
      have hin : MemPlace.cell b off ∈ before := by rw [hps]; simpa using hp
      rw [hb.frozen (hlt _ hin)]
      exact hz b off hin
    · intro ha
      have := hn ha
      rw [hps] at this
      simpa using this
    · intro p hp _
      rw [hps]
      simpa using hp
end
end Go.Proofs.YtnefbeplgfdkkaaGreatDoor
/-
  The tape of numbers: Next gives a number in range and moves on; Image makes a frame.
-/
namespace Go.Proofs.YtnefbeplgfdkkaaGreatDoor
open Go.RowKit

/-- Every number of the list fits int64. -/
def I64s (zs : List Int) : Prop := ∀ z ∈ zs, -9223372036854775808 ≤ z ∧ z ≤ 9223372036854775807

/-- Block g holds a tape that has been asked at most m times. -/
def TapeAt (w : World) (g m : Nat) : Prop :=
  ∃ (A : Option Addr) (n c at_ : Nat) (zs : List Int), Blk w g 29 #[.slice A n c, .int .i64 at_] ∧ at_ ≤ m ∧ Row w (ge g) 1 A n c (zs.map (Value.int .i64)) ∧ I64s zs

theorem TapeAt.lt {w : World} {g m : Nat} (h : TapeAt w g m) : g < w.heap.size := by
  obtain ⟨A, n, c, at_, zs, hb, _⟩ := h
  exact hb.lt
/-- A tape, and what lies below its block, over a step that writes later blocks alone. -/
theorem TapeAt.far {w w' : World} {S : Nat → Prop} {g m : Nat} (h : TapeAt w g m) (k : Keep S w w') (hS : ∀ b, S b → g < b) : TapeAt w' g m := by
  obtain ⟨A, n, c, at_, zs, hb, hm, hr, hz⟩ := h
  exact ⟨A, n, c, at_, zs, hb.keep k (fun e => Nat.lt_irrefl _ (hS g e)), hm, hr.keep (k.mono fun b e => Nat.le_of_lt (hS b e)), hz⟩
theorem TapeAt.mono {w : World} {g m m' : Nat} (h : TapeAt w g m) (hm : m ≤ m') : TapeAt w g m' := by
  obtain ⟨A, n, c, at_, zs, hb, hle, hr⟩ := h
  exact ⟨A, n, c, at_, zs, hb, Nat.le_trans hle hm, hr⟩
theorem keep_moved (w : World) (g k : Nat) (u : Value) : Keep (one g) w ((w.setCell ⟨g, 1, none⟩ u).drewN k) := ((Keep.refl (one g) w).setCell (p := ⟨g, 1, none⟩) (.inl rfl) u).drewN k
theorem TapeAt.moved {w : World} {A : Option Addr} {g n c at_ m k : Nat} {zs : List Int} (hb : Blk w g 29 #[.slice A n c, .int .i64 at_]) (hm : at_ ≤ m)
    (hr : Row w (ge g) 1 A n c (zs.map (Value.int .i64))) (hz : I64s zs) : TapeAt ((w.setCell ⟨g, 1, none⟩ (.int .i64 (at_ + 1))).drewN k) g (m + 1) := by
  refine ⟨A, n, c, at_ + 1, zs, ?_, by omega, ?_, hz⟩
  · exact (hb.set_ 1 _).drewN k
  · exact hr.keep ((keep_moved _ _ _ _).mono fun b e => by cases e; exact Nat.le_refl _)

/-- What Next answers. -/
def NextPost (g m : Nat) (k : Int) (w : World) (e : Ending) (w' : World) : Prop :=
  ∃ r : Int, e = .returned (.int .i64 r) ∧ (1 ≤ k → 0 ≤ r ∧ r < k) ∧ (k < 1 → r = 0) ∧ TapeAt w' g (m + 1) ∧ Keep (one g) w w'

theorem in_range (v k : Int) (h : 1 ≤ k) : 0 ≤ (v.tmod k + k) % k ∧ (v.tmod k + k) % k < k := ⟨Int.emod_nonneg _ (by omega), Int.emod_lt_of_pos _ (by omega)⟩
theorem tmod_lo (v k : Int) (h : 1 ≤ k) : -k < v.tmod k ∧ v.tmod k < k := by
  have h1 := Int.tmod_lt_of_pos v (b := k) (by omega)
  have h2 := Int.lt_tmod_of_pos v (b := k) (by omega)
  omega

set_option maxHeartbeats 400000 in
theorem next_any (g m : Nat) (k : Int) (w : World) (ht : TapeAt w g m) (hk : k ≤ 4294967296) (hm : m ≤ 4503599627370496) :
    Calls Tryz.prog 8 #[.pointer (some ⟨g, 0, none⟩), .int .i64 k] w (NextPost g m k w) := by
  by_cases hk1 : k < 1
  · go_enter Tryz.func8, Tryz.ntmps8
    go_wp2
    go_ret
    exact ⟨0, rfl, fun h => by omega, fun _ => rfl, ht.mono (by omega), Keep.refl _ _⟩
  · obtain ⟨A, n, c, at_, zs, hb, hle, hr, hz⟩ := ht
    have c0 := hb.cell 0
    have c1 := hb.cell 1
    have f1 := hb.frozen 1
    simp only [List.getElem?_toArray, List.getElem?_cons_zero, List.getElem?_cons_succ] at c0 c1
    have hcap := hr.cap
    have hnc := hr.le
    unfold maxLen at hcap
    by_cases hlt : at_ < n
    · obtain ⟨b, o, rfl, hbg, hcell⟩ := hr.at_ (by omega)
      have hl : at_ < zs.length := by have := hr.len; simp at this; omega
      have hv := hcell at_ (.int .i64 zs[at_]) (by simp [hl])
      obtain ⟨hz1, hz2⟩ := hz zs[at_] (List.getElem_mem hl)
      have HR := Lib.hid hr
      have HZ := Lib.hid hz
      have HC := Lib.hid hcell
      have HB := Lib.hid hb
      generalize zs[at_] = v at hv hz1 hz2
      clear hr hz hcell hb hl
      have hlt' : (at_ : Int) < n := by omega
      obtain ⟨ht1, ht2⟩ := tmod_lo v k (by omega)
      go_enter Tryz.func8, Tryz.ntmps8
      go_wp2
      go_quiet (fail)
      go_wp2
      go_quiet (fail)
      go_wp2
      go_ret
      exact ⟨_, rfl, fun h => in_range v k h, fun h => by omega, TapeAt.moved HB.out hle HR.out HZ.out, keep_moved _ _ _ _⟩
    · have ht1 := Int.emod_nonneg ((at_ : Int) * 7 + 3) (b := k) (by omega)
      have ht2 := Int.emod_lt_of_pos ((at_ : Int) * 7 + 3) (b := k) (by omega)
      have HR := Lib.hid hr
      have HZ := Lib.hid hz
      have HB := Lib.hid hb
      clear hr hz hb
      go_enter Tryz.func8, Tryz.ntmps8
      go_wp2
      go_quiet (fail)
      go_wp2

      go_ret
      exact ⟨_, rfl, fun h => ⟨Int.emod_nonneg _ (by omega), Int.emod_lt_of_pos _ (by omega)⟩, fun h => by omega, TapeAt.moved HB.out hle HR.out HZ.out, keep_moved _ _ _ _⟩
end Go.Proofs.YtnefbeplgfdkkaaGreatDoor
/-
  A tape that came in, as a row.
-/
namespace Go.Proofs.YtnefbeplgfdkkaaGreatDoor
open Go.ChangeShapes Go.WideShapes Go.ChangeAt Go.RowKit Go.Joins Go.Deep
section
variable {H : Type} {enc : TypeId × Value → H} {P : Program} {w : World} {base : Nat} {held : Bool}
/-- A slice of integers that came in, as a row. -/
theorem row_of_ints {t e : TypeId} {k : IntKind} {fuel : Nat} {v : Value} {y : DataW H × List MemPlace} (ht : P.underlying t = some (.slice e)) (he : P.underlying e = some (.int k)) (hc : P.cellsOf e = 1)
    (h : DataW.trod enc P w base (fun _ => true) held fuel t [v] = some y) : ∃ (A : Option Addr) (n c : Nat) (zs : List Int), v = .slice A n c ∧ Row w none_ 1 A n c (zs.map (Value.int k)) ∧ ∀ z ∈ zs, (Lit.int k z).wf = true := by
  rcases open_ints ht he hc h with ⟨hcs, -⟩ | ⟨a, len, cap, zs, hcs, -, hl, hm, hz, -, hcell, hwz⟩
  · simp only [List.cons.injEq, and_true] at hcs
    exact ⟨none, 0, 0, [], hcs, Row.nil _ _ _ _ _ (Nat.zero_le _), fun z hz => by cases hz⟩
  · simp only [List.cons.injEq, and_true] at hcs
    simp only [if_true] at hz
    refine ⟨some a, len, cap, zs.take len, hcs, ⟨by simp; omega, hl, hm, fun hn => ?_⟩, fun z hz => hwz z (List.mem_of_mem_take hz)⟩
    obtain ⟨b, o, rfl, hc⟩ := ints_at hcell (by omega)
    refine ⟨b, o, rfl, fun e => e, fun j u hu => ?_⟩
    rw [List.getElem?_map, List.getElem?_take] at hu
    split at hu
    · have hj : j < zs.length := by omega
      rw [hc j hj, List.getD_eq_getElem?_getD, List.getElem?_eq_getElem hj]
      rw [List.getElem?_eq_getElem hj] at hu
      simpa using hu
    · simp at hu
theorem tape_of {v : Value} {d : DataW H} {p : List MemPlace} (h : DataW.Trod enc Tryz.prog w base (fun _ => true) held 26 v d p) (hv : ∃ a l c, v = .slice a l c) : ∃ (A : Option Addr) (n c : Nat) (zs : List Int), v = .slice A n c ∧ Row w none_ 1 A n c (zs.map (Value.int .i64)) ∧ I64s zs := by
  obtain ⟨a, l, c, rfl⟩ := hv
  obtain ⟨fuel, hf⟩ := h
  obtain ⟨A, n, c, zs, e, hr, hw⟩ := row_of_ints Tryz.underlying26 Tryz.underlying3 (by kernel_rfl) (by simpa [Value.cells] using hf)
  refine ⟨A, n, c, zs, e, hr, fun z hz => ?_⟩
  exact bounds_i64 (hw z hz)
end
end Go.Proofs.YtnefbeplgfdkkaaGreatDoor
/-
  The events that a tape can make; the facts of a draw.
-/
namespace Go.Proofs.YtnefbeplgfdkkaaGreatDoor
open Go.RowKit

/-! The events that a tape can make. -/
def jobs3 : List ByteArray := [⟨#[112, 97, 114, 116, 48]⟩, ⟨#[112, 97, 114, 116, 52]⟩, ⟨#[112, 97, 114, 116, 57]⟩]
def media2 : List ByteArray := [⟨#[109, 48]⟩, ⟨#[109, 49]⟩]
def wks3 : List ByteArray := [⟨#[119, 48]⟩, ⟨#[119, 49]⟩, ⟨#[119, 50]⟩]
def needs3 : List (List ByteArray) := [[], [⟨#[109, 48]⟩], [⟨#[109, 48]⟩, ⟨#[109, 49]⟩]]
def kinds17 : List Int := [1, 1, 2, 2, 3, 4, 4, 5, 6, 6, 6, 6, 7, 7, 7, 8, 9]
theorem kinds_cell (k : Nat) (hk : k < 17) : (#[.int .i64 1, .int .i64 1, .int .i64 2, .int .i64 2, .int .i64 3, .int .i64 4, .int .i64 4, .int .i64 5, .int .i64 6, .int .i64 6, .int .i64 6, .int .i64 6, .int .i64 7, .int .i64 7, .int .i64 7, .int .i64 8, .int .i64 9] : Array Value)[k]? = some (.int .i64 (kinds17.getD k 0)) := by
  have : ∀ j : Fin 17, (kinds17.map (Value.int .i64))[j.1]? = some (.int .i64 (kinds17.getD j.1 0)) := fun j => by
    have hj : j.1 < kinds17.length := j.2
    simp [hj]
  rw [show (#[.int .i64 1, .int .i64 1, .int .i64 2, .int .i64 2, .int .i64 3, .int .i64 4, .int .i64 4, .int .i64 5, .int .i64 6, .int .i64 6, .int .i64 6, .int .i64 6, .int .i64 7, .int .i64 7, .int .i64 7, .int .i64 8, .int .i64 9] : Array Value) = (kinds17.map (Value.int .i64)).toArray from rfl, List.getElem?_toArray]
  exact this ⟨k, hk⟩
structure GenEv (e : Ev) : Prop where
  ok : evOk e = true
  items : ItOk e.items
  media : e.kind = 2 → e.name ∈ media2
  worker : e.kind = 4 → e.worker ∈ wks3
  ticks : e.kind = 9 → e.ticks ≤ 12
  needs : e.kind = 1 → ∀ n ∈ e.needs, n ∈ media2
  ends : ∀ x ∈ e.items, x.flat[0]? = some (.int .i64 4)
  one_ : e.kind = 7 → e.items.length = 1
theorem kinds_mem (k : Nat) (hk : k < 17) : 1 ≤ kinds17.getD k 0 ∧ kinds17.getD k 0 ≤ 9 := by
  have : ∀ j : Fin 17, 1 ≤ kinds17.getD j 0 ∧ kinds17.getD j 0 ≤ 9 := by decide
  exact this ⟨k, hk⟩
/-- The facts of the region that draws a job, a medium and a worker. -/
def nameCalm (wr : World) (g M : Nat) : Calm where
  R := fun _ => Keep (one g)
  G := fun n y => Keep (one g) wr y ∧ TapeAt y g (M + n)
  eff := [0, 2, 4, 5, 7, 9, 10, 12, 14]
  T := fun k _ v y => if k = 0 then madeT wr.heap.size 9 #[.string ⟨#[112, 97, 114, 116, 48]⟩, .string ⟨#[112, 97, 114, 116, 52]⟩, .string ⟨#[112, 97, 114, 116, 57]⟩] (fun a => .slice (some a) 3 3) v y else if k = 2 then (∃ r : Nat, v = .int .i64 r ∧ r < 3) else if k = 4 then (∃ x, v = .string x ∧ x ∈ jobs3) else if k = 5 then madeT wr.heap.size 9 #[.string ⟨#[109, 48]⟩, .string ⟨#[109, 49]⟩] (fun a => .slice (some a) 2 2) v y else if k = 7 then (∃ r : Nat, v = .int .i64 r ∧ r < 2) else if k = 9 then (∃ x, v = .string x ∧ x ∈ media2) else if k = 10 then madeT wr.heap.size 9 #[.string ⟨#[119, 48]⟩, .string ⟨#[119, 49]⟩, .string ⟨#[119, 50]⟩] (fun a => .slice (some a) 3 3) v y else if k = 12 then (∃ r : Nat, v = .int .i64 r ∧ r < 3) else (∃ x, v = .string x ∧ x ∈ wks3)
  anc := fun k => if k = 3 ∨ k = 4 then [0, 2] else if k = 8 ∨ k = 9 then [5, 7] else if k = 13 ∨ k = 14 then [10, 12] else []
  own := fun _ _ _ => False
theorem nameCalm_good (wr : World) (g M : Nat) (hg : g < wr.heap.size) : (nameCalm wr g M).Good where
  mono := fun _ _ h => ⟨h.1, h.2.mono (by omega)⟩
  size := fun _ _ _ h => h.size
  stable := fun _ k _ v w1 w2 _ _ h hR => by
    have hS : ∀ b, one g b → b < wr.heap.size := fun b e => by cases e; exact hg
    simp only [nameCalm] at h ⊢
    by_cases e0 : k = 0
    · rw [if_pos e0] at h ⊢; exact h.stable hR hS
    rw [if_neg e0] at h ⊢
    by_cases e2 : k = 2
    · rw [if_pos e2] at h ⊢; exact h
    rw [if_neg e2] at h ⊢
    by_cases e4 : k = 4
    · rw [if_pos e4] at h ⊢; exact h
    rw [if_neg e4] at h ⊢
    by_cases e5 : k = 5
    · rw [if_pos e5] at h ⊢; exact h.stable hR hS
    rw [if_neg e5] at h ⊢
    by_cases e7 : k = 7
    · rw [if_pos e7] at h ⊢; exact h
    rw [if_neg e7] at h ⊢
    by_cases e9 : k = 9
    · rw [if_pos e9] at h ⊢; exact h
    rw [if_neg e9] at h ⊢
    by_cases e10 : k = 10
    · rw [if_pos e10] at h ⊢; exact h.stable hR hS
    rw [if_neg e10] at h ⊢
    by_cases e12 : k = 12
    · rw [if_pos e12] at h ⊢; exact h
    rw [if_neg e12] at h ⊢
    exact h

theorem nextN (g m k : Nat) (w : World) (ht : TapeAt w g m) (hk0 : 0 < k) (hk : k ≤ 1000) (hm : m ≤ 4503599627370496) : Calls Tryz.prog 8 #[.pointer (some ⟨g, 0, none⟩), .int .i64 k] w fun e w' => ∃ r : Nat, e = .returned (.int .i64 r) ∧ r < k ∧ TapeAt w' g (m + 1) ∧ Keep (one g) w w' := by
  refine (next_any g m k w ht (by omega) hm).mono ?_
  rintro e w' ⟨r, rfl, h1, -, ht', hk'⟩
  have h2 := h1 (by omega)
  obtain ⟨q, rfl⟩ : ∃ q : Nat, r = q := ⟨r.toNat, by omega⟩
  exact ⟨q, rfl, by omega, ht', hk'⟩
theorem next17 (g m b : Nat) (w : World) (ht : TapeAt w g m) (hm : m ≤ 4503599627370496) (hb : Blk w b 3 #[.int .i64 1, .int .i64 1, .int .i64 2, .int .i64 2, .int .i64 3, .int .i64 4, .int .i64 4, .int .i64 5, .int .i64 6, .int .i64 6, .int .i64 6, .int .i64 6, .int .i64 7, .int .i64 7, .int .i64 7, .int .i64 8, .int .i64 9]) (hbg : b ≠ g) : Calls Tryz.prog 8 #[.pointer (some ⟨g, 0, none⟩), .int .i64 17] w fun e w' => ∃ (r : Nat) (K : Int), e = .returned (.int .i64 r) ∧ r < 17 ∧ (r : Int) < 17 ∧ w'.cell? ⟨b, r, none⟩ = some (.int .i64 K) ∧ 1 ≤ K ∧ K ≤ 9 ∧ TapeAt w' g (m + 1) ∧ Keep (one g) w w' := by
  refine (next_any g m 17 w ht (by decide) hm).mono ?_
  rintro e w' ⟨r, rfl, h1, -, ht', k⟩
  have h2 := h1 (by decide)
  obtain ⟨q, rfl⟩ : ∃ q : Nat, r = q := ⟨r.toNat, by omega⟩
  have hq : q < 17 := by omega
  have hK := kinds_mem q hq
  refine ⟨q, kinds17.getD q 0, rfl, hq, by omega, ?_, hK.1, hK.2, ht', k⟩
  rw [(hb.keep k (fun e => hbg e)).cell]
  exact kinds_cell q hq

/-- An event in memory whose lists are of the call's own. -/
def EvOwn (w : World) (lo : Nat) (cs : List Value) (e : Ev) : Prop :=
  ∃ vn vi icss, cs = [.int .i64 e.kind, .string e.name, .string e.worker, vn, .int .i64 e.ticks, vi] ∧ w.ownsRow lo 9 1 vn e.needs.length (e.needs.map Value.string) ∧ w.ownsRow lo 72 148 vi e.items.length icss.flatten ∧ Flats icss e.items ∧ PlainI e.items
theorem own_far {w w' : World} {S : Nat → Prop} {base : Nat} {e : TypeId} {size : Nat} {v : Value} {n : Nat} {xs : List Value} (h : w.ownsRow base e size v n xs) (k : Keep S w w') (hS : ∀ b t cs, S b → base ≤ b → Blk w b t cs → t ≠ e) : w'.ownsRow base e size v n xs := by
  refine own_keep h k (fun b hb hs => ?_)
  rcases h.2 with ⟨rfl, -⟩ | ⟨g, cap, cur, rfl, e2, e3, r⟩
  · cases hb
  · simp only [Value.ownBlock, Option.some.injEq] at hb
    subst hb
    exact hS g _ _ hs e2 e3 rfl
theorem EvOwn.keep {w w' : World} {S : Nat → Prop} {lo : Nat} {cs : List Value} {e : Ev} (h : EvOwn w lo cs e) (k : Keep S w w') (hS : ∀ b t cs, S b → lo ≤ b → Blk w b t cs → t ≠ 9 ∧ t ≠ 72) : EvOwn w' lo cs e := by
  obtain ⟨vn, vi, icss, e1, h1, h2, h3⟩ := h
  exact ⟨vn, vi, icss, e1, own_far h1 k (fun b t cs a b c => (hS _ _ _ a b c).1), own_far h2 k (fun b t cs a b c => (hS _ _ _ a b c).2), h3⟩
theorem EvOwn.cs {w : World} {lo : Nat} {cs : List Value} {e : Ev} (h : EvOwn w lo cs e) : EvCs w none_ cs e := by
  obtain ⟨vn, vi, icss, e1, h1, h2, h3, h4⟩ := h
  obtain ⟨A, c, rfl, r⟩ := own_row (S := none_) h1 (fun _ _ e => e)
  obtain ⟨B, d, rfl, r2⟩ := own_row (S := none_) h2 (fun _ _ e => e)
  exact ⟨_, _, e1, ⟨_, _, _, rfl, r⟩, ElemsOf.of_row rfl h3.1 h3.len r2 (fun i cs x hi hx => (h3.2 i cs x hi hx).itm (h4 x (List.mem_of_getElem? hx)).1 (h4 x (List.mem_of_getElem? hx)).2)⟩
theorem All2.imp {α β : Type} {R R' : α → β → Prop} (hR : ∀ a b, R a b → R' a b) : ∀ {xs : List α} {ys : List β}, All2 R xs ys → All2 R' xs ys
  | [], [], _ => trivial
  | [], _ :: _, h => h.elim
  | _ :: _, [], h => h.elim
  | _ :: _, _ :: _, h => ⟨hR _ _ h.1, All2.imp hR h.2⟩
theorem All2.snoc {α β : Type} {R : α → β → Prop} {a : α} {b : β} (hab : R a b) : ∀ {xs : List α} {ys : List β}, All2 R xs ys → All2 R (xs ++ [a]) (ys ++ [b])
  | [], [], _ => ⟨hab, trivial⟩
  | [], _ :: _, h => h.elim
  | _ :: _, [], h => h.elim
  | _ :: _, _ :: _, h => ⟨h.1, All2.snoc hab h.2⟩
theorem EvOwn.plain (w : World) (lo : Nat) (k : Int) (x y : ByteArray) (t : Int) : EvOwn w lo [.int .i64 k, .string x, .string y, .slice none 0 0, .int .i64 t, .slice none 0 0] ⟨k, x, y, [], t, []⟩ := ⟨_, _, [], rfl, ⟨rfl, .inl ⟨rfl, rfl⟩⟩, ⟨rfl, .inl ⟨rfl, rfl⟩⟩, ⟨rfl, fun i cs x h => by simp at h⟩, fun _ h => (by cases h)⟩
theorem gen_name (k : Int) (x : ByteArray) (hk : k = 2 ∨ k = 3) (hx : x ∈ media2) : GenEv ⟨k, x, ⟨#[]⟩, [], 0, []⟩ := by
  unfold media2 at hx
  simp only [List.mem_cons, List.not_mem_nil, or_false] at hx
  rcases hk with rfl | rfl <;> rcases hx with rfl | rfl <;> exact ⟨by kernel_rfl, ItOk.nil, fun _ => by simp [media2], fun h => absurd (show _ = (4 : Int) from h) (by decide), fun h => absurd (show _ = (9 : Int) from h) (by decide), fun h => absurd (show _ = (1 : Int) from h) (by decide), (fun _ h => by cases h), fun h => absurd (show _ = (7 : Int) from h) (by decide)⟩
theorem gen_worker (k : Int) (x : ByteArray) (hk : k = 4 ∨ k = 5 ∨ k = 6) (hx : x ∈ wks3) : GenEv ⟨k, ⟨#[]⟩, x, [], 0, []⟩ := by
  have hx' := hx
  unfold wks3 at hx
  simp only [List.mem_cons, List.not_mem_nil, or_false] at hx
  rcases hk with rfl | rfl | rfl <;> rcases hx with rfl | rfl | rfl <;> exact ⟨by kernel_rfl, ItOk.nil, fun h => absurd (show _ = (2 : Int) from h) (by decide), fun _ => hx', fun h => absurd (show _ = (9 : Int) from h) (by decide), fun h => absurd (show _ = (1 : Int) from h) (by decide), (fun _ h => by cases h), fun h => absurd (show _ = (7 : Int) from h) (by decide)⟩
theorem gen_fail (x y : ByteArray) (hx : x ∈ jobs3) (hy : y ∈ wks3) : GenEv ⟨8, x, y, [], 0, []⟩ := by
  unfold jobs3 at hx
  unfold wks3 at hy
  simp only [List.mem_cons, List.not_mem_nil, or_false] at hx hy
  rcases hx with rfl | rfl | rfl <;> rcases hy with rfl | rfl | rfl <;> exact ⟨by kernel_rfl, ItOk.nil, fun h => absurd (show (8 : Int) = 2 from h) (by decide), fun h => absurd (show (8 : Int) = 4 from h) (by decide), fun h => absurd (show (8 : Int) = 9 from h) (by decide), fun h => absurd (show (8 : Int) = 1 from h) (by decide), (fun _ h => by cases h), fun h => absurd (show _ = (7 : Int) from h) (by decide)⟩
theorem gen_tick (r : Nat) (hr : r < 12) : GenEv ⟨9, ⟨#[]⟩, ⟨#[]⟩, [], 1 + r, []⟩ := by
  have : r = 0 ∨ r = 1 ∨ r = 2 ∨ r = 3 ∨ r = 4 ∨ r = 5 ∨ r = 6 ∨ r = 7 ∨ r = 8 ∨ r = 9 ∨ r = 10 ∨ r = 11 := by omega
  rcases this with rfl | rfl | rfl | rfl | rfl | rfl | rfl | rfl | rfl | rfl | rfl | rfl <;> exact ⟨by kernel_rfl, ItOk.nil, fun h => absurd (show (9 : Int) = 2 from h) (by decide), fun h => absurd (show (9 : Int) = 4 from h) (by decide), fun _ => by decide, fun h => absurd (show (9 : Int) = 1 from h) (by decide), (fun _ h => by cases h), fun h => absurd (show _ = (7 : Int) from h) (by decide)⟩
theorem needs3_media (ns : List ByteArray) (h : ns ∈ needs3) : ∀ n ∈ ns, n ∈ media2 := by
  unfold needs3 at h
  simp only [List.mem_cons, List.not_mem_nil, or_false] at h
  unfold media2
  rcases h with rfl | rfl | rfl <;> intro n hn
  · cases hn
  · simp at hn; simp [hn]
  · exact hn
theorem gen_submit (x : ByteArray) (ns : List ByteArray) (hx : x ∈ jobs3) (hn : ns ∈ needs3) : GenEv ⟨1, x, ⟨#[]⟩, ns, 0, []⟩ := by
  have hm := needs3_media ns hn
  unfold jobs3 at hx
  unfold needs3 at hn
  simp only [List.mem_cons, List.not_mem_nil, or_false] at hx hn
  rcases hx with rfl | rfl | rfl <;> rcases hn with rfl | rfl | rfl <;> exact ⟨by kernel_rfl, ItOk.nil, fun h => absurd (show (1 : Int) = 2 from h) (by decide), fun h => absurd (show (1 : Int) = 4 from h) (by decide), fun h => absurd (show (1 : Int) = 9 from h) (by decide), fun _ => hm, (fun _ h => by cases h), fun h => absurd (show _ = (7 : Int) from h) (by decide)⟩
theorem gen_finish (x y : ByteArray) (it : Itm) (hx : x ∈ jobs3) (hy : y ∈ wks3) (hi : it.user = [] ∧ it.slices = []) (h4 : it.flat[0]? = some (.int .i64 4)) : GenEv ⟨7, x, y, [], 0, [it]⟩ := by
  have hit : ItOk [it] := ⟨fun z hz => by simp at hz; rw [hz]; exact hi, by simp⟩
  unfold jobs3 at hx
  unfold wks3 at hy
  simp only [List.mem_cons, List.not_mem_nil, or_false] at hx hy
  rcases hx with rfl | rfl | rfl <;> rcases hy with rfl | rfl | rfl <;> exact ⟨by kernel_rfl, hit, fun h => absurd (show (7 : Int) = 2 from h) (by decide), fun h => absurd (show (7 : Int) = 4 from h) (by decide), fun h => absurd (show (7 : Int) = 9 from h) (by decide), fun h => absurd (show (7 : Int) = 1 from h) (by decide), (fun z hz => by simp at hz; rw [hz]; exact h4), fun _ => rfl⟩

/-- The facts of the region that draws what a job needs; operation 9 stores the job's name (x) into the event's block bt. -/
def gbt (g bt : Nat) : Nat → Prop := fun z => z = g ∨ z = bt
def evC (c1 : Value) : Array Value := #[.int .i64 1, c1, .string ⟨#[]⟩, .slice none 0 0, .int .i64 0, .slice none 0 0]
def subCalm (wr : World) (g M bt : Nat) (x : Value) : Calm where
  R := fun i a b => Keep (gbt g bt) a b ∧ (i ≠ 9 → Keep (one g) a b)
  G := fun n y => Keep (gbt g bt) wr y ∧ TapeAt y g (M + n) ∧ ∃ c1, Blk y bt 78 (evC c1)
  eff := [1, 2, 3, 5, 7, 9]
  T := fun k vs v y => if k = 1 then madeT wr.heap.size 9 #[.string ⟨#[109, 48]⟩] (fun a => .slice (some a) 1 1) v y else if k = 2 then madeT wr.heap.size 9 #[.string ⟨#[109, 48]⟩, .string ⟨#[109, 49]⟩] (fun a => .slice (some a) 2 2) v y else if k = 3 then madeT wr.heap.size 44 #[.slice none 0 0, vs.getD 0 undef, vs.getD 1 undef] (fun a => .slice (some a) 3 3) v y else if k = 5 then (∃ r : Nat, v = .int .i64 r ∧ r < 3) else if k = 7 then (∃ ns, ns ∈ needs3 ∧ y.ownsRow wr.heap.size 9 1 v ns.length (ns.map Value.string)) else Blk y bt 78 (evC x)
  anc := fun k => if k = 3 then [1, 2] else if k = 6 ∨ k = 7 then [3, 5, 1, 2] else []
  own := fun _ _ _ => False
theorem subCalm_good (wr : World) (g M bt : Nat) (x : Value) (hg : g < wr.heap.size) (hb : bt < wr.heap.size) (hgb : g ≠ bt) : (subCalm wr g M bt x).Good where
  mono := fun _ _ h => ⟨h.1, h.2.1.mono (by omega), h.2.2⟩
  size := fun _ _ _ h => h.1.size
  stable := fun i k _ v w1 w2 he hne h hR => by
    have hS : ∀ b, gbt g bt b → b < wr.heap.size := fun b e => by rcases e with rfl | rfl <;> assumption
    simp only [subCalm] at h hR ⊢
    by_cases e1 : k = 1
    · rw [if_pos e1] at h ⊢; exact h.stable hR.1 hS
    rw [if_neg e1] at h ⊢
    by_cases e2 : k = 2
    · rw [if_pos e2] at h ⊢; exact h.stable hR.1 hS
    rw [if_neg e2] at h ⊢
    by_cases e3 : k = 3
    · rw [if_pos e3] at h ⊢; exact h.stable hR.1 hS
    rw [if_neg e3] at h ⊢
    by_cases e5 : k = 5
    · rw [if_pos e5] at h ⊢; exact h
    rw [if_neg e5] at h ⊢
    by_cases e7 : k = 7
    · rw [if_pos e7] at h ⊢
      obtain ⟨ns, hn, ho⟩ := h
      exact ⟨ns, hn, own_keep ho hR.1 (fun b hb' e => by have := own_ge ho _ hb'; have := hS b e; omega)⟩
    rw [if_neg e7] at h ⊢
    have e9 : k = 9 := by simpa [subCalm, e1, e2, e3, e5, e7] using he
    exact Blk.keep h (hR.2 (by omega)) (fun e => hgb e.symm)
theorem own_blk {w : World} {lo b n : Nat} {t : TypeId} {cs : Array Value} (hb : Blk w b t cs) (hlo : lo ≤ b) (hn : cs.size = n) (h64 : n ≤ 64) : w.ownsRow lo t 1 (.slice (some ⟨b, 0, none⟩) n n) n cs.toList :=
  ⟨by simp [hn], .inr ⟨b, n, cs, rfl, hlo, hb, Nat.le_refl _, by unfold maxLen; omega, by omega, by rw [List.take_of_length_le (by simp [hn])]⟩⟩
end Go.Proofs.YtnefbeplgfdkkaaGreatDoor
