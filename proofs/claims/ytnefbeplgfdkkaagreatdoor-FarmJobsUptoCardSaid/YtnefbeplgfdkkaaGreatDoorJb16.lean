/-
  slices.BinarySearch at strings.
-/
import Derived.Test.YtnefbeplgfdkkaaGreatDoorJb04
import Derived.Test.YtnefbeplgfdkkaaGreatDoorJb05
namespace Go.Proofs.YtnefbeplgfdkkaaGreatDoor
open Go.RowKit

theorem cmpNaN_any (x : ByteArray) (w : World) : Calls Tryz.prog 139 #[.string x] w fun e w' => e = .returned (.bool false) ∧ w = w' := by
  go_enter Tryz.func139, Tryz.ntmps139
  go_wp2
  go_ret
  exact ⟨by simp, rfl⟩
theorem slNaN_any (x : ByteArray) (w : World) : Calls Tryz.prog 124 #[.string x] w fun e w' => e = .returned (.bool false) ∧ w = w' := by
  go_enter Tryz.func124, Tryz.ntmps124
  go_wp2
  go_ret
  exact ⟨by simp, rfl⟩
theorem cmpLess_any (x y : ByteArray) (w : World) : Calls Tryz.prog 115 #[.string x, .string y] w fun e w' => e = .returned (.bool (strLt x y)) ∧ w = w' := by
  go_enter Tryz.func115, Tryz.ntmps115
  go_wp2_with (go_at_call 139; refine (cmpNaN_any _ _).mono ?_; rintro e w' ⟨rfl, rfl⟩)
  go_ret
  exact ⟨rfl, rfl⟩

/-- The names before position p are smaller than x, those from p on are not. -/
def Pos (l : List ByteArray) (x : ByteArray) (p : Nat) : Prop := p ≤ l.length ∧ (∀ j, j < p → strLt (l.getD j .empty) x = true) ∧ ∀ j, p ≤ j → j < l.length → strLt (l.getD j .empty) x = false
def Mono (l : List ByteArray) (x : ByteArray) : Prop := ∀ i j, i ≤ j → j < l.length → strLt (l.getD j .empty) x = true → strLt (l.getD i .empty) x = true

set_option maxHeartbeats 1000000 in
theorem search_any (l : List ByteArray) (x : ByteArray) (A : Option Addr) (n c : Nat) (S : Nat → Prop) (w : World) (h : Row w S 1 A n c (l.map Value.string)) (hm : Mono l x) (hsm : l.length ≤ 64) :
    Calls Tryz.prog 96 #[.slice A n c, .string x] w fun e w' =>
      ∃ p, Pos l x p ∧ e = .returned (.tuple #[.int .i64 (p : Nat), .bool (decide (p < l.length) && strEq (l.getD p .empty) x)]) ∧ Keep none_ w w' := by
  have hl : l.length = n := by have := h.len; simp at this; omega
  have hcap := h.cap
  have hle := h.le
  unfold maxLen at hcap
  have hn64 : n ≤ 64 := by omega
  clear hsm
  have HL := Lib.hid hl
  have HR := Lib.hid h
  have HM := Lib.hid hm
  clear hl h hm
  go_enter Tryz.func96, Tryz.ntmps96
  go_wp2
  go_loopw [7, 8] (fun s7 s8 wr => ∃ lo hi : Nat, s7 = .int .i64 lo ∧ s8 = .int .i64 hi ∧ lo ≤ hi ∧ hi ≤ n ∧ (∀ j, j < lo → strLt (l.getD j .empty) x = true) ∧ (∀ j, hi ≤ j → j < n → strLt (l.getD j .empty) x = false) ∧ Keep none_ w wr) (fun s7 s8 _ => (intOf s8).toNat - (intOf s7).toNat)
  case atStart => exact ⟨0, n, rfl, rfl, Nat.zero_le _, Nat.le_refl _, fun j h => by omega, fun j h h' => by omega, Keep.refl _ _⟩
  case round =>
    obtain ⟨lo, hi, rfl, rfl, hlh, hin, ha, hb, hkr⟩ := hrel
    have HA := Lib.hid ha
    have HB := Lib.hid hb
    clear ha hb
    by_cases hlt : lo < hi
    · have hlt' : (lo : Int) < hi := by omega
      obtain ⟨b, o, rfl, -, hc⟩ := HR.out.strs (by omega)
      have cm := hkr.cell (hc ((lo + hi) / 2) (by omega)) (fun e => e)
      obtain ⟨m, hmid⟩ : ∃ m, m = (lo + hi) / 2 := ⟨_, rfl⟩
      have hmm : ((lo : Int) + hi) / 2 = (m : Nat) := by omega
      rw [← hmid] at cm
      have b1 : lo ≤ m := by omega
      have b2 : m < hi := by omega
      have b3 : ∀ y, l.getD m .empty = y → strLt y x = true → ∀ j, j < m + 1 → strLt (l.getD j .empty) x = true := fun y hy hyx j hj => HM.out j m (by omega) (by rw [HL.out]; omega) (by rw [hy]; exact hyx)
      have b4 : ∀ y, l.getD m .empty = y → strLt y x = false → ∀ j, m ≤ j → j < n → strLt (l.getD j .empty) x = false := fun y hy hyx j hj hjn => by
        cases hq : strLt (l.getD j .empty) x with
        | false => rfl
        | true =>
          have := HM.out m j hj (by rw [HL.out]; exact hjn) hq
          rw [hy, hyx] at this
          exact absurd this (by decide)
      obtain ⟨y, hy⟩ : ∃ y, l.getD m .empty = y := ⟨_, rfl⟩
      have B3 := Lib.hid (b3 y hy)
      have B4 := Lib.hid (b4 y hy)
      rw [hy] at cm
      clear hc b3 b4 hy hmid
      cases hyx : strLt y x with
      | true =>
        have N3 := Lib.hid (B3.out hyx)
        clear B3 B4
        go_wp2_with (go_at_call 115; refine (cmpLess_any _ _ _).mono ?_; rintro e w' ⟨rfl, rfl⟩)
        go_roundw
        case rel => exact ⟨m + 1, hi, by go_num, rfl, by omega, hin, N3.out, HB.out, hkr⟩
        case measure => simp [intOf]; omega
      | false =>
        have N4 := Lib.hid (B4.out hyx)
        clear B3 B4
        go_wp2_with (go_at_call 115; refine (cmpLess_any _ _ _).mono ?_; rintro e w' ⟨rfl, rfl⟩)
        go_roundw
        case rel => exact ⟨lo, m, rfl, by go_num, by omega, by omega, HA.out, N4.out, hkr⟩
        case measure => simp [intOf]; omega
    · obtain rfl : hi = lo := by omega
      have POS := Lib.hid (show Pos l x hi from ⟨by rw [HL.out]; exact hin, HA.out, by rw [HL.out]; exact HB.out⟩)
      by_cases hn : hi < n
      · have hn' : (hi : Int) < n := by omega
        obtain ⟨b, o, rfl, -, hc⟩ := HR.out.strs (by omega)
        have cm := hkr.cell (hc hi hn) (fun e => e)
        obtain ⟨y, hy⟩ : ∃ y, l.getD hi .empty = y := ⟨_, rfl⟩
        rw [hy] at cm
        have ANS := Lib.hid (show (decide (hi < l.length) && strEq (l.getD hi .empty) x) = strEq y x by rw [HL.out, decide_eq_true hn, hy]; rfl)
        clear hc hy
        cases hyx : strEq y x with
        | true =>
          have hyx' : (y.toList == x.toList) = true := hyx
          go_wp2_with (go_at_call 124; refine (slNaN_any _ _).mono ?_; rintro e w' ⟨rfl, rfl⟩)
          go_ret2
          exact ⟨hi, POS.out, by rw [ANS.out, hyx]; rfl, hkr⟩
        | false =>
          have hyx' : (y.toList == x.toList) = false := hyx
          go_wp2_with (go_at_call 124; refine (slNaN_any _ _).mono ?_; rintro e w' ⟨rfl, rfl⟩)
          go_ret2
          exact ⟨hi, POS.out, by rw [ANS.out, hyx]; rfl, hkr⟩
      · have hn' : ¬ (hi : Int) < n := by omega
        have ans : (decide (hi < l.length) && strEq (l.getD hi .empty) x) = false := by rw [HL.out, decide_eq_false hn]; rfl
        have ANS := Lib.hid ans
        clear ans
        go_wp2
        go_ret2
        exact ⟨hi, POS.out, congrArg (fun b => Ending.returned (.tuple #[.int .i64 (hi : Nat), .bool b])) ANS.out.symm, hkr⟩
end Go.Proofs.YtnefbeplgfdkkaaGreatDoor
/-
  The order of strings; names in ascending order. No program here.
-/
namespace Go.Proofs.YtnefbeplgfdkkaaGreatDoor
open Go.RowKit

theorem bl_irrefl : ∀ a : List UInt8, Op.bytesLess a a = false
  | [] => rfl
  | x :: a => by simp [Op.bytesLess, bl_irrefl a]
theorem bl_trans : ∀ a b c : List UInt8, Op.bytesLess a b = true → Op.bytesLess b c = true → Op.bytesLess a c = true
  | _, [], _, h, _ => by simp [Op.bytesLess] at h
  | _, _ :: _, [], _, h => by simp [Op.bytesLess] at h
  | [], _ :: _, _ :: _, _, _ => rfl
  | x :: a, y :: b, z :: c, h1, h2 => by
    simp only [Op.bytesLess, Bool.or_eq_true, decide_eq_true_eq, Bool.and_eq_true, beq_iff_eq] at h1 h2 ⊢
    rcases h1 with h1 | ⟨rfl, h1⟩ <;> rcases h2 with h2 | ⟨rfl, h2⟩
    · exact .inl (UInt8.lt_trans h1 h2)
    · exact .inl h1
    · exact .inl h2
    · exact .inr ⟨rfl, bl_trans a b c h1 h2⟩
theorem bl_total : ∀ a b : List UInt8, Op.bytesLess a b = false → a ≠ b → Op.bytesLess b a = true
  | [], [], _, h => absurd rfl h
  | _ :: _, [], _, _ => rfl
  | [], _ :: _, h, _ => by simp [Op.bytesLess] at h
  | x :: a, y :: b, h, hne => by
    simp only [Op.bytesLess, Bool.or_eq_false_iff, decide_eq_false_iff_not, Bool.and_eq_false_imp, beq_iff_eq] at h
    simp only [Op.bytesLess, Bool.or_eq_true, decide_eq_true_eq, Bool.and_eq_true, beq_iff_eq]
    by_cases hxy : x = y
    · subst hxy
      exact .inr ⟨rfl, bl_total a b (h.2 rfl) (fun e => hne (by rw [e]))⟩
    · refine .inl ?_
      have h1 : ¬ x.toNat < y.toNat := fun e => h.1 (UInt8.lt_iff_toNat_lt.2 e)
      have h2 : x.toNat ≠ y.toNat := fun e => hxy (UInt8.toNat_inj.1 e)
      exact UInt8.lt_iff_toNat_lt.2 (by omega)
theorem strEq_refl (a : ByteArray) : strEq a a = true := strEq_iff.2 rfl
theorem strEq_false {a b : ByteArray} : strEq a b = false ↔ a ≠ b := by
  rw [Ne, ← strEq_iff]
  simp
theorem strLt_irrefl (a : ByteArray) : strLt a a = false := bl_irrefl _
theorem strLt_trans {a b c : ByteArray} (h : strLt a b = true) (h' : strLt b c = true) : strLt a c = true := bl_trans _ _ _ h h'
theorem strLe_false {a b : ByteArray} (h : strLe a b = false) : strLt b a = true := by
  unfold strLe at h
  rw [Bool.or_eq_false_iff] at h
  exact bl_total _ _ h.1 (by simpa using h.2)
theorem strLe_of_lt {a b : ByteArray} (h : strLt b a = true) : strLe a b = false := by
  unfold strLe
  rw [Bool.or_eq_false_iff]
  refine ⟨?_, ?_⟩
  · cases hq : Op.bytesLess a.toList b.toList with
    | false => rfl
    | true =>
      have := bl_trans _ _ _ hq h
      rw [bl_irrefl] at this
      exact absurd this (by decide)
  · rw [beq_eq_false_iff_ne]
    intro e
    unfold strLt at h
    rw [e, bl_irrefl] at h
    exact absurd h (by decide)

/-- Strictly ascending. -/
def Asc (l : List ByteArray) : Prop := ∀ i j, i < j → j < l.length → strLt (l.getD i .empty) (l.getD j .empty) = true
theorem Asc.of_next {l : List ByteArray} (h : ∀ k, 0 < k → k < l.length → strLt (l.getD (k - 1) .empty) (l.getD k .empty) = true) : Asc l := by
  intro i j hij hj
  induction j with
  | zero => omega
  | succ j ih =>
    have := h (j + 1) (by omega) hj
    rw [Nat.add_sub_cancel] at this
    by_cases e : i = j
    · rw [e]; exact this
    · exact strLt_trans (ih (by omega) (by omega)) this
theorem goodAt_iff (l : List ByteArray) (k : Nat) : goodAt l k = true ↔ nameOk (l.getD k .empty) = true ∧ (0 < k → strLt (l.getD (k - 1) .empty) (l.getD k .empty) = true) := by
  unfold goodAt
  rw [Bool.and_eq_true, Bool.or_eq_true, beq_iff_eq, Bool.not_eq_true']
  constructor
  · rintro ⟨h1, h2⟩
    refine ⟨h1, fun hk => ?_⟩
    rcases h2 with h2 | h2
    · omega
    · exact strLe_false h2
  · rintro ⟨h1, h2⟩
    refine ⟨h1, ?_⟩
    by_cases hk : k = 0
    · exact .inl hk
    · exact .inr (strLe_of_lt (h2 (by omega)))
theorem namesOk_iff (l : List ByteArray) : namesOk l = true ↔ (∀ x ∈ l, nameOk x = true) ∧ Asc l ∧ l.length ≤ 16 := by
  unfold namesOk
  rw [Bool.and_eq_true, decide_eq_true_eq, List.all_eq_true]
  constructor
  · rintro ⟨h1, h2⟩
    refine ⟨fun x hx => ?_, Asc.of_next fun k hk hl => ((goodAt_iff l k).1 (h1 k (by simpa using hl))).2 hk, h2⟩
    obtain ⟨k, hk, rfl⟩ := List.mem_iff_getElem.1 hx
    have := ((goodAt_iff l k).1 (h1 k (by simpa using hk))).1
    simpa [hk] using this
  · rintro ⟨h1, h2, h3⟩
    refine ⟨fun k hk => ?_, h3⟩
    rw [List.mem_range] at hk
    refine (goodAt_iff l k).2 ⟨h1 _ ?_, fun h0 => h2 _ _ (by omega) hk⟩
    simp [hk]
theorem Asc.mono {l : List ByteArray} (h : Asc l) (x : ByteArray) : Mono l x := by
  intro i j hij hj hx
  by_cases e : i = j
  · rw [e]; exact hx
  · exact strLt_trans (h i j (by omega) hj) hx
theorem Pos.found {l : List ByteArray} {x : ByteArray} {p : Nat} (h : Pos l x p) (ha : Asc l) : (decide (p < l.length) && strEq (l.getD p .empty) x) = l.any (fun y => strEq y x) := by
  rw [Bool.eq_iff_iff, Bool.and_eq_true, decide_eq_true_eq, List.any_eq_true]
  constructor
  · rintro ⟨h1, h2⟩
    refine ⟨_, ?_, h2⟩
    simp [h1]
  · rintro ⟨y, hy, hyx⟩
    obtain ⟨j, hj, rfl⟩ := List.mem_iff_getElem.1 hy
    have hjx : l.getD j .empty = x := by rw [strEq_iff] at hyx; simpa [hj] using hyx
    have h1 : ¬ j < p := fun e => by
      have := h.2.1 j e
      rw [hjx, strLt_irrefl] at this
      exact absurd this (by decide)
    have h2 : ¬ p < j := fun e => by
      have := ha p j e hj
      rw [hjx, h.2.2 p (Nat.le_refl _) (by omega)] at this
      exact absurd this (by decide)
    obtain rfl : j = p := by omega
    exact ⟨hj, by rw [hjx]; exact strEq_refl _⟩
/-- Where x has its place. -/
def place (l : List ByteArray) (x : ByteArray) : Nat := (l.takeWhile (fun y => strLt y x)).length
theorem Pos.place : ∀ {l : List ByteArray} {x : ByteArray} {p : Nat}, Pos l x p → p = place l x
  | [], x, p, h => by have := h.1; simp at this; subst this; rfl
  | y :: l, x, 0, h => by
    have := h.2.2 0 (Nat.le_refl _) (by simp)
    simp only [List.getD_cons_zero] at this
    simp [Proofs.YtnefbeplgfdkkaaGreatDoor.place, List.takeWhile, this]
  | y :: l, x, p + 1, h => by
    have h0 := h.2.1 0 (by omega)
    simp only [List.getD_cons_zero] at h0
    have : Pos l x p := ⟨by have := h.1; simp at this; omega, fun j hj => by have := h.2.1 (j + 1) (by omega); simpa using this, fun j hj hl => by have := h.2.2 (j + 1) (by omega) (by simp; omega); simpa using this⟩
    rw [this.place]
    simp [Proofs.YtnefbeplgfdkkaaGreatDoor.place, List.takeWhile, h0]
theorem place_le (l : List ByteArray) (x : ByteArray) : place l x ≤ l.length := (List.takeWhile_sublist _).length_le
end Go.Proofs.YtnefbeplgfdkkaaGreatDoor
/-
  (State).present: are all of these media there?
-/
namespace Go.Proofs.YtnefbeplgfdkkaaGreatDoor
open Go.RowKit

def hasAll (l needs : List ByteArray) : Bool := needs.all fun x => l.any fun y => strEq y x

set_option maxHeartbeats 1000000 in
theorem present_any (now : Int) (l needs : List ByteArray) (A B : Option Addr) (n c m d : Nat) (vj vw : Value) (w : World) (h : Row w none_ 1 A n c (l.map Value.string)) (h2 : Row w none_ 1 B m d (needs.map Value.string)) (ha : Asc l) (hs : l.length ≤ 64) :
    Calls Tryz.prog 70 #[.agg #[.int .i64 now, .slice A n c, vj, vw], .slice B m d] w fun e w' => e = .returned (.bool (hasAll l needs)) ∧ Keep none_ w w' := by
  have hl : needs.length = m := by have := h2.len; simp at this; omega
  have q1 := h2.cap
  have q2 := h2.le
  unfold maxLen at q1
  have HL := Lib.hid hl
  have HR := Lib.hid h
  have H2 := Lib.hid h2
  have HA := Lib.hid ha
  have HS := Lib.hid hs
  clear hl h h2 ha hs
  obtain ⟨W0, hW0⟩ : ∃ W0, W0 = w.alloc (.cells #[.int .i64 now, .slice A n c, vj, vw] 48) := ⟨_, rfl⟩
  have b0 : Blk W0 w.heap.size 48 #[.int .i64 now, .slice A n c, vj, vw] := hW0 ▸ Blk.new _ _ _
  have k0 : Keep none_ w W0 := hW0 ▸ (Keep.refl _ _).alloc _
  go_enter Tryz.func70, Tryz.ntmps70
  go_wp2
  rw [← hW0]
  clear hW0
  go_loopw [11] (fun i wr => ∃ k : Nat, k ≤ m ∧ i = .int .i64 k ∧ hasAll l (needs.take k) = true ∧ Keep none_ W0 wr) (fun i _ => m - (intOf i).toNat)
  case atStart => exact ⟨0, Nat.zero_le _, rfl, rfl, Keep.refl _ _⟩
  case round =>
    obtain ⟨k, hk, rfl, hall, hkr⟩ := hrel
    have ALL := Lib.hid hall
    clear hall
    have kw := k0.trans hkr
    by_cases hlt : k < m
    · have hlt' : (k : Int) < m := by omega
      obtain ⟨b, o, rfl, -, hc⟩ := H2.out.strs (by omega)
      have y1 := kw.cell (hc k hlt) (fun e => e)
      have y2 := (b0.keep hkr (fun e => e)).cell 1
      simp only [List.getElem?_toArray, List.getElem?_cons_zero, List.getElem?_cons_succ] at y2
      have hkl : k < needs.length := by rw [HL.out]; exact hlt
      have nx : hasAll l (needs.take (k + 1)) = l.any (fun y => strEq y (needs.getD k .empty)) := by
        have h1 := ALL.out
        unfold hasAll at h1 ⊢
        rw [List.take_succ_eq_append_getElem hkl, List.all_append, h1]
        simp [hkl]
      have no : hasAll l (needs.take (k + 1)) = false → hasAll l needs = false := fun h => all_part _ _ _ h
      have NX := Lib.hid nx
      have NO := Lib.hid no
      obtain ⟨x, hx⟩ : ∃ x, needs.getD k .empty = x := ⟨_, rfl⟩
      rw [hx] at y1 NX
      have SE := Lib.hid (search_any l x A n c none_ wr (HR.out.keep kw) (HA.out.mono x) HS.out)
      clear hc nx no hkl hx
      cases hf : l.any (fun y => strEq y x) with
      | true =>
        rw [hf] at NX
        have FD := Lib.hid (show ∀ p, Pos l x p → (decide (p < l.length) && strEq (l.getD p .empty) x) = true from fun p hp => by rw [hp.found HA.out]; exact hf)
        clear hf
        have t1 : True := trivial
        go_wp2_with (have _t := t1; go_at_call 96; refine SE.out.mono ?_; rintro e w5 ⟨p, hp, rfl, k5⟩; rw [FD.out p hp]; have k6 := Lib.hid k5; clear k5 hp _t t1)
        go_roundw
        case rel => exact ⟨k + 1, by omega, by go_num, NX.out, hkr.trans k6.out⟩
        case measure => simp [intOf]; omega
      | false =>
        rw [hf] at NX
        have FD := Lib.hid (show ∀ p, Pos l x p → (decide (p < l.length) && strEq (l.getD p .empty) x) = false from fun p hp => by rw [hp.found HA.out]; exact hf)
        clear hf
        have t1 : True := trivial
        go_wp2_with (have _t := t1; go_at_call 96; refine SE.out.mono ?_; rintro e w5 ⟨p, hp, rfl, k5⟩; rw [FD.out p hp]; have k6 := Lib.hid k5; clear k5 hp _t t1)
        go_ret
        exact ⟨ret_bool (NO.out NX.out).symm, kw.trans k6.out⟩
    · obtain rfl : k = m := by omega
      have ANS := Lib.hid (show hasAll l needs = true by have := ALL.out; rw [List.take_of_length_le (by rw [HL.out]; exact Nat.le_refl _)] at this; exact this)
      go_wp2
      go_ret
      exact ⟨ret_bool ANS.out.symm, kw⟩
end Go.Proofs.YtnefbeplgfdkkaaGreatDoor
