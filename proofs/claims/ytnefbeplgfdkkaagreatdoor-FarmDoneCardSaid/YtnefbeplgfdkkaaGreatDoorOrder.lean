/-
  The order of strings; names in ascending order. No program here.
-/
import Derived.Test.YtnefbeplgfdkkaaGreatDoorSearch
namespace Go.Proofs.YtnefbeplgfdkkaaGreatDoor
open Go.RowKit

theorem bl_irrefl : ∀ a : List UInt8, Op.bytesLess a a = false
  | [] => rfl
  | x :: a => by simp [Op.bytesLess, bl_irrefl a]
theorem bl_trans : ∀ a b c : List UInt8, Op.bytesLess a b = true → Op.bytesLess b c = true → Op.bytesLess a c = true
  | _, [], _, h, _ => by simp [Op.bytesLess] at h
  | _, _ :: _, [], _, h => by simp [Op.bytesLess] at h
  | [], _ :: _, _ :: _, _, _ => rfl
  | x :: a, y :: b, z :: c, h1, h2 => by
    simp only [Op.bytesLess, Bool.or_eq_true, decide_eq_true_eq, Bool.and_eq_true, beq_iff_eq] at h1 h2 ⊢
    rcases h1 with h1 | ⟨rfl, h1⟩ <;> rcases h2 with h2 | ⟨rfl, h2⟩
    · exact .inl (UInt8.lt_trans h1 h2)
    · exact .inl h1
    · exact .inl h2
    · exact .inr ⟨rfl, bl_trans a b c h1 h2⟩
theorem bl_total : ∀ a b : List UInt8, Op.bytesLess a b = false → a ≠ b → Op.bytesLess b a = true
  | [], [], _, h => absurd rfl h
  | _ :: _, [], _, _ => rfl
  | [], _ :: _, h, _ => by simp [Op.bytesLess] at h
  | x :: a, y :: b, h, hne => by
    simp only [Op.bytesLess, Bool.or_eq_false_iff, decide_eq_false_iff_not, Bool.and_eq_false_imp, beq_iff_eq] at h
    simp only [Op.bytesLess, Bool.or_eq_true, decide_eq_true_eq, Bool.and_eq_true, beq_iff_eq]
    by_cases hxy : x = y
    · subst hxy
      exact .inr ⟨rfl, bl_total a b (h.2 rfl) (fun e => hne (by rw [e]))⟩
    · refine .inl ?_
      have h1 : ¬ x.toNat < y.toNat := fun e => h.1 (UInt8.lt_iff_toNat_lt.2 e)
      have h2 : x.toNat ≠ y.toNat := fun e => hxy (UInt8.toNat_inj.1 e)
      exact UInt8.lt_iff_toNat_lt.2 (by omega)
theorem strEq_refl (a : ByteArray) : strEq a a = true := strEq_iff.2 rfl
theorem strEq_false {a b : ByteArray} : strEq a b = false ↔ a ≠ b := by
  rw [Ne, ← strEq_iff]
  simp
theorem strLt_irrefl (a : ByteArray) : strLt a a = false := bl_irrefl _
theorem strLt_trans {a b c : ByteArray} (h : strLt a b = true) (h' : strLt b c = true) : strLt a c = true := bl_trans _ _ _ h h'
theorem strLe_false {a b : ByteArray} (h : strLe a b = false) : strLt b a = true := by
  unfold strLe at h
  rw [Bool.or_eq_false_iff] at h
  exact bl_total _ _ h.1 (by simpa using h.2)
theorem strLe_of_lt {a b : ByteArray} (h : strLt b a = true) : strLe a b = false := by
  unfold strLe
  rw [Bool.or_eq_false_iff]
  refine ⟨?_, ?_⟩
  · cases hq : Op.bytesLess a.toList b.toList with
    | false => rfl
    | true =>
      have := bl_trans _ _ _ hq h
      rw [bl_irrefl] at this
      exact absurd this (by decide)
  · rw [beq_eq_false_iff_ne]
    intro e
    unfold strLt at h
    rw [e, bl_irrefl] at h
    exact absurd h (by decide)

/-- Strictly ascending. -/
def Asc (l : List ByteArray) : Prop := ∀ i j, i < j → j < l.length → strLt (l.getD i .empty) (l.getD j .empty) = true
theorem Asc.of_next {l : List ByteArray} (h : ∀ k, 0 < k → k < l.length → strLt (l.getD (k - 1) .empty) (l.getD k .empty) = true) : Asc l := by
  intro i j hij hj
  induction j with
  | zero => omega
  | succ j ih =>
    have := h (j + 1) (by omega) hj
    rw [Nat.add_sub_cancel] at this
    by_cases e : i = j
    · rw [e]; exact this
    · exact strLt_trans (ih (by omega) (by omega)) this
theorem goodAt_iff (l : List ByteArray) (k : Nat) : goodAt l k = true ↔ nameOk (l.getD k .empty) = true ∧ (0 < k → strLt (l.getD (k - 1) .empty) (l.getD k .empty) = true) := by
  unfold goodAt
  rw [Bool.and_eq_true, Bool.or_eq_true, beq_iff_eq, Bool.not_eq_true']
  constructor
  · rintro ⟨h1, h2⟩
    refine ⟨h1, fun hk => ?_⟩
    rcases h2 with h2 | h2
    · omega
    · exact strLe_false h2
  · rintro ⟨h1, h2⟩
    refine ⟨h1, ?_⟩
    by_cases hk : k = 0
    · exact .inl hk
    · exact .inr (strLe_of_lt (h2 (by omega)))
theorem namesOk_iff (l : List ByteArray) : namesOk l = true ↔ (∀ x ∈ l, nameOk x = true) ∧ Asc l ∧ l.length ≤ 16 := by
  unfold namesOk
  rw [Bool.and_eq_true, decide_eq_true_eq, List.all_eq_true]
  constructor
  · rintro ⟨h1, h2⟩
    refine ⟨fun x hx => ?_, Asc.of_next fun k hk hl => ((goodAt_iff l k).1 (h1 k (by simpa using hl))).2 hk, h2⟩
    obtain ⟨k, hk, rfl⟩ := List.mem_iff_getElem.1 hx
    have := ((goodAt_iff l k).1 (h1 k (by simpa using hk))).1
    simpa [hk] using this
  · rintro ⟨h1, h2, h3⟩
    refine ⟨fun k hk => ?_, h3⟩
    rw [List.mem_range] at hk
    refine (goodAt_iff l k).2 ⟨h1 _ ?_, fun h0 => h2 _ _ (by omega) hk⟩
    simp [hk]
theorem Asc.mono {l : List ByteArray} (h : Asc l) (x : ByteArray) : Mono l x := by
  intro i j hij hj hx
  by_cases e : i = j
  · rw [e]; exact hx
  · exact strLt_trans (h i j (by omega) hj) hx
theorem Pos.found {l : List ByteArray} {x : ByteArray} {p : Nat} (h : Pos l x p) (ha : Asc l) : (decide (p < l.length) && strEq (l.getD p .empty) x) = l.any (fun y => strEq y x) := by
  rw [Bool.eq_iff_iff, Bool.and_eq_true, decide_eq_true_eq, List.any_eq_true]
  constructor
  · rintro ⟨h1, h2⟩
    refine ⟨_, ?_, h2⟩
    simp [h1]
  · rintro ⟨y, hy, hyx⟩
    obtain ⟨j, hj, rfl⟩ := List.mem_iff_getElem.1 hy
    have hjx : l.getD j .empty = x := by rw [strEq_iff] at hyx; simpa [hj] using hyx
    have h1 : ¬ j < p := fun e => by
      have := h.2.1 j e
      rw [hjx, strLt_irrefl] at this
      exact absurd this (by decide)
    have h2 : ¬ p < j := fun e => by
      have := ha p j e hj
      rw [hjx, h.2.2 p (Nat.le_refl _) (by omega)] at this
      exact absurd this (by decide)
    obtain rfl : j = p := by omega
    exact ⟨hj, by rw [hjx]; exact strEq_refl _⟩
/-- Where x has its place. -/
def place (l : List ByteArray) (x : ByteArray) : Nat := (l.takeWhile (fun y => strLt y x)).length
theorem Pos.place : ∀ {l : List ByteArray} {x : ByteArray} {p : Nat}, Pos l x p → p = place l x
  | [], x, p, h => by have := h.1; simp at this; subst this; rfl
  | y :: l, x, 0, h => by
    have := h.2.2 0 (Nat.le_refl _) (by simp)
    simp only [List.getD_cons_zero] at this
    simp [Proofs.YtnefbeplgfdkkaaGreatDoor.place, List.takeWhile, this]
  | y :: l, x, p + 1, h => by
    have h0 := h.2.1 0 (by omega)
    simp only [List.getD_cons_zero] at h0
    have : Pos l x p := ⟨by have := h.1; simp at this; omega, fun j hj => by have := h.2.1 (j + 1) (by omega); simpa using this, fun j hj hl => by have := h.2.2 (j + 1) (by omega) (by simp; omega); simpa using this⟩
    rw [this.place]
    simp [Proofs.YtnefbeplgfdkkaaGreatDoor.place, List.takeWhile, h0]
theorem place_le (l : List ByteArray) (x : ByteArray) : place l x ≤ l.length := (List.takeWhile_sublist _).length_le
end Go.Proofs.YtnefbeplgfdkkaaGreatDoor
