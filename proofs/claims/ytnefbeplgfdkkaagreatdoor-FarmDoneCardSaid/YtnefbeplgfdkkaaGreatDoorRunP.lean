/-
  A run in plain words. No program here.
-/
import Derived.Test.YtnefbeplgfdkkaaGreatDoorStep
namespace Go.Proofs.YtnefbeplgfdkkaaGreatDoor

theorem goS_append : ∀ (s : St) (a b : List Ev), goS s (a ++ b) = goS (goS s a) b
  | _, [], _ => rfl
  | s, e :: a, b => goS_append (nextS s e) a b
theorem goO_append : ∀ (s : St) (a b : List Ev), goO s (a ++ b) = goO s a ++ goO (goS s a) b
  | _, [], _ => rfl
  | s, e :: a, b => by
    show nextO s e ++ goO (nextS s e) (a ++ b) = nextO s e ++ goO (nextS s e) a ++ goO (goS (nextS s e) a) b
    rw [goO_append (nextS s e) a b, List.append_assoc]
theorem goE_append : ∀ (s : St) (a b : List Ev), goE s (a ++ b) = goE s a ++ goE (goS s a) b
  | _, [], _ => rfl
  | s, e :: a, b => by
    show errOf s e :: goE (nextS s e) (a ++ b) = errOf s e :: (goE (nextS s e) a ++ goE (goS (nextS s e) a) b)
    rw [goE_append (nextS s e) a b]
theorem goE_length : ∀ (s : St) (a : List Ev), (goE s a).length = a.length
  | _, [] => rfl
  | s, e :: a => by
    show (goE (nextS s e) a).length + 1 = a.length + 1
    rw [goE_length (nextS s e) a]
theorem take_snoc' {α : Type} (l : List α) (k : Nat) (h : k < l.length) : l.take (k + 1) = l.take k ++ [l[k]] := by rw [List.take_succ_eq_append_getElem h]
theorem goS_next (s : St) (l : List Ev) (k : Nat) (h : k < l.length) : goS s (l.take (k + 1)) = nextS (goS s (l.take k)) l[k] := by rw [take_snoc' l k h, goS_append]; rfl
theorem goO_next (s : St) (l : List Ev) (k : Nat) (h : k < l.length) : goO s (l.take (k + 1)) = goO s (l.take k) ++ nextO (goS s (l.take k)) l[k] := by rw [take_snoc' l k h, goO_append]; simp [goO]
theorem goE_next (s : St) (l : List Ev) (k : Nat) (h : k < l.length) : goE s (l.take (k + 1)) = goE s (l.take k) ++ [errOf (goS s (l.take k)) l[k]] := by rw [take_snoc' l k h, goE_append]; rfl
theorem errOf_ok {s : St} {e : Ev} (h : errOf s e = 0) : evOk e = true := by
  unfold errOf at h
  cases he : evOk e with
  | true => rfl
  | false => rw [he, if_neg (by decide)] at h; exact absurd h (by decide)
theorem V.next {s : St} (h : V s) (e : Ev) : V (nextS s e) := by
  unfold nextS
  by_cases h0 : errOf s e = 0
  · rw [if_pos h0]; exact h.per (errOf_ok h0)
  · rw [if_neg h0]; exact h
theorem ItsOk.next {s : St} (h : ItsOk s) {e : Ev} (he : ItOk e.items) : ItsOk (nextS s e) := by
  unfold nextS
  split
  · exact per_items h he
  · exact h
theorem V.go : ∀ {s : St} (_ : V s) (l : List Ev), V (goS s l)
  | _, h, [] => h
  | _, h, e :: l => V.go (h.next e) l
theorem ItsOk.go : ∀ {s : St} (_ : ItsOk s) (l : List Ev) (_ : ∀ e ∈ l, ItOk e.items), ItsOk (goS s l)
  | _, h, [], _ => h
  | _, h, e :: l, he => ItsOk.go (h.next (he e List.mem_cons_self)) l (fun x hx => he x (List.mem_cons_of_mem _ hx))
theorem perO_le {s : St} (h : V s) (e : Ev) : (perO s e).length ≤ 64 := by
  unfold perO
  split
  · unfold pollO
    split
    · split <;> simp
    · simp
  split
  · unfold endO
    split <;> simp
  split
  · unfold tickO
    split
    · simp
    · exact Nat.le_trans (outsTo_le _ _ _) h.jl
  · simp
theorem nextO_le {s : St} (h : V s) (e : Ev) : (nextO s e).length ≤ 64 := by
  unfold nextO
  split
  · exact perO_le h e
  · simp
theorem goO_le : ∀ {s : St} (_ : V s) (l : List Ev), (goO s l).length ≤ 64 * l.length
  | _, _, [] => Nat.le_refl _
  | s, h, e :: l => by
    show (nextO s e ++ goO (nextS s e) l).length ≤ _
    have h1 := nextO_le h e
    have h2 := goO_le (h.next e) l
    simp only [List.length_append, List.length_cons]
    omega
end Go.Proofs.YtnefbeplgfdkkaaGreatDoor
