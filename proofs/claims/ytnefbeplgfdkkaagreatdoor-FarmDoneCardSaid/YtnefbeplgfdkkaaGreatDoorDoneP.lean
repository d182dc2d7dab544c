/-
  FarmDone: the plain facts.
-/
import Derived.Test.YtnefbeplgfdkkaaGreatDoorEvsP
namespace Go.Proofs.YtnefbeplgfdkkaaGreatDoor
open Go.RowKit

/-- What an event may do to a job: its name stays; a done job stays done with its items; it becomes done by its worker's finish alone. -/
def JR (e : Ev) (a b : Jb) : Prop := a.name = b.name ∧ (a.done = true → b.done = true ∧ b.items = a.items) ∧ (a.done = false → b.done = true → e.kind = 7 ∧ e.name = a.name ∧ e.worker = a.worker ∧ b.items = e.items)
theorem JR.same {e : Ev} {a b : Jb} (h1 : a.name = b.name) (h2 : b.done = a.done) (h3 : b.items = a.items) : JR e a b := ⟨h1, fun h => ⟨h2.trans h, h3⟩, fun h h' => by rw [h2, h] at h'; cases h'⟩
theorem JR.refl (e : Ev) (a : Jb) : JR e a a := JR.same rfl rfl rfl
def DR (e : Ev) (l l' : List Jb) : Prop := l.length ≤ l'.length ∧ (∀ (i : Nat) (a b : Jb), l[i]? = some a → l'[i]? = some b → JR e a b) ∧ ∀ (i : Nat) (b : Jb), l'[i]? = some b → l.length ≤ i → b.items = []
theorem old_ (P : Prop) {l : List Jb} {i : Nat} {b : Jb} (h : l[i]? = some b) (n : Nat) (hn : l.length = n) (hi : n ≤ i) : P := by
  have := (List.getElem?_eq_some_iff.1 h).1
  omega
theorem DR.refl (e : Ev) (l : List Jb) : DR e l l := ⟨Nat.le_refl _, fun i a b h h' => by rw [h] at h'; cases h'; exact JR.refl e a, fun i b h hi => old_ _ h _ rfl hi⟩
theorem DR.snoc (e : Ev) (l m : List Jb) (hm : ∀ x ∈ m, x.items = []) : DR e l (l ++ m) := ⟨by simp, fun i a b h h' => by
  have hi := (List.getElem?_eq_some_iff.1 h).1
  rw [List.getElem?_append_left hi, h] at h'
  cases h'
  exact JR.refl e a, fun i b h hi => by
  rw [List.getElem?_append_right hi] at h
  exact hm b (List.mem_of_getElem? h)⟩
theorem DR.set (e : Ev) (l : List Jb) (k : Nat) (hk : k < l.length) (x : Jb) (h : JR e l[k] x) : DR e l (l.set k x) := ⟨by simp, fun i a b h1 h2 => by
  by_cases hi : k = i
  · subst hi
    rw [List.getElem?_set_self hk] at h2
    rw [List.getElem?_eq_getElem hk] at h1
    cases h1; cases h2
    exact h
  · rw [List.getElem?_set_ne hi, h1] at h2
    cases h2
    exact JR.refl e a, fun i b h hi => old_ _ h _ (by simp) hi⟩
theorem DR.map (e : Ev) (l : List Jb) (f : Jb → Jb) (h : ∀ a, JR e a (f a)) : DR e l (l.map f) := ⟨by simp, fun i a b h1 h2 => by
  rw [List.getElem?_map, h1] at h2
  cases h2
  exact h a, fun i b h hi => old_ _ h _ (by simp) hi⟩
theorem submit_DR (e : Ev) (s : St) (x : ByteArray) (n : List ByteArray) : DR e s.jobs (submitS s x n).jobs := by
  unfold submitS
  split
  · exact DR.refl e _
  · split
    · exact DR.refl e _
    · exact DR.snoc e _ _ (fun x hx => by simp at hx; rw [hx]; rfl)
theorem arrive_jobs (s : St) (x : ByteArray) : (arriveS s x).jobs = s.jobs := by
  unfold arriveS
  split
  · rfl
  · split <;> rfl
theorem leave_jobs (s : St) (x : ByteArray) : (leaveS s x).jobs = s.jobs := by
  unfold leaveS
  split <;> rfl
theorem join_jobs (s : St) (x : ByteArray) : (joinS s x).jobs = s.jobs := by
  unfold joinS
  split
  · split <;> rfl
  · split
    · split <;> rfl
    · rfl
theorem die_jobs (s : St) (x : ByteArray) : (dieS s x).jobs = s.jobs := by
  unfold dieS
  split
  · split <;> rfl
  · rfl
theorem poll_DR (e : Ev) (s : St) (x : ByteArray) : DR e s.jobs (pollS s x).jobs := by
  unfold pollS
  split
  · split
    · rename_i k r hr
      unfold giveS
      have hk : k ∈ readyL s := by rw [hr]; exact List.mem_cons_self
      obtain ⟨hl, -⟩ := readyL_mem hk
      rw [List.getElem?_eq_getElem hl]
      exact DR.set e _ k hl _ (JR.same rfl rfl rfl)
    · exact DR.refl e _
  · exact DR.refl e _
theorem end_DR {s : St} (h : V s) {e : Ev} (hw : nameOk e.worker = true) : DR e s.jobs (endS s e).jobs := by
  unfold endS
  by_cases h0 : endE s e = 0
  · rw [if_pos h0]
    obtain ⟨-, k, hk, e1, e2, e3, e4⟩ := endE_zero h0
    rw [e4, e1]
    refine DR.set e _ k hk _ ?_
    obtain ⟨-, -, -, -, -, -, a7⟩ := h.jb _ (List.getElem_mem hk)
    obtain ⟨-, hd, -⟩ := a7 (by rw [e3]; exact name_ne hw)
    unfold doneJ
    split
    · rename_i h7
      exact ⟨rfl, (fun h => by rw [hd] at h; cases h), fun _ _ => ⟨h7, e2.symm, e3.symm, rfl⟩⟩
    · exact JR.same rfl rfl rfl
  · rw [if_neg h0]; exact DR.refl e _
theorem tick_DR (e : Ev) (s : St) (t : Int) : DR e s.jobs (tickS s t).jobs := by
  unfold tickS
  split
  · exact DR.refl e _
  · rw [tickTo_all]
    exact DR.map e _ _ (fun a => by unfold relJ; split <;> exact JR.same rfl rfl rfl)
theorem per_DR {s : St} (h : V s) {e : Ev} (he : evOk e = true) : DR e s.jobs (perS s e).jobs := by
  have hk := evOk_kind he
  unfold perS
  by_cases k1 : e.kind = 1
  · rw [if_pos k1]; exact submit_DR _ _ _ _
  rw [if_neg k1]
  by_cases k2 : e.kind = 2
  · rw [if_pos k2, arrive_jobs]; exact DR.refl _ _
  rw [if_neg k2]
  by_cases k3 : e.kind = 3
  · rw [if_pos k3, leave_jobs]; exact DR.refl _ _
  rw [if_neg k3]
  by_cases k4 : e.kind = 4
  · rw [if_pos k4, join_jobs]; exact DR.refl _ _
  rw [if_neg k4]
  by_cases k5 : e.kind = 5
  · rw [if_pos k5, die_jobs]; exact DR.refl _ _
  rw [if_neg k5]
  by_cases k6 : e.kind = 6
  · rw [if_pos k6]; exact poll_DR _ _ _
  rw [if_neg k6]
  by_cases k7 : e.kind = 7 ∨ e.kind = 8
  · rw [if_pos k7]; exact end_DR h (evOk_worker he (by omega))
  rw [if_neg k7]
  exact tick_DR _ _ _
theorem stepE_zero {s : St} {e : Ev} (h0 : stepE s e = 0) : evOk e = true ∧ perE s e = 0 := by
  unfold stepE at h0
  by_cases h : (validF s && evOk e) = true
  · rw [if_pos h] at h0
    exact ⟨(Bool.and_eq_true_iff.1 h).2, h0⟩
  · rw [if_neg h] at h0
    cases h0
theorem step_V {s : St} (hv : V s) {e : Ev} (h0 : stepE s e = 0) : V (stepS s e) := by
  unfold stepS
  rw [if_pos h0]
  exact hv.per (stepE_zero h0).1
theorem step_DR {s : St} (hv : V s) {e : Ev} (h0 : stepE s e = 0) : DR e s.jobs (stepS s e).jobs := by
  unfold stepS
  rw [if_pos h0]
  exact per_DR hv (stepE_zero h0).1
/-- Items that end a stream. -/
def EndI (l : List Itm) : Prop := ∀ x ∈ l, x.flat[0]? = some (.int .i64 4)
def EndS (s : St) : Prop := ∀ j ∈ s.jobs, EndI j.items
theorem step_End {s : St} (hv : V s) {e : Ev} (h0 : stepE s e = 0) (hs : EndS s) (he : EndI e.items) : EndS (stepS s e) := by
  intro b hb
  obtain ⟨i, hbi⟩ := List.mem_iff_getElem?.1 hb
  obtain ⟨-, d2, d3⟩ := step_DR hv h0
  by_cases hl : i < s.jobs.length
  · obtain ⟨-, r2, r3⟩ := d2 i s.jobs[i] b (List.getElem?_eq_getElem hl) hbi
    have ha := hs _ (List.getElem_mem hl)
    cases hd : s.jobs[i].done with
    | true => rw [(r2 hd).2]; exact ha
    | false =>
      cases hd' : b.done with
      | true => rw [(r3 hd hd').2.2.2]; exact he
      | false =>
        obtain ⟨-, -, -, -, a5, -, -⟩ := (step_V hv h0).jb b hb
        rw [a5 hd']
        exact fun _ h => by cases h
  · rw [d3 i b hbi (by omega)]
    exact fun _ h => by cases h
end Go.Proofs.YtnefbeplgfdkkaaGreatDoor
