/-
  The farm in plain words: what an event does to a state; a valid state stays valid. No program here.
-/
import Derived.Test.YtnefbeplgfdkkaaGreatDoorJb17
import Derived.Test.YtnefbeplgfdkkaaGreatDoorJb14
import Derived.Test.YtnefbeplgfdkkaaGreatDoorJb16
import Derived.Test.YtnefbeplgfdkkaaGreatDoorJb18
import Derived.Test.YtnefbeplgfdkkaaGreatDoorJb15
namespace Go.Proofs.YtnefbeplgfdkkaaGreatDoor

/-- 37.2: which jobs are ready. -/
def readyAt (s : St) (j : Jb) : Bool := !j.done && strEq j.worker ⟨#[]⟩ && decide (j.tries < 3) && hasAll s.present j.needs
def readyK (s : St) (k : Nat) : Bool := match s.jobs[k]? with
  | some j => readyAt s j
  | none => false
def readyL (s : St) : List Nat := (List.range s.jobs.length).filter (readyK s)
def nameAt (s : St) (k : Nat) : ByteArray := match s.jobs[k]? with
  | some j => j.name
  | none => ⟨#[]⟩
/-- 37.3: poll. -/
def giveS (s : St) (x : ByteArray) (k : Nat) : St := match s.jobs[k]? with
  | some j => { s with jobs := s.jobs.set k { j with worker := x, until_ := s.now + 10 } }
  | none => s
def pollE (s : St) (x : ByteArray) : Int := if aliveE s.workers x ≠ 0 then aliveE s.workers x else if s.jobs.any (fun j => strEq j.worker x) then 13 else 0
def pollS (s : St) (x : ByteArray) : St := if pollE s x = 0 then match readyL s with
  | k :: _ => giveS s x k
  | [] => s
  else s
def pollO (s : St) (x : ByteArray) : List Ot := if pollE s x = 0 then match readyL s with
  | k :: _ => [⟨1, nameAt s k, x⟩]
  | [] => []
  else []
/-- 37.3: perform. -/
def perE (s : St) (e : Ev) : Int := if e.kind = 1 then submitE s e.name else if e.kind = 2 then arriveE s e.name else if e.kind = 3 then leaveE s e.name else if e.kind = 4 then joinE s e.worker else if e.kind = 5 then aliveE s.workers e.worker else if e.kind = 6 then pollE s e.worker else if e.kind = 7 ∨ e.kind = 8 then endE s e else tickE s e.ticks
def perS (s : St) (e : Ev) : St := if e.kind = 1 then submitS s e.name e.needs else if e.kind = 2 then arriveS s e.name else if e.kind = 3 then leaveS s e.name else if e.kind = 4 then joinS s e.worker else if e.kind = 5 then dieS s e.worker else if e.kind = 6 then pollS s e.worker else if e.kind = 7 ∨ e.kind = 8 then endS s e else tickS s e.ticks
def perO (s : St) (e : Ev) : List Ot := if e.kind = 6 then pollO s e.worker else if e.kind = 7 ∨ e.kind = 8 then endO s e else if e.kind = 9 then tickO s e.ticks else []
/-- 37.4: a step. -/
def zeroSt : St := ⟨0, [], [], []⟩
def stepE (s : St) (e : Ev) : Int := if validF s && evOk e then perE s e else 1
def stepS (s : St) (e : Ev) : St := if stepE s e = 0 then perS s e else zeroSt
def stepO (s : St) (e : Ev) : List Ot := if stepE s e = 0 then perO s e else []
/-- 37.4: a run. -/
def errOf (s : St) (e : Ev) : Int := if evOk e then perE s e else 1
def nextS (s : St) (e : Ev) : St := if errOf s e = 0 then perS s e else s
def nextO (s : St) (e : Ev) : List Ot := if errOf s e = 0 then perO s e else []
def goS : St → List Ev → St
  | s, [] => s
  | s, e :: l => goS (nextS s e) l
def goO : St → List Ev → List Ot
  | _, [] => []
  | s, e :: l => nextO s e ++ goO (nextS s e) l
def goE : St → List Ev → List Int
  | _, [] => []
  | s, e :: l => errOf s e :: goE (nextS s e) l
def runS (s : St) (l : List Ev) : St := if validF s then goS s l else zeroSt
def runO (s : St) (l : List Ev) : List Ot := if validF s then goO s l else []
def runE (s : St) (l : List Ev) : List Int := if validF s then goE s l else l.map fun _ => 1

/-! A valid state, in words. -/
def JobOk (s : St) (j : Jb) : Prop := nameOk j.name = true ∧ namesOk j.needs = true ∧ 0 ≤ j.tries ∧ j.tries ≤ 3 ∧ (j.done = false → j.items = []) ∧ (j.worker = ⟨#[]⟩ → j.until_ = 0) ∧
  (j.worker ≠ ⟨#[]⟩ → (∃ x ∈ s.workers, x.name = j.worker) ∧ j.done = false ∧ s.now < j.until_ ∧ j.until_ ≤ s.now + 10 ∧ j.tries < 3)
def Apart (a b : Jb) : Prop := b.worker ≠ ⟨#[]⟩ → a.worker ≠ b.worker
structure V (s : St) : Prop where
  n0 : 0 ≤ s.now
  n1 : s.now ≤ 1099511627776
  pr : namesOk s.present = true
  jl : s.jobs.length ≤ 64
  wl : s.workers.length ≤ 32
  wn : s.workers.Pairwise (fun a b => a.name ≠ b.name)
  wo : ∀ x ∈ s.workers, nameOk x.name = true
  jn : s.jobs.Pairwise (fun a b => a.name ≠ b.name)
  jb : ∀ j ∈ s.jobs, JobOk s j
  jd : s.jobs.Pairwise Apart

theorem all_range {p : Nat → Bool} {n : Nat} : (List.range n).all p = true ↔ ∀ k, k < n → p k = true := by simp [List.all_eq_true]
theorem pw_take {α : Type} {R : α → α → Prop} (l : List α) : l.Pairwise R ↔ ∀ k (h : k < l.length), ∀ y ∈ l.take k, R y l[k] := by
  rw [List.pairwise_iff_getElem]
  constructor
  · intro h k hk y hy
    obtain ⟨i, hi, rfl⟩ := List.mem_take_iff_getElem.1 hy
    exact h i k (by omega) hk (by omega)
  · intro h i j hi hj hij
    exact h j hj _ (List.mem_take_iff_getElem.2 ⟨i, by omega, rfl⟩)
theorem any_no {α : Type} (p : α → Bool) (l : List α) : (!l.any p) = true ↔ ∀ y ∈ l, p y = false := by simp
theorem any_no' {α : Type} (p : α → Bool) (l : List α) : l.any p = false ↔ ∀ y ∈ l, p y = false := by simp
theorem strEq_no {a b : ByteArray} : strEq a b = false ↔ a ≠ b := strEq_false
theorem wks_iff (ws : List Wk) : (List.range ws.length).all (wkGood ws) = true ↔ ws.Pairwise (fun a b => a.name ≠ b.name) ∧ ∀ x ∈ ws, nameOk x.name = true := by
  rw [all_range, pw_take]
  constructor
  · intro h
    have h' : ∀ k (hk : k < ws.length), (∀ y ∈ ws.take k, strEq ws[k].name y.name = false) ∧ nameOk ws[k].name = true := fun k hk => by
      have := h k hk
      rw [wkGood, List.getElem?_eq_getElem hk, Bool.and_eq_true, any_no] at this
      exact this
    refine ⟨fun k hk y hy e => ?_, fun x hx => ?_⟩
    · have := (h' k hk).1 y hy
      rw [strEq_no] at this
      exact this e.symm
    · obtain ⟨k, hk, rfl⟩ := List.mem_iff_getElem.1 hx
      exact (h' k hk).2
  · rintro ⟨h1, h2⟩ k hk
    rw [wkGood, List.getElem?_eq_getElem hk, Bool.and_eq_true, any_no]
    exact ⟨fun y hy => strEq_no.2 (fun e => h1 k hk y hy e.symm), h2 _ (List.getElem_mem hk)⟩
theorem jobGood_iff (s : St) (k : Nat) (hk : k < s.jobs.length) : jobGood s k = true ↔ (∀ y ∈ s.jobs.take k, y.name ≠ s.jobs[k].name) ∧ (∀ y ∈ s.jobs.take k, Apart y s.jobs[k]) ∧ JobOk s s.jobs[k] := by
  rw [jobGood, List.getElem?_eq_getElem hk]
  generalize s.jobs[k] = j
  unfold jobBase wkFree giftOk JobOk Apart
  by_cases hw : j.worker = ⟨#[]⟩
  · simp only [hw, strEq_refl, if_true, Bool.and_eq_true, any_no, decide_eq_true_eq, Bool.or_eq_true]
    constructor
    · rintro ⟨⟨⟨⟨⟨⟨h1, h2⟩, h3⟩, h4⟩, h5⟩, h6⟩, h7⟩
      refine ⟨fun y hy e => strEq_no.1 (h1 y hy) e.symm, fun _ _ e => absurd rfl e, h2, h3, h4, h5, fun hd => ?_, fun _ => h7, fun e => absurd rfl e⟩
      rcases h6 with h6 | h6
      · rw [hd] at h6; cases h6
      · exact List.length_eq_zero_iff.1 h6
    · rintro ⟨h1, -, h2, h3, h4, h5, h6, h7, -⟩
      refine ⟨⟨⟨⟨⟨⟨fun y hy => strEq_no.2 (fun e => h1 y hy e.symm), h2⟩, h3⟩, h4⟩, h5⟩, ?_⟩, h7 trivial⟩
      cases hd : j.done with
      | true => exact .inl rfl
      | false => rw [h6 hd]; exact .inr rfl
  · have hw' : strEq j.worker ⟨#[]⟩ = false := strEq_no.2 hw
    simp only [hw', Bool.false_eq_true, if_false, Bool.and_eq_true, any_no', decide_eq_true_eq, Bool.or_eq_true, Bool.not_eq_true', List.any_eq_true, strEq_iff]
    constructor
    · rintro ⟨⟨⟨⟨⟨⟨h1, h2⟩, h3⟩, h4⟩, h5⟩, h6⟩, ⟨⟨x, hx, ex⟩, h7⟩, ⟨⟨h8, h9⟩, h10⟩, h11⟩
      refine ⟨fun y hy e => strEq_no.1 (h1 y hy) e.symm, fun y hy _ e => strEq_no.1 (h7 y hy) e.symm, h2, h3, h4, h5, fun hd => ?_, fun e => absurd e hw, fun _ => ⟨⟨x, hx, ex.symm⟩, h8, h9, h10, h11⟩⟩
      rcases h6 with h6 | h6
      · rw [hd] at h6; cases h6
      · exact List.length_eq_zero_iff.1 h6
    · rintro ⟨h1, h1', h2, h3, h4, h5, h6, -, h7⟩
      obtain ⟨⟨x, hx, ex⟩, h8, h9, h10, h11⟩ := h7 hw
      refine ⟨⟨⟨⟨⟨⟨fun y hy => strEq_no.2 (fun e => h1 y hy e.symm), h2⟩, h3⟩, h4⟩, h5⟩, .inr (by rw [h6 h8]; rfl)⟩, ⟨⟨x, hx, ex.symm⟩, fun y hy => strEq_no.2 (fun e => h1' y hy hw e.symm)⟩, ⟨⟨h8, h9⟩, h10⟩, h11⟩
theorem valid_iff (s : St) : validF s = true ↔ V s := by
  unfold validF headOk
  rw [Bool.and_eq_true, Bool.and_eq_true, wks_iff, all_range]
  simp only [Bool.and_eq_true, decide_eq_true_eq]
  constructor
  · rintro ⟨⟨⟨⟨⟨⟨h1, h2⟩, h3⟩, h4⟩, h5⟩, h6, h7⟩, h8⟩
    have h9 := fun k (hk : k < s.jobs.length) => (jobGood_iff s k hk).1 (h8 k hk)
    refine ⟨h1, h2, h3, h4, h5, h6, h7, (pw_take _).2 fun k hk => (h9 k hk).1, fun j hj => ?_, (pw_take _).2 fun k hk => (h9 k hk).2.1⟩
    obtain ⟨k, hk, rfl⟩ := List.mem_iff_getElem.1 hj
    exact (h9 k hk).2.2
  · intro h
    exact ⟨⟨⟨⟨⟨⟨h.n0, h.n1⟩, h.pr⟩, h.jl⟩, h.wl⟩, h.wn, h.wo⟩, fun k hk => (jobGood_iff s k hk).2 ⟨(pw_take _).1 h.jn k hk, (pw_take _).1 h.jd k hk, h.jb _ (List.getElem_mem hk)⟩⟩

theorem name_ne {x : ByteArray} (h : nameOk x = true) : x ≠ ⟨#[]⟩ := by
  rintro rfl
  exact absurd h (by decide)
theorem pw_set {α : Type} {R : α → α → Prop} (l : List α) (k : Nat) (x : α) (hl : l.Pairwise R) (h1 : ∀ y ∈ l, R y x) (h2 : ∀ y ∈ l, R x y) : (l.set k x).Pairwise R := by
  rw [List.pairwise_iff_getElem] at hl ⊢
  intro i j hi hj hij
  rw [List.length_set] at hi hj
  rw [List.getElem_set, List.getElem_set]
  by_cases e1 : k = i <;> by_cases e2 : k = j
  · omega
  · rw [if_pos e1, if_neg e2]; exact h2 _ (List.getElem_mem _)
  · rw [if_neg e1, if_pos e2]; exact h1 _ (List.getElem_mem _)
  · rw [if_neg e1, if_neg e2]; exact hl i j hi hj hij
theorem pw_set_of {α β : Type} [DecidableEq β] (f : α → β) (l : List α) (k : Nat) (hk : k < l.length) (x : α) (hx : f x = f l[k]) (hl : l.Pairwise (fun a b => f a ≠ f b)) : (l.set k x).Pairwise (fun a b => f a ≠ f b) := by
  rw [List.pairwise_iff_getElem] at hl ⊢
  intro i j hi hj hij
  rw [List.length_set] at hi hj
  rw [List.getElem_set, List.getElem_set]
  by_cases e1 : k = i <;> by_cases e2 : k = j
  · omega
  · subst e1; rw [if_pos rfl, if_neg e2, hx]; exact hl k j hi hj hij
  · subst e2; rw [if_neg e1, if_pos rfl, hx]; exact hl i k hi hj hij
  · rw [if_neg e1, if_neg e2]; exact hl i j hi hj hij
/-- A job replaced by one of the same name. -/
theorem V.setJob {s : St} (h : V s) (k : Nat) (hk : k < s.jobs.length) (x : Jb) (hn : x.name = s.jobs[k].name) (hx : JobOk s x) (h1 : ∀ y ∈ s.jobs, Apart y x) (h2 : ∀ y ∈ s.jobs, Apart x y) : V { s with jobs := s.jobs.set k x } where
  n0 := h.n0
  n1 := h.n1
  pr := h.pr
  jl := by simpa using h.jl
  wl := h.wl
  wn := h.wn
  wo := h.wo
  jn := pw_set_of Jb.name _ k hk x hn h.jn
  jb := fun j hj => by
    rcases List.mem_or_eq_of_mem_set hj with hj | rfl
    · exact h.jb j hj
    · exact hx
  jd := pw_set _ k x h.jd h1 h2
theorem idx_mem {α : Type} (p : α → Bool) (l : List α) (h : idxOf p l 0 < 0) : ∀ x ∈ l, p x = false := by
  rcases idxOf_range p l 0 with ⟨-, h1⟩ | ⟨k, hk, h1, -, -⟩
  · exact h1
  · omega
theorem idx_get {α : Type} (p : α → Bool) (l : List α) (h : ¬ idxOf p l 0 < 0) : ∃ (k : Nat) (hk : k < l.length), (idxOf p l 0).toNat = k ∧ l[(idxOf p l 0).toNat]? = some l[k] ∧ p l[k] = true := by
  rcases idx_cases p l with h1 | ⟨k, hk, h1, h2⟩
  · rw [h1] at h; exact absurd (by decide) h
  · refine ⟨k, hk, by rw [h1]; rfl, ?_, h2⟩
    rw [h1]
    simp [hk]
theorem V.submit {s : St} (h : V s) (x : ByteArray) (needs : List ByteArray) (hx : nameOk x = true) (hn : namesOk needs = true) : V (submitS s x needs) := by
  unfold submitS
  by_cases h1 : 0 ≤ jbIdx s.jobs x
  · rw [if_pos h1]; exact h
  rw [if_neg h1]
  by_cases h2 : 64 ≤ s.jobs.length
  · rw [if_pos h2]; exact h
  rw [if_neg h2]
  have hno := idx_mem (fun y : Jb => strEq y.name x) s.jobs (by unfold jbIdx at h1; omega)
  refine ⟨h.n0, h.n1, h.pr, by simp; omega, h.wl, h.wn, h.wo, ?_, fun j hj => ?_, ?_⟩
  · rw [List.pairwise_append]
    refine ⟨h.jn, by simp, fun a ha b hb => ?_⟩
    simp at hb
    rw [hb]
    exact strEq_no.1 (hno a ha)
  · rcases List.mem_append.1 hj with hj | hj
    · exact h.jb j hj
    · simp at hj
      rw [hj]
      exact ⟨hx, hn, by simp [freshJob], by simp [freshJob], fun _ => rfl, fun _ => rfl, fun e => absurd rfl e⟩
  · rw [List.pairwise_append]
    refine ⟨h.jd, by simp, fun a ha b hb => ?_⟩
    simp at hb
    rw [hb]
    exact fun e => absurd rfl e
theorem V.pres {s : St} (h : V s) (l : List ByteArray) (hl : namesOk l = true) : V { s with present := l } := ⟨h.n0, h.n1, hl, h.jl, h.wl, h.wn, h.wo, h.jn, h.jb, h.jd⟩
theorem asc_pw (l : List ByteArray) : Asc l ↔ l.Pairwise (fun a b => strLt a b = true) := by
  rw [List.pairwise_iff_getElem]
  constructor
  · intro h i j hi hj hij
    have := h i j hij hj
    simpa [hi, hj] using this
  · intro h i j hij hj
    have := h i j (by omega) hj hij
    have hi : i < l.length := by omega
    simpa [hi, hj] using this
theorem namesOk_erase {l : List ByteArray} (h : namesOk l = true) (k : Nat) : namesOk (l.eraseIdx k) = true := by
  rw [namesOk_iff] at h ⊢
  refine ⟨fun x hx => h.1 x (List.mem_of_mem_eraseIdx hx), ?_, Nat.le_trans (List.length_eraseIdx_le _ _) h.2.2⟩
  rw [asc_pw] at h ⊢
  exact h.2.1.sublist (List.eraseIdx_sublist _ _)
theorem place_before : ∀ (l : List ByteArray) (x : ByteArray), ∀ y ∈ l.take (place l x), strLt y x = true
  | [], x, y, hy => by simp at hy
  | z :: l, x, y, hy => by
    unfold place at hy
    cases hz : strLt z x with
    | false => simp [List.takeWhile, hz] at hy
    | true =>
      simp only [List.takeWhile, hz, List.length_cons, List.take_succ_cons, List.mem_cons] at hy
      rcases hy with rfl | hy
      · exact hz
      · exact place_before l x y hy
theorem place_after : ∀ (l : List ByteArray) (x : ByteArray), Asc l → there l x = false → ∀ y ∈ l.drop (place l x), strLt x y = true
  | [], x, _, _, y, hy => by simp at hy
  | z :: l, x, ha, ht, y, hy => by
    rw [asc_pw, List.pairwise_cons] at ha
    unfold there at ht
    rw [List.any_cons, Bool.or_eq_false_iff] at ht
    unfold place at hy
    cases hz : strLt z x with
    | false =>
      have hxz : strLt x z = true := bl_total _ _ hz (fun e => by have := ht.1; unfold strEq at this; rw [e] at this; simp at this)
      simp only [List.takeWhile, hz, List.length_nil, List.drop_zero, List.mem_cons] at hy
      rcases hy with rfl | hy
      · exact hxz
      · exact strLt_trans hxz (ha.1 y hy)
    | true =>
      simp only [List.takeWhile, hz, List.length_cons, List.drop_succ_cons] at hy
      exact place_after l x ((asc_pw l).2 ha.2) ht.2 y hy
theorem namesOk_ins {l : List ByteArray} {x : ByteArray} (h : namesOk l = true) (hx : nameOk x = true) (ht : there l x = false) (h16 : ¬ 16 ≤ l.length) : namesOk (insAt l x) = true := by
  rw [namesOk_iff] at h ⊢
  refine ⟨fun y hy => ?_, ?_, by rw [insAt_len]; omega⟩
  · unfold insAt at hy
    rcases List.mem_append.1 hy with hy | hy
    · exact h.1 y (List.mem_of_mem_take hy)
    · rcases List.mem_cons.1 hy with rfl | hy
      · exact hx
      · exact h.1 y (List.mem_of_mem_drop hy)
  · have h2 := (asc_pw l).1 h.2.1
    rw [asc_pw]
    unfold insAt
    rw [List.pairwise_append, List.pairwise_cons]
    refine ⟨h2.sublist (List.take_sublist _ _), ⟨place_after l x h.2.1 ht, h2.sublist (List.drop_sublist _ _)⟩, fun a ha b hb => ?_⟩
    have hax := place_before l x a ha
    rcases List.mem_cons.1 hb with rfl | hb
    · exact hax
    · exact strLt_trans hax (place_after l x h.2.1 ht b hb)
theorem V.arrive {s : St} (h : V s) (x : ByteArray) (hx : nameOk x = true) : V (arriveS s x) := by
  unfold arriveS
  cases ht : there s.present x with
  | true => exact h
  | false =>
    rw [if_neg (by decide)]
    by_cases h16 : 16 ≤ s.present.length
    · rw [if_pos h16]; exact h
    · rw [if_neg h16]; exact h.pres _ (namesOk_ins h.pr hx ht h16)
theorem V.leave {s : St} (h : V s) (x : ByteArray) : V (leaveS s x) := by
  unfold leaveS
  cases there s.present x with
  | true => exact h.pres _ (namesOk_erase h.pr _)
  | false => exact h
theorem V.wks {s : St} (h : V s) (ws : List Wk) (hl : ws.length ≤ 32) (h1 : ws.Pairwise (fun a b => a.name ≠ b.name)) (h2 : ∀ x ∈ ws, nameOk x.name = true) (h3 : ∀ x ∈ s.workers, ∃ y ∈ ws, y.name = x.name) : V { s with workers := ws } :=
  ⟨h.n0, h.n1, h.pr, h.jl, hl, h1, h2, h.jn, fun j hj => by
    obtain ⟨a1, a2, a3, a4, a5, a6, a7⟩ := h.jb j hj
    refine ⟨a1, a2, a3, a4, a5, a6, fun e => ?_⟩
    obtain ⟨⟨x, hx, ex⟩, r⟩ := a7 e
    obtain ⟨y, hy, ey⟩ := h3 x hx
    exact ⟨⟨y, hy, ey.trans ex⟩, r⟩, h.jd⟩
theorem V.setWk {s : St} (h : V s) (k : Nat) (hk : k < s.workers.length) (d : Bool) : V { s with workers := s.workers.set k ⟨s.workers[k].name, d⟩ } := by
  refine h.wks _ (by simpa using h.wl) (pw_set_of Wk.name _ k hk _ rfl h.wn) (fun x hx => ?_) (fun x hx => ?_)
  · rcases List.mem_or_eq_of_mem_set hx with hx | rfl
    · exact h.wo x hx
    · exact (show nameOk s.workers[k].name = true from h.wo _ (List.getElem_mem hk))
  · obtain ⟨i, hi, rfl⟩ := List.mem_iff_getElem.1 hx
    by_cases e : k = i
    · subst e
      exact ⟨_, List.mem_set hk _, rfl⟩
    · exact ⟨s.workers[i], by rw [List.mem_iff_getElem]; exact ⟨i, by simpa using hi, by rw [List.getElem_set, if_neg e]⟩, rfl⟩
theorem V.join {s : St} (h : V s) (x : ByteArray) (hx : nameOk x = true) : V (joinS s x) := by
  unfold joinS
  by_cases h1 : wkIdx s.workers x < 0
  · rw [if_pos h1]
    by_cases h2 : 32 ≤ s.workers.length
    · rw [if_pos h2]; exact h
    rw [if_neg h2]
    have hno := idx_mem (fun y : Wk => strEq y.name x) s.workers h1
    refine h.wks _ (by simp; omega) ?_ (fun y hy => ?_) (fun y hy => ⟨y, List.mem_append_left _ hy, rfl⟩)
    · rw [List.pairwise_append]
      refine ⟨h.wn, by simp, fun a ha b hb => ?_⟩
      simp at hb
      rw [hb]
      exact strEq_no.1 (hno a ha)
    · rcases List.mem_append.1 hy with hy | hy
      · exact h.wo y hy
      · simp at hy; rw [hy]; exact hx
  · rw [if_neg h1]
    obtain ⟨k, hk, e1, e2, -⟩ := idx_get (fun y : Wk => strEq y.name x) s.workers h1
    unfold wkIdx
    rw [e2, e1]
    simp only
    cases s.workers[k].dead with
    | true => exact h.setWk k hk false
    | false => exact h
theorem aliveE_zero {ws : List Wk} {x : ByteArray} (h : aliveE ws x = 0) : ∃ (k : Nat) (hk : k < ws.length), (wkIdx ws x).toNat = k ∧ ws[k].name = x ∧ ws[(wkIdx ws x).toNat]? = some ws[k] := by
  unfold aliveE at h
  by_cases h1 : wkIdx ws x < 0
  · rw [if_pos h1] at h; exact absurd h (by decide)
  · obtain ⟨k, hk, e1, e2, e3⟩ := idx_get (fun y : Wk => strEq y.name x) ws h1
    exact ⟨k, hk, e1, strEq_iff.1 e3, e2⟩
theorem V.die {s : St} (h : V s) (x : ByteArray) : V (dieS s x) := by
  unfold dieS
  by_cases h0 : aliveE s.workers x = 0
  · rw [if_pos h0]
    obtain ⟨k, hk, e1, -, e2⟩ := aliveE_zero h0
    rw [e2, e1]
    exact h.setWk k hk true
  · rw [if_neg h0]; exact h
theorem readyL_mem {s : St} {k : Nat} (h : k ∈ readyL s) : ∃ hk : k < s.jobs.length, readyAt s s.jobs[k] = true := by
  unfold readyL at h
  rw [List.mem_filter, List.mem_range] at h
  refine ⟨h.1, ?_⟩
  have := h.2
  rw [readyK, List.getElem?_eq_getElem h.1] at this
  exact this
theorem readyAt_iff (s : St) (j : Jb) : readyAt s j = true ↔ j.done = false ∧ j.worker = ⟨#[]⟩ ∧ j.tries < 3 ∧ hasAll s.present j.needs = true := by
  unfold readyAt
  simp only [Bool.and_eq_true, Bool.not_eq_true', strEq_iff, decide_eq_true_eq, and_assoc]
theorem pollE_zero {s : St} {x : ByteArray} (h : pollE s x = 0) : aliveE s.workers x = 0 ∧ ∀ j ∈ s.jobs, j.worker ≠ x := by
  unfold pollE at h
  by_cases h0 : aliveE s.workers x = 0
  · refine ⟨h0, fun j hj => ?_⟩
    rw [if_neg (by simpa using h0)] at h
    cases ha : s.jobs.any (fun j => strEq j.worker x) with
    | true => rw [ha] at h; exact absurd h (by decide)
    | false => exact strEq_no.1 (by simpa using (List.any_eq_false.1 ha) j hj)
  · rw [if_pos (by simpa using h0)] at h; exact absurd h h0
theorem V.give {s : St} (h : V s) (x : ByteArray) (hx : x ≠ ⟨#[]⟩) (h0 : pollE s x = 0) (k : Nat) (hk : k ∈ readyL s) : V (giveS s x k) := by
  obtain ⟨hl, hr⟩ := readyL_mem hk
  obtain ⟨r1, r2, r3, -⟩ := (readyAt_iff _ _).1 hr
  obtain ⟨h1, h2⟩ := pollE_zero h0
  obtain ⟨i, hi, -, e, -⟩ := aliveE_zero h1
  unfold giveS
  rw [List.getElem?_eq_getElem hl]
  obtain ⟨a1, a2, a3, a4, a5, a6, a7⟩ := h.jb _ (List.getElem_mem hl)
  exact h.setJob k hl _ rfl ⟨a1, a2, a3, a4, a5, fun e => absurd e hx, fun _ => ⟨⟨_, List.getElem_mem hi, e⟩, r1, by simp; omega, by simp, r3⟩⟩ (fun y hy _ => h2 y hy) (fun y hy _ e => h2 y hy e.symm)
theorem V.poll {s : St} (h : V s) (x : ByteArray) (hx : nameOk x = true) : V (pollS s x) := by
  unfold pollS
  by_cases h0 : pollE s x = 0
  · rw [if_pos h0]
    cases hr : readyL s with
    | nil => exact h
    | cons k l => exact h.give x (name_ne hx) h0 k (by rw [hr]; exact List.mem_cons_self)
  · rw [if_neg h0]; exact h
theorem endE_zero {s : St} {e : Ev} (h : endE s e = 0) : aliveE s.workers e.worker = 0 ∧ ∃ (k : Nat) (hk : k < s.jobs.length), (jbIdx s.jobs e.name).toNat = k ∧ s.jobs[k].name = e.name ∧ s.jobs[k].worker = e.worker ∧ s.jobs[(jbIdx s.jobs e.name).toNat]? = some s.jobs[k] := by
  unfold endE at h
  by_cases h0 : aliveE s.workers e.worker = 0
  · rw [if_neg (by simpa using h0)] at h
    refine ⟨h0, ?_⟩
    by_cases h1 : jbIdx s.jobs e.name < 0
    · rw [if_pos h1] at h; exact absurd h (by decide)
    · obtain ⟨k, hk, e1, e2, e3⟩ := idx_get (fun y : Jb => strEq y.name e.name) s.jobs h1
      rw [if_neg h1, show jbIdx s.jobs e.name = idxOf (fun y : Jb => strEq y.name e.name) s.jobs 0 from rfl, e2] at h
      refine ⟨k, hk, e1, strEq_iff.1 e3, ?_, e2⟩
      cases hq : strEq s.jobs[k].worker e.worker with
      | true => exact strEq_iff.1 hq
      | false => simp only [hq] at h; exact absurd h (by decide)
  · rw [if_pos (by simpa using h0)] at h; exact absurd h h0
theorem V.end_ {s : St} (h : V s) (e : Ev) (hx : nameOk e.worker = true) : V (endS s e) := by
  unfold endS
  by_cases h0 : endE s e = 0
  · rw [if_pos h0]
    obtain ⟨-, k, hk, e1, e2, e3, e4⟩ := endE_zero h0
    rw [e4, e1]
    obtain ⟨a1, a2, a3, a4, a5, a6, a7⟩ := h.jb _ (List.getElem_mem hk)
    obtain ⟨b1, b2, b3, b4, b5⟩ := a7 (by rw [e3]; exact name_ne hx)
    refine h.setJob k hk _ (by unfold doneJ; split <;> rfl) ?_ (fun y hy hne => absurd (by unfold doneJ; split <;> rfl) hne) (fun y hy hne e' => hne (by rw [← e']; unfold doneJ; split <;> rfl))
    unfold doneJ
    split
    · exact ⟨a1, a2, a3, a4, fun e => absurd (show true = false from e) (by decide), fun _ => rfl, fun e => absurd rfl e⟩
    · exact ⟨a1, a2, by simp; omega, by simp; omega, a5, fun _ => rfl, fun e => absurd rfl e⟩
  · rw [if_neg h0]; exact h
theorem tickTo_all (s : St) (now : Int) : tickTo s now s.jobs.length = { s with now := now, jobs := s.jobs.map (relJ now) } := by simp [tickTo]
theorem relJ_name (now : Int) (j : Jb) : (relJ now j).name = j.name := by unfold relJ; split <;> rfl
theorem relJ_worker (now : Int) (j : Jb) : (relJ now j).worker = ⟨#[]⟩ ∨ (relJ now j).worker = j.worker := by unfold relJ; split <;> simp
theorem V.tick {s : St} (h : V s) (t : Int) (ht : 1 ≤ t) : V (tickS s t) := by
  unfold tickS
  by_cases h0 : 1099511627776 < s.now + t
  · rw [if_pos h0]; exact h
  rw [if_neg h0, tickTo_all]
  have n0 := h.n0
  refine ⟨by simp; omega, by simp; omega, h.pr, by simpa using h.jl, h.wl, h.wn, h.wo, ?_, fun j hj => ?_, ?_⟩
  · simp only [List.pairwise_map, relJ_name]
    exact h.jn
  · obtain ⟨i, hi, rfl⟩ := List.mem_map.1 hj
    obtain ⟨a1, a2, a3, a4, a5, a6, a7⟩ := h.jb i hi
    unfold relJ
    cases hl : lapsed (s.now + t) i with
    | true => exact ⟨a1, a2, a3, a4, a5, fun _ => rfl, fun e => absurd rfl e⟩
    | false =>
      refine ⟨a1, a2, a3, a4, a5, a6, fun e => ?_⟩
      obtain ⟨b1, b2, b3, b4, b5⟩ := a7 e
      unfold lapsed at hl
      rw [if_neg (by decide)] at e
      rw [strEq_no.2 e] at hl
      simp only [Bool.not_false, Bool.true_and, decide_eq_false_iff_not] at hl
      exact ⟨b1, b2, by simp; omega, by simp; omega, b5⟩
  · rw [List.pairwise_map]
    refine h.jd.imp fun {a b} hab hne e => ?_
    rcases relJ_worker (s.now + t) b with hb | hb
    · exact hne hb
    · rcases relJ_worker (s.now + t) a with ha | ha
      · rw [ha] at e; exact hne e.symm
      · rw [hb] at hne; rw [ha, hb] at e; exact hab hne e

theorem evOk_kind {e : Ev} (h : evOk e = true) : 1 ≤ e.kind ∧ e.kind ≤ 9 := by
  unfold evOk at h
  repeat' split at h
  all_goals first | omega | (exact absurd h (by decide))
theorem evOk_1 {e : Ev} (h : evOk e = true) (hk : e.kind = 1) : nameOk e.name = true ∧ namesOk e.needs = true := by
  unfold evOk fieldOk restOk at h
  rw [if_pos hk] at h
  simp only [Bool.and_eq_true, if_true] at h
  exact ⟨h.1.1.1, h.2.1.2⟩
theorem evOk_name {e : Ev} (h : evOk e = true) (hk : e.kind = 2 ∨ e.kind = 3) : nameOk e.name = true := by
  unfold evOk fieldOk at h
  rw [if_neg (by omega), if_pos hk] at h
  simp only [Bool.and_eq_true, if_true] at h
  exact h.1.1.1
theorem evOk_worker {e : Ev} (h : evOk e = true) (hk : e.kind = 4 ∨ e.kind = 5 ∨ e.kind = 6 ∨ e.kind = 7 ∨ e.kind = 8) : nameOk e.worker = true := by
  unfold evOk fieldOk at h
  rw [if_neg (by omega), if_neg (by omega)] at h
  split at h
  · simp only [Bool.and_eq_true, if_true] at h; exact h.1.1.2
  split at h
  · simp only [Bool.and_eq_true, if_true] at h; exact h.1.1.2
  split at h
  · simp only [Bool.and_eq_true, if_true] at h; exact h.1.1.2
  omega
theorem evOk_ticks {e : Ev} (h : evOk e = true) (hk : e.kind = 9) : 1 ≤ e.ticks ∧ e.ticks ≤ 1000 := by
  unfold evOk ticksOk at h
  rw [if_neg (by omega), if_neg (by omega), if_neg (by omega), if_neg (by omega), if_neg (by omega), if_pos hk] at h
  simp only [Bool.and_eq_true, if_true, decide_eq_true_eq] at h
  exact h.1.2
theorem V.per {s : St} (h : V s) {e : Ev} (he : evOk e = true) : V (perS s e) := by
  have hk := evOk_kind he
  unfold perS
  by_cases k1 : e.kind = 1
  · rw [if_pos k1]; exact h.submit _ _ (evOk_1 he k1).1 (evOk_1 he k1).2
  rw [if_neg k1]
  by_cases k2 : e.kind = 2
  · rw [if_pos k2]; exact h.arrive _ (evOk_name he (.inl k2))
  rw [if_neg k2]
  by_cases k3 : e.kind = 3
  · rw [if_pos k3]; exact h.leave _
  rw [if_neg k3]
  by_cases k4 : e.kind = 4
  · rw [if_pos k4]; exact h.join _ (evOk_worker he (by omega))
  rw [if_neg k4]
  by_cases k5 : e.kind = 5
  · rw [if_pos k5]; exact h.die _
  rw [if_neg k5]
  by_cases k6 : e.kind = 6
  · rw [if_pos k6]; exact h.poll _ (evOk_worker he (by omega))
  rw [if_neg k6]
  by_cases k7 : e.kind = 7 ∨ e.kind = 8
  · rw [if_pos k7]; exact h.end_ _ (evOk_worker he (by omega))
  rw [if_neg k7]
  exact h.tick _ (evOk_ticks he (by omega)).1
end Go.Proofs.YtnefbeplgfdkkaaGreatDoor
