/-
  FarmLives in plain words. No program here.
-/
import Derived.Test.YtnefbeplgfdkkaaDoorEvsP
namespace Go.Proofs.YtnefbeplgfdkkaaDoor

/-! What every history of such events keeps. -/
structure Hist (s : St) (k : Nat) : Prop where
  now : s.now ≤ 12 * k
  pr : ∀ x ∈ s.present, x ∈ media2
  wk : ∀ x ∈ s.workers, x.name ∈ wks3
  nd : ∀ j ∈ s.jobs, ∀ n ∈ j.needs, n ∈ media2
theorem Hist.zero : Hist zeroSt 0 := ⟨Int.le_refl _, fun _ h => (by cases h), fun _ h => (by cases h), fun _ h => (by cases h)⟩
theorem Hist.mono {s : St} {k k' : Nat} (h : Hist s k) (hk : k ≤ k') : Hist s k' := ⟨by have := h.now; omega, h.pr, h.wk, h.nd⟩
theorem Hist.set {s : St} {k : Nat} (h : Hist s k) (i : Nat) (hi : i < s.jobs.length) (x : Jb) (hx : x.needs = s.jobs[i].needs) : Hist { s with jobs := s.jobs.set i x } k :=
  ⟨h.now, h.pr, h.wk, fun j hj => by
    rcases List.mem_or_eq_of_mem_set hj with hj | rfl
    · exact h.nd j hj
    · rw [hx]; exact h.nd _ (List.getElem_mem hi)⟩
theorem Hist.setWk {s : St} {k : Nat} (h : Hist s k) (i : Nat) (x : Wk) (hx : x.name ∈ wks3) : Hist { s with workers := s.workers.set i x } k :=
  ⟨h.now, h.pr, fun j hj => by
    rcases List.mem_or_eq_of_mem_set hj with hj | rfl
    · exact h.wk j hj
    · exact hx, h.nd⟩
theorem Hist.per {s : St} {k : Nat} (h : Hist s k) {e : Ev} (g : GenEv e) : Hist (perS s e) (k + 1) := by
  have hk := evOk_kind g.ok
  refine Hist.mono (k := if e.kind = 9 then k + 1 else k) ?_ (by split <;> omega)
  unfold perS
  by_cases k1 : e.kind = 1
  · rw [if_pos k1, if_neg (by omega)]
    unfold submitS
    split
    · exact h
    split
    · exact h
    refine ⟨h.now, h.pr, h.wk, fun j hj => ?_⟩
    rcases List.mem_append.1 hj with hj | hj
    · exact h.nd j hj
    · simp only [List.mem_cons, List.not_mem_nil, or_false] at hj
      rw [hj]
      exact g.needs k1
  rw [if_neg k1]
  by_cases k2 : e.kind = 2
  · rw [if_pos k2, if_neg (by omega)]
    unfold arriveS
    split
    · exact h
    split
    · exact h
    refine ⟨h.now, fun x hx => ?_, h.wk, h.nd⟩
    unfold insAt at hx
    rcases List.mem_append.1 hx with hx | hx
    · exact h.pr x (List.mem_of_mem_take hx)
    · rcases List.mem_cons.1 hx with rfl | hx
      · exact g.media k2
      · exact h.pr x (List.mem_of_mem_drop hx)
  rw [if_neg k2]
  by_cases k3 : e.kind = 3
  · rw [if_pos k3, if_neg (by omega)]
    unfold leaveS
    split
    · exact ⟨h.now, fun x hx => h.pr x (List.mem_of_mem_eraseIdx hx), h.wk, h.nd⟩
    · exact h
  rw [if_neg k3]
  by_cases k4 : e.kind = 4
  · rw [if_pos k4, if_neg (by omega)]
    unfold joinS
    by_cases h1 : wkIdx s.workers e.worker < 0
    · rw [if_pos h1]
      split
      · exact h
      refine ⟨h.now, h.pr, fun x hx => ?_, h.nd⟩
      rcases List.mem_append.1 hx with hx | hx
      · exact h.wk x hx
      · simp only [List.mem_cons, List.not_mem_nil, or_false] at hx
        rw [hx]
        exact g.worker k4
    · rw [if_neg h1]
      obtain ⟨i, hi, e1, e2, -⟩ := idx_get (fun y : Wk => strEq y.name e.worker) s.workers h1
      unfold wkIdx
      rw [e2]
      simp only
      split
      · exact h.setWk _ _ (h.wk s.workers[i] (List.getElem_mem hi))
      · exact h
  rw [if_neg k4]
  by_cases k5 : e.kind = 5
  · rw [if_pos k5, if_neg (by omega)]
    unfold dieS
    by_cases h0 : aliveE s.workers e.worker = 0
    · rw [if_pos h0]
      obtain ⟨i, hi, e1, -, e2⟩ := aliveE_zero h0
      rw [e2]
      exact h.setWk _ _ (h.wk s.workers[i] (List.getElem_mem hi))
    · rw [if_neg h0]; exact h
  rw [if_neg k5]
  by_cases k6 : e.kind = 6
  · rw [if_pos k6, if_neg (by omega)]
    unfold pollS
    split
    · split
      · rename_i i l hr
        obtain ⟨hl, -⟩ := readyL_mem (s := s) (k := i) (by rw [hr]; exact List.mem_cons_self)
        unfold giveS
        rw [List.getElem?_eq_getElem hl]
        exact h.set i hl _ rfl
      · exact h
    · exact h
  rw [if_neg k6]
  by_cases k7 : e.kind = 7 ∨ e.kind = 8
  · rw [if_pos k7, if_neg (by omega)]
    unfold endS
    by_cases h0 : endE s e = 0
    · rw [if_pos h0]
      obtain ⟨-, i, hi, e1, e2, e3, e4⟩ := endE_zero h0
      rw [e4, e1]
      exact h.set i hi _ (by unfold doneJ; split <;> rfl)
    · rw [if_neg h0]; exact h
  rw [if_neg k7, if_pos (by omega)]
  unfold tickS
  have ht := g.ticks (by omega)
  split
  · exact h.mono (by omega)
  · rw [tickTo_all]
    refine ⟨by have := h.now; show s.now + e.ticks ≤ _; omega, h.pr, h.wk, fun j hj => ?_⟩
    obtain ⟨i, hi, rfl⟩ := List.mem_map.1 hj
    have : (relJ (s.now + e.ticks) i).needs = i.needs := by unfold relJ; split <;> rfl
    rw [this]
    exact h.nd i hi
theorem Hist.next {s : St} {k : Nat} (h : Hist s k) {e : Ev} (g : GenEv e) : Hist (nextS s e) (k + 1) := by
  unfold nextS
  split
  · exact h.per g
  · exact h.mono (by omega)
theorem Hist.go : ∀ {s : St} {k : Nat} (_ : Hist s k) (l : List Ev) (_ : ∀ e ∈ l, GenEv e), Hist (goS s l) (k + l.length)
  | _, _, h, [], _ => h
  | s, k, h, e :: l, g => by
    have := Hist.go (h.next (g e List.mem_cons_self)) l (fun x hx => g x (List.mem_cons_of_mem _ hx))
    show Hist (goS (nextS s e) l) _
    rw [List.length_cons, show k + (l.length + 1) = k + 1 + l.length by omega]
    exact this

/-! The last worker. -/
def bLast : ByteArray := ⟨#[108, 97, 115, 116]⟩
def arr0 : Ev := ev 2 ⟨#[109, 48]⟩ ⟨#[]⟩ 0
def arr1 : Ev := ev 2 ⟨#[109, 49]⟩ ⟨#[]⟩ 0
def tick10 : Ev := ev 9 ⟨#[]⟩ ⟨#[]⟩ 10
def joinL : Ev := ev 4 ⟨#[]⟩ bLast 0
def pollL : Ev := ev 6 ⟨#[]⟩ bLast 0
def finL (x : ByteArray) : Ev := ev 7 x bLast 0
def fourL : List Ev := [arr0, arr1, tick10, joinL]
theorem nodup_le {α : Type} [DecidableEq α] : ∀ (l m : List α) (_ : l.Pairwise (· ≠ ·)) (_ : ∀ x ∈ l, x ∈ m), l.length ≤ m.length
  | [], _, _, _ => Nat.zero_le _
  | a :: l, m, hp, hs => by
    rw [List.pairwise_cons] at hp
    have ha := hs a List.mem_cons_self
    have := nodup_le l (m.erase a) hp.2 (fun x hx => (List.mem_erase_of_ne (fun e => hp.1 x hx e.symm)).2 (hs x (List.mem_cons_of_mem _ hx)))
    rw [List.length_erase_of_mem ha] at this
    have := List.length_pos_of_mem ha
    simp only [List.length_cons]
    omega
theorem pre_small (l : List ByteArray) (ha : Asc l) (h : ∀ x ∈ l, x ∈ media2) : l.length ≤ 2 := by
  rw [asc_pw] at ha
  exact nodup_le l media2 (ha.imp (fun {a b} hab e => by rw [e] at hab; exact absurd hab (by rw [strLt_irrefl]; decide))) h
theorem step_of_per {s : St} {e : Ev} (h : V s) (he : evOk e = true) (h0 : perE s e = 0) : stepE s e = 0 ∧ stepS s e = perS s e ∧ stepO s e = perO s e := by
  have h1 : stepE s e = 0 := by
    unfold stepE
    rw [(valid_iff s).2 h, he]
    exact h0
  exact ⟨h1, by unfold stepS; rw [if_pos h1], by unfold stepO; rw [if_pos h1]⟩
theorem there_mem {l : List ByteArray} {x : ByteArray} : there l x = true ↔ x ∈ l := by
  unfold there
  rw [List.any_eq_true]
  constructor
  · rintro ⟨y, hy, e⟩
    rw [← strEq_iff.1 e]
    exact hy
  · intro h
    exact ⟨x, h, strEq_refl x⟩
theorem arrive_ok {s : St} (x : ByteArray) (h : s.present.length ≤ 2) : arriveE s x = 0 ∧ x ∈ (arriveS s x).present ∧ (∀ y ∈ s.present, y ∈ (arriveS s x).present) := by
  unfold arriveE arriveS
  cases ht : there s.present x with
  | true => exact ⟨by simp, by simpa using there_mem.1 ht, fun y hy => by simpa using hy⟩
  | false =>
    rw [if_neg (by decide), if_neg (by omega), if_neg (by decide), if_neg (by omega)]
    refine ⟨rfl, List.mem_append_right _ List.mem_cons_self, fun y hy => ?_⟩
    show y ∈ insAt s.present x
    unfold insAt
    rw [← List.take_append_drop (place s.present x) s.present] at hy
    rcases List.mem_append.1 hy with hy | hy
    · exact List.mem_append_left _ hy
    · exact List.mem_append_right _ (List.mem_cons_of_mem _ hy)
/-- The state before each round of the last loop: n rounds are left. -/
structure Inv (s : St) (n : Nat) : Prop where
  v : V s
  its : ItsOk s
  al : aliveE s.workers bLast = 0
  free : ∀ j ∈ s.jobs, j.worker = ⟨#[]⟩
  med : ∀ j ∈ s.jobs, hasAll s.present j.needs = true
  cnt : (readyL s).length ≤ n
def Fin_ (s : St) : Prop := ∀ j ∈ s.jobs, j.done = true ∨ 3 ≤ j.tries
theorem Inv.fin {s : St} {n : Nat} (h : Inv s n) (h0 : readyL s = []) : Fin_ s := fun j hj => by
  obtain ⟨k, hk, rfl⟩ := List.mem_iff_getElem.1 hj
  by_cases hd : s.jobs[k].done = true
  · exact .inl hd
  · right
    have hn : k ∉ readyL s := by rw [h0]; simp
    have hr : ¬ readyAt s s.jobs[k] = true := fun e => hn (by
      unfold readyL
      rw [List.mem_filter, List.mem_range]
      exact ⟨hk, by rw [readyK, List.getElem?_eq_getElem hk]; exact e⟩)
    rw [readyAt_iff] at hr
    have := h.free _ hj
    have := h.med _ hj
    simp only [Bool.not_eq_true] at hd
    by_cases h3 : s.jobs[k].tries < 3
    · exact absurd ⟨hd, by assumption, h3, by assumption⟩ hr
    · omega
theorem Inv.zero {s : St} (h : Inv s 0) : Fin_ s := h.fin (List.length_eq_zero_iff.1 (Nat.le_zero.1 h.cnt))
theorem no_last : strEq ⟨#[]⟩ bLast = false := by kernel_rfl
theorem pollL_ok : evOk pollL = true := by kernel_rfl
theorem Inv.pollE {s : St} {n : Nat} (h : Inv s n) : pollE s bLast = 0 := by
  unfold Proofs.YtnefbeplgfdkkaaDoor.pollE
  rw [if_neg (by simpa using h.al)]
  have : s.jobs.any (fun j => strEq j.worker bLast) = false := List.any_eq_false.2 (fun j hj => by rw [h.free j hj, no_last]; decide)
  rw [this]
  rfl
theorem jb_at {s : St} (h : V s) (k : Nat) (hk : k < s.jobs.length) : jbIdx s.jobs s.jobs[k].name = (k : Int) := by
  rcases idxOf_range (fun y : Jb => strEq y.name s.jobs[k].name) s.jobs 0 with ⟨-, h1⟩ | ⟨i, hi, h1, h2, h3⟩
  · have := h1 _ (List.getElem_mem hk)
    rw [strEq_refl] at this
    cases this
  · have hn := (List.pairwise_iff_getElem.1 h.jn)
    have he : s.jobs[i].name = s.jobs[k].name := strEq_iff.1 h2
    have : i = k := by
      rcases Nat.lt_trichotomy i k with a | a | a
      · exact absurd he (hn i k hi hk a)
      · exact a
      · exact absurd he.symm (hn k i hk hi a)
    subst this
    rw [jbIdx, h1]
    simp
theorem readyL_done {s s' : St} (k : Nat) (l : List Nat) (hr : readyL s = k :: l) (hl : s'.jobs.length = s.jobs.length) (h1 : ∀ i, i ≠ k → readyK s' i = readyK s i) (h2 : readyK s' k = false) : (readyL s').length ≤ l.length := by
  have e : readyL s' = (readyL s).filter (fun i => decide (i ≠ k)) := by
    unfold readyL
    rw [List.filter_filter, hl]
    apply List.filter_congr
    intro i _
    by_cases hi : i = k
    · subst hi; rw [h2]; simp
    · rw [h1 i hi]; simp [hi]
  rw [e, hr]
  simp only [List.filter_cons, ne_eq, not_true_eq_false, decide_false, Bool.false_eq_true, if_false]
  exact List.length_filter_le _ _
theorem Inv.round {s : St} {n : Nat} (h : Inv s (n + 1)) : stepE s pollL = 0 ∧ ((stepO s pollL = [] ∧ Fin_ (stepS s pollL) ∧ V (stepS s pollL)) ∨ ∃ x, stepO s pollL = [⟨1, x, bLast⟩] ∧ ItsOk (stepS s pollL) ∧ stepE (stepS s pollL) (finL x) = 0 ∧ Inv (stepS (stepS s pollL) (finL x)) n) := by
  have hp := h.pollE
  obtain ⟨e1, e2, e3⟩ := step_of_per (e := pollL) h.v pollL_ok (show Proofs.YtnefbeplgfdkkaaDoor.pollE s bLast = 0 from hp)
  refine ⟨e1, ?_⟩
  have hS : stepS s pollL = pollS s bLast := e2
  have hO : stepO s pollL = pollO s bLast := e3
  have hit : ItsOk (stepS s pollL) := h.its.step ItOk.nil
  have hv : V (stepS s pollL) := by rw [hS]; exact h.v.poll _ (by kernel_rfl)
  cases hr : readyL s with
  | nil =>
    left
    have e4 : pollS s bLast = s := by unfold pollS; rw [if_pos hp, hr]
    have e5 : pollO s bLast = [] := by unfold pollO; rw [if_pos hp, hr]
    exact ⟨by rw [hO, e5], by rw [hS, e4]; exact h.fin hr, hv⟩
  | cons k l =>
    right
    obtain ⟨hk, hra⟩ := readyL_mem (s := s) (k := k) (by rw [hr]; exact List.mem_cons_self)
    have e4 : pollS s bLast = { s with jobs := s.jobs.set k { s.jobs[k] with worker := bLast, until_ := s.now + 10 } } := by
      unfold pollS giveS
      rw [if_pos hp, hr]
      simp only
      rw [List.getElem?_eq_getElem hk]
    have e5 : pollO s bLast = [⟨1, s.jobs[k].name, bLast⟩] := by
      unfold pollO nameAt
      rw [if_pos hp, hr]
      simp only
      rw [List.getElem?_eq_getElem hk]
    obtain ⟨s', hs'⟩ : ∃ s', s' = stepS s pollL := ⟨_, rfl⟩
    rw [← hs'] at hv hit ⊢
    have hs1 : s' = { s with jobs := s.jobs.set k { s.jobs[k] with worker := bLast, until_ := s.now + 10 } } := by rw [hs', hS, e4]
    have hk' : k < s'.jobs.length := by rw [hs1]; simpa using hk
    have hjk : s'.jobs[k] = { s.jobs[k] with worker := bLast, until_ := s.now + 10 } := by
      subst hs1; simp
    have hidx : jbIdx s'.jobs s.jobs[k].name = (k : Int) := by
      have := jb_at hv k hk'
      rw [hjk] at this
      exact this
    have hal : aliveE s'.workers bLast = 0 := by rw [hs1]; exact h.al
    have he0 : endE s' (finL s.jobs[k].name) = 0 := by
      unfold endE
      rw [if_neg (by simpa using (show aliveE s'.workers (finL s.jobs[k].name).worker = 0 from hal))]
      rw [show jbIdx s'.jobs (finL s.jobs[k].name).name = (k : Int) from hidx, if_neg (by omega), show ((k : Int)).toNat = k from rfl, List.getElem?_eq_getElem hk', hjk]
      simp only [show (finL s.jobs[k].name).worker = bLast from rfl, strEq_refl, if_true]
    have hno : nameOk s.jobs[k].name = true := (h.v.jb _ (List.getElem_mem hk)).1
    have hev : evOk (finL s.jobs[k].name) = true := by
      unfold evOk fieldOk
      simp only [finL, ev, hno]
      kernel_rfl
    obtain ⟨f1, f2, -⟩ := step_of_per (e := finL s.jobs[k].name) hv hev he0
    refine ⟨s.jobs[k].name, by rw [hO, e5], hit, f1, ?_⟩
    have hS2 : stepS s' (finL s.jobs[k].name) = { s with jobs := s.jobs.set k { s.jobs[k] with worker := ⟨#[]⟩, until_ := 0, done := true, items := [] } } := by
      rw [f2]
      show endS s' (finL s.jobs[k].name) = _
      unfold endS
      rw [if_pos he0, show jbIdx s'.jobs (finL s.jobs[k].name).name = (k : Int) from hidx, show ((k : Int)).toNat = k from rfl, List.getElem?_eq_getElem hk', hjk, hs1]
      simp only [List.set_set]
      rfl
    have hvv : V (stepS s' (finL s.jobs[k].name)) := by rw [f2]; exact hv.per hev
    have hii : ItsOk (stepS s' (finL s.jobs[k].name)) := hit.step ItOk.nil
    rw [hS2] at hvv hii ⊢
    have hmem : ∀ j ∈ s.jobs.set k { s.jobs[k] with worker := ⟨#[]⟩, until_ := 0, done := true, items := [] }, j.worker = ⟨#[]⟩ ∧ hasAll s.present j.needs = true := fun j hj => by
      rcases List.mem_or_eq_of_mem_set hj with hj | rfl
      · exact ⟨h.free j hj, h.med j hj⟩
      · exact ⟨rfl, h.med s.jobs[k] (List.getElem_mem hk)⟩
    refine ⟨hvv, hii, h.al, fun j hj => (hmem j hj).1, fun j hj => (hmem j hj).2, ?_⟩
    have hc := h.cnt
    rw [hr, List.length_cons] at hc
    refine Nat.le_trans (readyL_done (s := s) k l hr (by simp) (fun i hi => ?_) ?_) (by omega)
    · unfold readyK
      simp only
      rw [List.getElem?_set_ne (fun e => hi e.symm)]
      rfl
    · unfold readyK
      simp only
      rw [List.getElem?_set_self hk]
      rfl
theorem tick_free {s : St} (h : V s) (hn : s.now ≤ 1000) : tickE s 10 = 0 ∧ tickS s 10 = { s with now := s.now + 10, jobs := s.jobs.map (relJ (s.now + 10)) } ∧ ∀ j ∈ s.jobs, (relJ (s.now + 10) j).worker = ⟨#[]⟩ := by
  refine ⟨by unfold tickE; rw [if_neg (by omega)], by unfold tickS; rw [if_neg (by omega), tickTo_all], fun j hj => ?_⟩
  unfold relJ lapsed
  by_cases hw : j.worker = ⟨#[]⟩
  · split
    · rfl
    · exact hw
  · obtain ⟨-, -, -, -, -, -, a7⟩ := h.jb j hj
    obtain ⟨-, -, -, b4, -⟩ := a7 hw
    rw [strEq_no.2 hw, show decide (j.until_ ≤ s.now + 10) = true from decide_eq_true b4]
    rfl
theorem wks_last : (wks3.all fun x => !strEq x bLast) = true := by kernel_rfl
theorem join_last {s : St} (hw : ∀ x ∈ s.workers, x.name ∈ wks3) (hl : s.workers.length ≤ 3) : joinE s bLast = 0 ∧ joinS s bLast = { s with workers := s.workers ++ [⟨bLast, false⟩] } ∧ aliveE (s.workers ++ [⟨bLast, false⟩]) bLast = 0 := by
  have hno : ∀ x ∈ s.workers, strEq x.name bLast = false := fun x hx => by
    have := List.all_eq_true.1 wks_last _ (hw x hx)
    simpa using this
  have h1 : wkIdx s.workers bLast < 0 := by
    rcases idxOf_range (fun y : Wk => strEq y.name bLast) s.workers 0 with ⟨h, -⟩ | ⟨i, hi, -, h2, -⟩
    · rw [wkIdx, h]; decide
    · rw [hno _ (List.getElem_mem hi)] at h2; cases h2
  refine ⟨by unfold joinE; rw [if_pos h1, if_neg (by omega)], by unfold joinS; rw [if_pos h1, if_neg (by omega)], ?_⟩
  have h2 : wkIdx (s.workers ++ [⟨bLast, false⟩]) bLast = (s.workers.length : Int) := by
    rw [wkIdx, idxOf_append _ _ _ _ (List.all_eq_true.2 (fun x hx => by rw [hno x hx]; rfl))]
    simp [idxOf, strEq_refl]
  unfold aliveE
  rw [h2, if_neg (by omega), show ((s.workers.length : Int)).toNat = s.workers.length from rfl]
  simp
theorem four_ok (l : List Ev) (hl : l.length ≤ 24) (g : ∀ e ∈ l, GenEv e) : ∃ f : Nat → St, f 0 = goS zeroSt l ∧ (∀ (k : Nat) (e : Ev), fourL[k]? = some e → stepE (f k) e = 0 ∧ stepS (f k) e = f (k + 1)) ∧ (∀ k, k ≤ 4 → ItsOk (f k)) ∧ Inv (f 4) (f 4).jobs.length := by
  have hits : ItsOk (goS zeroSt l) := ItsOk.zero.go _ (fun e he => (g e he).items)
  obtain ⟨s0, hs0⟩ : ∃ s0, s0 = goS zeroSt l := ⟨_, rfl⟩
  have v0 : V s0 := hs0 ▸ V.zero.go l
  have i0 : ItsOk s0 := hs0 ▸ hits
  have h0 : Hist s0 24 := hs0 ▸ (Hist.zero.go l g).mono (by omega)
  rw [← hs0]
  clear hs0 hits
  have a0 := arrive_ok (s := s0) ⟨#[109, 48]⟩ (pre_small _ ((namesOk_iff _).1 v0.pr).2.1 h0.pr)
  have ok0 : evOk arr0 = true := by kernel_rfl
  have ok1 : evOk arr1 = true := by kernel_rfl
  have ok2 : evOk tick10 = true := by kernel_rfl
  have ok3 : evOk joinL = true := by kernel_rfl
  obtain ⟨e0, e0', -⟩ := step_of_per (e := arr0) v0 ok0 a0.1
  have v1 : V (perS s0 arr0) := v0.per ok0
  have i1 : ItsOk (perS s0 arr0) := per_items i0 ItOk.nil
  have h1 : Hist (perS s0 arr0) 25 := h0.per (gen_name 2 ⟨#[109, 48]⟩ (.inl rfl) (by simp [media2]))
  have p1 : (⟨#[109, 48]⟩ : ByteArray) ∈ (perS s0 arr0).present := a0.2.1
  obtain ⟨s1, hs1⟩ : ∃ s1, s1 = perS s0 arr0 := ⟨_, rfl⟩
  rw [← hs1] at e0' v1 i1 h1 p1
  clear hs1
  have a1 := arrive_ok (s := s1) ⟨#[109, 49]⟩ (pre_small _ ((namesOk_iff _).1 v1.pr).2.1 h1.pr)
  obtain ⟨e1, e1', -⟩ := step_of_per (e := arr1) v1 ok1 a1.1
  have v2 : V (perS s1 arr1) := v1.per ok1
  have i2 : ItsOk (perS s1 arr1) := per_items i1 ItOk.nil
  have h2 : Hist (perS s1 arr1) 26 := h1.per (gen_name 2 ⟨#[109, 49]⟩ (.inl rfl) (by simp [media2]))
  have p2 : (⟨#[109, 49]⟩ : ByteArray) ∈ (perS s1 arr1).present ∧ (⟨#[109, 48]⟩ : ByteArray) ∈ (perS s1 arr1).present := ⟨a1.2.1, a1.2.2 _ p1⟩
  obtain ⟨s2, hs2⟩ : ∃ s2, s2 = perS s1 arr1 := ⟨_, rfl⟩
  rw [← hs2] at e1' v2 i2 h2 p2
  clear hs2
  obtain ⟨t1, t2, t3⟩ := tick_free v2 (by have := h2.now; omega)
  obtain ⟨e2, e2', -⟩ := step_of_per (e := tick10) v2 ok2 t1
  have v3 : V (perS s2 tick10) := v2.per ok2
  have i3 : ItsOk (perS s2 tick10) := per_items i2 ItOk.nil
  have q3 : perS s2 tick10 = { s2 with now := s2.now + 10, jobs := s2.jobs.map (relJ (s2.now + 10)) } := t2
  obtain ⟨s3, hs3⟩ : ∃ s3, s3 = perS s2 tick10 := ⟨_, rfl⟩
  rw [← hs3] at e2' v3 i3 q3
  have w3 : s3.workers = s2.workers := by rw [q3]
  have wl3 : s3.workers.length ≤ 3 := by
    have := nodup_le (s2.workers.map Wk.name) wks3 (List.pairwise_map.2 v2.wn) (fun x hx => by
      obtain ⟨y, hy, rfl⟩ := List.mem_map.1 hx
      exact h2.wk y hy)
    rw [w3]
    simpa [wks3] using this
  obtain ⟨j1, j2, j3⟩ := join_last (s := s3) (by rw [w3]; exact h2.wk) wl3
  obtain ⟨e3, e3', -⟩ := step_of_per (e := joinL) v3 ok3 j1
  have v4 : V (perS s3 joinL) := v3.per ok3
  have i4 : ItsOk (perS s3 joinL) := per_items i3 ItOk.nil
  have q4 : perS s3 joinL = { s3 with workers := s3.workers ++ [⟨bLast, false⟩] } := j2
  obtain ⟨s4, hs4⟩ : ∃ s4, s4 = perS s3 joinL := ⟨_, rfl⟩
  rw [← hs4] at e3' v4 i4 q4
  have jobs4 : ∀ j ∈ s4.jobs, ∃ i ∈ s2.jobs, j = relJ (s2.now + 10) i := fun j hj => by
    rw [q4, q3] at hj
    obtain ⟨i, hi, rfl⟩ := List.mem_map.1 hj
    exact ⟨i, hi, rfl⟩
  have pr4 : s4.present = s2.present := by rw [q4, q3]
  have inv : Inv s4 s4.jobs.length := by
    refine ⟨v4, i4, by rw [q4]; exact j3, fun j hj => ?_, fun j hj => ?_, ?_⟩
    · obtain ⟨i, hi, rfl⟩ := jobs4 j hj
      exact t3 i hi
    · obtain ⟨i, hi, rfl⟩ := jobs4 j hj
      have en : (relJ (s2.now + 10) i).needs = i.needs := by unfold relJ; split <;> rfl
      rw [en, pr4]
      unfold hasAll
      rw [List.all_eq_true]
      intro x hx
      have hm := h2.nd i hi x hx
      unfold media2 at hm
      simp only [List.mem_cons, List.not_mem_nil, or_false] at hm
      rcases hm with rfl | rfl
      · exact there_mem.2 p2.2
      · exact there_mem.2 p2.1
    · unfold readyL
      exact Nat.le_trans (List.length_filter_le _ _) (by simp)
  refine ⟨fun k => match k with
    | 0 => s0
    | 1 => s1
    | 2 => s2
    | 3 => s3
    | _ => s4, rfl, fun k e hk => ?_, fun k hk => ?_, inv⟩
  · match k, hk with
    | 0, hk => cases hk; exact ⟨e0, e0'⟩
    | 1, hk => cases hk; exact ⟨e1, e1'⟩
    | 2, hk => cases hk; exact ⟨e2, e2'⟩
    | 3, hk => cases hk; exact ⟨e3, e3'⟩
    | k + 4, hk => simp [fourL] at hk
  · match k, hk with
    | 0, _ => exact i0
    | 1, _ => exact i1
    | 2, _ => exact i2
    | 3, _ => exact i3
    | 4, _ => exact i4
    | k + 5, hk => omega
end Go.Proofs.YtnefbeplgfdkkaaDoor
