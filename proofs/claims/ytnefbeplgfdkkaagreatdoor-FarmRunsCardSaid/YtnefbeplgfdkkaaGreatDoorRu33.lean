/-
  Rows of the call's own whose elements are made anew one after the other; items with all that they hold.
-/
import Derived.Test.YtnefbeplgfdkkaaGreatDoorRu32
import Derived.Test.YtnefbeplgfdkkaaGreatDoorRu25
import Derived.Test.YtnefbeplgfdkkaaGreatDoorRu26
import Derived.Laws.BytesArg
namespace Go.Proofs.YtnefbeplgfdkkaaGreatDoor
open Go.RowKit

/-- A row of the call's own, element by element: element i lies outside T i. -/
def PRow {α : Type} (R : World → (Nat → Prop) → List Value → α → Prop) (w : World) (base : Nat) (ty : TypeId) (sz : Nat) (T : Nat → Nat → Prop) (v : Value) (l : List α) : Prop :=
  ∃ css : List (List Value), css.length = l.length ∧ (∀ cs ∈ css, cs.length = sz) ∧ w.ownsRow base ty sz v l.length css.flatten ∧ ∀ i cs x, css[i]? = some cs → l[i]? = some x → R w (T i) cs x
/-- What such an element keeps to. -/
structure RLaw {α : Type} (R : World → (Nat → Prop) → List Value → α → Prop) : Prop where
  keep : ∀ (w w' : World) (S : Nat → Prop) (cs : List Value) (x : α), R w S cs x → Keep S w w' → R w' S cs x
  sub : ∀ (w : World) (S S' : Nat → Prop) (cs : List Value) (x : α), R w S cs x → (∀ b, S' b → S b) → R w S' cs x
  orr : ∀ (w : World) (S : Nat → Prop) (cs : List Value) (x : α), R w S cs x → R w (orr S w.heap.size) cs x
def UserR (w : World) (S : Nat → Prop) (cs : List Value) (z : List Int) : Prop := ∃ v, cs = [v] ∧ BytesAt w S v z
def UnitR (w : World) (S : Nat → Prop) (cs : List Value) (z : Int × List Int) : Prop := ∃ v, cs = [.int .i64 z.1, v] ∧ BytesAt w S v z.2
theorem userLaw : RLaw UserR := ⟨fun _ _ _ _ _ ⟨v, e, h⟩ k => ⟨v, e, h.keep k⟩, fun _ _ _ _ _ ⟨v, e, h⟩ hS => ⟨v, e, h.sub hS⟩, fun _ _ _ _ ⟨v, e, h⟩ => ⟨v, e, h.orr⟩⟩
theorem unitLaw : RLaw UnitR := ⟨fun _ _ _ _ _ ⟨v, e, h⟩ k => ⟨v, e, h.keep k⟩, fun _ _ _ _ _ ⟨v, e, h⟩ hS => ⟨v, e, h.sub hS⟩, fun _ _ _ _ ⟨v, e, h⟩ => ⟨v, e, h.orr⟩⟩
theorem itmLaw : RLaw ItmOf :=
  ⟨fun _ _ _ _ _ h k => h.keep k,
   fun _ _ _ _ _ ⟨u, s, e, h1, h2, h3, h4⟩ hS => ⟨u, s, e, h1, h2, h3.sub hS (fun _ _ ⟨v, e, hb⟩ => ⟨v, e, hb.sub hS⟩), h4.sub hS (fun _ _ ⟨v, e, hb⟩ => ⟨v, e, hb.sub hS⟩)⟩,
   fun _ _ _ _ ⟨u, s, e, h1, h2, h3, h4⟩ => ⟨u, s, e, h1, h2, h3.orr (by decide) (fun _ _ ⟨v, e, hb⟩ => ⟨v, e, hb.orr⟩), h4.orr (by decide) (fun _ _ ⟨v, e, hb⟩ => ⟨v, e, hb.orr⟩)⟩⟩
section
variable {α : Type} {R : World → (Nat → Prop) → List Value → α → Prop} {w w' : World} {base : Nat} {ty : TypeId} {sz : Nat} {T T' : Nat → Nat → Prop} {v : Value} {l : List α}
theorem PRow.keep (L : RLaw R) {Q : Nat → Prop} (h : PRow R w base ty sz T v l) (k : Keep Q w w') (hQ : ∀ i b, Q b → T i b) (hv : ∀ b, v.ownBlock = some b → ¬ Q b) : PRow R w' base ty sz T v l := by
  obtain ⟨css, h1, h2, h3, h4⟩ := h
  exact ⟨css, h1, h2, own_keep h3 k hv, fun i cs x hi hx => L.keep _ _ _ _ _ (h4 i cs x hi hx) (k.mono (hQ i))⟩
theorem PRow.sub (L : RLaw R) (h : PRow R w base ty sz T v l) (hT : ∀ i, i < l.length → ∀ b, T' i b → T i b) : PRow R w base ty sz T' v l := by
  obtain ⟨css, h1, h2, h3, h4⟩ := h
  exact ⟨css, h1, h2, h3, fun i cs x hi hx => L.sub _ _ _ _ _ (h4 i cs x hi hx) (hT i (List.getElem?_eq_some_iff.1 hx).1)⟩
theorem PRow.orr (L : RLaw R) (h : PRow R w base ty sz T v l) : PRow R w base ty sz (fun i => orr (T i) w.heap.size) v l := by
  obtain ⟨css, h1, h2, h3, h4⟩ := h
  exact ⟨css, h1, h2, h3, fun i cs x hi hx => L.orr _ _ _ _ (h4 i cs x hi hx)⟩
theorem PRow.elems (L : RLaw R) {S : Nat → Prop} (h : PRow R w base ty sz T v l) (hv : ∀ b, v.ownBlock = some b → ¬ S b) (hT : ∀ i, i < l.length → ∀ b, S b → T i b) : ElemsOf w S sz (R w S) v l := by
  obtain ⟨css, h1, h2, h3, h4⟩ := h
  obtain ⟨A, c, rfl, r⟩ := own_rowB h3 hv
  exact ElemsOf.of_row rfl h1 h2 r (fun i cs x hi hx => L.sub _ _ _ _ _ (h4 i cs x hi hx) (hT i (List.getElem?_eq_some_iff.1 hx).1))
/-- A store into one cell of one element. -/
theorem PRow.set (L : RLaw R) {b c : Nat} (h : PRow R w base ty sz T (.slice (some ⟨b, 0, none⟩) l.length c) l) (k : Nat) (hk : k < l.length) (r : Nat) (hr : r < sz) (u : Value) (hTb : ∀ i, T i b) (hT : ∀ i, i ≠ k → ∀ z, T' i z → T i z)
    (hx : ∀ cs, R (w.setCell ⟨b, k * sz + r, none⟩ u) (T k) cs l[k] → R (w.setCell ⟨b, k * sz + r, none⟩ u) (T' k) (cs.set r u) l[k]) : PRow R (w.setCell ⟨b, k * sz + r, none⟩ u) base ty sz T' (.slice (some ⟨b, 0, none⟩) l.length c) l := by
  obtain ⟨css, h1, h2, h3, h4⟩ := h
  have kb : Keep (one b) w (w.setCell ⟨b, k * sz + r, none⟩ u) := (Keep.refl (one b) w).setCell (p := ⟨b, k * sz + r, none⟩) (.inl rfl) u
  have hkc : k < css.length := by omega
  have hg : css[k]? = some css[k] := List.getElem?_eq_getElem hkc
  have all : ∀ i cs y, css[i]? = some cs → l[i]? = some y → R (w.setCell ⟨b, k * sz + r, none⟩ u) (T i) cs y := fun i cs y hi hy => L.keep _ _ _ _ _ (h4 i cs y hi hy) (kb.mono (fun z e => by cases e; exact hTb i))
  have hj := own_set h3 (k * sz + r) u
  rw [flatten_set css h2 k css[k] hg r hr u] at hj
  refine ⟨css.set k (css[k].set r u), by simp [h1], fun y hy => ?_, hj, fun i cs y hi hy => ?_⟩
  · rcases List.mem_or_eq_of_mem_set hy with hy | rfl
    · exact h2 y hy
    · rw [List.length_set]; exact h2 _ (List.getElem_mem hkc)
  · simp only [List.getElem?_set] at hi
    by_cases hik : k = i
    · subst hik
      simp only [if_true, hkc, Option.some.injEq] at hi
      rw [List.getElem?_eq_getElem hk, Option.some.injEq] at hy
      rw [← hi, ← hy]
      exact hx _ (all k _ _ hg (List.getElem?_eq_getElem hk))
    · rw [if_neg hik] at hi
      exact L.sub _ _ _ _ _ (all i cs y hi hy) (hT i (fun e => hik e.symm))
/-- The cells of one element. -/
theorem PRow.get {b c : Nat} (h : PRow R w base ty sz T (.slice (some ⟨b, 0, none⟩) l.length c) l) (k : Nat) (hk : k < l.length) : ∃ cs, cs.length = sz ∧ R w (T k) cs l[k] ∧ ∀ r u, r < sz → cs[r]? = some u → w.cell? ⟨b, k * sz + r, none⟩ = some u := by
  obtain ⟨css, h1, h2, h3, h4⟩ := h
  have hkc : k < css.length := by omega
  have hg : css[k]? = some css[k] := List.getElem?_eq_getElem hkc
  refine ⟨css[k], h2 _ (List.getElem_mem hkc), h4 k _ _ hg (List.getElem?_eq_getElem hk), fun r u hr hu => ?_⟩
  obtain ⟨b', cap, cur', eV, -, e2, -, -, -, e6⟩ := own_cases h3 (by omega)
  simp only [Value.slice.injEq, Option.some.injEq, Addr.mk.injEq, and_true, true_and] at eV
  obtain ⟨rfl, -⟩ := eV
  have := flatten_get css h2 k _ hg r hr
  rw [← e6, List.getElem?_take] at this
  rw [e2.cell]
  split at this
  · rw [Array.getElem?_toList] at this
    rw [this, hu]
  · rw [hu] at this; cases this
end
/-- Items, and what they hold, that are small enough to be copied. -/
def ItSz (l : List Itm) : Prop := l.length * 296 ≤ 140737488355328 ∧ ∀ x ∈ l, x.user.length * 24 ≤ 140737488355328 ∧ (∀ z ∈ x.user, z.length ≤ 140737488355328) ∧ x.slices.length * 32 ≤ 140737488355328 ∧ ∀ z ∈ x.slices, z.2.length ≤ 140737488355328
end Go.Proofs.YtnefbeplgfdkkaaGreatDoor
/-
  FarmDone: the plain facts.
-/
namespace Go.Proofs.YtnefbeplgfdkkaaGreatDoor
open Go.RowKit

/-- What an event may do to a job: its name stays; a done job stays done with its items; it becomes done by its worker's finish alone. -/
def JR (e : Ev) (a b : Jb) : Prop := a.name = b.name ∧ (a.done = true → b.done = true ∧ b.items = a.items) ∧ (a.done = false → b.done = true → e.kind = 7 ∧ e.name = a.name ∧ e.worker = a.worker ∧ b.items = e.items)
theorem JR.same {e : Ev} {a b : Jb} (h1 : a.name = b.name) (h2 : b.done = a.done) (h3 : b.items = a.items) : JR e a b := ⟨h1, fun h => ⟨h2.trans h, h3⟩, fun h h' => by rw [h2, h] at h'; cases h'⟩
theorem JR.refl (e : Ev) (a : Jb) : JR e a a := JR.same rfl rfl rfl
def DR (e : Ev) (l l' : List Jb) : Prop := l.length ≤ l'.length ∧ (∀ (i : Nat) (a b : Jb), l[i]? = some a → l'[i]? = some b → JR e a b) ∧ ∀ (i : Nat) (b : Jb), l'[i]? = some b → l.length ≤ i → b.items = []
theorem old_ (P : Prop) {l : List Jb} {i : Nat} {b : Jb} (h : l[i]? = some b) (n : Nat) (hn : l.length = n) (hi : n ≤ i) : P := by
  have := (List.getElem?_eq_some_iff.1 h).1
  omega
theorem DR.refl (e : Ev) (l : List Jb) : DR e l l := ⟨Nat.le_refl _, fun i a b h h' => by rw [h] at h'; cases h'; exact JR.refl e a, fun i b h hi => old_ _ h _ rfl hi⟩
theorem DR.snoc (e : Ev) (l m : List Jb) (hm : ∀ x ∈ m, x.items = []) : DR e l (l ++ m) := ⟨by simp, fun i a b h h' => by
  have hi := (List.getElem?_eq_some_iff.1 h).1
  rw [List.getElem?_append_left hi, h] at h'
  cases h'
  exact JR.refl e a, fun i b h hi => by
  rw [List.getElem?_append_right hi] at h
  exact hm b (List.mem_of_getElem? h)⟩
theorem DR.set (e : Ev) (l : List Jb) (k : Nat) (hk : k < l.length) (x : Jb) (h : JR e l[k] x) : DR e l (l.set k x) := ⟨by simp, fun i a b h1 h2 => by
  by_cases hi : k = i
  · subst hi
    rw [List.getElem?_set_self hk] at h2
    rw [List.getElem?_eq_getElem hk] at h1
    cases h1; cases h2
    exact h
  · rw [List.getElem?_set_ne hi, h1] at h2
    cases h2
    exact JR.refl e a, fun i b h hi => old_ _ h _ (by simp) hi⟩
theorem DR.map (e : Ev) (l : List Jb) (f : Jb → Jb) (h : ∀ a, JR e a (f a)) : DR e l (l.map f) := ⟨by simp, fun i a b h1 h2 => by
  rw [List.getElem?_map, h1] at h2
  cases h2
  exact h a, fun i b h hi => old_ _ h _ (by simp) hi⟩
theorem submit_DR (e : Ev) (s : St) (x : ByteArray) (n : List ByteArray) : DR e s.jobs (submitS s x n).jobs := by
  unfold submitS
  split
  · exact DR.refl e _
  · split
    · exact DR.refl e _
    · exact DR.snoc e _ _ (fun x hx => by simp at hx; rw [hx]; rfl)
theorem arrive_jobs (s : St) (x : ByteArray) : (arriveS s x).jobs = s.jobs := by
  unfold arriveS
  split
  · rfl
  · split <;> rfl
theorem leave_jobs (s : St) (x : ByteArray) : (leaveS s x).jobs = s.jobs := by
  unfold leaveS
  split <;> rfl
theorem join_jobs (s : St) (x : ByteArray) : (joinS s x).jobs = s.jobs := by
  unfold joinS
  split
  · split <;> rfl
  · split
    · split <;> rfl
    · rfl
theorem die_jobs (s : St) (x : ByteArray) : (dieS s x).jobs = s.jobs := by
  unfold dieS
  split
  · split <;> rfl
  · rfl
theorem poll_DR (e : Ev) (s : St) (x : ByteArray) : DR e s.jobs (pollS s x).jobs := by
  unfold pollS
  split
  · split
    · rename_i k r hr
      unfold giveS
      have hk : k ∈ readyL s := by rw [hr]; exact List.mem_cons_self
      obtain ⟨hl, -⟩ := readyL_mem hk
      rw [List.getElem?_eq_getElem hl]
      exact DR.set e _ k hl _ (JR.same rfl rfl rfl)
    · exact DR.refl e _
  · exact DR.refl e _
theorem end_DR {s : St} (h : V s) {e : Ev} (hw : nameOk e.worker = true) : DR e s.jobs (endS s e).jobs := by
  unfold endS
  by_cases h0 : endE s e = 0
  · rw [if_pos h0]
    obtain ⟨-, k, hk, e1, e2, e3, e4⟩ := endE_zero h0
    rw [e4, e1]
    refine DR.set e _ k hk _ ?_
    obtain ⟨-, -, -, -, -, -, a7⟩ := h.jb _ (List.getElem_mem hk)
    obtain ⟨-, hd, -⟩ := a7 (by rw [e3]; exact name_ne hw)
    unfold doneJ
    split
    · rename_i h7
      exact ⟨rfl, (fun h => by rw [hd] at h; cases h), fun _ _ => ⟨h7, e2.symm, e3.symm, rfl⟩⟩
    · exact JR.same rfl rfl rfl
  · rw [if_neg h0]; exact DR.refl e _
theorem tick_DR (e : Ev) (s : St) (t : Int) : DR e s.jobs (tickS s t).jobs := by
  unfold tickS
  split
  · exact DR.refl e _
  · rw [tickTo_all]
    exact DR.map e _ _ (fun a => by unfold relJ; split <;> exact JR.same rfl rfl rfl)
theorem per_DR {s : St} (h : V s) {e : Ev} (he : evOk e = true) : DR e s.jobs (perS s e).jobs := by
  have hk := evOk_kind he
  unfold perS
  by_cases k1 : e.kind = 1
  · rw [if_pos k1]; exact submit_DR _ _ _ _
  rw [if_neg k1]
  by_cases k2 : e.kind = 2
  · rw [if_pos k2, arrive_jobs]; exact DR.refl _ _
  rw [if_neg k2]
  by_cases k3 : e.kind = 3
  · rw [if_pos k3, leave_jobs]; exact DR.refl _ _
  rw [if_neg k3]
  by_cases k4 : e.kind = 4
  · rw [if_pos k4, join_jobs]; exact DR.refl _ _
  rw [if_neg k4]
  by_cases k5 : e.kind = 5
  · rw [if_pos k5, die_jobs]; exact DR.refl _ _
  rw [if_neg k5]
  by_cases k6 : e.kind = 6
  · rw [if_pos k6]; exact poll_DR _ _ _
  rw [if_neg k6]
  by_cases k7 : e.kind = 7 ∨ e.kind = 8
  · rw [if_pos k7]; exact end_DR h (evOk_worker he (by omega))
  rw [if_neg k7]
  exact tick_DR _ _ _
theorem stepE_zero {s : St} {e : Ev} (h0 : stepE s e = 0) : evOk e = true ∧ perE s e = 0 := by
  unfold stepE at h0
  by_cases h : (validF s && evOk e) = true
  · rw [if_pos h] at h0
    exact ⟨(Bool.and_eq_true_iff.1 h).2, h0⟩
  · rw [if_neg h] at h0
    cases h0
theorem step_V {s : St} (hv : V s) {e : Ev} (h0 : stepE s e = 0) : V (stepS s e) := by
  unfold stepS
  rw [if_pos h0]
  exact hv.per (stepE_zero h0).1
theorem step_DR {s : St} (hv : V s) {e : Ev} (h0 : stepE s e = 0) : DR e s.jobs (stepS s e).jobs := by
  unfold stepS
  rw [if_pos h0]
  exact per_DR hv (stepE_zero h0).1
/-- Items that end a stream. -/
def EndI (l : List Itm) : Prop := ∀ x ∈ l, x.flat[0]? = some (.int .i64 4)
def EndS (s : St) : Prop := ∀ j ∈ s.jobs, EndI j.items
theorem step_End {s : St} (hv : V s) {e : Ev} (h0 : stepE s e = 0) (hs : EndS s) (he : EndI e.items) : EndS (stepS s e) := by
  intro b hb
  obtain ⟨i, hbi⟩ := List.mem_iff_getElem?.1 hb
  obtain ⟨-, d2, d3⟩ := step_DR hv h0
  by_cases hl : i < s.jobs.length
  · obtain ⟨-, r2, r3⟩ := d2 i s.jobs[i] b (List.getElem?_eq_getElem hl) hbi
    have ha := hs _ (List.getElem_mem hl)
    cases hd : s.jobs[i].done with
    | true => rw [(r2 hd).2]; exact ha
    | false =>
      cases hd' : b.done with
      | true => rw [(r3 hd hd').2.2.2]; exact he
      | false =>
        obtain ⟨-, -, -, -, a5, -, -⟩ := (step_V hv h0).jb b hb
        rw [a5 hd']
        exact fun _ h => by cases h
  · rw [d3 i b hbi (by omega)]
    exact fun _ h => by cases h
end Go.Proofs.YtnefbeplgfdkkaaGreatDoor
/-
  cutroomref12.SameItems of a list and itself.
-/
namespace Go.Proofs.YtnefbeplgfdkkaaGreatDoor
open Go.RowKit

/-- SameItem says yes of this item and itself. -/
def SameOk (x : Itm) : Prop := ∀ (w : World) (S S' : Nat → Prop) (cs cs' : Array Value), ItmOf w S cs.toList x → ItmOf w S' cs'.toList x →
  Calls Tryz.prog 55 #[.agg cs, .agg cs'] w fun e w' => e = .returned (.bool true) ∧ Keep none_ w w'
theorem ItmOf.kind {w : World} {S : Nat → Prop} {cs : Array Value} {x : Itm} (h : ItmOf w S cs.toList x) {v : Value} (hv : x.flat[0]? = some v) : cs[0]? = some v ∧ cs[147]? = some (.int .i64 x.pad) ∧ cs.size = 148 ∧ ∀ u ∈ cs.toList, u.oneCell' = true := by
  obtain ⟨u, s, e, hl, ho, hu, hs⟩ := h
  have e0 : cs.toList[0]? = some v := by rw [e, List.getElem?_append_left (by omega), hv]
  have e1 : cs.toList[147]? = some (.int .i64 x.pad) := by rw [e, List.getElem?_append_right (by omega), hl]; rfl
  have e2 : cs.toList.length = 148 := by rw [e]; simp [hl]
  refine ⟨by simpa using e0, by simpa using e1, by simpa using e2, fun z hz => ?_⟩
  rw [e] at hz
  rcases List.mem_append.1 hz with hz | hz
  · exact ho z hz
  · obtain ⟨A, n, c, rfl, -⟩ := hu
    obtain ⟨A', n', c', rfl, -⟩ := hs
    simp only [List.mem_cons, List.not_mem_nil, or_false] at hz
    rcases hz with rfl | rfl | rfl <;> rfl

set_option maxRecDepth 100000 in
set_option maxHeartbeats 1000000 in
theorem sameItem_end (x : Itm) (h4 : x.flat[0]? = some (.int .i64 4)) : SameOk x := by
  intro w S S' cs cs' h h'
  obtain ⟨c0, c1, c2, c3⟩ := h.kind h4
  obtain ⟨d0, d1, d2, d3⟩ := h'.kind h4
  obtain ⟨W1, hW1⟩ : ∃ W1, W1 = (w.alloc (.cells cs 72)).alloc (.cells cs' 72) := ⟨_, rfl⟩
  have k1 : Keep none_ w W1 := hW1 ▸ ((Keep.refl none_ w).alloc _).alloc _
  obtain ⟨b0, b1, -⟩ := two (Keep.refl none_ ((w.alloc (.cells cs 72)).alloc (.cells cs' 72)))
  rw [← hW1] at b0 b1
  have y0 := (b0.cell 0).trans c0
  have y1 := (b0.cell 147).trans c1
  have z0 := (b1.cell 0).trans d0
  have z1 := (b1.cell 147).trans d1
  have K1 := Lib.hid k1
  clear h h' c0 c1 d0 d1 b0 b1 k1 c2 c3 d2 d3
  go_enter Tryz.func55, Tryz.ntmps55
  go_upto_region 1 with (fail)
  rw [← hW1]
  clear hW1
  go_wp2
  go_ret
  exact ⟨rfl, K1.out⟩

set_option maxRecDepth 100000 in
set_option maxHeartbeats 1000000 in
theorem sameItems_any (l : List Itm) (hl : ∀ x ∈ l, SameOk x) (v v' : Value) (S S' : Nat → Prop) (w : World) (h : ItemsOf w S v l) (h' : ItemsOf w S' v' l) :
    Calls Tryz.prog 23 #[v, v'] w fun e w' => e = .returned (.bool true) ∧ Keep none_ w w' := by
  obtain ⟨A, n, c, rfl, h1, h2, hn, -⟩ := id h
  obtain ⟨A', n', c', rfl, h1', h2', hn', -⟩ := id h'
  obtain rfl : n = n' := by omega
  unfold maxLen at h2 h2'
  have HL := Lib.hid hl
  have H := Lib.hid h
  have H' := Lib.hid h'
  clear h h' hl hn'
  go_enter Tryz.func23, Tryz.ntmps23
  go_wp2_with (fail)
  go_loopw [5] (fun i wr => ∃ k : Nat, k ≤ n ∧ i = .int .i64 k ∧ Keep none_ w wr) (fun i _ => n - (intOf i).toNat)
  case atStart => exact ⟨0, Nat.zero_le _, rfl, Keep.refl _ _⟩
  case round =>
    obtain ⟨k, hk, rfl, hkr⟩ := hrel
    have HK := Lib.hid hkr
    have HR := Lib.hid (H.out.keep (w' := wr) hkr.weak)
    have HR' := Lib.hid (H'.out.keep (w' := wr) hkr.weak)
    clear hkr
    by_cases hlt : k < n
    · have hlt' : (k : Int) < n := by omega
      obtain ⟨b, o, rfl, -, hkl, cs, hcl, hrg, hi⟩ := ElemsOf.elem HR.out k hlt
      obtain ⟨b', o', rfl, -, hkl', cs', hcl', hrg', hi'⟩ := ElemsOf.elem HR'.out k hlt
      have hsm := HL.out _ (List.getElem_mem hkl)
      generalize l[k] = x at hi hi' hsm
      obtain ⟨ca, rfl⟩ : ∃ ca : Array Value, cs = ca.toList := ⟨cs.toArray, by simp⟩
      obtain ⟨ca', rfl⟩ : ∃ ca : Array Value, cs' = ca.toList := ⟨cs'.toArray, by simp⟩
      have R1 := Lib.hid hrg
      have R2 := Lib.hid hrg'
      have SZ := Lib.hid (show (Tryz.prog.info? 72).map (·.size) = some ca.size by rw [show ca.size = 148 by simpa using hcl]; kernel_rfl)
      have SZ' := Lib.hid (show (Tryz.prog.info? 72).map (·.size) = some ca'.size by rw [show ca'.size = 148 by simpa using hcl']; kernel_rfl)
      have SM := Lib.hid (fun (wx : World) (kx : Keep none_ wr wx) => hsm wx none_ none_ ca ca' (hi.weak.keep kx) (hi'.weak.keep kx))
      clear hrg hrg' hi hi' hsm hcl hcl'
      go_upto_region 6 with (fail)
      have gd := callCalm_good wr 8 (.bool true)
      have ne := callCalm_some wr 8 (.bool true)
      have x1 := Lib.hid (fun y => rangeAt_keep R1.out (callCalm_at (wr := wr) (k := 8) (u := .bool true) y) (fun e => e))
      have x2 := Lib.hid (fun y => rangeAt_keep R2.out (callCalm_at (wr := wr) (k := 8) (u := .bool true) y) (fun e => e))
      refine wp_region_calm (callCalm wr 8 (.bool true)) [0, 1, 2, 3, 4, 5, 6, 7, 8, 9] [] 27 (by kernel_rfl) (by kernel_rfl) rfl gd (Keep.refl _ _).drew ?_
      simp only [pairs, List.filterMap_cons, List.filterMap_nil, List.getElem?_toArray, List.getElem?_cons_succ, List.getElem?_cons_zero, Option.map_some]
      repeat (refine Calm.walk_quiet ne rfl rfl rfl (fun K hK => ?_); go_big_quiet_op; refine hK _ ?_; clear hK K)
      refine Calm.walk_load 72 (.tmp 19) rfl ne rfl rfl b (o + k * 148) (by first | rfl | simp) ca _ x1.out Tryz.underlying72 rfl SZ.out ?_
      go_frame
      repeat (refine Calm.walk_quiet ne rfl rfl rfl (fun K hK => ?_); go_big_quiet_op; refine hK _ ?_; clear hK K)
      refine Calm.walk_load 72 (.tmp 23) rfl ne rfl rfl b' (o' + k * 148) (by first | rfl | simp) ca' _ x2.out Tryz.underlying72 rfl SZ'.out ?_
      go_frame
      refine Calm.walk_eff rfl rfl (fun n wy hn hG _ => ?_) ?_
      · have hG' : Keep none_ wr wy := hG
        unfold gives
        go_simp
        refine (SM.out wy hG').mono ?_
        rintro e wz ⟨rfl, kz⟩
        exact ⟨_, rfl, rfl, kz, hG'.trans kz, fun _ h => h.elim⟩
      intro vq wy hT
      obtain rfl : vq = .bool true := hT
      clear wy
      go_frame
      repeat (refine Calm.walk_quiet ne rfl rfl rfl (fun K hK => ?_); go_big_quiet_op; refine hK _ ?_; clear hK K)
      intro w9 hG hD
      have k89 : Keep none_ wr w9 := hG
      have HK9 := Lib.hid (HK.out.trans k89)
      clear hG hD gd ne x1 x2 k89 R1 R2 SM SZ SZ'
      simp only [pickOps, List.filterMap_nil]
      go_wp2
      go_roundw
      case rel => exact ⟨k + 1, hlt, by go_num, HK9.out⟩
      case measure => simp [intOf]; omega
    · obtain rfl : k = n := by omega
      go_wp2
      go_ret
      exact ⟨rfl, HK.out⟩
end Go.Proofs.YtnefbeplgfdkkaaGreatDoor
/-
  cutroomref02.SameBytes, cutroomref03.SameUnits of equal values.
-/
namespace Go.Proofs.YtnefbeplgfdkkaaGreatDoor
open Go.RowKit

theorem bytes_conv {w : World} {S : Nat → Prop} {v : Value} {zs : List Int} (h : BytesAt w S v zs) : (convert 131 9 v).run Tryz.prog w = .ok (.string (strOfNums zs)) w := by
  obtain ⟨A, n, c, rfl, hr⟩ := h
  have hl := hr.len
  rw [List.length_map, Nat.mul_one] at hl
  cases A with
  | none =>
    have h0 : n = 0 := by
      rcases Nat.eq_zero_or_pos n with h | h
      · exact h
      · obtain ⟨b, o, e, -⟩ := hr.at_ h; cases e
    subst h0
    have : zs = [] := List.eq_nil_of_length_eq_zero hl
    subst this
    exact run_convert_bytes_nil w _ _ Tryz.underlying131 Tryz.underlying5 0 c _ Tryz.underlying9
  | some a =>
    have hd : (loadCells a n).run Tryz.prog w = .ok (zs.map (Value.int .u8)).toArray w := by
      have := run_loadCells_list (P := Tryz.prog) w a (zs.map (Value.int .u8)) (fun j u hj => by
        have hn : 0 < n := by
          have := (List.getElem?_eq_some_iff.1 hj).1
          rw [List.length_map] at this
          omega
        obtain ⟨b, o, e, -, hc⟩ := hr.at_ hn
        cases e
        rw [Addr.add_mid]
        exact hc j u hj)
      simpa [hl] using this
    rw [run_convert_bytes_string w _ _ _ _ n c Tryz.underlying131 Tryz.underlying5 Tryz.underlying9, run_bytesToString w a n c zs hd, foldl_push_bytes]
    simp [strOfNums, ByteArray.empty, ByteArray.emptyWithCapacity]
    rfl

set_option maxRecDepth 100000 in
theorem sameBytes_any (zs : List Int) (v v' : Value) (S S' : Nat → Prop) (w : World) (h : BytesAt w S v zs) (h' : BytesAt w S' v' zs) : Calls Tryz.prog 107 #[v, v'] w fun e w' => e = .returned (.bool true) ∧ Keep none_ w w' := by
  have c1 := bytes_conv h
  have c2 := bytes_conv h'
  clear h h'
  go_enter Tryz.func107, Tryz.ntmps107
  go_wp2
  go_ret
  exact ⟨rfl, Keep.refl _ _⟩

set_option maxRecDepth 100000 in
theorem sameUnit_any (z : Int × List Int) (v v' : Value) (S S' : Nat → Prop) (w : World) (h : BytesAt w S v z.2) (h' : BytesAt w S' v' z.2) :
    Calls Tryz.prog 131 #[.agg #[.int .i64 z.1, v], .agg #[.int .i64 z.1, v']] w fun e w' => e = .returned (.bool true) ∧ Keep none_ w w' := by
  obtain ⟨W1, hW1⟩ : ∃ W1, W1 = (w.alloc (.cells #[.int .i64 z.1, v] 163)).alloc (.cells #[.int .i64 z.1, v'] 163) := ⟨_, rfl⟩
  have k1 : Keep none_ w W1 := hW1 ▸ ((Keep.refl none_ w).alloc _).alloc _
  obtain ⟨b0, b1, -⟩ := two (Keep.refl none_ ((w.alloc (.cells #[.int .i64 z.1, v] 163)).alloc (.cells #[.int .i64 z.1, v'] 163)))
  rw [← hW1] at b0 b1
  have y0 := b0.cell 0
  have y1 := b0.cell 1
  have z0 := b1.cell 0
  have z1 := b1.cell 1
  simp only [List.getElem?_toArray, List.getElem?_cons_zero, List.getElem?_cons_succ] at y0 y1 z0 z1
  have K1 := Lib.hid k1
  have SB := Lib.hid (sameBytes_any z.2 v v' S S' W1 (h.keep k1.weak) (h'.keep k1.weak))
  clear h h' b0 b1 k1
  go_enter Tryz.func131, Tryz.ntmps131
  go_upto_region 1 with (fail)
  rw [← hW1]
  clear hW1
  go_wp2_with (go_at_call 107; refine SB.out.mono ?_; rintro e w2 ⟨rfl, k2⟩; have K2 := Lib.hid (K1.out.trans k2); clear k2)
  go_ret
  exact ⟨rfl, K2.out⟩

set_option maxRecDepth 100000 in
set_option maxHeartbeats 1000000 in
theorem sameUnits_any (l : List (Int × List Int)) (v v' : Value) (S S' : Nat → Prop) (w : World) (h : ElemsOf w S 2 (UnitR w S) v l) (h' : ElemsOf w S' 2 (UnitR w S') v' l) :
    Calls Tryz.prog 106 #[v, v'] w fun e w' => e = .returned (.bool true) ∧ Keep none_ w w' := by
  obtain ⟨A, n, c, rfl, h1, h2, hn, -⟩ := id h
  obtain ⟨A', n', c', rfl, h1', h2', hn', -⟩ := id h'
  obtain rfl : n = n' := by omega
  unfold maxLen at h2 h2'
  have H := Lib.hid h
  have H' := Lib.hid h'
  clear h h' hn'
  go_enter Tryz.func106, Tryz.ntmps106
  go_wp2_with (fail)
  go_loopw [5] (fun i wr => ∃ k : Nat, k ≤ n ∧ i = .int .i64 k ∧ Keep none_ w wr) (fun i _ => n - (intOf i).toNat)
  case atStart => exact ⟨0, Nat.zero_le _, rfl, Keep.refl _ _⟩
  case round =>
    obtain ⟨k, hk, rfl, hkr⟩ := hrel
    have HK := Lib.hid hkr
    have HR := Lib.hid (ElemsOf.keep (R' := UnitR wr S) H.out hkr.weak (fun _ e => e) (fun cs x h => unitLaw.keep _ _ _ _ _ h hkr.weak))
    have HR' := Lib.hid (ElemsOf.keep (R' := UnitR wr S') H'.out hkr.weak (fun _ e => e) (fun cs x h => unitLaw.keep _ _ _ _ _ h hkr.weak))
    clear hkr
    by_cases hlt : k < n
    · have hlt' : (k : Int) < n := by omega
      obtain ⟨b, o, rfl, -, hkl, cs, hcl, hrg, hi⟩ := ElemsOf.elem HR.out k hlt
      obtain ⟨b', o', rfl, -, hkl', cs', hcl', hrg', hi'⟩ := ElemsOf.elem HR'.out k hlt
      generalize l[k] = x at hi hi'
      obtain ⟨va, rfl, ha⟩ := hi
      obtain ⟨va', rfl, ha'⟩ := hi'
      have R1 := Lib.hid hrg
      have R2 := Lib.hid hrg'
      have SM := Lib.hid (fun (wx : World) (kx : Keep none_ wr wx) => sameUnit_any x va va' S S' wx (ha.keep kx.weak) (ha'.keep kx.weak))
      clear hrg hrg' ha ha' hcl hcl'
      go_upto_region 6 with (fail)
      have gd := callCalm_good wr 8 (.bool true)
      have ne := callCalm_some wr 8 (.bool true)
      have x1 := Lib.hid (fun y => rangeAt_keep R1.out (callCalm_at (wr := wr) (k := 8) (u := .bool true) y) (fun e => e))
      have x2 := Lib.hid (fun y => rangeAt_keep R2.out (callCalm_at (wr := wr) (k := 8) (u := .bool true) y) (fun e => e))
      refine wp_region_calm (callCalm wr 8 (.bool true)) [0, 1, 2, 3, 4, 5, 6, 7, 8, 9] [] 27 (by kernel_rfl) (by kernel_rfl) rfl gd (Keep.refl _ _).drew ?_
      simp only [pairs, List.filterMap_cons, List.filterMap_nil, List.getElem?_toArray, List.getElem?_cons_succ, List.getElem?_cons_zero, Option.map_some]
      repeat (refine Calm.walk_quiet ne rfl rfl rfl (fun K hK => ?_); go_big_quiet_op; refine hK _ ?_; clear hK K)
      refine Calm.walk_load 163 (.tmp 19) rfl ne rfl rfl b (o + k * 2) (by first | rfl | simp) #[.int .i64 x.1, va] _ x1.out Tryz.underlying163 rfl (by kernel_rfl) ?_
      go_frame
      repeat (refine Calm.walk_quiet ne rfl rfl rfl (fun K hK => ?_); go_big_quiet_op; refine hK _ ?_; clear hK K)
      refine Calm.walk_load 163 (.tmp 23) rfl ne rfl rfl b' (o' + k * 2) (by first | rfl | simp) #[.int .i64 x.1, va'] _ x2.out Tryz.underlying163 rfl (by kernel_rfl) ?_
      go_frame
      refine Calm.walk_eff rfl rfl (fun n wy hn hG _ => ?_) ?_
      · have hG' : Keep none_ wr wy := hG
        unfold gives
        go_simp
        refine (SM.out wy hG').mono ?_
        rintro e wz ⟨rfl, kz⟩
        exact ⟨_, rfl, rfl, kz, hG'.trans kz, fun _ h => h.elim⟩
      intro vq wy hT
      obtain rfl : vq = .bool true := hT
      clear wy
      go_frame
      repeat (refine Calm.walk_quiet ne rfl rfl rfl (fun K hK => ?_); go_big_quiet_op; refine hK _ ?_; clear hK K)
      intro w9 hG hD
      have k89 : Keep none_ wr w9 := hG
      have HK9 := Lib.hid (HK.out.trans k89)
      clear hG hD gd ne x1 x2 k89 R1 R2 SM
      simp only [pickOps, List.filterMap_nil]
      go_wp2
      go_roundw
      case rel => exact ⟨k + 1, hlt, by go_num, HK9.out⟩
      case measure => simp [intOf]; omega
    · obtain rfl : k = n := by omega
      go_wp2
      go_ret
      exact ⟨rfl, HK.out⟩
end Go.Proofs.YtnefbeplgfdkkaaGreatDoor
