/-
  The state that a step of the reference works on: a variable whose lists are its own; with a fact X on the slice of each job's items.
-/
import Derived.Test.YtnefbeplgfdkkaaGreatDoorJb31
import Derived.Test.YtnefbeplgfdkkaaGreatDoorJb32
import Derived.Test.YtnefbeplgfdkkaaGreatDoorJb24
namespace Go.Proofs.YtnefbeplgfdkkaaGreatDoor
open Go.RowKit

/-- The blocks of S, and all from base on. -/
def orr (S : Nat → Prop) (base : Nat) : Nat → Prop := fun b => S b ∨ base ≤ b
/-- The blocks of S, and those from base on that hold neither strings nor items. -/
def stS (S : Nat → Prop) (base : Nat) (w : World) : Nat → Prop := fun b => S b ∨ (base ≤ b ∧ ∃ t cs, Blk w b t cs ∧ t ≠ 9 ∧ t ≠ 72)
theorem stS.back {S : Nat → Prop} {base : Nat} {w w' : World} (k : Keep none_ w w') (b : Nat) (h : stS S base w' b) : orr (stS S base w) w.heap.size b := by
  rcases h with h | ⟨h1, t, cs, h2, h3⟩
  · exact .inl (.inl h)
  · rcases Nat.lt_or_ge b w.heap.size with hl | hl
    · exact .inl (.inr ⟨h1, t, cs, (k.block b hl (fun e => e)).symm.trans h2, h3⟩)
    · exact .inr hl
/-- A step that touches only such blocks. -/
theorem stS.backQ {S Q : Nat → Prop} {base : Nat} {w w' : World} (k : Keep Q w w') (hQ : ∀ b, Q b → stS S base w b) (b : Nat) (h : stS S base w' b) : orr (stS S base w) w.heap.size b := by
  rcases Nat.lt_or_ge b w.heap.size with hl | hl
  · rcases Classical.em (Q b) with hq | hq
    · exact .inl (hQ b hq)
    · rcases h with h | ⟨h1, t, cs, h2, h3⟩
      · exact .inl (.inl h)
      · exact .inl (.inr ⟨h1, t, cs, (k.block b hl hq).symm.trans h2, h3⟩)
  · exact .inr hl
/-- .. and the block of the list of media. -/
def stP (S : Nat → Prop) (base : Nat) (w : World) (vp : Value) : Nat → Prop := fun b => stS S base w b ∨ ofBlk vp b
theorem own_rowB {w : World} {base : Nat} {S : Nat → Prop} {e : TypeId} {size n : Nat} {v : Value} {xs : List Value} (h : w.ownsRow base e size v n xs) (hS : ∀ b, v.ownBlock = some b → ¬ S b) : ∃ A c, v = .slice A n c ∧ Row w S size A n c xs := by
  obtain ⟨A, c, rfl, r⟩ := own_row (S := none_) h (fun _ _ e => e)
  refine ⟨A, c, rfl, r.len, r.le, r.cap, fun hn => ?_⟩
  obtain ⟨b, o, rfl, -, hc⟩ := r.at_ hn
  rcases h.2 with ⟨e1, -⟩ | ⟨g, cap, cur, e1, -⟩
  · cases e1
  · simp only [Value.slice.injEq, Option.some.injEq, Addr.mk.injEq, and_true, true_and] at e1
    obtain ⟨⟨rfl, rfl⟩, rfl⟩ := e1
    exact ⟨b, 0, rfl, hS b rfl, hc⟩
/-- A fact of a job's cells (of where its needs and its items lie), with its laws. -/
structure XP where
  p : (Nat → Prop) → World → List Value → Prop
  keep : ∀ (S : Nat → Prop) (w w' : World) (cs : List Value), p S w cs → Keep S w w' → p S w' cs
  sub : ∀ (S S' : Nat → Prop) (w : World) (cs : List Value), p S w cs → (∀ b, S' b → S b) → p S' w cs
  orr_ : ∀ (S : Nat → Prop) (w : World) (cs : List Value), p S w cs → p (orr S w.heap.size) w cs
  set_ : ∀ (S : Nat → Prop) (w : World) (cs : List Value) (r : Nat) (u : Value), r ≠ 1 → r ≠ 6 → p S w cs → p S w (cs.set r u)
  fresh : ∀ (S : Nat → Prop) (w : World) (base n : Nat) (x : ByteArray) (vn : Value) (xs : List Value), w.ownsRow base 9 1 vn n xs → (∀ b, vn.ownBlock = some b → ¬ S b) → p S w [.string x, vn, .string ⟨#[]⟩, .int .i64 0, .int .i64 0, .bool false, .slice none 0 0]
/-- No fact. -/
def XT : XP := ⟨fun _ _ _ => True, fun _ _ _ _ _ _ => trivial, fun _ _ _ _ _ _ => trivial, fun _ _ _ _ => trivial, fun _ _ _ _ _ _ _ _ => trivial, fun _ _ _ _ _ _ _ _ _ => trivial⟩
/-- A job in memory, with a fact X of its cells. -/
def JbX (X : XP) (w : World) (S : Nat → Prop) (cs : List Value) (j : Jb) : Prop := JbOf w S cs j ∧ X.p S w cs
theorem JbX.keep {X : XP} {w w' : World} {S : Nat → Prop} {cs : List Value} {j : Jb} (h : JbX X w S cs j) (k : Keep S w w') : JbX X w' S cs j := ⟨h.1.keep k, X.keep _ _ _ _ h.2 k⟩
theorem JbX.sub {X : XP} {w : World} {S S' : Nat → Prop} {cs : List Value} {j : Jb} (h : JbX X w S cs j) (hS : ∀ b, S' b → S b) : JbX X w S' cs j := ⟨h.1.sub hS, X.sub _ _ _ _ h.2 hS⟩
/-- A state in memory, with that fact. -/
def StateX (X : XP) (w : World) (S : Nat → Prop) (v : Value) (s : St) : Prop :=
  ∃ vp vj vw, v = .agg #[.int .i64 s.now, vp, vj, vw] ∧ StrsOf w S vp s.present ∧ ElemsOf w S 7 (JbX X w S) vj s.jobs ∧ WorkersOf w S vw s.workers
theorem StateX.state {X : XP} {w : World} {S : Nat → Prop} {v : Value} {s : St} (h : StateX X w S v s) : StateOf w S v s := by
  obtain ⟨a, b, c, e, h1, h2, h3⟩ := h
  exact ⟨a, b, c, e, h1, ElemsOf.sub h2 (fun _ e => e) (fun _ _ h => h.1), h3⟩
theorem StateOf.x {w : World} {S : Nat → Prop} {v : Value} {s : St} (h : StateOf w S v s) : StateX XT w S v s := by
  obtain ⟨a, b, c, e, h1, h2, h3⟩ := h
  exact ⟨a, b, c, e, h1, ElemsOf.sub h2 (fun _ e => e) (fun _ _ h => ⟨h, trivial⟩), h3⟩
theorem StateX.keep {X : XP} {w w' : World} {S : Nat → Prop} {v : Value} {s : St} (h : StateX X w S v s) (k : Keep S w w') : StateX X w' S v s := by
  obtain ⟨a, b, c, e, h1, h2, h3⟩ := h
  exact ⟨a, b, c, e, h1.keep k, ElemsOf.keep h2 k (fun _ e => e) (fun _ _ h => h.keep k), h3.keep k⟩
theorem StateX.sub {X : XP} {w : World} {S S' : Nat → Prop} {v : Value} {s : St} (h : StateX X w S v s) (hS : ∀ b, S' b → S b) : StateX X w S' v s := by
  obtain ⟨a, b, c, e, h1, h2, h3⟩ := h
  exact ⟨a, b, c, e, h1.sub hS, ElemsOf.sub h2 hS (fun _ _ h => h.sub hS), ElemsOf.sub h3 hS (fun _ _ h => h)⟩
theorem Row.orr {w : World} {S : Nat → Prop} {size n c : Nat} {A : Option Addr} {xs : List Value} (h : Row w S size A n c xs) (hsz : 0 < size) : Row w (orr S w.heap.size) size A n c xs :=
  ⟨h.len, h.le, h.cap, fun hn => by
    obtain ⟨b, o, e, hb, hc⟩ := h.at_ hn
    refine ⟨b, o, e, fun e => ?_, hc⟩
    rcases e with e | e
    · exact hb e
    · have hl : 0 < xs.length := by rw [h.len]; exact Nat.mul_pos hn hsz
      have := World.block_lt_of_cell? w _ (hc 0 xs[0] (List.getElem?_eq_getElem hl))
      simp at this
      omega⟩
theorem ElemsOf.orr {α : Type} {w : World} {S : Nat → Prop} {size : Nat} {R R' : List Value → α → Prop} {v : Value} {l : List α} (h : ElemsOf w S size R v l) (hsz : 0 < size) (hR : ∀ cs x, R cs x → R' cs x) : ElemsOf w (orr S w.heap.size) size R' v l := by
  obtain ⟨A, n, c, e, h1, h2, h3, h4⟩ := h
  refine ⟨A, n, c, e, h1, h2, h3, fun hn => ?_⟩
  obtain ⟨b, o, e, hb, hc⟩ := h4 hn
  refine ⟨b, o, e, fun hge => ?_, fun i hi => ?_⟩
  · rcases hge with hge | hge
    · exact hb hge
    obtain ⟨cs, h5, h6, h7⟩ := hc 0 (by omega)
    have := World.block_lt_of_cell? w _ (h6 0 cs[0] (List.getElem?_eq_getElem (by omega)))
    simp at this
    omega
  · obtain ⟨cs, h5, h6, h7⟩ := hc i hi
    exact ⟨cs, h5, h6, hR _ _ h7⟩
theorem StrsOf.orr {w : World} {S : Nat → Prop} {v : Value} {l : List ByteArray} (h : StrsOf w S v l) : StrsOf w (orr S w.heap.size) v l := by
  obtain ⟨A, n, c, e, r⟩ := h
  exact ⟨A, n, c, e, r.orr (by decide)⟩
theorem BytesAt.orr {w : World} {S : Nat → Prop} {v : Value} {l : List Int} (h : BytesAt w S v l) : BytesAt w (orr S w.heap.size) v l := by
  obtain ⟨A, n, c, e, r⟩ := h
  exact ⟨A, n, c, e, r.orr (by decide)⟩
theorem ItemsOf.orr {w : World} {S : Nat → Prop} {v : Value} {l : List Itm} (h : ItemsOf w S v l) : ItemsOf w (orr S w.heap.size) v l := ElemsOf.orr h (by decide) (fun _ _ ⟨u, s, e, h1, h2, h3, h4⟩ => ⟨u, s, e, h1, h2, h3.orr (by decide) (fun _ _ ⟨v, e, hb⟩ => ⟨v, e, hb.orr⟩), h4.orr (by decide) (fun _ _ ⟨v, e, hb⟩ => ⟨v, e, hb.orr⟩)⟩)
theorem JbX.orr {X : XP} {w : World} {S : Nat → Prop} {cs : List Value} {j : Jb} (h : JbX X w S cs j) : JbX X w (orr S w.heap.size) cs j := by
  obtain ⟨⟨vn, vi, e, h1, h2⟩, h3⟩ := h
  exact ⟨⟨vn, vi, e, h1.orr, h2.orr⟩, X.orr_ _ _ _ h3⟩
theorem StateX.orr {X : XP} {w : World} {S : Nat → Prop} {v : Value} {s : St} (h : StateX X w S v s) : StateX X w (orr S w.heap.size) v s := by
  obtain ⟨a, b, c, e, h1, h2, h3⟩ := h
  exact ⟨a, b, c, e, h1.orr, ElemsOf.orr h2 (by decide) (fun _ _ h => h.orr), ElemsOf.orr h3 (by decide) (fun _ _ h => h)⟩
theorem EvOf.orr {w : World} {S : Nat → Prop} {v : Value} {e : Ev} (h : EvOf w S v e) : EvOf w (orr S w.heap.size) v e := by
  obtain ⟨vn, vi, ev, h1, h2⟩ := h
  exact ⟨vn, vi, ev, h1.orr, h2.orr⟩

/-- A row of jobs of the call's own. -/
def RJobs (X : XP) (w : World) (base : Nat) (S : Nat → Prop) (v : Value) (l : List Jb) : Prop :=
  ∃ css : List (List Value), css.length = l.length ∧ (∀ x ∈ css, x.length = 7) ∧ w.ownsRow base 57 7 v l.length css.flatten ∧ ∀ (i : Nat) (cs : List Value) (x : Jb), css[i]? = some cs → l[i]? = some x → JbX X w S cs x
/-- Block g is a state whose three lists lie in memory from base on; what its jobs need and have made lies outside S. -/
structure RAft (X : XP) (w : World) (base : Nat) (S : Nat → Prop) (g : Nat) (vp vj vw : Value) (s : St) : Prop where
  blk : Blk w g 48 #[.int .i64 s.now, vp, vj, vw]
  ge_ : base ≤ g
  strs : w.ownsRow base 9 1 vp s.present.length (s.present.map Value.string)
  jobs : RJobs X w base S vj s.jobs
  wks : w.ownsRow base 107 2 vw s.workers.length (wkCells s.workers)
section
variable {X : XP} {w w' : World} {base g : Nat} {S S' : Nat → Prop} {vp vj vw : Value} {s : St}
theorem RJobs.keep {v : Value} {l : List Jb} (h : RJobs X w base S v l) (k : Keep S' w w') (hS : ∀ b, S' b → S b) (hv : ∀ b, v.ownBlock = some b → ¬ S' b) : RJobs X w' base S v l := by
  obtain ⟨css, h1, h2, h3, h4⟩ := h
  exact ⟨css, h1, h2, own_keep h3 k hv, fun i cs x hi hx => (h4 i cs x hi hx).keep (k.mono hS)⟩
theorem RJobs.sub {v : Value} {l : List Jb} (h : RJobs X w base S v l) (hS : ∀ b, S' b → S b) : RJobs X w base S' v l := by
  obtain ⟨css, h1, h2, h3, h4⟩ := h
  exact ⟨css, h1, h2, h3, fun i cs x hi hx => (h4 i cs x hi hx).sub hS⟩
theorem RAft.sub (h : RAft X w base S g vp vj vw s) (hS : ∀ b, S' b → S b) : RAft X w base S' g vp vj vw s := ⟨h.blk, h.ge_, h.strs, h.jobs.sub hS, h.wks⟩
theorem stP.orr {S : Nat → Prop} {base : Nat} {w w0 : World} {vp : Value} {n : Nat} {xs : List Value} (h : w0.ownsRow base 9 1 vp n xs) (b : Nat) (e : stP S base w vp b) : orr S base b := e.elim (fun e => e.imp id (fun e => e.1)) (fun e => .inr (own_ge h b e))
theorem RAft.fin (h : RAft X w base (orr S base) g vp vj vw s) : RAft X w base (stP S base w vp) g vp vj vw s := h.sub (stP.orr h.strs)
theorem RJobs.orr {v : Value} {l : List Jb} (h : RJobs X w base S v l) : RJobs X w base (orr S w.heap.size) v l := by
  obtain ⟨css, h1, h2, h3, h4⟩ := h
  exact ⟨css, h1, h2, h3, fun i cs x hi hx => (h4 i cs x hi hx).orr⟩
theorem RAft.keep (h : RAft X w base S g vp vj vw s) (k : Keep none_ w w') : RAft X w' base S g vp vj vw s :=
  ⟨h.blk.keep k (fun e => e), h.ge_, own_keep h.strs k (fun _ _ e => e), h.jobs.keep k (fun _ e => e.elim) (fun _ _ e => e), own_keep h.wks k (fun _ _ e => e)⟩
theorem RAft.fin2 {lo : Nat} (h : RAft X w base (stP S lo w vp) g vp vj vw s) (k : Keep none_ w w') : RAft X w' base (stP S lo w' vp) g vp vj vw s :=
  (RAft.keep (S := orr (stP S lo w vp) w.heap.size) ⟨h.blk, h.ge_, h.strs, h.jobs.orr, h.wks⟩ k).sub (fun b e => e.elim (fun e => (stS.back k b e).imp .inl id) (fun e => .inl (.inr e)))
/-- A step that touches nothing of the state. -/
theorem RAft.far (h : RAft X w base S g vp vj vw s) (k : Keep S' w w') (hg : ¬ S' g) (hS : ∀ b, S' b → S b) (h1 : ∀ b, vp.ownBlock = some b → ¬ S' b) (h2 : ∀ b, vj.ownBlock = some b → ¬ S' b) (h3 : ∀ b, vw.ownBlock = some b → ¬ S' b) : RAft X w' base S g vp vj vw s :=
  ⟨h.blk.keep k hg, h.ge_, own_keep h.strs k h1, h.jobs.keep k hS h2, own_keep h.wks k h3⟩
theorem RJobs.elems {v : Value} {l : List Jb} (h : RJobs X w base S v l) (hS' : ∀ b, S' b → S b) (hS : ∀ b, base ≤ b → ¬ S' b) : ∃ A c, v = .slice A l.length c ∧ ElemsOf w S' 7 (JbX X w S') (.slice A l.length c) l := by
  obtain ⟨css, h1, h2, h3, h4⟩ := h
  obtain ⟨A, c, rfl, hr⟩ := own_row (S := S') h3 hS
  exact ⟨A, c, rfl, ElemsOf.of_row rfl h1 h2 hr (fun i cs x hi hx => (h4 i cs x hi hx).sub hS')⟩
theorem RJobs.list {v : Value} {l : List Jb} (h : RJobs X w base S v l) : ∃ A c, v = .slice A l.length c ∧ JobsOf w none_ (.slice A l.length c) l := by
  obtain ⟨A, c, e, hr⟩ := h.elems (S' := none_) (fun _ e => e.elim) (fun _ _ e => e)
  exact ⟨A, c, e, ElemsOf.sub hr (fun _ e => e) (fun _ _ h => h.1)⟩
theorem RAft.stateX (h : RAft X w base S g vp vj vw s) (hS' : ∀ b, S' b → S b) (hS : ∀ b, base ≤ b → ¬ S' b) : StateX X w S' (.agg #[.int .i64 s.now, vp, vj, vw]) s := by
  obtain ⟨A1, c1, e1, r1⟩ := own_row (S := S') h.strs hS
  obtain ⟨A2, c2, e2, r2⟩ := h.jobs.elems hS' hS
  obtain ⟨A3, c3, e3, r3⟩ := ElemsOf_wks (S := S') h.wks hS
  exact ⟨vp, vj, vw, rfl, ⟨_, _, _, e1, r1⟩, by rw [e2]; exact r2, by rw [e3]; exact r3⟩
theorem RAft.state (h : RAft X w base S g vp vj vw s) : StateOf w none_ (.agg #[.int .i64 s.now, vp, vj, vw]) s := (h.stateX (S' := none_) (fun _ e => e.elim) (fun _ _ e => e)).state
theorem orr_ge (b : Nat) (h : ge base b) : orr S base b := .inr h

theorem RAft.setWk {b c : Nat} (h : RAft X w base (orr S base) g vp vj (.slice (some ⟨b, 0, none⟩) s.workers.length c) s) (hn : 0 < s.workers.length) (i : Nat) (u : Value) {ws : List Wk} (hl : ws.length = s.workers.length) (hs : (wkCells s.workers).set i u = wkCells ws) :
    RAft X (w.setCell ⟨b, i, none⟩ u) base (orr S base) g vp vj (.slice (some ⟨b, 0, none⟩) s.workers.length c) { s with workers := ws } ∧ Keep (ge base) w (w.setCell ⟨b, i, none⟩ u) := by
  obtain ⟨b', cap, cur, eV, hb1, hb2, hb3⟩ := own_cases h.wks hn
  simp only [Value.slice.injEq, Option.some.injEq, Addr.mk.injEq, and_true, true_and] at eV
  obtain ⟨rfl, rfl⟩ := eV
  have k : Keep (one b) w (w.setCell ⟨b, i, none⟩ u) := (Keep.refl (one b) w).setCell (p := ⟨b, i, none⟩) (.inl rfl) u
  obtain ⟨css, j1, j2, j3, j4⟩ := h.jobs
  refine ⟨⟨h.blk.far (p := ⟨b, i, none⟩) (h.blk.ne_ hb2 (by decide)) u, h.ge_, own_keep h.strs k (own_apart h.strs hb2 (by decide)), h.jobs.keep k (fun x e => by cases e; exact .inr hb1) (own_apart j3 hb2 (by decide)), ?_⟩, k.mono (fun x e => by cases e; exact hb1)⟩
  have := own_set h.wks i u
  rw [hs] at this
  simp only [hl]
  exact this
theorem RAft.newWk {w6 : World} {v6 : Value} {x : Wk} (h : RAft X w base (orr S base) g vp vj vw s) (k : Keep (ofBlk vw) w w6) (o : w6.ownsRow base 107 2 v6 (s.workers.length + 1) (wkCells s.workers ++ [.string x.name, .bool x.dead])) :
    RAft X (w6.setCell ⟨g, 3, none⟩ v6) base (orr S base) g vp vj v6 { s with workers := s.workers ++ [x] } ∧ Keep (ge base) w (w6.setCell ⟨g, 3, none⟩ v6) := by
  obtain ⟨css, j1, j2, j3, j4⟩ := h.jobs
  have nog : ¬ ofBlk vw g := fun e => own_apart h.wks h.blk (by decide) g e rfl
  have b6 := h.blk.keep k nog
  have s6 := own_keep h.strs k (own_apart2 h.strs h.wks (by decide))
  have q6 : RJobs X w6 base (orr S base) vj s.jobs := h.jobs.keep k (fun b e => .inr (own_ge h.wks b e)) (own_apart2 j3 h.wks (by decide))
  obtain ⟨css', i1, i2, i3, i4⟩ := q6
  have kg : Keep (one g) w6 (w6.setCell ⟨g, 3, none⟩ v6) := (Keep.refl (one g) w6).setCell (p := ⟨g, 3, none⟩) (.inl rfl) v6
  refine ⟨⟨?_, h.ge_, own_keep s6 kg (own_apart s6 b6 (by decide)), RJobs.keep ⟨css', i1, i2, i3, i4⟩ kg (fun b e => by cases e; exact .inr h.ge_) (own_apart i3 b6 (by decide)), ?_⟩, (k.mono (fun b e => own_ge h.wks b e)).trans (kg.mono (fun b e => by cases e; exact h.ge_))⟩
  · have := b6.set_ 3 v6
    simpa using this
  · have := own_keep o kg (own_apart o b6 (by decide))
    simp only [wkCells_snoc, List.length_append, List.length_cons, List.length_nil]
    exact this
/-- The list of the media replaced; what was there stays as it was. -/
theorem RAft.newStrs {v6 : Value} {l : List ByteArray} (h : RAft X w base (orr S base) g vp vj vw s) (o : w.ownsRow base 9 1 v6 l.length (l.map Value.string)) :
    RAft X (w.setCell ⟨g, 1, none⟩ v6) base (orr S base) g v6 vj vw { s with present := l } ∧ Keep (ge base) w (w.setCell ⟨g, 1, none⟩ v6) := by
  obtain ⟨css', i1, i2, i3, i4⟩ := h.jobs
  have kg : Keep (one g) w (w.setCell ⟨g, 1, none⟩ v6) := (Keep.refl (one g) w).setCell (p := ⟨g, 1, none⟩) (.inl rfl) v6
  refine ⟨⟨?_, h.ge_, own_keep o kg (own_apart o h.blk (by decide)), RJobs.keep ⟨css', i1, i2, i3, i4⟩ kg (fun b e => by cases e; exact .inr h.ge_) (own_apart i3 h.blk (by decide)), own_keep h.wks kg (own_apart h.wks h.blk (by decide))⟩, kg.mono (fun b e => by cases e; exact h.ge_)⟩
  have := h.blk.set_ 1 v6
  simpa using this
theorem RAft.setNow (h : RAft X w base (orr S base) g vp vj vw s) (n : Int) : RAft X (w.setCell ⟨g, 0, none⟩ (.int .i64 n)) base (orr S base) g vp vj vw { s with now := n } ∧ Keep (ge base) w (w.setCell ⟨g, 0, none⟩ (.int .i64 n)) := by
  obtain ⟨css, j1, j2, j3, j4⟩ := h.jobs
  have kb : Keep (one g) w (w.setCell ⟨g, 0, none⟩ (.int .i64 n)) := (Keep.refl (one g) w).setCell (p := ⟨g, 0, none⟩) (.inl rfl) _
  refine ⟨⟨?_, h.ge_, own_keep h.strs kb (own_apart h.strs h.blk (by decide)), h.jobs.keep kb (fun b e => by cases e; exact .inr h.ge_) (own_apart j3 h.blk (by decide)), own_keep h.wks kb (own_apart h.wks h.blk (by decide))⟩, kb.mono (fun b e => by cases e; exact h.ge_)⟩
  have := h.blk.set_ 0 (.int .i64 n)
  simpa using this
/-- A store into a job; S' is what the rest is told of. -/
theorem RAft.setJobTo {b c : Nat} (h : RAft X w base (orr S base) g vp (.slice (some ⟨b, 0, none⟩) s.jobs.length c) vw s) (hS' : ∀ b, S' b → orr S base b) (k : Nat) (hk : k < s.jobs.length) (r : Nat) (hr : r < 7) (u : Value) (x : Jb) (hx : ∀ cs, cs.length = 7 → JbX X w (orr S base) cs s.jobs[k] → JbX X (w.setCell ⟨b, k * 7 + r, none⟩ u) S' (cs.set r u) x) :
    RAft X (w.setCell ⟨b, k * 7 + r, none⟩ u) base S' g vp (.slice (some ⟨b, 0, none⟩) s.jobs.length c) vw { s with jobs := s.jobs.set k x } ∧ Keep (ge base) w (w.setCell ⟨b, k * 7 + r, none⟩ u) := by
  obtain ⟨css, j1, j2, j3, j4⟩ := h.jobs
  obtain ⟨b', cap, cur, eV, hb1, hb2, hb3⟩ := own_cases j3 (by omega)
  simp only [Value.slice.injEq, Option.some.injEq, Addr.mk.injEq, and_true, true_and] at eV
  obtain ⟨rfl, rfl⟩ := eV
  have kb : Keep (one b) w (w.setCell ⟨b, k * 7 + r, none⟩ u) := (Keep.refl (one b) w).setCell (p := ⟨b, k * 7 + r, none⟩) (.inl rfl) u
  have kk : Keep (ge base) w (w.setCell ⟨b, k * 7 + r, none⟩ u) := kb.mono (fun x e => by cases e; exact hb1)
  have hkc : k < css.length := by omega
  have hg : css[k]? = some css[k] := List.getElem?_eq_getElem hkc
  refine ⟨⟨h.blk.far (p := ⟨b, k * 7 + r, none⟩) (h.blk.ne_ hb2 (by decide)) u, h.ge_, own_keep h.strs kb (own_apart h.strs hb2 (by decide)), ⟨css.set k (css[k].set r u), by simp [j1], fun y hy => ?_, ?_, fun i ds y hi hy => ?_⟩, own_keep h.wks kb (own_apart h.wks hb2 (by decide))⟩, kk⟩
  · rcases List.mem_or_eq_of_mem_set hy with hy | rfl
    · exact j2 y hy
    · rw [List.length_set]; exact j2 _ (List.getElem_mem hkc)
  · have := own_set j3 (k * 7 + r) u
    rw [flatten_set css j2 k css[k] hg r hr u] at this
    simp only [List.length_set]
    exact this
  · simp only [List.getElem?_set] at hi hy
    by_cases hik : k = i
    · subst hik
      simp only [if_true, hkc, hk, Option.some.injEq] at hi hy
      rw [← hi, ← hy]
      exact hx _ (j2 _ (List.getElem_mem hkc)) (j4 k _ _ hg (List.getElem?_eq_getElem hk))
    · rw [if_neg hik] at hi hy
      exact ((j4 i ds y hi hy).keep (kk.mono orr_ge)).sub hS'
theorem RAft.setJob {b c : Nat} (h : RAft X w base (orr S base) g vp (.slice (some ⟨b, 0, none⟩) s.jobs.length c) vw s) (k : Nat) (hk : k < s.jobs.length) (r : Nat) (hrr : 1 < r ∧ r < 6) (u : Value) (x : Jb) (hx : ∀ cs, JbOf w (orr S base) cs s.jobs[k] → JbOf w (orr S base) (cs.set r u) x) :
    RAft X (w.setCell ⟨b, k * 7 + r, none⟩ u) base (orr S base) g vp (.slice (some ⟨b, 0, none⟩) s.jobs.length c) vw { s with jobs := s.jobs.set k x } ∧ Keep (ge base) w (w.setCell ⟨b, k * 7 + r, none⟩ u) := by
  obtain ⟨hr0, hr⟩ := hrr
  have hr1 : r ≠ 1 := by omega
  obtain ⟨css, j1, j2, j3, j4⟩ := h.jobs
  obtain ⟨b', cap, cur, eV, hb1, hb2, hb3⟩ := own_cases j3 (by omega)
  simp only [Value.slice.injEq, Option.some.injEq, Addr.mk.injEq, and_true, true_and] at eV
  obtain ⟨rfl, rfl⟩ := eV
  have kb : Keep (one b) w (w.setCell ⟨b, k * 7 + r, none⟩ u) := (Keep.refl (one b) w).setCell (p := ⟨b, k * 7 + r, none⟩) (.inl rfl) u
  exact h.setJobTo (fun _ e => e) k hk r (by omega) u x fun cs hl hc => ⟨(hx cs hc.1).keep (kb.mono (fun x e => by cases e; exact .inr hb1)), X.keep _ _ _ _ (X.set_ _ _ _ _ _ hr1 (by omega) hc.2) (kb.mono (fun x e => by cases e; exact .inr hb1))⟩
/-- A job added; S' is what the whole is told of. -/
theorem RAft.newJobTo {w6 : World} {v6 : Value} {x : Jb} {cs : List Value} (h : RAft X w base (orr S base) g vp vj vw s) (hS' : ∀ b, S' b → orr S base b) (k : Keep (ofBlk vj) w w6) (hcs : cs.length = 7) (hx : JbX X (w6.setCell ⟨g, 2, none⟩ v6) S' cs x)
    (o : ∀ css : List (List Value), w.ownsRow base 57 7 vj s.jobs.length css.flatten → w6.ownsRow base 57 7 v6 (s.jobs.length + 1) (css.flatten ++ cs)) :
    RAft X (w6.setCell ⟨g, 2, none⟩ v6) base S' g vp v6 vw { s with jobs := s.jobs ++ [x] } ∧ Keep (ge base) w (w6.setCell ⟨g, 2, none⟩ v6) := by
  obtain ⟨css, j1, j2, j3, j4⟩ := h.jobs
  have hge : ∀ b, ofBlk vj b → base ≤ b := fun b e => own_ge j3 b e
  have nog : ¬ ofBlk vj g := fun e => own_apart j3 h.blk (by decide) g e rfl
  have b6 := h.blk.keep k nog
  have s6 := own_keep h.strs k (own_apart2 h.strs j3 (by decide))
  have q6 := own_keep h.wks k (own_apart2 h.wks j3 (by decide))
  have o6 := o css j3
  have kg : Keep (one g) w6 (w6.setCell ⟨g, 2, none⟩ v6) := (Keep.refl (one g) w6).setCell (p := ⟨g, 2, none⟩) (.inl rfl) v6
  have kk : Keep (ge base) w (w6.setCell ⟨g, 2, none⟩ v6) := (k.mono hge).trans (kg.mono (fun b e => by cases e; exact h.ge_))
  refine ⟨⟨?_, h.ge_, own_keep s6 kg (own_apart s6 b6 (by decide)), ⟨css ++ [cs], by simp [j1], fun y hy => ?_, ?_, fun i ds y hi hy => ?_⟩, own_keep q6 kg (own_apart q6 b6 (by decide))⟩, kk⟩
  · have := b6.set_ 2 v6
    simpa using this
  · rcases List.mem_append.1 hy with hy | hy
    · exact j2 y hy
    · simp at hy; rw [hy]; exact hcs
  · have := own_keep o6 kg (own_apart o6 b6 (by decide))
    simp only [List.flatten_append, List.length_append, List.length_cons, List.length_nil, List.flatten_cons, List.flatten_nil, List.append_nil]
    exact this
  · rw [List.getElem?_append] at hi hy
    by_cases hlt : i < s.jobs.length
    · rw [if_pos (by omega)] at hi
      rw [if_pos hlt] at hy
      exact ((j4 i ds y hi hy).keep (kk.mono orr_ge)).sub hS'
    · rw [if_neg (by omega)] at hi
      rw [if_neg hlt] at hy
      have e1 : i - css.length = 0 := by
        have := (List.getElem?_eq_some_iff.1 hi).1
        simpa using this
      have e2 : i - s.jobs.length = 0 := by omega
      rw [e1] at hi
      rw [e2] at hy
      simp at hi hy
      rw [← hi, ← hy]
      exact hx
end
/-- What a function of the reference leaves that works on the state. -/
def RMeth (X : XP) (base : Nat) (S : Nat → Prop) (g : Nat) (r : Int) (s' : St) (w : World) (e : Ending) (w' : World) : Prop :=
  ∃ vp vj vw, e = .returned (.int .i64 r) ∧ RAft X w' base S g vp vj vw s' ∧ Keep (ge base) w w'
def RMeth2 (X : XP) (base : Nat) (S : Nat → Prop) (g : Nat) (r : Int) (os : List Ot) (s' : St) (w : World) (e : Ending) (w' : World) : Prop :=
  ∃ vo vp vj vw, e = .returned (.tuple #[vo, .int .i64 r]) ∧ w'.ownsRow base 125 3 vo os.length (otCells os) ∧ RAft X w' base S g vp vj vw s' ∧ Keep (ge base) w w'

def RMeth3 (X : XP) (base : Nat) (S : Nat → Prop) (g : Nat) (r : Int) (os : List Ot) (s' : St) (w : World) (e : Ending) (w' : World) : Prop :=
  ∃ vo vp vj vw, e = .returned (.tuple #[vo, .int .i64 r]) ∧ w'.ownsRow base 125 3 vo os.length (otCells os) ∧ RAft X w' base (stP S base w' vp) g vp vj vw s' ∧ Keep (ge base) w w'

/-- cutroomref37.Copy of a state. -/
theorem rcopy_any (X : XP) (s : St) (v : Value) (S : Nat → Prop) (w : World) (h : StateX X w S v s) (hs : Small s) :
    Calls Tryz.prog 40 #[v] w fun e w' => ∃ vp vj vw, e = .returned (.agg #[.int .i64 s.now, vp, vj, vw]) ∧ w'.ownsRow w.heap.size 9 1 vp s.present.length (s.present.map Value.string) ∧ RJobs X w' w.heap.size S vj s.jobs ∧ w'.ownsRow w.heap.size 107 2 vw s.workers.length (wkCells s.workers) ∧ Keep none_ w w' := by
  obtain ⟨vp, vj, vw, rfl, hp, hj, hw⟩ := h
  obtain ⟨Ap, np, cp, rfl, rp⟩ := hp
  obtain ⟨Aj, nj, cj, cssj, rfl, lj, clj, csj, rj, Rj⟩ := ElemsOf.rows hj (by decide)
  obtain ⟨Aw, nw, cw, cssw, rfl, lw, clw, csw, rw_, Rw⟩ := ElemsOf.rows hw (by decide)
  have ew := wk_rows (by omega) Rw
  have lp : s.present.length = np := by have := rp.len; simp at this; omega
  have p1 := hs.p
  have p2 := hs.j
  have p3 := hs.w
  refine (rcopy_raw s.now Ap Aj Aw np cp nj cj nw cw _ _ _ _ w rp rj rw_ (fun u hu => ?_) (fun u hu => ?_) (fun u hu => ?_) (by omega) (by omega) (by omega)).mono ?_
  · obtain ⟨x, -, rfl⟩ := List.mem_map.1 hu
    rfl
  · obtain ⟨cs, hcs, hu⟩ := List.mem_flatten.1 hu
    obtain ⟨i, hi, rfl⟩ := List.mem_iff_getElem.1 hcs
    obtain ⟨⟨vn, vi, e, hn, hit⟩, -⟩ := Rj i _ _ (List.getElem?_eq_getElem hi) (List.getElem?_eq_getElem (by omega))
    rw [e] at hu
    obtain ⟨A1, n1, c1, rfl, -⟩ := hn
    obtain ⟨A2, n2, c2, rfl, -⟩ := hit
    simp only [List.mem_cons, List.not_mem_nil, or_false] at hu
    rcases hu with rfl | rfl | rfl | rfl | rfl | rfl | rfl <;> rfl
  · obtain ⟨cs, hcs, hu⟩ := List.mem_flatten.1 hu
    obtain ⟨i, hi, rfl⟩ := List.mem_iff_getElem.1 hcs
    have e := Rw i _ _ (List.getElem?_eq_getElem hi) (List.getElem?_eq_getElem (by omega))
    rw [show cssw[i] = _ from e] at hu
    simp only [List.mem_cons, List.not_mem_nil, or_false] at hu
    rcases hu with rfl | rfl <;> rfl
  · rintro e w' ⟨vp', vj', vw', rfl, o1, o2, o3, k⟩
    refine ⟨vp', vj', vw', rfl, by rw [lp]; exact o1, ⟨cssj, by omega, csj, by rw [lj]; exact o2, fun i cs x hi hx => (Rj i cs x hi hx).keep k.weak⟩, ?_, k⟩
    rw [lw, ← ew]
    exact o3
end Go.Proofs.YtnefbeplgfdkkaaGreatDoor
