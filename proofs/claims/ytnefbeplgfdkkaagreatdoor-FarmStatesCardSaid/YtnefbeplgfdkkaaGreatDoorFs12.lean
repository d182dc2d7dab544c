/-
  (State).copied and clone, at a state whose lists are small and whose items are plain.
-/
import Derived.Test.YtnefbeplgfdkkaaGreatDoorFs11
import Derived.Test.YtnefbeplgfdkkaaGreatDoorFs09
namespace Go.Proofs.YtnefbeplgfdkkaaGreatDoor
open Go.RowKit

structure Small (s : St) : Prop where
  p : s.present.length ≤ 64
  j : s.jobs.length ≤ 64
  w : s.workers.length ≤ 64
theorem wk_rows {css : List (List Value)} {l : List Wk} (hl : css.length = l.length) (h : ∀ (i : Nat) (cs : List Value) (x : Wk), css[i]? = some cs → l[i]? = some x → WkOf cs x) : css.flatten = wkCells l := by
  rw [wkCells_eq]
  congr 1
  apply List.ext_getElem (by simp [hl])
  intro i h1 h2
  rw [List.getElem_map]
  exact h i _ _ (List.getElem?_eq_getElem h1) (List.getElem?_eq_getElem (by rw [← hl]; exact h1))
/-- A row of jobs of the call's own; what they need and have made lies outside S. -/
def RowJobs (w : World) (base : Nat) (S : Nat → Prop) (v : Value) (l : List Jb) : Prop :=
  ∃ css : List (List Value), css.length = l.length ∧ (∀ x ∈ css, x.length = 7) ∧ w.ownsRow base 57 7 v l.length css.flatten ∧ ∀ (i : Nat) (cs : List Value) (x : Jb), css[i]? = some cs → l[i]? = some x → JbOf w S cs x
def CopyPost (S : Nat → Prop) (s : St) (w : World) (e : Ending) (w' : World) : Prop :=
  ∃ vp vj vw, e = .returned (.agg #[.int .i64 s.now, vp, vj, vw]) ∧ w'.ownsRow w.heap.size 9 1 vp s.present.length (s.present.map Value.string) ∧ RowJobs w' w.heap.size S vj s.jobs ∧ w'.ownsRow w.heap.size 107 2 vw s.workers.length (wkCells s.workers) ∧ Keep none_ w w'
theorem copied_in (s : St) (vp vj vw : Value) (S : Nat → Prop) (w : World) (hp : StrsOf w none_ vp s.present) (hj : ElemsOf w none_ 7 (JbOf w S) vj s.jobs) (hw : WorkersOf w none_ vw s.workers) (hs : Small s) : Calls Tryz.prog 52 #[.agg #[.int .i64 s.now, vp, vj, vw]] w (CopyPost S s w) := by
  obtain ⟨Ap, np, cp, rfl, rp⟩ := hp
  obtain ⟨Aj, nj, cj, cssj, rfl, lj, clj, csj, rj, Rj⟩ := ElemsOf.rows hj (by decide)
  obtain ⟨Aw, nw, cw, cssw, rfl, lw, clw, csw, rw_, Rw⟩ := ElemsOf.rows hw (by decide)
  have ew := wk_rows (by omega) Rw
  have lp : s.present.length = np := by have := rp.len; simp at this; omega
  have p1 := hs.p
  have p2 := hs.j
  have p3 := hs.w
  refine (copied_raw s.now Ap Aj Aw np cp nj cj nw cw _ _ _ _ w rp rj rw_ (fun u hu => ?_) (fun u hu => ?_) (fun u hu => ?_) (by omega) (by omega) (by omega)).mono ?_
  · obtain ⟨x, -, rfl⟩ := List.mem_map.1 hu
    rfl
  · obtain ⟨cs, hcs, hu⟩ := List.mem_flatten.1 hu
    obtain ⟨i, hi, rfl⟩ := List.mem_iff_getElem.1 hcs
    obtain ⟨vn, vi, e, hn, hit⟩ := Rj i _ _ (List.getElem?_eq_getElem hi) (List.getElem?_eq_getElem (by omega))
    rw [e] at hu
    obtain ⟨A1, n1, c1, rfl, -⟩ := hn
    obtain ⟨A2, n2, c2, rfl, -⟩ := hit
    simp only [List.mem_cons, List.not_mem_nil, or_false] at hu
    rcases hu with rfl | rfl | rfl | rfl | rfl | rfl | rfl <;> rfl
  · obtain ⟨cs, hcs, hu⟩ := List.mem_flatten.1 hu
    obtain ⟨i, hi, rfl⟩ := List.mem_iff_getElem.1 hcs
    have e := Rw i _ _ (List.getElem?_eq_getElem hi) (List.getElem?_eq_getElem (by omega))
    rw [show cssw[i] = _ from e] at hu
    simp only [List.mem_cons, List.not_mem_nil, or_false] at hu
    rcases hu with rfl | rfl <;> rfl
  · rintro e w' ⟨vp', vj', vw', rfl, o1, o2, o3, k⟩
    refine ⟨vp', vj', vw', rfl, by rw [lp]; exact o1, ⟨cssj, by omega, csj, by rw [lj]; exact o2, fun i cs x hi hx => (Rj i cs x hi hx).keep k.weak⟩, ?_, k⟩
    rw [lw, ← ew]
    exact o3

theorem ElemsOf.sub {α : Type} {w : World} {S S' : Nat → Prop} {size : Nat} {R R' : List Value → α → Prop} {v : Value} {l : List α} (h : ElemsOf w S size R v l) (hS : ∀ b, S' b → S b) (hR : ∀ cs x, R cs x → R' cs x) : ElemsOf w S' size R' v l := by
  obtain ⟨A, n, c, e, h1, h2, h3, h4⟩ := h
  refine ⟨A, n, c, e, h1, h2, h3, fun hn => ?_⟩
  obtain ⟨b, o, e, hb, hc⟩ := h4 hn
  refine ⟨b, o, e, fun h => hb (hS b h), fun i hi => ?_⟩
  obtain ⟨cs, h5, h6, h7⟩ := hc i hi
  exact ⟨cs, h5, h6, hR _ _ h7⟩
theorem Row.subset {w : World} {S S' : Nat → Prop} {size n c : Nat} {A : Option Addr} {xs : List Value} (h : Row w S size A n c xs) (hS : ∀ b, S' b → S b) : Row w S' size A n c xs := ⟨h.len, h.le, h.cap, fun hn => by
  obtain ⟨b, o, e, hb, hc⟩ := h.at_ hn
  exact ⟨b, o, e, fun h => hb (hS b h), hc⟩⟩
theorem StrsOf.sub {w : World} {S S' : Nat → Prop} {v : Value} {l : List ByteArray} (h : StrsOf w S v l) (hS : ∀ b, S' b → S b) : StrsOf w S' v l := by
  obtain ⟨A, n, c, e, r⟩ := h
  exact ⟨A, n, c, e, r.subset hS⟩
theorem BytesAt.sub {w : World} {S S' : Nat → Prop} {v : Value} {l : List Int} (h : BytesAt w S v l) (hS : ∀ b, S' b → S b) : BytesAt w S' v l := by
  obtain ⟨A, n, c, e, r⟩ := h
  exact ⟨A, n, c, e, r.subset hS⟩
theorem ItemsOf.sub {w : World} {S S' : Nat → Prop} {v : Value} {l : List Itm} (h : ItemsOf w S v l) (hS : ∀ b, S' b → S b) : ItemsOf w S' v l := ElemsOf.sub h hS (fun _ _ ⟨u, s, e, h1, h2, h3, h4⟩ => ⟨u, s, e, h1, h2, h3.sub hS (fun _ _ ⟨v, e, hb⟩ => ⟨v, e, hb.sub hS⟩), h4.sub hS (fun _ _ ⟨v, e, hb⟩ => ⟨v, e, hb.sub hS⟩)⟩)
theorem JbOf.sub {w : World} {S S' : Nat → Prop} {cs : List Value} {x : Jb} (h : JbOf w S cs x) (hS : ∀ b, S' b → S b) : JbOf w S' cs x := by
  obtain ⟨vn, vi, e, h1, h2⟩ := h
  exact ⟨vn, vi, e, h1.sub hS, h2.sub hS⟩
theorem copied_any (s : St) (v : Value) (S : Nat → Prop) (w : World) (h : StateOf w S v s) (hs : Small s) : Calls Tryz.prog 52 #[v] w (CopyPost S s w) := by
  obtain ⟨vp, vj, vw, rfl, hp, hj, hw⟩ := h
  exact copied_in s vp vj vw S w (hp.sub (fun _ e => e.elim)) (ElemsOf.sub hj (fun _ e => e.elim) (fun _ _ h => h)) (ElemsOf.sub hw (fun _ e => e.elim) (fun _ _ h => h)) hs
def PlainS (s : St) : Prop := ∀ j ∈ s.jobs, PlainI j.items ∧ j.items.length ≤ 65536 ∧ j.needs.length ≤ 65536
/-- The jobs of a state that is being cloned: what each needs and has made lies outside their row and block B; that of the first k lies from lo on. -/
def CSet (v : Value) (B lo k i : Nat) : Nat → Prop := fun x => ofBlk v x ∨ x = B ∨ (i < k ∧ x < lo)
def CJobs (w : World) (base B lo k : Nat) (v : Value) (l : List Jb) : Prop :=
  ∃ css : List (List Value), css.length = l.length ∧ (∀ x ∈ css, x.length = 7) ∧ w.ownsRow base 57 7 v l.length css.flatten ∧ ∀ (i : Nat) (cs : List Value) (x : Jb), css[i]? = some cs → l[i]? = some x → JbOf w (CSet v B lo k i) cs x
theorem RowJobs.keep {w w' : World} {S S' : Nat → Prop} {base : Nat} {v : Value} {l : List Jb} (h : RowJobs w base S v l) (k : Keep S' w w') (hS : ∀ b, S' b → S b) (hv : ∀ b, v.ownBlock = some b → ¬ S' b) : RowJobs w' base S v l := by
  obtain ⟨css, h1, h2, h3, h4⟩ := h
  exact ⟨css, h1, h2, own_keep h3 k hv, fun i cs x hi hx => (h4 i cs x hi hx).keep (k.mono hS)⟩
theorem RowJobs.c {w : World} {S : Nat → Prop} {base B lo : Nat} {v : Value} {l : List Jb} (h : RowJobs w base S v l) (hS : ∀ b, base ≤ b → S b) (hB : S B) : CJobs w base B lo 0 v l := by
  obtain ⟨css, h1, h2, h3, h4⟩ := h
  exact ⟨css, h1, h2, h3, fun i cs x hi hx => (h4 i cs x hi hx).sub (fun b e => e.elim (fun e => hS b (own_ge h3 b e)) (fun e => e.elim (fun e => e ▸ hB) (fun e => absurd e.1 (by omega))))⟩
theorem RowJobs.slice {w : World} {S : Nat → Prop} {base : Nat} {v : Value} {l : List Jb} (h : RowJobs w base S v l) : ∃ A c, v = .slice A l.length c ∧ c ≤ maxLen ∧ l.length ≤ c := by
  obtain ⟨css, h1, h2, h3, h4⟩ := h
  obtain ⟨A, c, e, r⟩ := own_row (S := none_) h3 (fun _ _ e => e)
  exact ⟨A, c, e, r.cap, r.le⟩
theorem CJobs.elems {w w' : World} {base B lo : Nat} {v : Value} {l : List Jb} (h : CJobs w base B lo l.length v l) (k : Keep (one B) w w') (hB : B < base) (hlo : lo ≤ base) : JobsOf w' (bel lo) v l := by
  obtain ⟨css, h1, h2, h3, h4⟩ := h
  have o := own_keep h3 k (fun b e e' => by cases e'; have := own_ge h3 _ e; omega)
  obtain ⟨A, c, rfl, hr⟩ := own_row (S := bel lo) o (fun b hb e => by unfold bel at e; omega)
  refine ElemsOf.of_row rfl h1 h2 hr (fun i cs x hi hx => ?_)
  have hil : i < l.length := (List.getElem?_eq_some_iff.1 hx).1
  exact ((h4 i cs x hi hx).keep (k.mono (fun x e => .inr (.inl e)))).sub (fun x e => .inr (.inr ⟨hil, e⟩))
theorem CJobs.set {w w8 : World} {base b B lo n cap k : Nat} {l : List Jb} (hn : n = l.length) {css : List (List Value)} (h1 : css.length = l.length) (h2 : ∀ x ∈ css, x.length = 7) (h3 : w.ownsRow base 57 7 (.slice (some ⟨b, 0, none⟩) n cap) n css.flatten) (h4 : ∀ (i : Nat) (cs : List Value) (x : Jb), css[i]? = some cs → l[i]? = some x → JbOf w (CSet (.slice (some ⟨b, 0, none⟩) n cap) B lo k i) cs x)
    (kk : Keep (one b) w w8) {cs : List Value} (hcs : css[k]? = some cs) {j : Jb} (hj : l[k]? = some j) {un ui : Value} {cur : Array Value} (hb : Blk w b 57 cur) (hb8 : Blk w8 b 57 ((cur.setIfInBounds (k * 7 + 1) un).setIfInBounds (k * 7 + 6) ui)) (hun : StrsOf w8 (fun x => one b x ∨ x = B ∨ x < lo) un j.needs) (hui : ItemsOf w8 (fun x => one b x ∨ x = B ∨ x < lo) ui j.items) : CJobs w8 base B lo (k + 1) (.slice (some ⟨b, 0, none⟩) n cap) l := by
  have hkc : k < css.length := (List.getElem?_eq_some_iff.1 hcs).1
  have eB : ∀ x, ofBlk (.slice (some ⟨b, 0, none⟩) n cap) x ↔ one b x := fun x => by
    simp only [ofBlk, Value.ownBlock, Option.some.injEq]
    exact eq_comm
  have l7 := h2 cs (List.mem_of_getElem? hcs)
  have len7 : ∀ y ∈ css.set k (cs.set 1 un), y.length = 7 := fun y hy => by
    rcases List.mem_or_eq_of_mem_set hy with hy | rfl
    · exact h2 y hy
    · rw [List.length_set]; exact l7
  have o1 := own_set h3 (k * 7 + 1) un
  rw [flatten_set css h2 k cs hcs 1 (by decide)] at o1
  have o2 := own_set o1 (k * 7 + 6) ui
  rw [flatten_set _ len7 k (cs.set 1 un) (by rw [List.getElem?_set_self hkc]) 6 (by decide), List.set_set] at o2
  subst hn
  refine ⟨css.set k ((cs.set 1 un).set 6 ui), by rw [List.length_set]; exact h1, fun y hy => ?_, own_move o2 ((hb.set_ _ _).set_ _ _) hb8, fun i ds x hi hx => ?_⟩
  · rcases List.mem_or_eq_of_mem_set hy with hy | rfl
    · exact h2 y hy
    · rw [List.length_set, List.length_set]; exact l7
  · rw [List.getElem?_set] at hi
    by_cases e : k = i
    · subst e
      rw [if_pos rfl, if_pos hkc, Option.some.injEq] at hi
      rw [hj, Option.some.injEq] at hx
      subst hx
      obtain ⟨vn, vi, rfl, g1, g2⟩ := h4 k cs j hcs hj
      rw [← hi]
      have eS : ∀ x, CSet (.slice (some ⟨b, 0, none⟩) l.length cap) B lo (k + 1) k x → one b x ∨ x = B ∨ x < lo := fun x e => e.imp (eB x).1 (fun e => e.imp id (fun e => e.2))
      exact ⟨un, ui, rfl, hun.sub eS, hui.sub eS⟩
    · rw [if_neg e] at hi
      exact ((h4 i ds x hi hx).keep (kk.mono (fun y e => .inl ((eB y).2 e)))).sub (fun y e => e.imp id (fun e => e.imp id (fun e => ⟨by omega, e.2⟩)))
end Go.Proofs.YtnefbeplgfdkkaaGreatDoor
