/-
  cutroomfilm.name.
-/
import Derived.Test.YtnefbeplgfdkkaaGreatDoorJb39
import Derived.Test.YtnefbeplgfdkkaaGreatDoorJb33
import Derived.Deep.AppendLies
namespace Go.Proofs.YtnefbeplgfdkkaaGreatDoor
open Go.RowKit

def mName (r : Nat) : ByteArray := if r = 0 then ⟨#[109, 48]⟩ else if r = 1 then ⟨#[109, 49]⟩ else ⟨#[109, 50]⟩
set_option maxRecDepth 100000 in
set_option maxHeartbeats 1000000 in
theorem name_any (r : Nat) (hr : r < 3) (w : World) : Calls Tryz.prog 58 #[.string ⟨#[109]⟩, .int .i64 r] w fun e w' => e = .returned (.string (mName r)) ∧ w' = w := by
  have c0 : ∀ w, (convert 3 5 (.int .i64 48)).run Tryz.prog w = .ok (.int .u8 48) w := fun w => by kernel_rfl
  have c1 : ∀ w, (convert 3 5 (.int .i64 49)).run Tryz.prog w = .ok (.int .u8 49) w := fun w => by kernel_rfl
  have c2 : ∀ w, (convert 3 5 (.int .i64 50)).run Tryz.prog w = .ok (.int .u8 50) w := fun w => by kernel_rfl
  rcases (show r = 0 ∨ r = 1 ∨ r = 2 by omega) with rfl | rfl | rfl
  all_goals
    go_enter Tryz.func58, Tryz.ntmps58
    go_wp2
    go_ret
    exact ⟨by kernel_rfl, rfl⟩
end Go.Proofs.YtnefbeplgfdkkaaGreatDoor
/-
  Expressions that the tape gives: plain facts.
-/
namespace Go.Proofs.YtnefbeplgfdkkaaGreatDoor
open Go.RowKit

/-- Few names, each short. -/
def Sm (n : Nat) (x : Ex) : Prop := (exMedia x).length ≤ n ∧ ∀ m ∈ exMedia x, m.size ≤ maxLen
/-- The blocks below lo; an expression that the tape has given, whose arguments lie from there on. -/
def low_ (lo : Nat) : Nat → Prop := fun b => b < lo
def GotX (dep : Nat) (w : World) (lo : Nat) (v : Value) : Prop := ∃ (ca : Array Value) (x : Ex), v = .agg ca ∧ ca.size = 8 ∧ ExAt (dep + 1) w (low_ lo) ca.toList x ∧ Sm (2 ^ dep) x
/-- Only blocks below lo are touched. -/
theorem ExAt.low {d lo : Nat} {S : Nat → Prop} {w w' : World} {cs : List Value} {x : Ex} (h : ExAt d w (low_ lo) cs x) (k : Keep S w w') (hS : ∀ b, S b → b < lo) : ExAt d w' (low_ lo) cs x := h.keep (k.mono hS)
theorem ExAt.lower {d lo lo' : Nat} {w : World} {cs : List Value} {x : Ex} (h : ExAt d w (low_ lo) cs x) (hl : lo' ≤ lo) : ExAt d w (low_ lo') cs x := h.sub (fun _ e => Nat.lt_of_lt_of_le e hl)
def draws : Nat → Nat
  | 0 => 8
  | d + 1 => 40 * (draws d + 1)
theorem zero_ex (w : World) : (zeroValue 89).run Tryz.prog w = .ok (.agg #[.int .i64 0, .string ⟨#[]⟩, .int .i64 0, .int .i64 0, .int .i64 0, .int .i64 0, .string ⟨#[]⟩, .slice none 0 0]) w := by kernel_rfl
theorem ElemsOf.empty {α : Type} (w : World) (S : Nat → Prop) (size : Nat) (R : List Value → α → Prop) : ElemsOf w S size R (.slice none 0 0) [] := ⟨none, 0, 0, rfl, Nat.le_refl _, Nat.zero_le _, rfl, fun h => absurd h (by omega)⟩
theorem GotX.leaf (dep : Nat) (w : World) (g : Nat) (op fr num den par : Int) (md tx : ByteArray) (h1 : md.size ≤ maxLen) (h2 : tx.size ≤ maxLen) :
    GotX dep w g (.agg #[.int .i64 op, .string md, .int .i64 fr, .int .i64 num, .int .i64 den, .int .i64 par, .string tx, .slice none 0 0]) := by
  refine ⟨_, .mk op md fr num den par tx [], rfl, rfl, ⟨_, rfl, h1, h2, ElemsOf.empty _ _ _ _⟩, ?_, fun m hm => ?_⟩
  · rw [exMedia]
    have := Nat.one_le_two_pow (n := dep)
    split <;> simp [exsMedia] <;> omega
  · rw [exMedia] at hm
    split at hm <;> simp [exsMedia] at hm
    rw [hm]
    exact h1
/-- Two expressions side by side in a block. -/
theorem two_args {dep : Nat} {w : World} {g b : Nat} {c1 c2 : Array Value} {x1 x2 : Ex} (hb : Blk w b 89 (c1 ++ c2)) (hbg : g ≤ b) (s1 : c1.size = 8) (s2 : c2.size = 8) (h1 : ExAt (dep + 1) w (low_ g) c1.toList x1) (h2 : ExAt (dep + 1) w (low_ g) c2.toList x2) :
    ElemsOf w (low_ g) 8 (ExAt (dep + 1) w (low_ g)) (.slice (some ⟨b, 0, none⟩) 2 2) [x1, x2] := by
  refine ⟨_, 2, 2, rfl, Nat.le_refl _, by decide, rfl, fun _ => ⟨b, 0, rfl, fun e => by unfold low_ at e; omega, fun i hi => ?_⟩⟩
  have h01 : i = 0 ∨ i = 1 := by simp at hi; omega
  rcases h01 with rfl | rfl
  · refine ⟨c1.toList, by simpa using s1, fun j u hu => ?_, h1⟩
    have hj : j < c1.size := by have := (List.getElem?_eq_some_iff.1 hu).1; simpa using this
    rw [hb.cell, Array.getElem?_append_left (by omega)]
    simpa using hu
  · refine ⟨c2.toList, by simpa using s2, fun j u hu => ?_, h2⟩
    have hj : j < c2.size := by have := (List.getElem?_eq_some_iff.1 hu).1; simpa using this
    rw [hb.cell, Array.getElem?_append_right (by omega)]
    have : 0 + 1 * 8 + j - c1.size = j := by omega
    rw [this]
    simpa using hu
theorem one_arg {dep : Nat} {w : World} {g b : Nat} {c1 : Array Value} {x1 : Ex} (hb : Blk w b 89 c1) (hbg : g ≤ b) (s1 : c1.size = 8) (h1 : ExAt (dep + 1) w (low_ g) c1.toList x1) :
    ElemsOf w (low_ g) 8 (ExAt (dep + 1) w (low_ g)) (.slice (some ⟨b, 0, none⟩) 1 1) [x1] := by
  refine ⟨_, 1, 1, rfl, Nat.le_refl _, by decide, rfl, fun _ => ⟨b, 0, rfl, fun e => by unfold low_ at e; omega, fun i hi => ?_⟩⟩
  have h0 : i = 0 := by simp at hi; omega
  subst h0
  refine ⟨c1.toList, by simpa using s1, fun j u hu => ?_, h1⟩
  rw [hb.cell]
  simpa using hu
theorem GotX.node {dep : Nat} {w : World} {g : Nat} {vs : Value} {xs : List Ex} (op fr num den par : Int) (tx : ByteArray) (h0 : op ≠ 1) (h2 : tx.size ≤ maxLen) (hx : ElemsOf w (low_ g) 8 (ExAt (dep + 1) w (low_ g)) vs xs) (hl : xs.length ≤ 2) (hs : ∀ x ∈ xs, Sm (2 ^ dep) x) :
    GotX (dep + 1) w g (.agg #[.int .i64 op, .string ⟨#[]⟩, .int .i64 fr, .int .i64 num, .int .i64 den, .int .i64 par, .string tx, vs]) := by
  refine ⟨_, .mk op ⟨#[]⟩ fr num den par tx xs, rfl, rfl, ⟨_, rfl, Nat.zero_le _, h2, hx⟩, ?_⟩
  have e : exMedia (.mk op ⟨#[]⟩ fr num den par tx xs) = exsMedia xs := by rw [exMedia, if_neg h0]; rfl
  have hp : 2 ^ (dep + 1) = 2 ^ dep + 2 ^ dep := by rw [Nat.pow_succ]; omega
  unfold Sm
  rw [e, hp]
  match xs, hl, hs with
  | [], _, _ => exact ⟨by simp [exsMedia], fun m hm => by simp [exsMedia] at hm⟩
  | [x], _, hs =>
    have h1 := hs x (by simp)
    refine ⟨by simp only [exsMedia, List.append_nil]; have := h1.1; omega, fun m hm => ?_⟩
    simp only [exsMedia, List.append_nil] at hm
    exact h1.2 m hm
  | [x, y], _, hs =>
    have h1 := hs x (by simp)
    have h2 := hs y (by simp)
    refine ⟨by simp only [exsMedia, List.append_nil, List.length_append]; have := h1.1; have := h2.1; omega, fun m hm => ?_⟩
    simp only [exsMedia, List.append_nil, List.mem_append] at hm
    rcases hm with hm | hm
    · exact h1.2 m hm
    · exact h2.2 m hm
end Go.Proofs.YtnefbeplgfdkkaaGreatDoor
/-
  Rows of the call's own whose elements are made anew one after the other; items with all that they hold.
-/
namespace Go.Proofs.YtnefbeplgfdkkaaGreatDoor
open Go.RowKit

/-- A row of the call's own, element by element: element i lies outside T i. -/
def PRow {α : Type} (R : World → (Nat → Prop) → List Value → α → Prop) (w : World) (base : Nat) (ty : TypeId) (sz : Nat) (T : Nat → Nat → Prop) (v : Value) (l : List α) : Prop :=
  ∃ css : List (List Value), css.length = l.length ∧ (∀ cs ∈ css, cs.length = sz) ∧ w.ownsRow base ty sz v l.length css.flatten ∧ ∀ i cs x, css[i]? = some cs → l[i]? = some x → R w (T i) cs x
/-- What such an element keeps to. -/
structure RLaw {α : Type} (R : World → (Nat → Prop) → List Value → α → Prop) : Prop where
  keep : ∀ (w w' : World) (S : Nat → Prop) (cs : List Value) (x : α), R w S cs x → Keep S w w' → R w' S cs x
  sub : ∀ (w : World) (S S' : Nat → Prop) (cs : List Value) (x : α), R w S cs x → (∀ b, S' b → S b) → R w S' cs x
  orr : ∀ (w : World) (S : Nat → Prop) (cs : List Value) (x : α), R w S cs x → R w (orr S w.heap.size) cs x
def UserR (w : World) (S : Nat → Prop) (cs : List Value) (z : List Int) : Prop := ∃ v, cs = [v] ∧ BytesAt w S v z
def UnitR (w : World) (S : Nat → Prop) (cs : List Value) (z : Int × List Int) : Prop := ∃ v, cs = [.int .i64 z.1, v] ∧ BytesAt w S v z.2
theorem userLaw : RLaw UserR := ⟨fun _ _ _ _ _ ⟨v, e, h⟩ k => ⟨v, e, h.keep k⟩, fun _ _ _ _ _ ⟨v, e, h⟩ hS => ⟨v, e, h.sub hS⟩, fun _ _ _ _ ⟨v, e, h⟩ => ⟨v, e, h.orr⟩⟩
theorem unitLaw : RLaw UnitR := ⟨fun _ _ _ _ _ ⟨v, e, h⟩ k => ⟨v, e, h.keep k⟩, fun _ _ _ _ _ ⟨v, e, h⟩ hS => ⟨v, e, h.sub hS⟩, fun _ _ _ _ ⟨v, e, h⟩ => ⟨v, e, h.orr⟩⟩
theorem itmLaw : RLaw ItmOf :=
  ⟨fun _ _ _ _ _ h k => h.keep k,
   fun _ _ _ _ _ ⟨u, s, e, h1, h2, h3, h4⟩ hS => ⟨u, s, e, h1, h2, h3.sub hS (fun _ _ ⟨v, e, hb⟩ => ⟨v, e, hb.sub hS⟩), h4.sub hS (fun _ _ ⟨v, e, hb⟩ => ⟨v, e, hb.sub hS⟩)⟩,
   fun _ _ _ _ ⟨u, s, e, h1, h2, h3, h4⟩ => ⟨u, s, e, h1, h2, h3.orr (by decide) (fun _ _ ⟨v, e, hb⟩ => ⟨v, e, hb.orr⟩), h4.orr (by decide) (fun _ _ ⟨v, e, hb⟩ => ⟨v, e, hb.orr⟩)⟩⟩
section
variable {α : Type} {R : World → (Nat → Prop) → List Value → α → Prop} {w w' : World} {base : Nat} {ty : TypeId} {sz : Nat} {T T' : Nat → Nat → Prop} {v : Value} {l : List α}
theorem PRow.keep (L : RLaw R) {Q : Nat → Prop} (h : PRow R w base ty sz T v l) (k : Keep Q w w') (hQ : ∀ i b, Q b → T i b) (hv : ∀ b, v.ownBlock = some b → ¬ Q b) : PRow R w' base ty sz T v l := by
  obtain ⟨css, h1, h2, h3, h4⟩ := h
  exact ⟨css, h1, h2, own_keep h3 k hv, fun i cs x hi hx => L.keep _ _ _ _ _ (h4 i cs x hi hx) (k.mono (hQ i))⟩
theorem PRow.sub (L : RLaw R) (h : PRow R w base ty sz T v l) (hT : ∀ i, i < l.length → ∀ b, T' i b → T i b) : PRow R w base ty sz T' v l := by
  obtain ⟨css, h1, h2, h3, h4⟩ := h
  exact ⟨css, h1, h2, h3, fun i cs x hi hx => L.sub _ _ _ _ _ (h4 i cs x hi hx) (hT i (List.getElem?_eq_some_iff.1 hx).1)⟩
theorem PRow.orr (L : RLaw R) (h : PRow R w base ty sz T v l) : PRow R w base ty sz (fun i => orr (T i) w.heap.size) v l := by
  obtain ⟨css, h1, h2, h3, h4⟩ := h
  exact ⟨css, h1, h2, h3, fun i cs x hi hx => L.orr _ _ _ _ (h4 i cs x hi hx)⟩
theorem PRow.elems (L : RLaw R) {S : Nat → Prop} (h : PRow R w base ty sz T v l) (hv : ∀ b, v.ownBlock = some b → ¬ S b) (hT : ∀ i, i < l.length → ∀ b, S b → T i b) : ElemsOf w S sz (R w S) v l := by
  obtain ⟨css, h1, h2, h3, h4⟩ := h
  obtain ⟨A, c, rfl, r⟩ := own_rowB h3 hv
  exact ElemsOf.of_row rfl h1 h2 r (fun i cs x hi hx => L.sub _ _ _ _ _ (h4 i cs x hi hx) (hT i (List.getElem?_eq_some_iff.1 hx).1))
/-- A store into one cell of one element. -/
theorem PRow.set (L : RLaw R) {b c : Nat} (h : PRow R w base ty sz T (.slice (some ⟨b, 0, none⟩) l.length c) l) (k : Nat) (hk : k < l.length) (r : Nat) (hr : r < sz) (u : Value) (hTb : ∀ i, T i b) (hT : ∀ i, i ≠ k → ∀ z, T' i z → T i z)
    (hx : ∀ cs, R (w.setCell ⟨b, k * sz + r, none⟩ u) (T k) cs l[k] → R (w.setCell ⟨b, k * sz + r, none⟩ u) (T' k) (cs.set r u) l[k]) : PRow R (w.setCell ⟨b, k * sz + r, none⟩ u) base ty sz T' (.slice (some ⟨b, 0, none⟩) l.length c) l := by
  obtain ⟨css, h1, h2, h3, h4⟩ := h
  have kb : Keep (one b) w (w.setCell ⟨b, k * sz + r, none⟩ u) := (Keep.refl (one b) w).setCell (p := ⟨b, k * sz + r, none⟩) (.inl rfl) u
  have hkc : k < css.length := by omega
  have hg : css[k]? = some css[k] := List.getElem?_eq_getElem hkc
  have all : ∀ i cs y, css[i]? = some cs → l[i]? = some y → R (w.setCell ⟨b, k * sz + r, none⟩ u) (T i) cs y := fun i cs y hi hy => L.keep _ _ _ _ _ (h4 i cs y hi hy) (kb.mono (fun z e => by cases e; exact hTb i))
  have hj := own_set h3 (k * sz + r) u
  rw [flatten_set css h2 k css[k] hg r hr u] at hj
  refine ⟨css.set k (css[k].set r u), by simp [h1], fun y hy => ?_, hj, fun i cs y hi hy => ?_⟩
  · rcases List.mem_or_eq_of_mem_set hy with hy | rfl
    · exact h2 y hy
    · rw [List.length_set]; exact h2 _ (List.getElem_mem hkc)
  · simp only [List.getElem?_set] at hi
    by_cases hik : k = i
    · subst hik
      simp only [if_true, hkc, Option.some.injEq] at hi
      rw [List.getElem?_eq_getElem hk, Option.some.injEq] at hy
      rw [← hi, ← hy]
      exact hx _ (all k _ _ hg (List.getElem?_eq_getElem hk))
    · rw [if_neg hik] at hi
      exact L.sub _ _ _ _ _ (all i cs y hi hy) (hT i (fun e => hik e.symm))
/-- The cells of one element. -/
theorem PRow.get {b c : Nat} (h : PRow R w base ty sz T (.slice (some ⟨b, 0, none⟩) l.length c) l) (k : Nat) (hk : k < l.length) : ∃ cs, cs.length = sz ∧ R w (T k) cs l[k] ∧ ∀ r u, r < sz → cs[r]? = some u → w.cell? ⟨b, k * sz + r, none⟩ = some u := by
  obtain ⟨css, h1, h2, h3, h4⟩ := h
  have hkc : k < css.length := by omega
  have hg : css[k]? = some css[k] := List.getElem?_eq_getElem hkc
  refine ⟨css[k], h2 _ (List.getElem_mem hkc), h4 k _ _ hg (List.getElem?_eq_getElem hk), fun r u hr hu => ?_⟩
  obtain ⟨b', cap, cur', eV, -, e2, -, -, -, e6⟩ := own_cases h3 (by omega)
  simp only [Value.slice.injEq, Option.some.injEq, Addr.mk.injEq, and_true, true_and] at eV
  obtain ⟨rfl, -⟩ := eV
  have := flatten_get css h2 k _ hg r hr
  rw [← e6, List.getElem?_take] at this
  rw [e2.cell]
  split at this
  · rw [Array.getElem?_toList] at this
    rw [this, hu]
  · rw [hu] at this; cases this
end
/-- Items, and what they hold, that are small enough to be copied. -/
def ItSz (l : List Itm) : Prop := l.length * 296 ≤ 140737488355328 ∧ ∀ x ∈ l, x.user.length * 24 ≤ 140737488355328 ∧ (∀ z ∈ x.user, z.length ≤ 140737488355328) ∧ x.slices.length * 32 ≤ 140737488355328 ∧ ∀ z ∈ x.slices, z.2.length ≤ 140737488355328
end Go.Proofs.YtnefbeplgfdkkaaGreatDoor
/-
  A list of expressions of the call's own: plain facts.
-/
namespace Go.Proofs.YtnefbeplgfdkkaaGreatDoor
open Go.RowKit

theorem exLaw (d : Nat) : RLaw (fun w S cs x => ExAt d w S cs x) := ⟨fun _ _ _ _ _ h k => ExAt.keep k h, fun _ _ _ _ _ h hS => ExAt.sub hS h, fun _ _ _ _ h => ExAt.orr h⟩
/-- What lies below lo, and the list's own block. -/
def lowv (lo : Nat) (v : Value) : Nat → Prop := fun b => b < lo ∨ ofBlk v b
/-- A list of expressions of the call's own, whose arguments lie elsewhere than the list. -/
def ExO (w : World) (lo : Nat) (v : Value) (l : List Ex) : Prop := PRow (fun w S cs x => ExAt 3 w S cs x) w lo 89 8 (fun _ => lowv lo v) v l
theorem ExO.nil (w : World) (lo : Nat) : ExO w lo (.slice none 0 0) [] := ⟨[], rfl, fun _ h => (by cases h), ⟨rfl, .inl ⟨rfl, rfl⟩⟩, fun i cs x h => by simp at h⟩
theorem ExO.own {w : World} {lo : Nat} {v : Value} {l : List Ex} (h : ExO w lo v l) (b : Nat) (hb : ofBlk v b) : lo ≤ b ∧ b < w.heap.size := by
  obtain ⟨css, h1, h2, h3, h4⟩ := h
  exact ⟨own_ge h3 b hb, own_lt h3 b hb⟩
theorem ExO.keep {w w' : World} {S : Nat → Prop} {lo : Nat} {v : Value} {l : List Ex} (h : ExO w lo v l) (k : Keep S w w') (hS : ∀ b, S b → b < lo) : ExO w' lo v l :=
  PRow.keep (exLaw 3) h k (fun _ b e => .inl (hS b e)) (fun b e hb => by have := (ExO.own h b e).1; have := hS b hb; omega)
theorem ExO.base {w : World} {lo lo' : Nat} {v : Value} {l : List Ex} (h : ExO w lo v l) (hl : lo' ≤ lo) : ExO w lo' v l := by
  obtain ⟨css, h1, h2, h3, h4⟩ := h
  exact ⟨css, h1, h2, own_base h3 hl, fun i cs x a b => ExAt.sub (fun c e => e.elim (fun e => .inl (Nat.lt_of_lt_of_le e hl)) .inr) (h4 i cs x a b)⟩
theorem ExO.elems {w : World} {S : Nat → Prop} {lo : Nat} {v : Value} {l : List Ex} (h : ExO w lo v l) (hS : ∀ b, S b → b < lo) : ElemsOf w S 8 (ExAt 3 w S) v l :=
  PRow.elems (exLaw 3) h (fun b e hb => by have := (ExO.own h b e).1; have := hS b hb; omega) (fun _ _ b e => .inl (hS b e))
/-- One more expression. -/
theorem ExO.snoc {w w' : World} {lo n : Nat} {v v' : Value} {l : List Ex} {css : List (List Value)} {us : List Value} {x : Ex} (h1 : css.length = l.length) (h2 : ∀ cs ∈ css, cs.length = 8) (h4 : ∀ (i : Nat) (cs : List Value) (x : Ex), css[i]? = some cs → l[i]? = some x → ExAt 3 w (lowv lo v) cs x) (hx : ExAt 3 w (lowv lo v) us x) (hu : us.length = 8) (hl : l.length = n) (k : Keep (ofBlk v) w w') (ho : w'.ownsRow lo 89 8 v' (n + 1) (css.flatten ++ us)) (hat : ∀ b, ofBlk v' b → ofBlk v b ∨ w.heap.size ≤ b) : ExO w' lo v' (l ++ [x]) := by
  have tr : ∀ cs y, ExAt 3 w (lowv lo v) cs y → ExAt 3 w' (lowv lo v') cs y := fun cs y h =>
    ExAt.sub (S := orr (lowv lo v) w.heap.size) (fun b e => by
      rcases e with e | e
      · exact .inl (.inl e)
      · rcases hat b e with e | e
        · exact .inl (.inr e)
        · exact .inr e) (ExAt.keep (k.mono (fun b e => .inl (.inr e))) (ExAt.orr h))
  refine ⟨css ++ [us], by simp [h1], fun cs hc => ?_, ?_, fun i cs y hi hy => ?_⟩
  · rcases List.mem_append.1 hc with hc | hc
    · exact h2 cs hc
    · obtain rfl : cs = us := by simpa using hc
      exact hu
  · rw [List.length_append, hl, List.flatten_append]
    simpa using ho
  · rcases Nat.lt_trichotomy i l.length with hlt | rfl | hgt
    · rw [List.getElem?_append_left (by omega)] at hi hy
      exact tr _ _ (h4 i cs y hi hy)
    · rw [List.getElem?_append_right (by omega), h1] at hi
      rw [List.getElem?_append_right (by omega)] at hy
      simp at hi hy
      subst hi hy
      exact tr _ _ hx
    · rw [List.getElem?_append_right (by omega)] at hy
      have : l.length < i := hgt
      rw [List.getElem?_eq_none (by simp; omega)] at hy
      cases hy
section
variable {P : Program} {ops : Array Oper} {rest : List Oper} {op : Oper} {a : Act} {w : World} {Q : Exit → Act → World → Prop}
/-- 'append(s, x)' onto a row of the call's own: the new slice lies where the old one lay, or in new memory. -/
theorem wpList_append_at (s x : Operand) (t e : TypeId) (ho : op.op = .call { callee := .builtin .append, args := #[s, x], argTypes := #[t, t] }) (hgd : op.guard = none) (base : Nat) (zv : Value) (size bytes : Nat)
    (ht : P.underlying t = some (.slice e)) (hinfo : (P.info? e).map (fun i => (i.zero, i.size, i.bytes)) = some (some zv, size, bytes)) (hzs : zv.cells.size = size) (hsz : 0 < size)
    (v : Value) (n : Nat) (xs : List Value) (hs : a.eval s = v) (hown : w.ownsRow base e size v n xs) (b : Nat) (us : Array Value) (hx : a.eval x = .slice (some ⟨b, 0, none⟩) 1 1) (hb : Blk w b e us) (hus : us.size = size) (h1 : ∀ u ∈ us.toList, u.oneCell' = true)
    (hn : (n + 1) * (bytes + 1) ≤ 140737488355328) (hbase : base ≤ w.heap.size)
    (h : ∀ A' c' w', w'.ownsRow base e size (.slice A' (n + 1) c') (n + 1) (xs ++ us.toList) → Keep (ofBlk v) w w' → (∀ b, ofBlk (.slice A' (n + 1) c') b → ofBlk v b ∨ w.heap.size ≤ b) → wpList P ops Q rest (a.put op.dst (.slice A' (n + 1) c')) w') : wpList P ops Q (op :: rest) a w := by
  obtain ⟨i, hi, hz0, hz1, hz2⟩ := info_parts hinfo
  have hbb : (n + 1) * bytes ≤ (n + 1) * (bytes + 1) := Nat.mul_le_mul_left _ (by omega)
  have hnn : (n + 1) * 1 ≤ (n + 1) * (bytes + 1) := Nat.mul_le_mul_left _ (by omega)
  refine wpList_append_own_at w hgd s x t ho base e i zv size bytes ht hi hz0 hz1 hz2 hzs hsz v n xs hs hown ⟨b, 0, none⟩ 1 1 us.toList hx (by simp [hus]) (fun j u hu => ?_) h1 (by unfold maxLen; omega) (by omega) hbase fun v' w' h2 h3 _ h5 => ?_
  · rw [Addr.add_mid, Nat.zero_add, hb.cell]
    simpa using hu
  · obtain ⟨A', c', rfl, -⟩ := own_row (S := none_) h2 (fun _ _ e => e)
    refine h A' c' w' h2 (Keep.ofGrown h3) (fun b hb => ?_)
    rcases h5 with h5 | h5
    · exact .inl (h5.symm.trans hb)
    · exact .inr (by have e : some w.heap.size = some b := h5.symm.trans hb; injection e with e; omega)
end
/-- The names of small expressions are few. -/
theorem exs_few : ∀ {l : List Ex}, (∀ x ∈ l, Sm 4 x) → (exsMedia l).length ≤ 4 * l.length ∧ ∀ m ∈ exsMedia l, m.size ≤ maxLen
  | [], _ => ⟨by simp [exsMedia], fun m hm => by simp [exsMedia] at hm⟩
  | x :: r, h => by
    have h1 := h x (by simp)
    have h2 := exs_few (l := r) (fun y hy => h y (by simp [hy]))
    refine ⟨?_, fun m hm => ?_⟩
    · rw [exsMedia, List.length_append, List.length_cons]
      have := h1.1
      have := h2.1
      omega
    · rw [exsMedia, List.mem_append] at hm
      rcases hm with hm | hm
      · exact h1.2 m hm
      · exact h2.2 m hm
theorem exs_fewN {l : List Ex} (h : ∀ x ∈ l, Sm 4 x) (hl : l.length ≤ 24) : FewN l := ⟨by have := (exs_few h).1; omega, (exs_few h).2⟩
/-- The same expression, a frame further. -/
theorem ExAt.frame {d : Nat} {w : World} {S : Nat → Prop} {op fr num den par : Int} {md tx : ByteArray} {v : Value} {x : Ex} (f : Int) (h : ExAt d w S [.int .i64 op, .string md, .int .i64 fr, .int .i64 num, .int .i64 den, .int .i64 par, .string tx, v] x) :
    ∃ y, ExAt d w S [.int .i64 op, .string md, .int .i64 f, .int .i64 num, .int .i64 den, .int .i64 par, .string tx, v] y ∧ exMedia y = exMedia x := by
  cases d with
  | zero => exact h.elim
  | succ d =>
    obtain ⟨op', md', fr', num', den', par', tx', xs⟩ := x
    obtain ⟨v', e, h1, h2, h3⟩ := h
    simp only [Ex.op, Ex.media, Ex.frame, Ex.num, Ex.den, Ex.param, Ex.text, Ex.args] at e h1 h2 h3
    simp only [List.cons.injEq, Value.int.injEq, Value.string.injEq, true_and, and_true] at e
    obtain ⟨rfl, rfl, rfl, rfl, rfl, rfl, rfl, rfl⟩ := e
    exact ⟨.mk op md f num den par tx xs, ⟨_, rfl, h1, h2, h3⟩, by simp only [exMedia]⟩
end Go.Proofs.YtnefbeplgfdkkaaGreatDoor
