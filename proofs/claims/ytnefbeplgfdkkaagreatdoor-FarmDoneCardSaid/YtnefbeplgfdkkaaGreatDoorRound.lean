/-
  Regions in a round of a loop over a function, at the wide fence: what a plain walk shows holds there too.
-/
import Derived.RangeFuncNested
import Derived.RangeFuncBound
import Derived.RangeFuncCalls
import Derived.RangeFuncLeaves
import Derived.Shelf.Abstract
import Derived.Shelf.RegionOpen
import Derived.WalkKit
import Derived.OwnWalkIn
import Derived.TacticsInMore
import Derived.LoopNIn
import Derived.LoopIn
import Derived.Sort.CutIn
import Derived.Test.YtnefbeplgfdkkaaGreatDoorCalm
namespace Go.Proofs.YtnefbeplgfdkkaaGreatDoor
open Go.RowKit

def noDefer (o : Oper) : Bool := match o.op with
  | .defer _ => false
  | _ => true
theorem noDefer_ne {o : Oper} (h : noDefer o = true) : ∀ c, o.op ≠ .defer c := by
  intro c e
  unfold noDefer at h
  rw [e] at h
  cases h
section
variable {P : Program} {n l : Nat} {ops : Array Oper} {Q : Exit → Act → World → Prop}
theorem op_round {o : Oper} {a : Act} {w : World} {K : Act → World → Prop} (hd : noDefer o = true) (h : o.wp P a w K Q) : o.wpIn (Fence.wide.inRound l) n P a w K Q := by
  refine ⟨fun _ _ => trivial, ?_⟩
  rw [Oper.semAt_eq _ _ _ (noDefer_ne hd)]
  unfold Oper.wp at h
  generalize (execOp a.eval o).run P w = r at *
  cases r with
  | ok x w' =>
    cases x with
    | value v => exact h
    | skip => exact h
    | defer d => exact h
    | enter f args => exact ⟨fun e => absurd e (by simp [Fence.wide, Fence.inRound]), CallsIn.inRound l (callsIn_wide.2 h)⟩
    | row row args => exact ⟨fun e => absurd e (by simp [Fence.wide, Fence.inRound]), fun c cs _ => by
        obtain ⟨v, w'', hR, hS⟩ := h c cs
        exact ⟨v, w'', hR, stepsIn_wide.2 hS⟩⟩
    | round _ _ _ _ _ => exact h.elim
    | _ => exact h.elim
  | halt x w' => cases x <;> exact h
theorem any_round {md : Region.Mode} (hQ : ¬ LetsOut Q) (ho : ops.all noDefer = true) : ∀ (fuel : Nat) (listed : Array Bool) (a : Act) (w : World), wpAny P md ops Q fuel listed a w → wpAnyIn (Fence.wide.inRound l) n P md ops Q fuel listed a w
  | 0, _, _, _, h => h
  | fuel + 1, listed, a, w, h => by
    refine ⟨h.1, fun i hi => ?_⟩
    have h2 := h.2 i hi
    unfold wpOp at h2
    unfold wpOpIn
    cases hop : ops[i]? with
    | none => rw [hop] at h2; exact any_round hQ ho fuel _ a w h2
    | some o =>
      rw [hop] at h2
      simp only at h2 ⊢
      have hd : noDefer o = true := by
        have := Array.all_eq_true.1 ho i (Array.getElem?_eq_some_iff.1 hop).1
        rwa [(Array.getElem?_eq_some_iff.1 hop).2] at this
      by_cases hw : Region.wanted o (yielded ops a.tmps) = true
      · rw [if_pos hw] at h2 ⊢
        rcases h2 with h2 | h2
        · exact Oper.wpIn_mono (fun a w h => any_round hQ ho fuel _ a w h) (op_round hd h2)
        · exact absurd h2.2 hQ
      · rw [if_neg hw] at h2 ⊢
        exact ⟨fun _ _ => trivial, any_round hQ ho fuel _ _ w h2⟩
theorem list_round (hQ : ¬ LetsOut Q) : ∀ (l' : List Oper) (_ : l'.all noDefer = true) (a : Act) (w : World), wpList P ops Q l' a w → wpListIn (Fence.wide.inRound l) n P ops Q l' a w
  | [], _, _, _, h => h
  | o :: rest, ho, a, w, h => by
    rw [List.all_cons, Bool.and_eq_true] at ho
    unfold wpList at h
    unfold wpListIn
    by_cases hw : Region.wanted o (yielded ops a.tmps) = true
    · rw [if_pos hw] at h ⊢
      rcases h with h | h
      · exact Oper.wpIn_mono (fun a w h => list_round hQ rest ho.2 a w h) (op_round ho.1 h)
      · exact absurd h.2 hQ
    · rw [if_neg hw] at h ⊢
      exact ⟨fun _ _ => trivial, list_round hQ rest ho.2 _ w h⟩
theorem region_round_lit {id : Nat} {a : Act} {w : World} {l' : List Oper} (hQ : ¬ LetsOut Q) (ho : l'.all noDefer = true) (h : wpList P l'.toArray Q l' a w) : (Code.region id l'.toArray false).wpIn (Fence.wide.inRound l) n P Q a w :=
  wpIn_region_lit (list_round hQ l' ho a w h)
theorem region_round_calm {id : Nat} {a : Act} {w : World} {l' : List Oper} (c : Calm) (hd tl : List Nat) (N : Nat) (hQ : ¬ LetsOut Q) (ho : l'.toArray.all noDefer = true) (hm : P.follows .mixedOrders = true) (hA : c.allB l'.toArray hd tl N = true) (hN : a.tmps.size = N) (gd : c.Good)
    (hw : c.G 0 { w with drawn := w.drawn + 1 })
    (h : c.walkP P l'.toArray (fun listed a' => ∀ w', c.G (c.cnt listed) w' → c.DF l'.toArray listed a' w' → wpList P l'.toArray Q (pickOps l'.toArray tl) a' w') (pairs l'.toArray hd) (Array.replicate l'.toArray.size false) a) : (Code.region id l'.toArray true).wpIn (Fence.wide.inRound l) n P Q a w := by
  simp only [Calm.allB, Bool.and_eq_true, decide_eq_true_eq] at hA
  obtain ⟨⟨⟨⟨⟨⟨⟨⟨hB, hord⟩, hsel⟩, hall⟩, hdis⟩, htw⟩, hlen⟩, hnd⟩, hseq⟩ := hA
  have hall' : ∀ k, k < l'.toArray.size → k ∈ hd ∨ k ∈ tl := fun k hk => by
    have := List.all_eq_true.1 hall k (List.mem_range.2 hk)
    simpa using this
  have hdis' : ∀ k ∈ tl, k ∉ hd ∧ k < l'.toArray.size := fun k hk => by
    have := List.all_eq_true.1 hdis k hk
    simp only [Bool.and_eq_true, decide_eq_true_eq] at this
    exact ⟨by simpa using this.1, this.2⟩
  have hhd : ∀ k ∈ hd, k < l'.toArray.size := fun k hk => by
    obtain ⟨o, ho, _⟩ := Calm.B_at hB hk
    exact (Array.getElem?_eq_some_iff.1 ho).1
  have cnt0 : c.cnt (Array.replicate l'.toArray.size false) = 0 := by
    unfold Calm.cnt
    rw [List.countP_eq_zero]
    intro k _
    rw [getD_replicate_false]
    simp
  refine wpIn_region_any hm (any_round hQ ho _ _ _ _ ?_)
  have := Calm.main (P := P) (Q := Q) (end_ := setAll (Array.replicate l'.toArray.size false) hd) gd hB (Region.noSelect_spec hsel) hall' (fun k hk => (hdis' k hk).1) htw (fun k hk => by
      have := (hdis' k hk).2
      simp only [Array.getElem?_eq_getElem this, Option.isSome_some]) hseq hd.length hd [] (Array.replicate l'.toArray.size false) a { w with drawn := w.drawn + 1 } rfl (fun k hk => hk) (fun k hk => .inl hk) hord
      ⟨fun k hk => (by cases hk), fun k hk => getD_in (by simpa using hhd k hk) (getD_replicate_false _ _), hnd⟩
      ⟨by simp, fun j oj _ hl => (by rw [getD_replicate_false] at hl; cases hl), fun k hl => (by rw [getD_replicate_false] at hl; cases hl), fun k hl => (by rw [getD_replicate_false] at hl; cases hl)⟩ hN rfl (by rw [cnt0]; exact hw)
      ⟨fun k hl => (by rw [getD_replicate_false] at hl; cases hl), fun k k' hl => (by rw [getD_replicate_false] at hl; cases hl)⟩
      (Calm.walk_of_P hd _ _ (fun k hk => by simp only [Array.getElem?_eq_getElem (hhd k hk), Option.isSome_some]) h)
  rw [hlen] at this
  exact this
end
end Go.Proofs.YtnefbeplgfdkkaaGreatDoor
