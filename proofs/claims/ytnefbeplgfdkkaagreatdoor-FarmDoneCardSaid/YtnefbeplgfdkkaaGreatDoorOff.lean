/-
  A state lies apart from every variable of its own type: told from what the cells hold. The facts of 'u, _, g := farm.Step(s, e)' where the region draws.
-/
import Derived.Test.YtnefbeplgfdkkaaGreatDoorStep2
namespace Go.Proofs.YtnefbeplgfdkkaaGreatDoor
open Go.RowKit

theorem no_string {w : World} {b : Nat} {a : Int} {A1 A2 A3 : Option Addr} {n1 n2 n3 c1 c2 c3 : Nat} (h : Blk w b 48 #[.int .i64 a, .slice A1 n1 c1, .slice A2 n2 c2, .slice A3 n3 c3]) (i : Nat) (x : ByteArray) : w.cell? ⟨b, i, none⟩ ≠ some (.string x) := by
  rw [h.cell]
  match i with
  | 0 => exact fun e => nomatch e
  | 1 => exact fun e => nomatch e
  | 2 => exact fun e => nomatch e
  | 3 => exact fun e => nomatch e
  | i + 4 => simp
/-- Block b is a variable of the state's type. -/
def StVar (w : World) (b : Nat) : Prop := ∃ a A1 n1 c1 A2 n2 c2 A3 n3 c3, Blk w b 48 #[.int .i64 a, .slice A1 n1 c1, .slice A2 n2 c2, .slice A3 n3 c3]
theorem StVar.no_string {w : World} {b : Nat} (h : StVar w b) (i : Nat) (x : ByteArray) : w.cell? ⟨b, i, none⟩ ≠ some (.string x) := by
  obtain ⟨_, _, _, _, _, _, _, _, _, _, h⟩ := h
  exact Proofs.YtnefbeplgfdkkaaGreatDoor.no_string h i x
theorem StVar.no_far {w : World} {b : Nat} (h : StVar w b) (i : Nat) (v : Value) (hi : 4 ≤ i) : w.cell? ⟨b, i, none⟩ ≠ some v := by
  obtain ⟨_, _, _, _, _, _, _, _, _, _, h⟩ := h
  rw [h.cell]
  obtain ⟨j, rfl⟩ : ∃ j, i = j + 4 := ⟨i - 4, by omega⟩
  simp
theorem StVar.keep {w w' : World} {S : Nat → Prop} {b : Nat} (h : StVar w b) (k : Keep S w w') (hb : ¬ S b) : StVar w' b := by
  obtain ⟨_, _, _, _, _, _, _, _, _, _, h⟩ := h
  exact ⟨_, _, _, _, _, _, _, _, _, _, h.keep k hb⟩
def orB (S : Nat → Prop) (bk : Nat) : Nat → Prop := fun b => S b ∨ b = bk
theorem ElemsOf.off {α : Type} {w : World} {S : Nat → Prop} {size : Nat} {R R' : List Value → α → Prop} {v : Value} {l : List α} {bk : Nat} (h : ElemsOf w S size R v l) (hno : ∀ b o cs x, cs.length = size → w.rangeAt b o cs → R cs x → b ≠ bk) (hR : ∀ cs x, x ∈ l → R cs x → R' cs x) : ElemsOf w (orB S bk) size R' v l := by
  obtain ⟨A, n, c, e, h1, h2, h3, h4⟩ := h
  refine ⟨A, n, c, e, h1, h2, h3, fun hn => ?_⟩
  obtain ⟨b, o, e, hb, hc⟩ := h4 hn
  refine ⟨b, o, e, fun hx => ?_, fun i hi => ?_⟩
  · obtain ⟨cs, g1, g2, g3⟩ := hc 0 (by omega)
    rcases hx with hx | hx
    · exact hb hx
    · exact hno b _ cs _ g1 g2 g3 hx
  · obtain ⟨cs, g1, g2, g3⟩ := hc i hi
    exact ⟨cs, g1, g2, hR _ _ (List.getElem_mem hi) g3⟩
theorem StrsOf.off {w : World} {S : Nat → Prop} {v : Value} {l : List ByteArray} {bk : Nat} (h : StrsOf w S v l) (hk : StVar w bk) : StrsOf w (orB S bk) v l := by
  obtain ⟨A, n, c, e, r⟩ := h
  refine ⟨A, n, c, e, r.len, r.le, r.cap, fun hn => ?_⟩
  obtain ⟨b, o, e, hb, hc⟩ := r.at_ hn
  refine ⟨b, o, e, fun hx => ?_, hc⟩
  rcases hx with hx | hx
  · exact hb hx
  · have hl : l.length = n := by have := r.len; simpa using this
    have := hc 0 (.string (l[0]'(by omega))) (by rw [List.getElem?_map, List.getElem?_eq_getElem (by omega)]; rfl)
    rw [hx] at this
    exact hk.no_string _ _ this
theorem ElemsOf.none {α : Type} {w : World} {S S' : Nat → Prop} {size : Nat} {R R' : List Value → α → Prop} {v : Value} {l : List α} (h : ElemsOf w S size R v l) (h0 : l = []) : ElemsOf w S' size R' v l := by
  obtain ⟨A, n, c, e, h1, h2, h3, h4⟩ := h
  subst h0
  exact ⟨A, n, c, e, h1, h2, h3, fun hn => absurd hn (by simp at h3; omega)⟩
theorem StateOf.off {w : World} {S : Nat → Prop} {v : Value} {s : St} {bk : Nat} (h : StateOf w S v s) (hi : ItsOk s) (hk : StVar w bk) : StateOf w (orB S bk) v s := by
  obtain ⟨p, j, q, e, h1, h2, h3⟩ := h
  refine ⟨p, j, q, e, h1.off hk, ElemsOf.off h2 (fun b o cs x g1 g2 g3 hb => ?_) (fun cs x hx g => ?_), ElemsOf.off h3 (fun b o cs x g1 g2 g3 hb => ?_) (fun _ _ _ h => h)⟩
  · obtain ⟨vn, vi, rfl, -⟩ := g3
    have := g2 0 (.string x.name) rfl
    rw [hb] at this
    exact hk.no_string _ _ this
  · obtain ⟨vn, vi, rfl, g1, g2⟩ := g
    have hp := (hi x hx).1
    refine ⟨vn, vi, rfl, g1.off hk, ElemsOf.off g2 (fun b o cs x g1 g2 g3 hb => ?_) (fun cs y hy g => ?_)⟩
    · have := g2 147 (cs[147]'(by omega)) (List.getElem?_eq_getElem (by omega))
      rw [hb] at this
      exact hk.no_far _ _ (by omega) this
    · obtain ⟨u, t, e1, e2, e3, e4, e5⟩ := g
      exact ⟨u, t, e1, e2, e3, e4.none (hp y hy).1, e5.none (hp y hy).2⟩
  · have g3' : cs = [.string x.name, .bool x.dead] := g3
    subst g3'
    have := g2 0 (.string x.name) rfl
    rw [hb] at this
    exact hk.no_string _ _ this
theorem gives_store_blk {P : Program} {o : Oper} {a : Act} {w : World} {X : Value → World → Prop} (ty : TypeId) (x y : Operand) (ho : o.op = .store ty x y) (b : Nat) (t : TypeId) (cs xs : Array Value) (hx : a.eval x = .pointer (some ⟨b, 0, none⟩)) (hy : a.eval y = .agg xs)
    (hb : Blk w b t cs) (hs : cs.size = xs.size) (hi : (P.info? ty).map (·.size) = some xs.size) (h1 : xs.all (·.oneCell') = true)
    (h : ∀ w', Blk w' b t xs → Keep (one b) w w' → X undef w') : gives P o a w X := by
  unfold gives execOp
  simp only [ho, hx, hy, Sem.run_bind, run_storeAt_mid (P := P) w b 0 ty xs (hb.there 0 xs.size (by omega)) hi h1, Result.andThen_ok, Sem.run_pure]
  refine h _ ?_ (Keep.setCells _ _ _ _)
  have := Blk.setCells b xs.toList 0 w cs hb
  rw [laid_whole cs xs.toList (by simp [hs])] at this
  simpa using this

/-- The facts of 'u, _, g := farm.Step(s, farm.Event{..})'. -/
def stR (wr : World) (i : Nat) (a b : World) : Prop := if i = 12 then ∃ bk, wr.heap.size ≤ bk ∧ StVar a bk ∧ StVar b bk ∧ Keep (one bk) a b else Keep none_ a b
def stCells (vs : List Value) : Array Value := match vs.getD 1 undef with
  | .agg cs => cs
  | _ => #[]
def stBlk (vs : List Value) (b : Nat) : Prop := vs.getD 0 undef = .pointer (some ⟨b, 0, none⟩)
def finCalm (wr : World) (s2 : St) : Calm where
  R := stR wr
  G := fun _ => Keep none_ wr
  eff := [6, 11, 12]
  T := fun k vs v w' => if k = 11 then ∃ b, wr.heap.size ≤ b ∧ v = .pointer (some ⟨b, 0, none⟩) ∧ StVar w' b else if k = 6 then ∃ vs A n c, v = .tuple #[vs, .slice A n c, .int .i64 0] ∧ StateOf w' none_ vs s2 else ∃ b, stBlk vs b ∧ Blk w' b 48 (stCells vs)
  anc := fun k => if k = 12 then [6, 11] else []
  own := fun _ _ _ => False
theorem finCalm_good (wr : World) (s2 : St) (hi : ItsOk s2) : (finCalm wr s2).Good where
  mono := fun _ _ h => h
  size := fun i _ _ h => by
    simp only [finCalm, stR] at h
    split at h
    · obtain ⟨_, _, _, _, h⟩ := h; exact h.size
    · exact h.size
  stable := fun i k _ _ w1 w2 he hne h hR => by
    simp only [finCalm, stR] at h hR ⊢
    by_cases e : k = 11
    · rw [if_pos e] at h ⊢
      obtain ⟨b, h1, h2, h3⟩ := h
      refine ⟨b, h1, h2, ?_⟩
      split at hR
      · obtain ⟨bk, g1, g2, g3, g4⟩ := hR
        by_cases eb : b = bk
        · rw [eb]; exact g3
        · exact h3.keep g4 eb
      · exact h3.keep hR (fun e => e)
    · rw [if_neg e] at h ⊢
      by_cases e6 : k = 6
      · rw [if_pos e6] at h ⊢
        obtain ⟨vs, A, n, c, e1, h1⟩ := h
        refine ⟨vs, A, n, c, e1, ?_⟩
        split at hR
        · obtain ⟨bk, g1, g2, g3, g4⟩ := hR
          exact ((h1.off hi g2).keep (g4.mono (fun x e => .inr e))).sub (fun _ e => e.elim)
        · exact h1.keep hR
      · rw [if_neg e6] at h ⊢
        have e12 : k = 12 := by simpa [finCalm, e, e6] using he
        rw [if_neg (fun e => hne (by omega))] at hR
        obtain ⟨b, h1, h2⟩ := h
        exact ⟨b, h1, h2.keep hR (fun e => e)⟩
theorem finCalm_at {wr : World} {s2 : St} (x : (finCalm wr s2).Sub) : Keep none_ wr ((finCalm wr s2).at_ x) := by
  obtain ⟨x, n, _, h⟩ := x
  exact h
theorem finCalm_some (wr : World) (s2 : St) : Nonempty (finCalm wr s2).Sub := ⟨⟨wr, 0, Nat.zero_le _, Keep.refl _ _⟩⟩
end Go.Proofs.YtnefbeplgfdkkaaGreatDoor
