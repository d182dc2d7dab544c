/-
  '==' on sequence headers: it answers, and equal headers are equal.
-/
import Derived.Test.YtnpkhbcbbbpjhaaHead
namespace Go.Proofs.Ytnpkhbcbbbpjhaa
open Go.RowKit

/-- '==' answers whatever the world, and says yes of a value and itself. -/
def EqOk (P : Program) (d : Nat) (t : TypeId) (x y : Value) : Prop := ∃ b : Bool, (x = y → b = true) ∧ ∀ w, (Op.equalIn d t x y).run P w = .ok b w

section
variable {P : Program} {d : Nat}
theorem eqOk_int {t : TypeId} {k k' : IntKind} (a b : Int) (h : P.underlying t = some (.int k')) : EqOk P (d + 1) t (.int k a) (.int k b) :=
  ⟨a == b, fun e => by cases e; simp, fun w => run_equalIn_int w d t k k' a b h⟩
theorem eqOk_bool {t : TypeId} (a b : Bool) (h : P.underlying t = some .bool) : EqOk P (d + 1) t (.bool a) (.bool b) :=
  ⟨a == b, fun e => by cases e; simp, fun w => run_equalIn_bool w d t a b h⟩
/-- A part of a struct's or an array's cells. -/
def PartIs (P : Program) (t : TypeId) (cs : Array Value) (off : Nat) (v : Value) : Prop := ∀ w, (part t cs off).run P w = .ok v w
theorem PartIs.one {t : TypeId} {cs : Array Value} {off : Nat} {v : Value} {D : TypeDesc} (hu : P.underlying t = some D) (hd : D.isRow = false) (hc : cs[off]? = some v) : PartIs P t cs off v := fun w => by
  have hagg : (isAgg t).run P w = .ok false w := by
    unfold isAgg
    rw [Sem.run_bind, run_underlying hu w]
    cases D <;> simp_all
  simp [part, hagg, hc]
theorem PartIs.many {t : TypeId} {cs : Array Value} {off n : Nat} {D : TypeDesc} (hu : P.underlying t = some D) (hd : D.isRow = true) (hi : ∀ w, (sizeOf t).run P w = .ok n w) : PartIs P t cs off (.agg (cs.extract off (off + n))) := fun w => by
  have hagg : (isAgg t).run P w = .ok true w := by
    unfold isAgg
    rw [Sem.run_bind, run_underlying hu w]
    cases D <;> simp_all
  simp [part, hagg, hi]
theorem eqFields_ok (xs ys : Array Value) : ∀ fs : List Field, (∀ f ∈ fs, ∃ a b, PartIs P f.type xs f.offset a ∧ PartIs P f.type ys f.offset b ∧ (xs = ys → a = b) ∧ EqOk P d f.type a b) →
    ∃ r : Bool, (xs = ys → r = true) ∧ ∀ w, (Op.eqFields d xs ys fs).run P w = .ok r w
  | [], _ => ⟨true, fun _ => rfl, fun w => by simp [Op.eqFields]⟩
  | f :: fs, h => by
    obtain ⟨r, hr, hrun⟩ := eqFields_ok xs ys fs fun g hg => h g (List.mem_cons_of_mem _ hg)
    obtain ⟨a, b, ha, hb, hab, c, hc, he⟩ := h f (List.mem_cons_self ..)
    by_cases hn : f.name ≠ "_"
    · refine ⟨c && r, fun e => by simp [hc (hab e), hr e], fun w => ?_⟩
      simp only [Op.eqFields, if_pos hn, Sem.run_bind, ha w, hb w, he w, Result.andThen_ok]
      cases c
      · simp
      · simpa using hrun w
    · refine ⟨r, hr, fun w => ?_⟩
      simp only [Op.eqFields, if_neg hn]
      exact hrun w
theorem eqOk_struct {t : TypeId} {fs : Array Field} (xs ys : Array Value) (ht : P.underlying t = some (.struct fs)) (hp : P.stoodInHeld t = false)
    (h : ∀ f ∈ fs.toList, ∃ a b, PartIs P f.type xs f.offset a ∧ PartIs P f.type ys f.offset b ∧ (xs = ys → a = b) ∧ EqOk P d f.type a b) : EqOk P (d + 1) t (.agg xs) (.agg ys) := by
  have hfs : P.fieldsOf t = fs := by simp [Program.fieldsOf, ht]
  obtain ⟨r, hr, hrun⟩ := eqFields_ok xs ys fs.toList h
  refine ⟨r, fun e => hr (by injection e), fun w => ?_⟩
  rw [run_equalIn_struct w d t xs ys (by rw [hfs]; exact ht) hp, hfs]
  exact hrun w
theorem eqOk_array {t e : TypeId} {len : Nat} (xs ys : Array Value) (ht : P.underlying t = some (.array len e)) (hs : ∀ w, (sizeOf e).run P w = .ok 1 w)
    (h : ∀ i, i < len → ∃ a b, PartIs P e xs i a ∧ PartIs P e ys i b ∧ (xs = ys → a = b) ∧ EqOk P d e a b) : EqOk P (d + 1) t (.agg xs) (.agg ys) := by
  have key : ∀ l : List Nat, (∀ i ∈ l, i < len) → ∃ r : Bool, (xs = ys → r = true) ∧ ∀ w, (do
      let r ← forIn (m := Sem) l ((none, ()) : Option Bool × Unit) fun i _ => do
        let a ← part e xs (i * 1)
        let b ← part e ys (i * 1)
        let c ← Op.equalIn d e a b
        if (!c) = true then pure (ForInStep.done (some false, ())) else pure (ForInStep.yield (none, ()))
      match r.1 with
      | some a => pure a
      | none => pure true : Sem Bool).run P w = .ok r w := by
    intro l
    induction l with
    | nil => exact fun _ => ⟨true, fun _ => rfl, fun w => by simp⟩
    | cons i l ih =>
      intro hl
      obtain ⟨r, hr, hrun⟩ := ih fun k hk => hl k (List.mem_cons_of_mem _ hk)
      obtain ⟨a, b, ha, hb, hab, c, hc, he⟩ := h i (hl i (List.mem_cons_self ..))
      refine ⟨c && r, fun e => by simp [hc (hab e), hr e], fun w => ?_⟩
      have ha' := ha w
      have hb' := hb w
      cases c with
      | false => simp [Nat.mul_one, ha', hb', he w]
      | true =>
        have := hrun w
        simp only [List.forIn_cons, Nat.mul_one, Sem.run_bind, ha', hb', he w, Result.andThen_ok, Bool.not_true, Bool.false_eq_true, if_false, Sem.run_pure, Bool.true_and] at this ⊢
        exact this
  obtain ⟨r, hr, hrun⟩ := key (List.range' 0 len 1) (fun i hi => by simp [List.mem_range'] at hi; omega)
  refine ⟨r, fun e => hr (by injection e), fun w => ?_⟩
  have := hrun w
  simp only [Op.equalIn, Sem.run_bind, run_underlying ht, Result.andThen_ok, hs, Std.Legacy.Range.forIn_eq_forIn_range', Std.Legacy.Range.size, Nat.sub_zero, Nat.add_sub_cancel, Nat.div_one] at this ⊢
  refine Eq.trans ?_ this
  refine congr (congrArg _ ?_) ?_
  · rfl
  · funext a w'
    rcases a with ⟨_ | _, _⟩ <;> rfl
end
end Go.Proofs.Ytnpkhbcbbbpjhaa
