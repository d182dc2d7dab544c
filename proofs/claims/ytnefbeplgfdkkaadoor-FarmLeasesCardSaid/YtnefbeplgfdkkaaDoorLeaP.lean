/-
  FarmLeases: the plain facts.
-/
import Derived.Test.YtnefbeplgfdkkaaDoorRdy
namespace Go.Proofs.YtnefbeplgfdkkaaDoor
open Go.RowKit

theorem step_ok {s : St} {e : Ev} (h0 : stepE s e = 0) : evOk e = true ∧ perE s e = 0 := by
  unfold stepE at h0
  by_cases h : (validF s && evOk e) = true
  · rw [if_pos h] at h0
    exact ⟨(Bool.and_eq_true_iff.1 h).2, h0⟩
  · rw [if_neg h] at h0
    cases h0
theorem lea_V {s : St} (hv : V s) {e : Ev} (h0 : stepE s e = 0) : V (stepS s e) := by
  unfold stepS
  rw [if_pos h0]
  exact hv.per (step_ok h0).1
theorem lea_poll {s : St} {e : Ev} (h0 : stepE s e = 0) (h6 : e.kind = 6) {k : Nat} {r : List Nat} (hr : readyL s = k :: r) : stepO s e = [⟨1, nameAt s k, e.worker⟩] := by
  have p0 : pollE s e.worker = 0 := by
    have := (step_ok h0).2
    unfold perE at this
    simpa [h6] using this
  unfold stepO perO
  rw [if_pos h0, if_pos h6]
  exact pollO_cons p0 hr.symm
theorem lea_apart {s : St} (hv : V s) {i k : Nat} (hi : i < s.jobs.length) (hk : k < s.jobs.length) (hne : i ≠ k) (hw : s.jobs[i].worker ≠ ⟨#[]⟩) : s.jobs[i].worker ≠ s.jobs[k].worker := by
  have h := List.pairwise_iff_getElem.1 hv.jd
  rcases Nat.lt_or_gt_of_ne hne with hl | hl
  · intro e
    exact h i k hi hk hl (e ▸ hw) e
  · intro e
    exact h k i hk hi hl hw e.symm
theorem lea_ready {s : St} (hv : V s) {i m : Nat} (hi : i < s.jobs.length) (hm : m < (readyL s).length) (he : nameAt s (readyL s)[m] = s.jobs[i].name) : s.jobs[i].worker = ⟨#[]⟩ ∧ s.jobs[i].done = false := by
  obtain ⟨hkl, hrd⟩ := readyL_mem (List.getElem_mem hm)
  generalize (readyL s)[m] = k at hkl hrd he
  have e1 : nameAt s k = s.jobs[k].name := by unfold nameAt; rw [List.getElem?_eq_getElem hkl]
  rw [e1] at he
  have hik : k = i := by
    have h := List.pairwise_iff_getElem.1 hv.jn
    rcases Nat.lt_trichotomy k i with hl | hl | hl
    · exact absurd he (h k i hkl hi hl)
    · exact hl
    · exact absurd he.symm (h i k hi hkl hl)
  subst hik
  unfold readyAt at hrd
  simp only [Bool.and_eq_true, Bool.not_eq_true'] at hrd
  exact ⟨strEq_iff.1 hrd.1.1.2, hrd.1.1.1⟩
theorem EvOwn.csS {w : World} {S : Nat → Prop} {lo : Nat} (hS : ∀ b, lo ≤ b → ¬ S b) {cs : List Value} {e : Ev} (h : EvOwn w lo cs e) : EvCs w S cs e := by
  obtain ⟨vn, vi, icss, e1, h1, h2, h3, h4⟩ := h
  obtain ⟨A, c, rfl, r⟩ := own_row (S := S) h1 hS
  obtain ⟨B, d, rfl, r2⟩ := own_row (S := S) h2 hS
  exact ⟨_, _, e1, ⟨_, _, _, rfl, r⟩, ElemsOf.of_row rfl h3.1 h3.len r2 (fun i cs x hi hx => (h3.2 i cs x hi hx).itm (h4 x (List.mem_of_getElem? hx)).1 (h4 x (List.mem_of_getElem? hx)).2)⟩
theorem EvsOf.ownS {w : World} {S : Nat → Prop} {base : Nat} (hS : ∀ b, base ≤ b → ¬ S b) {v : Value} {css : List (List Value)} {l : List Ev} (h : w.ownsRow base 25 6 v l.length css.flatten) (h2 : All2 (EvCs w S) css l) : EvsOf w S v l := by
  obtain ⟨A, c, rfl, hr⟩ := own_row (S := S) h hS
  obtain ⟨g1, g2⟩ := h2.get
  refine ElemsOf.of_row rfl g1 (fun x hx => ?_) hr g2
  obtain ⟨i, hi, rfl⟩ := List.mem_iff_getElem.1 hx
  exact EvCs.len (g2 i _ _ (List.getElem?_eq_getElem hi) (List.getElem?_eq_getElem (by rw [← g1]; exact hi)))
section
variable {P : Program} {ops : Array Oper} {c : Calm} {L : Array Bool → Act → Prop} {o : Oper} {rest : List (Nat × Oper)} {k : Nat} {a : Act} {listed : Array Bool}
/-- 'x != y' on structs, inside a region that draws. -/
theorem Calm.walk_neq_agg (t : TypeId) (x y : Operand) (u : TypeId) (ho : o.op = .binOp .neq t x y u) (ne : Nonempty c.Sub) (he : c.eff.contains k = false) (hw : Region.wanted o (yielded ops a.tmps) = true) (xs ys : Array Value) (hx : a.eval x = .agg xs) (hy : a.eval y = .agg ys)
    (hm : P.eqGuardType P.depth t = false) (b : Bool) (hb : ∀ w, (Op.equalIn 10000 t (.agg xs) (.agg ys)).run P w = .ok b w) (h : c.walkP P ops L rest (listed.setIfInBounds k true) (a.put o.dst (.bool (!b)))) : c.walkP P ops L ((k, o) :: rest) listed a :=
  Calm.walk_is (.bool (!b)) ne he (by rw [ho]; rfl) hw (fun z => by
    unfold execOp
    simp only [ho, hx, hy, Sem.run_bind, run_eqGuard_agg _ _ _ _ _ _ _ hm, run_neq_struct, hb, Result.andThen_ok, Sem.run_pure]) h
end
theorem eqOk_string {P : Program} {d : Nat} {t : TypeId} (a b : ByteArray) (h : P.underlying t = some .string) : EqOk P (d + 1) t (.string a) (.string b) :=
  ⟨a.toList == b.toList, fun e => by cases e; simp, fun w => run_equalIn_string w d t a b h⟩
theorem out_eq (a : Int) (x y : ByteArray) : ∀ w, (Op.equalIn 10000 40 (.agg #[.int .i64 a, .string x, .string y]) (.agg #[.int .i64 a, .string x, .string y])).run Tryd.prog w = .ok true w := by
  obtain ⟨b, h1, h2⟩ : EqOk Tryd.prog (9998 + 1 + 1) 40 (.agg #[.int .i64 a, .string x, .string y]) (.agg #[.int .i64 a, .string x, .string y]) := by
    refine eqOk_struct _ _ Tryd.underlying40 (by kernel_rfl) fun f hf => ?_
    simp only [List.mem_cons, List.not_mem_nil, or_false] at hf
    rcases hf with rfl | rfl | rfl
    · exact ⟨.int .i64 a, .int .i64 a, PartIs.one Tryd.underlying3 rfl rfl, PartIs.one Tryd.underlying3 rfl rfl, fun _ => rfl, eqOk_int _ _ Tryd.underlying3⟩
    · exact ⟨.string x, .string x, PartIs.one Tryd.underlying9 rfl rfl, PartIs.one Tryd.underlying9 rfl rfl, fun _ => rfl, eqOk_string _ _ Tryd.underlying9⟩
    · exact ⟨.string y, .string y, PartIs.one Tryd.underlying9 rfl rfl, PartIs.one Tryd.underlying9 rfl rfl, fun _ => rfl, eqOk_string _ _ Tryd.underlying9⟩
  intro w
  rw [h2 w, h1 rfl]
theorem JobsOf.cells {w : World} {S : Nat → Prop} {A : Option Addr} {n c : Nat} {l : List Jb} (h : JobsOf w S (.slice A n c) l) (hn : 0 < n) : ∃ b o, A = some ⟨b, o, none⟩ ∧ ∀ i (hi : i < l.length), w.cell? ⟨b, o + i * 7, none⟩ = some (.string l[i].name) ∧ w.cell? ⟨b, o + i * 7 + 2, none⟩ = some (.string l[i].worker) ∧ w.cell? ⟨b, o + i * 7 + 5, none⟩ = some (.bool l[i].done) := by
  obtain ⟨A', n', c', e, -, -, hl, h4⟩ := h
  injection e with e1 e2 e3
  subst e1 e2 e3
  obtain ⟨b, o, rfl, -, hc⟩ := h4 hn
  refine ⟨b, o, rfl, fun i hi => ?_⟩
  obtain ⟨cs, -, hr, vn, vi, rfl, -, -⟩ := hc i hi
  exact ⟨hr 0 _ rfl, hr 2 _ rfl, hr 5 _ rfl⟩
theorem row_str {w : World} {S : Nat → Prop} {A : Option Addr} {n c : Nat} {xs : List Value} (h : Row w S 1 A n c xs) (k : Nat) (hk : k < n) : ∃ b o u, A = some ⟨b, o, none⟩ ∧ xs[k]? = some u ∧ w.cell? ⟨b, o + k, none⟩ = some u := by
  obtain ⟨b, o, rfl, -, hc⟩ := h.at_ (by omega)
  have hl := h.len
  exact ⟨b, o, xs[k], rfl, List.getElem?_eq_getElem (by omega), hc k _ (List.getElem?_eq_getElem (by omega))⟩
end Go.Proofs.YtnefbeplgfdkkaaDoor
