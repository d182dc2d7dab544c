/-
  PROVED: FarmJobsUptoCardSaid: for every input of bulk at most 1048576 FarmJobs returns true and leaves its arguments as they were. Conditions: those of the card (the three tables of math/bits and strconv are laid as the program's text lays them).
-/
import Derived.Test.YtnefbeplgfdkkaaGreatDoorRows
import Derived.Test.YtnefbeplgfdkkaaGreatDoorJb39
import Derived.MapViews
import Derived.DeepKeys2
import Derived.Deep.Slices
import Derived.ChangeArms
import Derived.Test.YtnefbeplgfdkkaaGreatDoorCards
import Derived.Test.YtnefbeplgfdkkaaGreatDoorJb27
import Derived.Test.YtnefbeplgfdkkaaGreatDoorJb51
import Derived.Deep.DeepHandedRow
import Derived.Lib.LaidTab
/-
  What came in, opened by its bulk: plans and expressions.
-/
namespace Go.Proofs.YtnefbeplgfdkkaaGreatDoor
open Go.RowKit

section
variable {H : Type} {enc : TypeId × Value → H} {w : World}
theorem bulk_part {d : DataW H} {l : List (DataW H)} (h : d ∈ l) : Rows.uptoBulk d ≤ Rows.uptoBulkAll l := by
  induction l with
  | nil => cases h
  | cons x r ih =>
    simp only [Rows.uptoBulkAll]
    rcases List.mem_cons.1 h with rfl | h
    · omega
    · have := ih h; omega
theorem bulk_one (d : DataW H) : 1 ≤ Rows.uptoBulk d := by
  cases d with
  | lit l => cases l <;> simp [Rows.uptoBulk]
  | _ => simp [Rows.uptoBulk]
theorem bulk_length (l : List (DataW H)) : l.length ≤ Rows.uptoBulkAll l := by
  induction l with
  | nil => simp [Rows.uptoBulkAll]
  | cons x r ih => have := bulk_one x; simp only [Rows.uptoBulkAll, List.length_cons]; omega
/-- The cells cs read as d. -/
def OpB (enc : TypeId × Value → H) (w : World) (t : TypeId) (cs : List Value) (d : DataW H) : Prop := ∃ fuel ps, DataW.trod enc Tryz.prog w 0 (fun _ => true) true fuel t cs = some (d, ps)
theorem OpB.fld {t : TypeId} {cs : List Value} {d : DataW H} {fs : Array Field} (h : OpB enc w t cs d) (ht : Tryz.prog.underlying t = some (.struct fs)) (i o n : Nat) (ty : TypeId) (hi : (fs[i]?).map (fun f => (f.type, f.offset)) = some (ty, o)) (hn : Tryz.prog.cellsOf ty = n) :
    ∃ di, OpB enc w ty ((cs.drop o).take n) di ∧ Rows.uptoBulk di + 1 ≤ Rows.uptoBulk d := by
  obtain ⟨fuel, ps, h1⟩ := h
  obtain ⟨xs, m, rfl, hx, hl, hxl, hf⟩ := DataW.trod_struct ht h1
  cases hfi : fs[i]? with
  | none => rw [hfi] at hi; cases hi
  | some f =>
    rw [hfi] at hi
    simp only [Option.map_some, Option.some.injEq, Prod.mk.injEq] at hi
    obtain ⟨rfl, rfl⟩ := hi
    have hil : i < xs.length := by rw [hxl]; exact (Array.getElem?_eq_some_iff.1 hfi).1
    refine ⟨xs[i].1, ⟨m, xs[i].2, ?_⟩, ?_⟩
    · rw [← hn]
      exact (hf i f hfi).trans (List.getElem?_eq_getElem hil)
    · injection hx with hx _
      rw [hx]
      simp only [Rows.uptoBulk]
      have := bulk_part (List.mem_map_of_mem (f := fun x => x.1) (List.getElem_mem hil))
      omega
theorem OpB.cells {t : TypeId} {cs : List Value} {d : DataW H} {fs : Array Field} (h : OpB enc w t cs d) (ht : Tryz.prog.underlying t = some (.struct fs)) : cs.length = Tryz.prog.cellsOf t := by
  obtain ⟨fuel, ps, h1⟩ := h
  obtain ⟨xs, m, rfl, hx, hl, hxl, hf⟩ := DataW.trod_struct ht h1
  exact hl
theorem all2_range {α β : Type} {F : α → β → Prop} {D : Nat → α} {f : Nat → β} : ∀ L : List Nat, (∀ i ∈ L, F (D i) (f i)) → All2 F (L.map D) (L.map f)
  | [], _ => trivial
  | i :: L, h => ⟨h i List.mem_cons_self, all2_range L (fun j hj => h j (List.mem_cons_of_mem _ hj))⟩
theorem OpB.slice {α : Type} [Inhabited α] {t e : TypeId} {size : Nat} {cs : List Value} {d : DataW H} (h : OpB enc w t cs d) (ht : Tryz.prog.underlying t = some (.slice e)) (hc : Tryz.prog.cellsOf e = size) (hsz : 0 < size)
    (R : List Value → α → Prop) (F : DataW H → α → Prop) (hx : ∀ cs d', Rows.uptoBulk d' + 1 ≤ Rows.uptoBulk d → OpB enc w e cs d' → cs.length = size → ∃ x, R cs x ∧ F d' x) :
    ∃ (v : Value) (l : List α) (Ds : List (DataW H)), cs = [v] ∧ ElemsOf w none_ size R v l ∧ All2 F Ds l ∧ Rows.uptoBulkAll Ds + 1 ≤ Rows.uptoBulk d := by
  obtain ⟨fuel, ps, h1⟩ := h
  rcases Go.Deep.open_slice ht h1 with ⟨rfl, -⟩ | ⟨a, len, cap, m, n, D, Pl, rfl, -, hl, hm, hmm, hxe, hel⟩
  · exact ⟨_, [], [], rfl, ⟨none, 0, 0, rfl, Nat.le_refl _, Nat.zero_le _, rfl, fun h => absurd h (by omega)⟩, trivial, by simp only [Rows.uptoBulkAll]; exact bulk_one d⟩
  · simp only [if_true] at hmm
    subst hmm
    simp only [Prod.mk.injEq] at hxe
    obtain ⟨rfl, -⟩ := hxe
    have hb : Rows.uptoBulkAll ((List.range len).map D) + 1 ≤ Rows.uptoBulk (.slice ((List.range len).map D) ((List.range (m - len)).map fun j => D (len + j))) := by
      simp only [Rows.uptoBulk]
      omega
    have key : ∀ i, i < len → ∃ (x : α), ∃ cs', w.cells? 0 (a.add (i * size)) size = some cs' ∧ R cs' x ∧ F (D i) x := fun i hi => by
      obtain ⟨cs', g1, g2⟩ := hel i (by omega)
      rw [hc] at g1
      have hbi := bulk_part (List.mem_map_of_mem (f := D) (List.mem_range.2 hi))
      obtain ⟨x, r, f⟩ := hx cs' (D i) (by omega) ⟨n, _, g2⟩ (World.cells?_some g1).2.1
      exact ⟨x, cs', g1, r, f⟩
    obtain ⟨f, hf⟩ := Go.Deep.choose_lt key
    refine ⟨_, (List.range len).map f, (List.range len).map D, rfl, ⟨some a, len, _, rfl, hl, hm, by simp, fun hn => ?_⟩, all2_range _ (fun i hi => ?_), hb⟩
    · obtain ⟨b, o, sp⟩ := a
      obtain ⟨cs0, g1, -, -⟩ := hf 0 hn
      have hsp : sp = none := by
        obtain ⟨-, g2, g3⟩ := World.cells?_some g1
        have g4 := g3 0 hsz
        rw [List.getElem?_eq_getElem (by omega)] at g4
        simpa [Addr.add] using World.cell?_spot g4
      subst hsp
      refine ⟨b, o, rfl, fun e => e, fun i hi => ?_⟩
      have hi' : i < len := by simpa using hi
      obtain ⟨cs', g1, r, -⟩ := hf i hi'
      obtain ⟨-, g2, g3⟩ := World.cells?_some g1
      refine ⟨cs', g2, fun j u hj => ?_, by simpa using r⟩
      have hjl : j < size := by rw [← g2]; exact (List.getElem?_eq_some_iff.1 hj).1
      have g4 := g3 j hjl
      rw [hj, Go.WideShapes.add_plain, Go.WideShapes.add_plain] at g4
      exact g4
    · obtain ⟨-, -, -, hF⟩ := hf i (List.mem_range.1 hi)
      exact hF
theorem OpB.int {t : TypeId} {k : IntKind} {cs : List Value} {d : DataW H} (h : OpB enc w t cs d) (ht : Tryz.prog.underlying t = some (.int k)) : ∃ n, cs = [.int k n] := by
  obtain ⟨fuel, ps, h1⟩ := h
  obtain ⟨n, e, -, hw⟩ := DataW.trod_int ht h1
  exact ⟨n, e⟩
theorem OpB.bool {t : TypeId} {cs : List Value} {d : DataW H} (h : OpB enc w t cs d) (ht : Tryz.prog.underlying t = some .bool) : ∃ b, cs = [.bool b] := by
  obtain ⟨fuel, ps, h1⟩ := h
  obtain ⟨n, e, -⟩ := DataW.trod_bool ht h1
  exact ⟨n, e⟩
theorem OpB.string {t : TypeId} {cs : List Value} {d : DataW H} (h : OpB enc w t cs d) (ht : Tryz.prog.underlying t = some .string) : ∃ s, cs = [.string s] ∧ Szd s := by
  obtain ⟨fuel, ps, h1⟩ := h
  obtain ⟨n, e, -, hs⟩ := DataW.trod_string ht h1
  exact ⟨n, e, hs⟩
theorem cell_at {l : List Value} {o : Nat} {v : Value} (h : (l.drop o).take 1 = [v]) : l[o]? = some v := by
  have e := congrArg (fun x => x[0]?) h
  simpa [List.getElem?_take, List.getElem?_drop] using e
instance : Inhabited Ex := ⟨.mk 0 ⟨#[]⟩ 0 0 0 0 ⟨#[]⟩ []⟩
instance : Inhabited Pt := ⟨⟨false, 0, 0, ⟨#[]⟩, 0⟩⟩
/-- What is stated of an expression: few names, each short. -/
def BkX (d : DataW H) (x : Ex) : Prop := (exMedia x).length ≤ Rows.uptoBulk d ∧ ∀ m ∈ exMedia x, m.size ≤ maxLen
theorem bkxs : ∀ {Ds : List (DataW H)} {l : List Ex}, All2 BkX Ds l → (exsMedia l).length ≤ Rows.uptoBulkAll Ds ∧ ∀ m ∈ exsMedia l, m.size ≤ maxLen
  | [], [], _ => ⟨by simp [exsMedia], fun m hm => by simp [exsMedia] at hm⟩
  | [], _ :: _, h => h.elim
  | _ :: _, [], h => h.elim
  | d :: Ds, x :: l, h => by
    have h1 := h.1
    have h2 := bkxs h.2
    refine ⟨?_, fun m hm => ?_⟩
    · rw [exsMedia, List.length_append]
      simp only [Rows.uptoBulkAll]
      have := h1.1
      have := h2.1
      omega
    · rw [exsMedia, List.mem_append] at hm
      rcases hm with hm | hm
      · exact h1.2 m hm
      · exact h2.2 m hm
theorem OpB.expr : ∀ (n : Nat) (cs : List Value) (d : DataW H), Rows.uptoBulk d ≤ n → OpB enc w 89 cs d → cs.length = 8 → ∃ x, ExAt n w none_ cs x ∧ BkX d x
  | 0, _, d, hn, _, _ => by have := bulk_one d; omega
  | n + 1, cs, d, hn, h, hl => by
    obtain ⟨d0, f0, -⟩ := h.fld Tryz.underlying89 0 0 1 3 rfl (by kernel_rfl)
    obtain ⟨d1, f1, -⟩ := h.fld Tryz.underlying89 1 1 1 9 rfl (by kernel_rfl)
    obtain ⟨d2, f2, -⟩ := h.fld Tryz.underlying89 2 2 1 2 rfl (by kernel_rfl)
    obtain ⟨d3, f3, -⟩ := h.fld Tryz.underlying89 3 3 1 2 rfl (by kernel_rfl)
    obtain ⟨d4, f4, -⟩ := h.fld Tryz.underlying89 4 4 1 2 rfl (by kernel_rfl)
    obtain ⟨d5, f5, -⟩ := h.fld Tryz.underlying89 5 5 1 3 rfl (by kernel_rfl)
    obtain ⟨d6, f6, -⟩ := h.fld Tryz.underlying89 6 6 1 9 rfl (by kernel_rfl)
    obtain ⟨d7, f7, b7⟩ := h.fld Tryz.underlying89 7 7 1 25 rfl (by kernel_rfl)
    obtain ⟨op, e0⟩ := f0.int Tryz.underlying3
    obtain ⟨md, e1, s1⟩ := f1.string Tryz.underlying9
    obtain ⟨fr, e2⟩ := f2.int Tryz.underlying2
    obtain ⟨nu, e3⟩ := f3.int Tryz.underlying2
    obtain ⟨de, e4⟩ := f4.int Tryz.underlying2
    obtain ⟨pr, e5⟩ := f5.int Tryz.underlying3
    obtain ⟨tx, e6, s6⟩ := f6.string Tryz.underlying9
    obtain ⟨v, xs, Ds, e7, x1, x2, x3⟩ := f7.slice (size := 8) Tryz.underlying25 (by kernel_rfl) (by decide) (ExAt n w none_) BkX (fun cs d' hb hd hl => OpB.expr n cs d' (by omega) hd hl)
    have g0 := cell_at e0
    have g1 := cell_at e1
    have g2 := cell_at e2
    have g3 := cell_at e3
    have g4 := cell_at e4
    have g5 := cell_at e5
    have g6 := cell_at e6
    have g7 := cell_at e7
    have e : cs = [.int .i64 op, .string md, .int .i64 fr, .int .i64 nu, .int .i64 de, .int .i64 pr, .string tx, v] := by
      apply List.ext_getElem?
      intro j
      rcases (show j = 0 ∨ j = 1 ∨ j = 2 ∨ j = 3 ∨ j = 4 ∨ j = 5 ∨ j = 6 ∨ j = 7 ∨ 8 ≤ j by omega) with rfl | rfl | rfl | rfl | rfl | rfl | rfl | rfl | hj
      · exact g0
      · exact g1
      · exact g2
      · exact g3
      · exact g4
      · exact g5
      · exact g6
      · exact g7
      · rw [List.getElem?_eq_none (by omega), List.getElem?_eq_none (by simpa using hj)]
    obtain ⟨y1, y2⟩ := bkxs x2
    refine ⟨.mk op md fr nu de pr tx xs, ⟨v, e, s1, s6, x1⟩, ?_, fun m hm => ?_⟩
    · rw [exMedia, List.length_append]
      have : (if op = 1 then [md] else []).length ≤ 1 := by split <;> simp
      omega
    · rw [exMedia, List.mem_append] at hm
      rcases hm with hm | hm
      · split at hm
        · rw [List.mem_singleton] at hm
          rw [hm]
          exact s1
        · cases hm
      · exact y2 m hm
theorem OpB.exprs {cs : List Value} {d : DataW H} (h : OpB enc w 25 cs d) (hb : Rows.uptoBulk d ≤ 1048576) : ∃ v l, cs = [v] ∧ ElemsOf w none_ 8 (ExAt 1048576 w none_) v l ∧ FewN l := by
  obtain ⟨v, xs, Ds, e, x1, x2, x3⟩ := h.slice (size := 8) Tryz.underlying25 (by kernel_rfl) (by decide) (ExAt 1048576 w none_) BkX (fun cs d' hb hd hl => OpB.expr 1048576 cs d' (by omega) hd hl)
  obtain ⟨y1, y2⟩ := bkxs x2
  exact ⟨v, xs, e, x1, by omega, y2⟩
theorem OpB.part {cs : List Value} {d : DataW H} (h : OpB enc w 33 cs d) (hl : cs.length = 5) : ∃ x, PtOf cs x := by
  obtain ⟨d0, f0, -⟩ := h.fld Tryz.underlying33 0 0 1 4 rfl (by kernel_rfl)
  obtain ⟨d1, f1, -⟩ := h.fld Tryz.underlying33 1 1 1 2 rfl (by kernel_rfl)
  obtain ⟨d2, f2, -⟩ := h.fld Tryz.underlying33 2 2 1 2 rfl (by kernel_rfl)
  obtain ⟨d3, f3, -⟩ := h.fld Tryz.underlying33 3 3 1 9 rfl (by kernel_rfl)
  obtain ⟨d4, f4, -⟩ := h.fld Tryz.underlying33 4 4 1 2 rfl (by kernel_rfl)
  obtain ⟨cp, e0⟩ := f0.bool Tryz.underlying4
  obtain ⟨fm, e1⟩ := f1.int Tryz.underlying2
  obtain ⟨ln, e2⟩ := f2.int Tryz.underlying2
  obtain ⟨md, e3, -⟩ := f3.string Tryz.underlying9
  obtain ⟨fr, e4⟩ := f4.int Tryz.underlying2
  have g0 := cell_at e0
  have g1 := cell_at e1
  have g2 := cell_at e2
  have g3 := cell_at e3
  have g4 := cell_at e4
  refine ⟨⟨cp, fm, ln, md, fr⟩, ?_⟩
  unfold PtOf
  apply List.ext_getElem?
  intro j
  rcases (show j = 0 ∨ j = 1 ∨ j = 2 ∨ j = 3 ∨ j = 4 ∨ 5 ≤ j by omega) with rfl | rfl | rfl | rfl | rfl | hj
  · exact g0
  · exact g1
  · exact g2
  · exact g3
  · exact g4
  · rw [List.getElem?_eq_none (by omega), List.getElem?_eq_none (by simpa using hj)]
theorem all2_length {α β : Type} {F : α → β → Prop} {xs : List α} {ys : List β} (h : All2 F xs ys) : xs.length = ys.length := h.get.1
theorem OpB.plan {cs : Array Value} {d : DataW H} (h : OpB enc w 24 cs.toList d) (hb : Rows.uptoBulk d ≤ 1048576) : ∃ v l, cs = #[v] ∧ PartsOf w none_ v l ∧ l.length ≤ 1048576 := by
  have hl : cs.toList.length = 1 := (h.cells Tryz.underlying24).trans (by kernel_rfl)
  obtain ⟨d0, f0, b0⟩ := h.fld Tryz.underlying24 0 0 1 22 rfl (by kernel_rfl)
  obtain ⟨v, xs, Ds, e, x1, x2, x3⟩ := f0.slice (size := 5) Tryz.underlying22 (by kernel_rfl) (by decide) PtOf (fun _ _ => True) (fun cs d' hb hd hl => (hd.part hl).imp fun _ h => ⟨h, trivial⟩)
  have g0 := cell_at e
  refine ⟨v, xs, ?_, x1, ?_⟩
  · apply Array.toList_inj.1
    apply List.ext_getElem?
    intro j
    rcases (show j = 0 ∨ 1 ≤ j by omega) with rfl | hj
    · exact g0
    · rw [List.getElem?_eq_none (by omega), List.getElem?_eq_none (by simpa using hj)]
  · have := bulk_length Ds
    have := all2_length x2
    omega
end
end Go.Proofs.YtnefbeplgfdkkaaGreatDoor
/-
  PROVED: FarmJobsUptoCardSaid: for every input of bulk at most 1048576 FarmJobs returns true and leaves its arguments as they were. Conditions: those of the card (the three tables of math/bits and strconv are laid as the program's text lays them).
-/
namespace Go.Proofs.YtnefbeplgfdkkaaGreatDoor
open Go.ChangeShapes Go.WideShapes Go.ChangeAt Go.RowKit Go.Joins Go.Deep

theorem tab_of {W : World} (hL : laidMetH Tryz.prog Rows.farmJobsUptoRow.laid W) : Tab W := by
  obtain ⟨ps, ⟨g1, t1, c1, f1, p1, q1, -, -, -, -, ⟨g2, t2, c2, f2, p2, q2, -, -, -, -, h3, e2⟩, e1⟩, hn, hall⟩ := (id hL : laidMet Tryz.prog Rows.farmJobsUptoRow.laid W)
  subst e2 e1
  refine Lib.tabIs_of_head (rest := []) (P := Tryz.prog) (W := W) (name := "internal/strconv.uint64pow10") (k := .u64) (zs := Lib.pow10Tab) (g := 0) (t := 179) (e := 102) (n := 20) (by kernel_rfl) (by kernel_rfl) Tryz.underlying179 Tryz.underlying102 (by kernel_rfl) (by kernel_rfl) ⟨q2, h3, ?_, fun b off hp => hall b off ?_⟩
  · exact (List.nodup_append.1 (List.nodup_append.1 hn).2.1).2.1
  · exact List.mem_append.2 (.inr (List.mem_append.2 (.inr hp)))
theorem jobs_reads (os : Os) {H : Type} (enc : TypeId × Value → H) : ∃ places, DataW.whole enc Tryz.prog ((World.doorLaid Tryz.prog 4000 os).forCall (fun _ _ => 0) ⟨#[], #[.agg #[.slice none 0 0], .slice none 0 0, .slice none 0 0, .int .i64 0], []⟩).memory Tryz.f3.params.toList Rows.farmJobsSpec.vars false #[Value.agg #[.slice none 0 0], .slice none 0 0, .slice none 0 0, .int .i64 0].toList 8 = some ([.agg [.nil], .nil, .nil, .lit (.int .i64 0)], [], places) :=
  ⟨[], by kernel_rfl⟩
set_option maxRecDepth 100000 in
theorem farmJobs_lifted (os : Os) (started : os.Started) (H : Type) (enc : TypeId × Value → H) (F : Stop.Interp) :
    ReturnsInHanded {} Tryz.checked os 3 .any ((Rows.OpenSpec.upto Rows.farmJobsSpec).preRow enc Tryz.prog Tryz.f3 Rows.farmJobsUptoRow.domain false Rows.farmJobsUptoRow.laid) (((Rows.OpenSpec.upto Rows.farmJobsSpec).at F).post enc Tryz.prog Tryz.f3 false true false false) := by
  obtain ⟨places, hx⟩ := jobs_reads os enc
  refine returnsInHanded_of_row (C := Tryz.checked) (s := Rows.OpenSpec.upto Rows.farmJobsSpec) Tryz.own started (by kernel_rfl) Tryz.func3
    ⟨World.doorLaid Tryz.prog 4000 os, fun _ _ => 0, ⟨#[], #[.agg #[.slice none 0 0], .slice none 0 0, .slice none 0 0, .int .i64 0], []⟩, rfl, World.shaped_of_RefB (by kernel_rfl) (by kernel_rfl), rfl, (Input.okWide_of_okWideB (by kernel_rfl)).2,
      OpenSpec.preRow_of_cond 8 hx (by kernel_rfl) (fun k hk => by cases hk; kernel_rfl) (by kernel_rfl) (door_met os _), by
        simp only [Assume.holds]
        exact ⟨by simp, by simp, fun h => (by cases h), by simp, by simp⟩⟩ ?_
  intro W base args ds gs before hval0 hW _ hcond _ hL _ _
  have hval : ∀ (j : Nat) t v, Tryz.f3.params[j]? = some t → args[j]? = some v → Value.okWide Tryz.prog W .any base t v := hval0
  have hW' := hW
  obtain ⟨p, q, hA0, hV, rfl, hfz, hnd⟩ := hW
  have hA : DataW.TrodAll enc Tryz.prog W 0 (fun _ => true) true Tryz.f3.params.toList args.toList ds p := hA0
  rw [Tryz.params3] at hA hval
  obtain ⟨v1, vs1, d1, ds1, p1, q1, hargs1, rfl, rfl, h1, r1⟩ := trodAll_cons hA
  obtain ⟨v2, vs2, d2, ds2, p2, q2, hargs2, rfl, rfl, h2, r2⟩ := trodAll_cons r1
  obtain ⟨v3, vs3, d3, ds3, p3, q3, hargs3, rfl, rfl, h3, r3⟩ := trodAll_cons r2
  obtain ⟨v4, vs4, d4, ds4, p4, q4, hargs4, rfl, rfl, h4, r4⟩ := trodAll_cons r3
  obtain ⟨hargs5, rfl, rfl⟩ := trodAll_nil r4
  obtain rfl : args = #[v1, v2, v3, v4] := by
    apply Array.toList_inj.1
    rw [hargs1, hargs2, hargs3, hargs4, hargs5]
  obtain ⟨rfl, rfl⟩ := trodVars_none hV
  have hb : Rows.uptoBulkAll ([d1, d2, d3, d4] ++ []) ≤ 1048576 := of_decide_eq_true (hcond _ rfl)
  simp only [List.cons_append, List.nil_append, Rows.uptoBulkAll] at hb
  obtain ⟨A, n, c, zs, rfl, hr, hz⟩ := tape_of h3 (okWide_slice Tryz.underlying26 (hval 2 26 v3 rfl rfl))
  obtain ⟨cs, rfl, -⟩ := okWide_struct Tryz.underlying24 (hval 0 24 v1 rfl rfl)
  obtain ⟨E, ne, ce, rfl⟩ := okWide_slice Tryz.underlying25 (hval 1 25 v2 rfl rfl)
  obtain ⟨num, rfl, rfl, rfl, hw4⟩ := open_int Tryz.underlying2 (hval 3 2 v4 rfl rfl) h4
  obtain ⟨hn1, hn2⟩ := bounds_i64 hw4
  obtain ⟨f1, e1⟩ := id h1
  obtain ⟨f2, e2⟩ := id h2
  obtain ⟨vp, ps, rfl, hp, hpl⟩ := OpB.plan (enc := enc) (w := W) (cs := cs) (d := d1) ⟨f1, p1, e1⟩ (by omega)
  obtain ⟨ve, es, eE, he, hf⟩ := OpB.exprs (enc := enc) (w := W) (cs := [.slice E ne ce]) (d := d2) ⟨f2, p2, e2⟩ (by omega)
  simp only [List.cons.injEq, and_true] at eE
  subst eE
  refine (jobsl_any 1048576 ps es vp (.slice E ne ce) A n c zs num W hp hpl he hf hr hz hn1 hn2 (tab_of hL)).mono fun e W' ⟨he, hk⟩ => ?_
  subst he
  have hb := hk.below
  have hlt : ∀ x ∈ p1 ++ (p2 ++ (p3 ++ ([] ++ []))), x.block < W.heap.size := fun x hx => hW'.lt x (by simpa using hx)
  refine ⟨_, rfl, post_of_keep (s := Rows.farmJobsSpec) (pv := []) hW' (fun _ _ _ => trodAll_mk1 (shut_bool Tryz.underlying4 true)) (fun sp hsp => ?_) (fun _ _ => rfl) rfl hb (ok_one (by kernel_rfl) rfl (okWide_bool_mk Tryz.underlying4 true))⟩
  refine trodAll_cons_mk ?_ (trodAll_cons_mk ?_ (trodAll_cons_mk ?_ (trodAll_cons_mk (shut_int Tryz.underlying2 hw4) trodAll_mk0)))
  · exact WideElems.Trod_stays Tryz.laidOut (by kernel_rfl) (of_decide_eq_true (by kernel_rfl)) h1 (fun x hx => hb.same (hlt x (by simp [hx]))) (fun x hx => hsp x (by simp [hx]))
  · exact WideElems.Trod_stays Tryz.laidOut (by kernel_rfl) (of_decide_eq_true (by kernel_rfl)) h2 (fun x hx => hb.same (hlt x (by simp [hx]))) (fun x hx => hsp x (by simp [hx]))
  · exact WideElems.Trod_stays Tryz.laidOut (by kernel_rfl) (of_decide_eq_true (by kernel_rfl)) h3 (fun x hx => hb.same (hlt x (by simp [hx]))) (fun x hx => hsp x (by simp [hx]))

theorem farmJobs_upto : Rows.FarmJobsUptoSaid :=
  OpenClaim.holds_of_cond 3 Tryz.f3 rfl rfl rfl rfl rfl rfl rfl ⟨rfl, rfl, rfl, rfl, rfl⟩ rfl rfl rfl rfl rfl (by kernel_rfl) Tryz.func3 (by kernel_rfl)
    (of_decide_eq_true (by kernel_rfl)) (by unfold Func.isWrapper; first | (rw [if_pos (by decide +kernel)]; kernel_rfl) | (rw [if_neg (by decide +kernel)]; exact ⟨rfl, rfl⟩))
    (fun os started H enc _ F => by rw [OpenClaim.pre_eq_preRow]; exact farmJobs_lifted os started H enc F)
theorem farmJobs_holds : Rows.FarmJobsUptoCardSaid :=
  Claim7.holds_tied_plain_at .later [] [.data, .data, .data] true (true, "02381d6e26034f4bfeba242635871046e4c6e8e1505fadca35b87f21861049d9") false
    farmJobs_upto (fun _ h => by cases h) (by kernel_rfl) (fun _ h => by cases h) farmJobsUpto_row_tie rfl ⟨rfl, rfl⟩ (by kernel_rfl) rfl
    (fun f fn hf hfn => by
      obtain rfl : f = 3 := Option.some.inj ((show Tryz.prog.funcNamed Rows.farmJobsUptoRow.func = some 3 by kernel_rfl).symm.trans hf) |>.symm
      obtain rfl : fn = Tryz.f3 := (Option.some.inj (Tryz.func3.symm.trans hfn)).symm
      exact ⟨by kernel_rfl, fun j t ht => by
        rw [Tryz.params3] at ht
        have hm : t ∈ [24, 25, 26, 2] := by simpa using Array.mem_of_getElem? ht
        have hall : ([24, 25, 26, 2].all fun u => !Tryz.prog.wantsStandIn u) = true := by kernel_rfl
        exact (show Tryz.prog.wantsStandIn t = false by simpa using List.all_eq_true.1 hall t hm)⟩)
    (by kernel_rfl)
end Go.Proofs.YtnefbeplgfdkkaaGreatDoor
