/-
  Composite literals whose parts cover them whole; loads and literals of great structs within a region that draws its order.
-/
import Derived.Test.YtnpkhbcbbbpjhaaFits
import Derived.Great.BuildSlice
namespace Go.Proofs.Ytnpkhbcbbbpjhaa
open Go.RowKit

theorem laid_append : ∀ (a b : List Value) (o : Nat) (cs : Array Value), laid cs o (a ++ b) = laid (laid cs o a) (o + a.length) b
  | [], b, o, cs => rfl
  | x :: a, b, o, cs => by
    rw [List.cons_append, laid, laid, laid_append a b (o + 1), List.length_cons]
    congr 1
    omega
theorem foldl_laid : ∀ (l : List Value) (s o : Nat) (cs : Array Value), (l.zipIdx s).foldl (fun cs (x : Value × Nat) => cs.setIfInBounds (o + x.2) x.1) cs = laid cs (o + s) l
  | [], _, _, _ => rfl
  | x :: l, s, o, cs => by
    rw [List.zipIdx_cons, List.foldl_cons, foldl_laid l (s + 1) o, laid]
    rfl
/-- The parts lie one behind the other. -/
def Contig (place : Nat → Option (Nat × Nat)) : Nat → List (Nat × Value) → Prop
  | _, [] => True
  | off, (i, v) :: r => place i = some (off, v.cells.size) ∧ Contig place (off + v.cells.size) r
/-- All of their cells. -/
def allCells (parts : List (Nat × Value)) : List Value := parts.flatMap fun p => p.2.cells.toList
theorem fill_contig {place : Nat → Option (Nat × Nat)} : ∀ (parts : List (Nat × Value)) (off : Nat) (cells : Array Value), Contig place off parts → off + (allCells parts).length ≤ cells.size → Instr.fill place cells parts = some (laid cells off (allCells parts))
  | [], off, cells, _, _ => rfl
  | (i, v) :: r, off, cells, ⟨h1, h2⟩, hs => by
    have e : allCells ((i, v) :: r) = v.cells.toList ++ allCells r := by simp [allCells]
    rw [e, List.length_append, Array.length_toList] at hs
    have ih := fill_contig r (off + v.cells.size) (laid cells off v.cells.toList) h2 (by rw [laid_size]; omega)
    rw [Instr.fill, h1]
    simp only [ne_eq, not_true_eq_false, decide_false, Bool.false_or]
    rw [if_neg (by simp; omega)]
    have hf : (v.cells.zipIdx.foldl (fun cs (x : Value × Nat) => cs.setIfInBounds (off + x.2) x.1) cells) = laid cells off v.cells.toList := by
      rw [← Array.foldl_toList, Array.toList_zipIdx]
      exact foldl_laid v.cells.toList 0 off cells
    rw [e, laid_append, Array.length_toList]
    exact (congrArg (fun cs => Instr.fill place cs r) hf).trans ih
theorem fill_whole {place : Nat → Option (Nat × Nat)} (parts : List (Nat × Value)) (cells : Array Value) (h : Contig place 0 parts) (hs : (allCells parts).length = cells.size) : Instr.fill place cells parts = some (allCells parts).toArray := by
  rw [fill_contig parts 0 cells h (by omega), laid_whole _ _ hs]

section
variable {P : Program}
theorem built_struct {t : TypeId} {fields : Array Field} {it : TypeInfo} {z : Value} {places : List (Nat × Nat)} (hi : P.info? t = some it) (hu : P.underlying t = some (.struct fields)) (hz : it.zero = some z) (hp : fields.toList.mapM (fun f => (P.info? f.type).map fun i => (f.offset, i.size)) = some places)
    (parts : List (Nat × Value)) (h : Contig (places.toArray[·]?) 0 parts) (hs : (allCells parts).length = z.cells.size) : P.built t parts = some (allCells parts).toArray := by
  unfold Program.built
  simp only [hi, hu, hz, hp]
  exact fill_whole parts z.cells h hs
theorem built_array {t e : TypeId} {n : Nat} {it ie : TypeInfo} {z : Value} (hi : P.info? t = some it) (hu : P.underlying t = some (.array n e)) (hz : it.zero = some z) (he : P.info? e = some ie)
    (parts : List (Nat × Value)) (h : Contig (fun i => some (i * ie.size, ie.size)) 0 parts) (hs : (allCells parts).length = z.cells.size) : P.built t parts = some (allCells parts).toArray := by
  unfold Program.built
  simp only [hi, hu, hz, he]
  exact fill_whole parts z.cells h hs
theorem run_buildSlice_whole (w : World) (t e : TypeId) (len : Nat) (parts : Array (Nat × Value)) {ie : TypeInfo} {z : Value} (hu : P.underlying t = some (.slice e)) (hie : P.info? e = some ie) (hz : ie.zero = some z) (hsmall : ¬ len * ie.size > 2 ^ 24) (hpos : ¬ len * ie.size = 0)
    (h : Contig (fun i => some (i * ie.size, ie.size)) 0 parts.toList) (hs : (allCells parts.toList).length = len * ie.size) :
    (Instr.buildSlice t len parts).run P w = .ok (.slice (some ⟨w.heap.size, 0, none⟩) len len) (w.alloc (.cells (allCells parts.toList).toArray e)) :=
  run_buildSlice w t e len parts _ ie z hu hie hz hsmall hpos (fill_whole _ _ h (by simpa using hs))
end

section
variable {P : Program} {ops : Array Oper} {c : Calm} {L : Array Bool → Act → Prop} {o : Oper} {rest : List (Nat × Oper)} {k : Nat} {a : Act} {listed : Array Bool}
/-- An operation of a region whose value is known in every world of the region. -/
theorem Calm.walk_is (v : Value) (ne : Nonempty c.Sub) (he : c.eff.contains k = false) (hp : plainOp o.op = true) (hw : Region.wanted o (yielded ops a.tmps) = true) (hv : ∀ x : c.Sub, (execOp a.eval o).run P (c.at_ x) = .ok (.value v) (c.at_ x))
    (h : c.walkP P ops L rest (listed.setIfInBounds k true) (a.put o.dst v)) : c.walkP P ops L ((k, o) :: rest) listed a :=
  Calm.walk_quiet ne he hp hw fun K hK => ⟨v, fun w ⟨x, hx⟩ => by
    subst hx
    unfold Oper.quietAt
    rw [hv x]
    exact ⟨rfl, rfl⟩, hK _ h⟩
theorem Calm.walk_load (ty : TypeId) (x : Operand) (ho : o.op = .load ty x) (ne : Nonempty c.Sub) (he : c.eff.contains k = false) (hw : Region.wanted o (yielded ops a.tmps) = true) (b off : Nat) (hx : a.eval x = .pointer (some ⟨b, off, none⟩)) (cs : Array Value) (d : TypeDesc)
    (hc : ∀ x : c.Sub, (c.at_ x).rangeAt b off cs.toList) (hu : P.underlying ty = some d) (hd : d.isRow = true) (hi : (P.info? ty).map (·.size) = some cs.size)
    (h : c.walkP P ops L rest (listed.setIfInBounds k true) (a.put o.dst (.agg cs))) : c.walkP P ops L ((k, o) :: rest) listed a :=
  Calm.walk_is (.agg cs) ne he (by rw [ho]; rfl) hw (fun y => by
    unfold execOp
    simp only [ho, hx, Sem.run_bind, run_loadAt_mid (P := P) (c.at_ y) b off ty cs.toList d (hc y) hu hd (by simpa using hi), Result.andThen_ok, Sem.run_pure]) h
theorem Calm.walk_build (t : TypeId) (parts : Array (Nat × Operand)) (ho : o.op = .build t parts) (ne : Nonempty c.Sub) (he : c.eff.contains k = false) (hw : Region.wanted o (yielded ops a.tmps) = true) (cs : Array Value) (hb : P.built t (parts.toList.map fun p => (p.1, a.eval p.2)) = some cs)
    (h : c.walkP P ops L rest (listed.setIfInBounds k true) (a.put o.dst (.agg cs))) : c.walkP P ops L ((k, o) :: rest) listed a :=
  Calm.walk_is (.agg cs) ne he (by rw [ho]; rfl) hw (fun y => by
    rw [← Array.toList_map] at hb
    unfold execOp
    simp only [ho, Sem.run_bind, run_build (c.at_ y) t _ cs hb, Result.andThen_ok, Sem.run_pure]) h
end

/-! The literals of the law. -/
theorem ix_info : (Try.prog.info? 45).map (·.size) = some 137 := by kernel_rfl
theorem ix2_info : (Try.prog.info? 52).map (·.size) = some 274 := by kernel_rfl
theorem built_ix (x : Ix) (ok : x.s.Ok) : Try.prog.built 45 [(0, .string x.name), (1, .agg x.s.cells), (2, .slice x.A x.n x.c)] = some x.cells := by
  have hs := x.s.cells_size ok
  obtain ⟨it, hit, hz⟩ : ∃ it, Try.prog.info? 45 = some it ∧ it.zero = some (it.zero.getD .nilIface) := ⟨_, rfl, rfl⟩
  have hzs : (it.zero.getD .nilIface).cells.size = 137 := by
    have : (Try.prog.info? 45).map (fun i => (i.zero.getD .nilIface).cells.size) = some 137 := by kernel_rfl
    rw [hit] at this
    simpa using this
  have hc : (Value.agg x.s.cells).cells = x.s.cells := rfl
  refine (built_struct (places := [(0, 1), (1, 135), (136, 1)]) hit Try.underlying45 hz (by kernel_rfl) [(0, .string x.name), (1, .agg x.s.cells), (2, .slice x.A x.n x.c)] ?_ ?_).trans ?_
  · simp only [Contig, hc, hs]
    exact ⟨rfl, rfl, rfl, trivial⟩
  · rw [hzs]
    simp [allCells, Value.cells, hs]
  · simp [allCells, Value.cells, Ix.cells]
theorem built_two (x y : Ix) (okx : x.s.Ok) (oky : y.s.Ok) : Try.prog.built 52 [(0, .agg x.cells), (1, .agg y.cells)] = some (x.cells ++ y.cells) := by
  have hx := x.size okx
  have hy := y.size oky
  obtain ⟨it, hit, hz⟩ : ∃ it, Try.prog.info? 52 = some it ∧ it.zero = some (it.zero.getD .nilIface) := ⟨_, rfl, rfl⟩
  obtain ⟨ie, hie⟩ : ∃ ie, Try.prog.info? 45 = some ie := ⟨_, rfl⟩
  have hes : ie.size = 137 := by have := ix_info; rw [hie] at this; simpa using this
  have hzs : (it.zero.getD .nilIface).cells.size = 274 := by
    have : (Try.prog.info? 52).map (fun i => (i.zero.getD .nilIface).cells.size) = some 274 := by kernel_rfl
    rw [hit] at this
    simpa using this
  have cx : (Value.agg x.cells).cells = x.cells := rfl
  have cy : (Value.agg y.cells).cells = y.cells := rfl
  refine (built_array hit Try.underlying52 hz hie [(0, .agg x.cells), (1, .agg y.cells)] ?_ ?_).trans ?_
  · simp only [Contig, cx, cy, hx, hy, hes]
    exact ⟨trivial, trivial, trivial⟩
  · rw [hzs]
    simp [allCells, Value.cells, hx, hy]
  · congr 1
    apply Array.toList_inj.1
    simp [allCells, Value.cells]
end Go.Proofs.Ytnpkhbcbbbpjhaa
