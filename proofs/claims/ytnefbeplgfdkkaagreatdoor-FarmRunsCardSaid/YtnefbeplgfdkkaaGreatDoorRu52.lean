/-
  PROVED: FarmRunsCardSaid: for every input FarmRuns returns true and leaves its arguments as they were. Conditions: those of the card (the three tables of math/bits and strconv are laid as the program's text lays them).
-/
import Derived.Test.YtnefbeplgfdkkaaGreatDoorRu50
import Derived.MapViews
import Derived.DeepKeys2
import Derived.Deep.Slices
import Derived.ChangeArms
import Derived.Test.YtnefbeplgfdkkaaGreatDoorCards
import Derived.Test.YtnefbeplgfdkkaaGreatDoorRu25
import Derived.Test.YtnefbeplgfdkkaaGreatDoorRu51
/-
  What came in, opened: slices and structs of any depth; items, states, events.
-/
namespace Go.Proofs.YtnefbeplgfdkkaaGreatDoor
open Go.RowKit

section
variable {H : Type} {enc : TypeId × Value → H} {w : World}
/-- The cells cs read as d, and nothing in d is greater than any machine. -/
def Opn (enc : TypeId × Value → H) (w : World) (t : TypeId) (cs : List Value) (d : DataW H) : Prop :=
  (∃ fuel ps, DataW.trod enc Tryz.prog w 0 (fun _ => true) true fuel t cs = some (d, ps)) ∧ ∀ x ∈ d.weights Tryz.prog t, x ≤ reachBytes
theorem weightsEach_mem {P : Program} : ∀ (ts : List TypeId) (ds : List (DataW H)) (i : Nat) (t : TypeId) (d : DataW H), ts[i]? = some t → ds[i]? = some d → ∀ x ∈ d.weights P t, x ∈ DataW.weightsEach P ts ds
  | [], _, _, _, _, h, _ => by simp at h
  | _ :: _, [], _, _, _, _, h => by simp at h
  | t' :: ts, d' :: ds, 0, t, d, h1, h2 => fun x hx => by
    simp only [List.getElem?_cons_zero, Option.some.injEq] at h1 h2
    subst h1 h2
    unfold DataW.weightsEach
    exact List.mem_append.2 (.inl hx)
  | t' :: ts, d' :: ds, i + 1, t, d, h1, h2 => fun x hx => by
    simp only [List.getElem?_cons_succ] at h1 h2
    unfold DataW.weightsEach
    exact List.mem_append.2 (.inr (weightsEach_mem ts ds i t d h1 h2 x hx))
theorem weightsAll_mem {P : Program} {e : TypeId} : ∀ (ds : List (DataW H)) (d : DataW H), d ∈ ds → ∀ x ∈ d.weights P e, x ∈ DataW.weightsAll P e ds
  | [], _, h => by cases h
  | d' :: ds, d, h => fun x hx => by
    unfold DataW.weightsAll
    rcases List.mem_cons.1 h with rfl | h
    · exact List.mem_append.2 (.inl hx)
    · exact List.mem_append.2 (.inr (weightsAll_mem ds d h x hx))
theorem Opn.strct {t : TypeId} {cs : List Value} {d : DataW H} {fs : Array Field} (h : Opn enc w t cs d) (ht : Tryz.prog.underlying t = some (.struct fs)) :
    cs.length = Tryz.prog.cellsOf t ∧ ∀ (i : Nat) (f : Field), fs[i]? = some f → ∃ di, Opn enc w f.type ((cs.drop f.offset).take (Tryz.prog.cellsOf f.type)) di := by
  obtain ⟨⟨fuel, ps, h1⟩, h2⟩ := h
  obtain ⟨xs, n, rfl, hx, hl, hxl, hf⟩ := DataW.trod_struct ht h1
  refine ⟨hl, fun i f hi => ?_⟩
  have hil : i < xs.length := by rw [hxl]; exact (Array.getElem?_eq_some_iff.1 hi).1
  refine ⟨xs[i].1, ⟨n, xs[i].2, (hf i f hi).trans (List.getElem?_eq_getElem hil)⟩, fun x hx' => h2 x ?_⟩
  injection hx with hx _
  rw [hx]
  unfold DataW.weights
  rw [ht]
  exact weightsEach_mem _ _ i f.type _ (by simp [hi]) (by rw [List.getElem?_map, List.getElem?_eq_getElem hil]; rfl) x hx'
theorem Opn.fld {t : TypeId} {cs : List Value} {d : DataW H} {fs : Array Field} (h : Opn enc w t cs d) (ht : Tryz.prog.underlying t = some (.struct fs)) (i o n : Nat) (ty : TypeId) (hi : (fs[i]?).map (fun f => (f.type, f.offset)) = some (ty, o)) (hn : Tryz.prog.cellsOf ty = n) :
    ∃ di, Opn enc w ty ((cs.drop o).take n) di := by
  cases hf : fs[i]? with
  | none => rw [hf] at hi; cases hi
  | some f =>
    rw [hf] at hi
    simp only [Option.map_some, Option.some.injEq, Prod.mk.injEq] at hi
    obtain ⟨rfl, rfl⟩ := hi
    obtain ⟨di, hd⟩ := (h.strct ht).2 i f hf
    rw [hn] at hd
    exact ⟨di, hd⟩
theorem Opn.slice {α : Type} [Inhabited α] {t e : TypeId} {size : Nat} {cs : List Value} {d : DataW H} (h : Opn enc w t cs d) (ht : Tryz.prog.underlying t = some (.slice e)) (hc : Tryz.prog.cellsOf e = size) (hsz : 0 < size)
    (R : List Value → α → Prop) (F : α → Prop) (hx : ∀ cs d, Opn enc w e cs d → cs.length = size → ∃ x, R cs x ∧ F x) :
    ∃ (v : Value) (l : List α), cs = [v] ∧ ElemsOf w none_ size R v l ∧ (∀ x ∈ l, F x) ∧ l.length * Tryz.prog.bytesOf e ≤ reachBytes := by
  obtain ⟨⟨fuel, ps, h1⟩, h2⟩ := h
  rcases Go.Deep.open_slice ht h1 with ⟨rfl, -⟩ | ⟨a, len, cap, m, n, D, Pl, rfl, -, hl, hm, hmm, hxe, hel⟩
  · exact ⟨_, [], rfl, ⟨none, 0, 0, rfl, Nat.le_refl _, Nat.zero_le _, rfl, fun h => absurd h (by omega)⟩, fun _ h => (by cases h), by simp⟩
  · simp only [if_true] at hmm
    subst hmm
    simp only [Prod.mk.injEq] at hxe
    obtain ⟨rfl, -⟩ := hxe
    unfold DataW.weights at h2
    rw [ht] at h2
    simp only [List.length_map, List.length_range] at h2
    have hw := h2 _ (List.mem_cons_self ..)
    have hwe : ∀ i, i < len → ∀ x ∈ (D i).weights Tryz.prog e, x ≤ reachBytes := fun i hi x hx' =>
      h2 x (List.mem_cons_of_mem _ (List.mem_append.2 (.inl (weightsAll_mem _ (D i) (List.mem_map.2 ⟨i, List.mem_range.2 hi, rfl⟩) x hx'))))
    have key : ∀ i, i < len → ∃ (x : α), ∃ cs', w.cells? 0 (a.add (i * size)) size = some cs' ∧ R cs' x ∧ F x := fun i hi => by
      obtain ⟨cs', g1, g2⟩ := hel i (by omega)
      rw [hc] at g1
      obtain ⟨x, r, f⟩ := hx cs' (D i) ⟨⟨n, _, g2⟩, hwe i hi⟩ (World.cells?_some g1).2.1
      exact ⟨x, cs', g1, r, f⟩
    obtain ⟨f, hf⟩ := Go.Deep.choose_lt key
    refine ⟨_, (List.range len).map f, rfl, ⟨some a, len, _, rfl, hl, hm, by simp, fun hn => ?_⟩, fun x hx' => ?_, ?_⟩
    · obtain ⟨b, o, sp⟩ := a
      obtain ⟨cs0, g1, -, -⟩ := hf 0 hn
      have hsp : sp = none := by
        obtain ⟨-, g2, g3⟩ := World.cells?_some g1
        have g4 := g3 0 hsz
        rw [List.getElem?_eq_getElem (by omega)] at g4
        simpa [Addr.add] using World.cell?_spot g4
      subst hsp
      refine ⟨b, o, rfl, fun e => e, fun i hi => ?_⟩
      have hi' : i < len := by simpa using hi
      obtain ⟨cs', g1, r, -⟩ := hf i hi'
      obtain ⟨-, g2, g3⟩ := World.cells?_some g1
      refine ⟨cs', g2, fun j u hj => ?_, by simpa using r⟩
      have hjl : j < size := by rw [← g2]; exact (List.getElem?_eq_some_iff.1 hj).1
      have g4 := g3 j hjl
      rw [hj, Go.WideShapes.add_plain, Go.WideShapes.add_plain] at g4
      exact g4
    · obtain ⟨i, hi, rfl⟩ := List.mem_map.1 hx'
      obtain ⟨-, -, -, hF⟩ := hf i (List.mem_range.1 hi)
      exact hF
    · rw [List.length_map, List.length_range]
      exact Nat.le_trans (Nat.mul_le_mul_right _ (by omega)) hw
theorem Opn.int {t : TypeId} {k : IntKind} {cs : List Value} {d : DataW H} (h : Opn enc w t cs d) (ht : Tryz.prog.underlying t = some (.int k)) : ∃ n, cs = [.int k n] ∧ (Lit.int k n).wf = true := by
  obtain ⟨⟨fuel, ps, h1⟩, -⟩ := h
  obtain ⟨n, e, -, hw⟩ := DataW.trod_int ht h1
  exact ⟨n, e, hw⟩
theorem Opn.bool {t : TypeId} {cs : List Value} {d : DataW H} (h : Opn enc w t cs d) (ht : Tryz.prog.underlying t = some .bool) : ∃ b, cs = [.bool b] := by
  obtain ⟨⟨fuel, ps, h1⟩, -⟩ := h
  obtain ⟨n, e, -⟩ := DataW.trod_bool ht h1
  exact ⟨n, e⟩
theorem Opn.string {t : TypeId} {cs : List Value} {d : DataW H} (h : Opn enc w t cs d) (ht : Tryz.prog.underlying t = some .string) : ∃ s, cs = [.string s] ∧ Szd s := by
  obtain ⟨⟨fuel, ps, h1⟩, -⟩ := h
  obtain ⟨n, e, -, hs⟩ := DataW.trod_string ht h1
  exact ⟨n, e, hs⟩
/-- A comparable type: its values are equal to themselves. -/
theorem Opn.key {t : TypeId} {m : Nat} {fs : Array Field} {cs : List Value} {d : DataW H} (h : Opn enc w t cs d) (ht : Tryz.prog.underlying t = some (.struct fs)) (hm : m ≤ 10000) (hk : Tryz.prog.keyTypeAt m t = true) (hd : Tryz.prog.tiled m t = true) :
    EqOk Tryz.prog 10000 t (.agg cs.toArray) (.agg cs.toArray) ∧ ∀ v ∈ cs, v.oneCell' = true := by
  have hl := (h.strct ht).1
  obtain ⟨⟨fuel, ps, h1⟩, -⟩ := h
  obtain ⟨hl1, -⟩ := keyLits_of_trod m t hk fuel cs _ h1
  refine ⟨⟨true, fun _ => rfl, fun w' => ?_⟩, fun v hv => ?_⟩
  · have hf : (Value.agg cs.toArray).formed Tryz.prog t = true := by simp [Value.formed, ht, hl]
    have hl2 : Tryz.prog.keyLits m t (Value.agg cs.toArray).cells.toList = some d.flat := by simpa [Value.cells] using hl1
    obtain ⟨r, hr, hiff⟩ := run_equalIn_deep (10000 - m) m t hk w' m m _ _ _ _ hf hf hl2 hl2
    rw [Nat.sub_add_cancel hm] at hr
    rw [hr, hiff.2 rfl]
  · rw [cells_of_lits m t hd m cs _ hl1] at hv
    obtain ⟨x, -, rfl⟩ := List.mem_map.1 hv
    cases x <;> rfl
theorem elems_row1 {α : Type} {S : Nat → Prop} {g : α → Value} {v : Value} {l : List α} (h : ElemsOf w S 1 (fun cs x => cs = [g x]) v l) : ∃ A n c, v = .slice A n c ∧ Row w S 1 A n c (l.map g) := by
  obtain ⟨A, n, c, e, h1, h2, h3, h4⟩ := h
  refine ⟨A, n, c, e, by simp [h3], h1, h2, fun hn => ?_⟩
  obtain ⟨b, o, e, hb, hc⟩ := h4 hn
  refine ⟨b, o, e, hb, fun j u hu => ?_⟩
  rw [List.getElem?_map] at hu
  by_cases hj : j < l.length
  · rw [List.getElem?_eq_getElem hj] at hu
    simp only [Option.map_some, Option.some.injEq] at hu
    obtain ⟨cs, -, g2, g3⟩ := hc j hj
    have := g2 0 (g l[j]) (by rw [g3]; rfl)
    rw [← hu]
    simpa using this
  · rw [List.getElem?_eq_none (by omega)] at hu
    simp at hu
theorem Opn.strs {cs : List Value} {d : DataW H} (h : Opn enc w 44 cs d) : ∃ v l, cs = [v] ∧ StrsOf w none_ v l ∧ ∀ x ∈ l, Szd x := by
  obtain ⟨v, l, e, h1, h2, -⟩ := h.slice (size := 1) Tryz.underlying44 (by kernel_rfl) (by decide) (fun cs (x : ByteArray) => cs = [Value.string x]) Szd (fun cs d hd _ => hd.string Tryz.underlying9)
  exact ⟨v, l, e, elems_row1 h1, h2⟩
theorem Opn.bytes {cs : List Value} {d : DataW H} (h : Opn enc w 131 cs d) : ∃ v l, cs = [v] ∧ BytesAt w none_ v l ∧ l.length ≤ 140737488355328 := by
  obtain ⟨v, l, e, h1, -, h3⟩ := h.slice (size := 1) Tryz.underlying131 (by kernel_rfl) (by decide) (fun cs (x : Int) => cs = [Value.int .u8 x]) (fun _ => True) (fun cs d hd _ => by
    obtain ⟨n, e, -⟩ := hd.int Tryz.underlying5
    exact ⟨n, e, trivial⟩)
  refine ⟨v, l, e, elems_row1 h1, ?_⟩
  rw [show Tryz.prog.bytesOf 5 = 1 by kernel_rfl] at h3
  unfold reachBytes at h3
  omega
theorem Opn.users {cs : List Value} {d : DataW H} (h : Opn enc w 67 cs d) : ∃ v l, cs = [v] ∧ ElemsOf w none_ 1 (UserR w none_) v l ∧ l.length * 24 ≤ 140737488355328 ∧ ∀ z ∈ l, z.length ≤ 140737488355328 := by
  obtain ⟨v, l, e, h1, h2, h3⟩ := h.slice (size := 1) Tryz.underlying67 (by kernel_rfl) (by decide) (UserR w none_) (fun z => z.length ≤ 140737488355328) (fun cs d hd _ => by
    obtain ⟨v, l, e, h1, h2⟩ := hd.bytes
    exact ⟨l, ⟨v, e, h1⟩, h2⟩)
  refine ⟨v, l, e, h1, ?_, h2⟩
  rw [show Tryz.prog.bytesOf 131 = 24 by kernel_rfl] at h3
  unfold reachBytes at h3
  omega
theorem Opn.units {cs : List Value} {d : DataW H} (h : Opn enc w 68 cs d) : ∃ v l, cs = [v] ∧ ElemsOf w none_ 2 (UnitR w none_) v l ∧ l.length * 32 ≤ 140737488355328 ∧ ∀ z ∈ l, z.2.length ≤ 140737488355328 := by
  obtain ⟨v, l, e, h1, h2, h3⟩ := h.slice (size := 2) Tryz.underlying68 (by kernel_rfl) (by decide) (UnitR w none_) (fun z => z.2.length ≤ 140737488355328) (fun cs d hd hl => by
    obtain ⟨d0, f0⟩ := hd.fld Tryz.underlying163 0 0 1 3 rfl (by kernel_rfl)
    obtain ⟨d1, f1⟩ := hd.fld Tryz.underlying163 1 1 1 131 rfl (by kernel_rfl)
    obtain ⟨k, e0, -⟩ := f0.int Tryz.underlying3
    obtain ⟨v, l, e1, h1, h2⟩ := f1.bytes
    rcases cs with _ | ⟨a, _ | ⟨b, _ | ⟨c, r⟩⟩⟩ <;> simp at hl
    have e0' : [a] = [.int .i64 k] := e0
    have e1' : [b] = [v] := e1
    simp only [List.cons.injEq, and_true] at e0' e1'
    subst e0' e1'
    exact ⟨(k, l), ⟨b, rfl, h1⟩, h2⟩)
  refine ⟨v, l, e, h1, ?_, h2⟩
  rw [show Tryz.prog.bytesOf 163 = 32 by kernel_rfl] at h3
  unfold reachBytes at h3
  omega
theorem one_at {l : List Value} {o : Nat} {v : Value} (h : (l.drop o).take 1 = [v]) : l[o]? = some v := by
  have e := congrArg (fun x => x[0]?) h
  simpa [List.getElem?_take, List.getElem?_drop] using e
theorem part_one {l : List Value} {o n i : Nat} {v : Value} (h : ∀ v ∈ (l.drop o).take n, v.oneCell' = true) (h1 : o ≤ i) (h2 : i < o + n) (hv : l[i]? = some v) : v.oneCell' = true := by
  refine h v (List.mem_of_getElem? (i := i - o) ?_)
  rw [List.getElem?_take, if_pos (by omega), List.getElem?_drop, show o + (i - o) = i by omega]
  exact hv
theorem part_take {l : List Value} {n a b : Nat} (h : a + b ≤ n) : ((l.take n).drop a).take b = (l.drop a).take b := by
  rw [List.drop_take, List.take_take, Nat.min_eq_left (by omega)]
instance : Inhabited Itm := ⟨⟨[], [], [], 0⟩⟩
instance : Inhabited Jb := ⟨⟨⟨#[]⟩, [], ⟨#[]⟩, 0, 0, false, []⟩⟩
instance : Inhabited Wk := ⟨⟨⟨#[]⟩, false⟩⟩
/-- The sizes of an item's parts. -/
def ItmSz (x : Itm) : Prop := x.user.length * 24 ≤ 140737488355328 ∧ (∀ z ∈ x.user, z.length ≤ 140737488355328) ∧ x.slices.length * 32 ≤ 140737488355328 ∧ ∀ z ∈ x.slices, z.2.length ≤ 140737488355328
theorem Opn.item {cs : List Value} {d : DataW H} (h : Opn enc w 72 cs d) (hl : cs.length = 148) : ∃ x, ItmOf w none_ cs x ∧ ItmSz x ∧ ItW x := by
  obtain ⟨d0, f0⟩ := h.fld Tryz.underlying72 0 0 1 3 rfl (by kernel_rfl)
  obtain ⟨d1, f1⟩ := h.fld Tryz.underlying72 1 1 135 62 rfl (by kernel_rfl)
  obtain ⟨d2, f2⟩ := h.fld Tryz.underlying72 2 136 3 64 rfl (by kernel_rfl)
  obtain ⟨d3, f3⟩ := h.fld Tryz.underlying72 3 139 8 70 rfl (by kernel_rfl)
  obtain ⟨d4, f4⟩ := h.fld Tryz.underlying72 4 147 1 3 rfl (by kernel_rfl)
  obtain ⟨d5, f5⟩ := f3.fld Tryz.underlying70 0 0 6 66 rfl (by kernel_rfl)
  obtain ⟨d6, f6⟩ := f3.fld Tryz.underlying70 1 6 1 67 rfl (by kernel_rfl)
  obtain ⟨d7, f7⟩ := f3.fld Tryz.underlying70 2 7 1 68 rfl (by kernel_rfl)
  obtain ⟨k, e0, -⟩ := f0.int Tryz.underlying3
  obtain ⟨p, e4, -⟩ := f4.int Tryz.underlying3
  obtain ⟨u, us, e6, hu1, hu2, hu3⟩ := f6.users
  obtain ⟨s, ss, e7, hs1, hs2, hs3⟩ := f7.units
  obtain ⟨q1, o1⟩ := f1.key (m := 4) Tryz.underlying62 (by decide) (by kernel_rfl) (by kernel_rfl)
  obtain ⟨q2, o2⟩ := f2.key (m := 4) Tryz.underlying64 (by decide) (by kernel_rfl) (by kernel_rfl)
  obtain ⟨q3, o3⟩ := f5.key (m := 4) Tryz.underlying66 (by decide) (by kernel_rfl) (by kernel_rfl)
  rw [List.drop_zero] at q3 o3
  rw [List.take_take, Nat.min_eq_left (by decide)] at q3 o3
  have c0 := one_at e0
  have c4 := one_at e4
  have c6 : cs[145]? = some u := by
    have := one_at e6
    rwa [List.getElem?_take, if_pos (by decide), List.getElem?_drop] at this
  have c7 : cs[146]? = some s := by
    have := one_at e7
    rwa [List.getElem?_take, if_pos (by decide), List.getElem?_drop] at this
  have hfl : (cs.take 145).length = 145 := by simp [hl]
  have htl : cs.drop 145 = [u, s, .int .i64 p] := by
    apply List.ext_getElem?
    intro j
    rw [List.getElem?_drop]
    rcases (show j = 0 ∨ j = 1 ∨ j = 2 ∨ 3 ≤ j by omega) with rfl | rfl | rfl | hj
    · exact c6
    · exact c7
    · exact c4
    · rw [List.getElem?_eq_none (by omega), List.getElem?_eq_none (by simpa using hj)]
  refine ⟨⟨cs.take 145, us, ss, p⟩, ⟨u, s, ?_, hfl, fun v hv => ?_, hu1, hs1⟩, ⟨hu2, hu3, hs2, hs3⟩, ⟨⟨k, ?_⟩, ?_, ?_, ?_⟩⟩
  · show cs = cs.take 145 ++ [u, s, .int .i64 p]
    rw [← htl, List.take_append_drop]
  · obtain ⟨i, hi⟩ := List.getElem?_of_mem hv
    have hil : i < 145 := by rw [← hfl]; exact (List.getElem?_eq_some_iff.1 hi).1
    rw [List.getElem?_take, if_pos hil] at hi
    by_cases h1 : i < 1
    · obtain rfl : i = 0 := by omega
      rw [c0] at hi
      cases hi
      rfl
    by_cases h2 : i < 136
    · exact part_one o1 (by omega) (by omega) hi
    by_cases h3 : i < 139
    · exact part_one o2 (by omega) (by omega) hi
    · exact part_one o3 (by omega) (by omega) hi
  · show (cs.take 145)[0]? = _
    rw [List.getElem?_take, if_pos (by decide)]
    exact c0
  · show EqOk _ _ _ (.agg (((cs.take 145).drop 1).take 135).toArray) _
    rw [part_take (by decide)]
    exact q1
  · show EqOk _ _ _ (.agg (((cs.take 145).drop 136).take 3).toArray) _
    rw [part_take (by decide)]
    exact q2
  · show EqOk _ _ _ (.agg (((cs.take 145).drop 139).take 6).toArray) _
    rw [part_take (by decide)]
    exact q3
theorem Opn.items {cs : List Value} {d : DataW H} (h : Opn enc w 55 cs d) : ∃ v l, cs = [v] ∧ ItemsOf w none_ v l ∧ ItK l ∧ l.length * 296 ≤ 140737488355328 := by
  obtain ⟨v, l, e, h1, h2, h3⟩ := h.slice (size := 148) Tryz.underlying55 (by kernel_rfl) (by decide) (ItmOf w none_) (fun x => ItmSz x ∧ ItW x) (fun cs d hd hl => hd.item hl)
  rw [show Tryz.prog.bytesOf 72 = 296 by kernel_rfl] at h3
  have h4 : l.length * 296 ≤ 140737488355328 := by unfold reachBytes at h3; omega
  exact ⟨v, l, e, h1, ⟨clb_big l ⟨h4, fun x hx => (h2 x hx).1⟩, fun x hx => sameItem_big x (h2 x hx).2⟩, h4⟩
theorem Opn.job {cs : List Value} {d : DataW H} (h : Opn enc w 57 cs d) (hl : cs.length = 7) : ∃ x, JbOf w none_ cs x ∧ (Szd x.name ∧ ∀ y ∈ x.needs, Szd y) ∧ ItK x.items := by
  obtain ⟨d0, f0⟩ := h.fld Tryz.underlying57 0 0 1 9 rfl (by kernel_rfl)
  obtain ⟨d1, f1⟩ := h.fld Tryz.underlying57 1 1 1 44 rfl (by kernel_rfl)
  obtain ⟨d2, f2⟩ := h.fld Tryz.underlying57 2 2 1 9 rfl (by kernel_rfl)
  obtain ⟨d3, f3⟩ := h.fld Tryz.underlying57 3 3 1 2 rfl (by kernel_rfl)
  obtain ⟨d4, f4⟩ := h.fld Tryz.underlying57 4 4 1 3 rfl (by kernel_rfl)
  obtain ⟨d5, f5⟩ := h.fld Tryz.underlying57 5 5 1 4 rfl (by kernel_rfl)
  obtain ⟨d6, f6⟩ := h.fld Tryz.underlying57 6 6 1 55 rfl (by kernel_rfl)
  obtain ⟨nm, e0, s0⟩ := f0.string Tryz.underlying9
  obtain ⟨vn, ns, e1, s1, s2⟩ := f1.strs
  obtain ⟨wk, e2, -⟩ := f2.string Tryz.underlying9
  obtain ⟨un, e3, -⟩ := f3.int Tryz.underlying2
  obtain ⟨tr, e4, -⟩ := f4.int Tryz.underlying3
  obtain ⟨dn, e5⟩ := f5.bool Tryz.underlying4
  obtain ⟨vi, its, e6, i1, i2, -⟩ := f6.items
  have g0 := one_at e0
  have g1 := one_at e1
  have g2 := one_at e2
  have g3 := one_at e3
  have g4 := one_at e4
  have g5 := one_at e5
  have g6 := one_at e6
  refine ⟨⟨nm, ns, wk, un, tr, dn, its⟩, ⟨vn, vi, ?_, s1, i1⟩, ⟨s0, s2⟩, i2⟩
  apply List.ext_getElem?
  intro j
  rcases (show j = 0 ∨ j = 1 ∨ j = 2 ∨ j = 3 ∨ j = 4 ∨ j = 5 ∨ j = 6 ∨ 7 ≤ j by omega) with rfl | rfl | rfl | rfl | rfl | rfl | rfl | hj
  · exact g0
  · exact g1
  · exact g2
  · exact g3
  · exact g4
  · exact g5
  · exact g6
  · rw [List.getElem?_eq_none (by omega), List.getElem?_eq_none (by simpa using hj)]
theorem Opn.wk {cs : List Value} {d : DataW H} (h : Opn enc w 107 cs d) (hl : cs.length = 2) : ∃ x, WkOf cs x ∧ Szd x.name := by
  obtain ⟨d0, f0⟩ := h.fld Tryz.underlying107 0 0 1 9 rfl (by kernel_rfl)
  obtain ⟨d1, f1⟩ := h.fld Tryz.underlying107 1 1 1 4 rfl (by kernel_rfl)
  obtain ⟨nm, e0, s0⟩ := f0.string Tryz.underlying9
  obtain ⟨dn, e1⟩ := f1.bool Tryz.underlying4
  have g0 := one_at e0
  have g1 := one_at e1
  refine ⟨⟨nm, dn⟩, ?_, s0⟩
  unfold WkOf
  apply List.ext_getElem?
  intro j
  rcases (show j = 0 ∨ j = 1 ∨ 2 ≤ j by omega) with rfl | rfl | hj
  · exact g0
  · exact g1
  · rw [List.getElem?_eq_none (by omega), List.getElem?_eq_none (by simpa using hj)]
theorem Opn.state {cs : Array Value} {d : DataW H} (h : Opn enc w 48 cs.toList d) : ∃ s, StateOf w none_ (.agg cs) s ∧ KSt s := by
  have hl : cs.toList.length = 4 := (h.strct Tryz.underlying48).1.trans (by kernel_rfl)
  obtain ⟨d0, f0⟩ := h.fld Tryz.underlying48 0 0 1 2 rfl (by kernel_rfl)
  obtain ⟨d1, f1⟩ := h.fld Tryz.underlying48 1 1 1 44 rfl (by kernel_rfl)
  obtain ⟨d2, f2⟩ := h.fld Tryz.underlying48 2 2 1 45 rfl (by kernel_rfl)
  obtain ⟨d3, f3⟩ := h.fld Tryz.underlying48 3 3 1 46 rfl (by kernel_rfl)
  obtain ⟨nw, e0, -⟩ := f0.int Tryz.underlying2
  obtain ⟨vp, ps, e1, p1, p2⟩ := f1.strs
  obtain ⟨vj, js, e2, j1, j2, -⟩ := f2.slice (size := 7) Tryz.underlying45 (by kernel_rfl) (by decide) (JbOf w none_) (fun x => (Szd x.name ∧ ∀ y ∈ x.needs, Szd y) ∧ ItK x.items) (fun cs d hd hl => hd.job hl)
  obtain ⟨vw, ws, e3, w1, w2, -⟩ := f3.slice (size := 2) Tryz.underlying46 (by kernel_rfl) (by decide) WkOf (fun x => Szd x.name) (fun cs d hd hl => hd.wk hl)
  have g0 := one_at e0
  have g1 := one_at e1
  have g2 := one_at e2
  have g3 := one_at e3
  have e : cs = #[.int .i64 nw, vp, vj, vw] := by
    apply Array.toList_inj.1
    apply List.ext_getElem?
    intro j
    rcases (show j = 0 ∨ j = 1 ∨ j = 2 ∨ j = 3 ∨ 4 ≤ j by omega) with rfl | rfl | rfl | rfl | hj
    · exact g0
    · exact g1
    · exact g2
    · exact g3
    · rw [List.getElem?_eq_none (by omega), List.getElem?_eq_none (by simpa using hj)]
  exact ⟨⟨nw, ps, js, ws⟩, ⟨vp, vj, vw, by rw [e], p1, j1, w1⟩, ⟨p2, w2, fun j hj => (j2 j hj).1⟩, fun j hj => (j2 j hj).2⟩
theorem Opn.event {cs : Array Value} {d : DataW H} (h : Opn enc w 78 cs.toList d) : ∃ e, EvOf w none_ (.agg cs) e ∧ KEv e := by
  have hl : cs.toList.length = 6 := (h.strct Tryz.underlying78).1.trans (by kernel_rfl)
  obtain ⟨d0, f0⟩ := h.fld Tryz.underlying78 0 0 1 3 rfl (by kernel_rfl)
  obtain ⟨d1, f1⟩ := h.fld Tryz.underlying78 1 1 1 9 rfl (by kernel_rfl)
  obtain ⟨d2, f2⟩ := h.fld Tryz.underlying78 2 2 1 9 rfl (by kernel_rfl)
  obtain ⟨d3, f3⟩ := h.fld Tryz.underlying78 3 3 1 44 rfl (by kernel_rfl)
  obtain ⟨d4, f4⟩ := h.fld Tryz.underlying78 4 4 1 2 rfl (by kernel_rfl)
  obtain ⟨d5, f5⟩ := h.fld Tryz.underlying78 5 5 1 55 rfl (by kernel_rfl)
  obtain ⟨kd, e0, -⟩ := f0.int Tryz.underlying3
  obtain ⟨nm, e1, s1⟩ := f1.string Tryz.underlying9
  obtain ⟨wk, e2, s2⟩ := f2.string Tryz.underlying9
  obtain ⟨vn, ns, e3, n1, n2⟩ := f3.strs
  obtain ⟨tk, e4, -⟩ := f4.int Tryz.underlying2
  obtain ⟨vi, its, e5, i1, i2, i3⟩ := f5.items
  have g0 := one_at e0
  have g1 := one_at e1
  have g2 := one_at e2
  have g3 := one_at e3
  have g4 := one_at e4
  have g5 := one_at e5
  have e : cs = #[.int .i64 kd, .string nm, .string wk, vn, .int .i64 tk, vi] := by
    apply Array.toList_inj.1
    apply List.ext_getElem?
    intro j
    rcases (show j = 0 ∨ j = 1 ∨ j = 2 ∨ j = 3 ∨ j = 4 ∨ j = 5 ∨ 6 ≤ j by omega) with rfl | rfl | rfl | rfl | rfl | rfl | hj
    · exact g0
    · exact g1
    · exact g2
    · exact g3
    · exact g4
    · exact g5
    · rw [List.getElem?_eq_none (by omega), List.getElem?_eq_none (by simpa using hj)]
  exact ⟨⟨kd, nm, wk, ns, tk, its⟩, ⟨vn, vi, by rw [e], n1, i1⟩, ⟨s1, s2, n2⟩, i2, i3⟩
end
end Go.Proofs.YtnefbeplgfdkkaaGreatDoor
/-
  PROVED: FarmRunsCardSaid: for every input FarmRuns returns true and leaves its arguments as they were. Conditions: those of the card (the three tables of math/bits and strconv are laid as the program's text lays them).
-/
namespace Go.Proofs.YtnefbeplgfdkkaaGreatDoor
open Go.ChangeShapes Go.WideShapes Go.ChangeAt Go.RowKit Go.Joins Go.Deep

set_option maxRecDepth 100000 in
theorem farmRuns_lifted (os : Os) (started : os.Started) (H : Type) (enc : TypeId × Value → H) :
    ReturnsInHanded {} Tryz.checked os 6 .any (fun w args => (Rows.farmRunsSpec.pre enc Tryz.prog Tryz.f6 [] false w args ∧ laidMetH Tryz.prog Rows.farmRunsRow.laid w) ∧ sizedMet enc Tryz.prog Tryz.f6 (OpenSpec.ofChange Rows.farmRunsSpec) false w args)
      (Rows.farmRunsSpec.post enc Tryz.prog Tryz.f6 false true false false) := by
  refine returnsInHanded_of_change_and (C := Tryz.checked) (X := fun w _ => laidMetH Tryz.prog Rows.farmRunsRow.laid w) (fun _ _ _ hh h => h.of_heap hh) Tryz.own started (by kernel_rfl) Tryz.func6
    (ChangeSpec.witness_shaped (enc := enc) (C := Tryz.checked) (os := os) (X := fun w _ => laidMetH Tryz.prog Rows.farmRunsRow.laid w) false (World.doorLaid Tryz.prog 4000 os) #[.agg #[.int .i64 0, .slice none 0 0, .slice none 0 0, .slice none 0 0], .slice none 0 0, .agg #[.int .i64 0, .string ⟨#[]⟩, .string ⟨#[]⟩, .slice none 0 0, .int .i64 0, .slice none 0 0]] 8 rfl (World.shaped_of_RefB (by kernel_rfl) (by kernel_rfl)) (by kernel_rfl) (by kernel_rfl) (by kernel_rfl) (door_met os _)) ?_
  intro W base args ds gs before hval0 hW _ hZ hL _
  have hval : ∀ (j : Nat) t v, Tryz.f6.params[j]? = some t → args[j]? = some v → Value.okWide Tryz.prog W .any base t v := hval0
  have hW' := hW
  obtain ⟨p, q, hA0, hV, rfl, hfz, hnd⟩ := hW
  have hA : DataW.TrodAll enc Tryz.prog W 0 (fun _ => true) true Tryz.f6.params.toList args.toList ds p := hA0
  have hZ' : (DataW.weightsEach Tryz.prog (Tryz.f6.params.toList ++ Rows.farmRunsSpec.plain.varTypes Tryz.prog) (ds ++ gs)).all (· ≤ reachBytes) = true := hZ
  rw [Tryz.params6] at hA hval hZ'
  obtain ⟨v1, v2, v3, d1, d2, d3, p1, p2, p3, rfl, rfl, rfl, h1, h2, h3⟩ := trodAll_three hA
  obtain ⟨rfl, rfl⟩ := trodVars_none hV
  obtain ⟨A, n, c, zs, rfl, hr, hz⟩ := tape_of h2 (okWide_slice Tryz.underlying26 (hval 1 26 v2 rfl rfl))
  obtain ⟨cs, rfl, -⟩ := okWide_struct Tryz.underlying48 (hval 0 48 v1 rfl rfl)
  obtain ⟨es, rfl, -⟩ := okWide_struct Tryz.underlying78 (hval 2 78 v3 rfl rfl)
  have wt : ∀ (i : Nat) t d, [48, 26, 78][i]? = some t → [d1, d2, d3][i]? = some d → ∀ x ∈ d.weights Tryz.prog t, x ≤ reachBytes := fun i t d hi hd x hx =>
    of_decide_eq_true (List.all_eq_true.1 hZ' x (weightsEach_mem _ _ i t d (by rw [List.getElem?_append_left (by have := (List.getElem?_eq_some_iff.1 hi).1; simpa using this)]; exact hi) (by rw [List.getElem?_append_left (by have := (List.getElem?_eq_some_iff.1 hd).1; simpa using this)]; exact hd) x hx))
  obtain ⟨f1, e1⟩ := id h1
  obtain ⟨f3, e3⟩ := id h3
  obtain ⟨s, s1, s2⟩ := Opn.state (enc := enc) (w := W) (cs := cs) (d := d1) ⟨⟨f1, p1, e1⟩, wt 0 _ _ rfl rfl⟩
  obtain ⟨ev, ev1, ev2⟩ := Opn.event (enc := enc) (w := W) (cs := es) (d := d3) ⟨⟨f3, p3, e3⟩, wt 2 _ _ rfl rfl⟩
  clear hA0 hval0 hZ hZ' wt
  refine (runs_any s ev _ _ A n c zs W s1 ev1 s2 ev2 hr hz).mono fun e W' ⟨he, hk⟩ => ?_
  subst he
  have hb := hk.below
  have hlt : ∀ x ∈ p1 ++ p2 ++ p3, x.block < W.heap.size := fun x hx => hW'.lt x (by simpa using hx)
  refine ⟨_, rfl, post_of_keep (pv := []) hW' (fun _ _ _ => trodAll_mk1 (shut_bool Tryz.underlying4 true)) (fun sp hsp => ?_) (fun _ _ => rfl) rfl hb (ok_one (by kernel_rfl) rfl (okWide_bool_mk Tryz.underlying4 true))⟩
  rw [List.append_assoc]
  refine trodAll_mk3 ?_ ?_ ?_
  · exact WideElems.Trod_stays Tryz.laidOut (by kernel_rfl) (of_decide_eq_true (by kernel_rfl)) h1 (fun x hx => hb.same (hlt x (by simp [hx]))) (fun x hx => hsp x (by simp [hx]))
  · exact WideElems.Trod_stays Tryz.laidOut (by kernel_rfl) (of_decide_eq_true (by kernel_rfl)) h2 (fun x hx => hb.same (hlt x (by simp [hx]))) (fun x hx => hsp x (by simp [hx]))
  · exact WideElems.Trod_stays Tryz.laidOut (by kernel_rfl) (of_decide_eq_true (by kernel_rfl)) h3 (fun x hx => hb.same (hlt x (by simp [hx]))) (fun x hx => hsp x (by simp [hx]))

theorem farmRuns_row : Rows.FarmRunsSaid :=
  OpenClaim.holds_of_wide 6 Tryz.f6 rfl rfl rfl rfl rfl rfl rfl ⟨rfl, rfl, rfl, rfl, rfl⟩ rfl rfl rfl rfl rfl (by kernel_rfl) Tryz.func6 (by kernel_rfl)
    (of_decide_eq_true (by kernel_rfl)) (by unfold Func.isWrapper; first | (rw [if_pos (by decide +kernel)]; kernel_rfl) | (rw [if_neg (by decide +kernel)]; exact ⟨rfl, rfl⟩))
    (fun os started H enc _ => farmRuns_lifted os started H enc)
theorem farmRuns_holds : Rows.FarmRunsCardSaid :=
  Claim7.holds_tied_plain_at .later [] [.data, .data, .data] true (true, "02381d6e26034f4bfeba242635871046e4c6e8e1505fadca35b87f21861049d9") false
    farmRuns_row (fun _ h => by cases h) (by kernel_rfl) (fun _ h => by cases h) farmRuns_row_tie rfl ⟨rfl, rfl⟩ (by kernel_rfl) rfl
    (fun f fn hf hfn => by
      obtain rfl : f = 6 := Option.some.inj ((show Tryz.prog.funcNamed Rows.farmRunsRow.func = some 6 by kernel_rfl).symm.trans hf) |>.symm
      obtain rfl : fn = Tryz.f6 := (Option.some.inj (Tryz.func6.symm.trans hfn)).symm
      exact ⟨by kernel_rfl, fun j t ht => by
        rw [Tryz.params6] at ht
        have hm : t ∈ [48, 26, 78] := by simpa using Array.mem_of_getElem? ht
        have hall : ([48, 26, 78].all fun u => !Tryz.prog.wantsStandIn u) = true := by kernel_rfl
        exact (show Tryz.prog.wantsStandIn t = false by simpa using List.all_eq_true.1 hall t hm)⟩)
    (by kernel_rfl)
end Go.Proofs.YtnefbeplgfdkkaaGreatDoor
