/-
  Words on memory for the walks: rows of cells, whole blocks, what a call leaves alone. No statement of the seat is proved here.
-/
import Derived.Test.YtebdgoikmclflaaGreatDoorProg
import Derived.WalkKit
import Derived.WalkSpells
import Derived.WalkLawsBesides
import Derived.Lib.Hide
import Derived.Deep.QuietTactic
import Derived.BigQuiet
import Derived.Deep.AppendLies
import Derived.Maps.AppendAt
import Derived.Deep.Draws
import Derived.Deep.RegionHeld3
import Derived.Deep.DrawnRows
import Derived.Deep.LoopGhost
import Derived.Deep.DeepCutAuto
import Derived.Deep.DeepFit
import Derived.StillTailTactics
import Derived.Deep.MidRow
import Derived.Deep.OwnRows
import Derived.Maps.RangeWalk
import Derived.Laws.IdiomCopy
namespace Go.Proofs.YtebdgoikmclflaaGreatDoor
open Go.RowKit

/-- Outside the blocks of S the world w' is as w was; new blocks may have come. -/
structure Keep (S : Nat → Prop) (w w' : World) : Prop where
  os : w'.os = w.os
  tape : w'.tape = w.tape
  output : w'.output = w.output
  size : w.heap.size ≤ w'.heap.size
  block : ∀ k, k < w.heap.size → ¬ S k → w'.heap[k]? = w.heap[k]?

/-- No block. -/
def none_ : Nat → Prop := fun _ => False
/-- One block. -/
def one (g : Nat) : Nat → Prop := fun k => k = g

/-- The blocks ahead of n. -/
def lt_ (n : Nat) : Nat → Prop := fun k => k < n
/-- A block and all later ones. -/
def ge (g : Nat) : Nat → Prop := fun k => g ≤ k

section
variable {S S' : Nat → Prop} {a w w' : World}
theorem Keep.refl (S : Nat → Prop) (w : World) : Keep S w w := ⟨rfl, rfl, rfl, Nat.le_refl _, fun _ _ _ => rfl⟩
theorem Keep.trans (h : Keep S a w) (k : Keep S w w') : Keep S a w' :=
  ⟨k.os.trans h.os, k.tape.trans h.tape, k.output.trans h.output, Nat.le_trans h.size k.size,
    fun i hi hs => (k.block i (Nat.lt_of_lt_of_le hi h.size) hs).trans (h.block i hi hs)⟩
theorem Keep.mono (h : Keep S w w') (hS : ∀ k, S k → S' k) : Keep S' w w' := ⟨h.os, h.tape, h.output, h.size, fun k hk hn => h.block k hk (fun e => hn (hS k e))⟩
theorem Keep.weak (h : Keep none_ w w') : Keep S w w' := h.mono (fun _ e => e.elim)
theorem Keep.weakLocal (h : Keep S w w') (hS : ∀ k, S k → S' k ∨ w.heap.size ≤ k) : Keep S' w w' :=
  ⟨h.os, h.tape, h.output, h.size, fun k hk hn => h.block k hk (fun e => by rcases hS k e with e | e; exact hn e; omega)⟩
/-- A later step that touches S or what is new. -/
theorem Keep.then (h : Keep S a w) (k : Keep S' w w') (hS : ∀ k, S' k → S k ∨ a.heap.size ≤ k) : Keep S a w' :=
  ⟨k.os.trans h.os, k.tape.trans h.tape, k.output.trans h.output, Nat.le_trans h.size k.size,
    fun i hi hs => (k.block i (Nat.lt_of_lt_of_le hi h.size) (fun e => by rcases hS i e with e | e; exact hs e; omega)).trans (h.block i hi hs)⟩
theorem Keep.drew (h : Keep S a w) : Keep S a w.drew := ⟨h.os, h.tape, h.output, h.size, h.block⟩
theorem Keep.drewN (h : Keep S a w) (n : Nat) : Keep S a (w.drewN n) := ⟨h.os, h.tape, h.output, h.size, h.block⟩
theorem Keep.alloc (h : Keep S a w) (o : Obj) : Keep S a (w.alloc o) :=
  h.trans ⟨rfl, rfl, rfl, by simp, fun k hk _ => Below.heap_alloc _ _ _ hk⟩
theorem Keep.setCell (h : Keep S a w) {p : Addr} (hp : S p.block ∨ a.heap.size ≤ p.block) (u : Value) : Keep S a (w.setCell p u) :=
  h.then (S' := one p.block) ⟨rfl, rfl, rfl, by simp [World.setCell], fun k _ hn => Below.heap_setCell _ _ _ _ hn⟩ (fun k e => by cases e; exact hp)
theorem Keep.below (h : Keep none_ w w') : Below w.heap.size w w' := ⟨h.os, h.tape, h.output, h.size, fun k hk => h.block k hk (fun e => e)⟩
theorem Keep.ofBelow (h : Below w.heap.size w w') : Keep none_ w w' := ⟨h.os, h.tape, h.output, h.size, fun k hk _ => h.block k hk⟩
theorem Keep.ofGrown {row : Option Nat} (h : w.grownBy w' row) : Keep (fun k => row = some k) w w' := ⟨h.os, h.tape, h.output, h.size, fun k hk hn => h.block k hk (fun e => hn e.symm)⟩
theorem Keep.cell (h : Keep S w w') {p : Addr} {u : Value} (hc : w.cell? p = some u) (hn : ¬ S p.block) : w'.cell? p = some u :=
  (World.cell?_of_block (h.block p.block (World.block_lt_of_cell? w p hc) hn)).trans hc
end

/-- A slice of n elements, each of size cells, that reads as xs; none of its cells lies in S. -/
structure Row (w : World) (S : Nat → Prop) (size : Nat) (A : Option Addr) (n c : Nat) (xs : List Value) : Prop where
  len : xs.length = n * size
  le : n ≤ c
  cap : c ≤ maxLen
  at_ : 0 < n → ∃ b o, A = some ⟨b, o, none⟩ ∧ ¬ S b ∧ ∀ j u, xs[j]? = some u → w.cell? ⟨b, o + j, none⟩ = some u

section
variable {w w' : World} {S S' : Nat → Prop} {size n c : Nat} {A : Option Addr} {xs : List Value}
theorem Row.keep (h : Row w S size A n c xs) (k : Keep S w w') : Row w' S size A n c xs :=
  ⟨h.len, h.le, h.cap, fun hn => by
    obtain ⟨b, o, e, hb, hc⟩ := h.at_ hn
    exact ⟨b, o, e, hb, fun j u hu => k.cell (hc j u hu) hb⟩⟩
theorem Row.sub (h : Row w S size A n c xs) (hS : ∀ k, S' k → S k) : Row w S' size A n c xs :=
  ⟨h.len, h.le, h.cap, fun hn => by
    obtain ⟨b, o, e, hb, hc⟩ := h.at_ hn
    exact ⟨b, o, e, fun e => hb (hS b e), hc⟩⟩
theorem Row.free (h : Row w S size A n c xs) : Row w none_ size A n c xs := h.sub (fun _ e => e.elim)
/-- The row lies where it lies; what lies behind the heap's end is not touched by it. -/
theorem Row.fresh (h : Row w none_ size A n c xs) (hS : ∀ k, S k → w.heap.size ≤ k) (hsz : 0 < size) : Row w S size A n c xs :=
  ⟨h.len, h.le, h.cap, fun hn => by
    obtain ⟨b, o, e, hb, hc⟩ := h.at_ hn
    refine ⟨b, o, e, fun e => ?_, hc⟩
    have hl : 0 < xs.length := by rw [h.len]; exact Nat.mul_pos hn hsz
    have := World.block_lt_of_cell? w _ (hc 0 xs[0] (List.getElem?_eq_getElem hl))
    have := hS b e
    simp at *
    omega⟩
theorem Row.nil (w : World) (S : Nat → Prop) (size : Nat) (A : Option Addr) (c : Nat) (hc : c ≤ maxLen) : Row w S size A 0 c [] := ⟨by simp, Nat.zero_le _, hc, fun h => absurd h (by omega)⟩
theorem Row.drewN (h : Row w S size A n c xs) (k : Nat) : Row (w.drewN k) S size A n c xs := ⟨h.len, h.le, h.cap, h.at_⟩
end

/-- Block g is just the cells cs of element type t, none of them frozen. -/
def Blk (w : World) (g : Nat) (t : TypeId) (cs : Array Value) : Prop := w.heap[g]? = some (.cells cs t (0, 0))

section
variable {w w' : World} {g : Nat} {t : TypeId} {cs : Array Value} {S : Nat → Prop}
theorem Blk.lt (h : Blk w g t cs) : g < w.heap.size := by
  rcases Nat.lt_or_ge g w.heap.size with hlt | hge
  · exact hlt
  · unfold Blk at h; rw [Array.getElem?_eq_none hge] at h; cases h
theorem Blk.cell (h : Blk w g t cs) (i : Nat) : w.cell? ⟨g, i, none⟩ = cs[i]? := cell_of_row w g i cs t (0, 0) h
theorem Blk.frozen (h : Blk w g t cs) (i : Nat) : w.frozen? ⟨g, i, none⟩ = false := by
  unfold Blk at h
  simp [World.frozen?, h]
theorem Blk.new (w : World) (t : TypeId) (cs : Array Value) : Blk (w.alloc (.cells cs t)) w.heap.size t cs := heap_alloc_new w _
theorem Blk.drew (h : Blk w g t cs) : Blk w.drew g t cs := h
theorem Blk.drewN (h : Blk w g t cs) (n : Nat) : Blk (w.drewN n) g t cs := h
theorem Blk.alloc (h : Blk w g t cs) (o : Obj) : Blk (w.alloc o) g t cs := (Below.heap_alloc w o g h.lt).trans h
theorem Blk.set_ (h : Blk w g t cs) (i : Nat) (u : Value) : Blk (w.setCell ⟨g, i, none⟩ u) g t (cs.setIfInBounds i u) := by
  unfold Blk at h ⊢
  simp [World.setCell, Array.getElem?_modify, h]
theorem Blk.far (h : Blk w g t cs) {p : Addr} (hp : g ≠ p.block) (u : Value) : Blk (w.setCell p u) g t cs := (Below.heap_setCell w p u g hp).trans h
theorem Blk.keep (h : Blk w g t cs) (k : Keep S w w') (hg : ¬ S g) : Blk w' g t cs := (k.block g h.lt hg).trans h
theorem Blk.ne_ {g' : Nat} {t' : TypeId} {cs' : Array Value} (h : Blk w g t cs) (h' : Blk w g' t' cs') (hne : t ≠ t') : g ≠ g' := by
  rintro rfl
  unfold Blk at h h'
  rw [h] at h'
  injection h' with h'
  injection h' with _ ht
  exact hne ht
/-- A whole block is a row. -/
theorem Blk.row (h : Blk w g t cs) {size n c : Nat} (hl : cs.size = c * size) (hn : n ≤ c) (hc : c ≤ maxLen) (hS : ¬ S g) :
    Row w S size (some ⟨g, 0, none⟩) n c (cs.toList.take (n * size)) :=
  ⟨by rw [List.length_take, Array.length_toList, hl]; exact Nat.min_eq_left (Nat.mul_le_mul_right _ hn), hn, hc, fun _ => ⟨g, 0, rfl, hS, fun j u hu => by
    rw [Nat.zero_add, h.cell]
    rw [List.getElem?_take] at hu
    split at hu
    · simpa using hu
    · cases hu⟩⟩
end

/-! Whole variables in blocks of their own. -/
theorem setCells_far (b : Nat) : ∀ (vs : List Value) (o : Nat) (w : World) (k : Nat), k ≠ b → (w.setCells b o vs).heap[k]? = w.heap[k]?
  | [], _, _, _, _ => rfl
  | v :: r, o, w, k, h => by
    rw [World.setCells, setCells_far b r (o + 1) _ k h, Below.heap_setCell _ _ _ _ h]
theorem setCells_size (b : Nat) : ∀ (vs : List Value) (o : Nat) (w : World), (w.setCells b o vs).heap.size = w.heap.size
  | [], _, _ => rfl
  | v :: r, o, w => by rw [World.setCells, setCells_size b r]; simp [World.setCell]
theorem setCells_rest (b : Nat) : ∀ (vs : List Value) (o : Nat) (w : World), (w.setCells b o vs).os = w.os ∧ (w.setCells b o vs).tape = w.tape ∧ (w.setCells b o vs).output = w.output
  | [], _, _ => ⟨rfl, rfl, rfl⟩
  | v :: r, o, w => by rw [World.setCells]; exact setCells_rest b r (o + 1) _
theorem Keep.setCells (w : World) (b o : Nat) (vs : List Value) : Keep (one b) w (w.setCells b o vs) :=
  ⟨(setCells_rest b vs o w).1, (setCells_rest b vs o w).2.1, (setCells_rest b vs o w).2.2, by rw [setCells_size]; exact Nat.le_refl _, fun k _ hn => setCells_far b vs o w k hn⟩
/-- cs with vs laid over it from o on. -/
def laid (cs : Array Value) : Nat → List Value → Array Value
  | _, [] => cs
  | o, v :: r => laid (cs.setIfInBounds o v) (o + 1) r
theorem Blk.setCells {t : TypeId} (g : Nat) : ∀ (vs : List Value) (o : Nat) (w : World) (cs : Array Value), Blk w g t cs → Blk (w.setCells g o vs) g t (laid cs o vs)
  | [], _, _, _, h => h
  | v :: r, o, w, cs, h => by rw [World.setCells, laid]; exact Blk.setCells g r (o + 1) _ _ (h.set_ o v)
theorem laid_size : ∀ (vs : List Value) (o : Nat) (cs : Array Value), (laid cs o vs).size = cs.size
  | [], _, _ => rfl
  | v :: r, o, cs => by rw [laid, laid_size r]; simp
theorem laid_get : ∀ (vs : List Value) (o : Nat) (cs : Array Value) (j : Nat), o + vs.length ≤ cs.size → (laid cs o vs)[j]? = if j < o then cs[j]? else if j < o + vs.length then vs[j - o]? else cs[j]?
  | [], o, cs, j, _ => by
    rw [laid]
    split
    · rfl
    · split
      · simp at *; omega
      · rfl
  | v :: r, o, cs, j, h => by
    simp only [List.length_cons] at h
    rw [laid, laid_get r (o + 1) _ j (by simp; omega)]
    by_cases h1 : j < o
    · rw [if_pos (by omega), if_pos h1, Array.getElem?_setIfInBounds_ne (by omega)]
    · by_cases h2 : j = o
      · subst h2
        rw [if_pos (by omega), if_neg h1, if_pos (by simp)]
        rw [Array.getElem?_setIfInBounds_self_of_lt (by omega)]
        simp
      · rw [if_neg (by omega), if_neg h1]
        by_cases h3 : j < o + 1 + r.length
        · rw [if_pos h3, if_pos (by simp; omega)]
          rw [show j - o = (j - (o + 1)) + 1 by omega, List.getElem?_cons_succ]
        · rw [if_neg h3, if_neg (by simp; omega), Array.getElem?_setIfInBounds_ne (by omega)]
theorem laid_whole (cs : Array Value) (vs : List Value) (h : vs.length = cs.size) : laid cs 0 vs = vs.toArray := by
  apply Array.ext_getElem?
  intro j
  rw [laid_get vs 0 cs j (by omega), if_neg (by omega)]
  by_cases hj : j < 0 + vs.length
  · rw [if_pos hj]; simp
  · rw [if_neg hj, Array.getElem?_eq_none (by omega), Array.getElem?_eq_none (by simp; omega)]
theorem Blk.there {w : World} {g : Nat} {t : TypeId} {cs : Array Value} (h : Blk w g t cs) (o n : Nat) (hn : o + n ≤ cs.size) : w.there g o n := fun j hj => by
  rw [h.cell, h.frozen]
  exact ⟨by simp; omega, rfl⟩
theorem Blk.rangeAt {w : World} {g : Nat} {t : TypeId} {cs : Array Value} (h : Blk w g t cs) : w.rangeAt g 0 cs.toList := fun j v hv => by
  rw [Nat.zero_add, h.cell]
  simpa using hv

section
variable {P : Program} {ops : Array Oper} {rest : List Oper} {op : Oper} {a : Act} {w : World} {Q : Exit → Act → World → Prop}
/-- A whole variable, in a block of its own, is stored into. -/
theorem wpList_store_blk (hgd : op.guard = none) (ty : TypeId) (x y : Operand) (ho : op.op = .store ty x y) (b : Nat) (t : TypeId) (cs xs : Array Value) (hx : a.eval x = .pointer (some ⟨b, 0, none⟩)) (hy : a.eval y = .agg xs)
    (hb : Blk w b t cs) (hs : cs.size = xs.size) (hi : (P.info? ty).map (·.size) = some xs.size) (h1 : xs.all (·.oneCell') = true)
    (h : ∀ w', Blk w' b t xs → Keep (one b) w w' → w'.heap.size = w.heap.size → wpList P ops Q rest (a.put op.dst undef) w') : wpList P ops Q (op :: rest) a w :=
  wpList_store_mid hgd ty x y ho b 0 xs hx hy (hb.there 0 xs.size (by omega)) hi h1 (h _ (by
    have := Blk.setCells b xs.toList 0 w cs hb
    rw [laid_whole cs xs.toList (by simp [hs])] at this
    simpa using this) (Keep.setCells _ _ _ _) (setCells_size _ _ _ _))
/-- .. is read. -/
theorem wpList_load_blk (hgd : op.guard = none) (ty : TypeId) (x : Operand) (ho : op.op = .load ty x) (b : Nat) (t : TypeId) (cs : Array Value) (d : TypeDesc) (hx : a.eval x = .pointer (some ⟨b, 0, none⟩))
    (hb : Blk w b t cs) (hu : P.underlying ty = some d) (hd : d.isRow = true) (hi : (P.info? ty).map (·.size) = some cs.size)
    (h : wpList P ops Q rest (a.put op.dst (.agg cs)) w) : wpList P ops Q (op :: rest) a w :=
  wpList_load_mid hgd ty x ho b 0 hx cs.toList d hb.rangeAt hu hd (by simpa using hi) (by simpa using h)
/-- .. as an equation. -/
theorem run_load_blk {w : World} {b : Nat} {t ty : TypeId} {cs : Array Value} {d : TypeDesc} (hb : Blk w b t cs) (hu : P.underlying ty = some d) (hd : d.isRow = true) (hi : (P.info? ty).map (·.size) = some cs.size) :
    (Instr.loadAt ty (.pointer (some ⟨b, 0, none⟩))).run P w = .ok (.agg cs) w := by
  have := run_loadAt_mid (P := P) w b 0 ty cs.toList d hb.rangeAt hu hd (by simpa using hi)
  simpa using this
end

section
variable {P : Program} {fn : Func} {tmps : Array Value} {w : World}
theorem run_loadVar_blk {b : Nat} {t ty : TypeId} {cs : Array Value} {d : TypeDesc} (hb : Blk w b t cs) (hu : P.underlying ty = some d) (hd : d.isRow = true) (hi : (P.info? ty).map (·.size) = some cs.size) :
    (loadVar ty ⟨b, 0, none⟩).run P w = .ok (.agg cs) w := by
  have := run_loadVar_mid (P := P) w b 0 ty cs.toList d hb.rangeAt hu hd (by simpa using hi)
  simpa using this
theorem run_loadVar_one {b o : Nat} {ty : TypeId} {v : Value} {d : TypeDesc} (hc : w.cell? ⟨b, o, none⟩ = some v) (hu : P.underlying ty = some d) (hd : d.isRow = false) : (loadVar ty ⟨b, o, none⟩).run P w = .ok v w := by
  have hagg : (isAgg ty).run P w = .ok false w := by
    unfold isAgg
    rw [Sem.run_bind, run_underlying hu w]
    cases d <;> simp_all
  simp [loadVar, hagg, go_sem, hc]
theorem results_cell {p : Tmp} {ty : TypeId} {b : Nat} {v : Value} (h : fn.results = #[.cell p ty]) (hp : tmps.getD p undef = .pointer (some ⟨b, 0, none⟩)) (hl : (loadVar ty ⟨b, 0, none⟩).run P w = .ok v w) :
    (results fn tmps).run P w = .ok v w := by
  simp only [results, h]
  have hp' : tmps[p]?.getD undef = .pointer (some ⟨b, 0, none⟩) := by simpa using hp
  simp [hp', asAddr, hl]
theorem results_cells {p q : Tmp} {ty tz : TypeId} {b d : Nat} {v u : Value} (h : fn.results = #[.cell p ty, .cell q tz]) (hp : tmps.getD p undef = .pointer (some ⟨b, 0, none⟩)) (hq : tmps.getD q undef = .pointer (some ⟨d, 0, none⟩))
    (hl : (loadVar ty ⟨b, 0, none⟩).run P w = .ok v w) (hm : (loadVar tz ⟨d, 0, none⟩).run P w = .ok u w) :
    (results fn tmps).run P w = .ok (.tuple #[v, u]) w := by
  simp only [results, h]
  have hp' : tmps[p]?.getD undef = .pointer (some ⟨b, 0, none⟩) := by simpa using hp
  have hq' : tmps[q]?.getD undef = .pointer (some ⟨d, 0, none⟩) := by simpa using hq
  simp [hp', hq', asAddr, hl, hm]
theorem results_cell_tmp' {p q : Tmp} {ty : TypeId} {b : Nat} {v : Value} (h : fn.results = #[.cell p ty, .tmp q]) (hp : tmps.getD p undef = .pointer (some ⟨b, 0, none⟩)) (hl : (loadVar ty ⟨b, 0, none⟩).run P w = .ok v w) :
    (results fn tmps).run P w = .ok (.tuple #[v, tmps.getD q undef]) w := by
  rw [results_cell_tmp h]
  have hp' : tmps[p]?.getD undef = .pointer (some ⟨b, 0, none⟩) := by simpa using hp
  simp [hp', asAddr, hl]
end

/-! Rows of the call's own. -/
theorem own_keep {w w' : World} {S : Nat → Prop} {base : Nat} {e : TypeId} {size : Nat} {v : Value} {n : Nat} {xs : List Value} (h : w.ownsRow base e size v n xs) (k : Keep S w w') (hS : ∀ b, v.ownBlock = some b → ¬ S b) : w'.ownsRow base e size v n xs := by
  obtain ⟨h1, h2⟩ := h
  refine ⟨h1, ?_⟩
  rcases h2 with h2 | ⟨g, cap, cur, hv, hg, hh, r⟩
  · exact .inl h2
  · refine .inr ⟨g, cap, cur, hv, hg, ?_, r⟩
    subst hv
    exact (k.block g (lt_of_block hh) (hS g rfl)).trans hh
theorem own_row {w : World} {S : Nat → Prop} {base : Nat} {e : TypeId} {size : Nat} {v : Value} {n : Nat} {xs : List Value} (h : w.ownsRow base e size v n xs) (hS : ∀ b, base ≤ b → ¬ S b) : ∃ A c, v = .slice A n c ∧ Row w S size A n c xs := by
  rcases h.2 with ⟨rfl, rfl⟩ | ⟨g, cap, cur, rfl, hg, hh, h1, h2, h3, h4⟩
  · have : xs = [] := List.eq_nil_of_length_eq_zero (by simpa using h.1)
    subst this
    exact ⟨none, 0, rfl, Row.nil _ _ _ _ _ (Nat.zero_le _)⟩
  · refine ⟨_, cap, rfl, ⟨h.1, h1, h2, fun _ => ⟨g, 0, rfl, hS g hg, fun j u hu => ?_⟩⟩⟩
    have hc : w.cell? ⟨g, 0 + j, none⟩ = cur[0 + j]? := Blk.cell (cs := cur) (t := e) hh (0 + j)
    rw [hc, Nat.zero_add]
    rw [← h4, List.getElem?_take] at hu
    split at hu
    · simpa using hu
    · cases hu

section
variable {P : Program} {ops : Array Oper} {rest : List Oper} {op : Oper} {a : Act} {w : World} {Q : Exit → Act → World → Prop}
/-- 'append(s, x)' onto a row of the call's own, x of any number of cells. -/
theorem wpList_append1 (hgd : op.guard = none) (s x : Operand) (t e : TypeId) (ho : op.op = .call { callee := .builtin .append, args := #[s, x], argTypes := #[t, t] }) (base : Nat) (zv : Value) (size bytes : Nat)
    (ht : P.underlying t = some (.slice e)) (hinfo : (P.info? e).map (fun i => (i.zero, i.size, i.bytes)) = some (some zv, size, bytes)) (hzs : zv.cells.size = size) (hsz : 0 < size)
    (v : Value) (n : Nat) (xs : List Value) (hs : a.eval s = v) (hown : w.ownsRow base e size v n xs) (b : Nat) (us : Array Value) (hx : a.eval x = .slice (some ⟨b, 0, none⟩) 1 1) (hb : Blk w b e us) (hus : us.size = size) (h1 : ∀ u ∈ us.toList, u.oneCell' = true)
    (hn : (n + 1) * (bytes + 1) ≤ 140737488355328) (hbase : base ≤ w.heap.size)
    (h : ∀ v' w', w'.ownsRow base e size v' (n + 1) (xs ++ us.toList) → Keep (ge base) w w' → wpList P ops Q rest (a.put op.dst v') w') : wpList P ops Q (op :: rest) a w := by
  obtain ⟨i, hi, hz0, hz1, hz2⟩ := info_parts hinfo
  have hbb : (n + 1) * bytes ≤ (n + 1) * (bytes + 1) := Nat.mul_le_mul_left _ (by omega)
  have hnn : (n + 1) * 1 ≤ (n + 1) * (bytes + 1) := Nat.mul_le_mul_left _ (by omega)
  refine wpList_append_own w hgd s x t ho base e i zv size bytes ht hi hz0 hz1 hz2 hzs hsz v n xs hs hown ⟨b, 0, none⟩ 1 1 us.toList hx (by simp [hus]) (fun j u hu => ?_) h1 (by unfold maxLen; omega) (by omega) hbase fun v' w' h2 h3 _ => h v' w' h2 ?_
  · rw [Addr.add_mid, Nat.zero_add, hb.cell]
    simpa using hu
  · refine (Keep.ofGrown h3).mono fun k hk => ?_
    exact (hown.lt k hk).1
end

theorem ret_int {k : IntKind} {a b : Int} (h : a = b) : Ending.returned (.int k a) = .returned (.int k b) := by rw [h]

end Go.Proofs.YtebdgoikmclflaaGreatDoor
