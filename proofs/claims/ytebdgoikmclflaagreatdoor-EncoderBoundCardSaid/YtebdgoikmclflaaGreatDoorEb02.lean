/-
  A region that draws its order, some of whose operations make memory or call functions: one walk in the order of the text serves every order,
  if of each such operation a fact is stated that later operations leave alone. No statement of the seat is proved here.
-/
import Derived.Test.YtebdgoikmclflaaGreatDoorProg
import Derived.Deep.QuietTactic
import Derived.BigQuiet
import Derived.StillTailTactics
namespace Go.Proofs.YtebdgoikmclflaaGreatDoor

section
variable {P : Program} {ops : Array Oper}

/-- What an operation that is no call of a Go function can't do. -/
theorem run_value_ne (s : Sem Value) (w w' : World) (f : FuncId) (args : Array Value) : ((do pure (Next.value (← s))) : Sem Next).run P w ≠ .ok (.enter f args) w' := by
  rw [Sem.run_bind]
  cases s.run P w <;> simp [Result.andThen]
theorem run_unit_ne (s : Sem Unit) (w w' : World) (f : FuncId) (args : Array Value) : ((do s; pure Next.skip) : Sem Next).run P w ≠ .ok (.enter f args) w' := by
  rw [Sem.run_bind]
  cases s.run P w <;> simp [Result.andThen]

/-- The operations that may be quiet here. -/
def plainOp : Op → Bool
  | .move _ | .assign _ | .pick .. | .build .. | .load .. | .nilCheck _ | .binOp .. | .unOp .. | .convert .. | .makeInterface .. | .slice .. | .fieldAddr .. | .field .. | .indexAddr .. | .index .. | .lookup .. | .extract .. | .makeFunc .. => true
  | .call c => match c.callee with
    | .builtin b => match b with
      | .len | .cap | .min | .max => true
      | _ => false
    | _ => false
  | _ => false

theorem plain_ne {o : Oper} (h : plainOp o.op = true) (ρ : Operand → Value) (w w' : World) (f : FuncId) (args : Array Value) : (execOp ρ o).run P w ≠ .ok (.enter f args) w' := by
  obtain ⟨dst, op, type, pos, after, guard⟩ := o
  cases op <;> simp only [plainOp, Bool.false_eq_true] at h <;> simp only [execOp]
  case move => simp
  case assign => simp
  case pick c a b => rw [Sem.run_bind]; cases (asBool (ρ c)).run P w <;> simp [Result.andThen]
  case nilCheck x =>
    split
    · simp [runtimePanic]
    · simp [runtimePanic]
    · simp [runtimePanic]
    · split
      · simp [runtimePanic]
      · simp only [Sem.run_bind]
        cases Sem.run P program w with
        | halt x w1 => simp [Result.andThen]
        | ok a w1 =>
          simp only [Result.andThen_ok]
          generalize Sem.run P (nilAhead (a.types.size + Made.depth) _ _ _) w1 = r
          cases r with
          | halt x w2 => simp [Result.andThen]
          | ok b w2 =>
            simp only [Result.andThen_ok]
            split
            · simp [unsupported]
            · simp
      · simp
    · simp
  case call c =>
    obtain ⟨callee, cargs, argTypes⟩ := c
    cases callee with
    | builtin b =>
      simp only [resolve, Sem.run_bind, Sem.run_pure, Result.andThen_ok, invoke]
      cases b <;> simp at h <;> simp only [builtin] <;> exact run_value_ne _ _ _ _ _
    | invoke r m => simp at h
    | value f => simp at h
  all_goals exact run_value_ne _ _ _ _ _

/-- Operation o, carried out in the world w, gives a value v and leaves a world w' with X v w'. -/
def gives (P : Program) (o : Oper) (a : Act) (w : World) (X : Value → World → Prop) : Prop :=
  match (execOp a.eval o).run P w with
  | .ok (.value v) w' => X v w'
  | .ok .skip w' => X undef w'
  | .ok (.enter f args) w' => Calls P f args w' fun e w'' => ∃ v, e = .returned v ∧ X v w''
  | _ => False
theorem wp_of_gives {o : Oper} {a : Act} {w : World} {X : Value → World → Prop} {K : Act → World → Prop} {Q : Exit → Act → World → Prop} (h : gives P o a w X) (hK : ∀ v w', X v w' → K (a.put o.dst v) w') : o.wp P a w K Q := by
  unfold gives at h
  unfold Oper.wp
  generalize (execOp a.eval o).run P w = r at *
  cases r with
  | ok n w' =>
    cases n <;> simp only [Oper.upon] at h ⊢
    case value v => exact hK _ _ h
    case skip => exact hK _ _ h
    case enter f args =>
      refine h.mono ?_
      rintro e w'' ⟨v, rfl, hX⟩
      exact hK _ _ hX
  | halt x w' => exact h.elim
theorem gives_some {o : Oper} {a : Act} {w : World} {X : Value → World → Prop} (h : gives P o a w X) : ∃ v w', X v w' := by
  unfold gives at h
  generalize (execOp a.eval o).run P w = r at *
  cases r with
  | ok n w' =>
    cases n <;> simp only at h
    case value v => exact ⟨_, _, h⟩
    case skip => exact ⟨_, _, h⟩
    case enter f args =>
      obtain ⟨e, w'', fr, ⟨v, _, hX⟩, _⟩ := h []
      exact ⟨v, _, hX⟩
  | halt x w' => exact h.elim

/-- The values that an operation looks at. -/
def valsOf (ops : Array Oper) (o : Oper) (a : Act) : List Value := (o.looksAt ops).map fun t => a.tmps.getD t undef
/-- The value that it has left. -/
def dstVal (o : Oper) (a : Act) : Value := match o.dst with
  | some d => a.tmps.getD d undef
  | none => undef

/-- What is stated of a region: the relation between the worlds ahead of and behind an operation (R), the worlds behind n operations with an effect (G n), these operations (eff), the facts that they leave (T), for each operation those whose facts it needs (anc), and which blocks a value has for its own. -/
structure Calm where
  R : Nat → World → World → Prop
  G : Nat → World → Prop
  eff : List Nat
  T : Nat → List Value → Value → World → Prop
  anc : Nat → List Nat
  own : Nat → Value → Nat → Prop

variable (c : Calm)
/-- Operation k has an effect, and its guard says yes. -/
def Calm.on (ops : Array Oper) (k : Nat) (o : Oper) (a : Act) : Prop := c.eff.contains k = true ∧ Region.wanted o (yielded ops a.tmps) = true
/-- The fact that operation k has left, and where its own blocks lie. -/
def Calm.Fact (ops : Array Oper) (k : Nat) (a : Act) (w : World) : Prop := ∀ o, ops[k]? = some o → c.on ops k o a → c.T k (valsOf ops o a) (dstVal o a) w ∧ ∀ b, c.own k (dstVal o a) b → b < w.heap.size
/-- Two operations have no block in common. -/
def Calm.Apart (ops : Array Oper) (k k' : Nat) (a : Act) : Prop := ∀ o o', ops[k]? = some o → ops[k']? = some o' → c.on ops k o a → c.on ops k' o' a → ∀ b, c.own k (dstVal o a) b → ¬ c.own k' (dstVal o' a) b
def Calm.DF (ops : Array Oper) (listed : Array Bool) (a : Act) (w : World) : Prop :=
  (∀ k, listed.getD k false = true → c.Fact ops k a w) ∧ ∀ k k', listed.getD k false = true → listed.getD k' false = true → k ≠ k' → c.Apart ops k k' a
/-- The value that counts: none where there is no slot for it. -/
def nrm (o : Oper) (v : Value) : Value := match o.dst with
  | some _ => v
  | none => undef
theorem put_nrm (o : Oper) (a : Act) (v : Value) : a.put o.dst (nrm o v) = a.put o.dst v := by
  unfold nrm
  cases o.dst <;> rfl
theorem nrm_none {o : Oper} {v : Value} (h : o.dst = none) : nrm o v = undef := by simp [nrm, h]
/-- What operation i adds. -/
def Calm.New (ops : Array Oper) (listed : Array Bool) (i : Nat) (o : Oper) (a : Act) (v : Value) (w : World) : Prop :=
  (o.dst = none → v = undef) ∧ c.T i (valsOf ops o a) v w ∧ (∀ b, c.own i v b → b < w.heap.size) ∧ ∀ k ok, listed.getD k false = true → ops[k]? = some ok → c.on ops k ok a → ∀ b, c.own i v b → ¬ c.own k (dstVal ok a) b
def Calm.AF (ops : Array Oper) (j : Nat) (a : Act) (w : World) : Prop := ∀ k ∈ c.anc j, c.Fact ops k a w
/-- The worlds of the region. -/
def Calm.Cls : World → Prop := fun w => ∃ n, n ≤ c.eff.length ∧ c.G n w
def Calm.Sub : Type := {w // c.Cls w}
def Calm.at_ (x : c.Sub) : World := x.1
theorem Calm.at_cls (x : c.Sub) : c.Cls (c.at_ x) := x.2
/-- How many operations with an effect are done. -/
def Calm.cnt (listed : Array Bool) : Nat := c.eff.countP fun k => listed.getD k false
def Calm.StepE (P : Program) (ops : Array Oper) (i : Nat) (o : Oper) (a : Act) : Prop :=
  ∀ n w, (c.anc i).length ≤ n → n < c.eff.length → c.G n w → c.AF ops i a w → gives P o a w fun v w' => c.T i (valsOf ops o a) (nrm o v) w' ∧ c.R i w w' ∧ c.G (n + 1) w' ∧ ∀ b, c.own i (nrm o v) b → w.heap.size ≤ b ∧ b < w'.heap.size
def Calm.Quiet (P : Program) (o : Oper) (a : Act) (v : Value) : Prop := ∀ w, c.Cls w → o.quietAt P a (fun w => ∃ x : c.Sub, w = c.at_ x) w v
def Calm.V (P : Program) (ops : Array Oper) (listed : Array Bool) (i : Nat) (o : Oper) (a : Act) (v : Value) : Prop :=
  if Region.wanted o (yielded ops a.tmps) = true then
    if c.eff.contains i = true then ∃ w, c.DF ops listed a w ∧ c.New ops listed i o a v w
    else c.Quiet P o a v
  else v = undef
def Calm.Ok (P : Program) (ops : Array Oper) (i : Nat) (o : Oper) (a : Act) : Prop :=
  Region.wanted o (yielded ops a.tmps) = true → if c.eff.contains i = true then c.StepE P ops i o a else ∃ v, c.Quiet P o a v
/-- The walk, in the order that is given. -/
def Calm.walk (c : Calm) (P : Program) (ops : Array Oper) (L : Array Bool → Act → Prop) : List Nat → Array Bool → Act → Prop
  | [], listed, a => L listed a
  | i :: rest, listed, a => ∃ o, ops[i]? = some o ∧ c.Ok P ops i o a ∧ ∀ v, c.V P ops listed i o a v → c.walk P ops L rest (listed.setIfInBounds i true) (a.put o.dst v)

/-- What is asked of the region's text: hd are the operations of the head, in the walk's order. -/
def Calm.B (ops : Array Oper) (hd : List Nat) (N : Nat) : Bool :=
  decide c.eff.Nodup && c.eff.all (hd.contains ·) && decide hd.Nodup &&
  hd.all fun k => match ops[k]? with
    | some ok =>
      (if c.eff.contains k then
        (match ok.dst with | some d => decide (d < N) && !(ok.looksAt ops).contains d | none => true) &&
        hd.all fun i => i == k || Region.waitsFor .any ops k i || match ops[i]? with
          | some oi => (match oi.dst with | some d => !(ok.looksAt ops).contains d && ok.dst != some d | none => true)
          | none => true
       else plainOp ok.op) &&
      ((c.anc k).all fun m => Region.waitsFor .any ops k m || hd.any fun j => Region.waitsFor .any ops k j && (c.anc j).contains m) &&
      (decide (c.anc k).Nodup && (c.anc k).all (c.eff.contains ·))
    | none => false

/-- The order is one that the edges allow; of two operations the later one waits for the earlier, or they are apart. -/
def orderB (ops : Array Oper) : List Nat → List Nat → Bool
  | _, [] => true
  | seen, i :: rest => (match ops[i]? with
      | some oi => (oi.after.all fun e => !Region.binds .any e || seen.contains e.on) && rest.all fun j => Region.waitsFor .any ops j i || match ops[j]? with
          | some oj => oi.apart ops oj
          | none => false
      | none => false) && orderB ops (i :: seen) rest

/-- What is asked of the relation and of the facts. -/
structure Calm.Good : Prop where
  mono : ∀ n w, c.G n w → c.G (n + 1) w
  size : ∀ i w w', c.R i w w' → w.heap.size ≤ w'.heap.size
  stable : ∀ i k vs v w w', c.eff.contains k = true → i ≠ k → c.T k vs v w → c.R i w w' → c.T k vs v w'

variable {c} {hd : List Nat} {N i : Nat} {listed : Array Bool}

theorem Calm.B_at (hB : c.B ops hd N = true) {k : Nat} (hk : k ∈ hd) : ∃ ok, ops[k]? = some ok ∧
    (c.eff.contains k = true → (∀ d, ok.dst = some d → d < N ∧ d ∉ ok.looksAt ops) ∧
      ∀ i oi, i ∈ hd → i ≠ k → Region.waitsFor .any ops k i = false → ops[i]? = some oi → ∀ di, oi.dst = some di → di ∉ ok.looksAt ops ∧ ok.dst ≠ some di) ∧
    (c.eff.contains k = false → plainOp ok.op = true) ∧
    ∀ m ∈ c.anc k, Region.waitsFor .any ops k m = true ∨ ∃ j, j ∈ hd ∧ Region.waitsFor .any ops k j = true ∧ m ∈ c.anc j := by
  simp only [Calm.B, Bool.and_eq_true] at hB
  have h := List.all_eq_true.1 hB.2 k hk
  cases ho : ops[k]? with
  | none => simp [ho] at h
  | some ok =>
    simp only [ho, Bool.and_eq_true] at h
    obtain ⟨⟨h1, h2⟩, -⟩ := h
    refine ⟨ok, rfl, fun he => ?_, fun he => ?_, fun m hm => ?_⟩
    · simp only [he, if_true, Bool.and_eq_true] at h1
      obtain ⟨hd', hall⟩ := h1
      refine ⟨fun d hdst => ?_, fun i oi hin hik hw hoi di hdi => ?_⟩
      · simp only [hdst, Bool.and_eq_true, decide_eq_true_eq] at hd'
        exact ⟨hd'.1, by simpa using hd'.2⟩
      · have := List.all_eq_true.1 hall i hin
        simp only [Bool.or_eq_true, beq_iff_eq, hik, hw, false_or, Bool.false_eq_true, hoi, hdi, Bool.and_eq_true] at this
        exact ⟨by simpa using this.1, by simpa using this.2⟩
    · simpa only [he, Bool.false_eq_true, if_false] using h1
    · have := List.all_eq_true.1 h2 m hm
      simp only [Bool.or_eq_true] at this
      rcases this with h | h
      · exact .inl h
      · obtain ⟨j, hj, h⟩ := List.any_eq_true.1 h
        simp only [Bool.and_eq_true] at h
        exact .inr ⟨j, hj, h.1, by simpa using h.2⟩
theorem Calm.B_anc (hB : c.B ops hd N = true) {k : Nat} (hk : k ∈ hd) : (c.anc k).Nodup ∧ ∀ m ∈ c.anc k, m ∈ c.eff := by
  simp only [Calm.B, Bool.and_eq_true] at hB
  have h := List.all_eq_true.1 hB.2 k hk
  cases ho : ops[k]? with
  | none => simp [ho] at h
  | some ok =>
    simp only [ho, Bool.and_eq_true] at h
    obtain ⟨-, h1, h2⟩ := h
    refine ⟨by simpa using h1, fun m hm => ?_⟩
    have := List.all_eq_true.1 h2 m hm
    simpa using this
theorem sub_length : ∀ (l E : List Nat), l.Nodup → (∀ m ∈ l, m ∈ E) → l.length ≤ E.length
  | [], _, _, _ => Nat.zero_le _
  | x :: l, E, hn, hs => by
    have hx := hs x (List.mem_cons_self ..)
    have h1 := List.length_erase_of_mem hx
    have h2 : 0 < E.length := List.length_pos_of_mem hx
    have h3 := sub_length l (E.erase x) (List.nodup_cons.1 hn).2 fun m hm => (List.mem_erase_of_ne (fun e => (List.nodup_cons.1 hn).1 (by rw [← e]; exact hm))).2 (hs m (List.mem_cons_of_mem _ hm))
    simp only [List.length_cons]
    omega
theorem Calm.anc_count (hB : c.B ops hd N = true) {k : Nat} (hk : k ∈ hd) (h : ∀ m ∈ c.anc k, listed.getD m false = true) : (c.anc k).length ≤ c.cnt listed := by
  obtain ⟨h1, h2⟩ := Calm.B_anc hB hk
  rw [Calm.cnt, List.countP_eq_length_filter]
  exact sub_length _ _ h1 fun m hm => List.mem_filter.2 ⟨h2 m hm, h m hm⟩
theorem Calm.B_same (hB : c.B ops hd N = true) {k : Nat} (hk : k ∈ hd) {o : Oper} (ho : ops[k]? = some o) (he : c.eff.contains k = true) : (∀ d, o.dst = some d → d < N ∧ d ∉ o.looksAt ops) ∧
      ∀ i oi, i ∈ hd → i ≠ k → Region.waitsFor .any ops k i = false → ops[i]? = some oi → ∀ di, oi.dst = some di → di ∉ o.looksAt ops ∧ o.dst ≠ some di := by
  obtain ⟨ok, hok, h1, _⟩ := Calm.B_at hB hk
  have : ok = o := Option.some.inj (hok.symm.trans ho)
  subst this
  exact h1 he
theorem Calm.B_eff (hB : c.B ops hd N = true) {k : Nat} (he : c.eff.contains k = true) : k ∈ hd := by
  simp only [Calm.B, Bool.and_eq_true] at hB
  have := List.all_eq_true.1 hB.1.1.2 k (by simpa using he)
  simpa using this
theorem Calm.B_nodup (hB : c.B ops hd N = true) : c.eff.Nodup := by
  simp only [Calm.B, Bool.and_eq_true, decide_eq_true_eq] at hB
  exact hB.1.1.1

/-- The frame keeps its size. -/
theorem put_size (a : Act) (d : Option Tmp) (v : Value) : (a.put d v).tmps.size = a.tmps.size := by cases d <;> simp [Act.put]
theorem getD_put_ne (a : Act) {d : Option Tmp} (v : Value) {t : Tmp} (h : ∀ x, d = some x → x ≠ t) : (a.put d v).tmps.getD t undef = a.tmps.getD t undef := by
  cases d with
  | none => rfl
  | some x => simp [Act.put, Array.getElem?_setIfInBounds_ne (h x rfl)]
theorem valsOf_put {o : Oper} (a : Act) {d : Option Tmp} (v : Value) (h : ∀ x, d = some x → x ∉ o.looksAt ops) : valsOf ops o (a.put d v) = valsOf ops o a := by
  unfold valsOf
  refine List.map_congr_left fun t ht => getD_put_ne a v fun x hx e => ?_
  subst e
  exact h x hx ht
theorem dstVal_put {o : Oper} (a : Act) {d : Option Tmp} (v : Value) (h : ∀ x, d = some x → o.dst ≠ some x) : dstVal o (a.put d v) = dstVal o a := by
  unfold dstVal
  cases ho : o.dst with
  | none => rfl
  | some t => exact getD_put_ne a v fun x hx e => h x hx (by rw [ho, e])
theorem dstVal_own {o : Oper} (a : Act) (v : Value) {d : Tmp} (ho : o.dst = some d) (hd : d < a.tmps.size) : dstVal o (a.put o.dst v) = v := by
  simp [dstVal, ho, Act.put, hd]
theorem getD_own (hun : listed.getD i true = false) : (listed.setIfInBounds i true).getD i false = true := by
  have : i < listed.size := by
    rcases Nat.lt_or_ge i listed.size with h' | h'
    · exact h'
    · simp [Array.getElem?_eq_none h'] at hun
  simp [this]

theorem waits_false {k i : Nat} {ok : Oper} (hk : ops[k]? = some ok) (hno : ∀ e ∈ ok.after, Region.binds .any e = true → e.on ≠ i) : Region.waitsFor .any ops k i = false := by
  cases h : Region.waitsFor .any ops k i with
  | false => rfl
  | true =>
    obtain ⟨o', ho', e, he, hb, hon⟩ := Region.waitsFor_spec h
    have : o' = ok := Option.some.inj (ho'.symm.trans hk)
    subst this
    exact absurd hon (hno e he hb)

/-- What holds of the operations that are done: they are of the head; what they wait for, and those whose facts they need, are done. -/
structure Calm.Inv (c : Calm) (ops : Array Oper) (hd : List Nat) (listed : Array Bool) : Prop where
  size : listed.size = ops.size
  closed : ∀ j oj, ops[j]? = some oj → listed.getD j false = true → ∀ e ∈ oj.after, Region.binds .any e = true → listed.getD e.on false = true
  head : ∀ k, listed.getD k false = true → k ∈ hd
  anc : ∀ m, listed.getD m false = true → ∀ k ∈ c.anc m, listed.getD k false = true

theorem Calm.anc_ready (hB : c.B ops hd N = true) (inv : c.Inv ops hd listed) (hin : i ∈ hd) {oi : Oper} (hoi : ops[i]? = some oi) (hall : ∀ e ∈ oi.after, Region.binds .any e = true → listed.getD e.on false = true) : ∀ k ∈ c.anc i, listed.getD k false = true := by
  intro k hk
  obtain ⟨o', ho', _, _, h3⟩ := Calm.B_at hB hin
  have hdone : ∀ m, Region.waitsFor .any ops i m = true → listed.getD m false = true := fun m hm => by
    obtain ⟨o2, ho2, e, he, hb, hon⟩ := Region.waitsFor_spec hm
    have : o2 = oi := Option.some.inj (ho2.symm.trans hoi)
    subst this
    rw [← hon]
    exact hall e he hb
  rcases h3 k hk with h | ⟨j, hj, hw, hm⟩
  · exact hdone k h
  · exact inv.anc j (hdone j hw) k hm

theorem Calm.Inv.set (hB : c.B ops hd N = true) (inv : c.Inv ops hd listed) (hin : i ∈ hd) {oi : Oper} (hoi : ops[i]? = some oi) (hall : ∀ e ∈ oi.after, Region.binds .any e = true → listed.getD e.on false = true) : c.Inv ops hd (listed.setIfInBounds i true) := by
  refine ⟨by simp [inv.size], fun j oj hj hl e he hb => ?_, fun k hk => ?_, fun m hm k hk => ?_⟩
  · by_cases hij : i = j
    · subst hij
      have : oj = oi := Option.some.inj (hj.symm.trans hoi)
      subst this
      exact getD_set_true (hall e he hb)
    · rw [getD_set_ne false hij] at hl
      exact getD_set_true (inv.closed j oj hj hl e he hb)
  · by_cases hik : i = k
    · subst hik; exact hin
    · rw [getD_set_ne false hik] at hk
      exact inv.head k hk
  · by_cases him : i = m
    · subst him
      exact getD_set_true (Calm.anc_ready hB inv hin hoi hall k hk)
    · rw [getD_set_ne false him] at hm
      exact getD_set_true (inv.anc m hm k hk)

/-- The slots of an operation that is done stand whatever an operation that is not yet done leaves in its slot. -/
theorem Calm.slot_put (hB : c.B ops hd N = true) (inv : c.Inv ops hd listed) {i k : Nat} {oi ok : Oper} (hoi : ops[i]? = some oi) (hin : i ∈ hd) (hun : listed.getD i true = false) (hl : listed.getD k false = true)
    (hok : ops[k]? = some ok) (he : c.eff.contains k = true) (a : Act) (v : Value) : valsOf ops ok (a.put oi.dst v) = valsOf ops ok a ∧ dstVal ok (a.put oi.dst v) = dstVal ok a ∧ Region.wanted ok (yielded ops (a.put oi.dst v).tmps) = Region.wanted ok (yielded ops a.tmps) := by
  obtain ⟨_, hap⟩ := Calm.B_same hB (inv.head k hl) hok he
  have hik : i ≠ k := by
    rintro rfl
    rw [getD_both hun] at hl
    cases hl
  have hw : Region.waitsFor .any ops k i = false := waits_false hok fun e he hb hon => by
    have := inv.closed k ok hok hl e he hb
    rw [hon, getD_both hun] at this
    cases this
  exact ⟨valsOf_put a v fun x hx => (hap i oi hin hik hw hoi x hx).1, dstVal_put a v fun x hx => (hap i oi hin hik hw hoi x hx).2, wanted_put ok a oi.dst v fun x hx => (hap i oi hin hik hw hoi x hx).1⟩
theorem Calm.fact_put (hB : c.B ops hd N = true) (inv : c.Inv ops hd listed) {i k : Nat} {oi : Oper} (hoi : ops[i]? = some oi) (hin : i ∈ hd) (hun : listed.getD i true = false) (hl : listed.getD k false = true)
    (a : Act) (v : Value) (w : World) : c.Fact ops k (a.put oi.dst v) w ↔ c.Fact ops k a w := by
  unfold Calm.Fact Calm.on
  refine forall_congr' fun ok => forall_congr' fun hok => ?_
  by_cases he : c.eff.contains k = true
  · obtain ⟨h1, h2, h3⟩ := Calm.slot_put hB inv hoi hin hun hl hok he a v
    rw [h1, h2, h3]
  · exact ⟨fun _ h => absurd h.1 he, fun _ h => absurd h.1 he⟩
theorem Calm.af_of_df {a : Act} {w : World} (hanc : ∀ k ∈ c.anc i, listed.getD k false = true) (h : c.DF ops listed a w) : c.AF ops i a w := fun k hk => h.1 k (hanc k hk)
theorem Calm.df_later (g : c.Good) {a : Act} {w w' : World} (h : c.DF ops listed a w) (hun : listed.getD i true = false) (hR : c.R i w w') : c.DF ops listed a w' :=
  ⟨fun k hk o ho he => ⟨g.stable i k _ _ w w' he.1 (fun e => by subst e; rw [getD_both hun] at hk; cases hk) (h.1 k hk o ho he).1 hR, fun b hb => Nat.lt_of_lt_of_le ((h.1 k hk o ho he).2 b hb) (g.size i w w' hR)⟩, h.2⟩
/-- Its own slots. -/
theorem Calm.own_put (hB : c.B ops hd N = true) {i : Nat} {oi : Oper} (hoi : ops[i]? = some oi) (hin : i ∈ hd) (he : c.eff.contains i = true) {a : Act} (hN : a.tmps.size = N) (v : Value) (hv : oi.dst = none → v = undef) : valsOf ops oi (a.put oi.dst v) = valsOf ops oi a ∧ dstVal oi (a.put oi.dst v) = v ∧ Region.wanted oi (yielded ops (a.put oi.dst v).tmps) = Region.wanted oi (yielded ops a.tmps) := by
  obtain ⟨h1, _⟩ := Calm.B_same hB hin hoi he
  refine ⟨valsOf_put a v (fun x hx => (h1 x hx).2), ?_, wanted_put oi a oi.dst v (fun x hx => (h1 x hx).2)⟩
  cases hd' : oi.dst with
  | none => rw [hv hd']; simp [dstVal, hd']
  | some d =>
    have := dstVal_own a v hd' (by rw [hN]; exact (h1 d hd').1)
    rw [hd'] at this
    exact this

/-- The facts behind operation i. -/
theorem Calm.df_set (hB : c.B ops hd N = true) (inv : c.Inv ops hd listed) {i : Nat} {oi : Oper} (hoi : ops[i]? = some oi) (hin : i ∈ hd) (hun : listed.getD i true = false) {a : Act} (hN : a.tmps.size = N) {v : Value} {w : World}
    (h : c.DF ops listed a w) (hT : c.on ops i oi a → c.New ops listed i oi a v w) : c.DF ops (listed.setIfInBounds i true) (a.put oi.dst v) w := by
  have key : ∀ k ok, i ≠ k → (listed.setIfInBounds i true).getD k false = true → ops[k]? = some ok → c.on ops k ok (a.put oi.dst v) → listed.getD k false = true ∧ dstVal ok (a.put oi.dst v) = dstVal ok a ∧ c.on ops k ok a := by
    intro k ok hik hk hok he
    rw [getD_set_ne false hik] at hk
    obtain ⟨_, h2, h3⟩ := Calm.slot_put hB inv hoi hin hun hk hok he.1 a v
    exact ⟨hk, h2, he.1, by rw [← h3]; exact he.2⟩
  have own : ∀ o, ops[i]? = some o → c.on ops i o (a.put oi.dst v) → o = oi ∧ valsOf ops o (a.put oi.dst v) = valsOf ops oi a ∧ dstVal o (a.put oi.dst v) = v ∧ c.New ops listed i oi a v w := by
    intro o ho he
    have : o = oi := Option.some.inj (ho.symm.trans hoi)
    subst this
    obtain ⟨h1, _⟩ := Calm.B_same hB hin hoi he.1
    have h3 := wanted_put o a o.dst v (fun x hx => (h1 x hx).2)
    have hn := hT ⟨he.1, by rw [← h3]; exact he.2⟩
    obtain ⟨h1, h2, _⟩ := Calm.own_put hB hoi hin he.1 hN v hn.1
    exact ⟨rfl, h1, h2, hn⟩
  refine ⟨fun k hk => ?_, fun k k' hk hk' hne o o' ho ho' he he' b hb => ?_⟩
  · by_cases hik : i = k
    · subst hik
      intro o ho he
      obtain ⟨_, h1, h2, hn⟩ := own o ho he
      rw [h1, h2]
      exact ⟨hn.2.1, hn.2.2.1⟩
    · rw [getD_set_ne false hik] at hk
      exact (Calm.fact_put hB inv hoi hin hun hk a v w).2 (h.1 k hk)
  · by_cases hik : i = k
    · subst hik
      obtain ⟨_, _, h2, hn⟩ := own o ho he
      obtain ⟨hl', hd', he''⟩ := key k' o' hne hk' ho' he'
      rw [h2] at hb
      rw [hd']
      exact hn.2.2.2 k' o' hl' ho' he'' b hb
    · obtain ⟨hl, hd', he''⟩ := key k o hik hk ho he
      rw [hd'] at hb
      by_cases hik' : i = k'
      · subst hik'
        obtain ⟨_, _, h2, hn⟩ := own o' ho' he'
        rw [h2]
        exact fun hb' => hn.2.2.2 k o hl ho he'' b hb' hb
      · obtain ⟨hl', hd'', he3⟩ := key k' o' hik' hk' ho' he'
        rw [hd'']
        exact h.2 k k' hl hl' hne o o' ho ho' he'' he3 b hb
/-- .. and back. -/
theorem Calm.df_unset (hB : c.B ops hd N = true) (inv : c.Inv ops hd listed) {i : Nat} {oi : Oper} (hoi : ops[i]? = some oi) (hin : i ∈ hd) (hun : listed.getD i true = false) {a : Act} (hN : a.tmps.size = N) {v : Value} (hv : c.on ops i oi a → oi.dst = none → v = undef) {w : World}
    (h : c.DF ops (listed.setIfInBounds i true) (a.put oi.dst v) w) : c.DF ops listed a w ∧ (c.on ops i oi a → c.New ops listed i oi a v w) := by
  have key : ∀ k ok, listed.getD k false = true → ops[k]? = some ok → c.on ops k ok a → dstVal ok (a.put oi.dst v) = dstVal ok a ∧ c.on ops k ok (a.put oi.dst v) := fun k ok hk hok he => by
    obtain ⟨_, h2, h3⟩ := Calm.slot_put hB inv hoi hin hun hk hok he.1 a v
    exact ⟨h2, he.1, by rw [h3]; exact he.2⟩
  refine ⟨⟨fun k hk => ?_, fun k k' hk hk' hne o o' ho ho' he he' b hb => ?_⟩, fun he => ?_⟩
  · exact (Calm.fact_put hB inv hoi hin hun hk a v w).1 (h.1 k (getD_set_true hk))
  · obtain ⟨d1, e1⟩ := key k o hk ho he
    obtain ⟨d2, e2⟩ := key k' o' hk' ho' he'
    have := h.2 k k' (getD_set_true hk) (getD_set_true hk') hne o o' ho ho' e1 e2 b
    rw [d1, d2] at this
    exact this hb
  · obtain ⟨h1, h2, h3⟩ := Calm.own_put hB hoi hin he.1 hN v (hv he)
    have he' : c.on ops i oi (a.put oi.dst v) := ⟨he.1, by rw [h3]; exact he.2⟩
    obtain ⟨hf, hf2⟩ := h.1 i (getD_own hun) oi hoi he'
    rw [h1, h2] at hf
    rw [h2] at hf2
    refine ⟨hv he, hf, hf2, fun k ok hk hok hek b hb => ?_⟩
    have hik : i ≠ k := by
      rintro rfl
      rw [getD_both hun] at hk
      cases hk
    obtain ⟨d1, e1⟩ := key k ok hk hok hek
    have := h.2 i k (getD_own hun) (getD_set_true hk) hik oi ok hoi hok he' e1 b
    rw [h2, d1] at this
    exact this hb
theorem Calm.new_of {o : Oper} {a : Act} {v : Value} {w w' : World} (hD : c.DF ops listed a w) (hT : c.T i (valsOf ops o a) (nrm o v) w') (hown : ∀ b, c.own i (nrm o v) b → w.heap.size ≤ b ∧ b < w'.heap.size) : c.New ops listed i o a (nrm o v) w' :=
  ⟨nrm_none, hT, fun b hb => (hown b hb).2, fun k ok hk hok hek b hb hb' => by
    have h1 := (hown b hb).1
    have h2 := (hD.1 k hk ok hok hek).2 b hb'
    omega⟩

/-! The count. -/
theorem countP_set (l : List Nat) (hn : l.Nodup) (hun : listed.getD i true = false) : l.countP (fun k => (listed.setIfInBounds i true).getD k false) = l.countP (fun k => listed.getD k false) + if l.contains i then 1 else 0 := by
  induction l with
  | nil => simp
  | cons x l ih =>
    have hnx := (List.nodup_cons.1 hn).1
    have ih := ih (List.nodup_cons.1 hn).2
    rw [List.countP_cons, List.countP_cons, ih]
    by_cases hx : i = x
    · subst hx
      have h1 : (listed.setIfInBounds i true).getD i false = true := getD_own hun
      have h2 : listed.getD i false = false := getD_both hun
      have h3 : l.contains i = false := by simpa using hnx
      have h4 : (i :: l).contains i = true := by simp
      rw [h1, h2, h3, h4]
    · rw [getD_set_ne false hx]
      have h4 : (x :: l).contains i = l.contains i := by simp [hx]
      rw [h4]
      omega
theorem Calm.cnt_set (hB : c.B ops hd N = true) (hun : listed.getD i true = false) : c.cnt (listed.setIfInBounds i true) = c.cnt listed + if c.eff.contains i then 1 else 0 := countP_set _ (Calm.B_nodup hB) hun
theorem countP_lt (l : List Nat) (hi : i ∈ l) (hun : listed.getD i true = false) : l.countP (fun k => listed.getD k false) < l.length := by
  rw [Nat.lt_iff_le_and_ne]
  refine ⟨List.countP_le_length, fun h => ?_⟩
  have := (List.countP_eq_length (p := fun k => listed.getD k false)).1 h i hi
  rw [getD_both hun] at this
  cases this
theorem Calm.cnt_lt (he : c.eff.contains i = true) (hun : listed.getD i true = false) : c.cnt listed < c.eff.length := countP_lt _ (by simpa using he) hun
theorem Calm.cls_of {w : World} (h : c.G (c.cnt listed) w) : c.Cls w := ⟨_, List.countP_le_length, h⟩

theorem quiet_unique {o : Oper} {a : Act} (hp : plainOp o.op = true) {C : World → Prop} {w : World} {v u : Value} (h : o.quietAt P a C w v) (h' : o.quietAt P a C w u) : v = u := by
  have hne := plain_ne (P := P) hp a.eval w
  unfold Oper.quietAt at *
  generalize (execOp a.eval o).run P w = r at *
  cases r with
  | halt x w' => simp only [Oper.quietUpon] at h
  | ok x w' =>
    cases x <;> simp only [Oper.quietUpon] at h h'
    case value z => exact h.2.symm.trans h'.2
    case skip => exact h.2.trans h'.2.symm
    case enter f args => exact absurd rfl (hne w' f args)

/-- An operation of the head, carried out: what it comes to. -/
theorem Calm.comes (gd : c.Good) (hB : c.B ops hd N = true) (inv : c.Inv ops hd listed) {o : Oper} (hin : i ∈ hd) (hoi : ops[i]? = some o) (hall : ∀ e ∈ o.after, Region.binds .any e = true → listed.getD e.on false = true) (hun : listed.getD i true = false)
    {a : Act} (hN : a.tmps.size = N) {w : World} (hG : c.G (c.cnt listed) w) (hD : c.DF ops listed a w) (hok : c.Ok P ops i o a) {K : Act → World → Prop} {Q : Exit → Act → World → Prop}
    (hK : ∀ v w', c.V P ops listed i o a v → c.G (c.cnt (listed.setIfInBounds i true)) w' → c.DF ops (listed.setIfInBounds i true) (a.put o.dst v) w' → K (a.put o.dst v) w') :
    (∃ v w', c.V P ops listed i o a v ∧ c.G (c.cnt (listed.setIfInBounds i true)) w' ∧ c.DF ops (listed.setIfInBounds i true) (a.put o.dst v) w') ∧
    (if Region.wanted o (yielded ops a.tmps) then o.wp P a w K Q ∨ (o.asks P a w ∧ LetsOut Q) else K (a.put o.dst undef) w) := by
  have hanc := Calm.anc_ready hB inv hin hoi hall
  by_cases hw : Region.wanted o (yielded ops a.tmps) = true
  · rw [if_pos hw]
    have hok := hok hw
    by_cases he : c.eff.contains i = true
    · rw [if_pos he] at hok
      have hg := hok (c.cnt listed) w (Calm.anc_count hB hin hanc) (Calm.cnt_lt he hun) hG (Calm.af_of_df hanc hD)
      have hfin : ∀ v w', (c.T i (valsOf ops o a) (nrm o v) w' ∧ c.R i w w' ∧ c.G (c.cnt listed + 1) w' ∧ ∀ b, c.own i (nrm o v) b → w.heap.size ≤ b ∧ b < w'.heap.size) →
          c.V P ops listed i o a (nrm o v) ∧ c.G (c.cnt (listed.setIfInBounds i true)) w' ∧ c.DF ops (listed.setIfInBounds i true) (a.put o.dst (nrm o v)) w' := by
        rintro v w' ⟨hT, hR', hG', hown⟩
        have hD2 := Calm.df_later gd hD hun hR'
        have hnew : c.New ops listed i o a (nrm o v) w' := Calm.new_of hD hT hown
        refine ⟨by rw [Calm.V, if_pos hw, if_pos he]; exact ⟨w', hD2, hnew⟩, ?_, Calm.df_set hB inv hoi hin hun hN hD2 fun _ => hnew⟩
        rw [Calm.cnt_set hB hun, if_pos he]
        exact hG'
      refine ⟨?_, .inl (wp_of_gives hg fun v w' h => ?_)⟩
      · obtain ⟨v, w', h⟩ := gives_some hg
        exact ⟨nrm o v, w', hfin v w' h⟩
      · obtain ⟨h1, h2, h3⟩ := hfin v w' h
        rw [← put_nrm]
        exact hK _ w' h1 h2 h3
    · rw [if_neg he] at hok
      obtain ⟨v, hq⟩ := hok
      obtain ⟨o', ho', _, hpl, _⟩ := Calm.B_at hB hin
      have : o' = o := Option.some.inj (ho'.symm.trans hoi)
      subst this
      have hV : c.V P ops listed i o' a v := by rw [Calm.V, if_pos hw, if_neg he]; exact hq
      have hG' : c.G (c.cnt (listed.setIfInBounds i true)) w := by rw [Calm.cnt_set hB hun, if_neg he]; exact hG
      have hD' := Calm.df_set (v := v) hB inv hoi hin hun hN hD fun h => absurd h.1 he
      have hq := hq w (Calm.cls_of hG)
      have hne := plain_ne (P := P) (hpl (by simpa using he)) a.eval w
      have hfin := hK v w hV hG' hD'
      refine ⟨⟨v, w, hV, hG', hD'⟩, .inl ?_⟩
      unfold Oper.quietAt at hq
      unfold Oper.wp
      generalize (execOp a.eval o').run P w = r at *
      cases r with
      | halt x w' => simp only [Oper.quietUpon] at hq
      | ok x w' =>
        cases x <;> simp only [Oper.quietUpon] at hq <;> simp only [Oper.upon]
        case value u =>
          obtain ⟨e1, e2⟩ := hq
          rw [e1, e2]
          exact hfin
        case skip =>
          obtain ⟨e1, e2⟩ := hq
          rw [e1, ← e2]
          exact hfin
        case enter f args => exact absurd rfl (hne w' f args)
  · rw [if_neg hw]
    have hV : c.V P ops listed i o a undef := by rw [Calm.V, if_neg hw]
    have hG' : c.G (c.cnt (listed.setIfInBounds i true)) w := by
      rw [Calm.cnt_set hB hun]
      split
      · exact gd.mono _ _ hG
      · exact hG
    have hD' := Calm.df_set (v := undef) hB inv hoi hin hun hN hD fun h => absurd h.2 hw
    exact ⟨⟨undef, w, hV, hG', hD'⟩, hK undef w hV hG' hD'⟩

section put
variable {j : Nat} {oi oj : Oper} {a : Act} {v : Value}
theorem gives_put (hs : ∀ cs b, oj.op ≠ .select cs b) (h1 : ∀ d, oi.dst = some d → d ∉ oj.looksAt ops) (w : World) (X : Value → World → Prop) : gives P oj (a.put oi.dst v) w X ↔ gives P oj a w X := by
  unfold gives
  rw [execOp_put oj hs a oi.dst v h1]
theorem Calm.quiet_put (hs : ∀ cs b, oj.op ≠ .select cs b) (h1 : ∀ d, oi.dst = some d → d ∉ oj.looksAt ops) (u : Value) : c.Quiet P oj (a.put oi.dst v) u ↔ c.Quiet P oj a u := by
  unfold Calm.Quiet Oper.quietAt
  rw [execOp_put oj hs a oi.dst v h1]
/-- What operation j needs and does is not turned by the slot of an operation i that is apart from it and not yet done. -/
theorem Calm.ok_put (hB : c.B ops hd N = true) (inv : c.Inv ops hd listed) (hoi : ops[i]? = some oi) (hin : i ∈ hd) (hun : listed.getD i true = false) (hanc : ∀ k ∈ c.anc j, listed.getD k false = true)
    (hs : ∀ cs b, oj.op ≠ .select cs b) (h1 : ∀ d, oi.dst = some d → d ∉ oj.looksAt ops) : c.Ok P ops j oj (a.put oi.dst v) ↔ c.Ok P ops j oj a := by
  unfold Calm.Ok Calm.StepE
  rw [wanted_put oj a oi.dst v h1]
  refine forall_congr' fun _ => ?_
  split
  · refine forall_congr' fun n => forall_congr' fun w => forall_congr' fun _ => forall_congr' fun _ => forall_congr' fun _ => ?_
    have haf : c.AF ops j (a.put oi.dst v) w ↔ c.AF ops j a w := forall_congr' fun k => forall_congr' fun hk => Calm.fact_put hB inv hoi hin hun (hanc k hk) a v w
    rw [haf, gives_put hs h1, valsOf_put a v h1]
  · exact exists_congr fun u => Calm.quiet_put hs h1 u
/-- A value that operation j can have behind operation i it can have ahead of it. -/
theorem Calm.V_unput (hB : c.B ops hd N = true) (inv : c.Inv ops hd listed) (hoi : ops[i]? = some oi) (hin : i ∈ hd) (hun : listed.getD i true = false) (hN : a.tmps.size = N) (hv : c.on ops i oi a → oi.dst = none → v = undef)
    (hs : ∀ cs b, oj.op ≠ .select cs b) (h1 : ∀ d, oi.dst = some d → d ∉ oj.looksAt ops) {u : Value} (h : c.V P ops (listed.setIfInBounds i true) j oj (a.put oi.dst v) u) : c.V P ops listed j oj a u := by
  unfold Calm.V at h ⊢
  rw [wanted_put oj a oi.dst v h1] at h
  split at h
  · rename_i hw
    rw [if_pos hw]
    split at h
    · rename_i he
      rw [if_pos he]
      obtain ⟨w1, hD1, hT0, hT1, hT2, hT3⟩ := h
      rw [valsOf_put a v h1] at hT1
      refine ⟨w1, (Calm.df_unset hB inv hoi hin hun hN hv hD1).1, hT0, hT1, hT2, fun k ok hk hok hek => ?_⟩
      obtain ⟨_, s2, s3⟩ := Calm.slot_put hB inv hoi hin hun hk hok hek.1 a v
      have := hT3 k ok (getD_set_true hk) hok ⟨hek.1, by rw [s3]; exact hek.2⟩
      rw [s2] at this
      exact this
    · rename_i he
      rw [if_neg he]
      exact (Calm.quiet_put hs h1 u).1 h
  · rename_i hw
    rw [if_neg hw]
    exact h
/-- If j can have u now, and i can have v behind that, then j can have u behind i's v. -/
theorem Calm.V_swap (hB : c.B ops hd N = true) (inv : c.Inv ops hd listed) (hoi : ops[i]? = some oi) (hin : i ∈ hd) (hun : listed.getD i true = false) (hoj : ops[j]? = some oj) (hjn : j ∈ hd) (hjun : listed.getD j true = false) (hN : a.tmps.size = N)
    (hsj : ∀ cs b, oj.op ≠ .select cs b) (h1 : ∀ d, oi.dst = some d → d ∉ oj.looksAt ops) (h3 : ∀ d, oj.dst = some d → d ∉ oi.looksAt ops) {u : Value}
    (hu : c.V P ops listed j oj a u) (hv : c.V P ops (listed.setIfInBounds j true) i oi (a.put oj.dst u) v) : c.V P ops (listed.setIfInBounds i true) j oj (a.put oi.dst v) u := by
  unfold Calm.V at hu ⊢
  rw [wanted_put oj a oi.dst v h1]
  by_cases hwj : Region.wanted oj (yielded ops a.tmps) = true
  · rw [if_pos hwj] at hu ⊢
    by_cases hej : c.eff.contains j = true
    · rw [if_pos hej] at hu ⊢
      by_cases hei : c.on ops i oi a
      · have hwi : Region.wanted oi (yielded ops (a.put oj.dst u).tmps) = true := by rw [wanted_put oi a oj.dst u h3]; exact hei.2
        unfold Calm.V at hv
        rw [if_pos hwi, if_pos hei.1] at hv
        obtain ⟨w1, hD1, hT0, hT1, hT2, hT3⟩ := hv
        obtain ⟨_, _, hu0, _⟩ := hu
        obtain ⟨hD2, hTj⟩ := Calm.df_unset hB inv hoj hjn hjun hN (fun _ => hu0) hD1
        rw [valsOf_put a u h3] at hT1
        have hNi : c.New ops listed i oi a v w1 := ⟨hT0, hT1, hT2, fun k ok hk hok hek => by
          obtain ⟨_, s2, s3⟩ := Calm.slot_put hB inv hoj hjn hjun hk hok hek.1 a u
          have := hT3 k ok (getD_set_true hk) hok ⟨hek.1, by rw [s3]; exact hek.2⟩
          rw [s2] at this
          exact this⟩
        obtain ⟨_, hj1, hj2, hj3⟩ := hTj ⟨hej, hwj⟩
        refine ⟨w1, Calm.df_set hB inv hoi hin hun hN hD2 fun _ => hNi, hu0, by rw [valsOf_put a v h1]; exact hj1, hj2, fun k ok hk hok hek b hb => ?_⟩
        by_cases hik : i = k
        · subst hik
          have : ok = oi := Option.some.inj (hok.symm.trans hoi)
          subst this
          rw [(Calm.own_put hB hoi hin hei.1 hN v hT0).2.1]
          intro hb'
          obtain ⟨_, s2, s3⟩ := Calm.own_put hB hoj hjn hej hN u hu0
          have := hT3 j oj (getD_own hjun) hoj ⟨hej, by rw [s3]; exact hwj⟩ b hb'
          rw [s2] at this
          exact this hb
        · rw [getD_set_ne false hik] at hk
          obtain ⟨_, s2, s3⟩ := Calm.slot_put hB inv hoi hin hun hk hok hek.1 a v
          rw [s2]
          exact hj3 k ok hk hok ⟨hek.1, by rw [← s3]; exact hek.2⟩ b hb
      · obtain ⟨w1, hD1, hu0, hj1, hj2, hj3⟩ := hu
        refine ⟨w1, Calm.df_set hB inv hoi hin hun hN hD1 fun h => absurd h hei, hu0, by rw [valsOf_put a v h1]; exact hj1, hj2, fun k ok hk hok hek b hb => ?_⟩
        have hik : i ≠ k := by
          rintro rfl
          have : ok = oi := Option.some.inj (hok.symm.trans hoi)
          subst this
          obtain ⟨hz, _⟩ := Calm.B_same hB hin hoi hek.1
          exact hei ⟨hek.1, by rw [← wanted_put ok a ok.dst v (fun x hx => (hz x hx).2)]; exact hek.2⟩
        rw [getD_set_ne false hik] at hk
        obtain ⟨_, s2, s3⟩ := Calm.slot_put hB inv hoi hin hun hk hok hek.1 a v
        rw [s2]
        exact hj3 k ok hk hok ⟨hek.1, by rw [← s3]; exact hek.2⟩ b hb
    · rw [if_neg hej] at hu ⊢
      exact (Calm.quiet_put hsj h1 u).2 hu
  · rw [if_neg hwj] at hu ⊢
    exact hu
end put

/-- The order, as the proofs use it. -/
theorem orderB_cons {seen rest : List Nat} (h : orderB ops seen (i :: rest) = true) : ∃ oi, ops[i]? = some oi ∧ (∀ e ∈ oi.after, Region.binds .any e = true → e.on ∈ seen) ∧
    (∀ j ∈ rest, Region.waitsFor .any ops j i = true ∨ ∃ oj, ops[j]? = some oj ∧ oi.apart ops oj = true) ∧ orderB ops (i :: seen) rest = true := by
  simp only [orderB, Bool.and_eq_true] at h
  obtain ⟨h1, h2⟩ := h
  cases ho : ops[i]? with
  | none => simp [ho] at h1
  | some oi =>
    simp only [ho, Bool.and_eq_true] at h1
    refine ⟨oi, rfl, fun e he hb => ?_, fun j hj => ?_, h2⟩
    · have := Array.all_eq_true_iff_forall_mem.1 h1.1 e he
      simp only [hb, Bool.not_true, Bool.false_or] at this
      simpa using this
    · have := List.all_eq_true.1 h1.2 j hj
      simp only [Bool.or_eq_true] at this
      rcases this with h | h
      · exact .inl h
      · cases hoj : ops[j]? with
        | none => simp [hoj] at h
        | some oj => exact .inr ⟨oj, rfl, by simpa [hoj] using h⟩

section moves
variable {L : Array Bool → Act → Prop} {j : Nat} {oj : Oper}
/-- What is done of the walk's order: 'seen'; the rest is not done. -/
structure Rest (listed : Array Bool) (seen l : List Nat) : Prop where
  done : ∀ k ∈ seen, listed.getD k false = true
  not : ∀ k ∈ l, listed.getD k true = false
  nodup : l.Nodup
theorem Rest.step {seen l : List Nat} (h : Rest listed seen (i :: l)) : Rest (listed.setIfInBounds i true) (i :: seen) l := by
  have hn := List.nodup_cons.1 h.nodup
  refine ⟨fun k hk => ?_, fun k hk => ?_, hn.2⟩
  · rcases List.mem_cons.1 hk with rfl | hk
    · exact getD_own (h.not _ (List.mem_cons_self ..))
    · exact getD_set_true (h.done k hk)
  · rw [getD_set_ne true (fun e : i = k => hn.1 (by rw [e]; exact hk))]
    exact h.not k (List.mem_cons_of_mem _ hk)

/-- OPERATION j, READY NOW, MAY BE TAKEN FIRST: it goes through .. -/
theorem Calm.takes (gd : c.Good) (hB : c.B ops hd N = true) (hsel : ∀ (j : Nat) (o : Oper) cs b, ops[j]? = some o → o.op ≠ .select cs b) (hoj : ops[j]? = some oj) :
    ∀ (l seen : List Nat) (listed : Array Bool) (a : Act) (w : World), (∀ k ∈ l, k ∈ hd) → orderB ops seen l = true → Rest listed seen l → c.Inv ops hd listed → a.tmps.size = N → c.G (c.cnt listed) w → c.DF ops listed a w →
      c.walk P ops L l listed a → j ∈ l → (∀ e ∈ oj.after, Region.binds .any e = true → listed.getD e.on false = true) → c.Ok P ops j oj a
  | [], _, _, _, _, _, _, _, _, _, _, _, _, hj, _ => by cases hj
  | i :: l, seen, listed, a, w, hhd, hord, hrest, inv, hN, hG, hD, hwalk, hj, hallj => by
    obtain ⟨o, ho, hok, hv⟩ := hwalk
    by_cases hij : i = j
    · subst hij
      have : o = oj := Option.some.inj (ho.symm.trans hoj)
      subst this
      exact hok
    · have hjl : j ∈ l := by rcases List.mem_cons.1 hj with h | h; exact absurd h.symm hij; exact h
      obtain ⟨oi, hoi, hseen, hpair, hord'⟩ := orderB_cons hord
      have : oi = o := Option.some.inj (hoi.symm.trans ho)
      subst this
      have hin := hhd i (List.mem_cons_self ..)
      have hun := hrest.not i (List.mem_cons_self ..)
      have hall : ∀ e ∈ oi.after, Region.binds .any e = true → listed.getD e.on false = true := fun e he hb => hrest.done _ (hseen e he hb)
      obtain ⟨⟨v, w', hV, hG', hD'⟩, _⟩ := Calm.comes (K := fun _ _ => True) (Q := fun _ _ _ => True) gd hB inv hin hoi hall hun hN hG hD hok (fun _ _ _ _ _ => trivial)
      have h2 := Calm.takes gd hB hsel hoj l (i :: seen) _ _ w' (fun k hk => hhd k (List.mem_cons_of_mem _ hk)) hord' hrest.step (inv.set hB hin hoi hall) (by rw [put_size]; exact hN) hG' hD' (hv v hV) hjl
        (fun e he hb => getD_set_true (hallj e he hb))
      have hnw : Region.waitsFor .any ops j i = false := waits_false hoj fun e he hb hon => by
        have := hallj e he hb
        rw [hon, getD_both hun] at this
        cases this
      have hap : oi.apart ops oj = true := by
        rcases hpair j hjl with h | ⟨oj', hoj', h⟩
        · rw [hnw] at h; cases h
        · have : oj' = oj := Option.some.inj (hoj'.symm.trans hoj)
          subst this
          exact h
      exact (Calm.ok_put hB inv hoi hin hun (Calm.anc_ready hB inv (hhd j hj) hoj hallj) (fun cs b => hsel j oj cs b hoj) (Oper.apart_spec hap).1).1 h2

/-- .. and what is left of the walk stands behind it. -/
theorem Calm.leaves (hB : c.B ops hd N = true) (hsel : ∀ (j : Nat) (o : Oper) cs b, ops[j]? = some o → o.op ≠ .select cs b) (hoj : ops[j]? = some oj) :
    ∀ (l seen : List Nat) (listed : Array Bool) (a : Act), (∀ k ∈ l, k ∈ hd) → orderB ops seen l = true → Rest listed seen l → c.Inv ops hd listed → a.tmps.size = N →
      c.walk P ops L l listed a → j ∈ l → (∀ e ∈ oj.after, Region.binds .any e = true → listed.getD e.on false = true) → ∀ u, c.V P ops listed j oj a u → c.walk P ops L (l.erase j) (listed.setIfInBounds j true) (a.put oj.dst u)
  | [], _, _, _, _, _, _, _, _, _, hj, _, _, _ => by cases hj
  | i :: l, seen, listed, a, hhd, hord, hrest, inv, hN, hwalk, hj, hallj, u, hu => by
    obtain ⟨o, ho, hok, hv⟩ := hwalk
    by_cases hij : i = j
    · subst hij
      have : o = oj := Option.some.inj (ho.symm.trans hoj)
      subst this
      rw [List.erase_cons_head]
      exact hv u hu
    · have hjl : j ∈ l := by rcases List.mem_cons.1 hj with h | h; exact absurd h.symm hij; exact h
      obtain ⟨oi, hoi, hseen, hpair, hord'⟩ := orderB_cons hord
      have : oi = o := Option.some.inj (hoi.symm.trans ho)
      subst this
      have hin := hhd i (List.mem_cons_self ..)
      have hjn := hhd j hj
      have hun := hrest.not i (List.mem_cons_self ..)
      have hjun := hrest.not j hj
      have hall : ∀ e ∈ oi.after, Region.binds .any e = true → listed.getD e.on false = true := fun e he hb => hrest.done _ (hseen e he hb)
      have hnw : Region.waitsFor .any ops j i = false := waits_false hoj fun e he hb hon => by
        have := hallj e he hb
        rw [hon, getD_both hun] at this
        cases this
      have hap : oi.apart ops oj = true := by
        rcases hpair j hjl with h | ⟨oj', hoj', h⟩
        · rw [hnw] at h; cases h
        · have : oj' = oj := Option.some.inj (hoj'.symm.trans hoj)
          subst this
          exact h
      obtain ⟨a1, a2, a3⟩ := Oper.apart_spec hap
      have hsi := fun cs b => hsel i oi cs b hoi
      have hsj := fun cs b => hsel j oj cs b hoj
      rw [List.erase_cons_tail (by simpa using hij)]
      refine ⟨oi, hoi, (Calm.ok_put hB inv hoj hjn hjun (Calm.anc_ready hB inv hin hoi hall) hsi a3).2 hok, fun v hv' => ?_⟩
      have hVi := Calm.V_unput hB inv hoj hjn hjun hN (fun hon => by
        unfold Calm.V at hu
        rw [if_pos hon.2, if_pos hon.1] at hu
        obtain ⟨_, _, h0, _⟩ := hu
        exact h0) hsi a3 hv'
      have hVj := Calm.V_swap hB inv hoi hin hun hoj hjn hjun hN hsj a1 a3 hu hv'
      have := Calm.leaves hB hsel hoj l (i :: seen) _ _ (fun k hk => hhd k (List.mem_cons_of_mem _ hk)) hord' hrest.step (inv.set hB hin hoi hall) (by rw [put_size]; exact hN) (hv v hVi) hjl (fun e he hb => getD_set_true (hallj e he hb)) u hVj
      rw [Array.setIfInBounds_comm _ _ hij, Act.put_comm a v u a2] at this
      exact this

/-- What is left of the order is one still. -/
theorem orderB_mono : ∀ (l seen seen' : List Nat), (∀ k ∈ seen, k ∈ seen') → orderB ops seen l = true → orderB ops seen' l = true
  | [], _, _, _, _ => rfl
  | i :: l, seen, seen', hs, h => by
    simp only [orderB, Bool.and_eq_true] at h ⊢
    refine ⟨?_, orderB_mono l (i :: seen) (i :: seen') (fun k hk => ?_) h.2⟩
    · cases ho : ops[i]? with
      | none => simp [ho] at h
      | some oi =>
        simp only [ho, Bool.and_eq_true] at h ⊢
        refine ⟨Array.all_eq_true_iff_forall_mem.2 fun e he => ?_, h.1.2⟩
        have := Array.all_eq_true_iff_forall_mem.1 h.1.1 e he
        simp only [Bool.or_eq_true] at this ⊢
        exact this.imp id fun h => by have := hs e.on (by simpa using h); simpa using this
    · rcases List.mem_cons.1 hk with rfl | hk
      · exact List.mem_cons_self ..
      · exact List.mem_cons_of_mem _ (hs k hk)
theorem orderB_erase : ∀ (l seen : List Nat), orderB ops seen l = true → orderB ops (j :: seen) (l.erase j) = true
  | [], _, _ => rfl
  | i :: l, seen, h => by
    by_cases hij : i = j
    · subst hij
      rw [List.erase_cons_head]
      simp only [orderB, Bool.and_eq_true] at h
      exact h.2
    · rw [List.erase_cons_tail (by simpa using hij)]
      simp only [orderB, Bool.and_eq_true] at h ⊢
      refine ⟨?_, ?_⟩
      · cases ho : ops[i]? with
        | none => simp [ho] at h
        | some oi =>
          simp only [ho, Bool.and_eq_true] at h ⊢
          refine ⟨Array.all_eq_true_iff_forall_mem.2 fun e he => ?_, List.all_eq_true.2 fun k hk => List.all_eq_true.1 h.1.2 k (List.mem_of_mem_erase hk)⟩
          have := Array.all_eq_true_iff_forall_mem.1 h.1.1 e he
          simp only [Bool.or_eq_true] at this ⊢
          exact this.imp id fun h => by simp at h ⊢; exact .inr h
      · exact orderB_mono _ _ _ (fun k hk => by simp at hk ⊢; rcases hk with h | h | h <;> simp [h]) (orderB_erase l (i :: seen) h.2)
theorem Rest.take {seen l : List Nat} (h : Rest listed seen l) (hj : j ∈ l) : Rest (listed.setIfInBounds j true) (j :: seen) (l.erase j) := by
  refine ⟨fun k hk => ?_, fun k hk => ?_, h.nodup.erase j⟩
  · rcases List.mem_cons.1 hk with rfl | hk
    · exact getD_own (h.not _ hj)
    · exact getD_set_true (h.done k hk)
  · have hkl := List.mem_of_mem_erase hk
    have hne : j ≠ k := fun e => by
      subst e
      exact (List.Nodup.mem_erase_iff h.nodup).1 hk |>.1 rfl
    rw [getD_set_ne true hne]
    exact h.not k hkl
end moves

/-- The operations behind the head come one by one. -/
def seqL (ops : Array Oper) : List Nat → Array Bool → Bool
  | [], listed => (Region.ready .any ops listed).isEmpty
  | k :: rest, listed => decide (Region.ready .any ops listed = [k]) && seqL ops rest (listed.setIfInBounds k true)
/-- The list of operations with these numbers. -/
def pickOps (ops : Array Oper) (l : List Nat) : List Oper := l.filterMap (ops[·]?)
/-- Every operation of the head has a later one, or t, that waits for it. -/
def sinkL (ops : Array Oper) (t : Nat) : List Nat → Bool
  | [] => true
  | i :: rest => (Region.waitsFor .any ops t i || rest.any fun j => Region.waitsFor .any ops j i) && sinkL ops t rest
/-- The first operation of the tail waits for all of the head, the others for one of the tail. -/
def tailWaits (ops : Array Oper) (hd : List Nat) : List Nat → Bool
  | [] => true
  | t :: ts => sinkL ops t hd && ts.all fun u => (t :: ts).any fun v => Region.waitsFor .any ops u v
theorem sink_listed {t : Nat} (hclosed : ∀ j oj, ops[j]? = some oj → listed.getD j false = true → ∀ e ∈ oj.after, Region.binds .any e = true → listed.getD e.on false = true) (ht : ∀ m, Region.waitsFor .any ops t m = true → listed.getD m false = true) :
    ∀ l : List Nat, sinkL ops t l = true → ∀ i ∈ l, listed.getD i false = true
  | [], _, i, hi => by cases hi
  | k :: rest, h, i, hi => by
    simp only [sinkL, Bool.and_eq_true, Bool.or_eq_true] at h
    have ih := sink_listed hclosed ht rest h.2
    rcases List.mem_cons.1 hi with rfl | hi
    · rcases h.1 with h1 | h1
      · exact ht _ h1
      · obtain ⟨j, hj, hw⟩ := List.any_eq_true.1 h1
        obtain ⟨oj, hoj, e, he, hb, hon⟩ := Region.waitsFor_spec hw
        rw [← hon]
        exact hclosed j oj hoj (ih j hj) e he hb
    · exact ih i hi

theorem wpAny_of_seqL {Q : Exit → Act → World → Prop} : ∀ (l : List Nat) (listed : Array Bool) (a : Act) (w : World), (∀ k ∈ l, (ops[k]?).isSome = true) → seqL ops l listed = true → wpList P ops Q (pickOps ops l) a w → wpAny P .any ops Q l.length listed a w
  | [], _, _, _, _, hB, h => ⟨by simpa [seqL] using hB, h⟩
  | k :: l, listed, a, w, hl, hB, h => by
    simp only [seqL, Bool.and_eq_true, decide_eq_true_eq] at hB
    obtain ⟨o, ho⟩ := Option.isSome_iff_exists.1 (hl k (List.mem_cons_self ..))
    refine ⟨fun h1 => (by rw [hB.1] at h1; cases h1), fun i hi => ?_⟩
    rw [hB.1] at hi
    have hik : i = k := by simpa using hi
    subst hik
    have h' : wpList P ops Q (o :: pickOps ops l) a w := by simpa [pickOps, ho] using h
    have hw : wpOp P ops Q i (wpList P ops Q (pickOps ops l)) a w := by unfold wpOp; simp only [ho]; exact h'
    exact wpOp_mono (fun a' w' h2 => wpAny_of_seqL l _ a' w' (fun k hk => hl k (List.mem_cons_of_mem _ hk)) hB.2 h2) hw

def setAll (listed : Array Bool) : List Nat → Array Bool
  | [] => listed
  | i :: l => setAll (listed.setIfInBounds i true) l
theorem setAll_set : ∀ (l : List Nat) (listed : Array Bool) (j : Nat), setAll (listed.setIfInBounds j true) l = (setAll listed l).setIfInBounds j true
  | [], _, _ => rfl
  | i :: l, listed, j => by
    rw [setAll, setAll]
    by_cases h : i = j
    · subst h
      rw [← setAll_set l]
    · rw [Array.setIfInBounds_comm _ _ (Ne.symm h), setAll_set l]
theorem setAll_erase : ∀ (l : List Nat) (listed : Array Bool) (j : Nat), j ∈ l → setAll (listed.setIfInBounds j true) (l.erase j) = setAll listed l
  | [], _, _, h => by cases h
  | i :: l, listed, j, h => by
    by_cases hij : i = j
    · subst hij
      rw [List.erase_cons_head, setAll]
    · rw [List.erase_cons_tail (by simpa using hij), setAll, setAll, Array.setIfInBounds_comm _ _ (Ne.symm hij)]
      exact setAll_erase l _ j (by rcases List.mem_cons.1 h with h | h; exact absurd h.symm hij; exact h)

/-- Whatever order the tape picks. -/
theorem Calm.main {Q : Exit → Act → World → Prop} {tl : List Nat} {end_ : Array Bool} (gd : c.Good) (hB : c.B ops hd N = true) (hsel : ∀ (j : Nat) (o : Oper) cs b, ops[j]? = some o → o.op ≠ .select cs b)
    (hall : ∀ k, k < ops.size → k ∈ hd ∨ k ∈ tl) (htl : ∀ k ∈ tl, k ∉ hd) (htw : tailWaits ops hd tl = true) (hsome : ∀ k ∈ tl, (ops[k]?).isSome = true) (hseq : seqL ops tl end_ = true) :
    ∀ (f : Nat) (l seen : List Nat) (listed : Array Bool) (a : Act) (w : World), l.length = f → (∀ k ∈ l, k ∈ hd) → (∀ k ∈ hd, k ∈ l ∨ listed.getD k false = true) → orderB ops seen l = true → Rest listed seen l → c.Inv ops hd listed → a.tmps.size = N → setAll listed l = end_ →
      c.G (c.cnt listed) w → c.DF ops listed a w →
      c.walk P ops (fun listed' a' => ∀ w', c.G (c.cnt listed') w' → c.DF ops listed' a' w' → wpList P ops Q (pickOps ops tl) a' w') l listed a → wpAny P .any ops Q (f + tl.length) listed a w := by
  intro f
  induction f with
  | zero =>
    intro l seen listed a w hl _ _ _ _ _ _ hend hG hD hwalk
    have : l = [] := List.eq_nil_of_length_eq_zero hl
    subst this
    rw [Nat.zero_add]
    have hend : listed = end_ := hend
    subst hend
    exact wpAny_of_seqL tl listed a w hsome hseq (hwalk w hG hD)
  | succ f ih =>
    intro l seen listed a w hl hhd hcov hord hrest inv hN hend hG hD hwalk
    rw [show f + 1 + tl.length = (f + tl.length) + 1 by omega]
    have hready : ∀ j ∈ Region.ready .any ops listed, j ∈ l := by
      intro j hj
      obtain ⟨hjun, oj, hoj, hallj⟩ := mem_ready.1 hj
      have hjs : j < ops.size := (Array.getElem?_eq_some_iff.1 hoj).1
      have hdone : ∀ m, Region.waitsFor .any ops j m = true → listed.getD m false = true := fun m hm => by
        obtain ⟨o2, ho2, e, he, hb, hon⟩ := Region.waitsFor_spec hm
        have : o2 = oj := Option.some.inj (ho2.symm.trans hoj)
        subst this
        rw [← hon]
        exact hallj e he hb
      rcases hall j hjs with h | h
      · rcases hcov j h with h | h
        · exact h
        · rw [getD_both hjun] at h; cases h
      · match l, hl, hrest, hhd with
        | i :: l', _, hrest, hhd =>
          have hun := hrest.not i (List.mem_cons_self ..)
          have hi := hhd i (List.mem_cons_self ..)
          match tl, htw, h, htl with
          | t :: ts, htw, h, htl =>
            simp only [tailWaits, Bool.and_eq_true] at htw
            rcases List.mem_cons.1 h with rfl | h
            · have := sink_listed inv.closed hdone hd htw.1 i hi
              rw [getD_both hun] at this; cases this
            · obtain ⟨v, hv, hw⟩ := List.any_eq_true.1 (List.all_eq_true.1 htw.2 j h)
              exact absurd (inv.head v (hdone v hw)) (htl v hv)
    have hne : Region.ready .any ops listed ≠ [] := by
      match l, hl, hord, hrest with
      | i :: l', _, hord, hrest =>
        obtain ⟨oi, hoi, hseen, _, _⟩ := orderB_cons hord
        have : i ∈ Region.ready .any ops listed := mem_ready.2 ⟨hrest.not i (List.mem_cons_self ..), oi, hoi, fun e he hb => hrest.done _ (hseen e he hb)⟩
        exact fun h => by rw [h] at this; cases this
    refine ⟨fun h => absurd h hne, fun j hj => ?_⟩
    have hjl := hready j hj
    obtain ⟨hjun, oj, hoj, hallj⟩ := mem_ready.1 hj
    have hjn := hhd j hjl
    have hok := Calm.takes gd hB hsel hoj l seen listed a w hhd hord hrest inv hN hG hD hwalk hjl hallj
    unfold wpOp
    simp only [hoj]
    refine (Calm.comes gd hB inv hjn hoj hallj hjun hN hG hD hok fun v w' hV hG' hD' => ?_).2
    refine ih (l.erase j) (j :: seen) _ _ w' (by rw [List.length_erase_of_mem hjl]; omega) (fun k hk => hhd k (List.mem_of_mem_erase hk)) (fun k hk => ?_) (orderB_erase l seen hord) (hrest.take hjl) (inv.set hB hjn hoj hallj)
      (by rw [put_size]; exact hN) (by rw [setAll_erase l listed j hjl]; exact hend) hG' hD' (Calm.leaves hB hsel hoj l seen listed a hhd hord hrest inv hN hwalk hjl hallj v hV)
    rcases hcov k hk with h | h
    · by_cases hkj : j = k
      · subst hkj; exact .inr (getD_own hjun)
      · exact .inl ((List.mem_erase_of_ne (Ne.symm hkj)).2 h)
    · exact .inr (getD_set_true h)

/-- The operations of the head with their numbers. -/
def pairs (ops : Array Oper) (l : List Nat) : List (Nat × Oper) := l.filterMap fun i => (ops[i]?).map (i, ·)
/-- The walk, the operations written out. -/
def Calm.walkP (c : Calm) (P : Program) (ops : Array Oper) (L : Array Bool → Act → Prop) : List (Nat × Oper) → Array Bool → Act → Prop
  | [], listed, a => L listed a
  | (i, o) :: rest, listed, a => c.Ok P ops i o a ∧ ∀ v, c.V P ops listed i o a v → c.walkP P ops L rest (listed.setIfInBounds i true) (a.put o.dst v)
theorem Calm.walk_of_P {L : Array Bool → Act → Prop} : ∀ (l : List Nat) (listed : Array Bool) (a : Act), (∀ k ∈ l, (ops[k]?).isSome = true) → c.walkP P ops L (pairs ops l) listed a → c.walk P ops L l listed a
  | [], _, _, _, h => h
  | i :: l, listed, a, hs, h => by
    obtain ⟨o, ho⟩ := Option.isSome_iff_exists.1 (hs i (List.mem_cons_self ..))
    have h' : c.walkP P ops L ((i, o) :: pairs ops l) listed a := by simpa [pairs, ho] using h
    exact ⟨o, ho, h'.1, fun v hv => Calm.walk_of_P l _ _ (fun k hk => hs k (List.mem_cons_of_mem _ hk)) (h'.2 v hv)⟩

/-- All that is asked of the region's text: hd are the operations of the head in the walk's order, tl those behind it; N is the frame's size. -/
def Calm.allB (c : Calm) (ops : Array Oper) (hd tl : List Nat) (N : Nat) : Bool :=
  c.B ops hd N && orderB ops [] hd && Region.noSelect ops && (List.range ops.size).all (fun k => hd.contains k || tl.contains k) && tl.all (fun k => !hd.contains k && decide (k < ops.size)) && tailWaits ops hd tl &&
  decide (hd.length + tl.length = ops.size) && decide hd.Nodup && seqL ops tl (setAll (Array.replicate ops.size false) hd)

/-- ONE WALK, IN AN ORDER THAT THE EDGES ALLOW, SERVES EVERY ORDER. -/
theorem wp_region_calm {id : Nat} {Q : Exit → Act → World → Prop} {a : Act} {w : World} {l : List Oper} (c : Calm) (hd tl : List Nat) (N : Nat) (hm : P.follows .mixedOrders = true) (hA : c.allB l.toArray hd tl N = true) (hN : a.tmps.size = N) (gd : c.Good)
    (hw : c.G 0 { w with drawn := w.drawn + 1 })
    (h : c.walkP P l.toArray (fun listed a' => ∀ w', c.G (c.cnt listed) w' → c.DF l.toArray listed a' w' → wpList P l.toArray Q (pickOps l.toArray tl) a' w') (pairs l.toArray hd) (Array.replicate l.toArray.size false) a) : (Code.region id l.toArray true).wp P Q a w := by
  simp only [Calm.allB, Bool.and_eq_true, decide_eq_true_eq] at hA
  obtain ⟨⟨⟨⟨⟨⟨⟨⟨hB, hord⟩, hsel⟩, hall⟩, hdis⟩, htw⟩, hlen⟩, hnd⟩, hseq⟩ := hA
  have hall' : ∀ k, k < l.toArray.size → k ∈ hd ∨ k ∈ tl := fun k hk => by
    have := List.all_eq_true.1 hall k (List.mem_range.2 hk)
    simpa using this
  have hdis' : ∀ k ∈ tl, k ∉ hd ∧ k < l.toArray.size := fun k hk => by
    have := List.all_eq_true.1 hdis k hk
    simp only [Bool.and_eq_true, decide_eq_true_eq] at this
    exact ⟨by simpa using this.1, this.2⟩
  have hhd : ∀ k ∈ hd, k < l.toArray.size := fun k hk => by
    obtain ⟨o, ho, _⟩ := Calm.B_at hB hk
    exact (Array.getElem?_eq_some_iff.1 ho).1
  have cnt0 : c.cnt (Array.replicate l.toArray.size false) = 0 := by
    unfold Calm.cnt
    rw [List.countP_eq_zero]
    intro k _
    rw [getD_replicate_false]
    simp
  refine wp_region_any hm ?_
  have := Calm.main (P := P) (Q := Q) (end_ := setAll (Array.replicate l.toArray.size false) hd) gd hB (Region.noSelect_spec hsel) hall' (fun k hk => (hdis' k hk).1) htw (fun k hk => by
      have := (hdis' k hk).2
      simp only [Array.getElem?_eq_getElem this, Option.isSome_some]) hseq hd.length hd [] (Array.replicate l.toArray.size false) a { w with drawn := w.drawn + 1 } rfl (fun k hk => hk) (fun k hk => .inl hk) hord
      ⟨fun k hk => (by cases hk), fun k hk => getD_in (by simpa using hhd k hk) (getD_replicate_false _ _), hnd⟩
      ⟨by simp, fun j oj _ hl => (by rw [getD_replicate_false] at hl; cases hl), fun k hl => (by rw [getD_replicate_false] at hl; cases hl), fun k hl => (by rw [getD_replicate_false] at hl; cases hl)⟩ hN rfl (by rw [cnt0]; exact hw)
      ⟨fun k hl => (by rw [getD_replicate_false] at hl; cases hl), fun k k' hl => (by rw [getD_replicate_false] at hl; cases hl)⟩
      (Calm.walk_of_P hd _ _ (fun k hk => by simp only [Array.getElem?_eq_getElem (hhd k hk), Option.isSome_some]) h)
  rw [hlen] at this
  exact this

section steps
variable {L : Array Bool → Act → Prop} {o : Oper} {rest : List (Nat × Oper)} {k : Nat} {a : Act}
/-- An operation that only computes or reads. -/
theorem Calm.walk_quiet (ne : Nonempty c.Sub) (he : c.eff.contains k = false) (hp : plainOp o.op = true) (hw : Region.wanted o (yielded ops a.tmps) = true)
    (h : ∀ K : Act → Prop, (∀ a, c.walkP P ops L rest (listed.setIfInBounds k true) a → K a) → o.quiet P a (fun w => ∃ x : c.Sub, w = c.at_ x) K) : c.walkP P ops L ((k, o) :: rest) listed a := by
  obtain ⟨v, hv, hK⟩ := h _ (fun _ h => h)
  have hv' : c.Quiet P o a v := fun w hw => hv w ⟨⟨w, hw⟩, rfl⟩
  refine ⟨fun _ => by rw [he]; simp only [Bool.false_eq_true, if_false]; exact ⟨v, hv'⟩, fun u hu => ?_⟩
  unfold Calm.V at hu
  rw [if_pos hw, he] at hu
  simp only [Bool.false_eq_true, if_false] at hu
  obtain ⟨x⟩ := ne
  rw [← quiet_unique hp (hv' x.1 x.2) (hu x.1 x.2)]
  exact hK
/-- An operation whose guard says no. -/
theorem Calm.walk_skip (hw : Region.wanted o (yielded ops a.tmps) = false) (h : c.walkP P ops L rest (listed.setIfInBounds k true) (a.put o.dst undef)) : c.walkP P ops L ((k, o) :: rest) listed a := by
  refine ⟨fun h => (by rw [hw] at h; cases h), fun u hu => ?_⟩
  unfold Calm.V at hu
  rw [hw] at hu
  simp only [Bool.false_eq_true, if_false] at hu
  rw [hu]
  exact h
/-- An operation with an effect. -/
theorem Calm.walk_effn (he : c.eff.contains k = true) (hw : Region.wanted o (yielded ops a.tmps) = true)
    (hs : ∀ n w, (c.anc k).length ≤ n → n < c.eff.length → c.G n w → c.AF ops k a w → gives P o a w fun v w' => c.T k (valsOf ops o a) (nrm o v) w' ∧ c.R k w w' ∧ c.G (n + 1) w' ∧ ∀ b, c.own k (nrm o v) b → w.heap.size ≤ b ∧ b < w'.heap.size)
    (h : ∀ v w, c.T k (valsOf ops o a) v w → c.walkP P ops L rest (listed.setIfInBounds k true) (a.put o.dst v)) : c.walkP P ops L ((k, o) :: rest) listed a := by
  refine ⟨fun _ => by rw [if_pos he]; exact hs, fun v hv => ?_⟩
  unfold Calm.V at hv
  rw [if_pos hw, if_pos he] at hv
  obtain ⟨w, _, _, hT, _⟩ := hv
  exact h v w hT
theorem Calm.walk_eff (he : c.eff.contains k = true) (hw : Region.wanted o (yielded ops a.tmps) = true)
    (hs : ∀ n w, n < c.eff.length → c.G n w → c.AF ops k a w → gives P o a w fun v w' => c.T k (valsOf ops o a) (nrm o v) w' ∧ c.R k w w' ∧ c.G (n + 1) w' ∧ ∀ b, c.own k (nrm o v) b → w.heap.size ≤ b ∧ b < w'.heap.size)
    (h : ∀ v w, c.T k (valsOf ops o a) v w → c.walkP P ops L rest (listed.setIfInBounds k true) (a.put o.dst v)) : c.walkP P ops L ((k, o) :: rest) listed a :=
  Calm.walk_effn he hw (fun n w _ => hs n w) h
end steps
end

/-- Where all operations of the head only compute or read. -/
def stillCalm (w : World) : Calm where
  R := fun _ a b => a = b
  G := fun _ b => w = b
  eff := []
  T := fun _ _ _ _ => True
  anc := fun _ => []
  own := fun _ _ _ => False
theorem still_good (w : World) : (stillCalm w).Good := ⟨fun _ _ h => h, fun _ w w' h => by cases h; exact Nat.le_refl _, fun _ _ _ _ _ _ _ _ _ _ => trivial⟩
theorem still_at (w : World) (x : (stillCalm w).Sub) : (stillCalm w).at_ x = w := by
  obtain ⟨x, n, _, h⟩ := x
  exact h.symm
theorem still_some (w : World) : Nonempty (stillCalm w).Sub := ⟨⟨w, 0, Nat.zero_le _, rfl⟩⟩

/-- Where one operation of the head, number k, stores: w1 is the world ahead of it, w2 behind it. -/
def storeCalm (w1 w2 : World) (k : Nat) : Calm where
  R := fun i a b => i = k ∧ a.heap.size ≤ b.heap.size
  G := fun n w => w = w1 ∨ (1 ≤ n ∧ w = w2)
  eff := [k]
  T := fun _ _ _ w => w = w2
  anc := fun _ => []
  own := fun _ _ _ => False
theorem store_good (w1 w2 : World) (k : Nat) : (storeCalm w1 w2 k).Good where
  mono := fun _ _ h => h.imp id fun h => ⟨by omega, h.2⟩
  size := fun _ _ _ h => h.2
  stable := fun i j _ _ _ _ he hne _ hR => by
    simp only [storeCalm, List.contains_cons, List.contains_nil, Bool.or_false, beq_iff_eq] at he
    exact absurd (hR.1.trans he.symm) hne
theorem store_at (w1 w2 : World) (k : Nat) (x : (storeCalm w1 w2 k).Sub) : (storeCalm w1 w2 k).at_ x = w1 ∨ (storeCalm w1 w2 k).at_ x = w2 := by
  obtain ⟨x, n, _, h⟩ := x
  rcases h with h | h
  · exact .inl h
  · exact .inr h.2
theorem store_some (w1 w2 : World) (k : Nat) : Nonempty (storeCalm w1 w2 k).Sub := ⟨⟨w1, 0, Nat.zero_le _, .inl rfl⟩⟩
theorem store_first {w1 w2 : World} {k n : Nat} {w : World} (hn : n < (storeCalm w1 w2 k).eff.length) (h : (storeCalm w1 w2 k).G n w) : w = w1 := by
  rcases h with h | h
  · exact h
  · have : n < 1 := hn
    omega

end Go.Proofs.YtebdgoikmclflaaGreatDoor
