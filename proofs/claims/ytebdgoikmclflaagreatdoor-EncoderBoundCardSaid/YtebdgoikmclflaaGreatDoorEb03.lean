/-
  Words for the walks that name no type of the program: new blocks, appends, literals, struct equality, within regions that draw their order.
-/
import Derived.Test.YtebdgoikmclflaaGreatDoorEb01
import Derived.Test.YtebdgoikmclflaaGreatDoorEb02
import Derived.Great.BuildSlice
namespace Go.Proofs.YtebdgoikmclflaaGreatDoor
open Go.RowKit

/-- The block that a value points to. -/
def ownBlk (v : Value) (b : Nat) : Prop := match v with
  | .slice (some a) _ _ => b = a.block
  | .pointer (some a) => b = a.block
  | _ => False

/-- The facts of a region that makes rows and variables in blocks from n0 on. -/
def madeT (n0 : Nat) (t : TypeId) (cs : Array Value) (mk : Addr → Value) (v : Value) (w : World) : Prop := ∃ b, n0 ≤ b ∧ v = mk ⟨b, 0, none⟩ ∧ Blk w b t cs
theorem madeT.stable {n0 : Nat} {t : TypeId} {cs : Array Value} {mk : Addr → Value} {v : Value} {w w' : World} {S : Nat → Prop} (h : madeT n0 t cs mk v w) (k : Keep S w w') (hS : ∀ b, S b → b < n0) : madeT n0 t cs mk v w' := by
  obtain ⟨b, hb, e, h⟩ := h
  exact ⟨b, hb, e, h.keep k fun hs => by have := hS b hs; omega⟩

theorem madeT.slice {n0 : Nat} {t : TypeId} {cs : Array Value} {n c b : Nat} {w : World} (h : madeT n0 t cs (fun a => .slice (some a) n c) (.slice (some ⟨b, 0, none⟩) n c) w) : n0 ≤ b ∧ Blk w b t cs := by
  obtain ⟨b', hb, e, h⟩ := h
  simp only [Value.slice.injEq, Option.some.injEq, Addr.mk.injEq, and_true] at e
  subst e
  exact ⟨hb, h⟩
theorem madeT.ptr {n0 : Nat} {t : TypeId} {cs : Array Value} {b : Nat} {w : World} (h : madeT n0 t cs (fun a => .pointer (some a)) (.pointer (some ⟨b, 0, none⟩)) w) : n0 ≤ b ∧ Blk w b t cs := by
  obtain ⟨b', hb, e, h⟩ := h
  simp only [Value.pointer.injEq, Option.some.injEq, Addr.mk.injEq, and_true] at e
  subst e
  exact ⟨hb, h⟩
/-- What a new block gives. -/
theorem madeT.new {w0 w : World} {S : Nat → Prop} (k : Keep S w0 w) (t : TypeId) (cs : Array Value) (mk : Addr → Value) : madeT w0.heap.size t cs mk (mk ⟨w.heap.size, 0, none⟩) (w.alloc (.cells cs t)) :=
  ⟨w.heap.size, k.size, rfl, Blk.new _ _ _⟩

theorem not_one {g n b : Nat} (h1 : g < n) (h2 : n < b) : ¬ one g b := fun e => by unfold one at e; omega
/-- Three variables that the call has made. -/
theorem three {w w1 : World} {t0 t1 t2 : TypeId} {c0 c1 c2 : Array Value} (k : Keep none_ (((w.alloc (.cells c0 t0)).alloc (.cells c1 t1)).alloc (.cells c2 t2)) w1) :
    Blk w1 w.heap.size t0 c0 ∧ Blk w1 (w.heap.size + 1) t1 c1 ∧ Blk w1 (w.heap.size + 1 + 1) t2 c2 ∧ Keep none_ w w1 := by
  refine ⟨?_, ?_, ?_, (((Keep.refl _ _).alloc _).alloc _).alloc _ |>.trans k⟩
  · exact (((Blk.new w t0 c0).alloc _).alloc _).keep k (fun e => e)
  · have := ((Blk.new (w.alloc (.cells c0 t0)) t1 c1).alloc (.cells c2 t2)).keep k (fun e => e)
    simpa using this
  · have := (Blk.new ((w.alloc (.cells c0 t0)).alloc (.cells c1 t1)) t2 c2).keep k (fun e => e)
    simpa using this
theorem Keep.own {S : Nat → Prop} {a w w' : World} {b : Nat} (h : Keep S a w) (k : Keep (one b) w w') (hb : a.heap.size ≤ b) : Keep S a w' := h.then k fun x e => by cases e; exact .inr hb

theorem two {w w1 : World} {t0 t1 : TypeId} {c0 c1 : Array Value} (k : Keep none_ ((w.alloc (.cells c0 t0)).alloc (.cells c1 t1)) w1) :
    Blk w1 w.heap.size t0 c0 ∧ Blk w1 (w.heap.size + 1) t1 c1 ∧ Keep none_ w w1 := by
  refine ⟨?_, ?_, ((Keep.refl _ _).alloc _).alloc _ |>.trans k⟩
  · exact ((Blk.new w t0 c0).alloc _).keep k (fun e => e)
  · have := (Blk.new (w.alloc (.cells c0 t0)) t1 c1).keep k (fun e => e)
    simpa using this

/-- The facts of 'out = append(out, ..)': one new block. -/
def oneCalm (n0 : Nat) (wr : World) (k : Nat) (t : TypeId) (cs : Array Value) : Calm where
  R := fun _ => Keep none_
  G := fun _ => Keep none_ wr
  eff := [k]
  T := fun _ _ v w' => madeT n0 t cs (fun a => .slice (some a) 1 1) v w'
  anc := fun _ => []
  own := fun _ => ownBlk
theorem oneCalm_good (n0 : Nat) (wr : World) (k : Nat) (t : TypeId) (cs : Array Value) : (oneCalm n0 wr k t cs).Good where
  mono := fun _ _ h => h
  size := fun _ _ _ h => h.size
  stable := fun _ _ _ v w1 w2 _ _ h hR => by
    have h' : madeT n0 t cs (fun a => .slice (some a) 1 1) v w1 := h
    exact h'.stable (S := none_) hR fun _ e => e.elim
theorem oneCalm_at {n0 : Nat} {wr : World} {k : Nat} {t : TypeId} {cs : Array Value} (x : (oneCalm n0 wr k t cs).Sub) : Keep none_ wr ((oneCalm n0 wr k t cs).at_ x) := by
  obtain ⟨x, n, _, h⟩ := x
  exact h


/-- The blocks of a value's own. -/
def ofBlk (v : Value) : Nat → Prop := fun k => v.ownBlock = some k

section
variable {P : Program} {o : Oper} {a : Act} {w : World}
theorem gives_append (s x : Operand) (t e : TypeId) (ho : o.op = .call { callee := .builtin .append, args := #[s, x], argTypes := #[t, t] }) (base : Nat) (zv : Value) (size bytes : Nat)
    (ht : P.underlying t = some (.slice e)) (hinfo : (P.info? e).map (fun i => (i.zero, i.size, i.bytes)) = some (some zv, size, bytes)) (hzs : zv.cells.size = size) (hsz : 0 < size)
    (v : Value) (n : Nat) (xs : List Value) (hs : a.eval s = v) (hown : w.ownsRow base e size v n xs) (ad : Addr) (m c : Nat) (news : List Value) (hx : a.eval x = .slice (some ad) m c) (hl : news.length = m * size) (hnews : ∀ j u, news[j]? = some u → w.cell? (ad.add j) = some u)
    (h1 : ∀ u ∈ news, u.oneCell' = true) (hn : (n + m) * (bytes + 1) ≤ 140737488355328) (hbase : base ≤ w.heap.size) :
    gives P o a w fun v' w' => w'.ownsRow base e size v' (n + m) (xs ++ news) ∧ Keep (ofBlk v) w w' ∧ (v' = .slice none 0 0 ↔ v = .slice none 0 0 ∧ m = 0) := by
  obtain ⟨i, hi, hz0, hz1, hz2⟩ := info_parts hinfo
  have hbb : (n + m) * bytes ≤ (n + m) * (bytes + 1) := Nat.mul_le_mul_left _ (by omega)
  have hnn : (n + m) * 1 ≤ (n + m) * (bytes + 1) := Nat.mul_le_mul_left _ (by omega)
  obtain ⟨v', w', hr, h2, h3, h4⟩ := run_append_own (P := P) w base t o.type e i zv size bytes ht hi hz0 hz1 hz2 hzs hsz v n xs hown ad m c news hl hnews h1 (by unfold maxLen; omega) (by omega) hbase
  unfold gives execOp
  simp only [ho, resolve, invoke, builtin, Sem.run_bind, Sem.run_pure, Result.andThen_ok, List.map_toArray, List.map_cons, List.map_nil, hs, hx, hr]
  exact ⟨h2, Keep.ofGrown h3, h4⟩
/-- 'append(s, x)': one element in a block of its own. -/
theorem gives_append1 (s x : Operand) (t e : TypeId) (ho : o.op = .call { callee := .builtin .append, args := #[s, x], argTypes := #[t, t] }) (base : Nat) (zv : Value) (size bytes : Nat)
    (ht : P.underlying t = some (.slice e)) (hinfo : (P.info? e).map (fun i => (i.zero, i.size, i.bytes)) = some (some zv, size, bytes)) (hzs : zv.cells.size = size) (hsz : 0 < size)
    (v : Value) (n : Nat) (xs : List Value) (hs : a.eval s = v) (hown : w.ownsRow base e size v n xs) (b : Nat) (us : Array Value) (hx : a.eval x = .slice (some ⟨b, 0, none⟩) 1 1) (hb : Blk w b e us) (hus : us.size = size) (h1 : ∀ u ∈ us.toList, u.oneCell' = true)
    (hn : (n + 1) * (bytes + 1) ≤ 140737488355328) (hbase : base ≤ w.heap.size) :
    gives P o a w fun v' w' => w'.ownsRow base e size v' (n + 1) (xs ++ us.toList) ∧ Keep (ofBlk v) w w' ∧ (v' = .slice none 0 0 ↔ v = .slice none 0 0 ∧ 1 = 0) :=
  gives_append s x t e ho base zv size bytes ht hinfo hzs hsz v n xs hs hown ⟨b, 0, none⟩ 1 1 us.toList hx (by simp [hus]) (fun j u hu => by
    rw [Addr.add_mid, Nat.zero_add, hb.cell]
    simpa using hu) h1 hn hbase
end

theorem gives_mono {P : Program} {o : Oper} {a : Act} {w : World} {X Y : Value → World → Prop} (h : gives P o a w X) (hXY : ∀ v w', X v w' → Y v w') : gives P o a w Y := by
  unfold gives at *
  generalize (execOp a.eval o).run P w = r at *
  cases r with
  | ok n w' =>
    cases n <;> simp only at h ⊢
    case value v => exact hXY _ _ h
    case skip => exact hXY _ _ h
    case enter f args =>
      refine h.mono ?_
      rintro e w'' ⟨v, rfl, hX⟩
      exact ⟨v, rfl, hXY _ _ hX⟩
  | halt x w' => exact h

/-- The facts of a region in which operation k1 makes the block of the new elements, and operation k2 appends them to a row whose block is of S. -/
def appCalm (wr : World) (S : Nat → Prop) (k1 k2 : Nat) (t : TypeId) (cs : Array Value) (X : Value → World → Prop) : Calm where
  R := fun i => if i = k2 then Keep S else Keep none_
  G := fun n w => Keep S wr w ∧ (n ≤ 1 → Keep none_ wr w)
  eff := [k1, k2]
  T := fun i _ v w' => if i = k2 then X v w' else madeT wr.heap.size t cs (fun a => .slice (some a) 1 1) v w'
  anc := fun i => if i = k2 then [k1] else []
  own := fun _ _ _ => False
theorem appCalm_good {wr : World} {S : Nat → Prop} {k1 k2 : Nat} {t : TypeId} {cs : Array Value} {X : Value → World → Prop} (hS : ∀ b, S b → b < wr.heap.size) (hX : ∀ v w w', X v w → Keep none_ w w' → X v w') : (appCalm wr S k1 k2 t cs X).Good where
  mono := fun _ _ h => ⟨h.1, fun hn => h.2 (by omega)⟩
  size := fun i _ _ h => by
    simp only [appCalm] at h
    split at h <;> exact h.size
  stable := fun i k vs v w1 w2 _ hne h hR => by
    simp only [appCalm] at h hR ⊢
    by_cases hk : k = k2
    · rw [if_pos hk] at h ⊢
      rw [if_neg (fun e => hne (e.trans hk.symm))] at hR
      exact hX _ _ _ h hR
    · rw [if_neg hk] at h ⊢
      split at hR
      · exact h.stable hR hS
      · exact h.stable (S := none_) hR fun _ e => e.elim
theorem appCalm_at {wr : World} {S : Nat → Prop} {k1 k2 : Nat} {t : TypeId} {cs : Array Value} {X : Value → World → Prop} (x : (appCalm wr S k1 k2 t cs X).Sub) : Keep S wr ((appCalm wr S k1 k2 t cs X).at_ x) := by
  obtain ⟨x, n, _, h⟩ := x
  exact h.1
theorem appCalm_some (wr : World) (S : Nat → Prop) (k1 k2 : Nat) (t : TypeId) (cs : Array Value) (X : Value → World → Prop) : Nonempty (appCalm wr S k1 k2 t cs X).Sub := ⟨⟨wr, 0, Nat.zero_le _, Keep.refl _ _, fun _ => Keep.refl _ _⟩⟩
theorem own_lt {w : World} {base : Nat} {e : TypeId} {size : Nat} {v : Value} {n : Nat} {xs : List Value} (h : w.ownsRow base e size v n xs) (b : Nat) (hb : ofBlk v b) : b < w.heap.size := (h.lt b hb).2
theorem own_ge {w : World} {base : Nat} {e : TypeId} {size : Nat} {v : Value} {n : Nat} {xs : List Value} (h : w.ownsRow base e size v n xs) (b : Nat) (hb : ofBlk v b) : base ≤ b := (h.lt b hb).1

theorem ret_bool {a b : Bool} (h : a = b) : Ending.returned (.bool a) = .returned (.bool b) := by rw [h]
/-- A guarded load of a part of a block. -/
theorem wpList_load_mid_on {P : Program} {ops : Array Oper} {rest : List Oper} {op : Oper} {a : Act} {w : World} {Q : Exit → Act → World → Prop} (hgd : Region.wanted op (yielded ops a.tmps) = true) (ty : TypeId) (x : Operand) (ho : op.op = .load ty x)
    (b o : Nat) (hx : a.eval x = .pointer (some ⟨b, o, none⟩)) (cs : List Value) (d : TypeDesc) (hc : w.rangeAt b o cs)
    (hu : P.underlying ty = some d) (hd : d.isRow = true) (hi : (P.info? ty).map (·.size) = some cs.length)
    (h : wpList P ops Q rest (a.put op.dst (.agg cs.toArray)) w) : wpList P ops Q (op :: rest) a w :=
  wpList_step fun K hK => by rw [if_pos hgd]; exact wp_load_mid ty x ho b o hx cs d hc hu hd hi (hK _ _ h)

/-- '==' answers whatever the world, and says yes of a value and itself. -/
def EqOk (P : Program) (d : Nat) (t : TypeId) (x y : Value) : Prop := ∃ b : Bool, (x = y → b = true) ∧ ∀ w, (Op.equalIn d t x y).run P w = .ok b w

section
variable {P : Program} {d : Nat}
theorem eqOk_int {t : TypeId} {k k' : IntKind} (a b : Int) (h : P.underlying t = some (.int k')) : EqOk P (d + 1) t (.int k a) (.int k b) :=
  ⟨a == b, fun e => by cases e; simp, fun w => run_equalIn_int w d t k k' a b h⟩
theorem eqOk_bool {t : TypeId} (a b : Bool) (h : P.underlying t = some .bool) : EqOk P (d + 1) t (.bool a) (.bool b) :=
  ⟨a == b, fun e => by cases e; simp, fun w => run_equalIn_bool w d t a b h⟩
/-- A part of a struct's or an array's cells. -/
def PartIs (P : Program) (t : TypeId) (cs : Array Value) (off : Nat) (v : Value) : Prop := ∀ w, (part t cs off).run P w = .ok v w
theorem PartIs.one {t : TypeId} {cs : Array Value} {off : Nat} {v : Value} {D : TypeDesc} (hu : P.underlying t = some D) (hd : D.isRow = false) (hc : cs[off]? = some v) : PartIs P t cs off v := fun w => by
  have hagg : (isAgg t).run P w = .ok false w := by
    unfold isAgg
    rw [Sem.run_bind, run_underlying hu w]
    cases D <;> simp_all
  simp [part, hagg, hc]
theorem PartIs.many {t : TypeId} {cs : Array Value} {off n : Nat} {D : TypeDesc} (hu : P.underlying t = some D) (hd : D.isRow = true) (hi : ∀ w, (sizeOf t).run P w = .ok n w) : PartIs P t cs off (.agg (cs.extract off (off + n))) := fun w => by
  have hagg : (isAgg t).run P w = .ok true w := by
    unfold isAgg
    rw [Sem.run_bind, run_underlying hu w]
    cases D <;> simp_all
  simp [part, hagg, hi]
theorem eqFields_ok (xs ys : Array Value) : ∀ fs : List Field, (∀ f ∈ fs, ∃ a b, PartIs P f.type xs f.offset a ∧ PartIs P f.type ys f.offset b ∧ (xs = ys → a = b) ∧ EqOk P d f.type a b) →
    ∃ r : Bool, (xs = ys → r = true) ∧ ∀ w, (Op.eqFields d xs ys fs).run P w = .ok r w
  | [], _ => ⟨true, fun _ => rfl, fun w => by simp [Op.eqFields]⟩
  | f :: fs, h => by
    obtain ⟨r, hr, hrun⟩ := eqFields_ok xs ys fs fun g hg => h g (List.mem_cons_of_mem _ hg)
    obtain ⟨a, b, ha, hb, hab, c, hc, he⟩ := h f (List.mem_cons_self ..)
    by_cases hn : f.name ≠ "_"
    · refine ⟨c && r, fun e => by simp [hc (hab e), hr e], fun w => ?_⟩
      simp only [Op.eqFields, if_pos hn, Sem.run_bind, ha w, hb w, he w, Result.andThen_ok]
      cases c
      · simp
      · simpa using hrun w
    · refine ⟨r, hr, fun w => ?_⟩
      simp only [Op.eqFields, if_neg hn]
      exact hrun w
theorem eqOk_struct {t : TypeId} {fs : Array Field} (xs ys : Array Value) (ht : P.underlying t = some (.struct fs)) (hp : P.stoodInHeld t = false)
    (h : ∀ f ∈ fs.toList, ∃ a b, PartIs P f.type xs f.offset a ∧ PartIs P f.type ys f.offset b ∧ (xs = ys → a = b) ∧ EqOk P d f.type a b) : EqOk P (d + 1) t (.agg xs) (.agg ys) := by
  have hfs : P.fieldsOf t = fs := by simp [Program.fieldsOf, ht]
  obtain ⟨r, hr, hrun⟩ := eqFields_ok xs ys fs.toList h
  refine ⟨r, fun e => hr (by injection e), fun w => ?_⟩
  rw [run_equalIn_struct w d t xs ys (by rw [hfs]; exact ht) hp, hfs]
  exact hrun w
theorem eqOk_array {t e : TypeId} {len : Nat} (xs ys : Array Value) (ht : P.underlying t = some (.array len e)) (hs : ∀ w, (sizeOf e).run P w = .ok 1 w)
    (h : ∀ i, i < len → ∃ a b, PartIs P e xs i a ∧ PartIs P e ys i b ∧ (xs = ys → a = b) ∧ EqOk P d e a b) : EqOk P (d + 1) t (.agg xs) (.agg ys) := by
  have key : ∀ l : List Nat, (∀ i ∈ l, i < len) → ∃ r : Bool, (xs = ys → r = true) ∧ ∀ w, (do
      let r ← forIn (m := Sem) l ((none, ()) : Option Bool × Unit) fun i _ => do
        let a ← part e xs (i * 1)
        let b ← part e ys (i * 1)
        let c ← Op.equalIn d e a b
        if (!c) = true then pure (ForInStep.done (some false, ())) else pure (ForInStep.yield (none, ()))
      match r.1 with
      | some a => pure a
      | none => pure true : Sem Bool).run P w = .ok r w := by
    intro l
    induction l with
    | nil => exact fun _ => ⟨true, fun _ => rfl, fun w => by simp⟩
    | cons i l ih =>
      intro hl
      obtain ⟨r, hr, hrun⟩ := ih fun k hk => hl k (List.mem_cons_of_mem _ hk)
      obtain ⟨a, b, ha, hb, hab, c, hc, he⟩ := h i (hl i (List.mem_cons_self ..))
      refine ⟨c && r, fun e => by simp [hc (hab e), hr e], fun w => ?_⟩
      have ha' := ha w
      have hb' := hb w
      cases c with
      | false => simp [Nat.mul_one, ha', hb', he w]
      | true =>
        have := hrun w
        simp only [List.forIn_cons, Nat.mul_one, Sem.run_bind, ha', hb', he w, Result.andThen_ok, Bool.not_true, Bool.false_eq_true, if_false, Sem.run_pure, Bool.true_and] at this ⊢
        exact this
  obtain ⟨r, hr, hrun⟩ := key (List.range' 0 len 1) (fun i hi => by simp [List.mem_range'] at hi; omega)
  refine ⟨r, fun e => hr (by injection e), fun w => ?_⟩
  have := hrun w
  simp only [Op.equalIn, Sem.run_bind, run_underlying ht, Result.andThen_ok, hs, Std.Legacy.Range.forIn_eq_forIn_range', Std.Legacy.Range.size, Nat.sub_zero, Nat.add_sub_cancel, Nat.div_one] at this ⊢
  refine Eq.trans ?_ this
  refine congr (congrArg _ ?_) ?_
  · rfl
  · funext a w'
    rcases a with ⟨_ | _, _⟩ <;> rfl
end

section
variable {P : Program} {ops : Array Oper} {rest : List Oper} {op : Oper} {a : Act} {w : World} {Q : Exit → Act → World → Prop}
/-- 'x == y' and 'x != y' on structs, also where they are guarded. -/
theorem wpList_eql_agg (t : TypeId) (x y : Operand) (u : TypeId) (ho : op.op = .binOp .eql t x y u) (hgd : Region.wanted op (yielded ops a.tmps) = true) (xs ys : Array Value) (hx : a.eval x = .agg xs) (hy : a.eval y = .agg ys)
    (hm : P.eqGuardType P.depth t = false) (b : Bool) (hb : ∀ w, (Op.equalIn 10000 t (.agg xs) (.agg ys)).run P w = .ok b w) (h : wpList P ops Q rest (a.put op.dst (.bool b)) w) : wpList P ops Q (op :: rest) a w :=
  wpList_step fun K hK => by
    rw [if_pos hgd]
    unfold Oper.wp execOp
    simp only [ho, hx, hy, Sem.run_bind, run_eqGuard_agg _ _ _ _ _ _ _ hm, run_eql_struct, hb, Result.andThen_ok, Sem.run_pure]
    exact hK _ _ h
theorem wpList_neq_agg (t : TypeId) (x y : Operand) (u : TypeId) (ho : op.op = .binOp .neq t x y u) (hgd : Region.wanted op (yielded ops a.tmps) = true) (xs ys : Array Value) (hx : a.eval x = .agg xs) (hy : a.eval y = .agg ys)
    (hm : P.eqGuardType P.depth t = false) (b : Bool) (hb : ∀ w, (Op.equalIn 10000 t (.agg xs) (.agg ys)).run P w = .ok b w) (h : wpList P ops Q rest (a.put op.dst (.bool (!b))) w) : wpList P ops Q (op :: rest) a w :=
  wpList_step fun K hK => by
    rw [if_pos hgd]
    unfold Oper.wp execOp
    simp only [ho, hx, hy, Sem.run_bind, run_eqGuard_agg _ _ _ _ _ _ _ hm, run_neq_struct, hb, Result.andThen_ok, Sem.run_pure]
    exact hK _ _ h
end


theorem cells_inj {xs ys : Array Value} {i : Nat} {a b : Value} (h1 : xs[i]? = some a) (h2 : ys[i]? = some b) (e : xs = ys) : a = b := by
  subst e
  exact Option.some.inj (h1.symm.trans h2)


theorem laid_append : ∀ (a b : List Value) (o : Nat) (cs : Array Value), laid cs o (a ++ b) = laid (laid cs o a) (o + a.length) b
  | [], b, o, cs => rfl
  | x :: a, b, o, cs => by
    rw [List.cons_append, laid, laid, laid_append a b (o + 1), List.length_cons]
    congr 1
    omega
theorem foldl_laid : ∀ (l : List Value) (s o : Nat) (cs : Array Value), (l.zipIdx s).foldl (fun cs (x : Value × Nat) => cs.setIfInBounds (o + x.2) x.1) cs = laid cs (o + s) l
  | [], _, _, _ => rfl
  | x :: l, s, o, cs => by
    rw [List.zipIdx_cons, List.foldl_cons, foldl_laid l (s + 1) o, laid]
    rfl
/-- The parts lie one behind the other. -/
def Contig (place : Nat → Option (Nat × Nat)) : Nat → List (Nat × Value) → Prop
  | _, [] => True
  | off, (i, v) :: r => place i = some (off, v.cells.size) ∧ Contig place (off + v.cells.size) r
/-- All of their cells. -/
def allCells (parts : List (Nat × Value)) : List Value := parts.flatMap fun p => p.2.cells.toList
theorem fill_contig {place : Nat → Option (Nat × Nat)} : ∀ (parts : List (Nat × Value)) (off : Nat) (cells : Array Value), Contig place off parts → off + (allCells parts).length ≤ cells.size → Instr.fill place cells parts = some (laid cells off (allCells parts))
  | [], off, cells, _, _ => rfl
  | (i, v) :: r, off, cells, ⟨h1, h2⟩, hs => by
    have e : allCells ((i, v) :: r) = v.cells.toList ++ allCells r := by simp [allCells]
    rw [e, List.length_append, Array.length_toList] at hs
    have ih := fill_contig r (off + v.cells.size) (laid cells off v.cells.toList) h2 (by rw [laid_size]; omega)
    rw [Instr.fill, h1]
    simp only [ne_eq, not_true_eq_false, decide_false, Bool.false_or]
    rw [if_neg (by simp; omega)]
    have hf : (v.cells.zipIdx.foldl (fun cs (x : Value × Nat) => cs.setIfInBounds (off + x.2) x.1) cells) = laid cells off v.cells.toList := by
      rw [← Array.foldl_toList, Array.toList_zipIdx]
      exact foldl_laid v.cells.toList 0 off cells
    rw [e, laid_append, Array.length_toList]
    exact (congrArg (fun cs => Instr.fill place cs r) hf).trans ih
theorem fill_whole {place : Nat → Option (Nat × Nat)} (parts : List (Nat × Value)) (cells : Array Value) (h : Contig place 0 parts) (hs : (allCells parts).length = cells.size) : Instr.fill place cells parts = some (allCells parts).toArray := by
  rw [fill_contig parts 0 cells h (by omega), laid_whole _ _ hs]

section
variable {P : Program}
theorem built_struct {t : TypeId} {fields : Array Field} {it : TypeInfo} {z : Value} {places : List (Nat × Nat)} (hi : P.info? t = some it) (hu : P.underlying t = some (.struct fields)) (hz : it.zero = some z) (hp : fields.toList.mapM (fun f => (P.info? f.type).map fun i => (f.offset, i.size)) = some places)
    (parts : List (Nat × Value)) (h : Contig (places.toArray[·]?) 0 parts) (hs : (allCells parts).length = z.cells.size) : P.built t parts = some (allCells parts).toArray := by
  unfold Program.built
  simp only [hi, hu, hz, hp]
  exact fill_whole parts z.cells h hs
theorem built_array {t e : TypeId} {n : Nat} {it ie : TypeInfo} {z : Value} (hi : P.info? t = some it) (hu : P.underlying t = some (.array n e)) (hz : it.zero = some z) (he : P.info? e = some ie)
    (parts : List (Nat × Value)) (h : Contig (fun i => some (i * ie.size, ie.size)) 0 parts) (hs : (allCells parts).length = z.cells.size) : P.built t parts = some (allCells parts).toArray := by
  unfold Program.built
  simp only [hi, hu, hz, he]
  exact fill_whole parts z.cells h hs
theorem run_buildSlice_whole (w : World) (t e : TypeId) (len : Nat) (parts : Array (Nat × Value)) {ie : TypeInfo} {z : Value} (hu : P.underlying t = some (.slice e)) (hie : P.info? e = some ie) (hz : ie.zero = some z) (hsmall : ¬ len * ie.size > 2 ^ 24) (hpos : ¬ len * ie.size = 0)
    (h : Contig (fun i => some (i * ie.size, ie.size)) 0 parts.toList) (hs : (allCells parts.toList).length = len * ie.size) :
    (Instr.buildSlice t len parts).run P w = .ok (.slice (some ⟨w.heap.size, 0, none⟩) len len) (w.alloc (.cells (allCells parts.toList).toArray e)) :=
  run_buildSlice w t e len parts _ ie z hu hie hz hsmall hpos (fill_whole _ _ h (by simpa using hs))
end

section
variable {P : Program} {ops : Array Oper} {c : Calm} {L : Array Bool → Act → Prop} {o : Oper} {rest : List (Nat × Oper)} {k : Nat} {a : Act} {listed : Array Bool}
/-- An operation of a region whose value is known in every world of the region. -/
theorem Calm.walk_is (v : Value) (ne : Nonempty c.Sub) (he : c.eff.contains k = false) (hp : plainOp o.op = true) (hw : Region.wanted o (yielded ops a.tmps) = true) (hv : ∀ x : c.Sub, (execOp a.eval o).run P (c.at_ x) = .ok (.value v) (c.at_ x))
    (h : c.walkP P ops L rest (listed.setIfInBounds k true) (a.put o.dst v)) : c.walkP P ops L ((k, o) :: rest) listed a :=
  Calm.walk_quiet ne he hp hw fun K hK => ⟨v, fun w ⟨x, hx⟩ => by
    subst hx
    unfold Oper.quietAt
    rw [hv x]
    exact ⟨rfl, rfl⟩, hK _ h⟩
theorem Calm.walk_load (ty : TypeId) (x : Operand) (ho : o.op = .load ty x) (ne : Nonempty c.Sub) (he : c.eff.contains k = false) (hw : Region.wanted o (yielded ops a.tmps) = true) (b off : Nat) (hx : a.eval x = .pointer (some ⟨b, off, none⟩)) (cs : Array Value) (d : TypeDesc)
    (hc : ∀ x : c.Sub, (c.at_ x).rangeAt b off cs.toList) (hu : P.underlying ty = some d) (hd : d.isRow = true) (hi : (P.info? ty).map (·.size) = some cs.size)
    (h : c.walkP P ops L rest (listed.setIfInBounds k true) (a.put o.dst (.agg cs))) : c.walkP P ops L ((k, o) :: rest) listed a :=
  Calm.walk_is (.agg cs) ne he (by rw [ho]; rfl) hw (fun y => by
    unfold execOp
    simp only [ho, hx, Sem.run_bind, run_loadAt_mid (P := P) (c.at_ y) b off ty cs.toList d (hc y) hu hd (by simpa using hi), Result.andThen_ok, Sem.run_pure]) h
theorem Calm.walk_build (t : TypeId) (parts : Array (Nat × Operand)) (ho : o.op = .build t parts) (ne : Nonempty c.Sub) (he : c.eff.contains k = false) (hw : Region.wanted o (yielded ops a.tmps) = true) (cs : Array Value) (hb : P.built t (parts.toList.map fun p => (p.1, a.eval p.2)) = some cs)
    (h : c.walkP P ops L rest (listed.setIfInBounds k true) (a.put o.dst (.agg cs))) : c.walkP P ops L ((k, o) :: rest) listed a :=
  Calm.walk_is (.agg cs) ne he (by rw [ho]; rfl) hw (fun y => by
    rw [← Array.toList_map] at hb
    unfold execOp
    simp only [ho, Sem.run_bind, run_build (c.at_ y) t _ cs hb, Result.andThen_ok, Sem.run_pure]) h
end


section
variable {P : Program} {ops : Array Oper} {rest : List Oper} {op : Oper} {a : Act} {w : World} {Q : Exit → Act → World → Prop}
/-- A composite literal whose cells are known. -/
theorem wpList_build_is (t : TypeId) (parts : Array (Nat × Operand)) (ho : op.op = .build t parts) (hgd : op.guard = none) (cs : Array Value) (hb : P.built t (parts.toList.map fun p => (p.1, a.eval p.2)) = some cs)
    (h : wpList P ops Q rest (a.put op.dst (.agg cs)) w) : wpList P ops Q (op :: rest) a w := by
  rw [← Array.toList_map] at hb
  exact wpList_plain hgd fun _ hK => wp_build t parts ho (by rw [hb]; rfl) (hK _ _ (by rw [hb]; exact h))
end

theorem gives_buildSlice {P : Program} {o : Oper} {a : Act} {w : World} {X : Value → World → Prop} (t e : TypeId) (len : Nat) (parts : Array (Nat × Operand)) (ho : o.op = .buildSlice t len parts) {ie : TypeInfo} {z : Value} (hu : P.underlying t = some (.slice e)) (hie : P.info? e = some ie) (hz : ie.zero = some z) (hsmall : ¬ len * ie.size > 2 ^ 24) (hpos : ¬ len * ie.size = 0)
    (vs : List (Nat × Value)) (hvs : parts.toList.map (fun p => (p.1, a.eval p.2)) = vs) (h : Contig (fun i => some (i * ie.size, ie.size)) 0 vs) (hs : (allCells vs).length = len * ie.size)
    (hX : X (.slice (some ⟨w.heap.size, 0, none⟩) len len) (w.alloc (.cells (allCells vs).toArray e))) : gives P o a w X := by
  subst hvs
  rw [← Array.toList_map] at h hs hX
  unfold gives execOp
  simp only [ho, Sem.run_bind, run_buildSlice_whole w t e len _ hu hie hz hsmall hpos h hs, Result.andThen_ok, Sem.run_pure]
  exact hX
theorem wpList_buildSlice_whole {P : Program} {ops : Array Oper} {rest : List Oper} {op : Oper} {a : Act} {w : World} {Q : Exit → Act → World → Prop} (t e : TypeId) (len : Nat) (parts : Array (Nat × Operand)) (ho : op.op = .buildSlice t len parts) (hgd : op.guard = none) {ie : TypeInfo} {z : Value} (hu : P.underlying t = some (.slice e)) (hie : P.info? e = some ie) (hz : ie.zero = some z) (hsmall : ¬ len * ie.size > 2 ^ 24) (hpos : ¬ len * ie.size = 0)
    (vs : List (Nat × Value)) (hvs : parts.toList.map (fun p => (p.1, a.eval p.2)) = vs) (h : Contig (fun i => some (i * ie.size, ie.size)) 0 vs) (hs : (allCells vs).length = len * ie.size)
    (hK : ∀ w', Blk w' w.heap.size e (allCells vs).toArray → Keep none_ w w' → wpList P ops Q rest (a.put op.dst (.slice (some ⟨w.heap.size, 0, none⟩) len len)) w') : wpList P ops Q (op :: rest) a w := by
  subst hvs
  rw [← Array.toList_map] at h hs hK
  refine wpList_plain hgd fun K hK' => ?_
  unfold Oper.wp execOp
  simp only [ho, Sem.run_bind, run_buildSlice_whole w t e len _ hu hie hz hsmall hpos h hs, Result.andThen_ok, Sem.run_pure]
  exact hK' _ _ (hK _ (Blk.new _ _ _) ((Keep.refl _ _).alloc _))
theorem rangeAt_mid {w : World} {b : Nat} {t : TypeId} (p q r : List Value) {cs : List Value} (h : Blk w b t cs.toArray) (e : cs = p ++ (q ++ r)) (n : Nat) (hn : p.length = n) : w.rangeAt b n q := fun j v hv => by
  rw [h.cell, e]
  have hj : j < q.length := (List.getElem?_eq_some_iff.1 hv).1
  simp only [List.getElem?_toArray]
  rw [List.getElem?_append_right (by omega), show n + j - p.length = j by omega, List.getElem?_append_left hj]
  exact hv
theorem fourB {w W0 : World} {t0 t1 t2 t3 : TypeId} {c0 c1 c2 c3 : Array Value} (k : Keep none_ ((((w.alloc (.cells c0 t0)).alloc (.cells c1 t1)).alloc (.cells c2 t2)).alloc (.cells c3 t3)) W0) :
    Blk W0 w.heap.size t0 c0 ∧ Blk W0 (w.heap.size + 1) t1 c1 ∧ Blk W0 (w.heap.size + 1 + 1) t2 c2 ∧ Blk W0 (w.heap.size + 1 + 1 + 1) t3 c3 ∧ Keep none_ w W0 := by
  refine ⟨?_, ?_, ?_, ?_, ((((Keep.refl _ _).alloc _).alloc _).alloc _).alloc _ |>.trans k⟩
  · exact ((((Blk.new w t0 c0).alloc _).alloc _).alloc _).keep k (fun e => e)
  · have := (((Blk.new (w.alloc (.cells c0 t0)) t1 c1).alloc (.cells c2 t2)).alloc (.cells c3 t3)).keep k (fun e => e)
    simpa using this
  · have := ((Blk.new ((w.alloc (.cells c0 t0)).alloc (.cells c1 t1)) t2 c2).alloc (.cells c3 t3)).keep k (fun e => e)
    simpa using this
  · have := (Blk.new (((w.alloc (.cells c0 t0)).alloc (.cells c1 t1)).alloc (.cells c2 t2)) t3 c3).keep k (fun e => e)
    simpa using this
/-- A part of a block is read, also where the load is guarded. -/
theorem wpList_load_part {P : Program} {ops : Array Oper} {rest : List Oper} {op : Oper} {a : Act} {w : World} {Q : Exit → Act → World → Prop} (ty : TypeId) (x : Operand) (ho : op.op = .load ty x) (hgd : Region.wanted op (yielded ops a.tmps) = true)
    (b o : Nat) (hx : a.eval x = .pointer (some ⟨b, o, none⟩)) (cs : Array Value) (d : TypeDesc) (hc : w.rangeAt b o cs.toList)
    (hu : P.underlying ty = some d) (hd : d.isRow = true) (hi : (P.info? ty).map (·.size) = some cs.size)
    (h : wpList P ops Q rest (a.put op.dst (.agg cs)) w) : wpList P ops Q (op :: rest) a w :=
  wpList_load_mid_on hgd ty x ho b o hx cs.toList d hc hu hd (by simpa using hi) (by simpa using h)
theorem rangeAt_keep {w w' : World} {S : Nat → Prop} {b o : Nat} {xs : List Value} (h : w.rangeAt b o xs) (k : Keep S w w') (hS : ¬ S b) : w'.rangeAt b o xs := fun j v hv => k.cell (h j v hv) hS

theorem info_is {P : Program} {t : TypeId} {n : Nat} (h : (P.info? t).map (fun i => (i.zero.isSome, i.size)) = some (true, n)) : ∃ ie z, P.info? t = some ie ∧ ie.zero = some z ∧ ie.size = n := by
  cases hi : P.info? t with
  | none => simp [hi] at h
  | some ie =>
    simp only [hi, Option.map_some, Option.some.injEq, Prod.mk.injEq] at h
    obtain ⟨z, hz⟩ := Option.isSome_iff_exists.1 h.1
    exact ⟨ie, z, rfl, hz, h.2⟩

end Go.Proofs.YtebdgoikmclflaaGreatDoor
