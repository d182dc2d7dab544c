/-
  A region that appends to a row of the call's own and draws its order.
-/
import Derived.Test.YtnpkhbcbbbpjhaaWords
namespace Go.Proofs.Ytnpkhbcbbbpjhaa
open Go.RowKit

/-- The blocks of a value's own. -/
def ofBlk (v : Value) : Nat → Prop := fun k => v.ownBlock = some k

section
variable {P : Program} {o : Oper} {a : Act} {w : World}
theorem gives_append (s x : Operand) (t e : TypeId) (ho : o.op = .call { callee := .builtin .append, args := #[s, x], argTypes := #[t, t] }) (base : Nat) (zv : Value) (size bytes : Nat)
    (ht : P.underlying t = some (.slice e)) (hinfo : (P.info? e).map (fun i => (i.zero, i.size, i.bytes)) = some (some zv, size, bytes)) (hzs : zv.cells.size = size) (hsz : 0 < size)
    (v : Value) (n : Nat) (xs : List Value) (hs : a.eval s = v) (hown : w.ownsRow base e size v n xs) (ad : Addr) (m c : Nat) (news : List Value) (hx : a.eval x = .slice (some ad) m c) (hl : news.length = m * size) (hnews : ∀ j u, news[j]? = some u → w.cell? (ad.add j) = some u)
    (h1 : ∀ u ∈ news, u.oneCell' = true) (hn : (n + m) * (bytes + 1) ≤ 140737488355328) (hbase : base ≤ w.heap.size) :
    gives P o a w fun v' w' => w'.ownsRow base e size v' (n + m) (xs ++ news) ∧ Keep (ofBlk v) w w' ∧ (v' = .slice none 0 0 ↔ v = .slice none 0 0 ∧ m = 0) := by
  obtain ⟨i, hi, hz0, hz1, hz2⟩ := info_parts hinfo
  have hbb : (n + m) * bytes ≤ (n + m) * (bytes + 1) := Nat.mul_le_mul_left _ (by omega)
  have hnn : (n + m) * 1 ≤ (n + m) * (bytes + 1) := Nat.mul_le_mul_left _ (by omega)
  obtain ⟨v', w', hr, h2, h3, h4⟩ := run_append_own (P := P) w base t o.type e i zv size bytes ht hi hz0 hz1 hz2 hzs hsz v n xs hown ad m c news hl hnews h1 (by unfold maxLen; omega) (by omega) hbase
  unfold gives execOp
  simp only [ho, resolve, invoke, builtin, Sem.run_bind, Sem.run_pure, Result.andThen_ok, List.map_toArray, List.map_cons, List.map_nil, hs, hx, hr]
  exact ⟨h2, Keep.ofGrown h3, h4⟩
/-- 'append(s, x)': one element in a block of its own. -/
theorem gives_append1 (s x : Operand) (t e : TypeId) (ho : o.op = .call { callee := .builtin .append, args := #[s, x], argTypes := #[t, t] }) (base : Nat) (zv : Value) (size bytes : Nat)
    (ht : P.underlying t = some (.slice e)) (hinfo : (P.info? e).map (fun i => (i.zero, i.size, i.bytes)) = some (some zv, size, bytes)) (hzs : zv.cells.size = size) (hsz : 0 < size)
    (v : Value) (n : Nat) (xs : List Value) (hs : a.eval s = v) (hown : w.ownsRow base e size v n xs) (b : Nat) (us : Array Value) (hx : a.eval x = .slice (some ⟨b, 0, none⟩) 1 1) (hb : Blk w b e us) (hus : us.size = size) (h1 : ∀ u ∈ us.toList, u.oneCell' = true)
    (hn : (n + 1) * (bytes + 1) ≤ 140737488355328) (hbase : base ≤ w.heap.size) :
    gives P o a w fun v' w' => w'.ownsRow base e size v' (n + 1) (xs ++ us.toList) ∧ Keep (ofBlk v) w w' ∧ (v' = .slice none 0 0 ↔ v = .slice none 0 0 ∧ 1 = 0) :=
  gives_append s x t e ho base zv size bytes ht hinfo hzs hsz v n xs hs hown ⟨b, 0, none⟩ 1 1 us.toList hx (by simp [hus]) (fun j u hu => by
    rw [Addr.add_mid, Nat.zero_add, hb.cell]
    simpa using hu) h1 hn hbase
end

theorem gives_mono {P : Program} {o : Oper} {a : Act} {w : World} {X Y : Value → World → Prop} (h : gives P o a w X) (hXY : ∀ v w', X v w' → Y v w') : gives P o a w Y := by
  unfold gives at *
  generalize (execOp a.eval o).run P w = r at *
  cases r with
  | ok n w' =>
    cases n <;> simp only at h ⊢
    case value v => exact hXY _ _ h
    case skip => exact hXY _ _ h
    case enter f args =>
      refine h.mono ?_
      rintro e w'' ⟨v, rfl, hX⟩
      exact ⟨v, rfl, hXY _ _ hX⟩
  | halt x w' => exact h

/-- The facts of a region in which operation k1 makes the block of the new elements, and operation k2 appends them to a row whose block is of S. -/
def appCalm (wr : World) (S : Nat → Prop) (k1 k2 : Nat) (t : TypeId) (cs : Array Value) (X : Value → World → Prop) : Calm where
  R := fun i => if i = k2 then Keep S else Keep none_
  G := fun n w => Keep S wr w ∧ (n ≤ 1 → Keep none_ wr w)
  eff := [k1, k2]
  T := fun i _ v w' => if i = k2 then X v w' else madeT wr.heap.size t cs (fun a => .slice (some a) 1 1) v w'
  anc := fun i => if i = k2 then [k1] else []
  own := fun _ _ _ => False
theorem appCalm_good {wr : World} {S : Nat → Prop} {k1 k2 : Nat} {t : TypeId} {cs : Array Value} {X : Value → World → Prop} (hS : ∀ b, S b → b < wr.heap.size) (hX : ∀ v w w', X v w → Keep none_ w w' → X v w') : (appCalm wr S k1 k2 t cs X).Good where
  mono := fun _ _ h => ⟨h.1, fun hn => h.2 (by omega)⟩
  size := fun i _ _ h => by
    simp only [appCalm] at h
    split at h <;> exact h.size
  stable := fun i k vs v w1 w2 _ hne h hR => by
    simp only [appCalm] at h hR ⊢
    by_cases hk : k = k2
    · rw [if_pos hk] at h ⊢
      rw [if_neg (fun e => hne (e.trans hk.symm))] at hR
      exact hX _ _ _ h hR
    · rw [if_neg hk] at h ⊢
      split at hR
      · exact h.stable hR hS
      · exact h.stable (S := none_) hR fun _ e => e.elim
theorem appCalm_at {wr : World} {S : Nat → Prop} {k1 k2 : Nat} {t : TypeId} {cs : Array Value} {X : Value → World → Prop} (x : (appCalm wr S k1 k2 t cs X).Sub) : Keep S wr ((appCalm wr S k1 k2 t cs X).at_ x) := by
  obtain ⟨x, n, _, h⟩ := x
  exact h.1
theorem appCalm_some (wr : World) (S : Nat → Prop) (k1 k2 : Nat) (t : TypeId) (cs : Array Value) (X : Value → World → Prop) : Nonempty (appCalm wr S k1 k2 t cs X).Sub := ⟨⟨wr, 0, Nat.zero_le _, Keep.refl _ _, fun _ => Keep.refl _ _⟩⟩
theorem own_lt {w : World} {base : Nat} {e : TypeId} {size : Nat} {v : Value} {n : Nat} {xs : List Value} (h : w.ownsRow base e size v n xs) (b : Nat) (hb : ofBlk v b) : b < w.heap.size := (h.lt b hb).2
theorem own_ge {w : World} {base : Nat} {e : TypeId} {size : Nat} {v : Value} {n : Nat} {xs : List Value} (h : w.ownsRow base e size v n xs) (b : Nat) (hb : ofBlk v b) : base ≤ b := (h.lt b hb).1
end Go.Proofs.Ytnpkhbcbbbpjhaa
