/-
  cutroomref37.Run.
-/
import Derived.Test.YtnefbeplgfdkkaaGreatDoorRu46
import Derived.Test.YtnefbeplgfdkkaaGreatDoorRu22
import Derived.Test.YtnefbeplgfdkkaaGreatDoorRu23
import Derived.Test.YtnefbeplgfdkkaaGreatDoorRu24
import Derived.Test.YtnefbeplgfdkkaaGreatDoorRu26
namespace Go.Proofs.YtnefbeplgfdkkaaGreatDoor
open Go.RowKit

/-- 'append': the new row lies where the old one lay, or in new memory. -/
theorem gives_append_loc {P : Program} {o : Oper} {a : Act} {w : World} (s x : Operand) (t e : TypeId) (ho : o.op = .call { callee := .builtin .append, args := #[s, x], argTypes := #[t, t] }) (base : Nat) (size bytes : Nat)
    (ht : P.underlying t = some (.slice e)) {ie : TypeInfo} {z : Value} (hie : P.info? e = some ie) (hz : ie.zero = some z) (hsize : ie.size = size) (hby : ie.bytes = bytes) (hzs : z.cells.size = size) (hsz : 0 < size)
    (v : Value) (n : Nat) (xs : List Value) (hs : a.eval s = v) (hown : w.ownsRow base e size v n xs) (A : Option Addr) (m c : Nat) (news : List Value) (S : Nat → Prop) (hx : a.eval x = .slice A m c) (hr : Row w S size A m c news) (h1 : ∀ u ∈ news, u.oneCell' = true)
    (hn : (n + m) * bytes ≤ 140737488355328) (hnm : n + m ≤ maxLen) (hbase : base ≤ w.heap.size) :
    gives P o a w fun v' w' => w'.ownsRow base e size v' (n + m) (xs ++ news) ∧ Keep (ofBlk v) w w' ∧ Pre n m size e news w w' ∧ ∀ b, ofBlk v' b → ofBlk v b ∨ w.heap.size ≤ b := by
  subst hsize hby
  have hl := hr.len
  by_cases h0 : m = 0
  · subst h0
    have hcs : news = [] := List.eq_nil_of_length_eq_zero (by simpa using hl)
    subst hcs
    have hrun : (Builtin.append_ #[t, t] o.type #[v, .slice A 0 c]).run P w = .ok v w := by
      rcases hown.2 with ⟨rfl, rfl⟩ | ⟨g, cap, cur, rfl, -, -, hnc, -⟩ <;> cases A <;> simp [Builtin.append_, run_underlying ht, sizeOf, typeInfo, Builtin.lenOf, Builtin.firstCells, loadCells, loadCellsFrom, storeCells, *]
    unfold gives execOp
    simp only [ho, resolve, invoke, builtin, Sem.run_bind, Sem.run_pure, Result.andThen_ok, List.map_toArray, List.map_cons, List.map_nil, hs, hx, hrun]
    exact ⟨by simpa using hown, (Keep.refl _ _), Pre.same (Keep.refl _ _), fun _ h => .inl h⟩
  · obtain ⟨b2, o2, rfl, -, hc⟩ := hr.at_ (by omega)
    have hnews : ∀ j u, news[j]? = some u → w.cell? ((⟨b2, o2, none⟩ : Addr).add j) = some u := fun j u hu => by rw [Addr.add_mid]; exact hc j u hu
    obtain ⟨v', w', hrun, ho', hgr, -⟩ := run_append_own (P := P) w base t o.type e ie z ie.size ie.bytes ht hie hz rfl rfl hzs hsz v n xs hown ⟨b2, o2, none⟩ m c news hl hnews h1 hnm hn hbase
    have hp : Pre n m ie.size e news w w' := by
      unfold maxLen at hnm
      rcases hown.2 with ⟨rfl, rfl⟩ | ⟨g, cap, cur, rfl, hbg, hg, hnc, hcm, hcs, htake⟩
      · have hr2 := run_append_nil (P := P) w t o.type e ie z ht hie hz ⟨b2, o2, none⟩ m c news hl hnews (by omega) (by omega) (by simp only [Nat.zero_add] at hn; omega)
        rw [hrun] at hr2
        simp only [Result.ok.injEq] at hr2
        obtain ⟨-, rfl⟩ := hr2
        exact Pre.same (((Keep.refl none_ w).drew).alloc _)
      · by_cases hroom : n + m ≤ cap
        · have hmul : (n + m) * ie.size ≤ cap * ie.size := Nat.mul_le_mul_right _ hroom
          have hmn : (n + m) * ie.size = n * ie.size + m * ie.size := Nat.add_mul _ _ _
          have hr2 := run_append_room (P := P) w t o.type e ie ht hie g n cap cur hg ⟨b2, o2, none⟩ m c news hl hnews h1 hroom (by omega)
          rw [hrun] at hr2
          simp only [Result.ok.injEq] at hr2
          obtain ⟨-, rfl⟩ := hr2
          intro g' cur' hg'
          by_cases hgg : g' = g
          · subst hgg
            rw [hg] at hg'
            injection hg' with hg'
            injection hg' with hg'
            subst hg'
            exact ⟨_, setRow_heap w _ _ _ e _ hg, .inr ⟨by omega, by omega, rfl⟩⟩
          · exact ⟨cur', (setRow_other w g g' _ hgg).trans hg', .inl rfl⟩
        · have holds : ∀ j u, xs[j]? = some u → w.cell? ((⟨g, 0, none⟩ : Addr).add j) = some u := hown.cells (g := g) rfl
          have hr2 := run_append_grow (P := P) w t o.type e ie z ht hie hz ⟨g, 0, none⟩ n cap xs hown.1 holds ⟨b2, o2, none⟩ m c news hl hnews (by omega) (by omega) (growslice_fits (by omega) hn)
          rw [hrun] at hr2
          simp only [Result.ok.injEq] at hr2
          obtain ⟨-, rfl⟩ := hr2
          exact Pre.same (((Keep.refl none_ w).drew).alloc _)
    have hloc : ∀ b, ofBlk v' b → ofBlk v b ∨ w.heap.size ≤ b := by
      unfold maxLen at hnm
      rcases hown.2 with ⟨rfl, rfl⟩ | ⟨g, cap, cur, rfl, hbg, hg, hnc, hcm, hcs, htake⟩
      · have hr2 := run_append_nil (P := P) w t o.type e ie z ht hie hz ⟨b2, o2, none⟩ m c news hl hnews (by omega) (by omega) (by simp only [Nat.zero_add] at hn; omega)
        rw [hrun] at hr2
        simp only [Result.ok.injEq] at hr2
        obtain ⟨rfl, -⟩ := hr2
        intro b hb
        simp only [ofBlk, Value.ownBlock, Option.some.injEq] at hb
        exact .inr (Nat.le_of_eq hb)
      · by_cases hroom : n + m ≤ cap
        · have hmul : (n + m) * ie.size ≤ cap * ie.size := Nat.mul_le_mul_right _ hroom
          have hmn : (n + m) * ie.size = n * ie.size + m * ie.size := Nat.add_mul _ _ _
          have hr2 := run_append_room (P := P) w t o.type e ie ht hie g n cap cur hg ⟨b2, o2, none⟩ m c news hl hnews h1 hroom (by omega)
          rw [hrun] at hr2
          simp only [Result.ok.injEq] at hr2
          obtain ⟨rfl, -⟩ := hr2
          exact fun b hb => .inl hb
        · have holds : ∀ j u, xs[j]? = some u → w.cell? ((⟨g, 0, none⟩ : Addr).add j) = some u := hown.cells (g := g) rfl
          have hr2 := run_append_grow (P := P) w t o.type e ie z ht hie hz ⟨g, 0, none⟩ n cap xs hown.1 holds ⟨b2, o2, none⟩ m c news hl hnews (by omega) (by omega) (growslice_fits (by omega) hn)
          rw [hrun] at hr2
          simp only [Result.ok.injEq] at hr2
          obtain ⟨rfl, -⟩ := hr2
          intro b hb
          simp only [ofBlk, Value.ownBlock, Option.some.injEq] at hb
          exact .inr (Nat.le_of_eq hb)
    unfold gives execOp
    simp only [ho, resolve, invoke, builtin, Sem.run_bind, Sem.run_pure, Result.andThen_ok, List.map_toArray, List.map_cons, List.map_nil, hs, hx, hrun]
    exact ⟨ho', Keep.ofGrown hgr, hp, hloc⟩

/-- The blocks of S, and those from base on that are no list of a state and hold no items. -/
def rsB (S : Nat → Prop) (base : Nat) (w : World) : Nat → Prop := fun b => S b ∨ (base ≤ b ∧ ∃ t cs, Blk w b t cs ∧ t ≠ 9 ∧ t ≠ 72 ∧ t ≠ 57 ∧ t ≠ 107)
theorem rsB.backQ {S Q : Nat → Prop} {base : Nat} {w w' : World} (k : Keep Q w w') (hQ : ∀ b, Q b → rsB S base w b) (b : Nat) (h : rsB S base w' b) : orr (rsB S base w) w.heap.size b := by
  rcases Nat.lt_or_ge b w.heap.size with hl | hl
  · rcases Classical.em (Q b) with hq | hq
    · exact .inl (hQ b hq)
    · rcases h with h | ⟨h1, t, cs, h2, h3⟩
      · exact .inl (.inl h)
      · exact .inl (.inr ⟨h1, t, cs, (k.block b hl hq).symm.trans h2, h3⟩)
  · exact .inr hl
theorem nameOk_sz {x : ByteArray} (h : nameOk x = true) : Szd x := by
  unfold nameOk at h
  simp only [Bool.and_eq_true, decide_eq_true_eq] at h
  unfold Szd maxLen
  omega
theorem namesOk_sz {l : List ByteArray} (h : namesOk l = true) : ∀ x ∈ l, Szd x := fun x hx => nameOk_sz (((namesOk_iff _).1 h).1 x hx)
theorem V.szs {s : St} (h : V s) : SzS s := ⟨namesOk_sz h.pr, fun y hy => nameOk_sz (h.wo y hy), fun j hj => ⟨nameOk_sz (h.jb j hj).1, namesOk_sz (h.jb j hj).2.1⟩⟩
theorem RSt.step {X : XP} {w w' : World} {base lo : Nat} {S Q : Nat → Prop} {v : Value} {s : St} (h : RSt X w base (rsB S lo w) v s) (k : Keep Q w w') (hQ : ∀ b, Q b → rsB S lo w b)
    (hv : ∀ b t cs, Blk w b t cs → Q b → t ≠ 9 ∧ t ≠ 57 ∧ t ≠ 107) : RSt X w' base (rsB S lo w') v s := by
  obtain ⟨vp, vj, vw, e, h1, ⟨css, a1, a2, a3, a4⟩, h3⟩ := h
  have far : ∀ {ty : TypeId} {size n : Nat} {u : Value} {xs : List Value}, w.ownsRow base ty size u n xs → (ty = 9 ∨ ty = 57 ∨ ty = 107) → ∀ b, u.ownBlock = some b → ¬ Q b := fun {ty size n u xs} ho ht b hb hq => by
    rcases ho.2 with ⟨rfl, -⟩ | ⟨g, cap, cur, rfl, -, e3, -⟩
    · cases hb
    · simp only [Value.ownBlock, Option.some.injEq] at hb
      subst hb
      obtain ⟨n1, n2, n3⟩ := hv g _ _ e3 hq
      rcases ht with e | e | e
      · exact n1 e
      · exact n2 e
      · exact n3 e
  refine ⟨vp, vj, vw, e, own_keep h1 k (far h1 (.inl rfl)), ⟨css, a1, a2, own_keep a3 k (far a3 (.inr (.inl rfl))), fun i cs x hi hx => (((a4 i cs x hi hx).orr).keep (k.mono (fun b hb => .inl (.inl (hQ b hb))))).sub (fun b hb => ?_)⟩, own_keep h3 k (far h3 (.inr (.inr rfl)))⟩
  rcases hb with hb | hb
  · exact (rsB.backQ k hQ b hb).imp .inl id
  · exact .inl (.inr hb)
theorem RSt.quiet {X : XP} {w w' : World} {base lo : Nat} {S : Nat → Prop} {v : Value} {s : St} (h : RSt X w base (rsB S lo w) v s) (k : Keep none_ w w') : RSt X w' base (rsB S lo w') v s := h.step k (fun _ e => e.elim) (fun _ _ _ _ e => e.elim)
/-- A write to one block of another type. -/
theorem RSt.blk {X : XP} {w w' : World} {base lo x : Nat} {S : Nat → Prop} {v : Value} {s : St} {t : TypeId} {cs : Array Value} (h : RSt X w base (rsB S lo w) v s) (k : Keep (one x) w w') (hx : lo ≤ x) (hb : Blk w x t cs) (h1 : t ≠ 9) (h2 : t ≠ 57) (h3 : t ≠ 107) (h4 : t ≠ 72) : RSt X w' base (rsB S lo w') v s :=
  h.step k (fun b e => by cases e; exact .inr ⟨hx, t, cs, hb, h1, h4, h2, h3⟩) (fun b t' cs' hb' e => by
    cases e
    have e1 : w.heap[x]? = _ := hb
    have e2 : w.heap[x]? = _ := hb'
    rw [e1] at e2
    simp only [Option.some.injEq, Obj.cells.injEq] at e2
    obtain ⟨-, rfl, -⟩ := e2
    exact ⟨h1, h2, h3⟩)
/-- A write to a row of another type. -/
theorem RSt.row {X : XP} {w w' : World} {base lo : Nat} {S : Nat → Prop} {v u : Value} {s : St} {t : TypeId} {size n : Nat} {xs : List Value} (h : RSt X w base (rsB S lo w) v s) (k : Keep (ofBlk u) w w') (ho : w.ownsRow lo t size u n xs) (h1 : t ≠ 9) (h2 : t ≠ 57) (h3 : t ≠ 107) (h4 : t ≠ 72) : RSt X w' base (rsB S lo w') v s := by
  rcases ho.2 with ⟨rfl, -⟩ | ⟨g, cap, cur, rfl, hg, e3, -⟩
  · exact h.step k (fun b e => by cases e) (fun b _ _ _ e => by cases e)
  · have k' : Keep (one g) w w' := k.mono (fun b e => by simp only [ofBlk, Value.ownBlock, Option.some.injEq] at e; exact e.symm)
    exact h.blk k' hg e3 h1 h2 h3 h4
def RRunPost (X : XP) (S : Nat → Prop) (s : St) (l : List Ev) (w : World) (en : Ending) (w' : World) : Prop :=
  ∃ v' vo ve, en = .returned (.tuple #[v', vo, ve]) ∧ RSt X w' w.heap.size (rsB S w.heap.size w') v' (runS s l) ∧ OutsOf w' vo (runO s l) ∧ ErrsOf w' ve (runE s l) ∧ Keep none_ w w'
theorem errs_own {w : World} {base : Nat} {v : Value} {es : List Int} (h : w.ownsRow base 37 1 v es.length (es.map (Value.int .i64))) : ErrsOf w v es := by
  obtain ⟨A, c, e, r⟩ := own_row (S := none_) h (fun _ _ e => e)
  exact ⟨A, c, e, r⟩

theorem ot_one {l : List Ot} {u : Value} (hu : u ∈ otCells l) : u.oneCell' = true := by
  unfold otCells at hu
  obtain ⟨y, -, hy⟩ := List.mem_flatMap.1 hu
  simp only [List.mem_cons, List.not_mem_nil, or_false] at hy
  rcases hy with rfl | rfl | rfl <;> rfl
theorem own_rsB {w : World} {lo : Nat} {S : Nat → Prop} {t : TypeId} {size n : Nat} {u : Value} {xs : List Value} (ho : w.ownsRow lo t size u n xs) (h1 : t ≠ 9) (h2 : t ≠ 57) (h3 : t ≠ 107) (h4 : t ≠ 72) (b : Nat) (hb : ofBlk u b) : rsB S lo w b := by
  rcases ho.2 with ⟨rfl, -⟩ | ⟨g, cap, cur, rfl, hg, e3, -⟩
  · cases hb
  · simp only [ofBlk, Value.ownBlock, Option.some.injEq] at hb
    subst hb
    exact .inr ⟨hg, t, cur, e3, h1, h4, h2, h3⟩
/-- A variable of type State. -/
def VarS (w : World) (b : Nat) : Prop := ∃ cs : Array Value, cs.size = 4 ∧ Blk w b 48 cs
theorem VarS.keep {w w' : World} {S : Nat → Prop} {b : Nat} (h : VarS w b) (k : Keep S w w') (hb : ¬ S b) : VarS w' b := by
  obtain ⟨cs, h1, h2⟩ := h
  exact ⟨cs, h1, h2.keep k hb⟩
def rstT (X : XP) (S : Nat → Prop) (lo n0 : Nat) (st : St) (e : Ev) (v : Value) (u : World) : Prop :=
  ∃ v' vo, v = .tuple #[v', vo, .int .i64 (stepE st e)] ∧ RSt X u lo (rsB S lo u) v' (stepS st e) ∧ u.ownsRow lo 125 3 vo (stepO st e).length (otCells (stepO st e)) ∧ ∀ b, ofBlk vo b → n0 ≤ b
/-- The facts of 'next, o, e := Step(now, l[i])'. -/
def rnR (n0 : Nat) (i : Nat) (a b : World) : Prop := if i = 11 then ∃ bk, n0 ≤ bk ∧ VarS a bk ∧ VarS b bk ∧ Keep (one bk) a b else Keep none_ a b
def rnCalm (wr : World) (X : XP) (S : Nat → Prop) (lo : Nat) (st : St) (e : Ev) : Calm where
  R := rnR wr.heap.size
  G := fun _ => Keep none_ wr
  eff := [5, 10, 11]
  T := fun k vs v u => if k = 5 then rstT X S lo wr.heap.size st e v u else if k = 10 then ∃ b, wr.heap.size ≤ b ∧ v = .pointer (some ⟨b, 0, none⟩) ∧ VarS u b else ∃ b xs, vs.getD 0 undef = .pointer (some ⟨b, 0, none⟩) ∧ vs.getD 1 undef = .agg xs ∧ Blk u b 48 xs
  anc := fun k => if k = 11 then [10] else []
  own := fun _ _ _ => False
theorem rnCalm_good {wr : World} {X : XP} {S : Nat → Prop} {lo : Nat} {st : St} {e : Ev} (hlo : lo ≤ wr.heap.size) : (rnCalm wr X S lo st e).Good where
  mono := fun _ _ h => h
  size := fun i _ _ h => by
    simp only [rnCalm, rnR] at h
    split at h
    · obtain ⟨_, _, _, _, h⟩ := h; exact h.size
    · exact h.size
  stable := fun i k vs v w1 w2 he hne h hR => by
    simp only [rnCalm, List.contains_cons, List.contains_nil, Bool.or_false, Bool.or_eq_true, beq_iff_eq] at he
    simp only [rnCalm, rnR] at h hR ⊢
    split at hR
    · rename_i i11
      obtain ⟨bk, g1, ⟨cs, g2, g3⟩, g4, g5⟩ := hR
      by_cases k5 : k = 5
      · rw [if_pos k5] at h ⊢
        obtain ⟨v', vo, h1, h2, h3, h4⟩ := h
        exact ⟨v', vo, h1, h2.blk g5 (Nat.le_trans hlo g1) g3 (by decide) (by decide) (by decide) (by decide), own_keep h3 g5 (own_apart h3 g3 (by decide)), h4⟩
      · rw [if_neg k5] at h ⊢
        by_cases k10 : k = 10
        · rw [if_pos k10] at h ⊢
          obtain ⟨b, h1, h2, h3⟩ := h
          refine ⟨b, h1, h2, ?_⟩
          by_cases eb : b = bk
          · rw [eb]; exact g4
          · exact h3.keep g5 eb
        · omega
    · by_cases k5 : k = 5
      · rw [if_pos k5] at h ⊢
        obtain ⟨v', vo, h1, h2, h3, h4⟩ := h
        exact ⟨v', vo, h1, h2.quiet hR, own_keep h3 hR (fun _ _ e => e), h4⟩
      · rw [if_neg k5] at h ⊢
        by_cases k10 : k = 10
        · rw [if_pos k10] at h ⊢
          obtain ⟨b, h1, h2, h3⟩ := h
          exact ⟨b, h1, h2, h3.keep hR (fun e => e)⟩
        · rw [if_neg k10] at h ⊢
          obtain ⟨b, xs, h1, h2, h3⟩ := h
          exact ⟨b, xs, h1, h2, h3.keep hR (fun e => e)⟩
theorem rnCalm_at {wr : World} {X : XP} {S : Nat → Prop} {lo : Nat} {st : St} {e : Ev} (x : (rnCalm wr X S lo st e).Sub) : Keep none_ wr ((rnCalm wr X S lo st e).at_ x) := by
  obtain ⟨x, n, _, h⟩ := x
  exact h
theorem rnCalm_some (wr : World) (X : XP) (S : Nat → Prop) (lo : Nat) (st : St) (e : Ev) : Nonempty (rnCalm wr X S lo st e).Sub := ⟨⟨wr, 0, Nat.zero_le _, Keep.refl _ _⟩⟩
/-- The facts of 'now, out = next, append(out, o...)'. -/
def nowR (S : Nat → Prop) (gN : Nat) (i : Nat) (a b : World) : Prop := if i = 3 then Keep S a b else if i = 4 then Keep (one gN) a b else Keep none_ a b
def nowCalm (wr : World) (S : Nat → Prop) (gN lo : Nat) (cs : Array Value) (n : Nat) (xs : List Value) (vo : Value) (no : Nat) (xo : List Value) : Calm where
  R := nowR S gN
  G := fun _ w => Keep (fun b => S b ∨ b = gN) wr w ∧ w.ownsRow lo 125 3 vo no xo ∧ (∃ cz, cz.size = 4 ∧ Blk w gN 48 cz)
  eff := [3, 4]
  T := fun k _ v u => if k = 3 then u.ownsRow lo 125 3 v n xs ∧ ∀ b, ofBlk v b → (S b ∨ wr.heap.size ≤ b) ∧ b ≠ gN else Blk u gN 48 cs
  anc := fun _ => []
  own := fun _ _ _ => False
theorem nowCalm_good {wr : World} {S : Nat → Prop} {gN lo : Nat} {cs : Array Value} {n : Nat} {xs : List Value} {vo : Value} {no : Nat} {xo : List Value} (hS : ¬ S gN) : (nowCalm wr S gN lo cs n xs vo no xo).Good where
  mono := fun _ _ h => h
  size := fun i _ _ h => by
    simp only [nowCalm, nowR] at h
    split at h
    · exact h.size
    · split at h <;> exact h.size
  stable := fun i k _ v w1 w2 he hne h hR => by
    simp only [nowCalm, List.contains_cons, List.contains_nil, Bool.or_false, Bool.or_eq_true, beq_iff_eq] at he
    simp only [nowCalm, nowR] at h hR ⊢
    by_cases hk : k = 3
    · rw [if_pos hk] at h ⊢
      rw [if_neg (fun e => hne (e.trans hk.symm))] at hR
      split at hR
      · exact ⟨own_keep h.1 hR (fun b hb e => (h.2 b hb).2 e), h.2⟩
      · exact ⟨own_keep h.1 hR (fun _ _ e => e), h.2⟩
    · rw [if_neg hk] at h ⊢
      have hk4 : k = 4 := by omega
      split at hR
      · exact h.keep hR hS
      · rw [if_neg (fun e => hne (e.trans hk4.symm))] at hR
        exact h.keep hR (fun e => e)
theorem nowCalm_at {wr : World} {S : Nat → Prop} {gN lo : Nat} {cs : Array Value} {n : Nat} {xs : List Value} {vo : Value} {no : Nat} {xo : List Value} (x : (nowCalm wr S gN lo cs n xs vo no xo).Sub) : Keep (fun b => S b ∨ b = gN) wr ((nowCalm wr S gN lo cs n xs vo no xo).at_ x) := by
  obtain ⟨x, n, _, h⟩ := x
  exact h.1
theorem nowCalm_some {wr : World} {S : Nat → Prop} {gN lo : Nat} {cs cz : Array Value} {n : Nat} {xs : List Value} {vo : Value} {no : Nat} {xo : List Value} (h : wr.ownsRow lo 125 3 vo no xo) (hz : cz.size = 4) (hb : Blk wr gN 48 cz) : Nonempty (nowCalm wr S gN lo cs n xs vo no xo).Sub := ⟨⟨wr, 0, Nat.zero_le _, Keep.refl _ _, h, cz, hz, hb⟩⟩

set_option maxRecDepth 100000 in
set_option maxHeartbeats 2000000 in
theorem rrun_any (X : XP) (s : St) (l : List Ev) (v vl : Value) (S : Nat → Prop) (w : World) (h : StateX X w S v s) (hl : EvsOf w S vl l) (hS : ∀ b, S b → b < w.heap.size) (hz : SzS s) (hze : ∀ e ∈ l, SzE e) (hin : ∀ e ∈ l, e.items.length * 296 ≤ 140737488355328)
    (hX : ∀ e ∈ l, e.kind = 7 → XFits X e.items.length) (hn : l.length ≤ 64) :
    Calls Tryz.prog 15 #[v, vl] w (RRunPost X S s l w) := by
  obtain ⟨P1, P2, P3, P4, P5, P6, P7, P8, P9, rfl, -⟩ := h.state.lists
  obtain ⟨Al, nl, cl, rfl, hlr⟩ := (id hl : EvsOf w S vl l)
  have hln : l.length = nl := hlr.2.2.1
  have hlc := hlr.1
  have hlm := hlr.2.1
  unfold maxLen at hlm
  obtain ⟨W0, hW0⟩ : ∃ W0, W0 = (w.alloc (.cells #[.int .i64 s.now, .slice P1 P2 P3, .slice P4 P5 P6, .slice P7 P8 P9] 48)).alloc (.cells #[.int .i64 0, .slice none 0 0, .slice none 0 0, .slice none 0 0] 48) := ⟨_, rfl⟩
  obtain ⟨b0, b1, k0⟩ := two (w := w) (t0 := 48) (c0 := #[.int .i64 s.now, .slice P1 P2 P3, .slice P4 P5 P6, .slice P7 P8 P9]) (t1 := 48) (c1 := #[.int .i64 0, .slice none 0 0, .slice none 0 0, .slice none 0 0]) (w1 := W0) (hW0 ▸ Keep.refl none_ W0)
  have H0 := Lib.hid (h.orr.keep k0.weak)
  have EL := Lib.hid (show EvsOf w (orr S w.heap.size) (.slice Al nl cl) l from ElemsOf.orr hl (by decide) (fun _ _ ⟨vn, vi, e, h1, h2⟩ => ⟨vn, vi, e, h1.orr, h2.orr⟩))
  have VA := Lib.hid (rvalid_any s hz _ _ W0 H0.out.state)
  have B0 := Lib.hid b0
  have B1 := Lib.hid b1
  have K0 := Lib.hid k0
  have HS := Lib.hid hS
  have HZE := Lib.hid hze
  have HIN := Lib.hid hin
  have HX := Lib.hid hX
  have HLN := Lib.hid hln
  have hnl : nl ≤ 64 := by omega
  have l0 := b1.lt
  have sz0 := k0.size
  clear h hl hlr b0 b1 k0 hze hin hX hln hS
  go_enter Tryz.func15, Tryz.ntmps15
  go_upto_region 1 with (fail)
  rw [← hW0]
  clear hW0
  cases hv : validF s with
  | false =>
    rw [hv] at VA
    have t1 : True := trivial
    go_upto_region 4 with (first | (have _t := t1; refine wpList_load_part 48 (.tmp 2) rfl rfl w.heap.size 0 rfl #[.int .i64 s.now, .slice P1 P2 P3, .slice P4 P5 P6, .slice P7 P8 P9] _ B0.out.rangeAt Tryz.underlying48 rfl (by kernel_rfl) ?_; go_frame; clear _t t1) | (go_at_call 18; refine VA.out.mono ?_; rintro en w1 ⟨rfl, k1⟩; have K1 := Lib.hid k1; have R1 := Lib.hid (B1.out.keep k1 (fun e => e)); clear k1))
    have zs := zero_state w1
    have t3 : True := trivial
    have lw1 := K1.out.size
    go_upto_region 5 with (have _t := t3; refine wpList_store_blk rfl 48 (.tmp 10) (.tmp 17) rfl w1.heap.size 48 _ _ rfl rfl (Blk.new _ _ _) rfl (by kernel_rfl) (by simp [Value.oneCell']) ?_; intro w4 b4 k4 s4; go_frame; clear _t t3)
    have k14 : Keep none_ w1 w4 := ((Keep.refl none_ w1).alloc _).own k4 (Nat.le_refl _)
    have K4 := Lib.hid ((K0.out.trans K1.out).trans k14)
    have B4 := Lib.hid b4
    have R4 := Lib.hid (R1.out.keep k14 (fun e => e))
    have E1 := Lib.hid (show runS s l = zeroSt by unfold runS; rw [hv]; rfl)
    have E2 := Lib.hid (show runO s l = [] by unfold runO; rw [hv]; rfl)
    have E3 := Lib.hid (show runE s l = List.replicate nl 1 by unfold runE; rw [hv, ← HLN.out]; simp [List.map_const'])
    have lw4 := K4.out.size
    have lb4 := b4.lt
    have w1l : w.heap.size + 1 < w1.heap.size := R1.out.lt
    clear k4 s4 b4 k14 zs hv VA H0 B0 B1 K1 R1 EL
    go_upto_region 8 with (fail)
    go_loopw [7, 8, 11] (fun o r i wr => ∃ k : Nat, k ≤ nl ∧ i = .int .i64 k ∧ o = .slice none 0 0 ∧ wr.ownsRow w4.heap.size 37 1 r k ((List.replicate k (1 : Int)).map (Value.int .i64)) ∧ Keep none_ w4 wr) (fun o r i _ => nl - (intOf i).toNat)
    case atStart => exact ⟨0, Nat.zero_le _, rfl, rfl, ⟨rfl, .inl ⟨rfl, rfl⟩⟩, Keep.refl _ _⟩
    case round =>
      obtain ⟨k, hk, rfl, rfl, hO, hkr⟩ := hrel
      have HO := Lib.hid hO
      have HK := Lib.hid hkr
      have lkr := hkr.size
      obtain ⟨Ar, cr, rfl, -⟩ := own_row (S := none_) hO (fun _ _ e => e)
      clear hO hkr
      by_cases hlt : k < nl
      · have hlt' : (k : Int) < nl := by omega
        have KA : Keep none_ wr (wr.alloc (.cells #[.int .i64 1] 37)) := (Keep.refl none_ wr).alloc _
        have HO1 := Lib.hid (own_keep HO.out KA (fun _ _ e => e))
        have HKA := Lib.hid KA
        clear KA
        have t1 : True := trivial
        go_upto_region 9 with (have _t := t1; refine wpList_append_blk (.tmp 29) (.tmp 30) 50 37 rfl rfl w4.heap.size (.int .i64 0) 1 8 Tryz.underlying50 err_info rfl (by decide) (.slice Ar k cr) k _ rfl HO1.out wr.heap.size #[.int .i64 1] rfl (Blk.new _ _ _) rfl (by simp [Value.oneCell']) (by omega) (by simp; omega) ?_; intro A6 c6 w6 o6 k6; have O6 := Lib.hid o6; have K6 := Lib.hid k6; clear o6 k6; go_frame; clear _t t1)
        have kk : Keep none_ w4 w6 := (HK.out.trans HKA.out).then K6.out (fun b e => .inr (own_ge HO1.out b e))
        go_wp2
        go_roundw
        case rel =>
          refine ⟨k + 1, hlt, by go_num, rfl, ?_, kk⟩
          rw [List.replicate_succ', List.map_append]
          exact O6.out
        case measure => simp [intOf]; omega
      · obtain rfl : k = nl := by omega
        have BN := Lib.hid (B4.out.keep HK.out (fun e => e))
        have BR := Lib.hid (R4.out.keep HK.out (fun e => e))
        have t5 : True := trivial
        have t6 : True := trivial
        go_wp2_with (first | (have _t := t5; refine wpList_load_part 48 (.tmp 10) rfl rfl w1.heap.size 0 rfl #[.int .i64 0, .slice none 0 0, .slice none 0 0, .slice none 0 0] _ BN.out.rangeAt Tryz.underlying48 rfl (by kernel_rfl) ?_; go_frame; clear _t t5) | (have _t := t6; refine wpList_store_blk rfl 48 (.tmp 4) (.tmp 52) rfl (w.heap.size + 1) 48 _ _ rfl rfl BR.out rfl (by kernel_rfl) (by simp [Value.oneCell']) ?_; intro w9 b9 k9 s9; go_frame; clear _t t6))
        have o9 := own_keep HO.out k9 (fun b hb e => by unfold one at e; have := own_ge HO.out b hb; omega)
        exact ⟨rfl, _, results_cell_tmp2 Tryz.results15 rfl (run_loadVar_blk b9 Tryz.underlying48 rfl (by kernel_rfl)), _, _, _, rfl, by rw [E1.out]; exact RSt.zero _ _ _ _, by rw [E2.out]; exact OutsOf.nil _, by rw [E3.out]; exact errs_own (by rw [List.length_replicate]; exact o9), (K4.out.trans HK.out).own k9 (by omega)⟩
  | true =>
    rw [hv] at VA
    have hV := (valid_iff s).1 hv
    have HV := Lib.hid hV
    have E1 := Lib.hid (show runS s l = goS s l by unfold runS; rw [hv]; rfl)
    have E2 := Lib.hid (show runO s l = goO s l by unfold runO; rw [hv]; rfl)
    have E3 := Lib.hid (show runE s l = goE s l by unfold runE; rw [hv]; rfl)
    have t1 : True := trivial
    go_upto_region 4 with (first | (have _t := t1; refine wpList_load_part 48 (.tmp 2) rfl rfl w.heap.size 0 rfl #[.int .i64 s.now, .slice P1 P2 P3, .slice P4 P5 P6, .slice P7 P8 P9] _ B0.out.rangeAt Tryz.underlying48 rfl (by kernel_rfl) ?_; go_frame; clear _t t1) | (go_at_call 18; refine VA.out.mono ?_; rintro en w1 ⟨rfl, k1⟩; have K1 := Lib.hid k1; have R1 := Lib.hid (B1.out.keep k1 (fun e => e)); clear k1))
    have zs := zero_state w1
    have t3 : True := trivial
    have lw1 := K1.out.size
    go_upto_region 5 with (have _t := t3; refine wpList_store_blk rfl 48 (.tmp 10) (.tmp 17) rfl w1.heap.size 48 _ _ rfl rfl (Blk.new _ _ _) rfl (by kernel_rfl) (by simp [Value.oneCell']) ?_; intro w4 b4 k4 s4; go_frame; clear _t t3)
    have k14 : Keep none_ w1 w4 := ((Keep.refl none_ w1).alloc _).own k4 (Nat.le_refl _)
    have K04 := Lib.hid (K1.out.trans k14)
    have B4 := Lib.hid b4
    have R4 := Lib.hid (R1.out.keep k14 (fun e => e))
    have BS4 := Lib.hid (B0.out.keep K04.out (fun e => e))
    have CO := Lib.hid (rcopy_any X s _ _ w4 (H0.out.keep K04.out.weak) hV.small)
    have lw4 := K04.out.size
    have lb4 := b4.lt
    have w1l : w.heap.size + 1 < w1.heap.size := R1.out.lt
    clear k4 s4 b4 k14 zs hv VA H0 B0 B1 K1 R1 hV
    have t4 : True := trivial
    have t5 : True := trivial
    go_upto_region 7 with (first | (have _t := t4; refine wpList_load_part 48 (.tmp 2) rfl rfl w.heap.size 0 rfl #[.int .i64 s.now, .slice P1 P2 P3, .slice P4 P5 P6, .slice P7 P8 P9] _ BS4.out.rangeAt Tryz.underlying48 rfl (by kernel_rfl) ?_; go_frame; clear _t t4) | (go_at_call 40; refine CO.out.mono ?_; rintro en w5 ⟨vp, vj, vw, rfl, o1, o2, o3, k5⟩; obtain ⟨A1, c1, rfl, -⟩ := own_row (S := none_) o1 (fun _ _ e => e); obtain ⟨A2, c2, rfl, -⟩ := o2.list; obtain ⟨A3, c3, rfl, -⟩ := own_row (S := none_) o3 (fun _ _ e => e); have O1 := Lib.hid o1; have O2 := Lib.hid o2; have O3 := Lib.hid o3; have K5 := Lib.hid k5; have B5 := Lib.hid (B4.out.keep k5 (fun e => e)); clear o1 o2 o3 k5 CO) | (have _t := t5; refine wpList_store_blk rfl 48 (.tmp 10) (.tmp 20) rfl w1.heap.size 48 _ _ rfl rfl B5.out rfl (by kernel_rfl) (by simp [Value.oneCell']) ?_; intro w6 b6 k6 s6; go_frame; clear _t t5))
    have lw5 := K5.out.size
    have RS5 : RSt X w5 w.heap.size (rsB S w.heap.size w5) (.agg #[.int .i64 s.now, .slice A1 s.present.length c1, .slice A2 s.jobs.length c2, .slice A3 s.workers.length c3]) s := by
      obtain ⟨css, q1, q2, q3, q4⟩ := O2.out
      exact ⟨_, _, _, rfl, own_base O1.out (by omega), ⟨css, q1, q2, own_base q3 (by omega), fun i cs x hi hx => (q4 i cs x hi hx).sub (fun b hb => hb.elim (fun hb => hb.imp id (fun hb => hb.1)) (fun hb => .inr (hb.elim (fun hb => by have := own_ge O1.out b hb; omega) (fun hb => by have := own_ge q3 b hb; omega))))⟩, own_base O3.out (by omega)⟩
    have RS6 := Lib.hid (RS5.blk k6 (by omega) B5.out (by decide) (by decide) (by decide) (by decide))
    have B6 := Lib.hid b6
    have R6 := Lib.hid ((R4.out.keep K5.out (fun e => e)).keep k6 (fun e => by unfold one at e; omega))
    have K6 := Lib.hid ((K0.out.trans (K04.out.trans K5.out)).own k6 (by omega))
    clear RS5 k6 b6 s6 O1 O2 O3 B5 R4 B4 BS4 K04 K5 K0
    go_upto_region 8 with (fail)
    go_loopw [7, 8, 11] (fun o r i wr => ∃ (k : Nat) (Q1 : Option Addr) (Q2 Q3 : Nat) (Q4 : Option Addr) (Q5 Q6 : Nat) (Q7 : Option Addr) (Q8 Q9 : Nat), k ≤ nl ∧ i = .int .i64 k ∧ Blk wr w1.heap.size 48 #[.int .i64 (goS s (l.take k)).now, .slice Q1 Q2 Q3, .slice Q4 Q5 Q6, .slice Q7 Q8 Q9] ∧ RSt X wr w.heap.size (rsB S w.heap.size wr) (.agg #[.int .i64 (goS s (l.take k)).now, .slice Q1 Q2 Q3, .slice Q4 Q5 Q6, .slice Q7 Q8 Q9]) (goS s (l.take k)) ∧ wr.ownsRow w.heap.size 125 3 o (goO s (l.take k)).length (otCells (goO s (l.take k))) ∧ wr.ownsRow w.heap.size 37 1 r k ((goE s (l.take k)).map (Value.int .i64)) ∧ Blk wr (w.heap.size + 1) 48 #[.int .i64 0, .slice none 0 0, .slice none 0 0, .slice none 0 0] ∧ Keep none_ w wr) (fun o r i _ => nl - (intOf i).toNat)
    case atStart => exact ⟨0, _, _, _, _, _, _, _, _, _, Nat.zero_le _, rfl, B6.out, RS6.out, ⟨rfl, .inl ⟨rfl, rfl⟩⟩, ⟨rfl, .inl ⟨rfl, rfl⟩⟩, R6.out, K6.out⟩
    case round =>
      clear B6 RS6 R6 K6
      obtain ⟨k, Q1, Q2, Q3, Q4, Q5, Q6, Q7, Q8, Q9, hk, rfl, hB, hR, hO, hE, hZ, hkr⟩ := hrel
      have HB := Lib.hid hB
      have HR := Lib.hid hR
      have HO := Lib.hid hO
      have HE := Lib.hid hE
      have HZ := Lib.hid hZ
      have HK := Lib.hid hkr
      have lkr := hkr.size
      have lBN := hB.lt
      obtain ⟨Ao, co, rfl, -⟩ := own_row (S := none_) hO (fun _ _ e => e)
      obtain ⟨Ar, cr, rfl, -⟩ := own_row (S := none_) hE (fun _ _ e => e)
      clear hB hR hO hE hZ
      by_cases hlt : k < nl
      · have hlt' : (k : Int) < nl := by omega
        have hkl : k < l.length := by rw [HLN.out]; exact hlt
        obtain ⟨be, oe, rfl, hbe, hkl2, cs, hcl, hrg, vn, vi, hcs, hns, his⟩ := (EvsOf.keep EL.out hkr.weak).elem k hlt
        have N1 := Lib.hid (goS_next s l k hkl)
        have N2 := Lib.hid (goO_next s l k hkl)
        have N3 := Lib.hid (goE_next s l k hkl)
        have ZE := Lib.hid (HZE.out _ (List.getElem_mem hkl))
        have IE := Lib.hid (HIN.out _ (List.getElem_mem hkl))
        have XE := Lib.hid (HX.out _ (List.getElem_mem hkl))
        have VS := Lib.hid (HV.out.go (l.take k))
        have OLE := Lib.hid (goO_le HV.out (l.take k))
        generalize l[k] = e at hcs hns his N1 N2 N3 ZE IE XE
        generalize goS s (l.take k) = st at HB HR N1 N2 N3 VS
        subst hcs
        obtain ⟨An, nn, cn, rfl, hns'⟩ := hns
        obtain ⟨Ai, ni, ci, rfl, his'⟩ : ∃ Ai ni ci, vi = .slice Ai ni ci ∧ ItemsOf wr (orr S w.heap.size) vi e.items := by obtain ⟨A, n, c, e, h⟩ := (id his : ItemsOf _ _ _ _); exact ⟨A, n, c, e, his⟩
        have EV := Lib.hid (show EvOf wr (orr S w.heap.size) (.agg #[.int .i64 e.kind, .string e.name, .string e.worker, .slice An nn cn, .int .i64 e.ticks, .slice Ai ni ci]) e from ⟨_, _, rfl, ⟨_, _, _, rfl, hns'⟩, his'⟩)
        have HRG := Lib.hid hrg
        have hle : (goO s (l.take k)).length ≤ 64 * 64 := by have := OLE.out; rw [List.length_take] at this; omega
        clear hns' his his' hrg hcl hkr
        go_upto_region 12 with (fail)
        have gd := rnCalm_good (wr := wr) (X := X) (S := S) (lo := w.heap.size) (st := st) (e := e) (by omega)
        have ne := rnCalm_some wr X S w.heap.size st e
        have x1 := Lib.hid (fun y => rangeAt_keep HB.out.rangeAt (rnCalm_at (wr := wr) (X := X) (S := S) (lo := w.heap.size) (st := st) (e := e) y) (fun e => e))
        have x2 := Lib.hid (fun y => rangeAt_keep HRG.out (rnCalm_at (wr := wr) (X := X) (S := S) (lo := w.heap.size) (st := st) (e := e) y) (fun e => e))
        refine wp_region_calm (rnCalm wr X S w.heap.size st e) [0, 1, 2, 3, 4, 5, 6, 7, 8, 9, 10, 11, 12] [13] 55 (by kernel_rfl) (by kernel_rfl) rfl gd (Keep.refl _ _).drew ?_
        simp only [pairs, List.filterMap_cons, List.filterMap_nil, List.getElem?_toArray, List.getElem?_cons_succ, List.getElem?_cons_zero, Option.map_some]
        refine Calm.walk_load 48 (.tmp 10) rfl ne rfl rfl w1.heap.size 0 rfl #[.int .i64 st.now, .slice Q1 Q2 Q3, .slice Q4 Q5 Q6, .slice Q7 Q8 Q9] _ x1.out Tryz.underlying48 rfl (by kernel_rfl) ?_
        go_frame
        repeat (refine Calm.walk_quiet ne rfl rfl rfl (fun K hK => ?_); go_big_quiet_op; refine hK _ ?_; clear hK K)
        refine Calm.walk_load 78 (.tmp 36) rfl ne rfl rfl be (oe + k * 6) (by first | rfl | simp) #[.int .i64 e.kind, .string e.name, .string e.worker, .slice An nn cn, .int .i64 e.ticks, .slice Ai ni ci] _ x2.out Tryz.underlying78 rfl (by kernel_rfl) ?_
        go_frame
        refine Calm.walk_eff rfl rfl (fun n wy hn hG _ => ?_) ?_
        · have hG' : Keep none_ wr wy := hG
          have sSS : ∀ b, rsB S w.heap.size wy b → b < wy.heap.size := fun b hb => by
            rcases hb with hb | ⟨-, t, cs, hb, -⟩
            · have := HS.out b hb; have := hG'.size; omega
            · exact hb.lt
          have lwy := hG'.size
          unfold gives
          go_simp
          refine (rstep_any X st e _ _ (rsB S w.heap.size wy) wy ((HR.out.quiet hG').stateX (fun _ h => h) (fun b t cs hb hc hs => ?_)) ((EV.out.keep hG'.weak).sub (fun b hb => hb.imp id (fun hb => hb.1))) sSS VS.out.szs ZE.out IE.out XE.out).mono ?_
          · rcases hs with hs | ⟨-, t', cs', hc', n1, n2, n3, n4⟩
            · have := HS.out b hs; omega
            · have e1 : wy.heap[b]? = _ := hc
              have e2 : wy.heap[b]? = _ := hc'
              rw [e1] at e2
              simp only [Option.some.injEq, Obj.cells.injEq] at e2
              obtain ⟨-, rfl, -⟩ := e2
              exact ⟨n1, n3, n4⟩
          rintro en w' ⟨v', vo, rfl, q1, q2, k'⟩
          have toS : ∀ b, rsB S w.heap.size w' b → stS (rsB S w.heap.size wy) wy.heap.size w' b := fun b hb => by
            rcases hb with hb | ⟨hb, t, cs, hc, n1, n2, n3, n4⟩
            · exact .inl (.inl hb)
            · rcases Nat.lt_or_ge b wy.heap.size with hl | hl
              · exact .inl (.inr ⟨hb, t, cs, (k'.block b hl (fun e => e)).symm.trans hc, n1, n2, n3, n4⟩)
              · exact .inr ⟨hl, t, cs, hc, n1, n2⟩
          exact ⟨_, rfl, ⟨v', vo, rfl, (q1.sub toS).base (by omega), own_base q2 (by omega), fun b hb => by have := own_ge q2 b hb; omega⟩, k', hG'.trans k', fun _ h => h.elim⟩
        intro vq wy hT
        obtain ⟨v', vo, rfl, hr', ho', hob'⟩ : rstT X S w.heap.size wr.heap.size st e vq wy := hT
        obtain ⟨T1, T2, T3, T4, T5, T6, T7, T8, T9, rfl⟩ := hr'.parts
        obtain ⟨Av, cv, rfl, -⟩ := own_row (S := none_) ho' (fun _ _ e => e)
        have OB := Lib.hid hob'
        clear hr' ho' hob' wy
        go_frame
        repeat (refine Calm.walk_quiet ne rfl rfl rfl (fun K hK => ?_); go_big_quiet_op; refine hK _ ?_; clear hK K)
        refine Calm.walk_eff rfl rfl (fun n wy hn hG _ => ?_) ?_
        · have hG' : Keep none_ wr wy := hG
          unfold gives
          go_simp
          exact ⟨⟨wy.heap.size, hG'.size, rfl, _, rfl, Blk.new _ _ _⟩, (Keep.refl _ _).alloc _, hG'.alloc _, fun _ h => h.elim⟩
        intro vq wy hT
        obtain ⟨b12, hb12, rfl, -⟩ : ∃ b, wr.heap.size ≤ b ∧ vq = .pointer (some ⟨b, 0, none⟩) ∧ VarS wy b := hT
        clear wy
        go_frame
        refine Calm.walk_eff rfl rfl (fun n wy hn hG hAF => ?_) ?_
        · have hG' : Keep none_ wr wy := hG
          obtain ⟨b', g1, g2, csv, g3, g4⟩ : ∃ b, wr.heap.size ≤ b ∧ Value.pointer (some ⟨b12, 0, none⟩) = .pointer (some ⟨b, 0, none⟩) ∧ VarS wy b := (hAF 10 List.mem_cons_self _ rfl ⟨rfl, rfl⟩).1
          obtain rfl : b12 = b' := by simpa using g2
          refine gives_store_blk 48 (.tmp 12) (.tmp 39) rfl b12 48 _ #[.int .i64 (stepS st e).now, .slice T1 T2 T3, .slice T4 T5 T6, .slice T7 T8 T9] rfl rfl g4 g3 (by kernel_rfl) (by simp [Value.oneCell']) (fun wz bz kz => ?_)
          exact ⟨⟨b12, _, rfl, rfl, bz⟩, ⟨b12, g1, ⟨csv, g3, g4⟩, ⟨_, rfl, bz⟩, kz⟩, hG'.own kz g1, fun _ h => h.elim⟩
        rintro vq wy -
        clear wy
        go_frame
        repeat (refine Calm.walk_quiet ne rfl rfl rfl (fun K hK => ?_); go_big_quiet_op; refine hK _ ?_; clear hK K)
        intro w8 hG hD
        have k8 : Keep none_ wr w8 := hG
        obtain ⟨v'', vo'', e1, hr8, ho8, -⟩ : rstT X S w.heap.size wr.heap.size st e (.tuple #[.agg #[.int .i64 (stepS st e).now, .slice T1 T2 T3, .slice T4 T5 T6, .slice T7 T8 T9], .slice Av (stepO st e).length cv, .int .i64 (stepE st e)]) w8 := (hD.1 5 rfl _ rfl ⟨rfl, rfl⟩).1
        obtain ⟨b', xs', e2, e3, b8⟩ : ∃ b xs, Value.pointer (some ⟨b12, 0, none⟩) = .pointer (some ⟨b, 0, none⟩) ∧ Value.agg #[.int .i64 (stepS st e).now, .slice T1 T2 T3, .slice T4 T5 T6, .slice T7 T8 T9] = .agg xs ∧ Blk w8 b 48 xs := (hD.1 11 rfl _ rfl ⟨rfl, rfl⟩).1
        obtain rfl : b12 = b' := by simpa using e2
        injection e3 with e3
        subst e3
        simp only [Value.tuple.injEq, Array.mk.injEq, List.cons.injEq, and_true] at e1
        obtain ⟨rfl, rfl⟩ := e1
        have RN8 := Lib.hid hr8
        have ON8 := Lib.hid ho8
        have BN8 := Lib.hid b8
        have K8 := Lib.hid k8
        have R8 := Lib.hid (HR.out.quiet k8)
        have B8 := Lib.hid (HB.out.keep k8 (fun e => e))
        have O8 := Lib.hid (own_keep HO.out k8 (fun _ _ e => e))
        have E8 := Lib.hid (own_keep HE.out k8 (fun _ _ e => e))
        have Z8 := Lib.hid (HZ.out.keep k8 (fun e => e))
        have lk8 := k8.size
        have OLT := Lib.hid (own_lt HO.out)
        clear hG hD gd ne x1 x2 hr8 ho8 b8 k8 e2 HB HR HO HE HZ HRG EV
        simp only [pickOps, List.filterMap_cons, List.filterMap_nil, List.getElem?_toArray, List.getElem?_cons_succ, List.getElem?_cons_zero]
        go_upto_region 13 with (fail)
        have KA : Keep none_ w8 (w8.alloc (.cells #[.int .i64 (stepE st e)] 37)) := (Keep.refl none_ w8).alloc _
        have E81 := Lib.hid (own_keep E8.out KA (fun _ _ e => e))
        have HKA := Lib.hid KA
        clear KA
        have t1 : True := trivial
        go_upto_region 14 with (have _t := t1; refine wpList_append_blk (.tmp 42) (.tmp 44) 50 37 rfl rfl w.heap.size (.int .i64 0) 1 8 Tryz.underlying50 err_info rfl (by decide) (.slice Ar k cr) k _ rfl E81.out w8.heap.size #[.int .i64 (stepE st e)] rfl (Blk.new _ _ _) rfl (by simp [Value.oneCell']) (by omega) (by simp; omega) ?_; intro A6 c6 w6 o6 k6; have O6 := Lib.hid o6; have K6 := Lib.hid k6; clear o6 k6; go_frame; clear _t t1)
        have k86 : Keep (ofBlk (.slice Ar k cr)) w8 w6 := HKA.out.weak.trans K6.out
        have nN : ¬ ofBlk (.slice Ar k cr) w1.heap.size := fun x => own_apart E8.out B8.out (by decide) _ x rfl
        have nR : ¬ ofBlk (.slice Ar k cr) (w.heap.size + 1) := fun x => own_apart E8.out Z8.out (by decide) _ x rfl
        have n12 : ¬ ofBlk (.slice Ar k cr) b12 := fun x => own_apart E8.out BN8.out (by decide) _ x rfl
        have RN6 := Lib.hid (RN8.out.row k86 E8.out (by decide) (by decide) (by decide) (by decide))
        have R6 := Lib.hid (R8.out.row k86 E8.out (by decide) (by decide) (by decide) (by decide))
        have ON6 := Lib.hid (own_keep ON8.out k86 (own_apart2 ON8.out E8.out (by decide)))
        have OO6 := Lib.hid (own_keep O8.out k86 (own_apart2 O8.out E8.out (by decide)))
        have BN6 := Lib.hid (BN8.out.keep k86 n12)
        have B6 := Lib.hid (B8.out.keep k86 nN)
        have Z6 := Lib.hid (Z8.out.keep k86 nR)
        have KW6 := Lib.hid (((HK.out.trans K8.out).trans HKA.out).then K6.out (fun b e => .inr (own_ge E8.out b e)))
        have l86 := k86.size
        have EE : errOf st e = stepE st e := by unfold errOf stepE; rw [(valid_iff st).2 VS.out, Bool.true_and]
        have NE := Lib.hid (show wr.heap.size ≤ wr.heap.size ∧ (goE s (l.take (k + 1))).map (Value.int .i64) = (goE s (l.take k)).map (Value.int .i64) ++ [.int .i64 (stepE st e)] from ⟨Nat.le_refl _, by rw [N3.out, List.map_append, EE]; rfl⟩)
        have E6 := Lib.hid (show w6.ownsRow w.heap.size 37 1 (.slice A6 (k + 1) c6) (k + 1) ((goE s (l.take (k + 1))).map (Value.int .i64)) by rw [NE.out.2]; exact O6.out)
        clear RN8 R8 ON8 O8 BN8 B8 Z8 k86 nN nR n12 E81 HKA K6 K8 E8 O6 NE
        by_cases h0 : stepE st e = 0
        · have NS : goS s (l.take (k + 1)) = stepS st e := by rw [N1.out]; unfold nextS stepS; rw [EE, if_pos h0, if_pos h0]
          have NO : goO s (l.take (k + 1)) = goO s (l.take k) ++ stepO st e := by rw [N2.out]; unfold nextO stepO; rw [EE, if_pos h0]
          have HNS := Lib.hid NS
          have HNO := Lib.hid NO
          have hol : (stepO st e).length ≤ 64 := by
            have := nextO_le VS.out e
            unfold nextO at this
            unfold stepO
            rw [EE, if_pos h0] at this
            rw [if_pos h0]
            exact this
          rw [h0]
          clear NS NO EE h0
          go_upto_region 15 with (fail)
          obtain ⟨ie, z, hie, hz, hsi, hby, hzs⟩ := info_all (P := Tryz.prog) (t := 125) (n := 3) (b := 40) (by kernel_rfl)
          have I1 := Lib.hid (And.intro hie (And.intro hz (And.intro hsi (And.intro hby hzs))))
          clear hie hz hsi hby hzs
          have hSg : ¬ ofBlk (.slice Ao (goO s (l.take k)).length co) w1.heap.size := fun x => own_apart OO6.out B6.out (by decide) _ x rfl
          have hS12 : ¬ (ofBlk (.slice Ao (goO s (l.take k)).length co) b12 ∨ b12 = w1.heap.size) := fun x => x.elim (fun x => own_apart OO6.out BN6.out (by decide) _ x rfl) (fun x => by omega)
          have nbx : ∀ b, (Value.slice Av (stepO st e).length cv).ownBlock = some b → ¬ (ofBlk (.slice Ao (goO s (l.take k)).length co) b ∨ b = w1.heap.size) := fun b hb hx => hx.elim (fun hx => by have := OLT.out b hx; have := OB.out b hb; omega) (fun hx => own_apart ON6.out B6.out (by decide) b hb hx)
          obtain ⟨Ax, cx, ex, rx⟩ := own_rowB (S := fun b => ofBlk (.slice Ao (goO s (l.take k)).length co) b ∨ b = w1.heap.size) ON6.out nbx
          clear nbx
          have RX := Lib.hid rx
          simp only [Value.slice.injEq, true_and] at ex
          obtain ⟨rfl, rfl⟩ := ex
          have gd := nowCalm_good (wr := w6) (S := ofBlk (.slice Ao (goO s (l.take k)).length co)) (gN := w1.heap.size) (lo := w.heap.size) (cs := #[.int .i64 (stepS st e).now, .slice T1 T2 T3, .slice T4 T5 T6, .slice T7 T8 T9]) (n := (goO s (l.take k)).length + (stepO st e).length) (xs := otCells (goO s (l.take k)) ++ otCells (stepO st e)) (vo := (.slice Ao (goO s (l.take k)).length co)) (no := (goO s (l.take k)).length) (xo := otCells (goO s (l.take k))) hSg
          have ne := nowCalm_some (wr := w6) (S := ofBlk (.slice Ao (goO s (l.take k)).length co)) (gN := w1.heap.size) (lo := w.heap.size) (cs := #[.int .i64 (stepS st e).now, .slice T1 T2 T3, .slice T4 T5 T6, .slice T7 T8 T9]) (n := (goO s (l.take k)).length + (stepO st e).length) (xs := otCells (goO s (l.take k)) ++ otCells (stepO st e)) OO6.out rfl B6.out
          have x1 := Lib.hid (fun y => rangeAt_keep BN6.out.rangeAt (nowCalm_at (wr := w6) (S := ofBlk (.slice Ao (goO s (l.take k)).length co)) (gN := w1.heap.size) (lo := w.heap.size) (cs := #[.int .i64 (stepS st e).now, .slice T1 T2 T3, .slice T4 T5 T6, .slice T7 T8 T9]) (n := (goO s (l.take k)).length + (stepO st e).length) (xs := otCells (goO s (l.take k)) ++ otCells (stepO st e)) (vo := (.slice Ao (goO s (l.take k)).length co)) (no := (goO s (l.take k)).length) (xo := otCells (goO s (l.take k))) y) hS12)
          refine wp_region_calm (nowCalm w6 (ofBlk (.slice Ao (goO s (l.take k)).length co)) w1.heap.size w.heap.size #[.int .i64 (stepS st e).now, .slice T1 T2 T3, .slice T4 T5 T6, .slice T7 T8 T9] ((goO s (l.take k)).length + (stepO st e).length) (otCells (goO s (l.take k)) ++ otCells (stepO st e)) (.slice Ao (goO s (l.take k)).length co) (goO s (l.take k)).length (otCells (goO s (l.take k)))) [0, 1, 2, 3, 4] [5] 55 (by kernel_rfl) (by kernel_rfl) rfl gd ⟨(Keep.refl _ _).drew, own_keep OO6.out (Keep.refl none_ _).drew (fun _ _ e => e), _, rfl, B6.out⟩ ?_
          simp only [pairs, List.filterMap_cons, List.filterMap_nil, List.getElem?_toArray, List.getElem?_cons_succ, List.getElem?_cons_zero, Option.map_some]
          refine Calm.walk_load 48 (.tmp 12) rfl ne rfl rfl b12 0 rfl #[.int .i64 (stepS st e).now, .slice T1 T2 T3, .slice T4 T5 T6, .slice T7 T8 T9] _ x1.out Tryz.underlying48 rfl (by kernel_rfl) ?_
          go_frame
          repeat (refine Calm.walk_quiet ne rfl rfl rfl (fun K hK => ?_); go_big_quiet_op; refine hK _ ?_; clear hK K)
          refine Calm.walk_eff rfl rfl (fun n wy hn hG _ => ?_) ?_
          · have hG1 : Keep (fun b => ofBlk (.slice Ao (goO s (l.take k)).length co) b ∨ b = w1.heap.size) w6 wy := hG.1
            have hG2 : wy.ownsRow w.heap.size 125 3 (.slice Ao (goO s (l.take k)).length co) (goO s (l.take k)).length (otCells (goO s (l.take k))) := hG.2.1
            obtain ⟨cz, hcz, hbz⟩ := hG.2.2
            have lwy := hG1.size
            refine gives_mono (gives_append_loc (.tmp 49) (.tmp 50) 49 125 rfl w.heap.size 3 40 Tryz.underlying49 I1.out.1 I1.out.2.1 I1.out.2.2.1 I1.out.2.2.2.1 I1.out.2.2.2.2 (by decide) _ (goO s (l.take k)).length _ rfl hG2 Av (stepO st e).length cv (otCells (stepO st e)) (fun b => ofBlk (.slice Ao (goO s (l.take k)).length co) b ∨ b = w1.heap.size) rfl (RX.out.keep hG1) (fun u hu => ot_one hu) (by omega) (by unfold maxLen; omega) (by omega)) ?_
            rintro v' w' ⟨hv, hk2, hp, hloc⟩
            have hp2 := hp.own RX.out.len (Nat.le_refl _) hG2
            exact ⟨⟨hv, fun b hb => ⟨(hloc b hb).imp id (fun h => by omega), fun e => (hloc b hb).elim (fun h => hSg (e ▸ h)) (fun h => by omega)⟩⟩, hk2, ⟨hG1.trans (hk2.mono (fun b hb => .inl hb)), hp2, cz, hcz, hbz.keep hk2 hSg⟩, fun _ h => h.elim⟩
          intro vq wy hT
          obtain ⟨hT2, -⟩ : wy.ownsRow w.heap.size 125 3 vq ((goO s (l.take k)).length + (stepO st e).length) (otCells (goO s (l.take k)) ++ otCells (stepO st e)) ∧ _ := hT
          obtain ⟨Az, cz2, rfl, -⟩ := own_row (S := none_) hT2 (fun _ _ e => e)
          clear hT2 wy
          go_frame
          refine Calm.walk_eff rfl rfl (fun n wy hn hG _ => ?_) ?_
          · have hG1 : Keep (fun b => ofBlk (.slice Ao (goO s (l.take k)).length co) b ∨ b = w1.heap.size) w6 wy := hG.1
            have hG2 : wy.ownsRow w.heap.size 125 3 (.slice Ao (goO s (l.take k)).length co) (goO s (l.take k)).length (otCells (goO s (l.take k))) := hG.2.1
            obtain ⟨cz, hcz, hbz⟩ := hG.2.2
            refine gives_store_blk 48 (.tmp 10) (.tmp 48) rfl w1.heap.size 48 _ #[.int .i64 (stepS st e).now, .slice T1 T2 T3, .slice T4 T5 T6, .slice T7 T8 T9] rfl rfl hbz hcz (by kernel_rfl) (by simp [Value.oneCell']) (fun wz bz kz => ?_)
            exact ⟨bz, kz, ⟨hG1.trans (kz.mono (fun b hb => .inr hb)), own_keep hG2 kz (own_apart hG2 hbz (by decide)), _, rfl, bz⟩, fun _ h => h.elim⟩
          rintro vq wy -
          clear wy
          go_frame
          intro w9 hG hD
          have k9 : Keep (fun b => ofBlk (.slice Ao (goO s (l.take k)).length co) b ∨ b = w1.heap.size) w6 w9 := hG.1
          have o9 : w9.ownsRow w.heap.size 125 3 (.slice Az ((goO s (l.take k)).length + (stepO st e).length) cz2) ((goO s (l.take k)).length + (stepO st e).length) (otCells (goO s (l.take k)) ++ otCells (stepO st e)) := (hD.1 3 rfl _ rfl ⟨rfl, rfl⟩).1.1
          have b9 : Blk w9 w1.heap.size 48 #[.int .i64 (stepS st e).now, .slice T1 T2 T3, .slice T4 T5 T6, .slice T7 T8 T9] := (hD.1 4 rfl _ rfl ⟨rfl, rfl⟩).1
          have hQ : ∀ b, (ofBlk (.slice Ao (goO s (l.take k)).length co) b ∨ b = w1.heap.size) → rsB S w.heap.size w6 b := fun b hb => hb.elim (own_rsB OO6.out (by decide) (by decide) (by decide) (by decide) b) (fun hb => by subst hb; exact .inr ⟨by omega, _, _, B6.out, by decide, by decide, by decide, by decide⟩)
          have hTy : ∀ b t cs, Blk w6 b t cs → (ofBlk (.slice Ao (goO s (l.take k)).length co) b ∨ b = w1.heap.size) → t ≠ 9 ∧ t ≠ 57 ∧ t ≠ 107 := fun b t cs hc hb => by
            rcases hb with hb | hb
            · rw [own_type OO6.out hc hb]; exact ⟨by decide, by decide, by decide⟩
            · subst hb
              have e1 : w6.heap[w1.heap.size]? = _ := hc
              have e2 : w6.heap[w1.heap.size]? = _ := B6.out
              rw [e1] at e2
              simp only [Option.some.injEq, Obj.cells.injEq] at e2
              obtain ⟨-, rfl, -⟩ := e2
              exact ⟨by decide, by decide, by decide⟩
          have RN9 := Lib.hid (RN6.out.step k9 hQ hTy)
          have E9 := Lib.hid (own_keep E6.out k9 (fun b hb hx => hx.elim (fun hx => own_apart2 E6.out OO6.out (by decide) b hb hx) (fun hx => own_apart E6.out B6.out (by decide) b hb hx)))
          have Z9 := Lib.hid (Z6.out.keep k9 (fun hx => hx.elim (fun hx => own_apart OO6.out Z6.out (by decide) _ hx rfl) (fun hx => by omega)))
          have KW9 := Lib.hid (KW6.out.then k9 (fun b hb => .inr (hb.elim (fun hb => own_ge OO6.out b hb) (fun hb => by omega))))
          have O9 := Lib.hid o9
          have B9 := Lib.hid b9
          clear hG hD gd ne x1 k9 o9 b9 hQ hTy hSg hS12
          simp only [pickOps, List.filterMap_cons, List.filterMap_nil, List.getElem?_toArray, List.getElem?_cons_succ, List.getElem?_cons_zero]
          go_wp2
          go_roundw
          case rel =>
            refine ⟨k + 1, T1, T2, T3, T4, T5, T6, T7, T8, T9, hlt, by go_num, ?_⟩
            rw [HNS.out, HNO.out, List.length_append]
            refine ⟨B9.out, RN9.out, ?_, E9.out, Z9.out, KW9.out⟩
            have := O9.out
            unfold otCells at this ⊢
            rw [List.flatMap_append]
            exact this
          case measure => simp [intOf]; omega
        · have NS : goS s (l.take (k + 1)) = st := by rw [N1.out]; unfold nextS; rw [EE, if_neg h0]
          have NO : goO s (l.take (k + 1)) = goO s (l.take k) := by rw [N2.out]; unfold nextO; rw [EE, if_neg h0, List.append_nil]
          have h0' : (stepE st e == 0) = false := by simpa using h0
          have h0d : decide (stepE st e = 0) = false := decide_eq_false h0
          clear EE h0
          go_wp2
          go_roundw
          case rel =>
            refine ⟨k + 1, Q1, Q2, Q3, Q4, Q5, Q6, Q7, Q8, Q9, hlt, by go_num, ?_⟩
            rw [NS, NO]
            exact ⟨B6.out, R6.out, OO6.out, E6.out, Z6.out, KW6.out⟩
          case measure => simp [intOf]; omega
      · obtain rfl : k = nl := by omega
        have TL : l.take k = l := List.take_of_length_le (by rw [HLN.out]; omega)
        rw [TL] at HB HR HO HE
        rw [TL]
        have t5 : True := trivial
        have t6 : True := trivial
        go_wp2_with (first | (have _t := t5; refine wpList_load_part 48 (.tmp 10) rfl rfl w1.heap.size 0 rfl #[.int .i64 (goS s l).now, .slice Q1 Q2 Q3, .slice Q4 Q5 Q6, .slice Q7 Q8 Q9] _ HB.out.rangeAt Tryz.underlying48 rfl (by kernel_rfl) ?_; go_frame; clear _t t5) | (have _t := t6; refine wpList_store_blk rfl 48 (.tmp 4) (.tmp 52) rfl (w.heap.size + 1) 48 _ _ rfl rfl HZ.out rfl (by kernel_rfl) (by simp [Value.oneCell']) ?_; intro w9 b9 k9 s9; go_frame; clear _t t6))
        have o9 := own_keep HO.out k9 (own_apart HO.out HZ.out (by decide))
        have e9 := own_keep HE.out k9 (own_apart HE.out HZ.out (by decide))
        exact ⟨rfl, _, results_cell_tmp2 Tryz.results15 rfl (run_loadVar_blk b9 Tryz.underlying48 rfl (by kernel_rfl)), _, _, _, rfl, by rw [E1.out]; exact HR.out.blk k9 (by omega) HZ.out (by decide) (by decide) (by decide) (by decide), by rw [E2.out]; exact OutsOf.own o9, by rw [E3.out]; exact errs_own (by rw [goE_length, HLN.out]; exact e9), HK.out.own k9 (by omega)⟩
end Go.Proofs.YtnefbeplgfdkkaaGreatDoor
