/-
  Run, from a valid state.
-/
import Derived.Laws.AppendOwnNone
import Derived.Test.YtnefbeplgfdkkaaGreatDoorJb24
namespace Go.Proofs.YtnefbeplgfdkkaaGreatDoor
open Go.RowKit

section
variable {ops : Array Oper} {rest : List Oper} {op : Oper} {a : Act} {w : World} {Q : Exit → Act → World → Prop}
/-- 'append(s, x...)': reports onto a row of reports of the call's own. -/
theorem append_outs (s x : Operand) (ho : op.op = .call { callee := .builtin .append, args := #[s, x], argTypes := #[49, 49] }) (hgd : op.guard = none) (base base' : Nat)
    (v : Value) (n : Nat) (xs : List Value) (hs : a.eval s = v) (hown : w.ownsRow base 125 3 v n xs) (vx : Value) (os : List Ot) (hx : a.eval x = vx) (hox : w.ownsRow base' 125 3 vx os.length (otCells os)) (hn : n + os.length ≤ 65536) (hbase : base ≤ w.heap.size)
    (h : ∀ A' c' w', w'.ownsRow base 125 3 (.slice A' (n + os.length) c') (n + os.length) (xs ++ otCells os) → Keep (ofBlk v) w w' → wpList Tryz.prog ops Q rest (a.put op.dst (.slice A' (n + os.length) c')) w') : wpList Tryz.prog ops Q (op :: rest) a w := by
  obtain ⟨i, hi, hz0, hz1, hz2⟩ := info_parts out_info
  rcases hox.2 with ⟨rfl, h0⟩ | ⟨g, cap, cur, rfl, hg, hb, hc1, hc2, hc3, hc4⟩
  · obtain rfl : os = [] := List.length_eq_zero_iff.1 h0
    obtain ⟨A, c, rfl, -⟩ := own_row (S := none_) hown (fun _ _ e => e)
    refine wpList_append_own_none hgd s x 49 ho base 125 i 3 Tryz.underlying49 hi _ n xs hs hown hx ?_
    refine h A c w ?_ (Keep.refl _ _)
    simpa [otCells] using hown
  · have hb' : Blk w g 125 cur := hb
    refine wpList_append_own w hgd s x 49 ho base 125 i _ 3 40 Tryz.underlying49 hi hz0 hz1 hz2 rfl (by decide) v n xs hs hown ⟨g, 0, none⟩ os.length cap (otCells os) hx hox.1 (fun j u hu => ?_) (fun u hu => ?_) (by unfold maxLen; omega) (by omega) hbase fun v' w' h2 h3 _ => ?_
    · rw [Addr.add_mid, Nat.zero_add, hb'.cell]
      have hj : j < os.length * 3 := by rw [← hox.1]; exact (List.getElem?_eq_some_iff.1 hu).1
      rw [← hc4, List.getElem?_take, if_pos hj, Array.getElem?_toList] at hu
      exact hu
    · unfold otCells at hu
      obtain ⟨y, -, hy⟩ := List.mem_flatMap.1 hu
      simp only [List.mem_cons, List.not_mem_nil, or_false] at hy
      rcases hy with rfl | rfl | rfl <;> rfl
    · obtain ⟨A', c', rfl, -⟩ := own_row (S := none_) h2 (fun _ _ e => e)
      exact h A' c' w' h2 (Keep.ofGrown h3)
end

/-- A list of events in memory. -/
def EvCs (w : World) (S : Nat → Prop) (cs : List Value) (e : Ev) : Prop := ∃ vn vi, cs = [.int .i64 e.kind, .string e.name, .string e.worker, vn, .int .i64 e.ticks, vi] ∧ StrsOf w S vn e.needs ∧ ItemsOf w S vi e.items
def EvsOf (w : World) (S : Nat → Prop) (v : Value) (l : List Ev) : Prop := ElemsOf w S 6 (EvCs w S) v l
theorem EvsOf.keep {w w' : World} {S : Nat → Prop} {v : Value} {l : List Ev} (h : EvsOf w S v l) (k : Keep S w w') : EvsOf w' S v l := ElemsOf.keep h k (fun _ e => e) (fun _ _ ⟨vn, vi, e, h1, h2⟩ => ⟨vn, vi, e, h1.keep k, h2.keep k⟩)
theorem EvsOf.fresh {w : World} {S : Nat → Prop} {v : Value} {l : List Ev} (h : EvsOf w S v l) : EvsOf w (ge w.heap.size) v l := ElemsOf.fresh h (by decide) (fun _ _ ⟨vn, vi, e, h1, h2⟩ => ⟨vn, vi, e, h1.fresh, h2.fresh⟩)

/-- The state that a run goes on with: each of its lists is the caller's, or the run's own; what its jobs need and have made is the caller's. -/
structure RS (w : World) (lo : Nat) (vp vj vw : Value) (s : St) : Prop where
  p : StrsOf w (ge lo) vp s.present ∨ w.ownsRow lo 9 1 vp s.present.length (s.present.map Value.string)
  j : JobsOf w (ge lo) vj s.jobs ∨ RowJobs w lo (ge lo) vj s.jobs
  w_ : WorkersOf w (ge lo) vw s.workers ∨ w.ownsRow lo 107 2 vw s.workers.length (wkCells s.workers)
theorem RS.keep {w w' : World} {S : Nat → Prop} {lo : Nat} {vp vj vw : Value} {s : St} (h : RS w lo vp vj vw s) (k : Keep S w w') (hS : ∀ b, S b → lo ≤ b) (hv : ∀ b t cs, Blk w b t cs → S b → t ≠ 9 ∧ t ≠ 57 ∧ t ≠ 107) : RS w' lo vp vj vw s where
  p := by
    rcases h.p with h1 | h1
    · exact .inl (h1.keep (k.mono hS))
    · refine .inr (own_keep h1 k (fun b hb e => ?_))
      rcases h1.2 with ⟨rfl, -⟩ | ⟨g, cap, cur, rfl, -, e3, -⟩
      · cases hb
      · simp only [Value.ownBlock, Option.some.injEq] at hb
        subst hb
        exact (hv g _ _ e3 e).1 rfl
  j := by
    rcases h.j with h1 | h1
    · exact .inl (h1.keep (k.mono hS))
    · refine .inr (h1.keep k hS (fun b hb e => ?_))
      obtain ⟨css, q1, q2, q3, q4⟩ := h1
      rcases q3.2 with ⟨rfl, -⟩ | ⟨g, cap, cur, rfl, -, e3, -⟩
      · cases hb
      · simp only [Value.ownBlock, Option.some.injEq] at hb
        subst hb
        exact (hv g _ _ e3 e).2.1 rfl
  w_ := by
    rcases h.w_ with h1 | h1
    · exact .inl (h1.keep (k.mono hS))
    · refine .inr (own_keep h1 k (fun b hb e => ?_))
      rcases h1.2 with ⟨rfl, -⟩ | ⟨g, cap, cur, rfl, -, e3, -⟩
      · cases hb
      · simp only [Value.ownBlock, Option.some.injEq] at hb
        subst hb
        exact (hv g _ _ e3 e).2.2 rfl
theorem RS.quiet {w w' : World} {lo : Nat} {vp vj vw : Value} {s : St} (h : RS w lo vp vj vw s) (k : Keep none_ w w') : RS w' lo vp vj vw s := h.keep k (fun _ e => e.elim) (fun _ _ _ _ e => e.elim)
theorem RS.blk {w w' : World} {lo x : Nat} {t : TypeId} {cs : Array Value} {vp vj vw : Value} {s : St} (h : RS w lo vp vj vw s) (k : Keep (one x) w w') (hx : lo ≤ x) (hb : Blk w x t cs) (h1 : t ≠ 9) (h2 : t ≠ 57) (h3 : t ≠ 107) : RS w' lo vp vj vw s :=
  h.keep k (fun b e => by cases e; exact hx) (fun b t' cs' hb' e => by
    cases e
    have e1 : w.heap[x]? = _ := hb
    have e2 : w.heap[x]? = _ := hb'
    rw [e1] at e2
    simp only [Option.some.injEq, Obj.cells.injEq] at e2
    obtain ⟨-, rfl, -⟩ := e2
    exact ⟨h1, h2, h3⟩)
theorem RS.lists {w : World} {lo : Nat} {vp vj vw : Value} {s : St} (h : RS w lo vp vj vw s) : StrsOf w none_ vp s.present ∧ ElemsOf w none_ 7 (JbOf w (ge lo)) vj s.jobs ∧ WorkersOf w none_ vw s.workers := by
  refine ⟨?_, ?_, ?_⟩
  · rcases h.p with h1 | h1
    · exact h1.sub (fun _ e => e.elim)
    · obtain ⟨A, c, e, r⟩ := own_row (S := none_) h1 (fun _ _ e => e)
      exact ⟨A, _, c, e, r⟩
  · rcases h.j with h1 | ⟨css, q1, q2, q3, q4⟩
    · exact ElemsOf.sub h1 (fun _ e => e.elim) (fun _ _ h => h)
    · obtain ⟨A, c, rfl, hr⟩ := own_row (S := none_) q3 (fun _ _ e => e)
      exact ElemsOf.of_row rfl q1 q2 hr q4
  · rcases h.w_ with h1 | h1
    · exact ElemsOf.sub h1 (fun _ e => e.elim) (fun _ _ h => h)
    · obtain ⟨A, c, e, r⟩ := ElemsOf_wks (S := none_) h1 (fun _ _ e => e)
      rw [e]
      exact r
theorem RS.state {w : World} {lo : Nat} {vp vj vw : Value} {s : St} (h : RS w lo vp vj vw s) : StateOf w none_ (.agg #[.int .i64 s.now, vp, vj, vw]) s := by
  obtain ⟨h1, h2, h3⟩ := h.lists
  exact ⟨vp, vj, vw, rfl, h1, ElemsOf.sub h2 (fun _ e => e) (fun _ _ h => h.sub (fun _ e => e.elim)), h3⟩
theorem StateOf.rs {w : World} {lo : Nat} {vp vj vw : Value} {s : St} (h : StateOf w (ge lo) (.agg #[.int .i64 s.now, vp, vj, vw]) s) : RS w lo vp vj vw s := by
  obtain ⟨a, b, c, e, h1, h2, h3⟩ := h
  simp only [Value.agg.injEq, Array.mk.injEq, List.cons.injEq, and_true, true_and] at e
  obtain ⟨rfl, rfl, rfl⟩ := e
  exact ⟨.inl h1, .inl h2, .inl h3⟩
theorem Aft.rs {w : World} {base : Bs} {g : Nat} {vp vj vw : Value} {s : St} (h : Aft w base g vp vj vw s) : RS w base.lo vp vj vw s := by
  obtain ⟨css, q1, q2, q3, q4⟩ := h.jobs
  exact ⟨.inr (own_base h.strs base.le), .inr ⟨css, q1, q2, own_base q3 base.le, q4⟩, .inr (own_base h.wks base.le)⟩
def ErrsOf (w : World) (v : Value) (es : List Int) : Prop := ∃ A c, v = .slice A es.length c ∧ Row w none_ 1 A es.length c (es.map (Value.int .i64))
def RunPost (s : St) (l : List Ev) (w : World) (en : Ending) (w' : World) : Prop :=
  ∃ v' vo ve, en = .returned (.tuple #[v', vo, ve]) ∧ StateOf w' none_ v' (goS s l) ∧ OutsOf w' vo (goO s l) ∧ ErrsOf w' ve (goE s l) ∧ Keep none_ w w'

theorem err_info : (Tryz.prog.info? 37).map (fun i => (i.zero, i.size, i.bytes)) = some (some (.int .i64 0), 1, 8) := by kernel_rfl
theorem mk_err (n : Nat) (hn : n ≤ 65536) (w : World) : (Instr.makeSlice 50 (.int .i64 (n : Int)) (.int .i64 (n : Int))).run Tryz.prog w = .ok (.slice (some ⟨w.heap.size, 0, none⟩) n n) (w.alloc (.cells ((List.replicate n (0 : Int)).map (Value.int .i64)).toArray 37)) := by
  obtain ⟨i, hi, hz0, hz1, hz2⟩ := info_parts err_info
  have h := run_make (P := Tryz.prog) w 50 37 i (.int .i64 0) Tryz.underlying50 hi hz0 .i64 .i64 n n (by omega) (Int.le_refl _) (by rw [hz2]; omega) (by omega)
  have e : madeCells (Value.int .i64 0).cells n = ((List.replicate n (0 : Int)).map (Value.int .i64)).toArray := by
    apply Array.toList_inj.1
    rw [show (Value.int .i64 0).cells = #[.int .i64 0] from rfl, toList_madeCells_one]
    simp
  rw [hz1, Int.toNat_natCast, Nat.mul_one, e] at h
  exact h
theorem Keep.under {a b c : World} {n : Nat} (h : Keep none_ a b) (k : Keep (ge n) b c) (hn : a.heap.size ≤ n) : Keep none_ a c := h.then k (fun _ e => .inr (Nat.le_trans hn e))
theorem own_type {w : World} {base : Nat} {e t : TypeId} {size : Nat} {v : Value} {n b : Nat} {xs : List Value} {cs : Array Value} (h : w.ownsRow base e size v n xs) (hb : Blk w b t cs) (ho : ofBlk v b) : t = e := by
  rcases h.2 with ⟨rfl, -⟩ | ⟨g, cap, cur, rfl, e2, e3, r⟩
  · cases ho
  · simp only [ofBlk, Value.ownBlock, Option.some.injEq] at ho
    subst ho
    have e1 : w.heap[g]? = _ := hb
    rw [e1] at e3
    simp only [Option.some.injEq, Obj.cells.injEq] at e3
    exact e3.2.1
/-- The error numbers of the first k events; zeros behind. -/
def errsAt (s : St) (l : List Ev) (n k : Nat) : List Int := goE s (l.take k) ++ List.replicate (n - k) 0
theorem errsAt_len (s : St) (l : List Ev) (k : Nat) (hk : k ≤ l.length) : (errsAt s l l.length k).length = l.length := by
  unfold errsAt
  rw [List.length_append, goE_length, List.length_replicate, List.length_take]
  omega
theorem errsAt_set (s : St) (l : List Ev) (k : Nat) (hk : k < l.length) : (errsAt s l l.length k).set k (errOf (goS s (l.take k)) l[k]) = errsAt s l l.length (k + 1) := by
  unfold errsAt
  have e1 : (goE s (l.take k)).length = k := by rw [goE_length, List.length_take]; omega
  rw [goE_next s l k hk, List.set_append_right _ _ (by omega), e1, Nat.sub_self, show l.length - k = (l.length - (k + 1)) + 1 by omega, List.replicate_succ, List.set_cons_zero, List.append_assoc]
  rfl
theorem errsAt_same (s : St) (l : List Ev) (k : Nat) (hk : k < l.length) (h0 : errOf (goS s (l.take k)) l[k] = 0) : errsAt s l l.length (k + 1) = errsAt s l l.length k := by
  unfold errsAt
  rw [goE_next s l k hk, h0, show l.length - k = (l.length - (k + 1)) + 1 by omega, List.replicate_succ, List.append_assoc]
  rfl
theorem errs_set (es : List Int) (k : Nat) (x : Int) : ((es.map (Value.int .i64)).toArray).setIfInBounds k (.int .i64 x) = ((es.set k x).map (Value.int .i64)).toArray := by
  apply Array.toList_inj.1
  simp [List.map_set]

set_option maxRecDepth 100000 in
set_option maxHeartbeats 1000000 in
theorem run_gen (s : St) (l : List Ev) (v vl : Value) (S S' : Nat → Prop) (w : World) (h : StateOf w S v s) (hl : EvsOf w S' vl l) (hv : V s) (hi : ItsC s) (hie : ∀ e ∈ l, Clb e.items) (hn : l.length ≤ 64) :
    Calls Tryz.prog 27 #[v, vl] w (RunPost s l w) := by
  obtain ⟨vp, vj, vw, rfl, rest⟩ := (id h : StateOf w S v s)
  obtain ⟨hsp, hsj, hsw⟩ := rest
  obtain ⟨Ap, np, cp, rfl, -⟩ := hsp
  obtain ⟨Aj, nj, cj, rfl, -⟩ := hsj
  obtain ⟨Aw, nw, cw, rfl, -⟩ := hsw
  obtain ⟨Al, nl, cl, rfl, hlr⟩ := (id hl : EvsOf w S' vl l)
  have hln : l.length = nl := hlr.2.2.1
  have hlc := hlr.1
  have hlm := hlr.2.1
  unfold maxLen at hlm
  obtain ⟨W0, hW0⟩ : ∃ W0, W0 = (w.alloc (.cells #[.int .i64 s.now, .slice Ap np cp, .slice Aj nj cj, .slice Aw nw cw] 48)).alloc (.cells #[.int .i64 0, .slice none 0 0, .slice none 0 0, .slice none 0 0] 48) := ⟨_, rfl⟩
  obtain ⟨b0, b1, k0⟩ := two (w := w) (t0 := 48) (c0 := #[.int .i64 s.now, .slice Ap np cp, .slice Aj nj cj, .slice Aw nw cw]) (t1 := 48) (c1 := #[.int .i64 0, .slice none 0 0, .slice none 0 0, .slice none 0 0]) (w1 := W0) (hW0 ▸ Keep.refl none_ W0)
  have HS := Lib.hid (StateOf.rs (h.fresh.keep k0.weak))
  have HL := Lib.hid (hl.fresh.keep k0.weak)
  have B0 := Lib.hid b0
  have B1 := Lib.hid b1
  have K0 := Lib.hid k0
  have HV := Lib.hid hv
  have HI := Lib.hid hi
  have HIE := Lib.hid hie
  have HLN := Lib.hid hln
  have hnl : nl ≤ 64 := by omega
  have l0 := b1.lt
  clear h hl hlr b0 b1 k0 hv hi hie hln
  go_enter Tryz.func27, Tryz.ntmps27
  go_upto_region 1 with (fail)
  rw [← hW0]
  clear hW0
  have mk := mk_err nl (by omega) W0
  obtain ⟨W1, hW1⟩ : ∃ W1, W1 = W0.alloc (.cells ((List.replicate nl (0 : Int)).map (Value.int .i64)).toArray 37) := ⟨_, rfl⟩
  rw [← hW1] at mk
  have HW1 := Lib.hid hW1
  clear hW1
  go_upto_region 2 with (fail)
  have hW1 := HW1.out
  have k1 : Keep none_ W0 W1 := hW1 ▸ (Keep.refl none_ W0).alloc _
  have b1 : Blk W1 W0.heap.size 37 ((errsAt s l l.length 0).map (Value.int .i64)).toArray := by
    rw [hW1]
    have := Blk.new W0 37 ((List.replicate nl (0 : Int)).map (Value.int .i64)).toArray
    simpa [errsAt, goE, HLN.out] using this
  have VA := Lib.hid (valid_any s _ _ W1 ((HS.out.quiet k1).state))
  rw [(valid_iff s).2 HV.out] at VA
  have K1 := Lib.hid k1
  have BE := Lib.hid b1
  have BS1 := Lib.hid (B0.out.keep k1 (fun e => e))
  have lE := b1.lt
  clear hW1 HW1 mk k1 b1
  have t1 : True := trivial
  go_upto_region 9 with (first | (have _t := t1; refine wpList_load_part 48 (.tmp 2) rfl rfl w.heap.size 0 rfl #[.int .i64 s.now, .slice Ap np cp, .slice Aj nj cj, .slice Aw nw cw] _ BS1.out.rangeAt Tryz.underlying48 rfl (by kernel_rfl) ?_; go_frame; clear _t t1) | (go_at_call 17; refine VA.out.mono ?_; rintro en w2 ⟨rfl, k2⟩; have K2 := Lib.hid k2; clear k2 VA))
  have S2 := Lib.hid (HS.out.quiet (K1.out.trans K2.out))
  have BS2 := Lib.hid (BS1.out.keep K2.out (fun e => e))
  have BE2 := Lib.hid (BE.out.keep K2.out (fun e => e))
  have BR2 := Lib.hid (B1.out.keep (K1.out.trans K2.out) (fun e => e))
  have KK := Lib.hid (K0.out.trans (K1.out.trans K2.out))
  have E2 := Lib.hid (HL.out.keep (K1.out.trans K2.out).weak)
  clear HS BS1 BE B0 B1 K1 K2 HL
  go_wp2
  go_loopw [9, 34] (fun o i wr => ∃ k : Nat, k ≤ l.length ∧ i = .int .i64 k ∧ ∃ vp vj vw, Blk wr w.heap.size 48 #[.int .i64 (goS s (l.take k)).now, vp, vj, vw] ∧ RS wr w.heap.size vp vj vw (goS s (l.take k)) ∧ Blk wr W0.heap.size 37 ((errsAt s l l.length k).map (Value.int .i64)).toArray ∧ Blk wr (w.heap.size + 1) 48 #[.int .i64 0, .slice none 0 0, .slice none 0 0, .slice none 0 0] ∧ wr.ownsRow w.heap.size 125 3 o (goO s (l.take k)).length (otCells (goO s (l.take k))) ∧ EvsOf wr (ge w.heap.size) (.slice Al nl cl) l ∧ Keep none_ w wr) (fun _ i _ => nl - (intOf i).toNat)
  case atStart => exact ⟨0, Nat.zero_le _, rfl, _, _, _, BS2.out, S2.out, BE2.out, BR2.out, ⟨rfl, .inl ⟨rfl, rfl⟩⟩, E2.out, KK.out⟩
  case round =>
    obtain ⟨k, hk, rfl, vp, vj, vw, hB, hS, hE, hR, hO, hEv, hkr⟩ := hrel
    obtain ⟨Q1, Q2, rfl, -⟩ := own_row (S := none_) hO (fun _ _ e => e)
    have hlo := goO_le HV.out (l.take k)
    have HB := Lib.hid hB
    have HSx := Lib.hid hS
    have HE := Lib.hid hE
    have HR := Lib.hid hR
    have HO := Lib.hid hO
    have HEv := Lib.hid hEv
    have HK := Lib.hid hkr
    have lw0 := hkr.size
    have lwE := hE.lt
    by_cases hlt : k < l.length
    · have hlt' : (k : Int) < nl := by have := HLN.out; omega
      have hkn : k < nl := by have := HLN.out; omega
      obtain ⟨bl, ol, rfl, hbl, hkl2, cs, hcl, hrg, vn, vi, hcs, hns, his⟩ := hEv.elem k hkn
      have n1 := goS_next s l k hlt
      have n2 := goO_next s l k hlt
      have n3 := errsAt_set s l k hlt
      have n4 := HIE.out _ (List.getElem_mem hlt)
      have n6 := errsAt_same s l k hlt
      have hV := V.go HV.out (l.take k)
      have hI := AllI.go ItOk.nil.c HI.out (l.take k) (fun e he => HIE.out e (List.mem_of_mem_take he))
      have n5 := nextO_le hV l[k]
      have ek : ((errsAt s l l.length k).map (Value.int .i64)).toArray[k]? = some (.int .i64 ((errsAt s l l.length k).getD k 0)) := by
        have : k < (errsAt s l l.length k).length := by rw [errsAt_len s l k hk]; exact hlt
        simp [this]
      generalize l[k] = e at hcs hns his n1 n2 n3 n4 n5 n6
      generalize goS s (l.take k) = sk at n1 n2 n3 hV hI n5 n6 HB HSx
      subst hcs
      obtain ⟨An, nn, cn, rfl, rn⟩ := hns
      obtain ⟨Ai, ni, ci, rfl, ri⟩ := his
      have EV := Lib.hid (show EvOf wr (ge w.heap.size) (.agg #[.int .i64 e.kind, .string e.name, .string e.worker, .slice An nn cn, .int .i64 e.ticks, .slice Ai ni ci]) e from ⟨_, _, rfl, ⟨_, _, _, rfl, rn⟩, ⟨_, _, _, rfl, ri⟩⟩)
      have HRG := Lib.hid hrg
      have N1 := Lib.hid n1
      have N2 := Lib.hid n2
      have N3 := Lib.hid n3
      have N4 := Lib.hid n4
      have N6 := Lib.hid n6
      have VS := Lib.hid hV
      have IS := Lib.hid hI
      have EK := Lib.hid ek
      clear hB hS hE hR hO hEv hkr n1 n2 n3 n4 n6 hV hI rn ri hrg hcl hk ek
      go_upto_region 12 with (fail)
      have t1 : True := trivial
      have t2 : True := trivial
      go_upto_region 13 with (first | (have _t := t1; refine wpList_load_part 78 (.tmp 37) rfl rfl bl (ol + k * 6) (by first | rfl | simp) #[.int .i64 e.kind, .string e.name, .string e.worker, .slice An nn cn, .int .i64 e.ticks, .slice Ai ni ci] _ HRG.out Tryz.underlying78 rfl (by kernel_rfl) ?_; go_frame; clear _t t1) | (have _t := t2; refine wpList_store_blk rfl 78 (.tmp 11) (.tmp 38) rfl wr.heap.size 78 _ _ rfl rfl (Blk.new _ _ _) rfl (by kernel_rfl) (by simp [Value.oneCell']) ?_; intro w3 b3 k3 s3; go_frame; clear _t t2))
      have kr3 : Keep none_ wr w3 := ((Keep.refl none_ wr).alloc _).own k3 (Nat.le_refl _)
      have B3 := Lib.hid b3
      have KR3 := Lib.hid kr3
      have VE := Lib.hid (validEvent_any e _ _ w3 (EV.out.keep kr3.weak))
      clear k3 s3 b3 kr3 HRG
      cases hev : evOk e with
      | false =>
        have X1 := Lib.hid (show errOf sk e = 1 by unfold errOf; rw [hev]; rfl)
        rw [hev] at VE
        clear hev
        have XN := Lib.hid (show ¬ (1 : Int) = 0 by decide)
        have t3 : True := trivial
        go_upto_region 14 with (first | (have _t := t3; refine wpList_load_part 78 (.tmp 11) rfl rfl wr.heap.size 0 rfl #[.int .i64 e.kind, .string e.name, .string e.worker, .slice An nn cn, .int .i64 e.ticks, .slice Ai ni ci] _ B3.out.rangeAt Tryz.underlying78 rfl (by kernel_rfl) ?_; go_frame; clear _t t3) | (go_at_call 51; refine VE.out.mono ?_; rintro en w4 ⟨rfl, k4⟩; have K4 := Lib.hid (KR3.out.trans k4); clear k4))
        have bE := HE.out.keep K4.out (fun e => e)
        have f1 := bE.cell k
        rw [EK.out] at f1
        have f2 := bE.frozen k
        have bE5 := bE.set_ k (.int .i64 (1))
        rw [errs_set] at bE5
        have k5 : Keep (one W0.heap.size) w4 (w4.setCell ⟨W0.heap.size, k, none⟩ (.int .i64 (1))) := (Keep.refl (one W0.heap.size) w4).setCell (p := ⟨W0.heap.size, k, none⟩) (.inl rfl) _
        have o5 := own_keep HO.out K4.out (fun _ _ e => e)
        have n3 := N3.out
        rw [X1.out] at n3
        rw [n3] at bE5
        have g1 : goS s (l.take (k + 1)) = sk := by rw [N1.out, nextS, if_neg (by rw [X1.out]; exact XN.out)]
        have g2 : goO s (l.take (k + 1)) = goO s (l.take k) := by rw [N2.out, nextO, if_neg (by rw [X1.out]; exact XN.out), List.append_nil]
        have G1 := Lib.hid g1
        have G2 := Lib.hid g2
        have R1 := Lib.hid bE5
        have R2 := Lib.hid ((HB.out.keep K4.out (fun e => e)).keep k5 (fun e => by unfold one at e; omega))
        have R3 := Lib.hid ((HSx.out.quiet K4.out).blk k5 (by omega) bE (by decide) (by decide) (by decide))
        have R4 := Lib.hid ((HR.out.keep K4.out (fun e => e)).keep k5 (fun e => by unfold one at e; omega))
        have R5 := Lib.hid (own_keep o5 k5 (own_apart o5 bE (by decide)))
        have R6 := Lib.hid ((HEv.out.keep K4.out.weak).keep (k5.mono (fun x e => by unfold one at e; unfold ge; omega)))
        have R7 := Lib.hid ((HK.out.trans K4.out).own k5 (by omega))
        clear bE bE5 k5 o5 n3 g1 g2
        go_wp2
        go_roundw
        case rel => exact ⟨k + 1, hlt, by go_num, vp, vj, vw, by rw [G1.out]; exact R2.out, by rw [G1.out]; exact R3.out, R1.out, R4.out, by rw [G2.out]; exact R5.out, R6.out, R7.out⟩
        case measure => simp [intOf]; omega
      | true =>
        have HEVO := Lib.hid hev
        have xe : errOf sk e = perE sk e := by unfold errOf; rw [hev]; rfl
        have X1 := Lib.hid xe
        rw [hev] at VE
        clear hev xe
        obtain ⟨ll1, ll2, ll3⟩ := HSx.out.lists
        obtain ⟨P1, P2, P3, rfl, -⟩ := (id ll1 : StrsOf _ _ _ _)
        obtain ⟨P4, P5, P6, rfl, -⟩ := (id ll2 : ElemsOf _ _ _ _ _ _)
        obtain ⟨P7, P8, P9, rfl, -⟩ := (id ll3 : WorkersOf _ _ _ _)
        clear ll1 ll2 ll3
        have t3 : True := trivial
        go_upto_region 15 with (first | (have _t := t3; refine wpList_load_part 78 (.tmp 11) rfl rfl wr.heap.size 0 rfl #[.int .i64 e.kind, .string e.name, .string e.worker, .slice An nn cn, .int .i64 e.ticks, .slice Ai ni ci] _ B3.out.rangeAt Tryz.underlying78 rfl (by kernel_rfl) ?_; go_frame; clear _t t3) | (go_at_call 51; refine VE.out.mono ?_; rintro en w4 ⟨rfl, k4⟩; have K4 := Lib.hid (KR3.out.trans k4); have B4 := Lib.hid (B3.out.keep k4 (fun e => e)); clear k4))
        obtain ⟨m1, m2, m3⟩ := (HSx.out.quiet K4.out).lists
        have CO := Lib.hid (copied_in sk _ _ _ (ge w.heap.size) w4 m1 m2 m3 VS.out.small)
        have HB4 := Lib.hid (HB.out.keep K4.out (fun e => e))
        have l4 := K4.out.size
        clear m1 m2 m3
        have t4 : True := trivial
        have t5 : True := trivial
        go_upto_region 16 with (first | (have _t := t4; refine wpList_load_part 48 (.tmp 2) rfl rfl w.heap.size 0 rfl #[.int .i64 sk.now, .slice P1 P2 P3, .slice P4 P5 P6, .slice P7 P8 P9] _ HB4.out.rangeAt Tryz.underlying48 rfl (by kernel_rfl) ?_; go_frame; clear _t t4) | (go_at_call 52; refine CO.out.mono ?_; rintro en w5 ⟨vp5, vj5, vw5, rfl, o1, o2, o3, k5⟩; obtain ⟨A1, c1, rfl, -⟩ := own_row (S := none_) o1 (fun _ _ e => e); obtain ⟨A2, c2, rfl, -, -⟩ := o2.slice; obtain ⟨A3, c3, rfl, -⟩ := own_row (S := none_) o3 (fun _ _ e => e); have O1 := Lib.hid o1; have O2 := Lib.hid o2; have O3 := Lib.hid o3; have K5 := Lib.hid k5; clear o1 o2 o3 k5 CO) | (have _t := t5; refine wpList_store_blk rfl 48 (.tmp 12) (.tmp 46) rfl w5.heap.size 48 _ _ rfl rfl (Blk.new _ _ _) rfl (by kernel_rfl) (by simp [Value.oneCell']) ?_; intro w6 b6 k6 s6; go_frame; clear _t t5))
        have k56 : Keep none_ w5 w6 := ((Keep.refl none_ w5).alloc _).own k6 (Nat.le_refl _)
        have hle : w.heap.size ≤ w4.heap.size := by omega
        have A6 := Lib.hid (Aft.of_copy (base := ⟨w4.heap.size, w.heap.size, hle⟩) (Nat.le_refl _) K5.out O1.out O2.out O3.out b6 k56)
        have K46 := Lib.hid (K5.out.trans k56)
        have PF := Lib.hid (perform_any sk _ _ _ _ ⟨w4.heap.size, w.heap.size, hle⟩ w5.heap.size e w6 A6.out (EV.out.keep (K4.out.trans K46.out).weak) HEVO.out VS.out)
        have B6 := Lib.hid (B4.out.keep K46.out (fun e => e))
        have t6 : True := trivial
        clear k6 s6 b6 k56 O1 O2 O3 K5
        go_upto_region 17 with (first | (have _t := t6; refine wpList_load_part 78 (.tmp 11) rfl rfl wr.heap.size 0 rfl #[.int .i64 e.kind, .string e.name, .string e.worker, .slice An nn cn, .int .i64 e.ticks, .slice Ai ni ci] _ B6.out.rangeAt Tryz.underlying78 rfl (by kernel_rfl) ?_; go_frame; clear _t t6) | (go_at_call 53; refine PF.out.mono ?_; rintro en w7 ⟨vo7, vp7, vj7, vw7, rfl, o7, a7, k7⟩; obtain ⟨Q3, Q4, rfl, -⟩ := own_row (S := none_) o7 (fun _ _ e => e); have O7 := Lib.hid o7; have A7 := Lib.hid a7; have K7 := Lib.hid (K4.out.trans (K46.out.under k7 (Nat.le_refl _))); clear o7 a7 k7 PF))
        by_cases hz : perE sk e = 0
        · have XZ := Lib.hid (X1.out.trans hz)
          obtain ⟨r1, r2, r3⟩ := A7.out.rs.lists
          obtain ⟨U1, U2, U3, rfl, -⟩ := r1
          obtain ⟨U4, U5, U6, rfl, -⟩ := r2
          obtain ⟨U7, U8, U9, rfl, -⟩ := r3
          have HB7 := Lib.hid (HB.out.keep K7.out (fun e => e))
          have G7 := Lib.hid A7.out.blk
          have l7 := K7.out.size
          rw [hz]
          clear hz
          have t7 : True := trivial
          have t8 : True := trivial
          have t9 : True := trivial
          have pl := perO_le VS.out e
          have tl : (l.take k).length ≤ 64 := by rw [List.length_take]; omega
          go_upto_region 20 with (first | (have _t := t7; refine wpList_load_part 48 (.tmp 12) rfl rfl w5.heap.size 0 rfl #[.int .i64 (perS sk e).now, .slice U1 U2 U3, .slice U4 U5 U6, .slice U7 U8 U9] _ G7.out.rangeAt Tryz.underlying48 rfl (by kernel_rfl) ?_; go_frame; clear _t t7) | (have _t := t8; refine wpList_store_blk rfl 48 (.tmp 2) (.tmp 58) rfl w.heap.size 48 _ _ rfl rfl HB7.out rfl (by kernel_rfl) (by simp [Value.oneCell']) ?_; intro w8 b8 k8 s8; go_frame; clear _t t8))
          have o7 := own_keep HO.out K7.out (fun _ _ e => e)
          have O8 := Lib.hid (own_keep o7 k8 (own_apart o7 HB7.out (by decide)))
          have OX8 := Lib.hid (own_keep O7.out k8 (own_apart O7.out HB7.out (by decide)))
          have S8 := Lib.hid (A7.out.rs.blk k8 (Nat.le_refl _) HB7.out (by decide) (by decide) (by decide))
          have E8 := Lib.hid ((HE.out.keep K7.out (fun e => e)).keep k8 (fun e => by unfold one at e; omega))
          have T8 := Lib.hid ((HR.out.keep K7.out (fun e => e)).keep k8 (fun e => by unfold one at e; omega))
          have V8 := Lib.hid ((HEv.out.keep K7.out.weak).keep (k8.mono (fun x e => by unfold one at e; unfold ge; omega)))
          have K8 := Lib.hid ((HK.out.trans K7.out).own k8 (Nat.le_refl _))
          have B8 := Lib.hid b8
          have l8 := k8.size
          clear o7 b8 k8 s8
          go_wp2_with (have _t := t9; refine append_outs (.tmp 59) (.tmp 60) rfl rfl w.heap.size w4.heap.size (.slice Q1 (goO s (l.take k)).length Q2) (goO s (l.take k)).length (otCells (goO s (l.take k))) rfl O8.out (.slice Q3 (perO sk e).length Q4) (perO sk e) rfl OX8.out (by omega) (by omega) ?_; intro A9 c9 w9 o9 k9; have O9 := Lib.hid o9; have K9 := Lib.hid k9; clear o9 k9; go_frame; clear _t t9)
          go_roundw
          case rel =>
            have g1 : goS s (l.take (k + 1)) = perS sk e := by rw [N1.out, nextS, if_pos XZ.out]
            have g2 : goO s (l.take (k + 1)) = goO s (l.take k) ++ perO sk e := by rw [N2.out, nextO, if_pos XZ.out]
            have hS9 : RS w9 w.heap.size (.slice U1 U2 U3) (.slice U4 U5 U6) (.slice U7 U8 U9) (perS sk e) := S8.out.keep K9.out (fun b e => own_ge O8.out b e) (fun b t cs hb e => by rw [own_type O8.out hb e]; decide)
            refine ⟨k + 1, hlt, by go_num, _, _, _, by rw [g1]; exact B8.out.keep K9.out (fun e => own_apart O8.out B8.out (by decide) _ e rfl), by rw [g1]; exact hS9, by rw [N6.out XZ.out]; exact E8.out.keep K9.out (fun e => own_apart O8.out E8.out (by decide) _ e rfl), T8.out.keep K9.out (fun e => own_apart O8.out T8.out (by decide) _ e rfl), ?_, V8.out.keep (K9.out.mono (fun b e => own_ge O8.out b e)), ?_⟩
            · rw [g2, List.length_append]
              have := O9.out
              unfold otCells at this ⊢
              rw [List.flatMap_append]
              exact this
            · exact K8.out.then K9.out (fun x e => .inr (own_ge O8.out x e))
          case measure => simp [intOf]; omega
        · have XN := Lib.hid hz
          have hz' : (perE sk e != 0) = true := by simpa using hz
          clear hz
          have bE := HE.out.keep K7.out (fun e => e)
          have f1 := bE.cell k
          rw [EK.out] at f1
          have f2 := bE.frozen k
          have bE5 := bE.set_ k (.int .i64 (perE sk e))
          rw [errs_set] at bE5
          have k5 : Keep (one W0.heap.size) w7 (w7.setCell ⟨W0.heap.size, k, none⟩ (.int .i64 (perE sk e))) := (Keep.refl (one W0.heap.size) w7).setCell (p := ⟨W0.heap.size, k, none⟩) (.inl rfl) _
          have o5 := own_keep HO.out K7.out (fun _ _ e => e)
          have n3 := N3.out
          rw [X1.out] at n3
          rw [n3] at bE5
          have g1 : goS s (l.take (k + 1)) = sk := by rw [N1.out, nextS, if_neg (by rw [X1.out]; exact XN.out)]
          have g2 : goO s (l.take (k + 1)) = goO s (l.take k) := by rw [N2.out, nextO, if_neg (by rw [X1.out]; exact XN.out), List.append_nil]
          have G1 := Lib.hid g1
          have G2 := Lib.hid g2
          have R1 := Lib.hid bE5
          have R2 := Lib.hid ((HB.out.keep K7.out (fun e => e)).keep k5 (fun e => by unfold one at e; omega))
          have R3 := Lib.hid ((HSx.out.quiet K7.out).blk k5 (by omega) bE (by decide) (by decide) (by decide))
          have R4 := Lib.hid ((HR.out.keep K7.out (fun e => e)).keep k5 (fun e => by unfold one at e; omega))
          have R5 := Lib.hid (own_keep o5 k5 (own_apart o5 bE (by decide)))
          have R6 := Lib.hid ((HEv.out.keep K7.out.weak).keep (k5.mono (fun x e => by unfold one at e; unfold ge; omega)))
          have R7 := Lib.hid ((HK.out.trans K7.out).own k5 (by omega))
          clear bE bE5 k5 o5 n3 g1 g2
          go_wp2
          go_roundw
          case rel => exact ⟨k + 1, hlt, by go_num, _, _, _, by rw [G1.out]; exact R2.out, by rw [G1.out]; exact R3.out, R1.out, R4.out, by rw [G2.out]; exact R5.out, R6.out, R7.out⟩
          case measure => simp [intOf]; omega
    · obtain rfl : k = l.length := by omega
      rw [List.take_length] at HB HSx HO
      have CL := Lib.hid (clone_any (goS s l) _ none_ wr HSx.out.state (V.go HV.out l).small (V.plain (V.go HV.out l) (AllI.go ItOk.nil.c HI.out l HIE.out)))
      obtain ⟨r1, r2, r3⟩ := HSx.out.lists
      obtain ⟨U1, U2, U3, rfl, -⟩ := r1
      obtain ⟨U4, U5, U6, rfl, -⟩ := r2
      obtain ⟨U7, U8, U9, rfl, -⟩ := r3
      have t1 : True := trivial
      have t2 : True := trivial
      have hE0 : errsAt s l l.length l.length = goE s l := by unfold errsAt; simp
      rw [hE0] at HE
      have lr := HR.out.lt
      have hnn : ¬ (l.length : Int) < nl := by have := HLN.out; omega
      clear hB hS hE hR hO hEv hkr hE0 hlt
      go_wp2_with (first | (have _t := t1; refine wpList_load_part 48 (.tmp 2) rfl rfl w.heap.size 0 rfl #[.int .i64 (goS s l).now, .slice U1 U2 U3, .slice U4 U5 U6, .slice U7 U8 U9] _ HB.out.rangeAt Tryz.underlying48 rfl (by kernel_rfl) ?_; go_frame; clear _t t1) | (go_at_call 54; refine CL.out.mono ?_; rintro en w6 ⟨v6, rfl, h6, k6⟩; have K6 := Lib.hid k6; have R6 := Lib.hid (HR.out.keep k6 (fun e => e)); have H6 := Lib.hid h6; obtain ⟨p6, j6, q6, rfl, g1, g2, g3⟩ := h6; obtain ⟨P1, P2, P3, rfl, -⟩ := g1; obtain ⟨P4, P5, P6, rfl, -⟩ := g2; obtain ⟨P7, P8, P9, rfl, -⟩ := g3; clear k6 CL) | (have _t := t2; refine wpList_store_blk rfl 48 (.tmp 4) (.tmp 64) rfl (w.heap.size + 1) 48 _ _ rfl rfl R6.out rfl (by kernel_rfl) (by simp [Value.oneCell']) ?_; intro w9 b9 k9 s9; go_frame; clear _t t2))
      have o6 := own_keep HO.out K6.out (fun _ _ e => e)
      have e6 := (HE.out.keep K6.out (fun e => e)).keep k9 (fun e => by unfold one at e; omega)
      refine ⟨rfl, _, results_cell_tmp2 Tryz.results27 rfl (run_loadVar_blk b9 Tryz.underlying48 rfl (by kernel_rfl)), _, _, _, rfl, (H6.out.keep (k9.mono (fun x e => by unfold one at e; unfold bel; omega))).sub (fun _ e => e.elim), OutsOf.own (own_keep o6 k9 (own_apart o6 R6.out (by decide))), ?_, (HK.out.trans K6.out).own k9 (by omega)⟩
      have hes : (goE s l).length = nl := by rw [goE_length]; exact HLN.out
      refine ⟨some ⟨W0.heap.size, 0, none⟩, nl, by rw [hes]; rfl, ⟨by simp, by rw [hes]; exact Nat.le_refl _, by unfold maxLen; omega, fun _ => ⟨W0.heap.size, 0, rfl, fun e => e, fun j u hu => ?_⟩⟩⟩
      rw [Nat.zero_add, e6.cell, List.getElem?_toArray]
      exact hu
theorem run_any (s : St) (l : List Ev) (v vl : Value) (S S' : Nat → Prop) (w : World) (h : StateOf w S v s) (hl : EvsOf w S' vl l) (hv : V s) (hi : ItsOk s) (hie : ∀ e ∈ l, ItOk e.items) (hn : l.length ≤ 64) :
    Calls Tryz.prog 27 #[v, vl] w (RunPost s l w) := run_gen s l v vl S S' w h hl hv hi.c (fun e he => (hie e he).c) hn
end Go.Proofs.YtnefbeplgfdkkaaGreatDoor
