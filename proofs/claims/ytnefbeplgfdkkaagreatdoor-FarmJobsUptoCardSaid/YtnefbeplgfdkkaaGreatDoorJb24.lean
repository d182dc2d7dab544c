/-
  Step.
-/
import Derived.Test.YtnefbeplgfdkkaaGreatDoorJb12
import Derived.Test.YtnefbeplgfdkkaaGreatDoorJb22
import Derived.Test.YtnefbeplgfdkkaaGreatDoorJb23
namespace Go.Proofs.YtnefbeplgfdkkaaGreatDoor
open Go.RowKit

def ItOk (l : List Itm) : Prop := PlainI l ∧ l.length ≤ 65536
/-- A fact of the items of each job. -/
def AllI (I : List Itm → Prop) (s : St) : Prop := ∀ j ∈ s.jobs, I j.items
def ItsOk (s : St) : Prop := AllI ItOk s
theorem ItOk.nil : ItOk [] := ⟨fun _ h => (by cases h), Nat.zero_le _⟩
theorem ItOk.c {l : List Itm} (h : ItOk l) : Clb l := clb_plain h.1 h.2
/-- cloneItems makes each job's items anew. -/
def ItsC (s : St) : Prop := AllI Clb s
theorem ItsOk.c {s : St} (h : ItsOk s) : ItsC s := fun j hj => (h j hj).c
section
variable {I : List Itm → Prop}
theorem AllI.set {s : St} (h : AllI I s) (k : Nat) (x : Jb) (hx : I x.items) : ∀ j ∈ s.jobs.set k x, I j.items := fun j hj => by
  rcases List.mem_or_eq_of_mem_set hj with hj | rfl
  · exact h j hj
  · exact hx
theorem AllI.get {s : St} (h : AllI I s) {k : Nat} {j : Jb} (hj : s.jobs[k]? = some j) : I j.items := h j (List.mem_of_getElem? hj)
theorem per_all (h0 : I []) {s : St} {e : Ev} (h : AllI I s) (he : I e.items) : AllI I (perS s e) := by
  unfold perS
  by_cases k1 : e.kind = 1
  · rw [if_pos k1]
    unfold submitS
    split
    · exact h
    split
    · exact h
    · intro j hj
      rcases List.mem_append.1 hj with hj | hj
      · exact h j hj
      · simp at hj; rw [hj]; exact h0
  rw [if_neg k1]
  by_cases k2 : e.kind = 2
  · rw [if_pos k2]
    unfold arriveS
    repeat' split
    all_goals exact h
  rw [if_neg k2]
  by_cases k3 : e.kind = 3
  · rw [if_pos k3]
    unfold leaveS
    repeat' split
    all_goals exact h
  rw [if_neg k3]
  by_cases k4 : e.kind = 4
  · rw [if_pos k4]
    unfold joinS
    repeat' split
    all_goals exact h
  rw [if_neg k4]
  by_cases k5 : e.kind = 5
  · rw [if_pos k5]
    unfold dieS
    repeat' split
    all_goals exact h
  rw [if_neg k5]
  by_cases k6 : e.kind = 6
  · rw [if_pos k6]
    unfold pollS
    split
    · split
      · unfold giveS
        split
        · rename_i j hj
          exact h.set _ _ (show I j.items from h.get hj)
        · exact h
      · exact h
    · exact h
  rw [if_neg k6]
  by_cases k7 : e.kind = 7 ∨ e.kind = 8
  · rw [if_pos k7]
    unfold endS
    split
    · split
      · rename_i j hj
        refine h.set _ _ ?_
        unfold doneJ
        split
        · exact he
        · exact (show I j.items from h.get hj)
      · exact h
    · exact h
  rw [if_neg k7]
  unfold tickS
  split
  · exact h
  · rw [tickTo_all]
    intro j hj
    obtain ⟨i, hi, rfl⟩ := List.mem_map.1 hj
    unfold relJ
    split <;> exact h i hi
end
theorem per_items {s : St} {e : Ev} (h : ItsOk s) (he : ItOk e.items) : ItsOk (perS s e) := per_all ItOk.nil h he
theorem per_itemsC {s : St} {e : Ev} (h : ItsC s) (he : Clb e.items) : ItsC (perS s e) := per_all ItOk.nil.c h he
theorem V.small {s : St} (h : V s) : Small s := ⟨h.p64, h.jl, by have := h.wl; omega⟩
theorem V.plain {s : St} (h : V s) (hi : ItsC s) : PlainS s := fun j hj => ⟨hi j hj, by have := ((namesOk_iff _).1 (h.jb j hj).2.1).2.2; omega⟩
theorem Aft.state {w : World} {base : Bs} {g : Nat} {vp vj vw : Value} {s : St} (h : Aft w base g vp vj vw s) : StateOf w none_ (.agg #[.int .i64 s.now, vp, vj, vw]) s := by
  obtain ⟨A1, c1, e1, r1⟩ := own_row (S := none_) h.strs (fun _ _ e => e)
  obtain ⟨A2, c2, e2, r2⟩ := ElemsOf_jobs h.jobs
  obtain ⟨A3, c3, e3, r3⟩ := ElemsOf_wks (S := none_) h.wks (fun _ _ e => e)
  exact ⟨vp, vj, vw, rfl, ⟨_, _, _, e1, r1⟩, by rw [e2]; exact r2, by rw [e3]; exact r3⟩
def OutsOf (w : World) (v : Value) (os : List Ot) : Prop := ∃ A c, v = .slice A os.length c ∧ Row w none_ 3 A os.length c (otCells os)
theorem OutsOf.keep {w w' : World} {v : Value} {os : List Ot} (h : OutsOf w v os) (k : Keep none_ w w') : OutsOf w' v os := by
  obtain ⟨A, c, e, r⟩ := h
  exact ⟨A, c, e, r.keep k⟩
theorem OutsOf.nil (w : World) : OutsOf w (.slice none 0 0) [] := ⟨none, 0, rfl, row_nil _ _ _ _ _ (Nat.zero_le _)⟩
theorem OutsOf.own {w : World} {base : Nat} {v : Value} {os : List Ot} (h : w.ownsRow base 125 3 v os.length (otCells os)) : OutsOf w v os := own_row (S := none_) h (fun _ _ e => e)
theorem EvOf.keep {w w' : World} {S : Nat → Prop} {v : Value} {e : Ev} (h : EvOf w S v e) (k : Keep S w w') : EvOf w' S v e := by
  obtain ⟨vn, vi, ev, h1, h2⟩ := h
  exact ⟨vn, vi, ev, h1.keep k, h2.keep k⟩
theorem EvOf.fresh {w : World} {S : Nat → Prop} {v : Value} {e : Ev} (h : EvOf w S v e) : EvOf w (ge w.heap.size) v e := by
  obtain ⟨vn, vi, ev, h1, h2⟩ := h
  exact ⟨vn, vi, ev, h1.fresh, h2.fresh⟩
theorem EvOf.sub {w : World} {S S' : Nat → Prop} {v : Value} {e : Ev} (h : EvOf w S v e) (hS : ∀ b, S' b → S b) : EvOf w S' v e := by
  obtain ⟨vn, vi, ev, h1, h2⟩ := h
  exact ⟨vn, vi, ev, h1.sub hS, h2.sub hS⟩
theorem StateOf.sub {w : World} {S S' : Nat → Prop} {v : Value} {s : St} (h : StateOf w S v s) (hS : ∀ b, S' b → S b) : StateOf w S' v s := by
  obtain ⟨a, b, c, e, h1, h2, h3⟩ := h
  exact ⟨a, b, c, e, h1.sub hS, ElemsOf.sub h2 hS (fun _ _ h => h.sub hS), ElemsOf.sub h3 hS (fun _ _ h => h)⟩
/-- The variable 'after', laid. -/
theorem Aft.of_copy {w1 w2 w3 : World} {base : Bs} {s : St} {vp vj vw : Value} (hb : base ≤ w1.heap.size) (k1 : Keep none_ w1 w2) (o1 : w2.ownsRow w1.heap.size 9 1 vp s.present.length (s.present.map Value.string)) (o2 : RowJobs w2 w1.heap.size (inn base) vj s.jobs) (o3 : w2.ownsRow w1.heap.size 107 2 vw s.workers.length (wkCells s.workers))
    (hg : Blk w3 w2.heap.size 48 #[.int .i64 s.now, vp, vj, vw]) (k : Keep none_ w2 w3) : Aft w3 base w2.heap.size vp vj vw s := by
  obtain ⟨css, q1, q2, q3, q4⟩ := o2
  exact ⟨hg, Nat.le_trans hb k1.size, own_base (own_keep o1 k (fun _ _ e => e)) hb, ⟨css, q1, q2, own_base (own_keep q3 k (fun _ _ e => e)) hb, fun i cs x hi hx => (q4 i cs x hi hx).keep k.weak⟩, own_base (own_keep o3 k (fun _ _ e => e)) hb⟩
theorem zeroSt_of (w : World) (S : Nat → Prop) : StateOf w S (.agg #[.int .i64 0, .slice none 0 0, .slice none 0 0, .slice none 0 0]) zeroSt :=
  ⟨_, _, _, rfl, ⟨none, 0, 0, rfl, row_nil _ _ _ _ _ (Nat.zero_le _)⟩, ⟨none, 0, 0, rfl, Nat.le_refl _, Nat.zero_le _, rfl, fun h => absurd h (by omega)⟩, ⟨none, 0, 0, rfl, Nat.le_refl _, Nat.zero_le _, rfl, fun h => absurd h (by omega)⟩⟩
theorem results_cell_tmp2 {P : Program} {fn : Func} {tmps : Array Value} {w : World} {p q r : Tmp} {ty : TypeId} {b : Nat} {v : Value} (h : fn.results = #[.cell p ty, .tmp q, .tmp r]) (hp : tmps.getD p undef = .pointer (some ⟨b, 0, none⟩)) (hl : (loadVar ty ⟨b, 0, none⟩).run P w = .ok v w) :
    (results fn tmps).run P w = .ok (.tuple #[v, tmps.getD q undef, tmps.getD r undef]) w := by
  simp only [results, h]
  have hp' : tmps[p]?.getD undef = .pointer (some ⟨b, 0, none⟩) := by simpa using hp
  simp [hp', asAddr, hl]
def StepPost (s : St) (e : Ev) (w : World) (en : Ending) (w' : World) : Prop :=
  ∃ v' vo, en = .returned (.tuple #[v', vo, .int .i64 (stepE s e)]) ∧ StateOf w' none_ v' (stepS s e) ∧ OutsOf w' vo (stepO s e) ∧ Keep none_ w w'

set_option maxRecDepth 100000 in
set_option maxHeartbeats 1000000 in
theorem step_gen (s : St) (e : Ev) (v ve : Value) (S S' : Nat → Prop) (w : World) (h : StateOf w S v s) (he : EvOf w S' ve e) (hi : ItsC s) (hie : Clb e.items) :
    Calls Tryz.prog 22 #[v, ve] w (StepPost s e w) := by
  obtain ⟨vp, vj, vw, rfl, rest⟩ := (id h : StateOf w S v s)
  obtain ⟨hsp, hsj, hsw⟩ := rest
  obtain ⟨Ap, np, cp, rfl, -⟩ := hsp
  obtain ⟨Aj, nj, cj, rfl, -⟩ := hsj
  obtain ⟨Aw, nw, cw, rfl, -⟩ := hsw
  obtain ⟨vn, vi, rfl, hen, hei⟩ := (id he : EvOf w S' ve e)
  obtain ⟨An, nn, cn, rfl, -⟩ := hen
  obtain ⟨Ai, ni, ci, rfl, -⟩ := hei
  obtain ⟨W0, hW0⟩ : ∃ W0, W0 = ((w.alloc (.cells #[.int .i64 s.now, .slice Ap np cp, .slice Aj nj cj, .slice Aw nw cw] 48)).alloc (.cells #[.int .i64 e.kind, .string e.name, .string e.worker, .slice An nn cn, .int .i64 e.ticks, .slice Ai ni ci] 78)).alloc (.cells #[.int .i64 0, .slice none 0 0, .slice none 0 0, .slice none 0 0] 48) := ⟨_, rfl⟩
  obtain ⟨b0, b1, b2, k0⟩ := three (w := w) (t0 := 48) (c0 := #[.int .i64 s.now, .slice Ap np cp, .slice Aj nj cj, .slice Aw nw cw]) (t1 := 78) (c1 := #[.int .i64 e.kind, .string e.name, .string e.worker, .slice An nn cn, .int .i64 e.ticks, .slice Ai ni ci]) (t2 := 48) (c2 := #[.int .i64 0, .slice none 0 0, .slice none 0 0, .slice none 0 0]) (w1 := W0) (hW0 ▸ Keep.refl none_ W0)
  have H0 := Lib.hid ((h.fresh.keep k0.weak).sub (S' := ge W0.heap.size) (fun b e => Nat.le_trans k0.size e))
  have E0 := Lib.hid ((he.fresh.keep k0.weak).sub (S' := ge W0.heap.size) (fun b e => Nat.le_trans k0.size e))
  have VA := Lib.hid (valid_any s _ _ W0 H0.out)
  have BS := Lib.hid b0
  have BE := Lib.hid b1
  have BR := Lib.hid b2
  have K0 := Lib.hid k0
  have l0 := b2.lt
  have aE : stepE s e = if validF s && evOk e then perE s e else 1 := rfl
  have aS : stepS s e = if stepE s e = 0 then perS s e else zeroSt := rfl
  have aO : stepO s e = if stepE s e = 0 then perO s e else [] := rfl
  clear h he b0 b1 b2 k0
  cases hv : validF s with
  | false =>
    have e1 : stepE s e = 1 := by rw [aE, hv]; rfl
    have E1 := Lib.hid e1
    have E2 := Lib.hid (show stepS s e = zeroSt by rw [aS, e1]; rfl)
    have E3 := Lib.hid (show stepO s e = [] by rw [aO, e1]; rfl)
    rw [hv] at VA
    clear aE aS aO e1 hv
    go_enter Tryz.func22, Tryz.ntmps22
    go_upto_region 1 with (fail)
    rw [← hW0]
    clear hW0
    have t1 : True := trivial
    go_upto_region 2 with (first | (have _t := t1; refine wpList_load_part 48 (.tmp 2) rfl rfl w.heap.size 0 rfl #[.int .i64 s.now, .slice Ap np cp, .slice Aj nj cj, .slice Aw nw cw] _ BS.out.rangeAt Tryz.underlying48 rfl (by kernel_rfl) ?_; go_frame; clear _t t1) | (go_at_call 17; refine VA.out.mono ?_; rintro en w1 ⟨rfl, k1⟩; have K1 := Lib.hid k1; have R1 := Lib.hid (BR.out.keep k1 (fun e => e)); clear k1))
    have t3 : True := trivial
    have zs := zero_state w1
    go_wp2_with (have _t := t3; refine wpList_store_blk rfl 48 (.tmp 4) (.tmp 18) rfl (w.heap.size + 1 + 1) 48 _ _ rfl rfl R1.out rfl (by kernel_rfl) (by simp [Value.oneCell']) ?_; intro w9 b9 k9 s9; go_frame; clear _t t3)
    exact ⟨rfl, _, results_cell_tmp2 Tryz.results22 rfl (run_loadVar_blk b9 Tryz.underlying48 rfl (by kernel_rfl)), _, _, by rw [E1.out]; rfl, by rw [E2.out]; exact zeroSt_of _ _, by rw [E3.out]; exact OutsOf.nil _, (K0.out.trans K1.out).own k9 (by omega)⟩
  | true =>
    rw [hv] at VA
    have hV := (valid_iff s).1 hv
    have HV := Lib.hid hV
    have VE := Lib.hid (fun w1 (k : Keep none_ W0 w1) => validEvent_any e _ _ w1 (E0.out.keep k.weak))
    rw [hv] at aE
    cases hev : evOk e with
    | false =>
      rw [hev] at VE
      have e1 : stepE s e = 1 := by rw [aE, hev]; rfl
      have E1 := Lib.hid e1
      have E2 := Lib.hid (show stepS s e = zeroSt by rw [aS, e1]; rfl)
      have E3 := Lib.hid (show stepO s e = [] by rw [aO, e1]; rfl)
      clear aE aS aO e1 hv hV hev
      go_enter Tryz.func22, Tryz.ntmps22
      go_upto_region 1 with (fail)
      rw [← hW0]
      clear hW0
      have t1 : True := trivial
      have t2 : True := trivial
      go_upto_region 2 with (first | (have _t := t1; refine wpList_load_part 48 (.tmp 2) rfl rfl w.heap.size 0 rfl #[.int .i64 s.now, .slice Ap np cp, .slice Aj nj cj, .slice Aw nw cw] _ BS.out.rangeAt Tryz.underlying48 rfl (by kernel_rfl) ?_; go_frame; clear _t t1) | (go_at_call 17; refine VA.out.mono ?_; rintro en w1 ⟨rfl, k1⟩; have BE1 := Lib.hid (BE.out.keep k1 (fun e => e)); have VE1 := Lib.hid (VE.out w1 k1); have K1 := Lib.hid k1; clear k1 VE) | (have _t := t2; refine wpList_load_part 78 (.tmp 3) rfl rfl (w.heap.size + 1) 0 rfl #[.int .i64 e.kind, .string e.name, .string e.worker, .slice An nn cn, .int .i64 e.ticks, .slice Ai ni ci] _ BE1.out.rangeAt Tryz.underlying78 rfl (by kernel_rfl) ?_; go_frame; clear _t t2) | (go_at_call 51; refine VE1.out.mono ?_; rintro en w2 ⟨rfl, k2⟩; have K2 := Lib.hid (K1.out.trans k2); clear k2))
      have R1 := Lib.hid (BR.out.keep K2.out (fun e => e))
      have t3 : True := trivial
      have zs := zero_state w2
      go_wp2_with (have _t := t3; refine wpList_store_blk rfl 48 (.tmp 4) (.tmp 18) rfl (w.heap.size + 1 + 1) 48 _ _ rfl rfl R1.out rfl (by kernel_rfl) (by simp [Value.oneCell']) ?_; intro w9 b9 k9 s9; go_frame; clear _t t3)
      exact ⟨rfl, _, results_cell_tmp2 Tryz.results22 rfl (run_loadVar_blk b9 Tryz.underlying48 rfl (by kernel_rfl)), _, _, by rw [E1.out]; rfl, by rw [E2.out]; exact zeroSt_of _ _, by rw [E3.out]; exact OutsOf.nil _, (K0.out.trans K2.out).own k9 (by omega)⟩
    | true =>
      rw [hev] at VE
      have HEV := Lib.hid hev
      have e1 : stepE s e = perE s e := by rw [aE, hev]; rfl
      have E1 := Lib.hid e1
      have PS := Lib.hid (V.plain (hV.per hev) (per_itemsC hi hie))
      have SS := Lib.hid (hV.per hev).small
      clear aE hv hev
      go_enter Tryz.func22, Tryz.ntmps22
      go_upto_region 1 with (fail)
      rw [← hW0]
      clear hW0
      have t1 : True := trivial
      have t2 : True := trivial
      go_upto_region 3 with (first | (have _t := t1; refine wpList_load_part 48 (.tmp 2) rfl rfl w.heap.size 0 rfl #[.int .i64 s.now, .slice Ap np cp, .slice Aj nj cj, .slice Aw nw cw] _ BS.out.rangeAt Tryz.underlying48 rfl (by kernel_rfl) ?_; go_frame; clear _t t1) | (go_at_call 17; refine VA.out.mono ?_; rintro en w1 ⟨rfl, k1⟩; have BE1 := Lib.hid (BE.out.keep k1 (fun e => e)); have VE1 := Lib.hid (VE.out w1 k1); have K1 := Lib.hid k1; clear k1 VE) | (have _t := t2; refine wpList_load_part 78 (.tmp 3) rfl rfl (w.heap.size + 1) 0 rfl #[.int .i64 e.kind, .string e.name, .string e.worker, .slice An nn cn, .int .i64 e.ticks, .slice Ai ni ci] _ BE1.out.rangeAt Tryz.underlying78 rfl (by kernel_rfl) ?_; go_frame; clear _t t2) | (go_at_call 51; refine VE1.out.mono ?_; rintro en w2 ⟨rfl, k2⟩; have K2 := Lib.hid (K1.out.trans k2); clear k2))
      have BS2 := Lib.hid (BS.out.keep K2.out (fun e => e))
      have CO := Lib.hid (copied_any s _ _ w2 (H0.out.keep K2.out.weak) hV.small)
      have sz2 := K2.out.size
      have t3 : True := trivial
      have t4 : True := trivial
      clear hV
      go_upto_region 4 with (first | (have _t := t4; refine wpList_load_part 48 (.tmp 2) rfl rfl w.heap.size 0 rfl #[.int .i64 s.now, .slice Ap np cp, .slice Aj nj cj, .slice Aw nw cw] _ BS2.out.rangeAt Tryz.underlying48 rfl (by kernel_rfl) ?_; go_frame; clear _t t4) | (go_at_call 52; refine CO.out.mono ?_; rintro en w3 ⟨vp, vj, vw, rfl, o1, o2, o3, k3⟩; obtain ⟨A1, c1, rfl, -⟩ := own_row (S := none_) o1 (fun _ _ e => e); obtain ⟨A2, c2, rfl, -, -⟩ := o2.slice; obtain ⟨A3, c3, rfl, -⟩ := own_row (S := none_) o3 (fun _ _ e => e); have O1 := Lib.hid o1; have O2 := Lib.hid o2; have O3 := Lib.hid o3; have K3 := Lib.hid k3; clear o1 o2 o3 k3 CO) | (have _t := t3; refine wpList_store_blk rfl 48 (.tmp 7) (.tmp 20) rfl w3.heap.size 48 _ _ rfl rfl (Blk.new _ _ _) rfl (by kernel_rfl) (by simp [Value.oneCell']) ?_; intro w4 b4 k4 s4; go_frame; clear _t t3))
      have k34 : Keep none_ w3 w4 := ((Keep.refl none_ w3).alloc _).own k4 (Nat.le_refl _)
      have A4 := Lib.hid (Aft.of_copy (base := ⟨W0.heap.size, W0.heap.size, Nat.le_refl _⟩) sz2 K3.out O1.out O2.out O3.out b4 k34)
      have K4 := Lib.hid ((K2.out.trans K3.out).trans k34)
      have PF := Lib.hid (perform_any s _ _ _ _ ⟨W0.heap.size, W0.heap.size, Nat.le_refl _⟩ w3.heap.size e w4 A4.out (E0.out.keep K4.out.weak) HEV.out HV.out)
      have BE5 := Lib.hid (BE.out.keep K4.out (fun e => e))
      have sz4 := K4.out.size
      have t5 : True := trivial
      clear k4 s4 b4 k34 O1 O2 O3 E0 BE
      go_upto_region 5 with (first | (have _t := t5; refine wpList_load_part 78 (.tmp 3) rfl rfl (w.heap.size + 1) 0 rfl #[.int .i64 e.kind, .string e.name, .string e.worker, .slice An nn cn, .int .i64 e.ticks, .slice Ai ni ci] _ BE5.out.rangeAt Tryz.underlying78 rfl (by kernel_rfl) ?_; go_frame; clear _t t5) | (go_at_call 53; refine PF.out.mono ?_; rintro en w5 ⟨vo, vp5, vj5, vw5, rfl, o5, a5, k5⟩; have O5 := Lib.hid o5; have A5 := Lib.hid a5; have K5 := Lib.hid k5; clear o5 a5 k5))
      have BR5 := Lib.hid ((BR.out.keep K4.out (fun e => e)).keep K5.out (fun e => by unfold ge at e; omega))
      have k05 : Keep none_ w w5 := ⟨K5.out.os.trans ((K0.out.trans K4.out).os), K5.out.tape.trans ((K0.out.trans K4.out).tape), K5.out.output.trans ((K0.out.trans K4.out).output), Nat.le_trans (K0.out.trans K4.out).size K5.out.size, fun k hk hn => (K5.out.block k (Nat.lt_of_lt_of_le hk (K0.out.trans K4.out).size) (fun e => by unfold ge at e; omega)).trans ((K0.out.trans K4.out).block k hk hn)⟩
      have K05 := Lib.hid k05
      clear k05 BR
      by_cases hz : perE s e = 0
      · have E2 := Lib.hid (show stepS s e = perS s e by rw [aS, e1, if_pos hz])
        have E3 := Lib.hid (show stepO s e = perO s e by rw [aO, e1, if_pos hz])
        have CL := Lib.hid (clone_any (perS s e) _ none_ w5 A5.out.state SS.out PS.out)
        have EZ := Lib.hid hz
        have B5 := Lib.hid A5.out.blk
        clear aS aO e1 PF
        rw [hz]
        clear hz
        have t6 : True := trivial
        have t7 : True := trivial
        go_wp2_with (first | (have _t := t6; refine wpList_load_part 48 (.tmp 7) rfl rfl w3.heap.size 0 rfl #[.int .i64 (perS s e).now, vp5, vj5, vw5] _ B5.out.rangeAt Tryz.underlying48 rfl (by kernel_rfl) ?_; go_frame; clear _t t6) | (go_at_call 54; refine CL.out.mono ?_; rintro en w6 ⟨v6, rfl, h6, k6⟩; have K6 := Lib.hid k6; have R6 := Lib.hid (BR5.out.keep k6 (fun e => e)); have H6 := Lib.hid h6; obtain ⟨p6, j6, q6, rfl, g1, g2, g3⟩ := h6; obtain ⟨P1, P2, P3, rfl, -⟩ := g1; obtain ⟨P4, P5, P6, rfl, -⟩ := g2; obtain ⟨P7, P8, P9, rfl, -⟩ := g3; clear k6 CL) | (have _t := t7; refine wpList_store_blk rfl 48 (.tmp 4) (.tmp 31) rfl (w.heap.size + 1 + 1) 48 _ _ rfl rfl R6.out rfl (by kernel_rfl) (by simp [Value.oneCell']) ?_; intro w9 b9 k9 s9; go_frame; clear _t t7))
        have sz5 := K5.out.size
        have k69 : Keep none_ w w9 := (K05.out.trans K6.out).own k9 (by omega)
        exact ⟨rfl, _, results_cell_tmp2 Tryz.results22 rfl (run_loadVar_blk b9 Tryz.underlying48 rfl (by kernel_rfl)), _, _, by rw [E1.out, EZ.out]; rfl, by rw [E2.out]; exact (H6.out.keep (k9.mono (fun x e => by unfold one at e; unfold bel; omega))).sub (fun _ e => e.elim), by rw [E3.out]; exact OutsOf.own (own_keep (own_keep O5.out K6.out (fun _ _ e => e)) k9 (fun b e e' => by cases e'; have := own_ge O5.out _ e; omega)), k69⟩
      · have E2 := Lib.hid (show stepS s e = zeroSt by rw [aS, e1, if_neg hz])
        have E3 := Lib.hid (show stepO s e = [] by rw [aO, e1, if_neg hz])
        have hz' : (perE s e != 0) = true := by simpa using hz
        have zs := zero_state w5
        clear aS aO e1 hz
        have t6 : True := trivial
        go_wp2_with (have _t := t6; refine wpList_store_blk rfl 48 (.tmp 4) (.tmp 28) rfl (w.heap.size + 1 + 1) 48 _ _ rfl rfl BR5.out rfl (by kernel_rfl) (by simp [Value.oneCell']) ?_; intro w9 b9 k9 s9; go_frame; clear _t t6)
        exact ⟨rfl, _, results_cell_tmp2 Tryz.results22 rfl (run_loadVar_blk b9 Tryz.underlying48 rfl (by kernel_rfl)), _, _, by rw [E1.out]; rfl, by rw [E2.out]; exact zeroSt_of _ _, by rw [E3.out]; exact OutsOf.nil _, K05.out.own k9 (by omega)⟩
theorem step_any (s : St) (e : Ev) (v ve : Value) (S S' : Nat → Prop) (w : World) (h : StateOf w S v s) (he : EvOf w S' ve e) (hi : ItsOk s) (hie : ItOk e.items) :
    Calls Tryz.prog 22 #[v, ve] w (StepPost s e w) := step_gen s e v ve S S' w h he hi.c hie.c
end Go.Proofs.YtnefbeplgfdkkaaGreatDoor
/-
  A run in plain words. No program here.
-/
namespace Go.Proofs.YtnefbeplgfdkkaaGreatDoor

theorem goS_append : ∀ (s : St) (a b : List Ev), goS s (a ++ b) = goS (goS s a) b
  | _, [], _ => rfl
  | s, e :: a, b => goS_append (nextS s e) a b
theorem goO_append : ∀ (s : St) (a b : List Ev), goO s (a ++ b) = goO s a ++ goO (goS s a) b
  | _, [], _ => rfl
  | s, e :: a, b => by
    show nextO s e ++ goO (nextS s e) (a ++ b) = nextO s e ++ goO (nextS s e) a ++ goO (goS (nextS s e) a) b
    rw [goO_append (nextS s e) a b, List.append_assoc]
theorem goE_append : ∀ (s : St) (a b : List Ev), goE s (a ++ b) = goE s a ++ goE (goS s a) b
  | _, [], _ => rfl
  | s, e :: a, b => by
    show errOf s e :: goE (nextS s e) (a ++ b) = errOf s e :: (goE (nextS s e) a ++ goE (goS (nextS s e) a) b)
    rw [goE_append (nextS s e) a b]
theorem goE_length : ∀ (s : St) (a : List Ev), (goE s a).length = a.length
  | _, [] => rfl
  | s, e :: a => by
    show (goE (nextS s e) a).length + 1 = a.length + 1
    rw [goE_length (nextS s e) a]
theorem take_snoc' {α : Type} (l : List α) (k : Nat) (h : k < l.length) : l.take (k + 1) = l.take k ++ [l[k]] := by rw [List.take_succ_eq_append_getElem h]
theorem goS_next (s : St) (l : List Ev) (k : Nat) (h : k < l.length) : goS s (l.take (k + 1)) = nextS (goS s (l.take k)) l[k] := by rw [take_snoc' l k h, goS_append]; rfl
theorem goO_next (s : St) (l : List Ev) (k : Nat) (h : k < l.length) : goO s (l.take (k + 1)) = goO s (l.take k) ++ nextO (goS s (l.take k)) l[k] := by rw [take_snoc' l k h, goO_append]; simp [goO]
theorem goE_next (s : St) (l : List Ev) (k : Nat) (h : k < l.length) : goE s (l.take (k + 1)) = goE s (l.take k) ++ [errOf (goS s (l.take k)) l[k]] := by rw [take_snoc' l k h, goE_append]; rfl
theorem errOf_ok {s : St} {e : Ev} (h : errOf s e = 0) : evOk e = true := by
  unfold errOf at h
  cases he : evOk e with
  | true => rfl
  | false => rw [he, if_neg (by decide)] at h; exact absurd h (by decide)
theorem V.next {s : St} (h : V s) (e : Ev) : V (nextS s e) := by
  unfold nextS
  by_cases h0 : errOf s e = 0
  · rw [if_pos h0]; exact h.per (errOf_ok h0)
  · rw [if_neg h0]; exact h
theorem AllI.next {I : List Itm → Prop} (h0 : I []) {s : St} (h : AllI I s) {e : Ev} (he : I e.items) : AllI I (nextS s e) := by
  unfold nextS
  split
  · exact per_all h0 h he
  · exact h
theorem ItsOk.next {s : St} (h : ItsOk s) {e : Ev} (he : ItOk e.items) : ItsOk (nextS s e) := AllI.next ItOk.nil h he
theorem V.go : ∀ {s : St} (_ : V s) (l : List Ev), V (goS s l)
  | _, h, [] => h
  | _, h, e :: l => V.go (h.next e) l
theorem AllI.go {I : List Itm → Prop} (h0 : I []) : ∀ {s : St} (_ : AllI I s) (l : List Ev) (_ : ∀ e ∈ l, I e.items), AllI I (goS s l)
  | _, h, [], _ => h
  | _, h, e :: l, he => AllI.go h0 (AllI.next h0 h (he e List.mem_cons_self)) l (fun x hx => he x (List.mem_cons_of_mem _ hx))
theorem ItsOk.go {s : St} (h : ItsOk s) (l : List Ev) (he : ∀ e ∈ l, ItOk e.items) : ItsOk (goS s l) := AllI.go ItOk.nil h l he
theorem perO_le {s : St} (h : V s) (e : Ev) : (perO s e).length ≤ 64 := by
  unfold perO
  split
  · unfold pollO
    split
    · split <;> simp
    · simp
  split
  · unfold endO
    split <;> simp
  split
  · unfold tickO
    split
    · simp
    · exact Nat.le_trans (outsTo_le _ _ _) h.jl
  · simp
theorem nextO_le {s : St} (h : V s) (e : Ev) : (nextO s e).length ≤ 64 := by
  unfold nextO
  split
  · exact perO_le h e
  · simp
theorem goO_le : ∀ {s : St} (_ : V s) (l : List Ev), (goO s l).length ≤ 64 * l.length
  | _, _, [] => Nat.le_refl _
  | s, h, e :: l => by
    show (nextO s e ++ goO (nextS s e) l).length ≤ _
    have h1 := nextO_le h e
    have h2 := goO_le (h.next e) l
    simp only [List.length_append, List.length_cons]
    omega
end Go.Proofs.YtnefbeplgfdkkaaGreatDoor
