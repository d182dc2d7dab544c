/-
  cutroomref37.Step.
-/
import Derived.Test.YtnefbeplgfdkkaaGreatDoorRu42
import Derived.Test.YtnefbeplgfdkkaaGreatDoorRu43
import Derived.Test.YtnefbeplgfdkkaaGreatDoorRu44
import Derived.Test.YtnefbeplgfdkkaaGreatDoorRu38
import Derived.Test.YtnefbeplgfdkkaaGreatDoorRu45
namespace Go.Proofs.YtnefbeplgfdkkaaGreatDoor
open Go.RowKit

theorem evOk_needs {e : Ev} (h : evOk e = true) (hk : e.kind = 1) : e.needs.length ≤ 16 := by
  unfold evOk restOk at h
  rw [if_pos hk] at h
  simp only [Bool.and_eq_true] at h
  exact ((namesOk_iff _).1 h.2.1.2).2.2
/-- The fact holds of a new slice of n items. -/
def XFits (X : XP) (n : Nat) : Prop := ∀ (base : Nat) (S2 : Nat → Prop) (w1 : World) (v1 : Value) (xs cs : List Value), w1.ownsRow base 72 148 v1 n xs → (∀ b, v1.ownBlock = some b → ¬ S2 b) → X.p S2 w1 cs → X.p S2 w1 (cs.set 6 v1)
theorem XFits.t (n : Nat) : XFits XT n := fun _ _ _ _ _ _ _ _ _ => trivial
theorem rchange_any (X : XP) (s : St) (vp vj vw v : Value) (base g : Nat) (S : Nat → Prop) (e : Ev) (w : World) (h : RAft X w base (orr S base) g vp vj vw s) (he : EvOf w (orr S base) v e) (hv : V s) (hev : evOk e = true) (hS : ∀ b, S b → b < base)
    (hin : e.items.length * 296 ≤ 140737488355328) (hX : e.kind = 7 → XFits X e.items.length) :
    Calls Tryz.prog 57 #[.pointer (some ⟨g, 0, none⟩), v] w (RMeth3 X base S g (perE s e) (perO s e) (perS s e) w) := by
  have hk := evOk_kind hev
  have : e.kind = 1 ∨ e.kind = 2 ∨ e.kind = 3 ∨ e.kind = 4 ∨ e.kind = 5 ∨ e.kind = 6 ∨ e.kind = 7 ∨ e.kind = 8 ∨ e.kind = 9 := by omega
  rcases this with h1 | h1 | h1 | h1 | h1 | h1 | h1 | h1 | h1
  · exact rchange_sub X s vp vj vw v base g S e w h1 h he hv.jl (evOk_needs hev h1) hS
  · exact rchange_pre2 X s vp vj vw v base g S e w h1 h he hv
  · exact rchange_pre3 X s vp vj vw v base g S e w h1 h he hv
  · exact rchange_join X s vp vj vw v base g S e w h1 h he hv
  · exact rchange_die X s vp vj vw v base g S e w h1 h he
  · exact rchange_poll X s vp vj vw v base g S e w h1 h he hv
  · exact rchange_fin X s vp vj vw v base g S e w h1 h he hv hin (fun S2 w1 v1 xs cs ho hn hp => hX h1 base S2 w1 v1 xs cs ho hn hp) hS
  · exact rchange_fail X s vp vj vw v base g S e w h1 h he hv
  · exact rchange_tick X s vp vj vw v base g S e w h1 h he hv.n0 hv.n1 (evOk_ticks hev h1).1 (evOk_ticks hev h1).2 hv.jl
/-- A state whose lists are the call's own; what its jobs need and have made lies outside S, and outside the lists of its media and jobs. -/
def RSt (X : XP) (w : World) (base : Nat) (S : Nat → Prop) (v : Value) (s : St) : Prop :=
  ∃ vp vj vw, v = .agg #[.int .i64 s.now, vp, vj, vw] ∧ w.ownsRow base 9 1 vp s.present.length (s.present.map Value.string) ∧ RJobs X w base (fun b => S b ∨ ofBlk vp b ∨ ofBlk vj b) vj s.jobs ∧ w.ownsRow base 107 2 vw s.workers.length (wkCells s.workers)
theorem RSt.zero (X : XP) (w : World) (base : Nat) (S : Nat → Prop) : RSt X w base S (.agg #[.int .i64 0, .slice none 0 0, .slice none 0 0, .slice none 0 0]) zeroSt :=
  ⟨_, _, _, rfl, ⟨rfl, .inl ⟨rfl, rfl⟩⟩, ⟨[], rfl, (fun _ h => nomatch h), ⟨rfl, .inl ⟨rfl, rfl⟩⟩, (fun i cs x h => by simp at h)⟩, ⟨rfl, .inl ⟨rfl, rfl⟩⟩⟩
theorem RSt.base {X : XP} {w : World} {base base' : Nat} {S : Nat → Prop} {v : Value} {s : St} (h : RSt X w base S v s) (hb : base' ≤ base) : RSt X w base' S v s := by
  obtain ⟨vp, vj, vw, e, h1, ⟨css, a1, a2, a3, a4⟩, h3⟩ := h
  exact ⟨vp, vj, vw, e, own_base h1 hb, ⟨css, a1, a2, own_base a3 hb, a4⟩, own_base h3 hb⟩
theorem RSt.sub {X : XP} {w : World} {base : Nat} {S S' : Nat → Prop} {v : Value} {s : St} (h : RSt X w base S v s) (hS : ∀ b, S' b → S b) : RSt X w base S' v s := by
  obtain ⟨vp, vj, vw, e, h1, h2, h3⟩ := h
  exact ⟨vp, vj, vw, e, h1, h2.sub (fun b hb => hb.imp (hS b) id), h3⟩
/-- A state that can be read; no block of S is one of its lists. -/
theorem RSt.stateX {X : XP} {w : World} {base : Nat} {S S' : Nat → Prop} {v : Value} {s : St} (h : RSt X w base S v s) (hS' : ∀ b, S' b → S b) (hS : ∀ b t cs, base ≤ b → Blk w b t cs → S' b → t ≠ 9 ∧ t ≠ 57 ∧ t ≠ 107) : StateX X w S' v s := by
  obtain ⟨vp, vj, vw, rfl, h1, ⟨css, a1, a2, a3, a4⟩, h3⟩ := h
  have far : ∀ {ty : TypeId} {size n : Nat} {u : Value} {xs : List Value}, w.ownsRow base ty size u n xs → (ty = 9 ∨ ty = 57 ∨ ty = 107) → ∀ b, u.ownBlock = some b → ¬ S' b := fun {ty size n u xs} ho ht b hb hq => by
    rcases ho.2 with ⟨rfl, -⟩ | ⟨g, cap, cur, rfl, e2, e3, -⟩
    · cases hb
    · simp only [Value.ownBlock, Option.some.injEq] at hb
      subst hb
      obtain ⟨n1, n2, n3⟩ := hS g _ _ e2 e3 hq
      rcases ht with e | e | e
      · exact n1 e
      · exact n2 e
      · exact n3 e
  obtain ⟨A1, c1, e1, r1⟩ := own_rowB (S := S') h1 (far h1 (.inl rfl))
  obtain ⟨A2, c2, e2, r2⟩ := own_rowB (S := S') a3 (far a3 (.inr (.inl rfl)))
  obtain ⟨A3, c3, e3, r3⟩ := own_rowB (S := S') h3 (far h3 (.inr (.inr rfl)))
  refine ⟨vp, vj, vw, rfl, ⟨_, _, _, e1, r1⟩, ?_, ?_⟩
  · rw [e2]
    exact ElemsOf.of_row rfl a1 a2 r2 (fun i cs x hi hx => (a4 i cs x hi hx).sub (fun b hb => .inl (hS' b hb)))
  · rw [e3]
    rw [wkCells_eq] at r3
    refine ElemsOf.of_row rfl (by simp) (fun x hx => ?_) r3 (fun i cs x hi hx => ?_)
    · obtain ⟨y, -, rfl⟩ := List.mem_map.1 hx
      rfl
    · rw [List.getElem?_map, hx] at hi
      simp only [Option.map_some, Option.some.injEq] at hi
      exact hi.symm
theorem RSt.parts {X : XP} {w : World} {base : Nat} {S : Nat → Prop} {v : Value} {s : St} (h : RSt X w base S v s) : ∃ P1 P2 P3 P4 P5 P6 P7 P8 P9, v = .agg #[.int .i64 s.now, .slice P1 P2 P3, .slice P4 P5 P6, .slice P7 P8 P9] := by
  obtain ⟨vp, vj, vw, rfl, h1, h2, h3⟩ := h
  obtain ⟨A1, c1, rfl, -⟩ := own_row (S := none_) h1 (fun _ _ e => e)
  obtain ⟨A2, c2, rfl, -⟩ := h2.list
  obtain ⟨A3, c3, rfl, -⟩ := own_row (S := none_) h3 (fun _ _ e => e)
  exact ⟨_, _, _, _, _, _, _, _, _, rfl⟩
def RStepPost (X : XP) (S : Nat → Prop) (s : St) (e : Ev) (w : World) (en : Ending) (w' : World) : Prop :=
  ∃ v' vo, en = .returned (.tuple #[v', vo, .int .i64 (stepE s e)]) ∧ RSt X w' w.heap.size (stS S w.heap.size w') v' (stepS s e) ∧ w'.ownsRow w.heap.size 125 3 vo (stepO s e).length (otCells (stepO s e)) ∧ Keep none_ w w'
theorem RAft.of_copy {X : XP} {w1 w2 w3 : World} {base : Nat} {S : Nat → Prop} {s : St} {vp vj vw : Value} (hb : base ≤ w1.heap.size) (k1 : Keep none_ w1 w2) (o1 : w2.ownsRow w1.heap.size 9 1 vp s.present.length (s.present.map Value.string)) (o2 : RJobs X w2 w1.heap.size S vj s.jobs) (o3 : w2.ownsRow w1.heap.size 107 2 vw s.workers.length (wkCells s.workers))
    (hg : Blk w3 w2.heap.size 48 #[.int .i64 s.now, vp, vj, vw]) (k : Keep none_ w2 w3) : RAft X w3 base S w2.heap.size vp vj vw s := by
  obtain ⟨css, q1, q2, q3, q4⟩ := o2
  exact ⟨hg, Nat.le_trans hb k1.size, own_base (own_keep o1 k (fun _ _ e => e)) hb, ⟨css, q1, q2, own_base (own_keep q3 k (fun _ _ e => e)) hb, fun i cs x hi hx => (q4 i cs x hi hx).keep k.weak⟩, own_base (own_keep o3 k (fun _ _ e => e)) hb⟩

set_option maxRecDepth 100000 in
set_option maxHeartbeats 1000000 in
theorem rstep_any (X : XP) (s : St) (e : Ev) (v ve : Value) (S : Nat → Prop) (w : World) (h : StateX X w S v s) (he : EvOf w S ve e) (hS : ∀ b, S b → b < w.heap.size) (hz : SzS s) (hze : SzE e) (hin : e.items.length * 296 ≤ 140737488355328)
    (hX : e.kind = 7 → XFits X e.items.length) :
    Calls Tryz.prog 24 #[v, ve] w (RStepPost X S s e w) := by
  obtain ⟨vp, vj, vw, rfl, rest⟩ := (id h : StateX X w S v s)
  obtain ⟨hsp, hsj, hsw⟩ := rest
  obtain ⟨Ap, np, cp, rfl, -⟩ := hsp
  obtain ⟨Aj, nj, cj, rfl, -⟩ := hsj
  obtain ⟨Aw, nw, cw, rfl, -⟩ := hsw
  obtain ⟨vn, vi, rfl, hen, hei⟩ := (id he : EvOf w S ve e)
  obtain ⟨An, nn, cn, rfl, -⟩ := hen
  obtain ⟨Ai, ni, ci, rfl, -⟩ := hei
  obtain ⟨W0, hW0⟩ : ∃ W0, W0 = ((w.alloc (.cells #[.int .i64 s.now, .slice Ap np cp, .slice Aj nj cj, .slice Aw nw cw] 48)).alloc (.cells #[.int .i64 e.kind, .string e.name, .string e.worker, .slice An nn cn, .int .i64 e.ticks, .slice Ai ni ci] 78)).alloc (.cells #[.int .i64 0, .slice none 0 0, .slice none 0 0, .slice none 0 0] 48) := ⟨_, rfl⟩
  obtain ⟨b0, b1, b2, k0⟩ := three (w := w) (t0 := 48) (c0 := #[.int .i64 s.now, .slice Ap np cp, .slice Aj nj cj, .slice Aw nw cw]) (t1 := 78) (c1 := #[.int .i64 e.kind, .string e.name, .string e.worker, .slice An nn cn, .int .i64 e.ticks, .slice Ai ni ci]) (t2 := 48) (c2 := #[.int .i64 0, .slice none 0 0, .slice none 0 0, .slice none 0 0]) (w1 := W0) (hW0 ▸ Keep.refl none_ W0)
  have sz0 := k0.size
  have hsub : ∀ b, orr (fun b => S b ∨ (w.heap.size ≤ b ∧ b < W0.heap.size)) W0.heap.size b → orr S w.heap.size b := fun b e => e.elim (fun e => e.imp id (fun e => e.1)) (fun e => .inr (Nat.le_trans k0.size e))
  have H0 := Lib.hid ((h.orr.keep k0.weak).sub hsub)
  have E0 := Lib.hid ((he.orr.keep k0.weak).sub hsub)
  have VA := Lib.hid (rvalid_any s hz _ _ W0 H0.out.state)
  have BS := Lib.hid b0
  have BE := Lib.hid b1
  have BR := Lib.hid b2
  have K0 := Lib.hid k0
  have HS := Lib.hid (show ∀ b, (fun b => S b ∨ (w.heap.size ≤ b ∧ b < W0.heap.size)) b → b < W0.heap.size from fun b hb => hb.elim (fun hb => Nat.lt_of_lt_of_le (hS b hb) k0.size) (fun hb => hb.2))
  have HX := Lib.hid hX
  have HIN := Lib.hid hin
  have l0 := b2.lt
  have aE : stepE s e = if validF s && evOk e then perE s e else 1 := rfl
  have aS : stepS s e = if stepE s e = 0 then perS s e else zeroSt := rfl
  have aO : stepO s e = if stepE s e = 0 then perO s e else [] := rfl
  have own0 : ∀ wx : World, wx.ownsRow w.heap.size 125 3 (.slice none 0 0) ([] : List Ot).length (otCells []) := fun _ => ⟨rfl, .inl ⟨rfl, rfl⟩⟩
  have OWN0 := Lib.hid own0
  clear h he b0 b1 b2 k0 hX hS hsub hin own0 hz
  cases hv : validF s with
  | false =>
    have e1 : stepE s e = 1 := by rw [aE, hv]; rfl
    have E1 := Lib.hid e1
    have E2 := Lib.hid (show stepS s e = zeroSt by rw [aS, e1]; rfl)
    have E3 := Lib.hid (show stepO s e = [] by rw [aO, e1]; rfl)
    rw [hv] at VA
    clear aE aS aO e1 hv
    go_enter Tryz.func24, Tryz.ntmps24
    go_upto_region 1 with (fail)
    rw [← hW0]
    clear hW0
    have t1 : True := trivial
    go_upto_region 2 with (first | (have _t := t1; refine wpList_load_part 48 (.tmp 2) rfl rfl w.heap.size 0 rfl #[.int .i64 s.now, .slice Ap np cp, .slice Aj nj cj, .slice Aw nw cw] _ BS.out.rangeAt Tryz.underlying48 rfl (by kernel_rfl) ?_; go_frame; clear _t t1) | (go_at_call 18; refine VA.out.mono ?_; rintro en w1 ⟨rfl, k1⟩; have K1 := Lib.hid k1; have R1 := Lib.hid (BR.out.keep k1 (fun e => e)); clear k1))
    have t3 : True := trivial
    have zs := zero_state w1
    go_wp2_with (have _t := t3; refine wpList_store_blk rfl 48 (.tmp 4) (.tmp 18) rfl (w.heap.size + 1 + 1) 48 _ _ rfl rfl R1.out rfl (by kernel_rfl) (by simp [Value.oneCell']) ?_; intro w9 b9 k9 s9; go_frame; clear _t t3)
    exact ⟨rfl, _, results_cell_tmp2 Tryz.results24 rfl (run_loadVar_blk b9 Tryz.underlying48 rfl (by kernel_rfl)), _, _, by rw [E1.out]; rfl, by rw [E2.out]; exact RSt.zero _ _ _ _, by rw [E3.out]; exact OWN0.out _, (K0.out.trans K1.out).own k9 (by omega)⟩
  | true =>
    rw [hv] at VA
    have hV := (valid_iff s).1 hv
    have HV := Lib.hid hV
    have VE := Lib.hid (fun w1 (k : Keep none_ W0 w1) => revent_any e hze _ _ w1 (E0.out.keep k.weak))
    rw [hv] at aE
    cases hev : evOk e with
    | false =>
      rw [hev] at VE
      have e1 : stepE s e = 1 := by rw [aE, hev]; rfl
      have E1 := Lib.hid e1
      have E2 := Lib.hid (show stepS s e = zeroSt by rw [aS, e1]; rfl)
      have E3 := Lib.hid (show stepO s e = [] by rw [aO, e1]; rfl)
      clear aE aS aO e1 hv hV hev
      go_enter Tryz.func24, Tryz.ntmps24
      go_upto_region 1 with (fail)
      rw [← hW0]
      clear hW0
      have t1 : True := trivial
      have t2 : True := trivial
      go_upto_region 2 with (first | (have _t := t1; refine wpList_load_part 48 (.tmp 2) rfl rfl w.heap.size 0 rfl #[.int .i64 s.now, .slice Ap np cp, .slice Aj nj cj, .slice Aw nw cw] _ BS.out.rangeAt Tryz.underlying48 rfl (by kernel_rfl) ?_; go_frame; clear _t t1) | (go_at_call 18; refine VA.out.mono ?_; rintro en w1 ⟨rfl, k1⟩; have BE1 := Lib.hid (BE.out.keep k1 (fun e => e)); have VE1 := Lib.hid (VE.out w1 k1); have K1 := Lib.hid k1; clear k1 VE) | (have _t := t2; refine wpList_load_part 78 (.tmp 3) rfl rfl (w.heap.size + 1) 0 rfl #[.int .i64 e.kind, .string e.name, .string e.worker, .slice An nn cn, .int .i64 e.ticks, .slice Ai ni ci] _ BE1.out.rangeAt Tryz.underlying78 rfl (by kernel_rfl) ?_; go_frame; clear _t t2) | (go_at_call 56; refine VE1.out.mono ?_; rintro en w2 ⟨rfl, k2⟩; have K2 := Lib.hid (K1.out.trans k2); clear k2))
      have R1 := Lib.hid (BR.out.keep K2.out (fun e => e))
      have t3 : True := trivial
      have zs := zero_state w2
      go_wp2_with (have _t := t3; refine wpList_store_blk rfl 48 (.tmp 4) (.tmp 18) rfl (w.heap.size + 1 + 1) 48 _ _ rfl rfl R1.out rfl (by kernel_rfl) (by simp [Value.oneCell']) ?_; intro w9 b9 k9 s9; go_frame; clear _t t3)
      exact ⟨rfl, _, results_cell_tmp2 Tryz.results24 rfl (run_loadVar_blk b9 Tryz.underlying48 rfl (by kernel_rfl)), _, _, by rw [E1.out]; rfl, by rw [E2.out]; exact RSt.zero _ _ _ _, by rw [E3.out]; exact OWN0.out _, (K0.out.trans K2.out).own k9 (by omega)⟩
    | true =>
      rw [hev] at VE
      have HEV := Lib.hid hev
      have e1 : stepE s e = perE s e := by rw [aE, hev]; rfl
      have E1 := Lib.hid e1
      clear aE hv hev
      go_enter Tryz.func24, Tryz.ntmps24
      go_upto_region 1 with (fail)
      rw [← hW0]
      clear hW0
      have t1 : True := trivial
      have t2 : True := trivial
      go_upto_region 3 with (first | (have _t := t1; refine wpList_load_part 48 (.tmp 2) rfl rfl w.heap.size 0 rfl #[.int .i64 s.now, .slice Ap np cp, .slice Aj nj cj, .slice Aw nw cw] _ BS.out.rangeAt Tryz.underlying48 rfl (by kernel_rfl) ?_; go_frame; clear _t t1) | (go_at_call 18; refine VA.out.mono ?_; rintro en w1 ⟨rfl, k1⟩; have BE1 := Lib.hid (BE.out.keep k1 (fun e => e)); have VE1 := Lib.hid (VE.out w1 k1); have K1 := Lib.hid k1; clear k1 VE) | (have _t := t2; refine wpList_load_part 78 (.tmp 3) rfl rfl (w.heap.size + 1) 0 rfl #[.int .i64 e.kind, .string e.name, .string e.worker, .slice An nn cn, .int .i64 e.ticks, .slice Ai ni ci] _ BE1.out.rangeAt Tryz.underlying78 rfl (by kernel_rfl) ?_; go_frame; clear _t t2) | (go_at_call 56; refine VE1.out.mono ?_; rintro en w2 ⟨rfl, k2⟩; have K2 := Lib.hid (K1.out.trans k2); clear k2))
      have BS2 := Lib.hid (BS.out.keep K2.out (fun e => e))
      have CO := Lib.hid (rcopy_any X s _ _ w2 (H0.out.keep K2.out.weak) hV.small)
      have sz2 := K2.out.size
      have t3 : True := trivial
      have t4 : True := trivial
      clear hV
      go_upto_region 4 with (first | (have _t := t4; refine wpList_load_part 48 (.tmp 2) rfl rfl w.heap.size 0 rfl #[.int .i64 s.now, .slice Ap np cp, .slice Aj nj cj, .slice Aw nw cw] _ BS2.out.rangeAt Tryz.underlying48 rfl (by kernel_rfl) ?_; go_frame; clear _t t4) | (go_at_call 40; refine CO.out.mono ?_; rintro en w3 ⟨vp, vj, vw, rfl, o1, o2, o3, k3⟩; obtain ⟨A1, c1, rfl, -⟩ := own_row (S := none_) o1 (fun _ _ e => e); obtain ⟨A2, c2, rfl, -⟩ := o2.list; obtain ⟨A3, c3, rfl, -⟩ := own_row (S := none_) o3 (fun _ _ e => e); have O1 := Lib.hid o1; have O2 := Lib.hid o2; have O3 := Lib.hid o3; have K3 := Lib.hid k3; clear o1 o2 o3 k3 CO) | (have _t := t3; refine wpList_store_blk rfl 48 (.tmp 7) (.tmp 20) rfl w3.heap.size 48 _ _ rfl rfl (Blk.new _ _ _) rfl (by kernel_rfl) (by simp [Value.oneCell']) ?_; intro w4 b4 k4 s4; go_frame; clear _t t3))
      have k34 : Keep none_ w3 w4 := ((Keep.refl none_ w3).alloc _).own k4 (Nat.le_refl _)
      have A4 := Lib.hid (RAft.of_copy (base := W0.heap.size) sz2 K3.out O1.out O2.out O3.out b4 k34)
      have K4 := Lib.hid ((K2.out.trans K3.out).trans k34)
      have PF := Lib.hid (rchange_any X s _ _ _ _ W0.heap.size w3.heap.size (fun b => S b ∨ (w.heap.size ≤ b ∧ b < W0.heap.size)) e w4 A4.out (E0.out.keep K4.out.weak) HV.out HEV.out HS.out HIN.out HX.out)
      have BE5 := Lib.hid (BE.out.keep K4.out (fun e => e))
      have sz4 := K4.out.size
      have t5 : True := trivial
      clear k4 s4 b4 k34 O1 O2 O3 E0 BE
      go_upto_region 5 with (first | (have _t := t5; refine wpList_load_part 78 (.tmp 3) rfl rfl (w.heap.size + 1) 0 rfl #[.int .i64 e.kind, .string e.name, .string e.worker, .slice An nn cn, .int .i64 e.ticks, .slice Ai ni ci] _ BE5.out.rangeAt Tryz.underlying78 rfl (by kernel_rfl) ?_; go_frame; clear _t t5) | (go_at_call 57; refine PF.out.mono ?_; rintro en w5 ⟨vo, vp5, vj5, vw5, rfl, o5, a5, k5⟩; have O5 := Lib.hid o5; have A5 := Lib.hid a5; have K5 := Lib.hid k5; clear o5 a5 k5))
      have BR5 := Lib.hid ((BR.out.keep K4.out (fun e => e)).keep K5.out (fun e => by unfold ge at e; omega))
      have k05 : Keep none_ w w5 := (K0.out.trans K4.out).then K5.out (fun b e => .inr (Nat.le_trans sz0 e))
      have K05 := Lib.hid k05
      clear k05 BR
      by_cases hzz : perE s e = 0
      · have E2 := Lib.hid (show stepS s e = perS s e by rw [aS, e1, if_pos hzz])
        have E3 := Lib.hid (show stepO s e = perO s e by rw [aO, e1, if_pos hzz])
        have EZ := Lib.hid hzz
        have B5 := Lib.hid A5.out.blk
        obtain ⟨A1', c1', rfl, -⟩ := own_row (S := none_) A5.out.strs (fun _ _ e => e)
        obtain ⟨A2', c2', rfl, -⟩ := A5.out.jobs.list
        obtain ⟨A3', c3', rfl, -⟩ := own_row (S := none_) A5.out.wks (fun _ _ e => e)
        clear aS aO e1 PF
        rw [hzz]
        clear hzz
        have t6 : True := trivial
        have t7 : True := trivial
        go_wp2_with (first | (have _t := t6; refine wpList_load_part 48 (.tmp 7) rfl rfl w3.heap.size 0 rfl #[.int .i64 (perS s e).now, .slice A1' (perS s e).present.length c1', .slice A2' (perS s e).jobs.length c2', .slice A3' (perS s e).workers.length c3'] _ B5.out.rangeAt Tryz.underlying48 rfl (by kernel_rfl) ?_; go_frame; clear _t t6) | (have _t := t7; refine wpList_store_blk rfl 48 (.tmp 4) (.tmp 30) rfl (w.heap.size + 1 + 1) 48 _ _ rfl rfl BR5.out rfl (by kernel_rfl) (by simp [Value.oneCell']) ?_; intro w9 b9 k9 s9; go_frame; clear _t t7))
        have sz5 := K5.out.size
        have far : ∀ b, W0.heap.size ≤ b → ¬ one (w.heap.size + 1 + 1) b := fun b hb e => by unfold one at e; omega
        have R9 : RSt X w9 W0.heap.size (stS S w.heap.size w9) (.agg #[.int .i64 (perS s e).now, .slice A1' (perS s e).present.length c1', .slice A2' (perS s e).jobs.length c2', .slice A3' (perS s e).workers.length c3']) (perS s e) := by
          obtain ⟨css, q1, q2, q3, q4⟩ := A5.out.jobs
          have toS : ∀ b, (stS S w.heap.size w9 b ∨ ofBlk (.slice A1' (perS s e).present.length c1') b ∨ ofBlk (.slice A2' (perS s e).jobs.length c2') b) → stP (fun b => S b ∨ (w.heap.size ≤ b ∧ b < W0.heap.size)) W0.heap.size w5 (.slice A1' (perS s e).present.length c1') b := fun b hb => by
            rcases hb with (hb | ⟨hb, t0, cs, hc, hn⟩) | hb | hb
            · exact .inl (.inl (.inl hb))
            · rcases Nat.lt_or_ge b W0.heap.size with hl | hl
              · exact .inl (.inl (.inr ⟨hb, hl⟩))
              · have hlt := hc.lt
                exact .inl (.inr ⟨hl, t0, cs, (k9.block b (by omega) (far b hl)).symm.trans hc, hn⟩)
            · exact .inr hb
            · rcases q3.2 with ⟨e1, -⟩ | ⟨gj, cap, cur, e1, e2, e3, -⟩
              · rw [e1] at hb; cases hb
              · rw [e1] at hb
                simp only [ofBlk, Value.ownBlock, Option.some.injEq] at hb
                subst hb
                exact .inl (.inr ⟨e2, _, _, e3, by decide, by decide⟩)
          refine ⟨_, _, _, rfl, own_keep A5.out.strs k9 (fun b hb => far b (own_ge A5.out.strs b hb)), ⟨css, q1, q2, own_keep q3 k9 (fun b hb => far b (own_ge q3 b hb)), fun i cs x hi hx => ?_⟩, own_keep A5.out.wks k9 (fun b hb => far b (own_ge A5.out.wks b hb))⟩
          exact ((q4 i cs x hi hx).keep (k9.mono (fun b e => .inl (.inl (.inr (by unfold one at e; omega)))))).sub toS
        have k69 : Keep none_ w w9 := K05.out.own k9 (by omega)
        exact ⟨rfl, _, results_cell_tmp2 Tryz.results24 rfl (run_loadVar_blk b9 Tryz.underlying48 rfl (by kernel_rfl)), _, _, by rw [E1.out, EZ.out]; rfl, by rw [E2.out]; exact R9.base sz0, by rw [E3.out]; exact own_base (own_keep O5.out k9 (fun b hb => far b (own_ge O5.out b hb))) sz0, k69⟩
      · have E2 := Lib.hid (show stepS s e = zeroSt by rw [aS, e1, if_neg hzz])
        have E3 := Lib.hid (show stepO s e = [] by rw [aO, e1, if_neg hzz])
        have hz' : (perE s e != 0) = true := by simpa using hzz
        have zs := zero_state w5
        clear aS aO e1 hzz
        have t6 : True := trivial
        go_wp2_with (have _t := t6; refine wpList_store_blk rfl 48 (.tmp 4) (.tmp 28) rfl (w.heap.size + 1 + 1) 48 _ _ rfl rfl BR5.out rfl (by kernel_rfl) (by simp [Value.oneCell']) ?_; intro w9 b9 k9 s9; go_frame; clear _t t6)
        exact ⟨rfl, _, results_cell_tmp2 Tryz.results24 rfl (run_loadVar_blk b9 Tryz.underlying48 rfl (by kernel_rfl)), _, _, by rw [E1.out]; rfl, by rw [E2.out]; exact RSt.zero _ _ _ _, by rw [E3.out]; exact OWN0.out _, K05.out.own k9 (by omega)⟩
end Go.Proofs.YtnefbeplgfdkkaaGreatDoor
