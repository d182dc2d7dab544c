/-
  farm.Ready.
-/
import Derived.Test.YtnefbeplgfdkkaaGreatDoorRu26
import Derived.Test.YtnefbeplgfdkkaaGreatDoorRu27
import Derived.Test.YtnefbeplgfdkkaaGreatDoorRu23
namespace Go.Proofs.YtnefbeplgfdkkaaGreatDoor
open Go.RowKit Go.Shelf

attribute [local go_sem] Oper.semAt_some

theorem StateOf.jobsAt {w : World} {S : Nat → Prop} {v vp vj vw : Value} {s : St} (h : StateOf w S (.agg #[v, vp, vj, vw]) s) : JobsOf w S vj s.jobs := by
  obtain ⟨p6, j6, q6, e, g1, g2, g3⟩ := h
  simp only [Value.agg.injEq, Array.mk.injEq, List.cons.injEq, and_true] at e
  obtain ⟨-, -, rfl, -⟩ := e
  exact g2
theorem StateOf.opn {w : World} {S : Nat → Prop} {v : Value} {s : St} (h : StateOf w S v s) : ∃ P1 P2 P3 P4 P5 P6 P7 P8 P9, v = .agg #[.int .i64 s.now, .slice P1 P2 P3, .slice P4 P5 P6, .slice P7 P8 P9] ∧ P5 = s.jobs.length := by
  obtain ⟨p6, j6, q6, rfl, g1, g2, g3⟩ := h
  obtain ⟨P1, P2, P3, rfl, -⟩ := g1
  obtain ⟨P4, P5, P6, rfl, hj⟩ := g2
  obtain ⟨P7, P8, P9, rfl, -⟩ := g3
  exact ⟨_, _, _, _, _, _, _, _, _, rfl, hj.2.2.1.symm⟩
theorem s_info : (Tryz.prog.info? 9).map (fun i => (i.zero, i.size, i.bytes)) = some (some (.string ⟨#[]⟩), 1, 16) := by kernel_rfl
def namesOf (s : St) (l : List Nat) : List Value := (l.map (nameAt s)).map Value.string
def RdyI (s : St) (lo b : Nat) (w : World) (pre : List (Rd s)) (W : World) : Prop :=
  ∃ v, Blk W b 44 #[v] ∧ W.ownsRow lo 9 1 v pre.length (namesOf s (pre.map Subtype.val)) ∧ Keep none_ w W ∧ lo ≤ W.heap.size
def RdyX (s : St) (_ : Code) (_ : List (Rd s)) (_ : World) : Prop := False
theorem rdyI_own (s : St) (lo b B : Nat) (w : World) (hB : w.heap.size ≤ B) : OwnFrom B (RdyI s lo b w) := by
  rintro pre W W' row ⟨v, h1, h2, h3, h4⟩ hg hr
  have k := Keep.of_grownBy hg
  have o : Odd (fun k => row = some k) W := fun r e => (hr r e).2
  exact ⟨v, h1.keep k (o.blk h1), own_keep h2 k (o.own h2), h3.then k (fun r e => .inr (Nat.le_trans hB (hr r e).1)), Nat.le_trans h4 k.size⟩
theorem rdyX_own (s : St) (B : Nat) (c : Code) : OwnFrom B (RdyX s c) := by
  rintro pre W W' row h _ _
  exact h.elim
def readyF (s : St) : List Nat := if validF s then readyL s else []
def RdyPost (s : St) (w : World) (e : Ending) (w' : World) : Prop :=
  ∃ v, e = .returned v ∧ w'.ownsRow w.heap.size 9 1 v (readyF s).length (namesOf s (readyF s)) ∧ Keep none_ w w'

set_option maxRecDepth 100000 in
set_option maxHeartbeats 2000000 in
theorem rdy_any (s : St) (v : Value) (S : Nat → Prop) (w : World) (h : StateOf w S v s) :
    Calls Tryz.prog 20 #[v] w (RdyPost s w) := by
  obtain ⟨P1, P2, P3, P4, P5, P6, P7, P8, P9, rfl, -⟩ := h.opn
  obtain ⟨W1, hW1⟩ : ∃ W1, W1 = w.alloc (.cells #[.int .i64 s.now, .slice P1 P2 P3, .slice P4 P5 P6, .slice P7 P8 P9] 48) := ⟨_, rfl⟩
  have k1 : Keep none_ w W1 := hW1 ▸ (Keep.refl none_ w).alloc _
  have b1 : Blk W1 w.heap.size 48 #[.int .i64 s.now, .slice P1 P2 P3, .slice P4 P5 P6, .slice P7 P8 P9] := hW1 ▸ Blk.new _ _ _
  have HS := Lib.hid (h.fresh.keep k1.weak)
  have VA := Lib.hid (valid_any s _ _ W1 HS.out)
  have B1 := Lib.hid b1
  have K1 := Lib.hid k1
  have l1 := b1.lt
  clear h k1 b1
  cases hv : validF s with
  | false =>
    rw [hv] at VA
    have E := Lib.hid (show readyF s = [] by unfold readyF; rw [hv]; rfl)
    clear hv
    refine (callsIn_wide (n := 3)).1 ?_
    refine callsIn_of_wp_marks Tryz.func20 rfl trivial ?_ rfl
    simp only [Tryz.ntmps20, List.size_toArray, List.length_cons, List.length_nil, Nat.reduceAdd, Nat.reduceSub, Array.replicate_succ, Array.replicate_zero, List.push_toArray, List.append_toArray, List.nil_append, List.cons_append]
    gi_upto_region 1 with (fail)
    rw [← hW1]
    clear hW1
    refine wpIn_wide.2 (wp_region_lit ?_)
    have t1 : True := trivial
    go_wp2_with (first | (have _t := t1; refine wpList_load_part 48 (.tmp 1) rfl rfl w.heap.size 0 rfl #[.int .i64 s.now, .slice P1 P2 P3, .slice P4 P5 P6, .slice P7 P8 P9] _ B1.out.rangeAt Tryz.underlying48 rfl (by kernel_rfl) ?_; go_frame; clear _t t1) | (go_at_call 17; refine VA.out.mono ?_; rintro en w2 ⟨rfl, k2⟩; have K2 := Lib.hid (K1.out.trans k2); clear k2))
    gi_wp2
    exact ⟨_, results_tmp rfl _ _ _, _, rfl, by rw [E.out]; exact ⟨rfl, .inl ⟨rfl, rfl⟩⟩, K2.out⟩
  | true =>
    rw [hv] at VA
    have HV := Lib.hid ((valid_iff s).1 hv)
    have E := Lib.hid (show readyF s = readyL s by unfold readyF; rw [hv]; rfl)
    clear hv
    refine (callsIn_wide (n := 3)).1 ?_
    refine callsIn_of_wp_marks Tryz.func20 rfl trivial ?_ rfl
    simp only [Tryz.ntmps20, List.size_toArray, List.length_cons, List.length_nil, Nat.reduceAdd, Nat.reduceSub, Array.replicate_succ, Array.replicate_zero, List.push_toArray, List.append_toArray, List.nil_append, List.cons_append]
    gi_upto_region 1 with (fail)
    rw [← hW1]
    clear hW1
    refine wpIn_wide.2 (wp_region_lit ?_)
    have t1 : True := trivial
    go_wp2_with (first | (have _t := t1; refine wpList_load_part 48 (.tmp 1) rfl rfl w.heap.size 0 rfl #[.int .i64 s.now, .slice P1 P2 P3, .slice P4 P5 P6, .slice P7 P8 P9] _ B1.out.rangeAt Tryz.underlying48 rfl (by kernel_rfl) ?_; go_frame; clear _t t1) | (go_at_call 17; refine VA.out.mono ?_; rintro en w2 ⟨rfl, k2⟩; have B2 := Lib.hid (B1.out.keep k2 (fun e => e)); have H2 := Lib.hid (HS.out.keep k2.weak); have l2 := k2.size; have K2 := Lib.hid (K1.out.trans k2); clear k2))
    gi_upto_region 4 with (fail)
    obtain ⟨W3, hW3⟩ : ∃ W3, W3 = w2.alloc (.cells #[.slice none 0 0] 44) := ⟨_, rfl⟩
    have k3 : Keep none_ w2 W3 := hW3 ▸ (Keep.refl none_ w2).alloc _
    have b3 : Blk W3 w2.heap.size 44 #[.slice none 0 0] := hW3 ▸ Blk.new _ _ _
    rw [← hW3]
    clear hW3
    have S3 := Lib.hid (B2.out.keep k3 (fun e => e))
    have H3 := Lib.hid (H2.out.keep k3.weak)
    have K3 := Lib.hid (K2.out.trans k3)
    have B3 := Lib.hid b3
    have l3 := b3.lt
    have RA := Lib.hid (ready_any s.now (.slice P1 P2 P3) (.slice P4 P5 P6) (.slice P7 P8 P9) W3)
    clear k3 b3 B2 H2 K2 B1 HS VA K1
    refine wpIn_wide.2 (wp_region_lit ?_)
    have t1 : True := trivial
    go_wp2_with (first | (have _t := t1; refine wpList_load_part 48 (.tmp 1) rfl rfl w.heap.size 0 rfl #[.int .i64 s.now, .slice P1 P2 P3, .slice P4 P5 P6, .slice P7 P8 P9] _ S3.out.rangeAt Tryz.underlying48 rfl (by kernel_rfl) ?_; go_frame; clear _t t1) | (go_at_call 49; refine RA.out.mono ?_; rintro e w7 ⟨rfl, hw7⟩; have HW7 := Lib.hid hw7; clear hw7))
    gi_wp2
    have k7 : Keep none_ W3 w7 := by rw [HW7.out]; exact (Keep.refl none_ W3).alloc _
    have b7 : Blk w7 W3.heap.size 48 #[.int .i64 s.now, .slice P1 P2 P3, .slice P4 P5 P6, .slice P7 P8 P9] := by rw [HW7.out]; exact Blk.new _ _ _
    have B7 := Lib.hid (B3.out.keep k7 (fun e => e))
    have K7 := Lib.hid (K3.out.trans k7)
    have l7 : W3.heap.size < w7.heap.size := b7.lt
    obtain ⟨p6, j6, q6, e6, g1, g2, g3⟩ := (H3.out.keep k7.weak).sub (S' := fun r => r = w2.heap.size ∨ w7.heap.size ≤ r) (fun r e => by unfold ge; rcases e with e | e <;> omega)
    simp only [Value.agg.injEq, Array.mk.injEq, List.cons.injEq, and_true, true_and] at e6
    obtain ⟨rfl, rfl, rfl⟩ := e6
    have v1 := HV.out
    have ST := ready_stops 2 W3.heap.size (fun r => r = w2.heap.size ∨ w7.heap.size ≤ r) s (.slice P1 P2 P3) (.slice P4 P5 P6) (.slice P7 P8 P9) w7 b7 (fun e => by rcases e with e | e <;> omega) g1 g2 (V.asc v1) (V.p64 v1) v1.jl
    have HJ64 : s.jobs.length ≤ 64 := v1.jl
    clear b7 k7 HW7 RA g1 g2 g3 H3 S3 K3 B3 v1
    refine wpIn_rangeFunc_ownG rfl (by decide) (gf := 69) (lb := #[.pointer (some ⟨W3.heap.size, 0, none⟩)]) rfl trivial (enters_of Tryz.func69 (by kernel_rfl) rfl) ST (fun h k => h.trans k) (fun W l o o' hl ho _ _ => (Keep.of_grownBy (grownBy_putObj' W l o')).mono (fun r e => by cases e; exact .inr hl)) (Below.refl _ _) (fun _ => rfl)
      (RdyI s w7.heap.size w2.heap.size w) (RdyX s)
      (rdyI_own _ _ _ _ _ (by omega)) (rdyX_own _ _) ⟨_, B7.out, ⟨rfl, .inl ⟨rfl, rfl⟩⟩, K7.out, Nat.le_refl _⟩
      (fun y => { tmps := #[.agg #[.int .i64 s.now, .slice P1 P2 P3, .slice P4 P5 P6, .slice P7 P8 P9], .pointer (some ⟨w.heap.size, 0, none⟩), .slice none 0 0, .pointer (some ⟨w2.heap.size, 0, none⟩), undef, .string (nameAt s y.1), .agg #[.int .i64 s.now, .slice P1 P2 P3, .slice P4 P5 P6, .slice P7 P8 P9], .bool true, .bool false, .agg #[.int .i64 s.now, .slice P1 P2 P3, .slice P4 P5 P6, .slice P7 P8 P9], .func (.func 69) #[] #[.pointer (some ⟨W3.heap.size, 0, none⟩)], .int .i64 (y.1 : Nat), .string (nameAt s y.1), undef, undef, undef, undef, undef], defers := [] }) ?assign ?body ?done ?stop
    case assign =>
      intro l y W K hK
      simp only [encRd]
      gi_wp2
      exact hK
    case body =>
      rintro l pre ⟨k, hkm⟩ W ⟨v, hB, hO, hK, l8⟩ hpl
      have f1 : W.cell? ⟨w2.heap.size, 0, none⟩ = some v := by rw [hB.cell]; rfl
      have HB := Lib.hid hB
      have HO := Lib.hid hO
      have HK := Lib.hid hK
      have lW := hK.size
      have lB := hB.lt
      clear hB hO hK ST B7 K7
      obtain ⟨A0, c0, rfl, -⟩ := own_row (S := none_) HO.out (fun _ _ e => e)
      gi_upto_region 6 with (fail)
      refine region_round_lit (by rintro ⟨a, w, h⟩; exact h) (by kernel_rfl) ?_
      have ka : Keep none_ W (W.alloc (.cells #[.string (nameAt s k)] 9)) := (Keep.refl none_ W).alloc _
      have HKA := Lib.hid ka
      have HOA := Lib.hid (own_keep HO.out ka (fun _ _ e => e))
      have HBA := Lib.hid (HB.out.keep ka (fun e => e))
      have HNA := Lib.hid (Blk.new W 9 #[.string (nameAt s k)])
      clear ka
      have t1 : True := trivial
      go_wp2_with (have _t := t1; refine wpList_append_blk (.tmp 13) (.tmp 15) 44 9 rfl rfl w7.heap.size (.string ⟨#[]⟩) 1 16 Tryz.underlying44 s_info rfl (by omega) _ pre.length _ rfl HOA.out W.heap.size #[.string (nameAt s k)] rfl HNA.out rfl (by simp [Value.oneCell']) (by omega) (by have := HKA.out.size; omega) ?_; intro A' c' w' ho' hk'0; have hk' : Keep (ofBlk (.slice A0 pre.length c0)) _ w' := hk'0; clear hk'0; have HO1 := Lib.hid ho'; have HK1 := Lib.hid hk'; have HB1 := Lib.hid (HBA.out.keep hk' (fun e => own_apart HOA.out HBA.out (by decide) _ e rfl)); have f2 := HB1.out.cell 0; have f3 := HB1.out.frozen 0; simp only [List.getElem?_toArray, List.getElem?_cons_zero] at f2; clear ho' hk' t1 _t; go_frame)
      gi_wp2
      have ks : Keep (one w2.heap.size) w' (w'.setCell ⟨w2.heap.size, 0, none⟩ (.slice A' (pre.length + 1) c')) := (Keep.refl (one w2.heap.size) w').setCell (p := ⟨w2.heap.size, 0, none⟩) (.inl rfl) _
      have ob : Blk (w'.setCell ⟨w2.heap.size, 0, none⟩ (.slice A' (pre.length + 1) c')) w2.heap.size 44 #[.slice A' (pre.length + 1) c'] := by
        have := HB1.out.set_ 0 (.slice A' (pre.length + 1) c')
        simpa using this
      have oo := own_keep HO1.out ks (own_apart HO1.out HB1.out (by decide))
      have hge : ∀ r, ofBlk (.slice A0 pre.length c0) r → w7.heap.size ≤ r := fun r e => (HOA.out.lt r e).1
      refine ⟨⟨Nat.le_trans HKA.out.size (Nat.le_trans HK1.out.size ks.size), fun x o' hx ho' hc => ?_⟩, ((HKA.out.weak).trans (HK1.out.mono (fun r e => .inr (hge r e)))).trans (ks.mono (fun r e => .inl e)), _, ob, ?_, ((HK.out.trans HKA.out).then HK1.out (fun r e => .inr (by have := hge r e; omega))).then ks (fun r e => .inr (by cases e; omega)), Nat.le_trans l8 (Nat.le_trans HKA.out.size (Nat.le_trans HK1.out.size ks.size))⟩
      · have lx := (Array.getElem?_eq_some_iff.1 ho').1
        have e1 := (HKA.out.block x lx (fun e => e)).trans ho'
        have lx1 := (Array.getElem?_eq_some_iff.1 e1).1
        have od : ¬ ofBlk (.slice A0 pre.length c0) x := fun e => (show Odd (one x) _ from fun r er => by cases er; exact ⟨o', e1, hc⟩).own HOA.out x e rfl
        have e2 := (HK1.out.block x lx1 od).trans e1
        exact (ks.block x (Array.getElem?_eq_some_iff.1 e2).1 (fun e => by cases e; omega)).trans e2
      · rw [List.length_append]
        unfold namesOf at oo ⊢
        rw [List.map_append, List.map_append, List.map_append]
        exact oo
    case done =>
      rintro D ys W hD hys ⟨v, hB, hO, hK, l8⟩ hd
      have f1 : W.cell? ⟨w2.heap.size, 0, none⟩ = some v := by rw [hB.cell]; rfl
      obtain ⟨A0, c0, rfl, -⟩ := own_row (S := none_) hO (fun _ _ e => e)
      gi_wp2
      refine ⟨by simp, .inl ⟨_, _, rfl, run_takeDeferred hd, ?_⟩⟩
      have kd := Keep.of_grownBy (grownBy_putObj' W D (.deferred none))
      have o : Odd (fun k => some D = some k) W := fun r e => by cases e; exact ⟨_, hd, rfl⟩
      have hl : ys.length = (readyL s).length := by rw [← hys, List.length_map]
      refine ⟨_, results_tmp rfl _ _ _, _, rfl, ?_, hK.then kd (fun r e => .inr (by cases e; omega))⟩
      rw [E.out, ← hys, List.length_map]
      exact own_base (own_keep hO kd (o.own hO)) (by omega)
    case stop =>
      rintro D c pre W hD hpre h hd
      exact h.elim
end Go.Proofs.YtnefbeplgfdkkaaGreatDoor
/-
  FarmLeases: the plain facts.
-/
namespace Go.Proofs.YtnefbeplgfdkkaaGreatDoor
open Go.RowKit

theorem step_ok {s : St} {e : Ev} (h0 : stepE s e = 0) : evOk e = true ∧ perE s e = 0 := by
  unfold stepE at h0
  by_cases h : (validF s && evOk e) = true
  · rw [if_pos h] at h0
    exact ⟨(Bool.and_eq_true_iff.1 h).2, h0⟩
  · rw [if_neg h] at h0
    cases h0
theorem lea_V {s : St} (hv : V s) {e : Ev} (h0 : stepE s e = 0) : V (stepS s e) := by
  unfold stepS
  rw [if_pos h0]
  exact hv.per (step_ok h0).1
theorem lea_poll {s : St} {e : Ev} (h0 : stepE s e = 0) (h6 : e.kind = 6) {k : Nat} {r : List Nat} (hr : readyL s = k :: r) : stepO s e = [⟨1, nameAt s k, e.worker⟩] := by
  have p0 : pollE s e.worker = 0 := by
    have := (step_ok h0).2
    unfold perE at this
    simpa [h6] using this
  unfold stepO perO
  rw [if_pos h0, if_pos h6]
  exact pollO_cons p0 hr.symm
theorem lea_apart {s : St} (hv : V s) {i k : Nat} (hi : i < s.jobs.length) (hk : k < s.jobs.length) (hne : i ≠ k) (hw : s.jobs[i].worker ≠ ⟨#[]⟩) : s.jobs[i].worker ≠ s.jobs[k].worker := by
  have h := List.pairwise_iff_getElem.1 hv.jd
  rcases Nat.lt_or_gt_of_ne hne with hl | hl
  · intro e
    exact h i k hi hk hl (e ▸ hw) e
  · intro e
    exact h k i hk hi hl hw e.symm
theorem lea_ready {s : St} (hv : V s) {i m : Nat} (hi : i < s.jobs.length) (hm : m < (readyL s).length) (he : nameAt s (readyL s)[m] = s.jobs[i].name) : s.jobs[i].worker = ⟨#[]⟩ ∧ s.jobs[i].done = false := by
  obtain ⟨hkl, hrd⟩ := readyL_mem (List.getElem_mem hm)
  generalize (readyL s)[m] = k at hkl hrd he
  have e1 : nameAt s k = s.jobs[k].name := by unfold nameAt; rw [List.getElem?_eq_getElem hkl]
  rw [e1] at he
  have hik : k = i := by
    have h := List.pairwise_iff_getElem.1 hv.jn
    rcases Nat.lt_trichotomy k i with hl | hl | hl
    · exact absurd he (h k i hkl hi hl)
    · exact hl
    · exact absurd he.symm (h i k hi hkl hl)
  subst hik
  unfold readyAt at hrd
  simp only [Bool.and_eq_true, Bool.not_eq_true'] at hrd
  exact ⟨strEq_iff.1 hrd.1.1.2, hrd.1.1.1⟩
theorem EvOwn.csS {w : World} {S : Nat → Prop} {lo : Nat} (hS : ∀ b, lo ≤ b → ¬ S b) {cs : List Value} {e : Ev} (h : EvOwn w lo cs e) : EvCs w S cs e := by
  obtain ⟨vn, vi, icss, e1, h1, h2, h3, h4⟩ := h
  obtain ⟨A, c, rfl, r⟩ := own_row (S := S) h1 hS
  obtain ⟨B, d, rfl, r2⟩ := own_row (S := S) h2 hS
  exact ⟨_, _, e1, ⟨_, _, _, rfl, r⟩, ElemsOf.of_row rfl h3.1 h3.len r2 (fun i cs x hi hx => (h3.2 i cs x hi hx).itm (h4 x (List.mem_of_getElem? hx)).1 (h4 x (List.mem_of_getElem? hx)).2)⟩
theorem EvsOf.ownS {w : World} {S : Nat → Prop} {base : Nat} (hS : ∀ b, base ≤ b → ¬ S b) {v : Value} {css : List (List Value)} {l : List Ev} (h : w.ownsRow base 78 6 v l.length css.flatten) (h2 : All2 (EvCs w S) css l) : EvsOf w S v l := by
  obtain ⟨A, c, rfl, hr⟩ := own_row (S := S) h hS
  obtain ⟨g1, g2⟩ := h2.get
  refine ElemsOf.of_row rfl g1 (fun x hx => ?_) hr g2
  obtain ⟨i, hi, rfl⟩ := List.mem_iff_getElem.1 hx
  exact EvCs.len (g2 i _ _ (List.getElem?_eq_getElem hi) (List.getElem?_eq_getElem (by rw [← g1]; exact hi)))
section
variable {P : Program} {ops : Array Oper} {c : Calm} {L : Array Bool → Act → Prop} {o : Oper} {rest : List (Nat × Oper)} {k : Nat} {a : Act} {listed : Array Bool}
/-- 'x != y' on structs, inside a region that draws. -/
theorem Calm.walk_neq_agg (t : TypeId) (x y : Operand) (u : TypeId) (ho : o.op = .binOp .neq t x y u) (ne : Nonempty c.Sub) (he : c.eff.contains k = false) (hw : Region.wanted o (yielded ops a.tmps) = true) (xs ys : Array Value) (hx : a.eval x = .agg xs) (hy : a.eval y = .agg ys)
    (hm : P.eqGuardType P.depth t = false) (b : Bool) (hb : ∀ w, (Op.equalIn 10000 t (.agg xs) (.agg ys)).run P w = .ok b w) (h : c.walkP P ops L rest (listed.setIfInBounds k true) (a.put o.dst (.bool (!b)))) : c.walkP P ops L ((k, o) :: rest) listed a :=
  Calm.walk_is (.bool (!b)) ne he (by rw [ho]; rfl) hw (fun z => by
    unfold execOp
    simp only [ho, hx, hy, Sem.run_bind, run_eqGuard_agg _ _ _ _ _ _ _ hm, run_neq_struct, hb, Result.andThen_ok, Sem.run_pure]) h
end
theorem eqOk_string {P : Program} {d : Nat} {t : TypeId} (a b : ByteArray) (h : P.underlying t = some .string) : EqOk P (d + 1) t (.string a) (.string b) :=
  ⟨a.toList == b.toList, fun e => by cases e; simp, fun w => run_equalIn_string w d t a b h⟩
theorem out_eq (a : Int) (x y : ByteArray) : ∀ w, (Op.equalIn 10000 125 (.agg #[.int .i64 a, .string x, .string y]) (.agg #[.int .i64 a, .string x, .string y])).run Tryz.prog w = .ok true w := by
  obtain ⟨b, h1, h2⟩ : EqOk Tryz.prog (9998 + 1 + 1) 125 (.agg #[.int .i64 a, .string x, .string y]) (.agg #[.int .i64 a, .string x, .string y]) := by
    refine eqOk_struct _ _ Tryz.underlying125 (by kernel_rfl) fun f hf => ?_
    simp only [List.mem_cons, List.not_mem_nil, or_false] at hf
    rcases hf with rfl | rfl | rfl
    · exact ⟨.int .i64 a, .int .i64 a, PartIs.one Tryz.underlying3 rfl rfl, PartIs.one Tryz.underlying3 rfl rfl, fun _ => rfl, eqOk_int _ _ Tryz.underlying3⟩
    · exact ⟨.string x, .string x, PartIs.one Tryz.underlying9 rfl rfl, PartIs.one Tryz.underlying9 rfl rfl, fun _ => rfl, eqOk_string _ _ Tryz.underlying9⟩
    · exact ⟨.string y, .string y, PartIs.one Tryz.underlying9 rfl rfl, PartIs.one Tryz.underlying9 rfl rfl, fun _ => rfl, eqOk_string _ _ Tryz.underlying9⟩
  intro w
  rw [h2 w, h1 rfl]
theorem JobsOf.cells {w : World} {S : Nat → Prop} {A : Option Addr} {n c : Nat} {l : List Jb} (h : JobsOf w S (.slice A n c) l) (hn : 0 < n) : ∃ b o, A = some ⟨b, o, none⟩ ∧ ∀ i (hi : i < l.length), w.cell? ⟨b, o + i * 7, none⟩ = some (.string l[i].name) ∧ w.cell? ⟨b, o + i * 7 + 2, none⟩ = some (.string l[i].worker) ∧ w.cell? ⟨b, o + i * 7 + 5, none⟩ = some (.bool l[i].done) := by
  obtain ⟨A', n', c', e, -, -, hl, h4⟩ := h
  injection e with e1 e2 e3
  subst e1 e2 e3
  obtain ⟨b, o, rfl, -, hc⟩ := h4 hn
  refine ⟨b, o, rfl, fun i hi => ?_⟩
  obtain ⟨cs, -, hr, vn, vi, rfl, -, -⟩ := hc i hi
  exact ⟨hr 0 _ rfl, hr 2 _ rfl, hr 5 _ rfl⟩
theorem row_str {w : World} {S : Nat → Prop} {A : Option Addr} {n c : Nat} {xs : List Value} (h : Row w S 1 A n c xs) (k : Nat) (hk : k < n) : ∃ b o u, A = some ⟨b, o, none⟩ ∧ xs[k]? = some u ∧ w.cell? ⟨b, o + k, none⟩ = some u := by
  obtain ⟨b, o, rfl, -, hc⟩ := h.at_ (by omega)
  have hl := h.len
  exact ⟨b, o, xs[k], rfl, List.getElem?_eq_getElem (by omega), hc k _ (List.getElem?_eq_getElem (by omega))⟩
end Go.Proofs.YtnefbeplgfdkkaaGreatDoor
/-
  errnos, SameOuts of equal lists.
-/
namespace Go.Proofs.YtnefbeplgfdkkaaGreatDoor
open Go.RowKit

set_option maxRecDepth 100000 in
set_option maxHeartbeats 1000000 in
theorem errnos_any (es : List Int) (v v' : Value) (w : World) (h : ErrsOf w v es) (h' : ErrsOf w v' es) : Calls Tryz.prog 28 #[v, v'] w fun e w' => e = .returned (.bool true) ∧ Keep none_ w w' := by
  obtain ⟨A, c, rfl, hr⟩ := h
  obtain ⟨A', c', rfl, hr'⟩ := h'
  have h1 := hr.cap
  have h2 := hr.le
  unfold maxLen at h1
  have HR := Lib.hid hr
  have HR' := Lib.hid hr'
  clear hr hr'
  go_enter Tryz.func28, Tryz.ntmps28
  go_wp2_with (fail)
  go_loopw [13] (fun i wr => ∃ k : Nat, k ≤ es.length ∧ i = .int .i64 k ∧ Keep none_ w wr) (fun i _ => es.length - (intOf i).toNat)
  case atStart => exact ⟨0, Nat.zero_le _, rfl, Keep.refl _ _⟩
  case round =>
    obtain ⟨k, hk, rfl, hkr⟩ := hrel
    by_cases hlt : k < es.length
    · have hlt' : (k : Int) < es.length := by omega
      obtain ⟨b, o, rfl, -, hc⟩ := HR.out.at_ (by omega)
      obtain ⟨b', o', rfl, -, hc'⟩ := HR'.out.at_ (by omega)
      have e1 := hkr.cell (hc k (.int .i64 es[k]) (by simp [hlt])) (fun e => e)
      have e2 := hkr.cell (hc' k (.int .i64 es[k]) (by simp [hlt])) (fun e => e)
      have HK := Lib.hid hkr
      clear hc hc' hkr
      go_upto_region 6 with (fail)
      have gd := still_good (wr).drew
      have ne := still_some (wr).drew
      have hx := still_at (wr).drew
      refine wp_region_calm (stillCalm (wr).drew) [0, 1, 2, 3, 4, 5, 6, 7, 8] [] 26 (by kernel_rfl) (by kernel_rfl) rfl gd rfl ?_
      simp only [pairs, List.filterMap_cons, List.filterMap_nil, List.getElem?_toArray, List.getElem?_cons_succ, List.getElem?_cons_zero, Option.map_some]
      repeat (refine Calm.walk_quiet ne rfl rfl rfl (fun K hK => ?_); go_big_quiet_op; refine hK _ ?_; clear hK K)
      intro w' hR _
      obtain rfl : w' = (wr).drew := hR.symm
      simp only [pickOps, List.filterMap_nil]
      clear gd ne hx hR
      have HK9 := Lib.hid (HK.out.trans (Keep.refl none_ wr).drew)
      go_wp2
      go_roundw
      case rel => exact ⟨k + 1, hlt, by go_num, HK9.out⟩
      case measure => simp [intOf]; omega
    · obtain rfl : k = es.length := by omega
      go_wp2
      go_ret
      exact ⟨rfl, hkr⟩

set_option maxRecDepth 100000 in
set_option maxHeartbeats 1000000 in
theorem sameOuts_any (os : List Ot) (v v' : Value) (w : World) (h : OutsOf w v os) (h' : OutsOf w v' os) : Calls Tryz.prog 26 #[v, v'] w fun e w' => e = .returned (.bool true) ∧ Keep none_ w w' := by
  obtain ⟨A, c, rfl, hr⟩ := h
  obtain ⟨A', c', rfl, hr'⟩ := h'
  have h1 := hr.cap
  have h2 := hr.le
  unfold maxLen at h1
  have HR := Lib.hid hr
  have HR' := Lib.hid hr'
  clear hr hr'
  go_enter Tryz.func26, Tryz.ntmps26
  go_wp2_with (fail)
  go_loopw [5] (fun i wr => ∃ k : Nat, k ≤ os.length ∧ i = .int .i64 k ∧ Keep none_ w wr) (fun i _ => os.length - (intOf i).toNat)
  case atStart => exact ⟨0, Nat.zero_le _, rfl, Keep.refl _ _⟩
  case round =>
    obtain ⟨k, hk, rfl, hkr⟩ := hrel
    by_cases hlt : k < os.length
    · have hlt' : (k : Int) < os.length := by omega
      obtain ⟨b, o, rfl, -, hc⟩ := HR.out.at_ (by omega)
      obtain ⟨b', o', rfl, -, hc'⟩ := HR'.out.at_ (by omega)
      have cell : ∀ r u, r < 3 → [Value.int .i64 os[k].kind, .string os[k].job, .string os[k].worker][r]? = some u → (otCells os)[k * 3 + r]? = some u := fun r u hr hu => by
        have := flatten_get (os.map fun x => [Value.int .i64 x.kind, .string x.job, .string x.worker]) (fun y hy => by obtain ⟨z, -, rfl⟩ := List.mem_map.1 hy; rfl) k [Value.int .i64 os[k].kind, .string os[k].job, .string os[k].worker] (by simp [hlt]) r hr
        unfold otCells
        rw [List.flatMap_def, this, hu]
      have R1 := Lib.hid (show wr.rangeAt b (o + k * 3) [.int .i64 os[k].kind, .string os[k].job, .string os[k].worker] from fun r u hu => by
        have hr : r < 3 := (List.getElem?_eq_some_iff.1 hu).1
        rw [Nat.add_assoc]
        exact hkr.cell (hc (k * 3 + r) u (cell r u hr hu)) (fun e => e))
      have R2 := Lib.hid (show wr.rangeAt b' (o' + k * 3) [.int .i64 os[k].kind, .string os[k].job, .string os[k].worker] from fun r u hu => by
        have hr : r < 3 := (List.getElem?_eq_some_iff.1 hu).1
        rw [Nat.add_assoc]
        exact hkr.cell (hc' (k * 3 + r) u (cell r u hr hu)) (fun e => e))
      have HK := Lib.hid hkr
      generalize os[k] = x at R1 R2 cell
      clear hc hc' hkr cell
      go_upto_region 6 with (fail)
      have gd := still_good wr.drew
      have ne := still_some wr.drew
      have hx := still_at wr.drew
      refine wp_region_calm (stillCalm wr.drew) [0, 1, 2, 3, 4, 5, 6, 7, 8] [] 26 (by kernel_rfl) (by kernel_rfl) rfl gd rfl ?_
      simp only [pairs, List.filterMap_cons, List.filterMap_nil, List.getElem?_toArray, List.getElem?_cons_succ, List.getElem?_cons_zero, Option.map_some]
      repeat (refine Calm.walk_quiet ne rfl rfl rfl (fun K hK => ?_); go_big_quiet_op; refine hK _ ?_; clear hK K)
      refine Calm.walk_load 125 (.tmp 19) rfl ne rfl rfl b (o + k * 3) (by first | rfl | simp) #[.int .i64 x.kind, .string x.job, .string x.worker] _ (fun y => by rw [hx y]; exact fun r u hu => (Keep.refl none_ wr).drew.cell (R1.out r u hu) (fun e => e)) Tryz.underlying125 rfl (by kernel_rfl) ?_
      go_frame
      repeat (refine Calm.walk_quiet ne rfl rfl rfl (fun K hK => ?_); go_big_quiet_op; refine hK _ ?_; clear hK K)
      refine Calm.walk_load 125 (.tmp 23) rfl ne rfl rfl b' (o' + k * 3) (by first | rfl | simp) #[.int .i64 x.kind, .string x.job, .string x.worker] _ (fun y => by rw [hx y]; exact fun r u hu => (Keep.refl none_ wr).drew.cell (R2.out r u hu) (fun e => e)) Tryz.underlying125 rfl (by kernel_rfl) ?_
      go_frame
      refine Calm.walk_neq_agg 125 (.tmp 20) (.tmp 24) _ rfl ne rfl rfl #[.int .i64 x.kind, .string x.job, .string x.worker] #[.int .i64 x.kind, .string x.job, .string x.worker] rfl rfl (by kernel_rfl) true (out_eq _ _ _) ?_
      go_frame
      intro w' hR _
      obtain rfl : w' = wr.drew := hR.symm
      simp only [pickOps, List.filterMap_nil]
      clear gd ne hx hR
      have HK9 := Lib.hid (HK.out.trans (Keep.refl none_ wr).drew)
      go_wp2
      go_roundw
      case rel => exact ⟨k + 1, hlt, by go_num, HK9.out⟩
      case measure => simp [intOf]; omega
    · obtain rfl : k = os.length := by omega
      go_wp2
      go_ret
      exact ⟨rfl, hkr⟩
end Go.Proofs.YtnefbeplgfdkkaaGreatDoor
