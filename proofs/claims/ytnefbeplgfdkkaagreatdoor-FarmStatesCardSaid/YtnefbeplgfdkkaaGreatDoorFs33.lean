/-
  farm.Ready.
-/
import Derived.Test.YtnefbeplgfdkkaaGreatDoorFs31
import Derived.Test.YtnefbeplgfdkkaaGreatDoorFs32
namespace Go.Proofs.YtnefbeplgfdkkaaGreatDoor
open Go.RowKit Go.Shelf

attribute [local go_sem] Oper.semAt_some

theorem StateOf.jobsAt {w : World} {S : Nat → Prop} {v vp vj vw : Value} {s : St} (h : StateOf w S (.agg #[v, vp, vj, vw]) s) : JobsOf w S vj s.jobs := by
  obtain ⟨p6, j6, q6, e, g1, g2, g3⟩ := h
  simp only [Value.agg.injEq, Array.mk.injEq, List.cons.injEq, and_true] at e
  obtain ⟨-, -, rfl, -⟩ := e
  exact g2
theorem StateOf.opn {w : World} {S : Nat → Prop} {v : Value} {s : St} (h : StateOf w S v s) : ∃ P1 P2 P3 P4 P5 P6 P7 P8 P9, v = .agg #[.int .i64 s.now, .slice P1 P2 P3, .slice P4 P5 P6, .slice P7 P8 P9] ∧ P5 = s.jobs.length := by
  obtain ⟨p6, j6, q6, rfl, g1, g2, g3⟩ := h
  obtain ⟨P1, P2, P3, rfl, -⟩ := g1
  obtain ⟨P4, P5, P6, rfl, hj⟩ := g2
  obtain ⟨P7, P8, P9, rfl, -⟩ := g3
  exact ⟨_, _, _, _, _, _, _, _, _, rfl, hj.2.2.1.symm⟩
theorem s_info : (Tryz.prog.info? 9).map (fun i => (i.zero, i.size, i.bytes)) = some (some (.string ⟨#[]⟩), 1, 16) := by kernel_rfl
def namesOf (s : St) (l : List Nat) : List Value := (l.map (nameAt s)).map Value.string
def RdyI (s : St) (lo b : Nat) (w : World) (pre : List (Rd s)) (W : World) : Prop :=
  ∃ v, Blk W b 44 #[v] ∧ W.ownsRow lo 9 1 v pre.length (namesOf s (pre.map Subtype.val)) ∧ Keep none_ w W ∧ lo ≤ W.heap.size
def RdyX (s : St) (_ : Code) (_ : List (Rd s)) (_ : World) : Prop := False
theorem rdyI_own (s : St) (lo b B : Nat) (w : World) (hB : w.heap.size ≤ B) : OwnFrom B (RdyI s lo b w) := by
  rintro pre W W' row ⟨v, h1, h2, h3, h4⟩ hg hr
  have k := Keep.of_grownBy hg
  have o : Odd (fun k => row = some k) W := fun r e => (hr r e).2
  exact ⟨v, h1.keep k (o.blk h1), own_keep h2 k (o.own h2), h3.then k (fun r e => .inr (Nat.le_trans hB (hr r e).1)), Nat.le_trans h4 k.size⟩
theorem rdyX_own (s : St) (B : Nat) (c : Code) : OwnFrom B (RdyX s c) := by
  rintro pre W W' row h _ _
  exact h.elim
def readyF (s : St) : List Nat := if validF s then readyL s else []
def RdyPost (s : St) (w : World) (e : Ending) (w' : World) : Prop :=
  ∃ v, e = .returned v ∧ w'.ownsRow w.heap.size 9 1 v (readyF s).length (namesOf s (readyF s)) ∧ Keep none_ w w'

set_option maxRecDepth 100000 in
set_option maxHeartbeats 2000000 in
theorem rdy_any (s : St) (v : Value) (S : Nat → Prop) (w : World) (h : StateOf w S v s) :
    Calls Tryz.prog 20 #[v] w (RdyPost s w) := by
  obtain ⟨P1, P2, P3, P4, P5, P6, P7, P8, P9, rfl, -⟩ := h.opn
  obtain ⟨W1, hW1⟩ : ∃ W1, W1 = w.alloc (.cells #[.int .i64 s.now, .slice P1 P2 P3, .slice P4 P5 P6, .slice P7 P8 P9] 48) := ⟨_, rfl⟩
  have k1 : Keep none_ w W1 := hW1 ▸ (Keep.refl none_ w).alloc _
  have b1 : Blk W1 w.heap.size 48 #[.int .i64 s.now, .slice P1 P2 P3, .slice P4 P5 P6, .slice P7 P8 P9] := hW1 ▸ Blk.new _ _ _
  have HS := Lib.hid (h.fresh.keep k1.weak)
  have VA := Lib.hid (valid_any s _ _ W1 HS.out)
  have B1 := Lib.hid b1
  have K1 := Lib.hid k1
  have l1 := b1.lt
  clear h k1 b1
  cases hv : validF s with
  | false =>
    rw [hv] at VA
    have E := Lib.hid (show readyF s = [] by unfold readyF; rw [hv]; rfl)
    clear hv
    refine (callsIn_wide (n := 3)).1 ?_
    refine callsIn_of_wp_marks Tryz.func20 rfl trivial ?_ rfl
    simp only [Tryz.ntmps20, List.size_toArray, List.length_cons, List.length_nil, Nat.reduceAdd, Nat.reduceSub, Array.replicate_succ, Array.replicate_zero, List.push_toArray, List.append_toArray, List.nil_append, List.cons_append]
    gi_upto_region 1 with (fail)
    rw [← hW1]
    clear hW1
    refine wpIn_wide.2 (wp_region_lit ?_)
    have t1 : True := trivial
    go_wp2_with (first | (have _t := t1; refine wpList_load_part 48 (.tmp 1) rfl rfl w.heap.size 0 rfl #[.int .i64 s.now, .slice P1 P2 P3, .slice P4 P5 P6, .slice P7 P8 P9] _ B1.out.rangeAt Tryz.underlying48 rfl (by kernel_rfl) ?_; go_frame; clear _t t1) | (go_at_call 17; refine VA.out.mono ?_; rintro en w2 ⟨rfl, k2⟩; have K2 := Lib.hid (K1.out.trans k2); clear k2))
    gi_wp2
    exact ⟨_, results_tmp rfl _ _ _, _, rfl, by rw [E.out]; exact ⟨rfl, .inl ⟨rfl, rfl⟩⟩, K2.out⟩
  | true =>
    rw [hv] at VA
    have HV := Lib.hid ((valid_iff s).1 hv)
    have E := Lib.hid (show readyF s = readyL s by unfold readyF; rw [hv]; rfl)
    clear hv
    refine (callsIn_wide (n := 3)).1 ?_
    refine callsIn_of_wp_marks Tryz.func20 rfl trivial ?_ rfl
    simp only [Tryz.ntmps20, List.size_toArray, List.length_cons, List.length_nil, Nat.reduceAdd, Nat.reduceSub, Array.replicate_succ, Array.replicate_zero, List.push_toArray, List.append_toArray, List.nil_append, List.cons_append]
    gi_upto_region 1 with (fail)
    rw [← hW1]
    clear hW1
    refine wpIn_wide.2 (wp_region_lit ?_)
    have t1 : True := trivial
    go_wp2_with (first | (have _t := t1; refine wpList_load_part 48 (.tmp 1) rfl rfl w.heap.size 0 rfl #[.int .i64 s.now, .slice P1 P2 P3, .slice P4 P5 P6, .slice P7 P8 P9] _ B1.out.rangeAt Tryz.underlying48 rfl (by kernel_rfl) ?_; go_frame; clear _t t1) | (go_at_call 17; refine VA.out.mono ?_; rintro en w2 ⟨rfl, k2⟩; have B2 := Lib.hid (B1.out.keep k2 (fun e => e)); have H2 := Lib.hid (HS.out.keep k2.weak); have l2 := k2.size; have K2 := Lib.hid (K1.out.trans k2); clear k2))
    gi_upto_region 4 with (fail)
    obtain ⟨W3, hW3⟩ : ∃ W3, W3 = w2.alloc (.cells #[.slice none 0 0] 44) := ⟨_, rfl⟩
    have k3 : Keep none_ w2 W3 := hW3 ▸ (Keep.refl none_ w2).alloc _
    have b3 : Blk W3 w2.heap.size 44 #[.slice none 0 0] := hW3 ▸ Blk.new _ _ _
    rw [← hW3]
    clear hW3
    have S3 := Lib.hid (B2.out.keep k3 (fun e => e))
    have H3 := Lib.hid (H2.out.keep k3.weak)
    have K3 := Lib.hid (K2.out.trans k3)
    have B3 := Lib.hid b3
    have l3 := b3.lt
    have RA := Lib.hid (ready_any s.now (.slice P1 P2 P3) (.slice P4 P5 P6) (.slice P7 P8 P9) W3)
    clear k3 b3 B2 H2 K2 B1 HS VA K1
    refine wpIn_wide.2 (wp_region_lit ?_)
    have t1 : True := trivial
    go_wp2_with (first | (have _t := t1; refine wpList_load_part 48 (.tmp 1) rfl rfl w.heap.size 0 rfl #[.int .i64 s.now, .slice P1 P2 P3, .slice P4 P5 P6, .slice P7 P8 P9] _ S3.out.rangeAt Tryz.underlying48 rfl (by kernel_rfl) ?_; go_frame; clear _t t1) | (go_at_call 49; refine RA.out.mono ?_; rintro e w7 ⟨rfl, hw7⟩; have HW7 := Lib.hid hw7; clear hw7))
    gi_wp2
    have k7 : Keep none_ W3 w7 := by rw [HW7.out]; exact (Keep.refl none_ W3).alloc _
    have b7 : Blk w7 W3.heap.size 48 #[.int .i64 s.now, .slice P1 P2 P3, .slice P4 P5 P6, .slice P7 P8 P9] := by rw [HW7.out]; exact Blk.new _ _ _
    have B7 := Lib.hid (B3.out.keep k7 (fun e => e))
    have K7 := Lib.hid (K3.out.trans k7)
    have l7 : W3.heap.size < w7.heap.size := b7.lt
    obtain ⟨p6, j6, q6, e6, g1, g2, g3⟩ := (H3.out.keep k7.weak).sub (S' := fun r => r = w2.heap.size ∨ w7.heap.size ≤ r) (fun r e => by unfold ge; rcases e with e | e <;> omega)
    simp only [Value.agg.injEq, Array.mk.injEq, List.cons.injEq, and_true, true_and] at e6
    obtain ⟨rfl, rfl, rfl⟩ := e6
    have v1 := HV.out
    have ST := ready_stops 2 W3.heap.size (fun r => r = w2.heap.size ∨ w7.heap.size ≤ r) s (.slice P1 P2 P3) (.slice P4 P5 P6) (.slice P7 P8 P9) w7 b7 (fun e => by rcases e with e | e <;> omega) g1 g2 (V.asc v1) (V.p64 v1) v1.jl
    have HJ64 : s.jobs.length ≤ 64 := v1.jl
    clear b7 k7 HW7 RA g1 g2 g3 H3 S3 K3 B3 v1
    refine wpIn_rangeFunc_ownG rfl (by decide) (gf := 69) (lb := #[.pointer (some ⟨W3.heap.size, 0, none⟩)]) rfl trivial (enters_of Tryz.func69 (by kernel_rfl) rfl) ST (fun h k => h.trans k) (fun W l o o' hl ho _ _ => (Keep.of_grownBy (grownBy_putObj' W l o')).mono (fun r e => by cases e; exact .inr hl)) (Below.refl _ _) (fun _ => rfl)
      (RdyI s w7.heap.size w2.heap.size w) (RdyX s)
      (rdyI_own _ _ _ _ _ (by omega)) (rdyX_own _ _) ⟨_, B7.out, ⟨rfl, .inl ⟨rfl, rfl⟩⟩, K7.out, Nat.le_refl _⟩
      (fun y => { tmps := #[.agg #[.int .i64 s.now, .slice P1 P2 P3, .slice P4 P5 P6, .slice P7 P8 P9], .pointer (some ⟨w.heap.size, 0, none⟩), .slice none 0 0, .pointer (some ⟨w2.heap.size, 0, none⟩), undef, .string (nameAt s y.1), .agg #[.int .i64 s.now, .slice P1 P2 P3, .slice P4 P5 P6, .slice P7 P8 P9], .bool true, .bool false, .agg #[.int .i64 s.now, .slice P1 P2 P3, .slice P4 P5 P6, .slice P7 P8 P9], .func (.func 69) #[] #[.pointer (some ⟨W3.heap.size, 0, none⟩)], .int .i64 (y.1 : Nat), .string (nameAt s y.1), undef, undef, undef, undef, undef], defers := [] }) ?assign ?body ?done ?stop
    case assign =>
      intro l y W K hK
      simp only [encRd]
      gi_wp2
      exact hK
    case body =>
      rintro l pre ⟨k, hkm⟩ W ⟨v, hB, hO, hK, l8⟩ hpl
      have f1 : W.cell? ⟨w2.heap.size, 0, none⟩ = some v := by rw [hB.cell]; rfl
      have HB := Lib.hid hB
      have HO := Lib.hid hO
      have HK := Lib.hid hK
      have lW := hK.size
      have lB := hB.lt
      clear hB hO hK ST B7 K7
      obtain ⟨A0, c0, rfl, -⟩ := own_row (S := none_) HO.out (fun _ _ e => e)
      gi_upto_region 6 with (fail)
      refine region_round_lit (by rintro ⟨a, w, h⟩; exact h) (by kernel_rfl) ?_
      have ka : Keep none_ W (W.alloc (.cells #[.string (nameAt s k)] 9)) := (Keep.refl none_ W).alloc _
      have HKA := Lib.hid ka
      have HOA := Lib.hid (own_keep HO.out ka (fun _ _ e => e))
      have HBA := Lib.hid (HB.out.keep ka (fun e => e))
      have HNA := Lib.hid (Blk.new W 9 #[.string (nameAt s k)])
      clear ka
      have t1 : True := trivial
      go_wp2_with (have _t := t1; refine wpList_append_blk (.tmp 13) (.tmp 15) 44 9 rfl rfl w7.heap.size (.string ⟨#[]⟩) 1 16 Tryz.underlying44 s_info rfl (by omega) _ pre.length _ rfl HOA.out W.heap.size #[.string (nameAt s k)] rfl HNA.out rfl (by simp [Value.oneCell']) (by omega) (by have := HKA.out.size; omega) ?_; intro A' c' w' ho' hk'0; have hk' : Keep (ofBlk (.slice A0 pre.length c0)) _ w' := hk'0; clear hk'0; have HO1 := Lib.hid ho'; have HK1 := Lib.hid hk'; have HB1 := Lib.hid (HBA.out.keep hk' (fun e => own_apart HOA.out HBA.out (by decide) _ e rfl)); have f2 := HB1.out.cell 0; have f3 := HB1.out.frozen 0; simp only [List.getElem?_toArray, List.getElem?_cons_zero] at f2; clear ho' hk' t1 _t; go_frame)
      gi_wp2
      have ks : Keep (one w2.heap.size) w' (w'.setCell ⟨w2.heap.size, 0, none⟩ (.slice A' (pre.length + 1) c')) := (Keep.refl (one w2.heap.size) w').setCell (p := ⟨w2.heap.size, 0, none⟩) (.inl rfl) _
      have ob : Blk (w'.setCell ⟨w2.heap.size, 0, none⟩ (.slice A' (pre.length + 1) c')) w2.heap.size 44 #[.slice A' (pre.length + 1) c'] := by
        have := HB1.out.set_ 0 (.slice A' (pre.length + 1) c')
        simpa using this
      have oo := own_keep HO1.out ks (own_apart HO1.out HB1.out (by decide))
      have hge : ∀ r, ofBlk (.slice A0 pre.length c0) r → w7.heap.size ≤ r := fun r e => (HOA.out.lt r e).1
      refine ⟨⟨Nat.le_trans HKA.out.size (Nat.le_trans HK1.out.size ks.size), fun x o' hx ho' hc => ?_⟩, ((HKA.out.weak).trans (HK1.out.mono (fun r e => .inr (hge r e)))).trans (ks.mono (fun r e => .inl e)), _, ob, ?_, ((HK.out.trans HKA.out).then HK1.out (fun r e => .inr (by have := hge r e; omega))).then ks (fun r e => .inr (by cases e; omega)), Nat.le_trans l8 (Nat.le_trans HKA.out.size (Nat.le_trans HK1.out.size ks.size))⟩
      · have lx := (Array.getElem?_eq_some_iff.1 ho').1
        have e1 := (HKA.out.block x lx (fun e => e)).trans ho'
        have lx1 := (Array.getElem?_eq_some_iff.1 e1).1
        have od : ¬ ofBlk (.slice A0 pre.length c0) x := fun e => (show Odd (one x) _ from fun r er => by cases er; exact ⟨o', e1, hc⟩).own HOA.out x e rfl
        have e2 := (HK1.out.block x lx1 od).trans e1
        exact (ks.block x (Array.getElem?_eq_some_iff.1 e2).1 (fun e => by cases e; omega)).trans e2
      · rw [List.length_append]
        unfold namesOf at oo ⊢
        rw [List.map_append, List.map_append, List.map_append]
        exact oo
    case done =>
      rintro D ys W hD hys ⟨v, hB, hO, hK, l8⟩ hd
      have f1 : W.cell? ⟨w2.heap.size, 0, none⟩ = some v := by rw [hB.cell]; rfl
      obtain ⟨A0, c0, rfl, -⟩ := own_row (S := none_) hO (fun _ _ e => e)
      gi_wp2
      refine ⟨by simp, .inl ⟨_, _, rfl, run_takeDeferred hd, ?_⟩⟩
      have kd := Keep.of_grownBy (grownBy_putObj' W D (.deferred none))
      have o : Odd (fun k => some D = some k) W := fun r e => by cases e; exact ⟨_, hd, rfl⟩
      have hl : ys.length = (readyL s).length := by rw [← hys, List.length_map]
      refine ⟨_, results_tmp rfl _ _ _, _, rfl, ?_, hK.then kd (fun r e => .inr (by cases e; omega))⟩
      rw [E.out, ← hys, List.length_map]
      exact own_base (own_keep hO kd (o.own hO)) (by omega)
    case stop =>
      rintro D c pre W hD hpre h hd
      exact h.elim
end Go.Proofs.YtnefbeplgfdkkaaGreatDoor
