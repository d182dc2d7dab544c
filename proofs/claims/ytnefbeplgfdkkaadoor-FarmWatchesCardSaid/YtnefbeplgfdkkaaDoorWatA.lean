/-
  FarmWatches: the walk (first = false). Printed by gen_wat.py.
-/
import Derived.Test.YtnefbeplgfdkkaaDoorWatP
import Derived.Test.YtnefbeplgfdkkaaDoorStep2
import Derived.Test.YtnefbeplgfdkkaaDoorErrnos
namespace Go.Proofs.YtnefbeplgfdkkaaDoor
open Go.RowKit

set_option maxRecDepth 100000 in
set_option maxHeartbeats 1000000 in
theorem watch_ff (w : World) : Calls Tryd.prog 5 #[.bool false, .bool false] w fun e w' => e = .returned (.bool true) ∧ Keep none_ w w' := by
  obtain ⟨s0, s1, s2, s3, e0, e1, e2, e3, f1, f2, f3, f4, f5, f6, v1, i0, i1, i2, i3⟩ := wat_pack false false
  have He0 := Lib.hid e0
  have He1 := Lib.hid e1
  have He2 := Lib.hid e2
  have He3 := Lib.hid e3
  have Hf1 := Lib.hid f1
  have Hf2 := Lib.hid f2
  have Hf3 := Lib.hid f3
  have Hf4 := Lib.hid f4
  have Hf5 := Lib.hid f5
  have Hf6 := Lib.hid f6
  clear e0 e1 e2 e3 f1 f2 f3 f4 f5 f6
  have ze := zero_event
  have zs := zero_state
  have ow := own_events (w.alloc (.cells #[.string ⟨#[109, 48]⟩, .string ⟨#[109, 49]⟩] 9)) 0 3 #[.int .i64 1, .string ⟨#[106, 111, 98]⟩, .string ⟨#[]⟩, .slice (some ⟨w.heap.size, 0, none⟩) 2 2, .int .i64 0, .slice none 0 0, .int .i64 4, .string ⟨#[]⟩, .string ⟨#[119]⟩, .slice none 0 0, .int .i64 0, .slice none 0 0, .int .i64 2, .string ⟨#[109, 48]⟩, .string ⟨#[]⟩, .slice none 0 0, .int .i64 0, .slice none 0 0] (Nat.zero_le _) (by decide) rfl
  simp only [World.size_alloc] at ow
  have bn : Blk ((w.alloc (.cells #[.string ⟨#[109, 48]⟩, .string ⟨#[109, 49]⟩] 9)).alloc (.cells #[.int .i64 1, .string ⟨#[106, 111, 98]⟩, .string ⟨#[]⟩, .slice (some ⟨w.heap.size, 0, none⟩) 2 2, .int .i64 0, .slice none 0 0, .int .i64 4, .string ⟨#[]⟩, .string ⟨#[119]⟩, .slice none 0 0, .int .i64 0, .slice none 0 0, .int .i64 2, .string ⟨#[109, 48]⟩, .string ⟨#[]⟩, .slice none 0 0, .int .i64 0, .slice none 0 0] 25)) w.heap.size 9 #[.string ⟨#[109, 48]⟩, .string ⟨#[109, 49]⟩] := (Blk.new w _ _).alloc _
  have sn : StrsOf ((w.alloc (.cells #[.string ⟨#[109, 48]⟩, .string ⟨#[109, 49]⟩] 9)).alloc (.cells #[.int .i64 1, .string ⟨#[106, 111, 98]⟩, .string ⟨#[]⟩, .slice (some ⟨w.heap.size, 0, none⟩) 2 2, .int .i64 0, .slice none 0 0, .int .i64 4, .string ⟨#[]⟩, .string ⟨#[119]⟩, .slice none 0 0, .int .i64 0, .slice none 0 0, .int .i64 2, .string ⟨#[109, 48]⟩, .string ⟨#[]⟩, .slice none 0 0, .int .i64 0, .slice none 0 0] 25)) none_ (.slice (some ⟨w.heap.size, 0, none⟩) 2 2) [bM0, bM1] := ⟨_, 2, 2, rfl, rfl, Nat.le_refl _, by unfold maxLen; decide, fun _ => ⟨w.heap.size, 0, rfl, fun e => e, fun j u hu => by rw [Nat.zero_add, bn.cell, List.getElem?_toArray]; exact hu⟩⟩
  have RN := Lib.hid (run_any zeroSt (evs1 false) (.agg #[.int .i64 0, .slice none 0 0, .slice none 0 0, .slice none 0 0]) (.slice (some ⟨w.heap.size + 1, 0, none⟩) 3 3) none_ none_ _ (zeroSt_of _ _) (EvsOf.own (base := 0) (css := [[.int .i64 1, .string ⟨#[106, 111, 98]⟩, .string ⟨#[]⟩, .slice (some ⟨w.heap.size, 0, none⟩) 2 2, .int .i64 0, .slice none 0 0], [.int .i64 4, .string ⟨#[]⟩, .string ⟨#[119]⟩, .slice none 0 0, .int .i64 0, .slice none 0 0], [.int .i64 2, .string ⟨#[109, 48]⟩, .string ⟨#[]⟩, .slice none 0 0, .int .i64 0, .slice none 0 0]]) ow ⟨⟨_, _, rfl, sn, ItemsOf.nil _ _⟩, EvCs.plain _ _ _ _ _ _, EvCs.plain _ _ _ _ _ _, trivial⟩) V.zero ItsOk.zero (evs1_items _) (by decide))
  have K2 := Lib.hid (show Keep none_ w ((w.alloc (.cells #[.string ⟨#[109, 48]⟩, .string ⟨#[109, 49]⟩] 9)).alloc (.cells #[.int .i64 1, .string ⟨#[106, 111, 98]⟩, .string ⟨#[]⟩, .slice (some ⟨w.heap.size, 0, none⟩) 2 2, .int .i64 0, .slice none 0 0, .int .i64 4, .string ⟨#[]⟩, .string ⟨#[119]⟩, .slice none 0 0, .int .i64 0, .slice none 0 0, .int .i64 2, .string ⟨#[109, 48]⟩, .string ⟨#[]⟩, .slice none 0 0, .int .i64 0, .slice none 0 0] 25)) from ((Keep.refl none_ w).alloc _).alloc _)
  clear ow bn sn
  go_enter Tryd.func5, Tryd.ntmps5
  have t1 : True := trivial
  have t2 : True := trivial
  go_upto_region 5 with (first | (have _t := t1; go_at_call 7; refine RN.out.mono ?_; rintro e w4 ⟨v4, vo4, ve4, rfl, h4, o4, e4, k4⟩; rw [He0.out] at h4; have K4 := Lib.hid (K2.out.trans k4); have H4 := Lib.hid h4; obtain ⟨p6, j6, q6, rfl, g1, g2, g3⟩ := h4; obtain ⟨P1, P2, P3, rfl, -⟩ := g1; obtain ⟨P4, P5, P6, rfl, -⟩ := g2; obtain ⟨P7, P8, P9, rfl, -⟩ := g3; obtain ⟨O5, O6, rfl, -⟩ := o4; obtain ⟨X1, X2, rfl, -⟩ := e4; obtain ⟨no, hno⟩ : ∃ no, no = (goO zeroSt (evs1 false)).length := ⟨_, rfl⟩; rw [← hno]; obtain ⟨ne, hne⟩ : ∃ ne, ne = (goE zeroSt (evs1 false)).length := ⟨_, rfl⟩; rw [← hne]; clear hno hne; clear k4 RN K2 _t t1) | (have _t := t2; refine wpList_store_blk rfl 30 (.tmp 7) (.tmp 31) rfl w4.heap.size 30 _ _ rfl rfl (Blk.new _ _ _) rfl (by kernel_rfl) (by simp [Value.oneCell']) ?_; intro w5 bz0 kz0 sz0; have BZ0 := Lib.hid bz0; have KY0 := Lib.hid (((Keep.refl none_ w4).alloc _).own kz0 (Nat.le_refl _)); clear kz0; clear bz0 sz0; go_frame; clear _t t2))
  have H5 := Lib.hid (H4.out.keep KY0.out)
  have K5 := Lib.hid (K4.out.trans KY0.out)
  clear H4 K4
  have ST := Lib.hid (step_any s0 pollW (.agg #[.int .i64 s0.now, .slice P1 P2 P3, .slice P4 P5 P6, .slice P7 P8 P9]) (.agg #[.int .i64 6, .string ⟨#[]⟩, .string ⟨#[119]⟩, .slice none 0 0, .int .i64 0, .slice none 0 0]) none_ none_ w5 H5.out ⟨_, _, rfl, StrsOf.nil _ _, ItemsOf.nil _ _⟩ i0 ItOk.nil)
  have t1 : True := trivial
  have t2 : True := trivial
  have t3 : True := trivial
  go_upto_region 6 with (first | (have _t := t1; refine wpList_load_part 30 (.tmp 7) rfl rfl w4.heap.size 0 rfl #[.int .i64 s0.now, .slice P1 P2 P3, .slice P4 P5 P6, .slice P7 P8 P9] _ BZ0.out.rangeAt Tryd.underlying30 rfl (by kernel_rfl) ?_; go_frame; clear _t t1) | (have _t := t2; go_at_call 8; refine ST.out.mono ?_; rintro e w6 ⟨v6, vo6, rfl, h6, o6, k6⟩; rw [He1.out] at h6; rw [Hf2.out] at o6; rw [Hf1.out]; have KS1 := Lib.hid k6; have H6 := Lib.hid h6; obtain ⟨p6, j6, q6, rfl, g1, g2, g3⟩ := h6; obtain ⟨Q1, Q2, Q3, rfl, -⟩ := g1; obtain ⟨Q4, Q5, Q6, rfl, -⟩ := g2; obtain ⟨Q7, Q8, Q9, rfl, -⟩ := g3; obtain ⟨oa1, oc1, rfl, -⟩ := o6; clear k6 ST _t t2) | (have _t := t3; refine wpList_store_blk rfl 30 (.tmp 10) (.tmp 38) rfl w6.heap.size 30 _ _ rfl rfl (Blk.new _ _ _) rfl (by kernel_rfl) (by simp [Value.oneCell']) ?_; intro w7 bz1 kz1 sz1; have BZ1 := Lib.hid bz1; have KY1 := Lib.hid (((Keep.refl none_ w6).alloc _).own kz1 (Nat.le_refl _)); clear kz1; clear bz1 sz1; go_frame; clear _t t3))
  have H7 := Lib.hid (H6.out.keep KY1.out)
  have K7 := Lib.hid ((K5.out.trans KS1.out).trans KY1.out)
  clear H6 H5 K5 KS1
  have RN := Lib.hid (run_any s1 (evs2 false) (.agg #[.int .i64 s1.now, .slice Q1 Q2 Q3, .slice Q4 Q5 Q6, .slice Q7 Q8 Q9]) (.slice (some ⟨w7.heap.size, 0, none⟩) 2 2) none_ none_ (w7.alloc (.cells #[.int .i64 2, .string ⟨#[109, 49]⟩, .string ⟨#[]⟩, .slice none 0 0, .int .i64 0, .slice none 0 0, .int .i64 6, .string ⟨#[]⟩, .string ⟨#[119]⟩, .slice none 0 0, .int .i64 0, .slice none 0 0] 25)) (H7.out.keep ((Keep.refl none_ w7).alloc _)) (EvsOf.own (base := 0) (css := [[.int .i64 2, .string ⟨#[109, 49]⟩, .string ⟨#[]⟩, .slice none 0 0, .int .i64 0, .slice none 0 0], [.int .i64 6, .string ⟨#[]⟩, .string ⟨#[119]⟩, .slice none 0 0, .int .i64 0, .slice none 0 0]]) (own_events w7 0 2 #[.int .i64 2, .string ⟨#[109, 49]⟩, .string ⟨#[]⟩, .slice none 0 0, .int .i64 0, .slice none 0 0, .int .i64 6, .string ⟨#[]⟩, .string ⟨#[119]⟩, .slice none 0 0, .int .i64 0, .slice none 0 0] (Nat.zero_le _) (by decide) rfl) ⟨EvCs.plain _ _ _ _ _ _, EvCs.plain _ _ _ _ _ _, trivial⟩) v1 i1 (evs2_items _) (by decide))
  have KA := Lib.hid (show Keep none_ w7 (w7.alloc (.cells #[.int .i64 2, .string ⟨#[109, 49]⟩, .string ⟨#[]⟩, .slice none 0 0, .int .i64 0, .slice none 0 0, .int .i64 6, .string ⟨#[]⟩, .string ⟨#[119]⟩, .slice none 0 0, .int .i64 0, .slice none 0 0] 25)) from (Keep.refl none_ w7).alloc _)
  have t1 : True := trivial
  have t2 : True := trivial
  have t3 : True := trivial
  go_upto_region 7 with (first | (have _t := t1; refine wpList_load_part 30 (.tmp 10) rfl rfl w6.heap.size 0 rfl #[.int .i64 s1.now, .slice Q1 Q2 Q3, .slice Q4 Q5 Q6, .slice Q7 Q8 Q9] _ BZ1.out.rangeAt Tryd.underlying30 rfl (by kernel_rfl) ?_; go_frame; clear _t t1) | (have _t := t2; go_at_call 7; refine RN.out.mono ?_; rintro e w8 ⟨v8, vo8, ve8, rfl, h8, o8, e8, k8⟩; rw [He2.out] at h8; rw [Hf3.out] at o8; rw [Hf4.out] at e8; have K8 := Lib.hid ((K7.out.trans KA.out).trans k8); have H8 := Lib.hid h8; obtain ⟨p6, j6, q6, rfl, g1, g2, g3⟩ := h8; obtain ⟨R1, R2, R3, rfl, -⟩ := g1; obtain ⟨R4, R5, R6, rfl, -⟩ := g2; obtain ⟨R7, R8, R9, rfl, -⟩ := g3; obtain ⟨pa, pc, rfl, pr⟩ := o8; obtain ⟨xa, xc, rfl, xr⟩ := e8; have PR := Lib.hid (pr.fresh (fun k h => h) (by decide)); have XR := Lib.hid (xr.fresh (fun k h => h) (by decide)); clear k8 RN pr xr _t t2) | (have _t := t3; refine wpList_store_blk rfl 30 (.tmp 13) (.tmp 48) rfl w8.heap.size 30 _ _ rfl rfl (Blk.new _ _ _) rfl (by kernel_rfl) (by simp [Value.oneCell']) ?_; intro w9 bz2 kz2 sz2; have BZ2 := Lib.hid bz2; have KY2 := Lib.hid (((Keep.refl none_ w8).alloc _).own kz2 (Nat.le_refl _)); clear kz2; clear bz2 sz2; go_frame; clear _t t3))
  have H9 := Lib.hid (H8.out.keep KY2.out)
  have K9 := Lib.hid (K8.out.trans KY2.out)
  have PR9 := Lib.hid (PR.out.keep KY2.out.weak)
  have XR9 := Lib.hid (XR.out.keep KY2.out.weak)
  clear H8 K8 H7 K7 KA PR XR
  obtain ⟨w11, hw11⟩ : ∃ w11, w11 = w9 := ⟨_, rfl⟩
  have e32 : s2 = s3 := He3.out
  subst e32
  have BZ11 := BZ2
  have H11 := H9
  have K11 := K9
  have PR11 := PR9
  have XR11 := XR9
  go_upto_region 9 with (fail)
  rw [← hw11] at BZ11 H11 K11 PR11 XR11 ⊢
  clear hw11
  have ST := Lib.hid (step_any s2 finW (.agg #[.int .i64 s2.now, .slice R1 R2 R3, .slice R4 R5 R6, .slice R7 R8 R9]) (.agg #[.int .i64 7, .string ⟨#[106, 111, 98]⟩, .string ⟨#[119]⟩, .slice none 0 0, .int .i64 0, .slice none 0 0]) none_ none_ w11 H11.out ⟨_, _, rfl, StrsOf.nil _ _, ItemsOf.nil _ _⟩ i3 ItOk.nil)
  have t1 : True := trivial
  have t2 : True := trivial
  have t3 : True := trivial
  go_upto_region 10 with (first | (have _t := t1; refine wpList_load_part 30 (.tmp 13) rfl rfl w8.heap.size 0 rfl #[.int .i64 s2.now, .slice R1 R2 R3, .slice R4 R5 R6, .slice R7 R8 R9] _ BZ11.out.rangeAt Tryd.underlying30 rfl (by kernel_rfl) ?_; go_frame; clear _t t1) | (have _t := t2; go_at_call 8; refine ST.out.mono ?_; rintro e w12 ⟨v12, vo12, rfl, h12, o12, k12⟩; rw [Hf6.out] at o12; rw [Hf5.out]; have KS4 := Lib.hid k12; obtain ⟨p6, j6, q6, rfl, g1, g2, g3⟩ := h12; obtain ⟨U1, U2, U3, rfl, -⟩ := g1; obtain ⟨U4, U5, U6, rfl, -⟩ := g2; obtain ⟨U7, U8, U9, rfl, -⟩ := g3; obtain ⟨qa, qc, rfl, qr⟩ := o12; obtain ⟨z3, hz3⟩ : ∃ z, z = stepS s2 finW := ⟨_, rfl⟩; rw [← hz3]; clear hz3; have QR := Lib.hid qr; clear k12 ST qr _t t2) | (have _t := t3; refine wpList_store_blk rfl 30 (.tmp 16) (.tmp 64) rfl w12.heap.size 30 _ _ rfl rfl (Blk.new _ _ _) rfl (by kernel_rfl) (by simp [Value.oneCell']) ?_; intro w13 bz3 kz3 sz3; have BZ3 := Lib.hid bz3; have KY3 := Lib.hid (((Keep.refl none_ w12).alloc _).own kz3 (Nat.le_refl _)); clear kz3; clear bz3 sz3; go_frame; clear _t t3))
  have KF := Lib.hid ((K11.out.trans KS4.out).trans KY3.out)
  obtain ⟨bp, op_, rfl, -, hpp⟩ := PR11.out.at_ (by decide)
  obtain ⟨bq, oq, rfl, -, hqq⟩ := QR.out.at_ (by decide)
  have cp : w13.cell? ⟨bp, op_, none⟩ = some (.int .i64 1) := (KS4.out.trans KY3.out).cell (hpp 0 (.int .i64 1) rfl) (fun e => e)
  have cq : w13.cell? ⟨bq, oq, none⟩ = some (.int .i64 2) := KY3.out.cell (hqq 0 (.int .i64 2) rfl) (fun e => e)
  have XR13 := Lib.hid (XR11.out.free.keep (KS4.out.trans KY3.out))
  have nr : Row (w13.alloc (.cells #[.int .i64 0, .int .i64 0] 35)) none_ 1 (some ⟨w13.heap.size, 0, none⟩) 2 2 (([0, 0] : List Int).map (Value.int .i64)) := ⟨rfl, Nat.le_refl _, by unfold maxLen; decide, fun _ => ⟨w13.heap.size, 0, rfl, fun e => e, fun j u hu => by rw [Nat.zero_add, (Blk.new w13 35 #[.int .i64 0, .int .i64 0]).cell, List.getElem?_toArray]; exact hu⟩⟩
  have ER := Lib.hid (errnos_any [0, 0] [0, 0] xa (some ⟨w13.heap.size, 0, none⟩) 2 xc 2 2 none_ (w13.alloc (.cells #[.int .i64 0, .int .i64 0] 35)) (XR13.out.keep ((Keep.refl none_ w13).alloc _)) nr)
  have AW := Lib.hid awake_any
  have KA := Lib.hid (show Keep none_ w13 (w13.alloc (.cells #[.int .i64 0, .int .i64 0] 35)) from (Keep.refl none_ w13).alloc _)
  clear nr hpp hqq XR13 PR11 XR11 QR PR9 XR9 BZ11 H11 H9 K9 K11 KS4 KY3 BZ0 BZ1 BZ2 BZ3 KY0 KY1 KY2
  have t1 : True := trivial
  have t2 : True := trivial
  go_wp2_with (first | (have _t := t1; go_at_call 11; refine ER.out.mono ?_; rintro e w14 ⟨rfl, k14⟩; have dp := (KA.out.trans k14).cell cp (fun e => e); have dq := (KA.out.trans k14).cell cq (fun e => e); have K14 := Lib.hid ((KF.out.trans KA.out).trans k14); clear k14 _t t1) | (have _t := t2; go_at_call 9; refine (AW.out w14).mono ?_; rintro e w15 ⟨rfl, k15⟩; have K15 := Lib.hid (K14.out.trans k15); clear k15 _t t2))
  go_ret
  exact ⟨by rfl, K15.out⟩
set_option maxRecDepth 100000 in
set_option maxHeartbeats 1000000 in
theorem watch_ft (w : World) : Calls Tryd.prog 5 #[.bool false, .bool true] w fun e w' => e = .returned (.bool true) ∧ Keep none_ w w' := by
  obtain ⟨s0, s1, s2, s3, e0, e1, e2, e3, f1, f2, f3, f4, f5, f6, v1, i0, i1, i2, i3⟩ := wat_pack false true
  have He0 := Lib.hid e0
  have He1 := Lib.hid e1
  have He2 := Lib.hid e2
  have He3 := Lib.hid e3
  have Hf1 := Lib.hid f1
  have Hf2 := Lib.hid f2
  have Hf3 := Lib.hid f3
  have Hf4 := Lib.hid f4
  have Hf5 := Lib.hid f5
  have Hf6 := Lib.hid f6
  clear e0 e1 e2 e3 f1 f2 f3 f4 f5 f6
  have ze := zero_event
  have zs := zero_state
  have ow := own_events (w.alloc (.cells #[.string ⟨#[109, 48]⟩, .string ⟨#[109, 49]⟩] 9)) 0 3 #[.int .i64 1, .string ⟨#[106, 111, 98]⟩, .string ⟨#[]⟩, .slice (some ⟨w.heap.size, 0, none⟩) 2 2, .int .i64 0, .slice none 0 0, .int .i64 4, .string ⟨#[]⟩, .string ⟨#[119]⟩, .slice none 0 0, .int .i64 0, .slice none 0 0, .int .i64 2, .string ⟨#[109, 48]⟩, .string ⟨#[]⟩, .slice none 0 0, .int .i64 0, .slice none 0 0] (Nat.zero_le _) (by decide) rfl
  simp only [World.size_alloc] at ow
  have bn : Blk ((w.alloc (.cells #[.string ⟨#[109, 48]⟩, .string ⟨#[109, 49]⟩] 9)).alloc (.cells #[.int .i64 1, .string ⟨#[106, 111, 98]⟩, .string ⟨#[]⟩, .slice (some ⟨w.heap.size, 0, none⟩) 2 2, .int .i64 0, .slice none 0 0, .int .i64 4, .string ⟨#[]⟩, .string ⟨#[119]⟩, .slice none 0 0, .int .i64 0, .slice none 0 0, .int .i64 2, .string ⟨#[109, 48]⟩, .string ⟨#[]⟩, .slice none 0 0, .int .i64 0, .slice none 0 0] 25)) w.heap.size 9 #[.string ⟨#[109, 48]⟩, .string ⟨#[109, 49]⟩] := (Blk.new w _ _).alloc _
  have sn : StrsOf ((w.alloc (.cells #[.string ⟨#[109, 48]⟩, .string ⟨#[109, 49]⟩] 9)).alloc (.cells #[.int .i64 1, .string ⟨#[106, 111, 98]⟩, .string ⟨#[]⟩, .slice (some ⟨w.heap.size, 0, none⟩) 2 2, .int .i64 0, .slice none 0 0, .int .i64 4, .string ⟨#[]⟩, .string ⟨#[119]⟩, .slice none 0 0, .int .i64 0, .slice none 0 0, .int .i64 2, .string ⟨#[109, 48]⟩, .string ⟨#[]⟩, .slice none 0 0, .int .i64 0, .slice none 0 0] 25)) none_ (.slice (some ⟨w.heap.size, 0, none⟩) 2 2) [bM0, bM1] := ⟨_, 2, 2, rfl, rfl, Nat.le_refl _, by unfold maxLen; decide, fun _ => ⟨w.heap.size, 0, rfl, fun e => e, fun j u hu => by rw [Nat.zero_add, bn.cell, List.getElem?_toArray]; exact hu⟩⟩
  have RN := Lib.hid (run_any zeroSt (evs1 false) (.agg #[.int .i64 0, .slice none 0 0, .slice none 0 0, .slice none 0 0]) (.slice (some ⟨w.heap.size + 1, 0, none⟩) 3 3) none_ none_ _ (zeroSt_of _ _) (EvsOf.own (base := 0) (css := [[.int .i64 1, .string ⟨#[106, 111, 98]⟩, .string ⟨#[]⟩, .slice (some ⟨w.heap.size, 0, none⟩) 2 2, .int .i64 0, .slice none 0 0], [.int .i64 4, .string ⟨#[]⟩, .string ⟨#[119]⟩, .slice none 0 0, .int .i64 0, .slice none 0 0], [.int .i64 2, .string ⟨#[109, 48]⟩, .string ⟨#[]⟩, .slice none 0 0, .int .i64 0, .slice none 0 0]]) ow ⟨⟨_, _, rfl, sn, ItemsOf.nil _ _⟩, EvCs.plain _ _ _ _ _ _, EvCs.plain _ _ _ _ _ _, trivial⟩) V.zero ItsOk.zero (evs1_items _) (by decide))
  have K2 := Lib.hid (show Keep none_ w ((w.alloc (.cells #[.string ⟨#[109, 48]⟩, .string ⟨#[109, 49]⟩] 9)).alloc (.cells #[.int .i64 1, .string ⟨#[106, 111, 98]⟩, .string ⟨#[]⟩, .slice (some ⟨w.heap.size, 0, none⟩) 2 2, .int .i64 0, .slice none 0 0, .int .i64 4, .string ⟨#[]⟩, .string ⟨#[119]⟩, .slice none 0 0, .int .i64 0, .slice none 0 0, .int .i64 2, .string ⟨#[109, 48]⟩, .string ⟨#[]⟩, .slice none 0 0, .int .i64 0, .slice none 0 0] 25)) from ((Keep.refl none_ w).alloc _).alloc _)
  clear ow bn sn
  go_enter Tryd.func5, Tryd.ntmps5
  have t1 : True := trivial
  have t2 : True := trivial
  go_upto_region 5 with (first | (have _t := t1; go_at_call 7; refine RN.out.mono ?_; rintro e w4 ⟨v4, vo4, ve4, rfl, h4, o4, e4, k4⟩; rw [He0.out] at h4; have K4 := Lib.hid (K2.out.trans k4); have H4 := Lib.hid h4; obtain ⟨p6, j6, q6, rfl, g1, g2, g3⟩ := h4; obtain ⟨P1, P2, P3, rfl, -⟩ := g1; obtain ⟨P4, P5, P6, rfl, -⟩ := g2; obtain ⟨P7, P8, P9, rfl, -⟩ := g3; obtain ⟨O5, O6, rfl, -⟩ := o4; obtain ⟨X1, X2, rfl, -⟩ := e4; obtain ⟨no, hno⟩ : ∃ no, no = (goO zeroSt (evs1 false)).length := ⟨_, rfl⟩; rw [← hno]; obtain ⟨ne, hne⟩ : ∃ ne, ne = (goE zeroSt (evs1 false)).length := ⟨_, rfl⟩; rw [← hne]; clear hno hne; clear k4 RN K2 _t t1) | (have _t := t2; refine wpList_store_blk rfl 30 (.tmp 7) (.tmp 31) rfl w4.heap.size 30 _ _ rfl rfl (Blk.new _ _ _) rfl (by kernel_rfl) (by simp [Value.oneCell']) ?_; intro w5 bz0 kz0 sz0; have BZ0 := Lib.hid bz0; have KY0 := Lib.hid (((Keep.refl none_ w4).alloc _).own kz0 (Nat.le_refl _)); clear kz0; clear bz0 sz0; go_frame; clear _t t2))
  have H5 := Lib.hid (H4.out.keep KY0.out)
  have K5 := Lib.hid (K4.out.trans KY0.out)
  clear H4 K4
  have ST := Lib.hid (step_any s0 pollW (.agg #[.int .i64 s0.now, .slice P1 P2 P3, .slice P4 P5 P6, .slice P7 P8 P9]) (.agg #[.int .i64 6, .string ⟨#[]⟩, .string ⟨#[119]⟩, .slice none 0 0, .int .i64 0, .slice none 0 0]) none_ none_ w5 H5.out ⟨_, _, rfl, StrsOf.nil _ _, ItemsOf.nil _ _⟩ i0 ItOk.nil)
  have t1 : True := trivial
  have t2 : True := trivial
  have t3 : True := trivial
  go_upto_region 6 with (first | (have _t := t1; refine wpList_load_part 30 (.tmp 7) rfl rfl w4.heap.size 0 rfl #[.int .i64 s0.now, .slice P1 P2 P3, .slice P4 P5 P6, .slice P7 P8 P9] _ BZ0.out.rangeAt Tryd.underlying30 rfl (by kernel_rfl) ?_; go_frame; clear _t t1) | (have _t := t2; go_at_call 8; refine ST.out.mono ?_; rintro e w6 ⟨v6, vo6, rfl, h6, o6, k6⟩; rw [He1.out] at h6; rw [Hf2.out] at o6; rw [Hf1.out]; have KS1 := Lib.hid k6; have H6 := Lib.hid h6; obtain ⟨p6, j6, q6, rfl, g1, g2, g3⟩ := h6; obtain ⟨Q1, Q2, Q3, rfl, -⟩ := g1; obtain ⟨Q4, Q5, Q6, rfl, -⟩ := g2; obtain ⟨Q7, Q8, Q9, rfl, -⟩ := g3; obtain ⟨oa1, oc1, rfl, -⟩ := o6; clear k6 ST _t t2) | (have _t := t3; refine wpList_store_blk rfl 30 (.tmp 10) (.tmp 38) rfl w6.heap.size 30 _ _ rfl rfl (Blk.new _ _ _) rfl (by kernel_rfl) (by simp [Value.oneCell']) ?_; intro w7 bz1 kz1 sz1; have BZ1 := Lib.hid bz1; have KY1 := Lib.hid (((Keep.refl none_ w6).alloc _).own kz1 (Nat.le_refl _)); clear kz1; clear bz1 sz1; go_frame; clear _t t3))
  have H7 := Lib.hid (H6.out.keep KY1.out)
  have K7 := Lib.hid ((K5.out.trans KS1.out).trans KY1.out)
  clear H6 H5 K5 KS1
  have RN := Lib.hid (run_any s1 (evs2 false) (.agg #[.int .i64 s1.now, .slice Q1 Q2 Q3, .slice Q4 Q5 Q6, .slice Q7 Q8 Q9]) (.slice (some ⟨w7.heap.size, 0, none⟩) 2 2) none_ none_ (w7.alloc (.cells #[.int .i64 2, .string ⟨#[109, 49]⟩, .string ⟨#[]⟩, .slice none 0 0, .int .i64 0, .slice none 0 0, .int .i64 6, .string ⟨#[]⟩, .string ⟨#[119]⟩, .slice none 0 0, .int .i64 0, .slice none 0 0] 25)) (H7.out.keep ((Keep.refl none_ w7).alloc _)) (EvsOf.own (base := 0) (css := [[.int .i64 2, .string ⟨#[109, 49]⟩, .string ⟨#[]⟩, .slice none 0 0, .int .i64 0, .slice none 0 0], [.int .i64 6, .string ⟨#[]⟩, .string ⟨#[119]⟩, .slice none 0 0, .int .i64 0, .slice none 0 0]]) (own_events w7 0 2 #[.int .i64 2, .string ⟨#[109, 49]⟩, .string ⟨#[]⟩, .slice none 0 0, .int .i64 0, .slice none 0 0, .int .i64 6, .string ⟨#[]⟩, .string ⟨#[119]⟩, .slice none 0 0, .int .i64 0, .slice none 0 0] (Nat.zero_le _) (by decide) rfl) ⟨EvCs.plain _ _ _ _ _ _, EvCs.plain _ _ _ _ _ _, trivial⟩) v1 i1 (evs2_items _) (by decide))
  have KA := Lib.hid (show Keep none_ w7 (w7.alloc (.cells #[.int .i64 2, .string ⟨#[109, 49]⟩, .string ⟨#[]⟩, .slice none 0 0, .int .i64 0, .slice none 0 0, .int .i64 6, .string ⟨#[]⟩, .string ⟨#[119]⟩, .slice none 0 0, .int .i64 0, .slice none 0 0] 25)) from (Keep.refl none_ w7).alloc _)
  have t1 : True := trivial
  have t2 : True := trivial
  have t3 : True := trivial
  go_upto_region 7 with (first | (have _t := t1; refine wpList_load_part 30 (.tmp 10) rfl rfl w6.heap.size 0 rfl #[.int .i64 s1.now, .slice Q1 Q2 Q3, .slice Q4 Q5 Q6, .slice Q7 Q8 Q9] _ BZ1.out.rangeAt Tryd.underlying30 rfl (by kernel_rfl) ?_; go_frame; clear _t t1) | (have _t := t2; go_at_call 7; refine RN.out.mono ?_; rintro e w8 ⟨v8, vo8, ve8, rfl, h8, o8, e8, k8⟩; rw [He2.out] at h8; rw [Hf3.out] at o8; rw [Hf4.out] at e8; have K8 := Lib.hid ((K7.out.trans KA.out).trans k8); have H8 := Lib.hid h8; obtain ⟨p6, j6, q6, rfl, g1, g2, g3⟩ := h8; obtain ⟨R1, R2, R3, rfl, -⟩ := g1; obtain ⟨R4, R5, R6, rfl, -⟩ := g2; obtain ⟨R7, R8, R9, rfl, -⟩ := g3; obtain ⟨pa, pc, rfl, pr⟩ := o8; obtain ⟨xa, xc, rfl, xr⟩ := e8; have PR := Lib.hid (pr.fresh (fun k h => h) (by decide)); have XR := Lib.hid (xr.fresh (fun k h => h) (by decide)); clear k8 RN pr xr _t t2) | (have _t := t3; refine wpList_store_blk rfl 30 (.tmp 13) (.tmp 48) rfl w8.heap.size 30 _ _ rfl rfl (Blk.new _ _ _) rfl (by kernel_rfl) (by simp [Value.oneCell']) ?_; intro w9 bz2 kz2 sz2; have BZ2 := Lib.hid bz2; have KY2 := Lib.hid (((Keep.refl none_ w8).alloc _).own kz2 (Nat.le_refl _)); clear kz2; clear bz2 sz2; go_frame; clear _t t3))
  have H9 := Lib.hid (H8.out.keep KY2.out)
  have K9 := Lib.hid (K8.out.trans KY2.out)
  have PR9 := Lib.hid (PR.out.keep KY2.out.weak)
  have XR9 := Lib.hid (XR.out.keep KY2.out.weak)
  have KW8 := Lib.hid K8.out.size
  clear H8 K8 H7 K7 KA PR XR
  have ST := Lib.hid (step_new s2 (leaveA false) (.agg #[.int .i64 s2.now, .slice R1 R2 R3, .slice R4 R5 R6, .slice R7 R8 R9]) (.agg #[.int .i64 3, .string ⟨#[109, 48]⟩, .string ⟨#[]⟩, .slice none 0 0, .int .i64 0, .slice none 0 0]) none_ none_ w9 H9.out ⟨_, _, rfl, StrsOf.nil _ _, ItemsOf.nil _ _⟩ i2 ItOk.nil)
  have t1 : True := trivial
  have t2 : True := trivial
  have t3 : True := trivial
  have lz := BZ2.out.lt
  go_upto_region 9 with (first | (have _t := t1; refine wpList_load_part 30 (.tmp 13) rfl rfl w8.heap.size 0 rfl #[.int .i64 s2.now, .slice R1 R2 R3, .slice R4 R5 R6, .slice R7 R8 R9] _ BZ2.out.rangeAt Tryd.underlying30 rfl (by kernel_rfl) ?_; go_frame; clear _t t1) | (have _t := t2; go_at_call 8; refine ST.out.mono ?_; rintro e w10 ⟨v10, vo10, rfl, h10, o10, k10⟩; rw [show stepS s2 (leaveA false) = s3 from He3.out] at h10; have BZ10 := Lib.hid (BZ2.out.keep k10 (fun e => e)); have KS3 := Lib.hid k10; have H10 := Lib.hid h10; obtain ⟨p6, j6, q6, rfl, g1, g2, g3⟩ := h10; obtain ⟨T1, T2, T3, rfl, -⟩ := g1; obtain ⟨T4, T5, T6, rfl, -⟩ := g2; obtain ⟨T7, T8, T9, rfl, -⟩ := g3; obtain ⟨oa4, oc4, rfl, -⟩ := o10; obtain ⟨no, hno⟩ : ∃ no, no = (stepO s2 (leaveA false)).length := ⟨_, rfl⟩; rw [← hno]; obtain ⟨ne, hne⟩ : ∃ ne, ne = stepE s2 (leaveA false) := ⟨_, rfl⟩; rw [← hne]; clear hno hne; clear k10 ST _t t2) | (have _t := t3; refine wpList_store_blk rfl 30 (.tmp 13) (.tmp 57) rfl w8.heap.size 30 _ _ rfl rfl BZ10.out rfl (by kernel_rfl) (by simp [Value.oneCell']) ?_; intro w11 bz11 kz11 sz11; have BZ11 := Lib.hid bz11; have KZ11 := Lib.hid kz11; clear bz11 kz11 sz11; go_frame; clear _t t3))
  have H11 := Lib.hid (show StateOf w11 none_ (.agg #[.int .i64 s3.now, .slice T1 T2 T3, .slice T4 T5 T6, .slice T7 T8 T9]) s3 from (H10.out.keep (KZ11.out.mono (fun x e => by unfold one at e; unfold bel; omega))).sub (fun _ e => e.elim))
  have PR11 := Lib.hid ((PR9.out.keep KS3.out.weak).keep (KZ11.out.mono (fun x e => by unfold one at e; omega)))
  have XR11 := Lib.hid ((XR9.out.keep KS3.out.weak).keep (KZ11.out.mono (fun x e => by unfold one at e; omega)))
  have lw8 : w.heap.size ≤ w8.heap.size := KW8.out
  have K11 := Lib.hid ((K9.out.trans KS3.out).own KZ11.out lw8)
  have ST := Lib.hid (step_any s3 finW (.agg #[.int .i64 s3.now, .slice T1 T2 T3, .slice T4 T5 T6, .slice T7 T8 T9]) (.agg #[.int .i64 7, .string ⟨#[106, 111, 98]⟩, .string ⟨#[119]⟩, .slice none 0 0, .int .i64 0, .slice none 0 0]) none_ none_ w11 H11.out ⟨_, _, rfl, StrsOf.nil _ _, ItemsOf.nil _ _⟩ i3 ItOk.nil)
  have t1 : True := trivial
  have t2 : True := trivial
  have t3 : True := trivial
  go_upto_region 10 with (first | (have _t := t1; refine wpList_load_part 30 (.tmp 13) rfl rfl w8.heap.size 0 rfl #[.int .i64 s3.now, .slice T1 T2 T3, .slice T4 T5 T6, .slice T7 T8 T9] _ BZ11.out.rangeAt Tryd.underlying30 rfl (by kernel_rfl) ?_; go_frame; clear _t t1) | (have _t := t2; go_at_call 8; refine ST.out.mono ?_; rintro e w12 ⟨v12, vo12, rfl, h12, o12, k12⟩; rw [Hf6.out] at o12; rw [Hf5.out]; have KS4 := Lib.hid k12; obtain ⟨p6, j6, q6, rfl, g1, g2, g3⟩ := h12; obtain ⟨U1, U2, U3, rfl, -⟩ := g1; obtain ⟨U4, U5, U6, rfl, -⟩ := g2; obtain ⟨U7, U8, U9, rfl, -⟩ := g3; obtain ⟨qa, qc, rfl, qr⟩ := o12; obtain ⟨z3, hz3⟩ : ∃ z, z = stepS s3 finW := ⟨_, rfl⟩; rw [← hz3]; clear hz3; have QR := Lib.hid qr; clear k12 ST qr _t t2) | (have _t := t3; refine wpList_store_blk rfl 30 (.tmp 16) (.tmp 64) rfl w12.heap.size 30 _ _ rfl rfl (Blk.new _ _ _) rfl (by kernel_rfl) (by simp [Value.oneCell']) ?_; intro w13 bz3 kz3 sz3; have BZ3 := Lib.hid bz3; have KY3 := Lib.hid (((Keep.refl none_ w12).alloc _).own kz3 (Nat.le_refl _)); clear kz3; clear bz3 sz3; go_frame; clear _t t3))
  have KF := Lib.hid ((K11.out.trans KS4.out).trans KY3.out)
  obtain ⟨bp, op_, rfl, -, hpp⟩ := PR11.out.at_ (by decide)
  obtain ⟨bq, oq, rfl, -, hqq⟩ := QR.out.at_ (by decide)
  have cp : w13.cell? ⟨bp, op_, none⟩ = some (.int .i64 1) := (KS4.out.trans KY3.out).cell (hpp 0 (.int .i64 1) rfl) (fun e => e)
  have cq : w13.cell? ⟨bq, oq, none⟩ = some (.int .i64 2) := KY3.out.cell (hqq 0 (.int .i64 2) rfl) (fun e => e)
  have XR13 := Lib.hid (XR11.out.free.keep (KS4.out.trans KY3.out))
  have nr : Row (w13.alloc (.cells #[.int .i64 0, .int .i64 0] 35)) none_ 1 (some ⟨w13.heap.size, 0, none⟩) 2 2 (([0, 0] : List Int).map (Value.int .i64)) := ⟨rfl, Nat.le_refl _, by unfold maxLen; decide, fun _ => ⟨w13.heap.size, 0, rfl, fun e => e, fun j u hu => by rw [Nat.zero_add, (Blk.new w13 35 #[.int .i64 0, .int .i64 0]).cell, List.getElem?_toArray]; exact hu⟩⟩
  have ER := Lib.hid (errnos_any [0, 0] [0, 0] xa (some ⟨w13.heap.size, 0, none⟩) 2 xc 2 2 none_ (w13.alloc (.cells #[.int .i64 0, .int .i64 0] 35)) (XR13.out.keep ((Keep.refl none_ w13).alloc _)) nr)
  have AW := Lib.hid awake_any
  have KA := Lib.hid (show Keep none_ w13 (w13.alloc (.cells #[.int .i64 0, .int .i64 0] 35)) from (Keep.refl none_ w13).alloc _)
  clear nr hpp hqq XR13 PR11 XR11 QR PR9 XR9 BZ11 H11 H9 K9 K11 KS4 KY3 BZ0 BZ1 BZ2 BZ3 KY0 KY1 KY2
  have t1 : True := trivial
  have t2 : True := trivial
  go_wp2_with (first | (have _t := t1; go_at_call 11; refine ER.out.mono ?_; rintro e w14 ⟨rfl, k14⟩; have dp := (KA.out.trans k14).cell cp (fun e => e); have dq := (KA.out.trans k14).cell cq (fun e => e); have K14 := Lib.hid ((KF.out.trans KA.out).trans k14); clear k14 _t t1) | (have _t := t2; go_at_call 9; refine (AW.out w14).mono ?_; rintro e w15 ⟨rfl, k15⟩; have K15 := Lib.hid (K14.out.trans k15); clear k15 _t t2))
  go_ret
  exact ⟨by rfl, K15.out⟩
end Go.Proofs.YtnefbeplgfdkkaaDoor
