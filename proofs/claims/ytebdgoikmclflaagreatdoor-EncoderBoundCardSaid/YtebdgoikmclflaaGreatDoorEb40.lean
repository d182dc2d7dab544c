/-
  Regions that draw their order, in which some blocks are written: one list of facts and a fact that stays.
-/
import Derived.Test.YtebdgoikmclflaaGreatDoorEb39
namespace Go.Proofs.YtebdgoikmclflaaGreatDoor
open Go.RowKit

structure PfS (S : Nat → Prop) where
  k : Nat
  X : List Value → Value → World → Prop
  st : ∀ vs v w w', X vs v w → Keep S w w' → X vs v w'
def pfsAt {S : Nat → Prop} : List (PfS S) → Nat → List Value → Value → World → Prop
  | [], _ => fun _ _ _ => True
  | p :: r, k => if p.k = k then p.X else pfsAt r k
theorem pfsAt_keep {S : Nat → Prop} : ∀ (L : List (PfS S)) (k : Nat) (vs : List Value) (v : Value) (w w' : World), pfsAt L k vs v w → Keep S w w' → pfsAt L k vs v w'
  | [], _, _, _, _, _, _, _ => trivial
  | p :: r, k, vs, v, w, w', h, hk => by
    unfold pfsAt at h ⊢
    split at h
    · rename_i e; rw [if_pos e]; exact p.st _ _ _ _ h hk
    · rename_i e; rw [if_neg e]; exact pfsAt_keep r k vs v w w' h hk
def genCalm (wr : World) (S : Nat → Prop) (F : World → Prop) (A : Nat → List Nat) (L : List (PfS S)) : Calm where
  R := fun _ => Keep S
  G := fun _ w => Keep S wr w ∧ F w
  eff := L.map (·.k)
  T := fun k vs v w => pfsAt L k vs v w
  anc := A
  own := fun _ _ _ => False
theorem genCalm_good (wr : World) (S : Nat → Prop) (F : World → Prop) (A : Nat → List Nat) (L : List (PfS S)) : (genCalm wr S F A L).Good :=
  ⟨fun _ _ h => h, fun _ _ _ h => h.size, fun _ _ _ _ _ _ _ _ h k => pfsAt_keep _ _ _ _ _ _ h k⟩
theorem genCalm_at {wr : World} {S : Nat → Prop} {F : World → Prop} {A : Nat → List Nat} {L : List (PfS S)} (x : (genCalm wr S F A L).Sub) : Keep S wr ((genCalm wr S F A L).at_ x) := by
  obtain ⟨x, n, _, h⟩ := x
  exact h.1
theorem genCalm_F {wr : World} {S : Nat → Prop} {F : World → Prop} {A : Nat → List Nat} {L : List (PfS S)} (x : (genCalm wr S F A L).Sub) : F ((genCalm wr S F A L).at_ x) := by
  obtain ⟨x, n, _, h⟩ := x
  exact h.2
theorem genCalm_some (wr : World) (S : Nat → Prop) (F : World → Prop) (A : Nat → List Nat) (L : List (PfS S)) (h : F wr) : Nonempty (genCalm wr S F A L).Sub := ⟨⟨wr, 0, Nat.zero_le _, Keep.refl _ _, h⟩⟩
theorem FrE.keepS {lo : Nat} {z : Int} {v : Value} {w w' : World} {S : Nat → Prop} (h : FrE lo z v w) (k : Keep S w w') (hS : ∀ b, lo ≤ b → ¬ S b) : FrE lo z v w' := by
  obtain ⟨d1, d2, d3, e, n⟩ := h
  exact ⟨d1, d2, d3, e, n.keep k (hS _ n.l1) (hS _ n.l2) (hS _ n.l3)⟩
theorem FrT.keepS {lo : Nat} {z : Int} {v : Value} {w w' : World} {S : Nat → Prop} (h : FrT lo z v w) (k : Keep S w w') (hS : ∀ b, lo ≤ b → ¬ S b) : FrT lo z v w' := by
  obtain ⟨d1, d2, d3, e, n⟩ := h
  exact ⟨d1, d2, d3, e, n.keep k (hS _ n.l1) (hS _ n.l2) (hS _ n.l3)⟩
end Go.Proofs.YtebdgoikmclflaaGreatDoor
/-
  The coder's intra and choose.
-/
namespace Go.Proofs.YtebdgoikmclflaaGreatDoor
open Go.RowKit
theorem mb0_size : mb0.size = 408 := by kernel_rfl
set_option maxRecDepth 100000 in
set_option maxHeartbeats 8000000 in
theorem intra_any (gc : Nat) (A1 A2 A3 : Option Addr) (c1 c2 c3 b1 b2 b3 : Nat) (res : List Value) (w : World) (hc : Blk w gc 67 (cdV (srV A1 A2 A3 c1 c2 c3) res)) (hb : NewFr w 0 128 b1 b2 b3) : Calls Tryz.prog 89 #[.pointer (some ⟨gc, 0, none⟩), .agg (frV b1 b2 b3)] w fun e w' => e = .returned (.agg mbV) ∧ Keep none_ w w' := by
  obtain ⟨zc, ze, sz⟩ : ∃ zc : Array Value, (∀ w, (zeroValue 102).run Tryz.prog w = .ok (.agg zc) w) ∧ zc.size = 408 := ⟨mb0, fun w => by kernel_rfl, by kernel_rfl⟩
  have SZ := Lib.hid sz
  clear sz
  obtain ⟨W0, hW0⟩ : ∃ W0, W0 = (w.alloc (.cells (frV b1 b2 b3) 32)).alloc (.cells zc 102) := ⟨_, rfl⟩
  obtain ⟨x0, r0, k0⟩ := two (Keep.eq_ hW0)
  have X0 := Lib.hid x0
  have R0 := Lib.hid r0
  have C0 := Lib.hid (hc.keep k0 (fun e => e))
  have HB0 := Lib.hid (hb.keep0 k0)
  have K0 := Lib.hid k0
  have LW := Lib.hid (show w.heap.size + 1 < W0.heap.size from (show Blk _ _ _ _ from r0).lt)
  clear x0 r0 k0 hc hb
  go_enter Tryz.func89, Tryz.ntmps89
  go_upto_region 1 with (fail)
  rw [← hW0]
  clear hW0
  have tk1 : True := trivial
  have tk2 : True := trivial
  go_upto_region 2 with (first | (have _t := tk1; refine wpList_build_is 102 _ rfl rfl mb1 (by kernel_rfl) ?_; go_frame; clear _t tk1) | (have _t := tk2; refine wpList_store_blk rfl 102 (.tmp 5) (.tmp 6) rfl (W0.heap.size) 102 _ (mb1) rfl rfl (Blk.new _ _ _) (by rw [SZ.out, mb1_size]) (by rw [mb1_size]; kernel_rfl) (by kernel_rfl) ?_; intro w1 B1_ K1_ sz_; have B1 := Lib.hid B1_; have K1 := Lib.hid K1_; clear B1_ K1_ sz_; go_frame; clear _t tk2))
  have K1' := Lib.hid (show Keep none_ W0 w1 from ((Keep.refl none_ W0).alloc _).own K1.out (Nat.le_refl _))
  obtain ⟨gm, hgm⟩ : ∃ gm, gm = W0.heap.size := ⟨_, rfl⟩
  have LG := Lib.hid (show w.heap.size + 1 < gm from hgm ▸ LW.out)
  rw [← hgm] at B1 ⊢
  clear hgm K1
  have X1 := Lib.hid (X0.out.keep K1'.out (fun e => e))
  have R1 := Lib.hid (R0.out.keep K1'.out (fun e => e))
  have C1 := Lib.hid (C0.out.keep K1'.out (fun e => e))
  have HB1 := Lib.hid (HB0.out.keep0 K1'.out)
  have LM := Lib.hid B1.out.lt
  have OG := Lib.hid (show ∀ b, w1.heap.size ≤ b → ¬ one gm b from fun b h e => by have := LM.out; unfold one at e; omega)
  have OL := Lib.hid (show ∀ b, b < gm → ¬ one gm b from fun b h e => by unfold one at e; omega)
  have OC := Lib.hid (show ¬ one gm gc from fun e => Blk.ne_ C1.out B1.out (by decide) e)
  have FK : ∀ w w' : World, Blk w gm 102 mb1 → Keep none_ w w' → Blk w' gm 102 mb1 := fun _ _ h k => h.keep k (fun e => e)
  have F0 := B1.out
  have FD := F0.drew
  have MS := Lib.hid M16_size
  obtain ⟨X2, S2, H2⟩ : ∃ X : List Value → Value → World → Prop, (∀ vs v w w', X vs v w → Keep (one gm) w w' → X vs v w') ∧ ∀ vs v w, X vs v w ↔ (FrE w1.heap.size 128 v w) := ⟨fun vs v w => FrE w1.heap.size 128 v w, fun vs v w w' h k => by first | exact h | exact FrE.keepS h k OG.out, fun _ _ _ => Iff.rfl⟩
  obtain ⟨X11, S11, H11⟩ : ∃ X : List Value → Value → World → Prop, (∀ vs v w w', X vs v w → Keep (one gm) w w' → X vs v w') ∧ ∀ vs v w, X vs v w ↔ (v = .bool false) := ⟨fun vs v w => v = .bool false, fun vs v w w' h k => by first | exact h | exact h, fun _ _ _ => Iff.rfl⟩
  obtain ⟨X5, S5, H5⟩ : ∃ X : List Value → Value → World → Prop, (∀ vs v w w', X vs v w → Keep (one gm) w w' → X vs v w') ∧ ∀ vs v w, X vs v w ↔ (vs[0]? = some v) := ⟨fun vs v w => vs[0]? = some v, fun vs v w w' h k => by first | exact h | exact h, fun _ _ _ => Iff.rfl⟩
  have gd := genCalm_good (w1) (one gm) (fun w => Blk w gm 102 mb1) (fun k => if k = 5 then [2] else if k = 11 then [2] else []) [⟨2, X2, S2⟩, ⟨11, X11, S11⟩, ⟨5, X5, S5⟩]
  have ne := genCalm_some (w1) (one gm) (fun w => Blk w gm 102 mb1) (fun k => if k = 5 then [2] else if k = 11 then [2] else []) [⟨2, X2, S2⟩, ⟨11, X11, S11⟩, ⟨5, X5, S5⟩] F0
  refine wp_region_calm (genCalm (w1) (one gm) (fun w => Blk w gm 102 mb1) (fun k => if k = 5 then [2] else if k = 11 then [2] else []) [⟨2, X2, S2⟩, ⟨11, X11, S11⟩, ⟨5, X5, S5⟩]) [0, 1, 2, 3, 4, 5, 6, 7, 8, 9, 10, 11] [] 22 (by kernel_rfl) (by kernel_rfl) rfl gd ⟨(Keep.refl _ _).drew, FD⟩ ?_
  simp only [pairs, List.filterMap_cons, List.filterMap_nil, List.getElem?_toArray, List.getElem?_cons_succ, List.getElem?_cons_zero, Option.map_some]
  repeat (refine Calm.walk_quiet ne rfl rfl rfl (fun K hK => ?_); go_big_quiet_op; refine hK _ ?_; clear hK K)
  refine Calm.walk_load 32 (.tmp 3) rfl ne rfl rfl (w.heap.size) (0) rfl (frV b1 b2 b3) _ (fun y => by have k_ := genCalm_at y; have fF := genCalm_F y; exact (X1.out.keep k_ (OL.out _ (by have := LG.out; omega))).rangeAt) Tryz.underlying32 rfl (by kernel_rfl) ?_
  go_frame
  refine Calm.walk_eff rfl rfl (fun n wy _ hR hA => ?_) ?_
  · have kR : Keep (one gm) (w1) wy := hR.1; have fR := hR.2
    unfold gives
    go_simp
    refine (pflat_any 128 (by decide) wy).mono ?_
    rintro e wz ⟨d1, d2, d3, rfl, hn, hk⟩
    exact ⟨_, rfl, (H2 _ _ _).2 (⟨d1, d2, d3, rfl, hn.low kR.size⟩), hk.weak, ⟨kR.trans hk.weak, FK _ _ fR hk⟩, fun _ h => h.elim⟩
  intro v wy hv
  obtain ⟨d1, d2, d3, rfl, -⟩ : FrE w1.heap.size 128 v wy := (H2 _ _ _).1 hv
  clear hv
  clear wy
  go_frame
  repeat (refine Calm.walk_quiet ne rfl rfl rfl (fun K hK => ?_); go_big_quiet_op; refine hK _ ?_; clear hK K)
  refine Calm.walk_eff rfl rfl (fun n wy _ hR hA => ?_) ?_
  · have kR : Keep (one gm) (w1) wy := hR.1; have fR := hR.2
    have AF2 := (H2 _ _ _).1 (show X2 _ _ wy from (hA 2 (by simp [genCalm]) _ rfl ⟨rfl, rfl⟩).1)
    unfold gives
    go_simp
    refine (mustFr (frV d1 d2 d3) rfl (by kernel_rfl) wy).mono ?_
    rintro e wz ⟨rfl, hk⟩
    exact ⟨_, rfl, (H5 _ _ _).2 (rfl), hk.weak, ⟨kR.trans hk.weak, FK _ _ fR hk⟩, fun _ h => h.elim⟩
  intro v wy hv
  obtain rfl : v = .agg (frV d1 d2 d3) := (Option.some.inj (show some (.agg (frV d1 d2 d3)) = some v from (H5 _ _ _).1 hv)).symm
  clear hv
  clear wy
  go_frame
  repeat (refine Calm.walk_quiet ne rfl rfl rfl (fun K hK => ?_); go_big_quiet_op; refine hK _ ?_; clear hK K)
  refine Calm.walk_load 24 (.tmp 16) rfl ne rfl rfl (gc) (11) rfl (M16) _ (fun y => by have k_ := genCalm_at y; have fF := genCalm_F y; exact (C1.out.keep k_ OC.out).sub 11 M16.toList (by kernel_rfl)) Tryz.underlying24 rfl (by rw [MS.out]; kernel_rfl) ?_
  go_frame
  refine Calm.walk_eff rfl rfl (fun n wy _ hR hA => ?_) ?_
  · have kR : Keep (one gm) (w1) wy := hR.1; have fR := hR.2
    have AF2 := (H2 _ _ _).1 (show X2 _ _ wy from (hA 2 (by simp [genCalm]) _ rfl ⟨rfl, rfl⟩).1)
    unfold gives
    go_simp
    refine (addLevels_any gc gm A1 A2 A3 c1 c2 c3 b1 b2 b3 d1 d2 d3 res wy (C1.out.keep kR OC.out) fR (HB1.out.past F0 kR) ((FrE.out_ (show FrE w1.heap.size 128 (.tuple #[.agg (frV d1 d2 d3), .int .i64 0]) wy from AF2)).low (Nat.zero_le _))).mono ?_
    rintro e wz ⟨rfl, hb, hk⟩
    exact ⟨_, rfl, (H11 _ _ _).2 (rfl), hk, ⟨kR.trans hk, hb⟩, fun _ h => h.elim⟩
  intro v wy hv
  obtain rfl : v = .bool false := (H11 _ _ _).1 hv
  clear hv
  clear wy
  go_frame
  intro w2 hG hD
  have K2 := Lib.hid (show Keep (one gm) (w1) w2 from hG.1)
  have FK2 := Lib.hid (show (fun w => Blk w gm 102 mb1) w2 from hG.2)
  have T2 := Lib.hid ((H2 _ _ _).1 (show X2 _ _ w2 from (hD.1 2 rfl _ rfl ⟨rfl, rfl⟩).1))
  clear hG hD gd ne 
  clear H2 H11 H5
  clear S2 S11 S5
  clear X2 X11 X5
  simp only [pickOps, List.filterMap_nil]
  have X2 := Lib.hid (X1.out.keep K2.out (OL.out _ (by have := LG.out; omega)))
  have R2 := Lib.hid (R1.out.keep K2.out (OL.out _ LG.out))
  have FK2' := Lib.hid (show Blk w2 gm 102 mb1 from FK2.out)
  clear T2 FK F0 FD FK2 X1 X0 R1 R0 C0 C1 HB0 HB1
  go_upto_region 3 with (fail)
  have tk3 : True := trivial
  have tk4 : True := trivial
  go_upto_region 4 with (first | (have _t := tk3; refine wpList_build_is 98 _ rfl rfl six (by kernel_rfl) ?_; go_frame; clear _t tk3) | (have _t := tk4; refine wpList_store_part rfl 98 (.tmp 20) (.tmp 19) rfl gm 18 102 mb1 six rfl rfl FK2'.out (by rw [mb1_size]; show 18 + 6 ≤ 408; decide) (by kernel_rfl) (by kernel_rfl) ?_; intro w3 b3_ k3_ s3_; have B3 := Lib.hid (show Blk w3 gm 102 mbV from by rw [show laid mb1 18 six.toList = mbV from by kernel_rfl] at b3_; exact b3_); have K3 := Lib.hid k3_; clear b3_ k3_ s3_; go_frame; clear _t tk4))
  have R3 := Lib.hid (R2.out.keep K3.out (OL.out _ LG.out))
  have tk5 : True := trivial
  have tk6 : True := trivial
  go_wp2_with (first | (have _t := tk5; refine wpList_load_part 102 (.tmp 5) rfl rfl (gm) (0) rfl (mbV) _ (B3.out.rangeAt) Tryz.underlying102 rfl (by rw [mbV_size]; kernel_rfl) ?_; go_frame; clear _t tk5) | (have _t := tk6; refine wpList_store_blk rfl 102 (.tmp 4) (.tmp 21) rfl (w.heap.size + 1) 102 _ (mbV) rfl rfl (R3.out) (by rw [SZ.out, mbV_size]) (by rw [mbV_size]; kernel_rfl) (by kernel_rfl) ?_; intro w4 B4_ K4_ sz_; have B4 := Lib.hid B4_; have K4 := Lib.hid K4_; clear B4_ K4_ sz_; go_frame; clear _t tk6))
  have kk : Keep none_ w w4 := (((K0.out.trans K1'.out).then K2.out (fun b e => .inr (by unfold one at e; have := LG.out; omega))).own K3.out (by have := LG.out; omega)).own K4.out (by omega)
  refine bodyPost_ret (results_cell Tryz.results89 rfl (run_loadVar_blk B4.out Tryz.underlying102 rfl (by rw [mbV_size]; kernel_rfl))) rfl ⟨rfl, kk⟩
set_option maxRecDepth 100000 in
set_option maxHeartbeats 8000000 in
theorem choose_any (gc : Nat) (A1 A2 A3 : Option Addr) (c1 c2 c3 : Nat) (res : List Value) (w : World) (hc : Blk w gc 67 (cdV (srV A1 A2 A3 c1 c2 c3) res)) (hs : FrC w 128 A1 A2 A3 c1 c2 c3) : Calls Tryz.prog 56 #[.pointer (some ⟨gc, 0, none⟩), .int .i64 0, .int .i64 0, .agg stV] w fun e w' => ∃ m : Nat, e = .returned (.agg (chV m)) ∧ Keep none_ w w' := by
  obtain ⟨zc, ze, sz⟩ : ∃ zc : Array Value, (∀ w, (zeroValue 116).run Tryz.prog w = .ok (.agg zc) w) ∧ zc.size = 417 := ⟨ch0, fun w => by kernel_rfl, by kernel_rfl⟩
  have SZ := Lib.hid sz
  clear sz
  obtain ⟨W0, hW0⟩ : ∃ W0, W0 = (w.alloc (.cells stV 113)).alloc (.cells zc 116) := ⟨_, rfl⟩
  obtain ⟨x0, r0, k0⟩ := two (Keep.eq_ hW0)
  have X0 := Lib.hid x0
  have R0 := Lib.hid r0
  have C0 := Lib.hid (hc.keep k0 (fun e => e))
  have HS0 := Lib.hid (hs.keep k0)
  have K0 := Lib.hid k0
  have LW := Lib.hid (show w.heap.size + 1 < W0.heap.size from (show Blk _ _ _ _ from r0).lt)
  clear x0 r0 k0 hc hs
  go_enter Tryz.func56, Tryz.ntmps56
  go_upto_region 1 with (fail)
  rw [← hW0]
  clear hW0
  have tk7 : True := trivial
  have tk8 : True := trivial
  have tk9 : True := trivial
  go_upto_region 2 with (first | (have _t := tk7; refine wpList_load_part 32 (.tmp 16) rfl rfl (gc) (146) rfl (#[.int .i64 16, .int .i64 16, .slice A1 256 c1, .slice A2 64 c2, .slice A3 64 c3]) _ (C0.out.sub 146 (srV A1 A2 A3 c1 c2 c3) (by kernel_rfl)) Tryz.underlying32 rfl (by kernel_rfl) ?_; go_frame; clear _t tk7) | (have _t := tk8; go_at_call 87; refine (macro_any 128 A1 A2 A3 c1 c2 c3 W0 HS0.out).mono ?_; rintro e w1 ⟨b1, b2, b3, rfl, hn, k⟩; have N1 := Lib.hid hn; clear hn; have X1 := Lib.hid (X0.out.keep k (fun e => e)); have R1 := Lib.hid (R0.out.keep k (fun e => e)); have C1 := Lib.hid (C0.out.keep k (fun e => e)); have K1 := Lib.hid (K0.out.trans k); clear k; clear _t tk8) | (have _t := tk9; go_at_call 50; refine (mustFr _ rfl (by kernel_rfl) _).mono ?_; rintro e w2 ⟨rfl, k⟩; have N2 := Lib.hid (N1.out.keep0 k); have X2 := Lib.hid (X1.out.keep k (fun e => e)); have R2 := Lib.hid (R1.out.keep k (fun e => e)); have C2 := Lib.hid (C1.out.keep k (fun e => e)); have K2 := Lib.hid (K1.out.trans k); clear k; clear _t tk9))
  obtain ⟨w3, hw3⟩ : ∃ w3, w3 = w2.alloc (.cells (frV b1 b2 b3) 32) := ⟨_, rfl⟩
  have k3 : Keep none_ w2 w3 := hw3 ▸ (Keep.refl _ _).alloc _
  have B3 := Lib.hid (show Blk w3 w2.heap.size 32 (frV b1 b2 b3) from hw3 ▸ Blk.new _ _ _)
  have N3 := Lib.hid ((N2.out.keep0 k3).low (Nat.zero_le _))
  have X3 := Lib.hid (X2.out.keep k3 (fun e => e))
  have R3 := Lib.hid (R2.out.keep k3 (fun e => e))
  have C3 := Lib.hid (C2.out.keep k3 (fun e => e))
  have K3 := Lib.hid (K2.out.trans k3)
  unfold frV at hw3
  rw [← hw3]
  clear hw3 k3 N2 N1 X2 X1 X0 R2 R1 R0 C2 C1 C0 K2 K1
  have tk10 : True := trivial
  go_upto_region 3 with ((have _t := tk10; go_at_call 52; refine (directions_any gc A1 A2 A3 c1 c2 c3 res w3 C3.out).mono ?_; rintro e w4 ⟨rfl, rfl⟩; clear _t tk10))
  obtain ⟨X4, S4, H4⟩ : ∃ X : List Value → Value → World → Prop, (∀ vs v w w', X vs v w → Keep none_ w w' → X vs v w') ∧ ∀ vs v w, X vs v w ↔ (v = .agg mbV) := ⟨fun vs v w => v = .agg mbV, fun vs v w w' h k => by first | exact h | exact h, fun _ _ _ => Iff.rfl⟩
  obtain ⟨X5, S5, H5⟩ : ∃ X : List Value → Value → World → Prop, (∀ vs v w w', X vs v w → Keep none_ w w' → X vs v w') ∧ ∀ vs v w, X vs v w ↔ (∃ m : Nat, v = .agg (chV m)) := ⟨fun vs v w => ∃ m : Nat, v = .agg (chV m), fun vs v w w' h k => by first | exact h | exact h, fun _ _ _ => Iff.rfl⟩
  have gd := pureCalm_good (w3) [⟨4, X4, S4⟩, ⟨5, X5, S5⟩]
  have ne := pureCalm_some (w3) [⟨4, X4, S4⟩, ⟨5, X5, S5⟩]
  refine wp_region_calm (pureCalm (w3) [⟨4, X4, S4⟩, ⟨5, X5, S5⟩]) [0, 1, 2, 3, 4, 5] [6] 82 (by kernel_rfl) (by kernel_rfl) rfl gd (Keep.refl _ _).drew ?_
  simp only [pairs, List.filterMap_cons, List.filterMap_nil, List.getElem?_toArray, List.getElem?_cons_succ, List.getElem?_cons_zero, Option.map_some]
  repeat (refine Calm.walk_quiet ne rfl rfl rfl (fun K hK => ?_); go_big_quiet_op; refine hK _ ?_; clear hK K)
  refine Calm.walk_load 113 (.tmp 7) rfl ne rfl rfl (w.heap.size) (0) rfl (stV) _ (fun y => by have k_ := pureCalm_at y; exact (X3.out.keep k_ (fun e => e)).rangeAt) Tryz.underlying113 rfl (by rw [stV_size]; kernel_rfl) ?_
  go_frame
  repeat (refine Calm.walk_quiet ne rfl rfl rfl (fun K hK => ?_); go_big_quiet_op; refine hK _ ?_; clear hK K)
  refine Calm.walk_load 32 (.tmp 9) rfl ne rfl rfl (w2.heap.size) (0) rfl (frV b1 b2 b3) _ (fun y => by have k_ := pureCalm_at y; exact (B3.out.keep k_ (fun e => e)).rangeAt) Tryz.underlying32 rfl (by kernel_rfl) ?_
  go_frame
  refine Calm.walk_eff rfl rfl (fun n wy _ hR hA => ?_) ?_
  · have kR : Keep none_ (w3) wy := hR
    unfold gives
    go_simp
    refine (intra_any gc A1 A2 A3 c1 c2 c3 b1 b2 b3 res wy (C3.out.keep kR (fun e => e)) (N3.out.keep0 kR)).mono ?_
    rintro e wz ⟨rfl, hk⟩
    exact ⟨_, rfl, (H4 _ _ _).2 (rfl), hk, kR.trans hk, fun _ h => h.elim⟩
  intro v wy hv
  obtain rfl : v = .agg mbV := (H4 _ _ _).1 hv
  clear hv
  clear wy
  go_frame
  refine Calm.walk_eff rfl rfl (fun n wy _ hR hA => ?_) ?_
  · have kR : Keep none_ (w3) wy := hR
    unfold gives
    go_simp
    refine (cwrite_any gc A1 A2 A3 c1 c2 c3 res wy (C3.out.keep kR (fun e => e))).mono ?_
    rintro e wz ⟨m, rfl, hk⟩
    exact ⟨_, rfl, (H5 _ _ _).2 (⟨m, rfl⟩), hk, kR.trans hk, fun _ h => h.elim⟩
  intro v wy hv
  obtain ⟨m, rfl⟩ : ∃ m : Nat, v = .agg (chV m) := (H5 _ _ _).1 hv
  clear hv
  clear wy
  go_frame
  intro w4 hG hD
  have K4 := Lib.hid (show Keep none_ (w3) w4 from hG)
  have T5 := Lib.hid ((H5 _ _ _).1 (show X5 _ _ w4 from (hD.1 5 rfl _ rfl ⟨rfl, rfl⟩).1))
  clear hG hD gd ne 
  clear H4 H5
  clear S4 S5
  clear X4 X5
  simp only [pickOps, List.filterMap_cons, List.filterMap_nil, List.getElem?_toArray, List.getElem?_cons_succ, List.getElem?_cons_zero]
  have R4 := Lib.hid (R3.out.keep K4.out (fun e => e))
  clear T5
  refine wpList_store_blk rfl 116 (.tmp 8) (.tmp 32) rfl (w.heap.size + 1) 116 _ (chV m) rfl rfl (R4.out) (by rw [SZ.out, chV_size]) (by rw [chV_size]; kernel_rfl) (by kernel_rfl) ?_
  intro w5 B5_ K5_ sz_
  have B5 := Lib.hid B5_
  have K5 := Lib.hid K5_
  clear B5_ K5_ sz_
  go_frame
  go_wp2
  refine bodyPost_ret (results_cell Tryz.results56 rfl (run_loadVar_blk B5.out Tryz.underlying116 rfl (by rw [chV_size]; kernel_rfl))) rfl ⟨m, rfl, (K3.out.trans K4.out).own K5.out (by omega)⟩
end Go.Proofs.YtebdgoikmclflaaGreatDoor
