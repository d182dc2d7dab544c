/-
  The coder's addLevels where nothing is to be added.
-/
import Derived.Test.YtebdgoikmclflaaGreatDoorEb38
namespace Go.Proofs.YtebdgoikmclflaaGreatDoor
open Go.RowKit
section
variable {P : Program} {c : Calm} {ops : Array Oper} {k : Nat} {o : Oper} {a : Act} {rest : List (Nat × Oper)} {listed : Array Bool} {L : Array Bool → Act → Prop}
theorem Calm.walk_neq (t : TypeId) (x y : Operand) (u : TypeId) (ho : o.op = .binOp .neq t x y u) (ne : Nonempty c.Sub) (he : c.eff.contains k = false) (hw : Region.wanted o (yielded ops a.tmps) = true) (xs ys : Array Value) (hx : a.eval x = .agg xs) (hy : a.eval y = .agg ys)
    (hm : P.eqGuardType P.depth t = false) (b : Bool) (hb : ∀ w, (Op.equalIn 10000 t (.agg xs) (.agg ys)).run P w = .ok b w)
    (h : c.walkP P ops L rest (listed.setIfInBounds k true) (a.put o.dst (.bool (!b)))) : c.walkP P ops L ((k, o) :: rest) listed a :=
  Calm.walk_is (.bool (!b)) ne he (by rw [ho]; rfl) hw (fun w => by
    unfold execOp
    simp only [ho, hx, hy, Sem.run_bind, run_eqGuard_agg _ _ _ _ _ _ _ hm, run_neq_struct, hb, Result.andThen_ok, Sem.run_pure]) h
end
/-- The Intra macroblock ahead of its levels. -/
def mb1 : Array Value := (([.int .i64 1, .bool false, .bool false, .bool false, .bool false, .int .i64 0, .int .i64 0, .int .i64 0, .int .i64 0, .int .i64 0, .int .i64 0, .int .i64 0, .int .i64 0, .int .i64 0, .int .i64 0, .int .i64 0, .int .i64 0, .int .i64 0, .bool false, .bool false, .bool false, .bool false, .bool false, .bool false] : List Value) ++ List.replicate 384 (Value.int .i64 0)).toArray
theorem mb1_size : mb1.size = 408 := by kernel_rfl
theorem mb1_lev (n : Nat) (hn : n < 6) : (mb1.toList.drop (24 + n * 64)).take (A64 0).toList.length = (A64 0).toList := by
  rcases (show n = 0 ∨ n = 1 ∨ n = 2 ∨ n = 3 ∨ n = 4 ∨ n = 5 by omega) with rfl | rfl | rfl | rfl | rfl | rfl <;> kernel_rfl
theorem mb1_laid (n : Nat) (hn : n < 6) : laid mb1 (24 + n * 64) (A64 0).toList = mb1 := by
  rcases (show n = 0 ∨ n = 1 ∨ n = 2 ∨ n = 3 ∨ n = 4 ∨ n = 5 by omega) with rfl | rfl | rfl | rfl | rfl | rfl <;> kernel_rfl
theorem mb1_coded (n : Nat) (hn : n < 6) : mb1.setIfInBounds (18 + n) (.bool false) = mb1 := by
  rcases (show n = 0 ∨ n = 1 ∨ n = 2 ∨ n = 3 ∨ n = 4 ∨ n = 5 by omega) with rfl | rfl | rfl | rfl | rfl | rfl <;> kernel_rfl
theorem mb1_cod (n : Nat) (hn : n < 6) : mb1[18 + n]? = some (.bool false) := by
  rcases (show n = 0 ∨ n = 1 ∨ n = 2 ∨ n = 3 ∨ n = 4 ∨ n = 5 by omega) with rfl | rfl | rfl | rfl | rfl | rfl <;> kernel_rfl
theorem mb1_dct : mb1.setIfInBounds 4 (.bool false) = mb1 := by kernel_rfl
/-- A part of a block is stored into. -/
theorem wpList_store_part {P : Program} {ops : Array Oper} {rest : List Oper} {op : Oper} {a : Act} {w : World} {Q : Exit → Act → World → Prop} (hgd : op.guard = none) (ty : TypeId) (x y : Operand) (ho : op.op = .store ty x y) (b o : Nat) (t : TypeId) (cs xs : Array Value) (hx : a.eval x = .pointer (some ⟨b, o, none⟩)) (hy : a.eval y = .agg xs)
    (hb : Blk w b t cs) (hs : o + xs.size ≤ cs.size) (hi : (P.info? ty).map (·.size) = some xs.size) (h1 : xs.all (·.oneCell') = true)
    (h : ∀ w', Blk w' b t (laid cs o xs.toList) → Keep (one b) w w' → w'.heap.size = w.heap.size → wpList P ops Q rest (a.put op.dst undef) w') : wpList P ops Q (op :: rest) a w :=
  wpList_store_mid hgd ty x y ho b o xs hx hy (hb.there o xs.size hs) hi h1 (h _ (Blk.setCells b xs.toList o w cs hb) (Keep.setCells _ _ _ _) (setCells_size _ _ _ _))
theorem NewFr.past {w w' : World} {lo gm : Nat} {z : Int} {b1 b2 b3 : Nat} {cs : Array Value} (h : NewFr w lo z b1 b2 b3) (hm : Blk w gm 102 cs) (k : Keep (one gm) w w') : NewFr w' lo z b1 b2 b3 :=
  h.keep k (fun e => Blk.ne_ h.y.1 hm (by decide) e) (fun e => Blk.ne_ h.u.1 hm (by decide) e) (fun e => Blk.ne_ h.v.1 hm (by decide) e)
theorem mixL_at {N k : Nat} {x y : Int} (h : k < N) : (mixL N k x y).getD k 0 = x := by
  unfold mixL
  have h0 : 0 < N - k := by omega
  rw [List.getD, List.getElem?_append_right (by simp)]
  simp [h0]
def AddPost (gm : Nat) (w : World) (e : Ending) (w' : World) : Prop := e = .returned (.bool false) ∧ Blk w' gm 102 mb1 ∧ Keep (one gm) w w'
set_option maxRecDepth 100000 in
set_option maxHeartbeats 8000000 in
theorem addLevels_any (gc gm : Nat) (A1 A2 A3 : Option Addr) (c1 c2 c3 b1 b2 b3 d1 d2 d3 : Nat) (res : List Value) (w : World) (hc : Blk w gc 67 (cdV (srV A1 A2 A3 c1 c2 c3) res)) (hm : Blk w gm 102 mb1)
    (hb : NewFr w 0 128 b1 b2 b3) (hd : NewFr w 0 128 d1 d2 d3) : Calls Tryz.prog 91 #[.pointer (some ⟨gc, 0, none⟩), .pointer (some ⟨gm, 0, none⟩), .agg (frV b1 b2 b3), .agg (frV d1 d2 d3), .agg M16] w (AddPost gm w) := by
  obtain ⟨zc, hzc⟩ : ∃ zc, zc = A64 0 := ⟨_, rfl⟩
  have ze : ∀ w, (zeroValue 99).run Tryz.prog w = .ok (.agg zc) w := by rw [hzc, ← A64_zero]; exact fun w => by kernel_rfl
  have HZC := Lib.hid hzc
  clear hzc
  have MS := Lib.hid M16_size
  have HQ := Lib.hid pQuantise
  generalize M16 = mc at *
  obtain ⟨W0, hW0⟩ : ∃ W0, W0 = ((w.alloc (.cells (frV b1 b2 b3) 32)).alloc (.cells (frV d1 d2 d3) 32)).alloc (.cells mc 24) := ⟨_, rfl⟩
  obtain ⟨x0, y0, z0, k0⟩ := three (Keep.eq_ hW0)
  have X0 := Lib.hid x0
  have Y0 := Lib.hid y0
  have Z0 := Lib.hid z0
  have C0 := Lib.hid (hc.keep k0 (fun e => e))
  have M0 := Lib.hid (hm.keep k0 (fun e => e))
  have HB0 := Lib.hid (hb.keep0 k0)
  have HD0 := Lib.hid (hd.keep0 k0)
  have K0 := Lib.hid k0
  have GM := Lib.hid hm.lt
  have LW := Lib.hid (show w.heap.size + 1 + 1 < W0.heap.size from (show Blk _ _ _ _ from z0).lt)
  clear x0 y0 z0 k0 hc hm hb hd
  go_enter Tryz.func91, Tryz.ntmps91
  go_upto_region 1 with (fail)
  rw [← hW0]
  clear hW0
  obtain ⟨X2, S2, H2⟩ : ∃ X : List Value → Value → World → Prop, (∀ vs v w w', X vs v w → Keep none_ w w' → X vs v w') ∧ ∀ vs v w, X vs v w ↔ (v = .bool false) := ⟨fun vs v w => v = .bool false, fun vs v w w' h k => by first | exact h | exact h, fun _ _ _ => Iff.rfl⟩
  obtain ⟨X6, S6, H6⟩ : ∃ X : List Value → Value → World → Prop, (∀ vs v w w', X vs v w → Keep none_ w w' → X vs v w') ∧ ∀ vs v w, X vs v w ↔ (v = .int .i64 0) := ⟨fun vs v w => v = .int .i64 0, fun vs v w w' h k => by first | exact h | exact h, fun _ _ _ => Iff.rfl⟩
  obtain ⟨X9, S9, H9⟩ : ∃ X : List Value → Value → World → Prop, (∀ vs v w w', X vs v w → Keep none_ w w' → X vs v w') ∧ ∀ vs v w, X vs v w ↔ (v = .int .i64 0) := ⟨fun vs v w => v = .int .i64 0, fun vs v w w' h k => by first | exact h | exact h, fun _ _ _ => Iff.rfl⟩
  have gd := pureCalm_good (W0) [⟨2, X2, S2⟩, ⟨6, X6, S6⟩, ⟨9, X9, S9⟩]
  have ne := pureCalm_some (W0) [⟨2, X2, S2⟩, ⟨6, X6, S6⟩, ⟨9, X9, S9⟩]
  refine wp_region_calm (pureCalm (W0) [⟨2, X2, S2⟩, ⟨6, X6, S6⟩, ⟨9, X9, S9⟩]) [0, 1, 2, 3, 4, 5, 6, 7, 8, 9, 10, 11, 12, 13] [14] 115 (by kernel_rfl) (by kernel_rfl) rfl gd (Keep.refl _ _).drew ?_
  simp only [pairs, List.filterMap_cons, List.filterMap_nil, List.getElem?_toArray, List.getElem?_cons_succ, List.getElem?_cons_zero, Option.map_some]
  repeat (first | (refine Calm.walk_skip rfl ?_; go_frame) | (refine Calm.walk_quiet ne rfl rfl rfl (fun K hK => ?_); go_big_quiet_op; refine hK _ ?_; clear hK K))
  refine Calm.walk_eff rfl rfl (fun n wy _ hR _ => ?_) ?_
  · have kR : Keep none_ (W0) wy := hR
    unfold gives
    go_simp
    refine (cbothKinds_any gc A1 A2 A3 c1 c2 c3 res wy (C0.out.keep kR (fun e => e))).mono ?_
    rintro e wz ⟨rfl, rfl⟩; have hk : Keep none_ wy wy := Keep.refl _ _
    exact ⟨_, rfl, (H2 _ _ _).2 (rfl), hk, kR.trans hk, fun _ h => h.elim⟩
  intro v wy hv
  obtain rfl : v = .bool false := (H2 _ _ _).1 hv
  clear hv
  clear wy
  go_frame
  repeat (first | (refine Calm.walk_skip rfl ?_; go_frame) | (refine Calm.walk_quiet ne rfl rfl rfl (fun K hK => ?_); go_big_quiet_op; refine hK _ ?_; clear hK K))
  intro w1 hG hD
  have K1 := Lib.hid (show Keep none_ (W0) w1 from hG)
  clear hG hD gd ne 
  clear H2 H6 H9
  clear S2 S6 S9
  clear X2 X6 X9
  simp only [pickOps, List.filterMap_cons, List.filterMap_nil, List.getElem?_toArray, List.getElem?_cons_succ, List.getElem?_cons_zero]
  have X1 := Lib.hid (X0.out.keep K1.out (fun e => e))
  have Y1 := Lib.hid (Y0.out.keep K1.out (fun e => e))
  have Z1 := Lib.hid (Z0.out.keep K1.out (fun e => e))
  have C1 := Lib.hid (C0.out.keep K1.out (fun e => e))
  have M1 := Lib.hid (M0.out.keep K1.out (fun e => e))
  have HB1 := Lib.hid (HB0.out.keep0 K1.out)
  have HD1 := Lib.hid (HD0.out.keep0 K1.out)
  have L1 := Lib.hid (Nat.lt_of_lt_of_le LW.out K1.out.size)
  have x4 : w1.cell? ⟨gm, 4, none⟩ = some (.bool false) := M1.out.cell 4
  have z4 := Blk.frozen M1.out 4
  clear X0 Y0 Z0 C0 M0 HB0 HD0
  go_upto_region 2 with (fail)
  obtain ⟨w2, hw2⟩ : ∃ w2, w2 = w1.setCell ⟨gm, 4, none⟩ (.bool false) := ⟨_, rfl⟩
  rw [← hw2]
  have k2 : Keep (one gm) w1 w2 := hw2 ▸ (Keep.refl (one gm) w1).setCell (p := ⟨gm, 4, none⟩) (.inl rfl) _
  have M2 := Lib.hid (show Blk w2 gm 102 mb1 from by have h := M1.out.set_ 4 (.bool false); rw [mb1_dct] at h; exact hw2 ▸ h)
  have OG := Lib.hid (show ∀ b, w.heap.size ≤ b → ¬ one gm b from fun b h e => by have := GM.out; unfold one at e; omega)
  have X2 := Lib.hid (X1.out.keep k2 (OG.out _ (by omega)))
  have Y2 := Lib.hid (Y1.out.keep k2 (OG.out _ (by omega)))
  have Z2 := Lib.hid (Z1.out.keep k2 (OG.out _ (by omega)))
  have C2 := Lib.hid (C1.out.keep k2 (fun e => Blk.ne_ C1.out M1.out (by decide) e))
  have HB2 := Lib.hid (HB1.out.past M1.out k2)
  have HD2 := Lib.hid (HD1.out.past M1.out k2)
  have K2 := Lib.hid (show Keep (one gm) w w2 from (K0.out.trans K1.out).weak.trans k2)
  have L2 := Lib.hid (Nat.lt_of_lt_of_le L1.out k2.size)
  clear X1 Y1 Z1 C1 M1 HB1 HD1 k2 hw2 x4 z4 L1 K1 K0
  go_wp2_with (fail)
  go_loopw [11, 31] (fun s i wr => ∃ k : Nat, k ≤ 6 ∧ i = .int .i64 k ∧ s = .bool false ∧ Blk wr gm 102 mb1 ∧ Keep (one gm) w2 wr) (fun _ i _ => 6 - (intOf i).toNat)
  case atStart => exact ⟨0, by decide, rfl, rfl, M2.out, Keep.refl _ _⟩
  case round =>
    obtain ⟨k, hk, rfl, rfl, hM, hK⟩ := hrel
    obtain ⟨wo, hwo⟩ : ∃ wo, wo = wr := ⟨_, rfl⟩
    subst hwo
    have HM := Lib.hid hM
    have HK := Lib.hid hK
    clear hM hK
    by_cases hlt : k < 6
    · have hlt' : (k : Int) < 6 := by omega
      have X3 := Lib.hid (X2.out.keep HK.out (OG.out _ (by omega)))
      have Y3 := Lib.hid (Y2.out.keep HK.out (OG.out _ (by omega)))
      have Z3 := Lib.hid (Z2.out.keep HK.out (OG.out _ (by omega)))
      have C3 := Lib.hid (C2.out.keep HK.out (fun e => Blk.ne_ C2.out M2.out (by decide) e))
      have HB3 := Lib.hid (HB2.out.past M2.out HK.out)
      have HD3 := Lib.hid (HD2.out.past M2.out HK.out)
      go_upto_region 6 with (fail)
      obtain ⟨X6, S6, H6⟩ : ∃ X : List Value → Value → World → Prop, (∀ vs v w w', X vs v w → Keep none_ w w' → X vs v w') ∧ ∀ vs v w, X vs v w ↔ (v = .tuple #[.agg (A64 128), .int .i64 0]) := ⟨fun vs v w => v = .tuple #[.agg (A64 128), .int .i64 0], fun vs v w w' h k => by first | exact h | exact h, fun _ _ _ => Iff.rfl⟩
      obtain ⟨X10, S10, H10⟩ : ∃ X : List Value → Value → World → Prop, (∀ vs v w w', X vs v w → Keep none_ w w' → X vs v w') ∧ ∀ vs v w, X vs v w ↔ (NewV wo.heap.size 99 zc v w) := ⟨fun vs v w => NewV wo.heap.size 99 zc v w, fun vs v w w' h k => by first | exact h | exact NewV.keep h k, fun _ _ _ => Iff.rfl⟩
      obtain ⟨X9, S9, H9⟩ : ∃ X : List Value → Value → World → Prop, (∀ vs v w w', X vs v w → Keep none_ w w' → X vs v w') ∧ ∀ vs v w, X vs v w ↔ (vs[0]? = some v) := ⟨fun vs v w => vs[0]? = some v, fun vs v w w' h k => by first | exact h | exact h, fun _ _ _ => Iff.rfl⟩
      have gd := pureCalm_good (wo) [⟨6, X6, S6⟩, ⟨10, X10, S10⟩, ⟨9, X9, S9⟩]
      have ne := pureCalm_some (wo) [⟨6, X6, S6⟩, ⟨10, X10, S10⟩, ⟨9, X9, S9⟩]
      have x4 : ∀ y : (pureCalm (wo) [⟨6, X6, S6⟩, ⟨10, X10, S10⟩, ⟨9, X9, S9⟩]).Sub, ((pureCalm (wo) [⟨6, X6, S6⟩, ⟨10, X10, S10⟩, ⟨9, X9, S9⟩]).at_ y).cell? ⟨gm, 4, none⟩ = some (.bool false) := fun y => by have k := pureCalm_at y; exact (HM.out.keep k (fun e => e)).cell 4
      refine wp_region_calm (pureCalm (wo) [⟨6, X6, S6⟩, ⟨10, X10, S10⟩, ⟨9, X9, S9⟩]) [0, 1, 2, 3, 4, 5, 6, 7, 8, 9, 10] [11] 115 (by kernel_rfl) (by kernel_rfl) rfl gd (Keep.refl _ _).drew ?_
      simp only [pairs, List.filterMap_cons, List.filterMap_nil, List.getElem?_toArray, List.getElem?_cons_succ, List.getElem?_cons_zero, Option.map_some]
      refine Calm.walk_load 32 (.tmp 7) rfl ne rfl rfl (w.heap.size) (0) rfl (frV b1 b2 b3) _ (fun y => by have k_ := pureCalm_at y; exact (X3.out.keep k_ (fun e => e)).rangeAt) Tryz.underlying32 rfl (by kernel_rfl) ?_
      go_frame
      repeat (refine Calm.walk_quiet ne rfl rfl rfl (fun K hK => ?_); go_big_quiet_op; refine hK _ ?_; clear hK K)
      refine Calm.walk_eff rfl rfl (fun n wy _ hR _ => ?_) ?_
      · have kR : Keep none_ (wo) wy := hR
        unfold gives
        go_simp
        refine (block_any k hlt 128 (by decide) (some ⟨b1, 0, none⟩) (some ⟨b2, 0, none⟩) (some ⟨b3, 0, none⟩) 256 64 64 wy ((HB3.out.keep0 kR).frC (by decide))).mono ?_
        rintro e wz ⟨rfl, hk⟩
        exact ⟨_, rfl, (H6 _ _ _).2 (rfl), hk, kR.trans hk, fun _ h => h.elim⟩
      intro v wy hv
      obtain rfl : v = .tuple #[.agg (A64 128), .int .i64 0] := (H6 _ _ _).1 hv
      clear hv
      clear wy
      go_frame
      repeat (refine Calm.walk_quiet ne rfl rfl rfl (fun K hK => ?_); go_big_quiet_op; refine hK _ ?_; clear hK K)
      refine Calm.walk_eff rfl rfl (fun n wy _ hR _ => ?_) ?_
      · have kR : Keep none_ (wo) wy := hR
        unfold gives
        go_simp
        refine (mustAr (A64 128) (A64_size 128) (A64_one 128) wy).mono ?_
        rintro e wz ⟨rfl, hk⟩
        exact ⟨_, rfl, (H9 _ _ _).2 (rfl), hk, kR.trans hk, fun _ h => h.elim⟩
      intro v wy hv
      obtain rfl : v = .agg (A64 128) := (Option.some.inj (show some (.agg (A64 128)) = some v from (H9 _ _ _).1 hv)).symm
      clear hv
      clear wy
      go_frame
      refine Calm.walk_eff rfl rfl (fun n wy _ hR _ => ?_) ?_
      · have kR : Keep none_ (wo) wy := hR
        refine gives_mono (X := fun v w' => v = .pointer (some ⟨wy.heap.size, 0, none⟩) ∧ w' = wy.alloc (.cells (zc) 99)) ?_ ?_
        · unfold gives
          go_simp
          try rfl
        · rintro _ _ ⟨rfl, rfl⟩
          exact ⟨(H10 _ _ _).2 ⟨_, rfl, kR.size, Blk.new _ _ _⟩, (Keep.refl _ _).alloc _, kR.alloc _, fun _ h => h.elim⟩
      intro v wy hv
      obtain ⟨gx, rfl, -, -⟩ : NewV (wo).heap.size 99 (zc) v wy := (H10 _ _ _).1 hv
      clear hv
      clear wy
      go_frame
      intro w4 hG hD
      have K4 := Lib.hid (show Keep none_ (wo) w4 from hG)
      have T10 := Lib.hid ((H10 _ _ _).1 (show X10 _ _ w4 from (hD.1 10 rfl _ rfl ⟨rfl, rfl⟩).1))
      clear hG hD gd ne x4
      clear H6 H10 H9
      clear S6 S10 S9
      clear X6 X10 X9
      simp only [pickOps, List.filterMap_cons, List.filterMap_nil, List.getElem?_toArray, List.getElem?_cons_succ, List.getElem?_cons_zero]
      have GX := Lib.hid (NewV.out_ (show NewV wo.heap.size 99 zc (.pointer (some ⟨gx, 0, none⟩)) w4 from T10.out))
      clear T10
      refine wpList_store_blk rfl 99 (.tmp 13) (.tmp 43) rfl (gx) 99 _ (A64 128) rfl rfl (GX.out.2) (by rw [HZC.out, A64_size, A64_size]) (by rw [A64_size]; kernel_rfl) (A64_one 128) ?_
      intro w5 B5_ K5_ sz_
      have B5 := Lib.hid B5_
      have K5 := Lib.hid K5_
      clear B5_ K5_ sz_
      go_frame
      have K5' := Lib.hid (show Keep none_ wo w5 from K4.out.own K5.out GX.out.1)
      have LX := Lib.hid (show wo.heap.size ≤ gx from GX.out.1)
      have Y5 := Lib.hid (Y3.out.keep K5'.out (fun e => e))
      have Z5 := Lib.hid (Z3.out.keep K5'.out (fun e => e))
      have C5 := Lib.hid (C3.out.keep K5'.out (fun e => e))
      have M5 := Lib.hid (HM.out.keep K5'.out (fun e => e))
      have HD5 := Lib.hid (HD3.out.keep0 K5'.out)
      have LM := Lib.hid (show gm < wo.heap.size from HM.out.lt)
      have LZ := Lib.hid (show w.heap.size + 1 + 1 < wo.heap.size from Z3.out.lt)
      have LC := Lib.hid (show gc < wo.heap.size from C3.out.lt)
      clear X3 Y3 Z3 C3 HB3 HD3 K4 K5 GX
      go_upto_region 7 with (fail)
      obtain ⟨X6, S6, H6⟩ : ∃ X : List Value → Value → World → Prop, (∀ vs v w w', X vs v w → Keep none_ w w' → X vs v w') ∧ ∀ vs v w, X vs v w ↔ (v = .tuple #[.agg (A64 128), .int .i64 0]) := ⟨fun vs v w => v = .tuple #[.agg (A64 128), .int .i64 0], fun vs v w w' h k => by first | exact h | exact h, fun _ _ _ => Iff.rfl⟩
      obtain ⟨X9, S9, H9⟩ : ∃ X : List Value → Value → World → Prop, (∀ vs v w w', X vs v w → Keep none_ w w' → X vs v w') ∧ ∀ vs v w, X vs v w ↔ (vs[0]? = some v) := ⟨fun vs v w => vs[0]? = some v, fun vs v w w' h k => by first | exact h | exact h, fun _ _ _ => Iff.rfl⟩
      have gd := pureCalm_good (w5) [⟨6, X6, S6⟩, ⟨9, X9, S9⟩]
      have ne := pureCalm_some (w5) [⟨6, X6, S6⟩, ⟨9, X9, S9⟩]
      have x4 : ∀ y : (pureCalm (w5) [⟨6, X6, S6⟩, ⟨9, X9, S9⟩]).Sub, ((pureCalm (w5) [⟨6, X6, S6⟩, ⟨9, X9, S9⟩]).at_ y).cell? ⟨gm, 4, none⟩ = some (.bool false) := fun y => by have k := pureCalm_at y; exact (M5.out.keep k (fun e => e)).cell 4
      refine wp_region_calm (pureCalm (w5) [⟨6, X6, S6⟩, ⟨9, X9, S9⟩]) [0, 1, 2, 3, 4, 5, 6, 7, 8, 9, 10] [] 115 (by kernel_rfl) (by kernel_rfl) rfl gd (Keep.refl _ _).drew ?_
      simp only [pairs, List.filterMap_cons, List.filterMap_nil, List.getElem?_toArray, List.getElem?_cons_succ, List.getElem?_cons_zero, Option.map_some]
      refine Calm.walk_load 32 (.tmp 8) rfl ne rfl rfl (w.heap.size + 1) (0) rfl (frV d1 d2 d3) _ (fun y => by have k_ := pureCalm_at y; exact (Y5.out.keep k_ (fun e => e)).rangeAt) Tryz.underlying32 rfl (by kernel_rfl) ?_
      go_frame
      repeat (refine Calm.walk_quiet ne rfl rfl rfl (fun K hK => ?_); go_big_quiet_op; refine hK _ ?_; clear hK K)
      refine Calm.walk_eff rfl rfl (fun n wy _ hR _ => ?_) ?_
      · have kR : Keep none_ (w5) wy := hR
        unfold gives
        go_simp
        refine (block_any k hlt 128 (by decide) (some ⟨d1, 0, none⟩) (some ⟨d2, 0, none⟩) (some ⟨d3, 0, none⟩) 256 64 64 wy ((HD5.out.keep0 kR).frC (by decide))).mono ?_
        rintro e wz ⟨rfl, hk⟩
        exact ⟨_, rfl, (H6 _ _ _).2 (rfl), hk, kR.trans hk, fun _ h => h.elim⟩
      intro v wy hv
      obtain rfl : v = .tuple #[.agg (A64 128), .int .i64 0] := (H6 _ _ _).1 hv
      clear hv
      clear wy
      go_frame
      repeat (refine Calm.walk_quiet ne rfl rfl rfl (fun K hK => ?_); go_big_quiet_op; refine hK _ ?_; clear hK K)
      refine Calm.walk_eff rfl rfl (fun n wy _ hR _ => ?_) ?_
      · have kR : Keep none_ (w5) wy := hR
        unfold gives
        go_simp
        refine (mustAr (A64 128) (A64_size 128) (A64_one 128) wy).mono ?_
        rintro e wz ⟨rfl, hk⟩
        exact ⟨_, rfl, (H9 _ _ _).2 (rfl), hk, kR.trans hk, fun _ h => h.elim⟩
      intro v wy hv
      obtain rfl : v = .agg (A64 128) := (Option.some.inj (show some (.agg (A64 128)) = some v from (H9 _ _ _).1 hv)).symm
      clear hv
      clear wy
      go_frame
      repeat (refine Calm.walk_quiet ne rfl rfl rfl (fun K hK => ?_); go_big_quiet_op; refine hK _ ?_; clear hK K)
      intro w6 hG hD
      have K6 := Lib.hid (show Keep none_ (w5) w6 from hG)
      clear hG hD gd ne x4
      clear H6 H9
      clear S6 S9
      clear X6 X9
      simp only [pickOps, List.filterMap_nil]
      have Z6 := Lib.hid (Z5.out.keep K6.out (fun e => e))
      have C6 := Lib.hid (C5.out.keep K6.out (fun e => e))
      have M6 := Lib.hid (M5.out.keep K6.out (fun e => e))
      have B6 := Lib.hid (B5.out.keep K6.out (fun e => e))
      have K6' := Lib.hid (K5'.out.trans K6.out)
      clear Y5 Z5 C5 M5 HD5 B5 K6 K5'
      go_wp2_with (fail)
      go_loopw [54] (fun i wj => ∃ j : Nat, j ≤ 64 ∧ i = .int .i64 j ∧ IntsB wj gx 99 (mixL 64 j 128 0) ∧ Keep (one gx) w6 wj) (fun i _ => 64 - (intOf i).toNat)
      case atStart => exact ⟨0, by decide, rfl, by unfold IntsB; rw [mixL_zero]; exact B6.out, Keep.refl _ _⟩
      case round =>
        obtain ⟨j, hj, rfl, hX, hkj⟩ := hrel
        have HX := Lib.hid hX
        have HKj := Lib.hid hkj
        clear hX hkj
        by_cases hjt : j < 64
        · have hjt' : (j : Int) < 64 := by omega
          have hc := run_index_i64a (A64 128) j _ hjt (A64_get 128 j hjt)
          have c7 : wr.cell? ⟨gx, j, none⟩ = some (.int .i64 128) := by have h := HX.out.cell j (by rw [mixL_length (by omega)]; exact hjt); rw [mixL_at hjt] at h; exact h
          have z7 := Blk.frozen HX.out j
          have XS := Lib.hid (IntsB.next HX.out hjt)
          have KS := Lib.hid (show Keep (one gx) w6 (wr.setCell ⟨gx, j, none⟩ (.int .i64 0)) from HKj.out.setCell (p := ⟨gx, j, none⟩) (.inl rfl) _)
          go_wp2
          go_roundw
          case rel => exact ⟨j + 1, hjt, by go_num, XS.out, KS.out⟩
          case measure => simp [intOf]; omega
        · obtain rfl : j = 64 := by omega
          have B7 := Lib.hid (show Blk wr gx 99 (A64 0) from HX.out.all)
          have NE := Lib.hid (show ∀ b, b < gx → ¬ one gx b from fun b h e => by unfold one at e; omega)
          have Z7 := Lib.hid (Z6.out.keep HKj.out (NE.out _ (by have := LZ.out; have := LX.out; omega)))
          have C7 := Lib.hid (C6.out.keep HKj.out (NE.out _ (by have := LC.out; have := LX.out; omega)))
          have M7 := Lib.hid (M6.out.keep HKj.out (NE.out _ (by have := LM.out; have := LX.out; omega)))
          have K7 := Lib.hid (show Keep none_ wo wr from K6'.out.own HKj.out LX.out)
          clear hjt hj Z6 C6 M6 K6' B6 HX HKj
          go_upto_region 12 with (fail)
          obtain ⟨X1, S1, H1⟩ : ∃ X : List Value → Value → World → Prop, (∀ vs v w w', X vs v w → Keep none_ w w' → X vs v w') ∧ ∀ vs v w, X vs v w ↔ (v = .tuple #[.agg (A64 0), .int .i64 0]) := ⟨fun vs v w => v = .tuple #[.agg (A64 0), .int .i64 0], fun vs v w w' h k => by first | exact h | exact h, fun _ _ _ => Iff.rfl⟩
          obtain ⟨X10, S10, H10⟩ : ∃ X : List Value → Value → World → Prop, (∀ vs v w w', X vs v w → Keep none_ w w' → X vs v w') ∧ ∀ vs v w, X vs v w ↔ (v = .tuple #[.agg (A64 0), .int .i64 0]) := ⟨fun vs v w => v = .tuple #[.agg (A64 0), .int .i64 0], fun vs v w w' h k => by first | exact h | exact h, fun _ _ _ => Iff.rfl⟩
          obtain ⟨X14, S14, H14⟩ : ∃ X : List Value → Value → World → Prop, (∀ vs v w w', X vs v w → Keep none_ w w' → X vs v w') ∧ ∀ vs v w, X vs v w ↔ (NewV wr.heap.size 99 zc v w) := ⟨fun vs v w => NewV wr.heap.size 99 zc v w, fun vs v w w' h k => by first | exact h | exact NewV.keep h k, fun _ _ _ => Iff.rfl⟩
          obtain ⟨X4, S4, H4⟩ : ∃ X : List Value → Value → World → Prop, (∀ vs v w w', X vs v w → Keep none_ w w' → X vs v w') ∧ ∀ vs v w, X vs v w ↔ (vs[0]? = some v) := ⟨fun vs v w => vs[0]? = some v, fun vs v w w' h k => by first | exact h | exact h, fun _ _ _ => Iff.rfl⟩
          obtain ⟨X13, S13, H13⟩ : ∃ X : List Value → Value → World → Prop, (∀ vs v w w', X vs v w → Keep none_ w w' → X vs v w') ∧ ∀ vs v w, X vs v w ↔ (vs[0]? = some v) := ⟨fun vs v w => vs[0]? = some v, fun vs v w w' h k => by first | exact h | exact h, fun _ _ _ => Iff.rfl⟩
          have gd := pureCalm_good (wr) [⟨1, X1, S1⟩, ⟨10, X10, S10⟩, ⟨14, X14, S14⟩, ⟨4, X4, S4⟩, ⟨13, X13, S13⟩]
          have ne := pureCalm_some (wr) [⟨1, X1, S1⟩, ⟨10, X10, S10⟩, ⟨14, X14, S14⟩, ⟨4, X4, S4⟩, ⟨13, X13, S13⟩]
          have xq : ∀ y : (pureCalm (wr) [⟨1, X1, S1⟩, ⟨10, X10, S10⟩, ⟨14, X14, S14⟩, ⟨4, X4, S4⟩, ⟨13, X13, S13⟩]).Sub, ((pureCalm (wr) [⟨1, X1, S1⟩, ⟨10, X10, S10⟩, ⟨14, X14, S14⟩, ⟨4, X4, S4⟩, ⟨13, X13, S13⟩]).at_ y).cell? ⟨gc, 145, none⟩ = some (.int .i64 8) := fun y => by have k := pureCalm_at y; exact ((C7.out.keep k (fun e => e)).cell 145).trans (by kernel_rfl)
          refine wp_region_calm (pureCalm (wr) [⟨1, X1, S1⟩, ⟨10, X10, S10⟩, ⟨14, X14, S14⟩, ⟨4, X4, S4⟩, ⟨13, X13, S13⟩]) [0, 1, 2, 3, 4, 5, 6, 7, 8, 9, 10, 11, 12, 13, 14] [15] 115 (by kernel_rfl) (by kernel_rfl) rfl gd (Keep.refl _ _).drew ?_
          simp only [pairs, List.filterMap_cons, List.filterMap_nil, List.getElem?_toArray, List.getElem?_cons_succ, List.getElem?_cons_zero, Option.map_some]
          refine Calm.walk_load 99 (.tmp 13) rfl ne rfl rfl (gx) (0) rfl (A64 0) _ (fun y => by have k_ := pureCalm_at y; exact (B7.out.keep k_ (fun e => e)).rangeAt) Tryz.underlying99 rfl (by rw [A64_size]; kernel_rfl) ?_
          go_frame
          refine Calm.walk_eff rfl rfl (fun n wy _ hR _ => ?_) ?_
          · have kR : Keep none_ (wr) wy := hR
            unfold gives
            go_simp
            refine (forward_any wy).mono ?_
            rintro e wz ⟨rfl, hk⟩
            exact ⟨_, rfl, (H1 _ _ _).2 (rfl), hk, kR.trans hk, fun _ h => h.elim⟩
          intro v wy hv
          obtain rfl : v = .tuple #[.agg (A64 0), .int .i64 0] := (H1 _ _ _).1 hv
          clear hv
          clear wy
          go_frame
          repeat (refine Calm.walk_quiet ne rfl rfl rfl (fun K hK => ?_); go_big_quiet_op; refine hK _ ?_; clear hK K)
          refine Calm.walk_eff rfl rfl (fun n wy _ hR _ => ?_) ?_
          · have kR : Keep none_ (wr) wy := hR
            unfold gives
            go_simp
            refine (mustAr (A64 0) (A64_size 0) (A64_one 0) wy).mono ?_
            rintro e wz ⟨rfl, hk⟩
            exact ⟨_, rfl, (H4 _ _ _).2 (rfl), hk, kR.trans hk, fun _ h => h.elim⟩
          intro v wy hv
          obtain rfl : v = .agg (A64 0) := (Option.some.inj (show some (.agg (A64 0)) = some v from (H4 _ _ _).1 hv)).symm
          clear hv
          clear wy
          go_frame
          refine Calm.walk_load 24 (.tmp 9) rfl ne rfl rfl (w.heap.size + 1 + 1) (0) rfl (mc) _ (fun y => by have k_ := pureCalm_at y; exact (Z7.out.keep k_ (fun e => e)).rangeAt) Tryz.underlying24 rfl (by rw [MS.out]; kernel_rfl) ?_
          go_frame
          repeat (refine Calm.walk_quiet ne rfl rfl rfl (fun K hK => ?_); go_big_quiet_op; refine hK _ ?_; clear hK K)
          refine Calm.walk_eff rfl rfl (fun n wy _ hR _ => ?_) ?_
          · have kR : Keep none_ (wr) wy := hR
            unfold gives
            go_simp
            refine (HQ.out wy).mono ?_
            rintro e wz ⟨rfl, hk⟩
            exact ⟨_, rfl, (H10 _ _ _).2 (rfl), hk, kR.trans hk, fun _ h => h.elim⟩
          intro v wy hv
          obtain rfl : v = .tuple #[.agg (A64 0), .int .i64 0] := (H10 _ _ _).1 hv
          clear hv
          clear wy
          go_frame
          repeat (refine Calm.walk_quiet ne rfl rfl rfl (fun K hK => ?_); go_big_quiet_op; refine hK _ ?_; clear hK K)
          refine Calm.walk_eff rfl rfl (fun n wy _ hR _ => ?_) ?_
          · have kR : Keep none_ (wr) wy := hR
            unfold gives
            go_simp
            refine (mustAr (A64 0) (A64_size 0) (A64_one 0) wy).mono ?_
            rintro e wz ⟨rfl, hk⟩
            exact ⟨_, rfl, (H13 _ _ _).2 (rfl), hk, kR.trans hk, fun _ h => h.elim⟩
          intro v wy hv
          obtain rfl : v = .agg (A64 0) := (Option.some.inj (show some (.agg (A64 0)) = some v from (H13 _ _ _).1 hv)).symm
          clear hv
          clear wy
          go_frame
          refine Calm.walk_eff rfl rfl (fun n wy _ hR _ => ?_) ?_
          · have kR : Keep none_ (wr) wy := hR
            refine gives_mono (X := fun v w' => v = .pointer (some ⟨wy.heap.size, 0, none⟩) ∧ w' = wy.alloc (.cells (zc) 99)) ?_ ?_
            · unfold gives
              go_simp
              try rfl
            · rintro _ _ ⟨rfl, rfl⟩
              exact ⟨(H14 _ _ _).2 ⟨_, rfl, kR.size, Blk.new _ _ _⟩, (Keep.refl _ _).alloc _, kR.alloc _, fun _ h => h.elim⟩
          intro v wy hv
          obtain ⟨gl, rfl, -, -⟩ : NewV (wr).heap.size 99 (zc) v wy := (H14 _ _ _).1 hv
          clear hv
          clear wy
          go_frame
          intro w8 hG hD
          have K8 := Lib.hid (show Keep none_ (wr) w8 from hG)
          have T14 := Lib.hid ((H14 _ _ _).1 (show X14 _ _ w8 from (hD.1 14 rfl _ rfl ⟨rfl, rfl⟩).1))
          clear hG hD gd ne xq
          clear H1 H10 H14 H4 H13
          clear S1 S10 S14 S4 S13
          clear X1 X10 X14 X4 X13
          simp only [pickOps, List.filterMap_cons, List.filterMap_nil, List.getElem?_toArray, List.getElem?_cons_succ, List.getElem?_cons_zero]
          have GL := Lib.hid (NewV.out_ (show NewV wr.heap.size 99 zc (.pointer (some ⟨gl, 0, none⟩)) w8 from T14.out))
          clear T14
          refine wpList_store_blk rfl 99 (.tmp 16) (.tmp 78) rfl (gl) 99 _ (A64 0) rfl rfl (GL.out.2) (by rw [HZC.out]) (by rw [A64_size]; kernel_rfl) (A64_one 0) ?_
          intro w9 B9_ K9_ sz_
          have B9 := Lib.hid B9_
          have K9 := Lib.hid K9_
          clear B9_ K9_ sz_
          go_frame
          have K9' := Lib.hid (show Keep none_ wr w9 from K8.out.own K9.out GL.out.1)
          have C9 := Lib.hid (C7.out.keep K9'.out (fun e => e))
          have M9 := Lib.hid (M7.out.keep K9'.out (fun e => e))
          have KA9 := Lib.hid (K7.out.trans K9'.out)
          clear Z7 C7 M7 K8 K9 GL K7
          go_upto_region 13 with (fail)
          obtain ⟨X8, S8, H8⟩ : ∃ X : List Value → Value → World → Prop, (∀ vs v w w', X vs v w → Keep none_ w w' → X vs v w') ∧ ∀ vs v w, X vs v w ↔ (v = .agg (A64 0)) := ⟨fun vs v w => v = .agg (A64 0), fun vs v w w' h k => by first | exact h | exact h, fun _ _ _ => Iff.rfl⟩
          have gd := pureCalm_good (w9) [⟨8, X8, S8⟩]
          have ne := pureCalm_some (w9) [⟨8, X8, S8⟩]
          have xa : ∀ y : (pureCalm (w9) [⟨8, X8, S8⟩]).Sub, ((pureCalm (w9) [⟨8, X8, S8⟩]).at_ y).cell? ⟨gc, 144, none⟩ = some (.bool false) := fun y => by have k := pureCalm_at y; exact ((C9.out.keep k (fun e => e)).cell 144).trans (by kernel_rfl)
          refine wp_region_calm (pureCalm (w9) [⟨8, X8, S8⟩]) [0, 1, 2, 3, 4, 5, 6, 7, 8, 9, 10, 11] [12] 115 (by kernel_rfl) (by kernel_rfl) rfl gd (Keep.refl _ _).drew ?_
          simp only [pairs, List.filterMap_cons, List.filterMap_nil, List.getElem?_toArray, List.getElem?_cons_succ, List.getElem?_cons_zero, Option.map_some]
          repeat (refine Calm.walk_quiet ne rfl rfl rfl (fun K hK => ?_); go_big_quiet_op; refine hK _ ?_; clear hK K)
          refine Calm.walk_load 99 (.tmp 16) rfl ne rfl rfl (gl) (0) rfl (A64 0) _ (fun y => by have k_ := pureCalm_at y; exact (B9.out.keep k_ (fun e => e)).rangeAt) Tryz.underlying99 rfl (by rw [A64_size]; kernel_rfl) ?_
          go_frame
          repeat (refine Calm.walk_quiet ne rfl rfl rfl (fun K hK => ?_); go_big_quiet_op; refine hK _ ?_; clear hK K)
          refine Calm.walk_eff rfl rfl (fun n wy _ hR _ => ?_) ?_
          · have kR : Keep none_ (w9) wy := hR
            unfold gives
            go_simp
            refine (pToScan wy).mono ?_
            rintro e wz ⟨rfl, hk⟩
            exact ⟨_, rfl, (H8 _ _ _).2 (rfl), hk, kR.trans hk, fun _ h => h.elim⟩
          intro v wy hv
          obtain rfl : v = .agg (A64 0) := (H8 _ _ _).1 hv
          clear hv
          clear wy
          go_frame
          repeat (refine Calm.walk_quiet ne rfl rfl rfl (fun K hK => ?_); go_big_quiet_op; refine hK _ ?_; clear hK K)
          intro w10 hG hD
          have K10 := Lib.hid (show Keep none_ (w9) w10 from hG)
          clear hG hD gd ne xa
          clear H8
          clear S8
          clear X8
          simp only [pickOps, List.filterMap_cons, List.filterMap_nil, List.getElem?_toArray, List.getElem?_cons_succ, List.getElem?_cons_zero]
          have C10 := Lib.hid (C9.out.keep K10.out (fun e => e))
          have M10 := Lib.hid (M9.out.keep K10.out (fun e => e))
          have KA10 := Lib.hid (KA9.out.trans K10.out)
          clear C9 M9 B9 KA9 K10
          refine wpList_store_part rfl 99 (.tmp 90) (.tmp 87) rfl gm (24 + k * 64) 102 mb1 (A64 0) rfl rfl M10.out (by rw [A64_size, mb1_size]; omega) (by rw [A64_size]; kernel_rfl) (A64_one 0) ?_
          intro w11 hm11 hk11 hs11
          rw [mb1_laid k hlt] at hm11
          have M11 := Lib.hid hm11
          have K11 := Lib.hid (show Keep (one gm) wo w11 from KA10.out.weak.trans hk11)
          clear hm11 hk11 hs11 M10 KA10 C10
          go_frame
          go_upto_region 14 with (fail)
          have gd := pureCalm_good (w11) []
          have ne := pureCalm_some (w11) []
          refine wp_region_calm (pureCalm (w11) []) [0, 1, 2, 3, 4, 5, 6, 7, 8, 9, 10, 11, 12] [13] 115 (by kernel_rfl) (by kernel_rfl) rfl gd (Keep.refl _ _).drew ?_
          simp only [pairs, List.filterMap_cons, List.filterMap_nil, List.getElem?_toArray, List.getElem?_cons_succ, List.getElem?_cons_zero, Option.map_some]
          repeat (refine Calm.walk_quiet ne rfl rfl rfl (fun K hK => ?_); go_big_quiet_op; refine hK _ ?_; clear hK K)
          refine Calm.walk_load 99 (.tmp 97) rfl ne rfl rfl (gm) (24 + k * 64) rfl (A64 0) _ (fun y => by have k_ := pureCalm_at y; exact (M11.out.keep k_ (fun e => e)).sub _ _ (mb1_lev k hlt)) Tryz.underlying99 rfl (by rw [A64_size]; kernel_rfl) ?_
          go_frame
          refine Calm.walk_build 99 _ rfl ne rfl rfl (A64 0) (by kernel_rfl) ?_
          go_frame
          refine Calm.walk_neq 99 (.tmp 98) (.tmp 99) 99 rfl ne rfl rfl (A64 0) (A64 0) rfl rfl (by kernel_rfl) true (fun w => by kernel_rfl) ?_
          go_frame
          repeat (refine Calm.walk_quiet ne rfl rfl rfl (fun K hK => ?_); go_big_quiet_op; refine hK _ ?_; clear hK K)
          intro w12 hG hD
          have K12 := Lib.hid (show Keep none_ (w11) w12 from hG)
          clear hG hD gd ne 
          simp only [pickOps, List.filterMap_cons, List.filterMap_nil, List.getElem?_toArray, List.getElem?_cons_succ, List.getElem?_cons_zero]
          have M12 := Lib.hid (M11.out.keep K12.out (fun e => e))
          have xc : w12.cell? ⟨gm, 18 + k, none⟩ = some (.bool false) := by rw [M12.out.cell]; exact mb1_cod k hlt
          have zcf := Blk.frozen M12.out (18 + k)
          go_upto_region 15 with (fail)
          obtain ⟨w13, hw13⟩ : ∃ w13, w13 = w12.setCell ⟨gm, 18 + k, none⟩ (.bool false) := ⟨_, rfl⟩
          rw [← hw13]
          have M13 := Lib.hid (show Blk w13 gm 102 mb1 from by have h := M12.out.set_ (18 + k) (.bool false); rw [mb1_coded k hlt] at h; exact hw13 ▸ h)
          have K13 := Lib.hid (show Keep (one gm) wo w13 from hw13 ▸ (K11.out.trans K12.out.weak).setCell (p := ⟨gm, 18 + k, none⟩) (.inl rfl) _)
          clear hw13 xc zcf M12 M11 K11 K12
          have xd : w13.cell? ⟨gm, 18 + k, none⟩ = some (.bool false) := by rw [M13.out.cell]; exact mb1_cod k hlt
          go_wp2
          go_roundw
          case rel => exact ⟨k + 1, hlt, by go_num, rfl, M13.out, HK.out.trans K13.out⟩
          case measure => simp [intOf]; omega
    · obtain rfl : k = 6 := by omega
      clear hlt hk
      go_wp2
      go_ret
      exact ⟨rfl, HM.out, K2.out.trans HK.out⟩
end Go.Proofs.YtebdgoikmclflaaGreatDoor
