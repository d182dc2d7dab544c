/-
  The coder's row.
-/
import Derived.Test.YtebdgoikmclflaaGreatDoorEb42
namespace Go.Proofs.YtebdgoikmclflaaGreatDoor
open Go.RowKit

theorem mb_info : (Tryz.prog.info? 102).map (fun i => (i.zero, i.size, i.bytes)) = some (some (.agg Tryz.zeroCells102), 408, 3200) := by kernel_rfl
theorem mbV_one : mbV.all (·.oneCell') = true := by kernel_rfl
theorem chV_mb (m : Int) : ((chV m).toList.drop 0).take mbV.toList.length = mbV.toList := by kernel_rfl
theorem chV_st (m : Int) : ((chV m).toList.drop 409).take stV.toList.length = stV.toList := by kernel_rfl
def RowPost (gc : Nat) (A1 A2 A3 : Option Addr) (c1 c2 c3 : Nat) (w : World) (e : Ending) (w' : World) : Prop := ∃ u d1 d2 d3, e = .returned (.agg (unV u)) ∧ Blk w' gc 67 (cdV (srV A1 A2 A3 c1 c2 c3) (frV d1 d2 d3).toList) ∧ NewFr w' 0 128 d1 d2 d3 ∧ Keep (one gc) w w'
set_option maxRecDepth 100000 in
set_option maxHeartbeats 8000000 in
theorem row_any (gc : Nat) (A1 A2 A3 : Option Addr) (c1 c2 c3 r1 r2 r3 : Nat) (x : Int) (hx : 0 ≤ x ∧ x ≤ 255) (w : World) (hc : Blk w gc 67 (cdV (srV A1 A2 A3 c1 c2 c3) (frV r1 r2 r3).toList)) (hs : FrC w 128 A1 A2 A3 c1 c2 c3) (hr : NewFr w 0 x r1 r2 r3) : Calls Tryz.prog 23 #[.pointer (some ⟨gc, 0, none⟩), .int .i64 0] w (RowPost gc A1 A2 A3 c1 c2 c3 w) := by
  obtain ⟨W0, hW0⟩ : ∃ W0, W0 = w.alloc (.cells #[.int .i64 0, .slice none 0 0] 60) := ⟨_, rfl⟩
  have k0 : Keep none_ w W0 := hW0 ▸ (Keep.refl _ _).alloc _
  have R0 := Lib.hid (show Blk W0 w.heap.size 60 #[.int .i64 0, .slice none 0 0] from hW0 ▸ Blk.new _ _ _)
  have C0 := Lib.hid (hc.keep k0 (fun e => e))
  have HS0 := Lib.hid (hs.keep k0)
  have HR0 := Lib.hid (hr.keep0 k0)
  have K0 := Lib.hid k0
  have GC := Lib.hid hc.lt
  have xq : W0.cell? ⟨gc, 145, none⟩ = some (.int .i64 8) := (C0.out.cell 145).trans (by kernel_rfl)
  have HX := Lib.hid hx
  clear k0 hc hs hr hx
  go_enter Tryz.func23, Tryz.ntmps23
  go_upto_region 1 with (fail)
  rw [← hW0]
  clear hW0
  have tk1 : True := trivial
  have tk2 : True := trivial
  go_upto_region 3 with (first | (have _t := tk1; go_at_call 55; refine (start_any _).mono ?_; rintro e w1 ⟨rfl, k⟩; have HS1 := Lib.hid (HS0.out.keep k); have HR1 := Lib.hid (HR0.out.keep0 k); have R1 := Lib.hid (R0.out.keep k (fun e => e)); have C1 := Lib.hid (C0.out.keep k (fun e => e)); have K1 := Lib.hid (K0.out.trans k); clear k; clear _t tk1) | (have _t := tk2; refine wpList_store_blk rfl 113 (.tmp 6) (.tmp 13) rfl (w1.heap.size) 113 _ (stV) rfl rfl (Blk.new _ _ _) (rfl) (by kernel_rfl) (by kernel_rfl) ?_; intro w2 B2_ K2_ sz_; have B2 := Lib.hid B2_; have K2 := Lib.hid K2_; clear B2_ K2_ sz_; go_frame; clear _t tk2))
  have k12 : Keep none_ w1 w2 := ((Keep.refl none_ w1).alloc _).own K2.out (Nat.le_refl _)
  obtain ⟨gs, hgs⟩ : ∃ gs, gs = w1.heap.size := ⟨_, rfl⟩
  have LS := Lib.hid (show w.heap.size < gs from hgs ▸ R1.out.lt)
  rw [← hgs] at B2 ⊢
  clear hgs K2
  have R2 := Lib.hid (R1.out.keep k12 (fun e => e))
  have C2 := Lib.hid (C1.out.keep k12 (fun e => e))
  have HS2 := Lib.hid (HS1.out.keep k12)
  have HR2 := Lib.hid (HR1.out.keep0 k12)
  have K2 := Lib.hid (K1.out.trans k12)
  have xw : w2.cell? ⟨gc, 146, none⟩ = some (.int .i64 16) := (C2.out.cell 146).trans (by kernel_rfl)
  clear k12 R0 C0 HS0 HR0 K0 xq R1 C1 HS1 HR1 K1
  go_wp2_with (fail)
  go_loopw [5, 20] (fun s i wr => (i = .int .i64 0 ∧ s = .slice none 0 0 ∧ wr = w2) ∨ (i = .int .i64 1 ∧ ∃ b c d1 d2 d3, s = .slice (some ⟨b, 0, none⟩) 1 c ∧ w.heap.size < b ∧ wr.rangeAt b 0 mbV.toList ∧ Blk wr w.heap.size 60 #[.int .i64 0, .slice none 0 0] ∧ Blk wr gc 67 (cdV (srV A1 A2 A3 c1 c2 c3) (frV d1 d2 d3).toList) ∧ NewFr wr (w.heap.size + 1) 128 d1 d2 d3 ∧ Keep (one gc) w wr)) (fun _ i _ => 1 - (intOf i).toNat)
  case atStart => exact .inl ⟨rfl, rfl, rfl⟩
  case round =>
    rcases hrel with ⟨rfl, rfl, rfl⟩ | ⟨rfl, b, c, d1, d2, d3, rfl, hbl, hb, hr, hc, hn, hk⟩
    · skip
      have tk3 : True := trivial
      have tk4 : True := trivial
      have tk5 : True := trivial
      go_upto_region 7 with (first | (have _t := tk3; refine wpList_load_part 113 (.tmp 6) rfl rfl (gs) (0) rfl (stV) _ (B2.out.rangeAt) Tryz.underlying113 rfl (by rw [stV_size]; kernel_rfl) ?_; go_frame; clear _t tk3) | (have _t := tk4; go_at_call 56; refine (choose_any gc A1 A2 A3 c1 c2 c3 (frV r1 r2 r3).toList _ C2.out HS2.out).mono ?_; rintro e w3 ⟨m, rfl, k⟩; have HS3 := Lib.hid (HS2.out.keep k); have HR3 := Lib.hid (HR2.out.keep0 k); have R3 := Lib.hid (R2.out.keep k (fun e => e)); have C3 := Lib.hid (C2.out.keep k (fun e => e)); have B3 := Lib.hid (B2.out.keep k (fun e => e)); have K3 := Lib.hid (K2.out.trans k); clear k; clear _t tk4) | (have _t := tk5; refine wpList_store_blk rfl 116 (.tmp 8) (.tmp 27) rfl (w3.heap.size) 116 _ (chV m) rfl rfl (Blk.new _ _ _) (by rw [chV_size]; kernel_rfl) (by rw [chV_size]; kernel_rfl) (by kernel_rfl) ?_; intro w4 D4_ KX4_ sz_; have D4 := Lib.hid D4_; have KX4 := Lib.hid KX4_; clear D4_ KX4_ sz_; go_frame; clear _t tk5))
      have k34 : Keep none_ w3 w4 := ((Keep.refl none_ w3).alloc _).own KX4.out (Nat.le_refl _)
      obtain ⟨gb, hgb⟩ : ∃ gb, gb = w3.heap.size := ⟨_, rfl⟩
      have LB := Lib.hid (show gs < gb from hgb ▸ B3.out.lt)
      rw [← hgb] at D4 ⊢
      clear hgb KX4
      have R4 := Lib.hid (R3.out.keep k34 (fun e => e))
      have C4 := Lib.hid (C3.out.keep k34 (fun e => e))
      have B4 := Lib.hid (B3.out.keep k34 (fun e => e))
      have HR4 := Lib.hid (HR3.out.keep0 k34)
      have K4 := Lib.hid (K3.out.trans k34)
      clear k34 R3 C3 B3 HR3 K3 HS3 R2 C2 B2 HS2 HR2 K2
      obtain ⟨ie, z, hie, hiz, his⟩ := info_is (P := Tryz.prog) (t := 102) (n := 408) (by kernel_rfl)
      have hct : Contig (fun i => some (i * ie.size, ie.size)) 0 [(0, Value.agg mbV)] := ⟨by show some (0 * ie.size, ie.size) = some (0, mbV.size); rw [his, mbV_size], trivial⟩
      have hal : (allCells [(0, Value.agg mbV)]).length = 1 * ie.size := by rw [his]; kernel_rfl
      have eal : (allCells [(0, Value.agg mbV)]).toArray = mbV := by kernel_rfl
      have hs1 : ¬ 1 * ie.size > 2 ^ 24 := by rw [his]; decide
      have hs2 : ¬ 1 * ie.size = 0 := by rw [his]; decide
      have tk6 : True := trivial
      have tk7 : True := trivial
      have tk8 : True := trivial
      go_upto_region 8 with (first | (have _t := tk6; refine wpList_load_part 102 (.tmp 29) rfl rfl (gb) (0) rfl (mbV) _ (D4.out.sub 0 mbV.toList (chV_mb m)) Tryz.underlying102 rfl (by rw [mbV_size]; kernel_rfl) ?_; go_frame; clear _t tk6) | (have _t := tk7; refine wpList_buildSlice_whole 88 102 1 _ rfl rfl Tryz.underlying88 hie hiz hs1 hs2 [(0, .agg mbV)] rfl hct hal ?_; intro w5 hb5_ k5_; rw [eal] at hb5_; have B5 := Lib.hid hb5_; have K5 := Lib.hid k5_; clear hb5_ k5_; go_frame; clear _t tk7) | (have _t := tk8; refine wpList_append1 rfl (.tmp 28) (.tmp 31) 88 102 rfl w4.heap.size _ 408 3200 Tryz.underlying88 mb_info (by kernel_rfl) (by decide) (.slice none 0 0) 0 [] rfl (World.ownsRow_nil _ _ _ _) w4.heap.size mbV rfl B5.out mbV_size (fun u hu => by have h := mbV_one; rw [Array.all_eq_true'] at h; exact h u (by simpa using hu)) (by decide) K5.out.size ?_; intro v6 w6 ho6_ k6_; have O6 := Lib.hid ho6_; have K6 := Lib.hid k6_; clear ho6_ k6_; go_frame; clear _t tk8))
      have k46 : Keep none_ w4 w6 := K5.out.then K6.out (fun b e => .inr e)
      obtain ⟨b, cap, cur, rfl, hb1, hb2, -, -, hb5, hb6⟩ := own_cases O6.out (by decide)
      have HB6 := Lib.hid (show w6.rangeAt b 0 mbV.toList from hb2.sub 0 mbV.toList (by
        have e : (0 + 1) * 408 = mbV.toList.length := by rw [Array.length_toList, mbV_size]
        rw [e] at hb6
        rw [List.drop_zero, hb6]; rfl))
      have LBB := Lib.hid (show w.heap.size < b from by have h1 := LS.out; have h2 := LB.out; have h3 := D4.out.lt; omega)
      have LBX := Lib.hid (show gb < b from by have h3 := D4.out.lt; omega)
      have R6 := Lib.hid (R4.out.keep k46 (fun e => e))
      have C6 := Lib.hid (C4.out.keep k46 (fun e => e))
      have B6 := Lib.hid (B4.out.keep k46 (fun e => e))
      have D6 := Lib.hid (D4.out.keep k46 (fun e => e))
      have HR6 := Lib.hid (HR4.out.keep0 k46)
      have KA6 := Lib.hid (K4.out.trans k46)
      clear k46 hb1 hb2 hb5 hb6 O6 K5 K6 R4 C4 B4 D4 HR4 K4 hie hiz his hct hal eal hs1 hs2 B5
      have tk9 : True := trivial
      have tk10 : True := trivial
      go_upto_region 9 with (first | (have _t := tk9; refine wpList_load_part 113 (.tmp 33) rfl rfl (gb) (409) rfl (stV) _ (D6.out.sub 409 stV.toList (chV_st m)) Tryz.underlying113 rfl (by rw [stV_size]; kernel_rfl) ?_; go_frame; clear _t tk9) | (have _t := tk10; refine wpList_store_blk rfl 113 (.tmp 6) (.tmp 34) rfl (gs) 113 _ (stV) rfl rfl (B6.out) (rfl) (by kernel_rfl) (by kernel_rfl) ?_; intro w7 B7_ K7_ sz_; have B7 := Lib.hid B7_; have K7 := Lib.hid K7_; clear B7_ K7_ sz_; go_frame; clear _t tk10))
      have NS := Lib.hid (show ∀ x, x ≠ gs → ¬ one gs x from fun x h e => h e)
      have R7 := Lib.hid (R6.out.keep K7.out (NS.out _ (by have := LS.out; omega)))
      have C7 := Lib.hid (C6.out.keep K7.out (NS.out _ (by have h1 := LS.out; have h2 := GC.out; omega)))
      have D7 := Lib.hid (D6.out.keep K7.out (NS.out _ (by have h1 := LB.out; omega)))
      have HR7 := Lib.hid (HR6.out.keep K7.out (fun e => Blk.ne_ HR6.out.y.1 B6.out (by decide) e) (fun e => Blk.ne_ HR6.out.u.1 B6.out (by decide) e) (fun e => Blk.ne_ HR6.out.v.1 B6.out (by decide) e))
      have HB7 := Lib.hid (rangeAt_keep HB6.out K7.out (NS.out _ (by have h1 := LB.out; have h2 := LBX.out; omega)))
      have KA7 := Lib.hid (KA6.out.own K7.out (by have := LS.out; omega))
      clear R6 C6 D6 HR6 HB6 KA6 B6 K7
      have FK : ∀ x y : World, (fun _ => True) x → Keep none_ x y → (fun _ : World => True) y := fun _ _ _ _ => trivial
      have F0 : (fun _ : World => True) w7 := trivial
      have FD : (fun _ : World => True) w7.drew := trivial
      obtain ⟨X12, S12, H12⟩ : ∃ X : List Value → Value → World → Prop, (∀ vs v w w', X vs v w → Keep (none_) w w' → X vs v w') ∧ ∀ vs v w, X vs v w ↔ (FrT w7.heap.size 128 v w) := ⟨fun vs v w => FrT w7.heap.size 128 v w, fun vs v w w' h k => by first | exact h | exact FrT.keep h k, fun _ _ _ => Iff.rfl⟩
      obtain ⟨X13, S13, H13⟩ : ∃ X : List Value → Value → World → Prop, (∀ vs v w w', X vs v w → Keep (none_) w w' → X vs v w') ∧ ∀ vs v w, X vs v w ↔ (FrE w7.heap.size 128 v w) := ⟨fun vs v w => FrE w7.heap.size 128 v w, fun vs v w w' h k => by first | exact h | exact FrE.keep h k, fun _ _ _ => Iff.rfl⟩
      obtain ⟨X16, S16, H16⟩ : ∃ X : List Value → Value → World → Prop, (∀ vs v w w', X vs v w → Keep (none_) w w' → X vs v w') ∧ ∀ vs v w, X vs v w ↔ (vs[0]? = some v) := ⟨fun vs v w => vs[0]? = some v, fun vs v w w' h k => by first | exact h | exact h, fun _ _ _ => Iff.rfl⟩
      have gd := genCalm_good (w7) (none_) (fun _ => True) (fun k => if k = 13 then [12] else []) [⟨12, X12, S12⟩, ⟨13, X13, S13⟩, ⟨16, X16, S16⟩]
      have ne := genCalm_some (w7) (none_) (fun _ => True) (fun k => if k = 13 then [12] else []) [⟨12, X12, S12⟩, ⟨13, X13, S13⟩, ⟨16, X16, S16⟩] F0
      refine wp_region_calm (genCalm (w7) (none_) (fun _ => True) (fun k => if k = 13 then [12] else []) [⟨12, X12, S12⟩, ⟨13, X13, S13⟩, ⟨16, X16, S16⟩]) [0, 1, 2, 3, 4, 5, 6, 7, 8, 9, 10, 11, 12, 13, 14, 15, 16, 17, 18] [19] 78 (by kernel_rfl) (by kernel_rfl) rfl gd ⟨(Keep.refl _ _).drew, FD⟩ ?_
      simp only [pairs, List.filterMap_cons, List.filterMap_nil, List.getElem?_toArray, List.getElem?_cons_succ, List.getElem?_cons_zero, Option.map_some]
      repeat (refine Calm.walk_quiet ne rfl rfl rfl (fun K hK => ?_); go_big_quiet_op; refine hK _ ?_; clear hK K)
      refine Calm.walk_load 32 (.tmp 38) rfl ne rfl rfl (gc) (196) rfl (frV r1 r2 r3) _ (fun y => by have k_ := genCalm_at y; have fF := genCalm_F y; exact (C7.out.keep k_ (fun e => e)).sub 196 (frV r1 r2 r3).toList (by kernel_rfl)) Tryz.underlying32 rfl (by kernel_rfl) ?_
      go_frame
      repeat (refine Calm.walk_quiet ne rfl rfl rfl (fun K hK => ?_); go_big_quiet_op; refine hK _ ?_; clear hK K)
      refine Calm.walk_load 102 (.tmp 43) rfl ne rfl rfl (gb) (0) rfl (mbV) _ (fun y => by have k_ := genCalm_at y; have fF := genCalm_F y; exact (D7.out.keep k_ (fun e => e)).sub 0 mbV.toList (chV_mb m)) Tryz.underlying102 rfl (by rw [mbV_size]; kernel_rfl) ?_
      go_frame
      repeat (refine Calm.walk_quiet ne rfl rfl rfl (fun K hK => ?_); go_big_quiet_op; refine hK _ ?_; clear hK K)
      refine Calm.walk_eff rfl rfl (fun n wy _ hR hA => ?_) ?_
      · have kR : Keep (none_) (w7) wy := hR.1; have fR := hR.2
        unfold gives
        go_simp
        refine (creconstruct_any gc A1 A2 A3 c1 c2 c3 (frV r1 r2 r3).toList wy (C7.out.keep kR (fun e => e))).mono ?_
        rintro e wz ⟨m1, m2, m3, rfl, hn, hk⟩
        exact ⟨_, rfl, (H12 _ _ _).2 (⟨m1, m2, m3, rfl, hn.low kR.size⟩), hk.weak, ⟨kR.trans hk.weak, FK _ _ fR hk⟩, fun _ h => h.elim⟩
      intro v wy hv
      obtain ⟨m1, m2, m3, rfl, -⟩ : FrT w7.heap.size 128 v wy := (H12 _ _ _).1 hv
      clear hv
      clear wy
      go_frame
      refine Calm.walk_eff rfl rfl (fun n wy _ hR hA => ?_) ?_
      · have kR : Keep (none_) (w7) wy := hR.1; have fR := hR.2
        have AF12 := (H12 _ _ _).1 (show X12 _ _ wy from (hA 12 (by simp [genCalm]) _ rfl ⟨rfl, rfl⟩).1)
        unfold gives
        go_simp
        refine (setmb_any x 128 (by decide) (some ⟨r1, 0, none⟩) (some ⟨r2, 0, none⟩) (some ⟨r3, 0, none⟩) 256 64 64 m1 m2 m3 w7.heap.size wy ((HR7.out.keep0 kR).frC HX.out) (FrT.out_ (show FrT w7.heap.size 128 (.agg (frV m1 m2 m3)) wy from AF12))).mono ?_
        rintro e wz ⟨d1, d2, d3, rfl, hn, hk⟩
        exact ⟨_, rfl, (H13 _ _ _).2 (⟨d1, d2, d3, rfl, hn.low kR.size⟩), hk.weak, ⟨kR.trans hk.weak, FK _ _ fR hk⟩, fun _ h => h.elim⟩
      intro v wy hv
      obtain ⟨d1, d2, d3, rfl, -⟩ : FrE w7.heap.size 128 v wy := (H13 _ _ _).1 hv
      clear hv
      clear wy
      go_frame
      repeat (refine Calm.walk_quiet ne rfl rfl rfl (fun K hK => ?_); go_big_quiet_op; refine hK _ ?_; clear hK K)
      refine Calm.walk_eff rfl rfl (fun n wy _ hR hA => ?_) ?_
      · have kR : Keep (none_) (w7) wy := hR.1; have fR := hR.2
        unfold gives
        go_simp
        refine (mustFr (frV d1 d2 d3) rfl (by kernel_rfl) wy).mono ?_
        rintro e wz ⟨rfl, hk⟩
        exact ⟨_, rfl, (H16 _ _ _).2 (rfl), hk.weak, ⟨kR.trans hk.weak, FK _ _ fR hk⟩, fun _ h => h.elim⟩
      intro v wy hv
      obtain rfl : v = .agg (frV d1 d2 d3) := (Option.some.inj (show some (.agg (frV d1 d2 d3)) = some v from (H16 _ _ _).1 hv)).symm
      clear hv
      clear wy
      go_frame
      repeat (refine Calm.walk_quiet ne rfl rfl rfl (fun K hK => ?_); go_big_quiet_op; refine hK _ ?_; clear hK K)
      intro w8 hG hD
      have K8 := Lib.hid (show Keep (none_) (w7) w8 from hG.1)
      have FK8 := Lib.hid (show (fun _ => True) w8 from hG.2)
      have T12 := Lib.hid ((H12 _ _ _).1 (show X12 _ _ w8 from (hD.1 12 rfl _ rfl ⟨rfl, rfl⟩).1))
      have T13 := Lib.hid ((H13 _ _ _).1 (show X13 _ _ w8 from (hD.1 13 rfl _ rfl ⟨rfl, rfl⟩).1))
      clear hG hD gd ne 
      clear H12 H13 H16
      clear S12 S13 S16
      clear X12 X13 X16
      simp only [pickOps, List.filterMap_cons, List.filterMap_nil, List.getElem?_toArray, List.getElem?_cons_succ, List.getElem?_cons_zero]
      have N8 := Lib.hid (FrE.out_ (show FrE w7.heap.size 128 (.tuple #[.agg (frV d1 d2 d3), .int .i64 0]) w8 from T13.out))
      have R8 := Lib.hid (R7.out.keep K8.out (fun e => e))
      have C8 := Lib.hid (C7.out.keep K8.out (fun e => e))
      have HB8 := Lib.hid (rangeAt_keep HB7.out K8.out (fun e => e))
      have KA8 := Lib.hid (KA7.out.trans K8.out)
      have L7 := Lib.hid (show w.heap.size < w7.heap.size from R7.out.lt)
      clear T12 T13 FK F0 FD FK8 R7 C7 D7 HR7 HB7 KA7
      refine wpList_store_part rfl 32 (.tmp 53) (.tmp 51) rfl gc 196 67 (cdV (srV A1 A2 A3 c1 c2 c3) (frV r1 r2 r3).toList) (frV d1 d2 d3) rfl rfl C8.out (by show 196 + 5 ≤ 201; decide) (by kernel_rfl) (by kernel_rfl) ?_
      intro w9 hc9 hk9 hs9
      have C9 := Lib.hid (show Blk w9 gc 67 (cdV (srV A1 A2 A3 c1 c2 c3) (frV d1 d2 d3).toList) from by
        rw [show laid (cdV (srV A1 A2 A3 c1 c2 c3) (frV r1 r2 r3).toList) 196 (frV d1 d2 d3).toList = cdV (srV A1 A2 A3 c1 c2 c3) (frV d1 d2 d3).toList from by kernel_rfl] at hc9
        exact hc9)
      have NC := Lib.hid (show ∀ x, w.heap.size ≤ x → ¬ one gc x from fun x h e => by have := GC.out; unfold one at e; omega)
      have R9 := Lib.hid (R8.out.keep hk9 (NC.out _ (Nat.le_refl _)))
      have N9 := Lib.hid (N8.out.keep hk9 (NC.out _ (by have h1 := N8.out.l1; have h2 := L7.out; omega)) (NC.out _ (by have h1 := N8.out.l2; have h2 := L7.out; omega)) (NC.out _ (by have h1 := N8.out.l3; have h2 := L7.out; omega)))
      have HB9 := Lib.hid (rangeAt_keep HB8.out hk9 (NC.out _ (by have := LBB.out; omega)))
      have KA9 := Lib.hid (show Keep (one gc) w w9 from KA8.out.weak.trans hk9)
      clear hc9 hk9 hs9 C8 R8 N8 HB8 KA8
      go_frame
      go_wp2_with (fail)
      go_roundw
      case rel => exact .inr ⟨rfl, b, cap, d1, d2, d3, rfl, LBB.out, HB9.out, R9.out, C9.out, N9.out.low (by have := L7.out; omega), KA9.out⟩
      case measure => simp [intOf]
    · have HB := Lib.hid hb
      have HR := Lib.hid hr
      have HC := Lib.hid hc
      have HN := Lib.hid hn
      have HK := Lib.hid hk
      clear hb hr hc hn hk
      go_upto_region 11 with (fail)
      obtain ⟨X19, S19, H19⟩ : ∃ X : List Value → Value → World → Prop, (∀ vs v w w', X vs v w → Keep none_ w w' → X vs v w') ∧ ∀ vs v w, X vs v w ↔ (∃ u, v = .tuple #[.agg (unV u), .int .i64 0]) := ⟨fun vs v w => ∃ u, v = .tuple #[.agg (unV u), .int .i64 0], fun vs v w w' h k => by first | exact h | exact h, fun _ _ _ => Iff.rfl⟩
      obtain ⟨X22, S22, H22⟩ : ∃ X : List Value → Value → World → Prop, (∀ vs v w w', X vs v w → Keep none_ w w' → X vs v w') ∧ ∀ vs v w, X vs v w ↔ (vs[0]? = some v) := ⟨fun vs v w => vs[0]? = some v, fun vs v w w' h k => by first | exact h | exact h, fun _ _ _ => Iff.rfl⟩
      have gd := pureCalm_good (wr) [⟨19, X19, S19⟩, ⟨22, X22, S22⟩]
      have ne := pureCalm_some (wr) [⟨19, X19, S19⟩, ⟨22, X22, S22⟩]
      have xs : ∀ y : (pureCalm (wr) [⟨19, X19, S19⟩, ⟨22, X22, S22⟩]).Sub, ((pureCalm (wr) [⟨19, X19, S19⟩, ⟨22, X22, S22⟩]).at_ y).cell? ⟨gc, 3, none⟩ = some (.bool false) := fun y => by have k := pureCalm_at y; exact ((HC.out.keep k (fun e => e)).cell 3).trans (by kernel_rfl)
      have xq : ∀ y : (pureCalm (wr) [⟨19, X19, S19⟩, ⟨22, X22, S22⟩]).Sub, ((pureCalm (wr) [⟨19, X19, S19⟩, ⟨22, X22, S22⟩]).at_ y).cell? ⟨gc, 145, none⟩ = some (.int .i64 8) := fun y => by have k := pureCalm_at y; exact ((HC.out.keep k (fun e => e)).cell 145).trans (by kernel_rfl)
      refine wp_region_calm (pureCalm (wr) [⟨19, X19, S19⟩, ⟨22, X22, S22⟩]) [0, 1, 2, 3, 4, 5, 6, 7, 8, 9, 10, 11, 12, 13, 14, 15, 16, 17, 18, 19, 20, 21, 22] [23] 78 (by kernel_rfl) (by kernel_rfl) rfl gd (Keep.refl _ _).drew ?_
      simp only [pairs, List.filterMap_cons, List.filterMap_nil, List.getElem?_toArray, List.getElem?_cons_succ, List.getElem?_cons_zero, Option.map_some]
      repeat (refine Calm.walk_quiet ne rfl rfl rfl (fun K hK => ?_); go_big_quiet_op; refine hK _ ?_; clear hK K)
      refine Calm.walk_load 26 (.tmp 57) rfl ne rfl rfl (gc) (4) rfl (plV) _ (fun y => by have k_ := pureCalm_at y; exact (HC.out.keep k_ (fun e => e)).sub 4 plV.toList (by kernel_rfl)) Tryz.underlying26 rfl (by rw [plV_size]; kernel_rfl) ?_
      go_frame
      repeat (refine Calm.walk_quiet ne rfl rfl rfl (fun K hK => ?_); go_big_quiet_op; refine hK _ ?_; clear hK K)
      refine Calm.walk_load 35 (.tmp 61) rfl ne rfl rfl (gc) (139) rfl (plP) _ (fun y => by have k_ := pureCalm_at y; exact (HC.out.keep k_ (fun e => e)).sub 139 plP.toList (by kernel_rfl)) Tryz.underlying35 rfl (by kernel_rfl) ?_
      go_frame
      repeat (refine Calm.walk_quiet ne rfl rfl rfl (fun K hK => ?_); go_big_quiet_op; refine hK _ ?_; clear hK K)
      refine Calm.walk_eff rfl rfl (fun n wy _ hR hA => ?_) ?_
      · have kR : Keep none_ (wr) wy := hR
        unfold gives
        go_simp
        refine (putSlice_any b c wy (rangeAt_keep HB.out kR (fun e => e))).mono ?_
        rintro e wz ⟨u, rfl, hk⟩
        exact ⟨_, rfl, (H19 _ _ _).2 (⟨u, rfl⟩), hk, kR.trans hk, fun _ h => h.elim⟩
      intro v wy hv
      obtain ⟨u, rfl⟩ : ∃ u, v = .tuple #[.agg (unV u), .int .i64 0] := (H19 _ _ _).1 hv
      clear hv
      clear wy
      go_frame
      repeat (refine Calm.walk_quiet ne rfl rfl rfl (fun K hK => ?_); go_big_quiet_op; refine hK _ ?_; clear hK K)
      refine Calm.walk_eff rfl rfl (fun n wy _ hR hA => ?_) ?_
      · have kR : Keep none_ (wr) wy := hR
        unfold gives
        go_simp
        refine (mustUn (unV u) rfl (by kernel_rfl) wy).mono ?_
        rintro e wz ⟨rfl, hk⟩
        exact ⟨_, rfl, (H22 _ _ _).2 (rfl), hk, kR.trans hk, fun _ h => h.elim⟩
      intro v wy hv
      obtain rfl : v = .agg (unV u) := (Option.some.inj (show some (.agg (unV u)) = some v from (H22 _ _ _).1 hv)).symm
      clear hv
      clear wy
      go_frame
      intro w2' hG hD
      have K2' := Lib.hid (show Keep none_ (wr) w2' from hG)
      have T19 := Lib.hid ((H19 _ _ _).1 (show X19 _ _ w2' from (hD.1 19 rfl _ rfl ⟨rfl, rfl⟩).1))
      clear hG hD gd ne xs xq
      clear H19 H22
      clear S19 S22
      clear X19 X22
      simp only [pickOps, List.filterMap_cons, List.filterMap_nil, List.getElem?_toArray, List.getElem?_cons_succ, List.getElem?_cons_zero]
      have R2' := Lib.hid (HR.out.keep K2'.out (fun e => e))
      clear T19
      refine wpList_store_blk rfl 60 (.tmp 4) (.tmp 77) rfl (w.heap.size) 60 _ (unV u) rfl rfl (R2'.out) (rfl) (by kernel_rfl) (by kernel_rfl) ?_
      intro w3' B3'_ K3'_ sz_
      have B3' := Lib.hid B3'_
      have K3' := Lib.hid K3'_
      clear B3'_ K3'_ sz_
      go_frame
      go_wp2
      have nn : ∀ x, w.heap.size < x ∨ x < w.heap.size → ¬ one w.heap.size x := fun x h e => by unfold one at e; omega
      have c3 := (HC.out.keep K2'.out (fun e => e)).keep K3'.out (nn _ (.inr GC.out))
      have n2 := HN.out.keep0 K2'.out
      have n3 := n2.keep K3'.out (nn _ (.inl (by have := n2.l1; omega))) (nn _ (.inl (by have := n2.l2; omega))) (nn _ (.inl (by have := n2.l3; omega)))
      refine bodyPost_ret (results_cell Tryz.results23 rfl (run_loadVar_blk B3'.out Tryz.underlying60 rfl (by kernel_rfl))) rfl ⟨u, d1, d2, d3, rfl, c3, n3.low (Nat.zero_le _), (HK.out.trans K2'.out.weak).then K3'.out (fun x e => .inr (by unfold one at e; omega))⟩
end Go.Proofs.YtebdgoikmclflaaGreatDoor
