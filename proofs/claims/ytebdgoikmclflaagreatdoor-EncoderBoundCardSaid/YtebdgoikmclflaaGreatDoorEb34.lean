/-
  macroblock.Put of the Intra macroblock without levels other than 0.
-/
import Derived.Test.YtebdgoikmclflaaGreatDoorEb33
namespace Go.Proofs.YtebdgoikmclflaaGreatDoor
open Go.RowKit

/-- How many bits the first k parts write. -/
def cum (k : Nat) : Nat := if k ≤ 2 then 0 else if k ≤ 4 then 1 else 13
def MPutPost (g : Nat) (v : Value) (n : Nat) (w : World) (e : Ending) (w' : World) : Prop := ∃ v', e = .returned (.tuple #[.agg stV, .int .i64 0]) ∧ WrX w' g v' (n + 13) ∧ Up g v v' w w'
set_option maxRecDepth 100000 in
set_option maxHeartbeats 4000000 in
theorem mput_any (g : Nat) (v0 : Value) (n : Nat) (w : World) (hn : n ≤ 800) (hw : WrX w g v0 n) : Calls Tryz.prog 95 #[.pointer (some ⟨g, 0, none⟩), .agg #[.int .i64 1, .int .i64 3, .bool false, .bool false], .agg stV, .agg mbV] w (MPutPost g v0 n w) := by
  have ze : ∀ w, (zeroValue 113).run Tryz.prog w = .ok (.agg #[.int .i64 0, .int .i64 0, .int .i64 0, .int .i64 0, .int .i64 0, .int .i64 0, .int .i64 0, .int .i64 0]) w := fun w => by kernel_rfl
  obtain ⟨zp, hzp⟩ : ∃ zp, (∀ w, (zeroValue 197).run Tryz.prog w = .ok (.agg zp) w) ∧ zp.size = 14 := ⟨#[.int .i64 0, .int .i64 0, .int .i64 0, .int .i64 0, .int .i64 0, .int .i64 0, .int .i64 0, .int .i64 0, .pointer none, .int .i64 0, .int .i64 0, .bool false, .bool false, .pointer none], fun w => by kernel_rfl, rfl⟩
  obtain ⟨zpr, zps⟩ := hzp
  have ZPS := Lib.hid zps
  clear zps
  obtain ⟨W0, hW0⟩ : ∃ W0, W0 = (((w.alloc (.cells #[.int .i64 1, .int .i64 3, .bool false, .bool false] 63)).alloc (.cells stV 113)).alloc (.cells mbV 102)).alloc (.cells #[.int .i64 0, .int .i64 0, .int .i64 0, .int .i64 0, .int .i64 0, .int .i64 0, .int .i64 0, .int .i64 0] 113) := ⟨_, rfl⟩
  obtain ⟨Wa, hWa⟩ : ∃ Wa, Wa = ((w.alloc (.cells #[.int .i64 1, .int .i64 3, .bool false, .bool false] 63)).alloc (.cells stV 113)).alloc (.cells mbV 102) := ⟨_, rfl⟩
  obtain ⟨c0, s0, m0, ka⟩ := three (Keep.eq_ hWa)
  have sz : Wa.heap.size = w.heap.size + 1 + 1 + 1 := by rw [hWa]; simp
  rw [← hWa] at hW0
  have k1 : Keep none_ Wa W0 := hW0 ▸ (Keep.refl _ _).alloc _
  have C0 := Lib.hid (c0.keep k1 (fun e => e))
  have S0 := Lib.hid (s0.keep k1 (fun e => e))
  have M0 := Lib.hid (m0.keep k1 (fun e => e))
  have R0 := Lib.hid (show Blk W0 (w.heap.size + 1 + 1 + 1) 113 #[.int .i64 0, .int .i64 0, .int .i64 0, .int .i64 0, .int .i64 0, .int .i64 0, .int .i64 0, .int .i64 0] from sz ▸ hW0 ▸ Blk.new _ _ _)
  have K0 := Lib.hid (ka.trans k1)
  have HW := Lib.hid (hw.up (ka.trans k1))
  have S00 := Lib.hid (show w.heap.size + 1 + 1 + 1 < W0.heap.size from (show Blk _ _ _ _ from R0.out).lt)
  rw [hWa] at hW0
  clear c0 s0 m0 ka k1 sz hWa hw
  have t1 : True := trivial
  have t2 : True := trivial
  have t3 : True := trivial
  have t4 : True := trivial
  have t5 : True := trivial
  go_enter Tryz.func95, Tryz.ntmps95
  go_upto_region 1 with (fail)
  rw [← hW0]
  clear hW0
  go_upto_region 3 with (first | (have _t := t1; refine wpList_load_part 63 (.tmp 5) rfl rfl w.heap.size 0 rfl #[.int .i64 1, .int .i64 3, .bool false, .bool false] _ C0.out.rangeAt Tryz.underlying63 rfl (by kernel_rfl) ?_; go_frame; clear _t t1) | (have _t := t2; refine wpList_load_part 102 (.tmp 7) rfl rfl (w.heap.size + 1 + 1) 0 rfl mbV _ M0.out.rangeAt Tryz.underlying102 rfl (by rw [mbV_size]; kernel_rfl) ?_; go_frame; clear _t t2) | (have _t := t3; go_at_call 75; refine (formed_mb W0).mono ?_; rintro e w2 ⟨rfl, k2⟩; have KX2 := Lib.hid k2; have S2 := Lib.hid (S0.out.keep k2 (fun e => e)); clear k2 _t t3) | (have _t := t4; refine wpList_load_part 113 (.tmp 6) rfl rfl (w.heap.size + 1) 0 rfl stV _ S2.out.rangeAt Tryz.underlying113 rfl (by kernel_rfl) ?_; go_frame; clear _t t4) | (have _t := t5; go_at_call 99; refine (svalid_any w2).mono ?_; rintro e w3 ⟨rfl, k3⟩; have KX3 := Lib.hid (KX2.out.trans k3); clear k3 _t t5))
  have C3 := Lib.hid (C0.out.keep KX3.out (fun e => e))
  have S3 := Lib.hid (S0.out.keep KX3.out (fun e => e))
  have M3 := Lib.hid (M0.out.keep KX3.out (fun e => e))
  have R3 := Lib.hid (R0.out.keep KX3.out (fun e => e))
  have K3 := Lib.hid (K0.out.trans KX3.out)
  have W3 := Lib.hid (HW.out.up KX3.out)
  have S30 := Lib.hid (Nat.lt_of_lt_of_le S00.out KX3.out.size)
  clear S2 KX2 KX3 C0 S0 M0 R0
  have x0 : w3.cell? ⟨w.heap.size + 1, 0, none⟩ = some (.int .i64 8) := S3.out.cell 0
  have x17 : w3.cell? ⟨w.heap.size + 1 + 1, 17, none⟩ = some (.int .i64 0) := M3.out.cell 17
  have t6 : True := trivial
  have t7 : True := trivial
  have t8 : True := trivial
  have t9 : True := trivial
  have u1 : True := trivial
  go_upto_region 6 with (first | (have _t := t6; go_at_call 76; refine (vqM 8 _).mono ?_; rintro e w' ⟨rfl, rfl⟩; clear _t t6) | (have _t := t7; refine wpList_load_part 113 (.tmp 6) rfl rfl (w.heap.size + 1) 0 rfl stV _ S3.out.rangeAt Tryz.underlying113 rfl (by kernel_rfl) ?_; go_frame; clear _t t7) | (have _t := t8; refine wpList_load_part 63 (.tmp 5) rfl rfl w.heap.size 0 rfl #[.int .i64 1, .int .i64 3, .bool false, .bool false] _ C3.out.rangeAt Tryz.underlying63 rfl (by kernel_rfl) ?_; go_frame; clear _t t8) | (have _t := t9; refine wpList_build_is 197 _ rfl rfl (pV g (w.heap.size + 1 + 1)) (by kernel_rfl) ?_; go_frame; clear _t t9) | (have _t := u1; refine wpList_store_blk rfl 197 (.tmp 10) (.tmp 38) rfl w3.heap.size 197 _ (pV g (w.heap.size + 1 + 1)) rfl rfl (Blk.new _ _ _) (by rw [ZPS.out]; rfl) (by kernel_rfl) (by kernel_rfl) ?_; intro w4 h5 k5 s5; have P4 := Lib.hid h5; have KX4 := Lib.hid (show Keep none_ w3 w4 from ((Keep.refl none_ w3).alloc _).own k5 (Nat.le_refl _)); clear h5 k5 s5; go_frame; clear _t u1))
  clear x0 x17
  obtain ⟨p, hp⟩ : ∃ p, p = w3.heap.size := ⟨_, rfl⟩
  have LP := Lib.hid (show w.heap.size ≤ p from by have := S30.out; omega)
  rw [← hp] at P4 ⊢
  clear hp
  obtain ⟨bm, hbm⟩ : ∃ bm, bm = w.heap.size + 1 + 1 := ⟨_, rfl⟩
  have M4 := Lib.hid (show Blk w4 bm 102 mbV from hbm ▸ M3.out.keep KX4.out (fun e => e))
  have R4 := Lib.hid (show Blk w4 (bm + 1) 113 _ from hbm ▸ R3.out.keep KX4.out (fun e => e))
  have LB := Lib.hid (show w.heap.size ≤ bm + 1 from by omega)
  rw [← hbm] at P4 ⊢
  clear hbm
  have K4 := Lib.hid (K3.out.trans KX4.out)
  have W4 := Lib.hid (W3.out.up KX4.out)
  go_wp2_with (fail)
  obtain ⟨w5, hw5⟩ : ∃ w5, w5 = w4.alloc (.cells #[.func (.func 136) #[] #[], .func (.func 137) #[] #[], .func (.func 138) #[] #[], .func (.func 139) #[] #[], .func (.func 140) #[] #[]] 198) := ⟨_, rfl⟩
  rw [← hw5]
  have k5 : Keep none_ w4 w5 := hw5 ▸ (Keep.refl none_ w4).alloc _
  have F5 := Lib.hid (show Blk w5 w4.heap.size 198 #[.func (.func 136) #[] #[], .func (.func 137) #[] #[], .func (.func 138) #[] #[], .func (.func 139) #[] #[], .func (.func 140) #[] #[]] from hw5 ▸ Blk.new _ _ _)
  have P5 := Lib.hid (P4.out.keep k5 (fun e => e))
  have M5 := Lib.hid (M4.out.keep k5 (fun e => e))
  have R5 := Lib.hid (R4.out.keep k5 (fun e => e))
  have W5 := Lib.hid (W4.out.up k5)
  have K5 := Lib.hid (K4.out.trans k5)
  clear hw5 k5
  obtain ⟨fs, hfs⟩ : ∃ fs, fs = w4.heap.size := ⟨_, rfl⟩
  rw [← hfs] at F5 ⊢
  clear hfs
  go_loopw [41] (fun i wr => ∃ k : Nat, k ≤ 5 ∧ i = .int .i64 k ∧ ∃ vv, WrX wr g vv (n + cum k) ∧ Blk wr p 197 (pV g bm) ∧ Blk wr bm 102 mbV ∧ Keep (fun b => wset g v0 b ∨ b = p) w5 wr ∧ ∀ b, ofBlk vv b → ofBlk v0 b ∨ w5.heap.size ≤ b) (fun i _ => 5 - (intOf i).toNat)
  case atStart => exact ⟨0, by decide, rfl, v0, W5.out, P5.out, M5.out, Keep.refl _ _, fun _ h => .inl h⟩
  case round =>
    obtain ⟨k, hk, rfl, vv, hw, hp, hm, hkr, hat⟩ := hrel
    have Wr := Lib.hid hw
    have Pr := Lib.hid hp
    have Mr := Lib.hid hm
    have Kr := Lib.hid hkr
    have ATr := Lib.hid hat
    have Fr := Lib.hid (F5.out.keep hkr (fun e => by
      rcases e with e | e
      · exact W5.out.off F5.out (by decide) (by decide) e
      · exact Blk.ne_ F5.out P5.out (by decide) e))
    clear hw hp hm hkr hat
    by_cases hlt : k < 5
    · rcases (show k = 0 ∨ k = 1 ∨ k = 2 ∨ k = 3 ∨ k = 4 by omega) with rfl | rfl | rfl | rfl | rfl
      · have xf : wr.cell? ⟨fs, 0, none⟩ = some (.func (.func 136) #[] #[]) := Fr.out.cell 0
        have tt : True := trivial
        go_wp2_with (have _t := tt; go_at_call 136; refine (kind_any g p bm vv (n + cum 0) wr Wr.out Pr.out Mr.out).mono ?_; rintro e w6 ⟨rfl, v2, hw2, hp2, hm2, hk2, hat2⟩; have W6 := Lib.hid hw2; have P6 := Lib.hid hp2; have M6 := Lib.hid hm2; have K6 := Lib.hid hk2; have A6 := Lib.hid hat2; clear hw2 hp2 hm2 hk2 hat2 _t tt)
        go_roundw
        case rel =>
         repeat apply Exists.intro
         refine ⟨?_, rfl⟩
         exact ⟨1, by decide, by go_num, v2, W6.out, P6.out, M6.out, Kr.out.then K6.out (fun b e => by
          rcases e with (e | e) | e
          · exact .inl (.inl (.inl e))
          · exact (ATr.out b e).imp (fun e => .inl (.inr e)) id
          · exact .inl (.inr e)), fun b hb => by
          rcases A6.out b hb with e | e
          · exact ATr.out b e
          · exact .inr (Nat.le_trans Kr.out.size e)⟩
        case measure => simp [intOf]
      · have xf : wr.cell? ⟨fs, 1, none⟩ = some (.func (.func 137) #[] #[]) := Fr.out.cell 1
        have tt : True := trivial
        go_wp2_with (have _t := tt; go_at_call 137; refine (prediction_any g p bm vv (n + cum 1) wr Wr.out Pr.out Mr.out).mono ?_; rintro e w6 ⟨rfl, v2, hw2, hp2, hm2, hk2, hat2⟩; have W6 := Lib.hid hw2; have P6 := Lib.hid hp2; have M6 := Lib.hid hm2; have K6 := Lib.hid hk2; have A6 := Lib.hid hat2; clear hw2 hp2 hm2 hk2 hat2 _t tt)
        go_roundw
        case rel =>
         repeat apply Exists.intro
         refine ⟨?_, rfl⟩
         exact ⟨2, by decide, by go_num, v2, W6.out, P6.out, M6.out, Kr.out.then K6.out (fun b e => by
          rcases e with (e | e) | e
          · exact .inl (.inl (.inl e))
          · exact (ATr.out b e).imp (fun e => .inl (.inr e)) id
          · exact .inl (.inr e)), fun b hb => by
          rcases A6.out b hb with e | e
          · exact ATr.out b e
          · exact .inr (Nat.le_trans Kr.out.size e)⟩
        case measure => simp [intOf]
      · have xf : wr.cell? ⟨fs, 2, none⟩ = some (.func (.func 138) #[] #[]) := Fr.out.cell 2
        have tt : True := trivial
        go_wp2_with (have _t := tt; go_at_call 138; refine (change_any g p bm vv (n + cum 2) wr (by unfold cum; simp; omega) Wr.out Pr.out Mr.out).mono ?_; rintro e w6 ⟨rfl, v2, hw2, hp2, hm2, hk2, hat2⟩; have W6 := Lib.hid hw2; have P6 := Lib.hid hp2; have M6 := Lib.hid hm2; have K6 := Lib.hid hk2; have A6 := Lib.hid hat2; clear hw2 hp2 hm2 hk2 hat2 _t tt)
        go_roundw
        case rel =>
         repeat apply Exists.intro
         refine ⟨?_, rfl⟩
         exact ⟨3, by decide, by go_num, v2, W6.out, P6.out, M6.out, Kr.out.then K6.out (fun b e => by
          rcases e with (e | e) | e
          · exact .inl (.inl (.inl e))
          · exact (ATr.out b e).imp (fun e => .inl (.inr e)) id
          · exact .inl (.inr e)), fun b hb => by
          rcases A6.out b hb with e | e
          · exact ATr.out b e
          · exact .inr (Nat.le_trans Kr.out.size e)⟩
        case measure => simp [intOf]
      · have xf : wr.cell? ⟨fs, 3, none⟩ = some (.func (.func 139) #[] #[]) := Fr.out.cell 3
        have tt : True := trivial
        go_wp2_with (have _t := tt; go_at_call 139; refine (coded_any g p bm vv (n + cum 3) wr Wr.out Pr.out Mr.out).mono ?_; rintro e w6 ⟨rfl, v2, hw2, hp2, hm2, hk2, hat2⟩; have W6 := Lib.hid hw2; have P6 := Lib.hid hp2; have M6 := Lib.hid hm2; have K6 := Lib.hid hk2; have A6 := Lib.hid hat2; clear hw2 hp2 hm2 hk2 hat2 _t tt)
        go_roundw
        case rel =>
         repeat apply Exists.intro
         refine ⟨?_, rfl⟩
         exact ⟨4, by decide, by go_num, v2, W6.out, P6.out, M6.out, Kr.out.then K6.out (fun b e => by
          rcases e with (e | e) | e
          · exact .inl (.inl (.inl e))
          · exact (ATr.out b e).imp (fun e => .inl (.inr e)) id
          · exact .inl (.inr e)), fun b hb => by
          rcases A6.out b hb with e | e
          · exact ATr.out b e
          · exact .inr (Nat.le_trans Kr.out.size e)⟩
        case measure => simp [intOf]
      · have xf : wr.cell? ⟨fs, 4, none⟩ = some (.func (.func 140) #[] #[]) := Fr.out.cell 4
        have tt : True := trivial
        go_wp2_with (have _t := tt; go_at_call 140; refine (levels_any g p bm vv (n + cum 4) wr (by unfold cum; simp; omega) Wr.out Pr.out Mr.out).mono ?_; rintro e w6 ⟨rfl, v2, hw2, hp2, hm2, hk2, hat2⟩; have W6 := Lib.hid hw2; have P6 := Lib.hid hp2; have M6 := Lib.hid hm2; have K6 := Lib.hid hk2; have A6 := Lib.hid hat2; clear hw2 hp2 hm2 hk2 hat2 _t tt)
        go_roundw
        case rel =>
         repeat apply Exists.intro
         refine ⟨?_, rfl⟩
         exact ⟨5, by decide, by go_num, v2, W6.out, P6.out, M6.out, Kr.out.then K6.out (fun b e => by
          rcases e with (e | e) | e
          · exact .inl (.inl (.inl e))
          · exact (ATr.out b e).imp (fun e => .inl (.inr e)) id
          · exact .inl (.inr e)), fun b hb => by
          rcases A6.out b hb with e | e
          · exact ATr.out b e
          · exact .inr (Nat.le_trans Kr.out.size e)⟩
        case measure => simp [intOf]
    · obtain rfl : k = 5 := by omega
      have x0 : wr.cell? ⟨bm, 0, none⟩ = some (.int .i64 1) := Mr.out.cell 0
      have NR := Lib.hid (show ¬ (fun b => wset g v0 b ∨ b = p) (bm + 1) from fun e => by
        rcases e with e | e
        · exact W5.out.off R5.out (by decide) (by decide) e
        · exact Blk.ne_ R5.out P5.out (by decide) e)
      have Rr := Lib.hid (R5.out.keep Kr.out NR.out)
      have t1 : True := trivial
      have t2 : True := trivial
      have t3 : True := trivial
      clear hlt hk
      go_wp2_with (first | (have _t := t1; refine wpList_load_part 113 (.tmp 48) rfl rfl p 0 rfl stV _ (Pr.out.sub _ _ rfl) Tryz.underlying113 rfl (by kernel_rfl) ?_; go_frame; clear _t t1) | (have _t := t2; go_at_call 105; refine (after_any wr).mono ?_; rintro e w7 ⟨rfl, k7⟩; have K7 := Lib.hid k7; clear k7 _t t2) | (have _t := t3; refine wpList_store_blk rfl 113 (.tmp 8) (.tmp 52) rfl (bm + 1) 113 _ stV rfl rfl (Rr.out.keep K7.out (fun e => e)) rfl (by kernel_rfl) (by kernel_rfl) ?_; intro w8 h5 k5 s5; have B8 := Lib.hid h5; have K8 := Lib.hid k5; clear h5 k5 s5; go_frame; clear _t t3))
      have WW := Lib.hid (Wr.out.up K7.out)
      have NB := Lib.hid (WW.out.off (Rr.out.keep K7.out (fun e => e)) (by decide) (by decide))
      have W8 := Lib.hid (show WrX w8 g vv (n + 13) from by
        obtain ⟨h1, xs, h2, h3⟩ := WW.out
        exact ⟨h1.keep K8.out (fun e => NB.out (.inl (Eq.symm e))), xs, own_keep h2 K8.out (fun b hb e => NB.out (.inr (by cases e; exact hb))), h3⟩)
      have KA := Lib.hid (show Keep (wset g v0) w w8 from ((K5.out.weak.then Kr.out (fun b e => by
          rcases e with e | e
          · exact .inl e
          · exact .inr (by rw [e]; exact LP.out))).trans K7.out.weak).then K8.out (fun b e => .inr (by cases e; exact LB.out)))
      refine bodyPost_ret (results_cell_tmp' Tryz.results95 rfl (run_loadVar_blk B8.out Tryz.underlying113 rfl (by kernel_rfl))) rfl ⟨vv, rfl, W8.out, KA.out, fun b hb => (ATr.out b hb).imp id (fun h => Nat.le_trans K5.out.size h)⟩
end Go.Proofs.YtebdgoikmclflaaGreatDoor
