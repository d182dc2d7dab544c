/-
  macroblock's putter: the levels.
-/
import Derived.Test.YtebdgoikmclflaaGreatDoorEb32
namespace Go.Proofs.YtebdgoikmclflaaGreatDoor
open Go.RowKit

set_option maxRecDepth 100000 in
set_option maxHeartbeats 4000000 in
theorem levels_any (g p bm : Nat) (v0 : Value) (n : Nat) (w : World) (hn : n ≤ 900) (hw : WrX w g v0 n) (hp : Blk w p 197 (pV g bm)) (hm : Blk w bm 102 mbV) : Calls Tryz.prog 140 #[.pointer (some ⟨p, 0, none⟩)] w (PartPost g p bm v0 n 12 w) := by
  have x13 : w.cell? ⟨p, 13, none⟩ = some (.pointer (some ⟨bm, 0, none⟩)) := hp.cell 13
  have H0 := Lib.hid hw
  have HP := Lib.hid hp
  have HM := Lib.hid hm
  clear hw hp hm
  have t1 : True := trivial
  go_enter Tryz.func140, Tryz.ntmps140
  go_wp2_with (have _t := t1; refine wpList_load_part 98 (.tmp 10) rfl rfl bm 18 rfl six _ (HM.out.sub _ _ (by kernel_rfl)) Tryz.underlying98 rfl (by kernel_rfl) ?_; go_frame; clear _t t1)
  clear x13
  go_loopw [12] (fun i wr => ∃ k : Nat, k ≤ 6 ∧ i = .int .i64 k ∧ ∃ vv, WrX wr g vv (n + 2 * k) ∧ Blk wr p 197 (pV g bm) ∧ Blk wr bm 102 mbV ∧ Keep (fun b => wset g v0 b ∨ b = p) w wr ∧ ∀ b, ofBlk vv b → ofBlk v0 b ∨ w.heap.size ≤ b) (fun i _ => 6 - (intOf i).toNat)
  case atStart => exact ⟨0, by decide, rfl, v0, H0.out, HP.out, HM.out, Keep.refl _ _, fun _ h => .inl h⟩
  case round =>
    obtain ⟨k, hk, rfl, vv, hw, hp, hm, hkr, hat⟩ := hrel
    have HWr := Lib.hid hw
    have Pr := Lib.hid hp
    have Mr := Lib.hid hm
    have Kr := Lib.hid hkr
    have ATr := Lib.hid hat
    clear hw hp hm hkr hat
    by_cases hlt : k < 6
    · have hlt' : (k : Int) < 6 := by omega
      have hix := run_index_6 six k (.bool true) hlt (by rcases (show k = 0 ∨ k = 1 ∨ k = 2 ∨ k = 3 ∨ k = 4 ∨ k = 5 by omega) with rfl | rfl | rfl | rfl | rfl | rfl <;> rfl)
      have x13 : wr.cell? ⟨p, 13, none⟩ = some (.pointer (some ⟨bm, 0, none⟩)) := Pr.out.cell 13
      have x0 : wr.cell? ⟨bm, 0, none⟩ = some (.int .i64 1) := Mr.out.cell 0
      go_upto_region 6 with (fail)
      clear x13 x0 hix
      obtain ⟨c, hc⟩ : ∃ c : Nat, c = k - 3 := ⟨_, rfl⟩
      have CC := Lib.hid (fun w => hc ▸ component0 k hlt w)
      have c3 : c < 3 := by omega
      have c3' : (c : Int) < 3 := by omega
      clear hc
      have gd := valCalm_good wr [2] (fun _ => .int .i64 c)
      have ne := valCalm_some wr [2] (fun _ => .int .i64 c)
      refine wp_region_calm (valCalm wr [2] (fun _ => _)) [0, 1, 2, 3, 4, 5, 6, 7] [] 93 (by kernel_rfl) (by kernel_rfl) rfl gd (Keep.refl _ _).drew ?_
      simp only [pairs, List.filterMap_cons, List.filterMap_nil, List.getElem?_toArray, List.getElem?_cons_succ, List.getElem?_cons_zero, Option.map_some]
      repeat (refine Calm.walk_quiet ne rfl rfl rfl (fun K hK => ?_); go_big_quiet_op; refine hK _ ?_; clear hK K)
      refine Calm.walk_eff rfl rfl (fun m wy hm hG _ => ?_) ?_
      · have hG' : Keep none_ wr wy := hG
        unfold gives
        go_simp
        refine (CC.out wy).mono ?_
        rintro e wz ⟨rfl, rfl⟩
        exact ⟨_, rfl, rfl, Keep.refl _ _, hG', fun _ h => h.elim⟩
      intro vq wy hT
      have hT' : vq = .int .i64 c := hT
      subst hT'
      clear wy hT
      go_frame
      repeat (refine Calm.walk_quiet ne rfl rfl rfl (fun K hK => ?_); go_big_quiet_op; refine hK _ ?_; clear hK K)
      intro w5 hG hD
      have k5 : Keep none_ wr w5 := hG
      have HW5 := Lib.hid (HWr.out.up k5)
      have P5 := Lib.hid (Pr.out.keep k5 (fun e => e))
      have M5 := Lib.hid (Mr.out.keep k5 (fun e => e))
      have K5 := Lib.hid (Kr.out.trans k5.weak)
      have S5 := Lib.hid k5.size
      have NP := Lib.hid (HW5.out.off P5.out (by decide) (by decide))
      have NM := Lib.hid (HW5.out.off M5.out (by decide) (by decide))
      have NPM := Lib.hid (show bm ≠ p from fun e => Blk.ne_ M5.out P5.out (by decide) e)
      clear hG hD gd ne k5
      simp only [pickOps, List.filterMap_nil]
      go_upto_region 7 with (fail)
      obtain ⟨X, hX⟩ : ∃ X : Value → World → Prop, X = fun u wq => u = .int .i64 0 ∧ ∃ v2, WrX wq g v2 (n + 2 * k + 1) ∧ ∀ b, ofBlk v2 b → ofBlk vv b ∨ w5.heap.size ≤ b := ⟨_, rfl⟩
      have HX := Lib.hid hX
      clear hX
      have gd := effCalm_good (wr := w5) (k := 18) (S := wset g vv) (X := X)
      have ne := effCalm_some w5 18 (wset g vv) X
      have x8 : ∀ y : (effCalm w5 18 (wset g vv) X).Sub, ((effCalm w5 18 (wset g vv) X).at_ y).cell? ⟨p, 8, none⟩ = some (.pointer (some ⟨g, 0, none⟩)) := fun y => (effCalm_at y).cell (P5.out.cell 8) NP.out
      have x13 : ∀ y : (effCalm w5 18 (wset g vv) X).Sub, ((effCalm w5 18 (wset g vv) X).at_ y).cell? ⟨p, 13, none⟩ = some (.pointer (some ⟨bm, 0, none⟩)) := fun y => (effCalm_at y).cell (P5.out.cell 13) NP.out
      have xl : ∀ y : (effCalm w5 18 (wset g vv) X).Sub, ((effCalm w5 18 (wset g vv) X).at_ y).cell? ⟨bm, 24 + k * 64, none⟩ = some (.int .i64 0) := fun y => (effCalm_at y).cell (by have h := M5.out.sub _ _ (mbV_lev k hlt) 0 (.int .i64 0) (by rw [Array.getElem?_toList]; exact A64_get 0 0 (by decide)); exact h) NM.out
      have xd : ∀ y : (effCalm w5 18 (wset g vv) X).Sub, ((effCalm w5 18 (wset g vv) X).at_ y).cell? ⟨p, 1 + c, none⟩ = some (.int .i64 0) := fun y => (effCalm_at y).cell (by rw [P5.out.cell]; rcases (show c = 0 ∨ c = 1 ∨ c = 2 by omega) with rfl | rfl | rfl <;> rfl) NP.out
      refine wp_region_calm (effCalm w5 18 (wset g vv) X) [0, 1, 2, 3, 4, 5, 6, 7, 8, 9, 10, 11, 12, 13, 14, 15, 16, 17, 18] [] 93 (by kernel_rfl) (by kernel_rfl) rfl gd ⟨(Keep.refl _ _).drew, fun _ => (Keep.refl _ _).drew⟩ ?_
      simp only [pairs, List.filterMap_cons, List.filterMap_nil, List.getElem?_toArray, List.getElem?_cons_succ, List.getElem?_cons_zero, Option.map_some]
      repeat (refine Calm.walk_quiet ne rfl rfl rfl (fun K hK => ?_); go_big_quiet_op; refine hK _ ?_; clear hK K)
      refine Calm.walk_eff rfl rfl (fun m wy hm hG _ => ?_) ?_
      · obtain ⟨g1, g2⟩ := hG
        have hm0 : m = 0 := by simp only [effCalm, List.length_cons, List.length_nil] at hm; omega
        have gk := g2 hm0
        unfold gives
        go_simp
        refine (puts0 g vv (n + 2 * k) wy (HW5.out.up gk) (by omega)).mono ?_
        rintro e wz ⟨v2, rfl, hw2, hu2⟩
        exact ⟨_, rfl, (by show X _ _; rw [HX.out]; exact ⟨rfl, v2, hw2, fun b hb => (hu2.2 b hb).imp id (fun h => Nat.le_trans gk.size h)⟩), ⟨rfl, hu2.1⟩, ⟨g1.trans hu2.1, fun e => by cases e⟩, fun _ h => h.elim⟩
      intro u wy hT
      obtain ⟨rfl, -⟩ : u = .int .i64 0 ∧ _ := by have h : X u wy := hT; rw [HX.out] at h; exact h
      clear wy hT
      go_frame
      repeat (refine Calm.walk_quiet ne rfl rfl rfl (fun K hK => ?_); go_big_quiet_op; refine hK _ ?_; clear hK K)
      intro w6 hG hD
      obtain ⟨v2, hw2, hat2⟩ : ∃ v2, WrX w6 g v2 (n + 2 * k + 1) ∧ ∀ b, ofBlk v2 b → ofBlk vv b ∨ w5.heap.size ≤ b := by have h : X _ w6 := (hD.1 18 rfl _ rfl ⟨rfl, rfl⟩).1; rw [HX.out] at h; exact h.2
      have HWw6 := Lib.hid hw2
      have Uw6 := Lib.hid (show Up g vv v2 w5 w6 from ⟨hG.1, hat2⟩)
      clear hG hD gd ne HX hw2 hat2
      clear x8 x13 xl xd
      simp only [pickOps, List.filterMap_nil]
      have P6 := Lib.hid (P5.out.keep Uw6.out.1 NP.out)
      have M6 := Lib.hid (M5.out.keep Uw6.out.1 NM.out)
      go_upto_region 8 with (fail)
      have y13 : w6.cell? ⟨p, 13, none⟩ = some (.pointer (some ⟨bm, 0, none⟩)) := P6.out.cell 13
      have yl : w6.cell? ⟨bm, 24 + k * 64, none⟩ = some (.int .i64 0) := by have h := M6.out.sub _ _ (mbV_lev k hlt) 0 (.int .i64 0) (by rw [Array.getElem?_toList]; exact A64_get 0 0 (by decide)); exact h
      have yd : w6.cell? ⟨p, 1 + c, none⟩ = some (.int .i64 0) := by rw [P6.out.cell]; rcases (show c = 0 ∨ c = 1 ∨ c = 2 by omega) with rfl | rfl | rfl <;> rfl
      have zd := Blk.frozen P6.out (1 + c)
      obtain ⟨w7, hw7⟩ : ∃ w7, w7 = w6.setCell ⟨p, 1 + c, none⟩ (.int .i64 0) := ⟨_, rfl⟩
      have PS := Lib.hid (show Blk w7 p 197 (pV g bm) from by
        rw [hw7]
        have h := P6.out.set_ (1 + c) (.int .i64 0)
        rcases (show c = 0 ∨ c = 1 ∨ c = 2 by omega) with rfl | rfl | rfl <;> exact h)
      have MS := Lib.hid (show Blk w7 bm 102 mbV from by rw [hw7]; exact M6.out.far (p := ⟨p, 1 + c, none⟩) NPM.out _)
      have WS := Lib.hid (show WrX w7 g v2 (n + 2 * k + 1) from by rw [hw7]; exact WrX.far HWw6.out (HWw6.out.off P6.out (by decide) (by decide)) (1 + c) (.int .i64 0))
      have KS := Lib.hid (show Keep (fun b => wset g v0 b ∨ b = p) w w7 from by
        have h1 : Keep (fun b => wset g v0 b ∨ b = p) w w6 := K5.out.then Uw6.out.1 (fun b e => by
          rcases e with e | e
          · exact .inl (.inl (.inl e))
          · rcases ATr.out b e with e | e
            · exact .inl (.inl (.inr e))
            · exact .inr e)
        rw [hw7]
        exact h1.setCell (p := ⟨p, 1 + c, none⟩) (.inl (.inr rfl)) _)
      have AT := Lib.hid (show ∀ b, ofBlk v2 b → ofBlk v0 b ∨ w.heap.size ≤ b from fun b hb => by
        rcases Uw6.out.2 b hb with e | e
        · exact ATr.out b e
        · exact .inr (Nat.le_trans K5.out.size e))
      have HWE := hw7.symm
      clear hw7
      go_upto_region 9 with (fail)
      clear HWE y13 yl yd zd
      have NP := Lib.hid (WS.out.off PS.out (by decide) (by decide))
      have NM := Lib.hid (WS.out.off MS.out (by decide) (by decide))
      obtain ⟨X, hX⟩ : ∃ X : Value → World → Prop, X = fun u wq => u = .int .i64 0 ∧ ∃ v3, WrX wq g v3 (n + 2 * k + 1 + 1) ∧ ∀ b, ofBlk v3 b → ofBlk v2 b ∨ w7.heap.size ≤ b := ⟨_, rfl⟩
      have HX := Lib.hid hX
      clear hX
      have gd := effCalm_good (wr := w7) (k := 13) (S := wset g v2) (X := X)
      have ne := effCalm_some w7 13 (wset g v2) X
      have x8 : ∀ y : (effCalm w7 13 (wset g v2) X).Sub, ((effCalm w7 13 (wset g v2) X).at_ y).cell? ⟨p, 8, none⟩ = some (.pointer (some ⟨g, 0, none⟩)) := fun y => (effCalm_at y).cell (PS.out.cell 8) NP.out
      have x13 : ∀ y : (effCalm w7 13 (wset g v2) X).Sub, ((effCalm w7 13 (wset g v2) X).at_ y).cell? ⟨p, 13, none⟩ = some (.pointer (some ⟨bm, 0, none⟩)) := fun y => (effCalm_at y).cell (PS.out.cell 13) NP.out
      have xa : ∀ y : (effCalm w7 13 (wset g v2) X).Sub, ((effCalm w7 13 (wset g v2) X).at_ y).rangeAt bm (24 + k * 64) (A64 0).toList := fun y => (MS.out.keep (effCalm_at y) NM.out).sub _ _ (mbV_lev k hlt)
      refine wp_region_calm (effCalm w7 13 (wset g v2) X) [0, 1, 2, 3, 4, 5, 6, 7, 8, 9, 10, 11, 12, 13] [] 93 (by kernel_rfl) (by kernel_rfl) rfl gd ⟨(Keep.refl _ _).drew, fun _ => (Keep.refl _ _).drew⟩ ?_
      simp only [pairs, List.filterMap_cons, List.filterMap_nil, List.getElem?_toArray, List.getElem?_cons_succ, List.getElem?_cons_zero, Option.map_some]
      repeat (refine Calm.walk_quiet ne rfl rfl rfl (fun K hK => ?_); go_big_quiet_op; refine hK _ ?_; clear hK K)
      refine Calm.walk_load 99 (.tmp 89) rfl ne rfl rfl bm (24 + k * 64) rfl (A64 0) _ xa Tryz.underlying99 rfl (by rw [A64_size]; kernel_rfl) ?_
      go_frame
      refine Calm.walk_eff rfl rfl (fun m wy hm hG _ => ?_) ?_
      · obtain ⟨g1, g2⟩ := hG
        have hm0 : m = 0 := by simp only [effCalm, List.length_cons, List.length_nil] at hm; omega
        have gk := g2 hm0
        unfold gives
        go_simp
        refine (bput0 g v2 (n + 2 * k + 1) wy (WS.out.up gk) (by omega)).mono ?_
        rintro e wz ⟨v3, rfl, hw2, hu2⟩
        exact ⟨_, rfl, (by show X _ _; rw [HX.out]; exact ⟨rfl, v3, hw2, fun b hb => (hu2.2 b hb).imp id (fun h => Nat.le_trans gk.size h)⟩), ⟨rfl, hu2.1⟩, ⟨g1.trans hu2.1, fun e => by cases e⟩, fun _ h => h.elim⟩
      intro u wy hT
      obtain ⟨rfl, -⟩ : u = .int .i64 0 ∧ _ := by have h : X u wy := hT; rw [HX.out] at h; exact h
      clear wy hT
      go_frame
      repeat (refine Calm.walk_quiet ne rfl rfl rfl (fun K hK => ?_); go_big_quiet_op; refine hK _ ?_; clear hK K)
      intro w8 hG hD
      obtain ⟨v3, hw2, hat2⟩ : ∃ v3, WrX w8 g v3 (n + 2 * k + 1 + 1) ∧ ∀ b, ofBlk v3 b → ofBlk v2 b ∨ w7.heap.size ≤ b := by have h : X _ w8 := (hD.1 13 rfl _ rfl ⟨rfl, rfl⟩).1; rw [HX.out] at h; exact h.2
      have HWw8 := Lib.hid hw2
      have Uw8 := Lib.hid (show Up g v2 v3 w7 w8 from ⟨hG.1, hat2⟩)
      clear hG hD gd ne HX hw2 hat2
      clear x8 x13 xa
      simp only [pickOps, List.filterMap_nil]
      have P8 := Lib.hid (PS.out.keep Uw8.out.1 NP.out)
      have M8 := Lib.hid (MS.out.keep Uw8.out.1 NM.out)
      have K8 := Lib.hid (show Keep (fun b => wset g v0 b ∨ b = p) w w8 from KS.out.then Uw8.out.1 (fun b e => by
          rcases e with e | e
          · exact .inl (.inl (.inl e))
          · rcases AT.out b e with e | e
            · exact .inl (.inl (.inr e))
            · exact .inr e))
      have A8 := Lib.hid (show ∀ b, ofBlk v3 b → ofBlk v0 b ∨ w.heap.size ≤ b from fun b hb => by
        rcases Uw8.out.2 b hb with e | e
        · exact AT.out b e
        · exact .inr (Nat.le_trans KS.out.size e))
      have W8 := Lib.hid (show WrX w8 g v3 (n + 2 * (k + 1)) from by have h := HWw8.out; rw [show n + 2 * k + 1 + 1 = n + 2 * (k + 1) by omega] at h; exact h)
      go_wp2
      go_roundw
      case rel => exact ⟨k + 1, hlt, by go_num, v3, W8.out, P8.out, M8.out, K8.out, A8.out⟩
      case measure => simp [intOf]; omega
    · obtain rfl : k = 6 := by omega
      clear hlt hk
      go_wp2
      first | go_end0 | refine bodyPost_ret (results_none Tryz.results140 _ _ _) rfl ?_
      exact ⟨rfl, vv, HWr.out, Pr.out, Mr.out, Kr.out, ATr.out⟩
end Go.Proofs.YtebdgoikmclflaaGreatDoor
