/-
  cutroomref37.change: submit.
-/
import Derived.Test.YtnefbeplgfdkkaaGreatDoorRu37
import Derived.Test.YtnefbeplgfdkkaaGreatDoorRu40
import Derived.Test.YtnefbeplgfdkkaaGreatDoorRu41
import Derived.Test.YtnefbeplgfdkkaaGreatDoorRu21
namespace Go.Proofs.YtnefbeplgfdkkaaGreatDoor
open Go.RowKit

/-- The facts of 't.Jobs = append(t.Jobs, Job{name, append([]string{}, needs...)})'. -/
def subm (wr : World) (S : Nat → Prop) (base nn : Nat) (needs : List Value) (jc : Value → Array Value) (nj : Nat) (xs : List Value) : Calm where
  R := fun i => if i = 13 then Keep S else Keep none_
  G := fun n w => Keep S wr w ∧ (n ≤ 3 → Keep none_ wr w)
  eff := [7, 10, 12, 13]
  T := fun k vs v w' => match k with
    | 7 => madeT wr.heap.size 9 #[] (fun a => .slice (some a) 0 0) v w'
    | 10 => w'.ownsRow wr.heap.size 9 1 v nn needs
    | 12 => ∃ nv, vs.getD 0 undef = .agg (jc nv) ∧ madeT wr.heap.size 57 (jc nv) (fun a => .slice (some a) 1 1) v w'
    | _ => ∃ bb cs, vs.getD 1 undef = .slice (some ⟨bb, 0, none⟩) 1 1 ∧ Blk w' bb 57 cs ∧ w'.ownsRow base 57 7 v (nj + 1) (xs ++ cs.toList)
  anc := fun k => if k = 10 then [7] else if k = 13 then [7, 10, 12] else []
  own := fun _ _ _ => False
theorem subm_good {wr : World} {S : Nat → Prop} {base nn : Nat} {needs : List Value} {jc : Value → Array Value} {nj : Nat} {xs : List Value} (hS : ∀ b, S b → b < wr.heap.size) : (subm wr S base nn needs jc nj xs).Good where
  mono := fun _ _ h => ⟨h.1, fun hn => h.2 (by omega)⟩
  size := fun i _ _ h => by
    simp only [subm] at h
    split at h <;> exact h.size
  stable := fun i k vs v w1 w2 he hne h hR => by
    simp only [subm, List.contains_cons, List.contains_nil, Bool.or_false, Bool.or_eq_true, beq_iff_eq] at he
    simp only [subm] at h hR ⊢
    by_cases hi : i = 13
    · rw [if_pos hi] at hR
      split at h
      · exact h.stable hR hS
      · exact own_keep h hR (fun b hb e => by have := hS b e; have := (h.lt b hb).1; omega)
      · obtain ⟨nv, h1, h2⟩ := h
        exact ⟨nv, h1, h2.stable hR hS⟩
      · rename_i n7 n10 n12
        rcases he with e | e | e | e
        · exact (n7 e).elim
        · exact (n10 e).elim
        · exact (n12 e).elim
        · omega
    · rw [if_neg hi] at hR
      split at h
      · exact h.stable (S := none_) hR fun _ e => e.elim
      · exact own_keep (S := none_) h hR (fun _ _ e => e)
      · obtain ⟨nv, h1, h2⟩ := h
        exact ⟨nv, h1, h2.stable (S := none_) hR fun _ e => e.elim⟩
      · obtain ⟨bb, cs, h1, h2, h3⟩ := h
        exact ⟨bb, cs, h1, h2.keep hR (fun e => e), own_keep (S := none_) h3 hR (fun _ _ e => e)⟩
theorem subm_at {wr : World} {S : Nat → Prop} {base nn : Nat} {needs : List Value} {jc : Value → Array Value} {nj : Nat} {xs : List Value} (x : (subm wr S base nn needs jc nj xs).Sub) : Keep S wr ((subm wr S base nn needs jc nj xs).at_ x) := by
  obtain ⟨x, n, _, h⟩ := x
  exact h.1
theorem subm_some (wr : World) (S : Nat → Prop) (base nn : Nat) (needs : List Value) (jc : Value → Array Value) (nj : Nat) (xs : List Value) : Nonempty (subm wr S base nn needs jc nj xs).Sub := ⟨⟨wr, 0, Nat.zero_le _, Keep.refl _ _, fun _ => Keep.refl _ _⟩⟩

set_option maxRecDepth 100000 in
set_option maxHeartbeats 2000000 in
theorem rchange_sub (X : XP) (s : St) (vp vj vw v : Value) (base g : Nat) (S : Nat → Prop) (e : Ev) (w : World) (hk : e.kind = 1) (h : RAft X w base (orr S base) g vp vj vw s) (he : EvOf w (orr S base) v e) (hjl : s.jobs.length ≤ 64) (hnl : e.needs.length ≤ 16) (hS : ∀ b, S b → b < base) :
    Calls Tryz.prog 57 #[.pointer (some ⟨g, 0, none⟩), v] w (RMeth3 X base S g (perE s e) (perO s e) (perS s e) w) := by
  have HE := Lib.hid he
  obtain ⟨vn, vi, rfl, hns, his⟩ := he
  have HNS := Lib.hid hns
  obtain ⟨An, nn, cn, rfl, hnr⟩ := hns
  obtain ⟨Ai, ni, ci, rfl, -⟩ := his
  obtain ⟨W0, hW0⟩ : ∃ W0, W0 = w.alloc (.cells #[.int .i64 e.kind, .string e.name, .string e.worker, .slice An nn cn, .int .i64 e.ticks, .slice Ai ni ci] 78) := ⟨_, rfl⟩
  have k0 : Keep none_ w W0 := hW0 ▸ (Keep.refl none_ w).alloc _
  have b0 : Blk W0 w.heap.size 78 #[.int .i64 e.kind, .string e.name, .string e.worker, .slice An nn cn, .int .i64 e.ticks, .slice Ai ni ci] := hW0 ▸ Blk.new _ _ _
  have a0 := h.keep k0
  have d0 : W0.cell? ⟨w.heap.size, 0, none⟩ = some (.int .i64 e.kind) := b0.cell 0
  have HA := Lib.hid a0
  have HB := Lib.hid b0
  have K0 := Lib.hid k0
  have HE0 := Lib.hid (HE.out.keep k0.weak)
  clear h b0 k0
  have PE : perE s e = submitE s e.name := by unfold perE; simp [hk]
  have PS : perS s e = submitS s e.name e.needs := by unfold perS; simp [hk]
  have E3 := Lib.hid (show perO s e = [] by unfold perO; simp [hk])
  rw [hk] at d0
  clear hk
  obtain ⟨Ap, cp, rfl, -⟩ := own_row (S := none_) a0.strs (fun _ _ e => e)
  obtain ⟨Aj, cj, rfl, hj⟩ := a0.jobs.list
  obtain ⟨Aw, cw, rfl, hw⟩ := ElemsOf_wks (S := none_) a0.wks (fun _ _ e => e)
  obtain ⟨-, q1, q2⟩ := hj.facts
  unfold maxLen at q2
  have ST := Lib.hid a0.state
  have JBC := Lib.hid (fun wx (kx : Keep none_ W0 wx) => rjob_any s _ none_ e.name wx (ST.out.keep kx))
  have d1 : W0.cell? ⟨w.heap.size, 1, none⟩ = some (.string e.name) := HB.out.cell 1
  have g2 : W0.cell? ⟨g, 2, none⟩ = some (.slice Aj s.jobs.length cj) := HA.out.blk.cell 2
  have hnn : e.needs.length = nn := by have := hnr.len; simp at this; omega
  have HNR := Lib.hid (hnr.keep K0.out.weak)
  have HS := Lib.hid hS
  have aE : submitE s e.name = if 0 ≤ jbIdx s.jobs e.name then 8 else if 64 ≤ s.jobs.length then 18 else 0 := rfl
  have aS : submitS s e.name e.needs = if 0 ≤ jbIdx s.jobs e.name then s else if 64 ≤ s.jobs.length then s else { s with jobs := s.jobs ++ [freshJob e.name e.needs] } := rfl
  clear hnr a0 hw hS
  rcases idx_cases (fun y : Jb => strEq y.name e.name) s.jobs with hi | ⟨k, hkk, hi, -⟩
  rotate_left
  · have hi' : jbIdx s.jobs e.name = (k : Int) := hi
    rw [hi'] at JBC aE aS
    rw [if_pos (by omega)] at aE aS
    have E1 := Lib.hid (PE.trans aE)
    have E2 := Lib.hid (PS.trans aS)
    clear hi hi' PE PS aE aS hj
    go_enter Tryz.func57, Tryz.ntmps57
    go_upto_region 1 with (fail)
    rw [← hW0]
    clear hW0
    go_upto_region 3 with (fail)
    have gd := callCalm_good W0 5 (.int .i64 ((k : Nat)))
    have ne := callCalm_some W0 5 (.int .i64 ((k : Nat)))
    have x1 := fun y => (callCalm_at (wr := W0) (k := 5) (u := .int .i64 ((k : Nat))) y).cell d1 (fun e => e)
    have x3 := Lib.hid (fun y => rangeAt_keep HA.out.blk.rangeAt (callCalm_at (wr := W0) (k := 5) (u := .int .i64 ((k : Nat))) y) (fun e => e))
    refine wp_region_calm (callCalm W0 5 (.int .i64 ((k : Nat)))) [0, 1, 2, 3, 4, 5, 6] [] 123 (by kernel_rfl) (by kernel_rfl) rfl gd (Keep.refl _ _).drew ?_
    simp only [pairs, List.filterMap_cons, List.filterMap_nil, List.getElem?_toArray, List.getElem?_cons_succ, List.getElem?_cons_zero, Option.map_some]
    repeat (refine Calm.walk_quiet ne rfl rfl rfl (fun K hK => ?_); go_big_quiet_op; refine hK _ ?_; clear hK K)
    refine Calm.walk_load 48 (.tmp 14) rfl ne rfl rfl g 0 rfl #[.int .i64 s.now, .slice Ap s.present.length cp, .slice Aj s.jobs.length cj, .slice Aw s.workers.length cw] _ x3.out Tryz.underlying48 rfl (by kernel_rfl) ?_
    go_frame
    repeat (refine Calm.walk_quiet ne rfl rfl rfl (fun K hK => ?_); go_big_quiet_op; refine hK _ ?_; clear hK K)
    refine Calm.walk_eff rfl rfl (fun n wy hn hG _ => ?_) ?_
    · have hG' : Keep none_ W0 wy := hG
      unfold gives
      go_simp
      refine (JBC.out wy hG').mono ?_
      rintro e w' ⟨rfl, k'⟩
      exact ⟨_, rfl, rfl, k', hG'.trans k', fun _ h => h.elim⟩
    intro vq wy hT
    obtain rfl : vq = .int .i64 ((k : Nat)) := hT
    clear wy
    go_frame
    repeat (refine Calm.walk_quiet ne rfl rfl rfl (fun K hK => ?_); go_big_quiet_op; refine hK _ ?_; clear hK K)
    intro w1 hG hD
    have k1 : Keep none_ W0 w1 := hG
    clear hG hD gd ne x1 x3 JBC
    simp only [pickOps, List.filterMap_nil]
    have A1 := Lib.hid (HA.out.keep k1)
    have K1 := Lib.hid (K0.out.trans k1)
    go_wp2
    go_ret2
    exact ⟨_, _, _, _, by rw [E1.out]; rfl, by rw [E3.out]; exact ⟨rfl, .inl ⟨rfl, rfl⟩⟩, by rw [E2.out]; exact A1.out.fin, K1.out.weak⟩
  · have hi' : jbIdx s.jobs e.name = -1 := hi
    rw [hi'] at JBC aE aS
    rw [if_neg (by omega)] at aE aS
    by_cases h64 : s.jobs.length = 64
    · rw [if_pos (by omega)] at aE aS
      have E1 := Lib.hid (PE.trans aE)
      have E2 := Lib.hid (PS.trans aS)
      have H64 := Lib.hid h64
      clear hi hi' PE PS aE aS hj h64
      go_enter Tryz.func57, Tryz.ntmps57
      go_upto_region 1 with (fail)
      rw [← hW0]
      clear hW0
      go_upto_region 3 with (fail)
      have gd := callCalm_good W0 5 (.int .i64 (-1))
      have ne := callCalm_some W0 5 (.int .i64 (-1))
      have x1 := fun y => (callCalm_at (wr := W0) (k := 5) (u := .int .i64 (-1)) y).cell d1 (fun e => e)
      have x3 := Lib.hid (fun y => rangeAt_keep HA.out.blk.rangeAt (callCalm_at (wr := W0) (k := 5) (u := .int .i64 (-1)) y) (fun e => e))
      refine wp_region_calm (callCalm W0 5 (.int .i64 (-1))) [0, 1, 2, 3, 4, 5, 6] [] 123 (by kernel_rfl) (by kernel_rfl) rfl gd (Keep.refl _ _).drew ?_
      simp only [pairs, List.filterMap_cons, List.filterMap_nil, List.getElem?_toArray, List.getElem?_cons_succ, List.getElem?_cons_zero, Option.map_some]
      repeat (refine Calm.walk_quiet ne rfl rfl rfl (fun K hK => ?_); go_big_quiet_op; refine hK _ ?_; clear hK K)
      refine Calm.walk_load 48 (.tmp 14) rfl ne rfl rfl g 0 rfl #[.int .i64 s.now, .slice Ap s.present.length cp, .slice Aj s.jobs.length cj, .slice Aw s.workers.length cw] _ x3.out Tryz.underlying48 rfl (by kernel_rfl) ?_
      go_frame
      repeat (refine Calm.walk_quiet ne rfl rfl rfl (fun K hK => ?_); go_big_quiet_op; refine hK _ ?_; clear hK K)
      refine Calm.walk_eff rfl rfl (fun n wy hn hG _ => ?_) ?_
      · have hG' : Keep none_ W0 wy := hG
        unfold gives
        go_simp
        refine (JBC.out wy hG').mono ?_
        rintro e w' ⟨rfl, k'⟩
        exact ⟨_, rfl, rfl, k', hG'.trans k', fun _ h => h.elim⟩
      intro vq wy hT
      obtain rfl : vq = .int .i64 (-1) := hT
      clear wy
      go_frame
      repeat (refine Calm.walk_quiet ne rfl rfl rfl (fun K hK => ?_); go_big_quiet_op; refine hK _ ?_; clear hK K)
      intro w1 hG hD
      have k1 : Keep none_ W0 w1 := hG
      clear hG hD gd ne x1 x3 JBC
      simp only [pickOps, List.filterMap_nil]
      have A1 := Lib.hid (HA.out.keep k1)
      have K1 := Lib.hid (K0.out.trans k1)
      replace g2 := k1.cell g2 (fun e => e)
      have h64' : (s.jobs.length : Int) = 64 := by have := H64.out; omega
      have h64d : decide ((s.jobs.length : Int) = 64) = true := decide_eq_true h64'
      go_wp2
      go_ret2
      exact ⟨_, _, _, _, by rw [E1.out]; rfl, by rw [E3.out]; exact ⟨rfl, .inl ⟨rfl, rfl⟩⟩, by rw [E2.out]; exact A1.out.fin, K1.out.weak⟩
    · rw [if_neg (by omega)] at aE aS
      have E1 := Lib.hid (PE.trans aE)
      have E2 := Lib.hid (PS.trans aS)
      have h64' : ¬ (s.jobs.length : Int) = 64 := by omega
      have h64d : decide ((s.jobs.length : Int) = 64) = false := decide_eq_false h64'
      clear hi hi' PE PS aE aS hj
      go_enter Tryz.func57, Tryz.ntmps57
      go_upto_region 1 with (fail)
      rw [← hW0]
      clear hW0
      go_upto_region 3 with (fail)
      have gd := callCalm_good W0 5 (.int .i64 (-1))
      have ne := callCalm_some W0 5 (.int .i64 (-1))
      have x1 := fun y => (callCalm_at (wr := W0) (k := 5) (u := .int .i64 (-1)) y).cell d1 (fun e => e)
      have x3 := Lib.hid (fun y => rangeAt_keep HA.out.blk.rangeAt (callCalm_at (wr := W0) (k := 5) (u := .int .i64 (-1)) y) (fun e => e))
      refine wp_region_calm (callCalm W0 5 (.int .i64 (-1))) [0, 1, 2, 3, 4, 5, 6] [] 123 (by kernel_rfl) (by kernel_rfl) rfl gd (Keep.refl _ _).drew ?_
      simp only [pairs, List.filterMap_cons, List.filterMap_nil, List.getElem?_toArray, List.getElem?_cons_succ, List.getElem?_cons_zero, Option.map_some]
      repeat (refine Calm.walk_quiet ne rfl rfl rfl (fun K hK => ?_); go_big_quiet_op; refine hK _ ?_; clear hK K)
      refine Calm.walk_load 48 (.tmp 14) rfl ne rfl rfl g 0 rfl #[.int .i64 s.now, .slice Ap s.present.length cp, .slice Aj s.jobs.length cj, .slice Aw s.workers.length cw] _ x3.out Tryz.underlying48 rfl (by kernel_rfl) ?_
      go_frame
      repeat (refine Calm.walk_quiet ne rfl rfl rfl (fun K hK => ?_); go_big_quiet_op; refine hK _ ?_; clear hK K)
      refine Calm.walk_eff rfl rfl (fun n wy hn hG _ => ?_) ?_
      · have hG' : Keep none_ W0 wy := hG
        unfold gives
        go_simp
        refine (JBC.out wy hG').mono ?_
        rintro e w' ⟨rfl, k'⟩
        exact ⟨_, rfl, rfl, k', hG'.trans k', fun _ h => h.elim⟩
      intro vq wy hT
      obtain rfl : vq = .int .i64 (-1) := hT
      clear wy
      go_frame
      repeat (refine Calm.walk_quiet ne rfl rfl rfl (fun K hK => ?_); go_big_quiet_op; refine hK _ ?_; clear hK K)
      intro w1 hG hD
      have k1 : Keep none_ W0 w1 := hG
      clear hG hD gd ne x1 x3 JBC
      simp only [pickOps, List.filterMap_nil]
      have A1 := Lib.hid (HA.out.keep k1)
      have K1 := Lib.hid (K0.out.trans k1)
      replace g2 := k1.cell g2 (fun e => e)
      replace d1 := k1.cell d1 (fun e => e)
      have d3 : w1.cell? ⟨w.heap.size, 3, none⟩ = some (.slice An nn cn) := (HB.out.keep k1 (fun e => e)).cell 3
      have NR := Lib.hid (HNR.out.keep k1.weak)
      have BE := Lib.hid (HB.out.keep k1 (fun e => e))
      obtain ⟨ie, z, hie, hz, hsi, hby, hzs⟩ := info_all (P := Tryz.prog) (t := 9) (n := 1) (b := 16) (by kernel_rfl)
      have I1 := Lib.hid (And.intro hie (And.intro hz (And.intro hsi (And.intro hby hzs))))
      clear hie hz hsi hby hzs HB HA K0 HNR ST d0 HE HE0 HNS
      go_upto_region 7 with (fail)
      clear k1
      obtain ⟨css, j1, j2, j3, j4⟩ := A1.out.jobs
      have J3 := Lib.hid j3
      have og : ¬ ofBlk (.slice Aj s.jobs.length cj) g := fun x => own_apart j3 A1.out.blk (by decide) g x rfl
      have ob : ¬ ofBlk (.slice Aj s.jobs.length cj) w.heap.size := fun x => own_apart j3 BE.out (by decide) w.heap.size x rfl
      have lg := A1.out.blk.lt
      have lb := A1.out.ge_
      clear j1 j2 j4
      have gd := subm_good (wr := w1) (S := ofBlk (.slice Aj s.jobs.length cj)) (base := base) (nn := nn) (needs := e.needs.map Value.string) (jc := (fun nv => #[.string e.name, nv, .string ⟨#[]⟩, .int .i64 0, .int .i64 0, .bool false, .slice none 0 0])) (nj := s.jobs.length) (xs := css.flatten) (own_lt j3)
      have ne := subm_some w1 (ofBlk (.slice Aj s.jobs.length cj)) base nn (e.needs.map Value.string) (fun nv => #[.string e.name, nv, .string ⟨#[]⟩, .int .i64 0, .int .i64 0, .bool false, .slice none 0 0]) s.jobs.length css.flatten
      have x1 := fun x => (subm_at (wr := w1) (S := ofBlk (.slice Aj s.jobs.length cj)) (base := base) (nn := nn) (needs := e.needs.map Value.string) (jc := (fun nv => #[.string e.name, nv, .string ⟨#[]⟩, .int .i64 0, .int .i64 0, .bool false, .slice none 0 0])) (nj := s.jobs.length) (xs := css.flatten) x).cell g2 og
      have x2 := fun x => (subm_at (wr := w1) (S := ofBlk (.slice Aj s.jobs.length cj)) (base := base) (nn := nn) (needs := e.needs.map Value.string) (jc := (fun nv => #[.string e.name, nv, .string ⟨#[]⟩, .int .i64 0, .int .i64 0, .bool false, .slice none 0 0])) (nj := s.jobs.length) (xs := css.flatten) x).cell d1 ob
      have x3 := fun x => (subm_at (wr := w1) (S := ofBlk (.slice Aj s.jobs.length cj)) (base := base) (nn := nn) (needs := e.needs.map Value.string) (jc := (fun nv => #[.string e.name, nv, .string ⟨#[]⟩, .int .i64 0, .int .i64 0, .bool false, .slice none 0 0])) (nj := s.jobs.length) (xs := css.flatten) x).cell d3 ob
      clear j3
      refine wp_region_calm (subm w1 (ofBlk (.slice Aj s.jobs.length cj)) base nn (e.needs.map Value.string) (fun nv => #[.string e.name, nv, .string ⟨#[]⟩, .int .i64 0, .int .i64 0, .bool false, .slice none 0 0]) s.jobs.length css.flatten) [0, 1, 2, 3, 4, 5, 6, 7, 8, 9, 10, 11, 12, 13, 14, 15] [16] 123 (by kernel_rfl) (by kernel_rfl) rfl gd ⟨(Keep.refl _ _).drew, fun _ => (Keep.refl _ _).drew⟩ ?_
      simp only [pairs, List.filterMap_cons, List.filterMap_nil, List.getElem?_toArray, List.getElem?_cons_succ, List.getElem?_cons_zero, Option.map_some]
      repeat (refine Calm.walk_quiet ne rfl rfl rfl (fun K hK => ?_); go_big_quiet_op; refine hK _ ?_; clear hK K)
      refine Calm.walk_eff rfl rfl (fun n w5 hn hG _ => ?_) ?_
      · unfold gives
        go_simp
        exact ⟨⟨w5.heap.size, hG.1.size, rfl, Blk.new _ _ _⟩, (Keep.refl _ _).alloc _, ⟨hG.1.alloc _, fun hn => (hG.2 (by omega)).alloc _⟩, fun b hb => hb.elim⟩
      rintro vq w5 hT
      obtain ⟨q0, -, rfl, -⟩ : madeT w1.heap.size 9 #[] (fun a => .slice (some a) 0 0) vq w5 := hT
      clear w5
      go_frame
      repeat (refine Calm.walk_quiet ne rfl rfl rfl (fun K hK => ?_); go_big_quiet_op; refine hK _ ?_; clear hK K)
      refine Calm.walk_eff rfl rfl (fun n w5 hn hG hAF => ?_) ?_
      · obtain ⟨g1, g2⟩ := madeT.slice (show madeT w1.heap.size 9 #[] (fun a => .slice (some a) 0 0) (.slice (some ⟨q0, 0, none⟩) 0 0) w5 from (hAF 7 List.mem_cons_self _ rfl ⟨rfl, rfl⟩).1)
        refine gives_mono (gives_append_new (.tmp 33) (.tmp 35) 44 9 rfl w1.heap.size nn cn q0 1 16 Tryz.underlying44 I1.out.1 I1.out.2.1 I1.out.2.2.1 I1.out.2.2.2.1 I1.out.2.2.2.2 (by decide) rfl g2 g1 An (e.needs.map Value.string) (ofBlk (.slice Aj s.jobs.length cj)) rfl ((NR.out.sub (fun b hb => .inr (own_ge J3.out b hb))).keep hG.1) (fun u hu => by obtain ⟨y, -, rfl⟩ := List.mem_map.1 hu; rfl) (by omega) (by unfold maxLen; omega) hG.1.size) ?_
        rintro v' w' ⟨hv, hk⟩
        exact ⟨hv, hk, ⟨hG.1.trans hk.weak, fun hn => (hG.2 (by omega)).trans hk⟩, fun _ h => h.elim⟩
      intro vq w5 hT
      have hT' : w5.ownsRow w1.heap.size 9 1 vq nn (e.needs.map Value.string) := hT
      obtain ⟨A1n, d1n, rfl, -⟩ := own_row (S := none_) hT' (fun _ _ e => e)
      clear hT hT' w5
      go_frame
      repeat (refine Calm.walk_quiet ne rfl rfl rfl (fun K hK => ?_); go_big_quiet_op; refine hK _ ?_; clear hK K)
      refine Calm.walk_eff rfl rfl (fun n w5 hn hG _ => ?_) ?_
      · unfold gives
        go_simp
        exact ⟨⟨.slice A1n nn d1n, rfl, w5.heap.size, hG.1.size, rfl, Blk.new _ _ _⟩, (Keep.refl _ _).alloc _, ⟨hG.1.alloc _, fun hn => (hG.2 (by omega)).alloc _⟩, fun b hb => hb.elim⟩
      rintro vq w5 hT
      obtain ⟨nv, -, b5, -, rfl, -⟩ : ∃ nv, _ ∧ madeT w1.heap.size 57 (((fun nv => #[.string e.name, nv, .string ⟨#[]⟩, .int .i64 0, .int .i64 0, .bool false, .slice none 0 0]) : Value → Array Value) nv) (fun a => .slice (some a) 1 1) vq w5 := hT
      clear nv w5
      go_frame
      repeat (refine Calm.walk_quiet ne rfl rfl rfl (fun K hK => ?_); go_big_quiet_op; refine hK _ ?_; clear hK K)
      refine Calm.walk_effn rfl rfl (fun n w5 g1 g2 hG hAF => ?_) ?_
      · have g2' : n < 4 := g2
        have hk5 : Keep none_ w1 w5 := hG.2 (by omega)
        obtain ⟨nv, e1, hmd⟩ : ∃ nv, Value.agg #[.string e.name, .slice A1n nn d1n, .string ⟨#[]⟩, .int .i64 0, .int .i64 0, .bool false, .slice none 0 0] = .agg (((fun nv => #[.string e.name, nv, .string ⟨#[]⟩, .int .i64 0, .int .i64 0, .bool false, .slice none 0 0]) : Value → Array Value) nv) ∧ madeT w1.heap.size 57 (((fun nv => #[.string e.name, nv, .string ⟨#[]⟩, .int .i64 0, .int .i64 0, .bool false, .slice none 0 0]) : Value → Array Value) nv) (fun a => .slice (some a) 1 1) (.slice (some ⟨b5, 0, none⟩) 1 1) w5 := (hAF 12 (by simp [subm]) _ rfl ⟨rfl, rfl⟩).1
        have hb5 := madeT.slice hmd
        refine gives_mono (gives_append1 (.tmp 30) (.tmp 38) 45 57 rfl base _ 7 104 Tryz.underlying45 job_info rfl (by omega) (.slice Aj s.jobs.length cj) s.jobs.length _ rfl (own_keep J3.out hk5 (fun _ _ e => e)) b5 (((fun nv => #[.string e.name, nv, .string ⟨#[]⟩, .int .i64 0, .int .i64 0, .bool false, .slice none 0 0]) : Value → Array Value) nv) rfl hb5.2 rfl (by have e2 : nv = .slice A1n nn d1n := (by simpa using e1.symm); subst e2; simp [Value.oneCell']) (by omega) (by have := hk5.size; omega)) fun v6 w6 h => ?_
        refine ⟨⟨b5, _, rfl, hb5.2.keep h.2.1 (fun x => by have := own_lt J3.out _ x; have := hb5.1; omega), h.1⟩, h.2.1, ⟨hk5.weak.trans h.2.1, fun hn => absurd hn (by have g1' : 3 ≤ n := g1; omega)⟩, fun b hb => hb.elim⟩
      rintro v6 w5 hT
      obtain ⟨bb, cs, -, -, hT2⟩ : ∃ bb cs, _ ∧ Blk w5 bb 57 cs ∧ w5.ownsRow base 57 7 v6 (s.jobs.length + 1) (css.flatten ++ cs.toList) := hT
      obtain ⟨A6, c6, rfl, -⟩ := own_row (S := none_) hT2 (fun _ _ e => e)
      clear hT2 bb cs w5
      go_frame
      repeat (refine Calm.walk_quiet ne rfl rfl rfl (fun K hK => ?_); go_big_quiet_op; refine hK _ ?_; clear hK K)
      intro w5 hG hD
      have hk5 : Keep (ofBlk (.slice Aj s.jobs.length cj)) w1 w5 := hG.1
      obtain ⟨nv, e1, hmd⟩ : ∃ nv, Value.agg #[.string e.name, .slice A1n nn d1n, .string ⟨#[]⟩, .int .i64 0, .int .i64 0, .bool false, .slice none 0 0] = .agg (((fun nv => #[.string e.name, nv, .string ⟨#[]⟩, .int .i64 0, .int .i64 0, .bool false, .slice none 0 0]) : Value → Array Value) nv) ∧ madeT w1.heap.size 57 (((fun nv => #[.string e.name, nv, .string ⟨#[]⟩, .int .i64 0, .int .i64 0, .bool false, .slice none 0 0]) : Value → Array Value) nv) (fun a => .slice (some a) 1 1) (.slice (some ⟨b5, 0, none⟩) 1 1) w5 := (hD.1 12 rfl _ rfl ⟨rfl, rfl⟩).1
      obtain ⟨bb, cs, e2, hbb, hown⟩ : ∃ bb cs, Value.slice (some ⟨b5, 0, none⟩) 1 1 = .slice (some ⟨bb, 0, none⟩) 1 1 ∧ Blk w5 bb 57 cs ∧ w5.ownsRow base 57 7 (.slice A6 (s.jobs.length + 1) c6) (s.jobs.length + 1) (css.flatten ++ cs.toList) := (hD.1 13 rfl _ rfl ⟨rfl, rfl⟩).1
      have own10 : w5.ownsRow w1.heap.size 9 1 (.slice A1n nn d1n) nn (e.needs.map Value.string) := (hD.1 10 rfl _ rfl ⟨rfl, rfl⟩).1
      obtain rfl : nv = .slice A1n nn d1n := by simpa using e1.symm
      obtain rfl : bb = b5 := by simpa using e2.symm
      obtain rfl : cs = #[.string e.name, .slice A1n nn d1n, .string ⟨#[]⟩, .int .i64 0, .int .i64 0, .bool false, .slice none 0 0] := by
        have h1 : w5.heap[bb]? = _ := hbb
        have h2 : w5.heap[bb]? = _ := (madeT.slice hmd).2
        rw [h1] at h2
        simp only [Option.some.injEq, Obj.cells.injEq] at h2
        exact h2.1
      have b5' := A1.out.blk.keep hk5 og
      have z3 := b5'.cell 2
      have f3 := b5'.frozen 2
      simp only [List.getElem?_toArray, List.getElem?_cons_zero, List.getElem?_cons_succ] at z3
      have kg : Keep (one g) w5 (w5.setCell ⟨g, 2, none⟩ (.slice A6 (s.jobs.length + 1) c6)) := (Keep.refl (one g) w5).setCell (p := ⟨g, 2, none⟩) (.inl rfl) _
      have o10 := own_keep own10 kg (own_apart own10 b5' (by decide))
      obtain ⟨W3, hW3⟩ : ∃ W3, W3 = w5.setCell ⟨g, 2, none⟩ (.slice A6 (s.jobs.length + 1) c6) := ⟨_, rfl⟩
      have OSUB : ∀ b, stP S base W3 (.slice Ap s.present.length cp) b → orr S base b := fun b e => stP.orr A1.out.strs b e
      have NST : ∀ b2, (Value.slice A1n nn d1n).ownBlock = some b2 → ¬ stP S base W3 (.slice Ap s.present.length cp) b2 := fun b2 hb2 hs => by
        rcases hs with (hs | ⟨-, t2, cs2, hs, n1, n2⟩) | hs
        · have := HS.out b2 hs; have := own_ge o10 b2 hb2; omega
        · exact own_apart o10 (hW3 ▸ hs) (Ne.symm n1) b2 hb2 rfl
        · have := own_lt A1.out.strs b2 hs; have := own_ge o10 b2 hb2; omega
      obtain ⟨r1, r2⟩ := A1.out.newJobTo (S' := stP S base W3 (.slice Ap s.present.length cp)) (x := freshJob e.name e.needs) (v6 := .slice A6 (s.jobs.length + 1) c6) (cs := [.string e.name, .slice A1n nn d1n, .string ⟨#[]⟩, .int .i64 0, .int .i64 0, .bool false, .slice none 0 0]) OSUB hk5 rfl (by
        obtain ⟨A', c', eA, rr⟩ := own_rowB (S := stP S base W3 (.slice Ap s.present.length cp)) o10 NST
        simp only [Value.slice.injEq, true_and] at eA
        obtain ⟨rfl, rfl⟩ := eA
        exact ⟨⟨_, _, rfl, ⟨_, _, _, rfl, rr⟩, ItemsOf.nil _ _⟩, X.fresh _ _ _ _ _ _ _ o10 NST⟩) (fun css' h' => by rw [own_unique h' J3.out]; exact hown)
      rw [hW3] at r1
      have R1 := Lib.hid r1
      have R2 := Lib.hid r2
      clear hD hG ne gd x1 x2 x3 r1 r2 b5' hown hk5 og ob kg o10 own10 hbb hmd e1 e2 NST hW3 OSUB
      simp only [pickOps, List.filterMap_cons, List.filterMap_nil, List.getElem?_toArray, List.getElem?_cons_succ, List.getElem?_cons_zero]
      go_wp2
      go_ret2
      exact ⟨_, _, _, _, by rw [E1.out]; rfl, by rw [E3.out]; exact ⟨rfl, .inl ⟨rfl, rfl⟩⟩, by rw [E2.out]; exact R1.out, K1.out.weak.trans R2.out⟩
end Go.Proofs.YtnefbeplgfdkkaaGreatDoor
