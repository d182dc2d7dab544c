/-
  FarmStates: the walk.
-/
import Derived.Test.YtnefbeplgfdkkaaGreatDoorFs48
namespace Go.Proofs.YtnefbeplgfdkkaaGreatDoor
open Go.RowKit

/-- What the last region's calls answer. -/
def stsT (b : Bool) (NL : List ByteArray) (k : Nat) (v : Value) (w : World) : Prop :=
  match k with
  | 1 => v = .bool b
  | 3 => v = .bool b
  | 7 => StrsOf w none_ v NL
  | 9 => StrsOf w none_ v NL
  | 10 => v = .bool true
  | 13 => v = .bool true
  | _ => True
theorem stsT_keep (b : Bool) (NL : List ByteArray) (k : Nat) (v : Value) (w w' : World) (h : stsT b NL k v w) (hk : Keep none_ w w') : stsT b NL k v w' := by
  unfold stsT at h ⊢
  split
  · exact h
  · exact h
  · exact StrsOf.keep h hk
  · exact StrsOf.keep h hk
  · exact h
  · exact h
  · trivial
def stsAnc (k : Nat) : List Nat := if k = 10 then [7, 9] else []

theorem sts_rn {w w1 : World} {vl : Value} {l : List Ev} {css : List (List Value)} (lo : w.heap.size ≤ w1.heap.size) (ho : w1.ownsRow w.heap.size 78 6 vl l.length css.flatten) (hE : All2 (EvOwn w1 w.heap.size) css l) (hl : l.length ≤ 64) (hg : ∀ x ∈ l, GenEv x) :
    Calls Tryz.prog 15 #[.agg #[.int .i64 0, .slice none 0 0, .slice none 0 0, .slice none 0 0], vl] w1 (RRunPost XO (bel w.heap.size) zeroSt l w1) := by
  have BL : ∀ b, w.heap.size ≤ b → ¬ bel w.heap.size b := fun b h1 h2 => Nat.not_lt.2 h1 h2
  have EO := EvsOf.own0 (S := bel w.heap.size) BL ho (hE.imp (fun _ _ h => h.cs0 BL))
  exact rrun_any XO zeroSt l _ _ (bel w.heap.size) w1 ((RSt.zero XO w1 w.heap.size (bel w.heap.size)).stateX (fun _ e => e) (fun b _ _ h1 _ h2 => (BL b h1 h2).elim)) EO (fun b e => Nat.lt_of_lt_of_le (show b < w.heap.size from e) lo) V.zero.szs (fun e he => evOk_sz (hg e he).ok) (fun e he => by have := (hg e he).items.2; omega) (fun e he h7 => by rw [(hg e he).one_ h7]; exact XO.fits) hl

set_option maxRecDepth 100000 in
set_option maxHeartbeats 4000000 in
theorem states_any (A : Option Addr) (n c : Nat) (zs : List Int) (wh yb : Int) (w : World) (hr : Row w none_ 1 A n c (zs.map (Value.int .i64))) (hz : I64s zs) (_hw1 : -9223372036854775808 ≤ wh) (_hw2 : wh ≤ 9223372036854775807) (_hy1 : -9223372036854775808 ≤ yb) (_hy2 : yb ≤ 9223372036854775807) :
    Calls Tryz.prog 4 #[.slice A n c, .int .i64 wh, .int .i64 yb] w fun e w' => e = .returned (.bool true) ∧ Keep none_ w w' := by
  have ht : TapeAt (w.alloc (.cells #[.slice A n c, .int .i64 0] 29)) w.heap.size 0 := ⟨A, n, c, 0, zs, Blk.new _ _ _, Nat.le_refl _, ((hr.fresh (S := ge w.heap.size) (fun k e => e) (by decide)).keep ((Keep.refl _ _).alloc _)), hz⟩
  have k0 : Keep none_ w (w.alloc (.cells #[.slice A n c, .int .i64 0] 29)) := (Keep.refl _ _).alloc _
  obtain ⟨W0, hW0⟩ : ∃ W0, W0 = w.alloc (.cells #[.slice A n c, .int .i64 0] 29) := ⟨_, rfl⟩
  rw [← hW0] at ht k0
  have lT : w.heap.size < W0.heap.size := ht.lt
  have EV := Lib.hid (events_any w.heap.size 0 24 W0 ht (by decide) (by decide))
  have K0 := Lib.hid k0
  clear hr hz ht k0
  have zs := zero_state W0
  go_enter Tryz.func4, Tryz.ntmps4
  go_upto_region 2 with (fail)
  rw [← hW0]
  clear hW0
  have t1 : True := trivial
  have t2 : True := trivial
  have t3 : True := trivial
  go_upto_region 3 with (first | (have _t := t1; go_at_call 16; refine EV.out.mono ?_; rintro e w1 ⟨vl, l, css, rfl, ho, hE, hl, hg, -, k1⟩; obtain ⟨LA, lc, rfl, -⟩ := own_row (S := none_) ho (fun _ _ e => e); have K1 := Lib.hid (K0.out.then k1 (fun b e => by cases e; exact .inr (Nat.le_refl _))); have RN := Lib.hid (sts_rn k1.size ho hE (by omega) hg); have VG := Lib.hid (show V (runS zeroSt l) ∧ ItsOk (runS zeroSt l) from by unfold runS; rw [(valid_iff _).2 V.zero]; exact ⟨V.zero.go l, ItsOk.go ItsOk.zero l (fun e he => (hg e he).items)⟩); have lw1 := K1.out.size; clear ho hE hl hg k1 _t t1) | (have _t := t2; go_at_call 15; refine RN.out.mono ?_; rintro e w2 ⟨v2, vo2, ve2, rfl, h2, o2, e2, k2⟩; obtain ⟨Ao, co, rfl, -⟩ := o2; obtain ⟨Ae, ce, rfl, -⟩ := e2; obtain ⟨vp, vj, vw, rfl, s1, s2, s3⟩ := h2; obtain ⟨Ap, cp, rfl, -⟩ := own_row (S := none_) s1 (fun _ _ e => e); obtain ⟨Aj, cj, rfl, hjl⟩ := s2.list; obtain ⟨Aw, cw, rfl, -⟩ := own_row (S := none_) s3 (fun _ _ e => e); have S1 := Lib.hid s1; have S2 := Lib.hid s2; have S3 := Lib.hid s3; have HJL := Lib.hid hjl; have K2 := Lib.hid (K1.out.trans k2); have lk2 := k2.size; clear s1 s2 s3 k2 hjl _t t2) | (have _t := t3; refine wpList_store_blk rfl 48 (.tmp 8) (.tmp 21) rfl w2.heap.size 48 _ _ rfl rfl (Blk.new _ _ _) rfl (by kernel_rfl) (by simp [Value.oneCell']) ?_; intro w3 b3 k3 s3; go_frame; clear _t t3))
  have k23 : Keep none_ w2 w3 := ((Keep.refl none_ w2).alloc _).own k3 (Nat.le_refl _)
  have L3 := Lib.hid (show LSt w3 W0.heap.size w2.heap.size w1.heap.size _ _ _ (runS zeroSt l) from ⟨b3, own_keep S1.out k23 (fun _ _ e => e), (S2.out.orr.keep k23 (fun _ e => e.elim) (fun _ _ e => e)).sub (fun b hb => hb.elim (fun hb => .inl (.inl (.inl hb))) (fun hb => hb.elim (fun hb => .inr (Nat.le_of_eq hb.symm)) (fun hb => .inl (.inr hb)))), own_keep S3.out k23 (fun _ _ e => e)⟩)
  have K3 := Lib.hid (K2.out.trans k23)
  clear b3 k3 s3 k23 S1 S2 S3 K2 RN K1 EV K0 zs HJL
  generalize runS zeroSt l = st at *
  have y2 : w3.cell? ⟨w2.heap.size, 2, none⟩ = some (.slice Aj st.jobs.length cj) := L3.out.blk.cell 2
  go_upto_if 28 with (fail)
  go_cut [] (fun wx => ∃ (st' : St) (Q1 : Option Addr) (Q2 Q3 : Nat) (Q4 : Option Addr) (Q5 Q6 : Nat) (Q7 : Option Addr) (Q8 Q9 : Nat), Blk wx w2.heap.size 48 #[.int .i64 st'.now, .slice Q1 Q2 Q3, .slice Q4 Q5 Q6, .slice Q7 Q8 Q9] ∧ StateOf wx none_ (.agg #[.int .i64 st'.now, .slice Q1 Q2 Q3, .slice Q4 Q5 Q6, .slice Q7 Q8 Q9]) st' ∧ SzS st' ∧ Keep none_ w wx)
  case first =>
    by_cases hn0 : st.jobs.length = 0
    · have SM := Lib.hid (show ∃ (st' : St) (Q1 : Option Addr) (Q2 Q3 : Nat) (Q4 : Option Addr) (Q5 Q6 : Nat) (Q7 : Option Addr) (Q8 Q9 : Nat), Blk w3 w2.heap.size 48 #[.int .i64 st'.now, .slice Q1 Q2 Q3, .slice Q4 Q5 Q6, .slice Q7 Q8 Q9] ∧ StateOf w3 none_ (.agg #[.int .i64 st'.now, .slice Q1 Q2 Q3, .slice Q4 Q5 Q6, .slice Q7 Q8 Q9]) st' ∧ SzS st' ∧ Keep none_ w w3 from ⟨st, _, _, _, _, _, _, _, _, _, L3.out.blk, L3.out.state, VG.out.1.szs, K3.out⟩)
      have hn0' : decide (0 < st.jobs.length) = false := decide_eq_false (by omega)
      have hn0b : ¬ 0 < st.jobs.length := by omega
      clear hn0
      go_wp2
      go_meet
      exact SM.out
    · have hn1 : decide (0 < st.jobs.length) = true := decide_eq_true (by omega)
      have hn64 : st.jobs.length ≤ 64 := VG.out.1.jl
      go_upto_region 5 with (fail)
      have hp : (0 : Int) < st.jobs.length := by omega
      have hnz : ((st.jobs.length : Int) == 0) = false := beq_eq_false_iff_ne.2 (by omega)
      have q0 : -(st.jobs.length : Int) < yb.tmod st.jobs.length := Int.lt_tmod_of_pos yb hp
      have q1 : yb.tmod st.jobs.length < st.jobs.length := Int.tmod_lt_of_pos yb hp
      obtain ⟨R, hR⟩ : ∃ R, yb.tmod st.jobs.length = R := ⟨_, rfl⟩
      rw [hR] at q0 q1
      have p0 : 0 ≤ (R + st.jobs.length).tmod st.jobs.length := Int.tmod_nonneg _ (by omega)
      have p1 : (R + st.jobs.length).tmod st.jobs.length < st.jobs.length := Int.tmod_lt_of_pos _ hp
      obtain ⟨q, hq⟩ : ∃ q : Nat, (R + st.jobs.length).tmod st.jobs.length = q := ⟨((R + st.jobs.length).tmod st.jobs.length).toNat, by omega⟩
      rw [hq] at p0 p1
      have hql : q < st.jobs.length := by omega
      obtain ⟨css, j1, j2, j3, j4⟩ := L3.out.jobs
      obtain ⟨b, cap, cur, eV, hb1, hb2, hb3⟩ := own_cases j3 (by omega)
      simp only [Value.slice.injEq, true_and] at eV
      obtain ⟨rfl, rfl⟩ := eV
      obtain ⟨A', c', eA, hjb⟩ := L3.out.jobs.list
      simp only [Value.slice.injEq, true_and] at eA
      obtain ⟨rfl, rfl⟩ := eA
      obtain ⟨b', o', eA, -, hkl2, cs, -, hrg, vn, vi, hcs, hns, his⟩ := hjb.elem q hql
      simp only [Option.some.injEq, Addr.mk.injEq, and_true] at eA
      obtain ⟨rfl, rfl⟩ := eA
      have hq' : (q : Int) < st.jobs.length := by omega
      have gd := still_good (w3).drew
      have ne := still_some (w3).drew
      have hx := still_at (w3).drew
      refine wp_region_calm (stillCalm (w3).drew) [0, 1, 2, 3, 4, 5, 6, 7, 8, 9] [10] 150 (by kernel_rfl) (by kernel_rfl) rfl gd rfl ?_
      simp only [pairs, List.filterMap_cons, List.filterMap_nil, List.getElem?_toArray, List.getElem?_cons_succ, List.getElem?_cons_zero, Option.map_some]
      repeat (refine Calm.walk_quiet ne rfl rfl rfl (fun K hK => ?_); go_big_quiet_op; refine hK _ ?_; clear hK K)
      intro w' hR _
      obtain rfl : w' = (w3).drew := hR.symm
      simp only [pickOps, List.filterMap_cons, List.filterMap_nil, List.getElem?_toArray, List.getElem?_cons_succ, List.getElem?_cons_zero]
      clear gd ne hx hR
      obtain ⟨w4, hw4⟩ : ∃ w4, w4 = w3.drew := ⟨_, rfl⟩
      have k4 : Keep none_ w3 w4 := hw4 ▸ (Keep.refl none_ w3).drew
      rw [← hw4]
      clear hw4
      have L4 := Lib.hid (L3.out.keep k4)
      have K4 := Lib.hid (K3.out.trans k4)
      have RG := Lib.hid (rangeAt_keep hrg k4 (fun e => e))
      have B4 := Lib.hid (hb2.keep k4 (fun e => e))
      have JB := Lib.hid (show JbOf w4 none_ cs st.jobs[q] from JbOf.keep ⟨vn, vi, hcs, hns, his⟩ k4)
      have PLQ := Lib.hid (VG.out.2 _ (List.getElem_mem hql))
      have VQ := Lib.hid (VG.out.1.jb _ (List.getElem_mem hql))
      have SZ := Lib.hid VG.out.1.szs
      have SZQ := Lib.hid (VG.out.1.szs.jb _ (List.getElem_mem hql))
      have y2 := k4.cell y2 (fun e => e)
      clear hrg hb2 hb3 hjb hns his j1 j2 j3 j4 k4 L3 K3
      go_upto_region 7 with (fail)
      have y0 : w4.cell? ⟨b, 0 + q * 7 + 0, none⟩ = some (.string st.jobs[q].name) := RG.out 0 _ (by rw [hcs]; rfl)
      have y1 : w4.cell? ⟨b, 0 + q * 7 + 1, none⟩ = some vn := RG.out 1 _ (by rw [hcs]; rfl)
      have y2 : w4.cell? ⟨b, 0 + q * 7 + 2, none⟩ = some (.string st.jobs[q].worker) := RG.out 2 _ (by rw [hcs]; rfl)
      have y3 : w4.cell? ⟨b, 0 + q * 7 + 3, none⟩ = some (.int .i64 st.jobs[q].until_) := RG.out 3 _ (by rw [hcs]; rfl)
      have y4 : w4.cell? ⟨b, 0 + q * 7 + 4, none⟩ = some (.int .i64 st.jobs[q].tries) := RG.out 4 _ (by rw [hcs]; rfl)
      have y5 : w4.cell? ⟨b, 0 + q * 7 + 5, none⟩ = some (.bool st.jobs[q].done) := RG.out 5 _ (by rw [hcs]; rfl)
      have y6 : w4.cell? ⟨b, 0 + q * 7 + 6, none⟩ = some vi := RG.out 6 _ (by rw [hcs]; rfl)
      rw [Nat.zero_add] at y0 y1 y2 y3 y4 y5 y6
      rw [Nat.add_zero] at y0
      have g0 : w4.cell? ⟨w2.heap.size, 0, none⟩ = some (.int .i64 st.now) := L4.out.blk.cell 0
      have g1 : w4.cell? ⟨w2.heap.size, 1, none⟩ = some (.slice Ap st.present.length cp) := L4.out.blk.cell 1
      have g2 : w4.cell? ⟨w2.heap.size, 2, none⟩ = some (.slice (some ⟨b, 0, none⟩) st.jobs.length cj) := L4.out.blk.cell 2
      have fg0 := L4.out.blk.frozen 0
      have fg1 := L4.out.blk.frozen 1
      have hcs' := Lib.hid hcs
      have RG' := RG
      clear RG hcs hR hq q0 q1 p0 p1 hnz hp hn1
      have m0 : -12 < yb.tmod 12 := Int.lt_tmod_of_pos yb (by decide)
      have m1 : yb.tmod 12 < 12 := Int.tmod_lt_of_pos yb (by decide)
      have m2 : -4 < yb.tmod 4 := Int.lt_tmod_of_pos yb (by decide)
      have m3 : yb.tmod 4 < 4 := Int.tmod_lt_of_pos yb (by decide)
      have u0 : 0 ≤ st.jobs[q].until_ ∧ st.jobs[q].until_ ≤ 1099511627786 := by
        obtain ⟨-, -, -, -, -, v6, v7⟩ := VQ.out
        have n1 := VG.out.1.n1
        have n0 := VG.out.1.n0
        by_cases hwk : st.jobs[q].worker = ⟨#[]⟩
        · rw [v6 hwk]; omega
        · obtain ⟨-, -, a, b, -⟩ := v7 hwk; omega
      have u1 : 0 ≤ st.jobs[q].tries ∧ st.jobs[q].tries ≤ 3 := ⟨VQ.out.2.2.1, VQ.out.2.2.2.1⟩
      have u2 : 0 ≤ st.now ∧ st.now ≤ 1099511627776 := ⟨VG.out.1.n0, VG.out.1.n1⟩
      obtain ⟨u0a, u0b⟩ := u0
      obtain ⟨u1a, u1b⟩ := u1
      obtain ⟨u2a, u2b⟩ := u2
      obtain ⟨z, hz⟩ : ∃ z, (wrap64 (wh.tmod 9 + 9)).tmod 9 = z := ⟨_, rfl⟩
      rw [hz]
      clear hz
      by_cases z0 : z = 0
      · subst z0
        obtain ⟨r1, r2⟩ := L4.out.setJob q hql 3 (by decide) (.int .i64 (st.jobs[q].until_ + yb.tmod 12)) ({ st.jobs[q] with until_ := st.jobs[q].until_ + yb.tmod 12 }) (fun cs h => by
          obtain ⟨vn, vi, rfl, g1, g2⟩ := h
          exact ⟨vn, vi, rfl, g1, g2⟩)
        have R1 := Lib.hid r1
        have R2 := Lib.hid r2
        have R3 := Lib.hid (SZ.out.setJob q ({ st.jobs[q] with until_ := st.jobs[q].until_ + yb.tmod 12 }) SZQ.out.1 SZQ.out.2)
        have R4 := Lib.hid (K4.out.own ((Keep.refl (one b) w4).setCell (p := ⟨b, q * 7 + 3, none⟩) (.inl rfl) (.int .i64 (st.jobs[q].until_ + yb.tmod 12))) (by omega))
        have fz := B4.out.frozen (q * 7 + 3)
        clear r1 r2
        go_wp2
        go_meet
        exact ⟨{ st with jobs := st.jobs.set q ({ st.jobs[q] with until_ := st.jobs[q].until_ + yb.tmod 12 }) }, _, _, _, _, _, _, _, _, _, R1.out, R2.out, R3.out, R4.out⟩

      have z0b : (z == 0) = false := beq_eq_false_iff_ne.2 z0
      by_cases z1 : z = 1
      · subst z1
        obtain ⟨r, hr, hr4⟩ := bits_and3 yb
        have hr3 : r = 0 ∨ r = 1 ∨ r = 2 ∨ r = 3 := by omega
        have KA : Keep none_ w4 (w4.alloc (.cells #[.string ⟨#[119, 48]⟩, .string ⟨#[119, 49]⟩, .string ⟨#[110, 111, 110, 101]⟩, .string ⟨#[78, 111]⟩] 9)) := (Keep.refl none_ w4).alloc _
        have L5 := Lib.hid (L4.out.keep KA)
        have BA := B4.out.keep KA (fun e => e)
        have x2 := KA.cell y2 (fun e => e)
        have fz := BA.frozen (q * 7 + 2)
        have KA2 := Lib.hid (K4.out.trans KA)
        clear KA BA
        rcases hr3 with rfl | rfl | rfl | rfl
        · obtain ⟨r1, r2⟩ := L5.out.setJob q hql 2 (by decide) (.string ⟨#[119, 48]⟩) ({ st.jobs[q] with worker := ⟨#[119, 48]⟩ }) (fun cs h => by
            obtain ⟨vn, vi, rfl, g1, g2⟩ := h
            exact ⟨vn, vi, rfl, g1, g2⟩)
          have R1 := Lib.hid r1
          have R2 := Lib.hid r2
          have R3 := Lib.hid (SZ.out.setJob q ({ st.jobs[q] with worker := ⟨#[119, 48]⟩ }) SZQ.out.1 SZQ.out.2)
          have R4 := Lib.hid (KA2.out.own ((Keep.refl (one b) _).setCell (p := ⟨b, q * 7 + 2, none⟩) (.inl rfl) (.string ⟨#[119, 48]⟩)) (by omega))
          clear r1 r2
          go_wp2
          go_meet
          exact ⟨{ st with jobs := st.jobs.set q ({ st.jobs[q] with worker := ⟨#[119, 48]⟩ }) }, _, _, _, _, _, _, _, _, _, R1.out, R2.out, R3.out, R4.out⟩
        · obtain ⟨r1, r2⟩ := L5.out.setJob q hql 2 (by decide) (.string ⟨#[119, 49]⟩) ({ st.jobs[q] with worker := ⟨#[119, 49]⟩ }) (fun cs h => by
            obtain ⟨vn, vi, rfl, g1, g2⟩ := h
            exact ⟨vn, vi, rfl, g1, g2⟩)
          have R1 := Lib.hid r1
          have R2 := Lib.hid r2
          have R3 := Lib.hid (SZ.out.setJob q ({ st.jobs[q] with worker := ⟨#[119, 49]⟩ }) SZQ.out.1 SZQ.out.2)
          have R4 := Lib.hid (KA2.out.own ((Keep.refl (one b) _).setCell (p := ⟨b, q * 7 + 2, none⟩) (.inl rfl) (.string ⟨#[119, 49]⟩)) (by omega))
          clear r1 r2
          go_wp2
          go_meet
          exact ⟨{ st with jobs := st.jobs.set q ({ st.jobs[q] with worker := ⟨#[119, 49]⟩ }) }, _, _, _, _, _, _, _, _, _, R1.out, R2.out, R3.out, R4.out⟩
        · obtain ⟨r1, r2⟩ := L5.out.setJob q hql 2 (by decide) (.string ⟨#[110, 111, 110, 101]⟩) ({ st.jobs[q] with worker := ⟨#[110, 111, 110, 101]⟩ }) (fun cs h => by
            obtain ⟨vn, vi, rfl, g1, g2⟩ := h
            exact ⟨vn, vi, rfl, g1, g2⟩)
          have R1 := Lib.hid r1
          have R2 := Lib.hid r2
          have R3 := Lib.hid (SZ.out.setJob q ({ st.jobs[q] with worker := ⟨#[110, 111, 110, 101]⟩ }) SZQ.out.1 SZQ.out.2)
          have R4 := Lib.hid (KA2.out.own ((Keep.refl (one b) _).setCell (p := ⟨b, q * 7 + 2, none⟩) (.inl rfl) (.string ⟨#[110, 111, 110, 101]⟩)) (by omega))
          clear r1 r2
          go_wp2
          go_meet
          exact ⟨{ st with jobs := st.jobs.set q ({ st.jobs[q] with worker := ⟨#[110, 111, 110, 101]⟩ }) }, _, _, _, _, _, _, _, _, _, R1.out, R2.out, R3.out, R4.out⟩
        · obtain ⟨r1, r2⟩ := L5.out.setJob q hql 2 (by decide) (.string ⟨#[78, 111]⟩) ({ st.jobs[q] with worker := ⟨#[78, 111]⟩ }) (fun cs h => by
            obtain ⟨vn, vi, rfl, g1, g2⟩ := h
            exact ⟨vn, vi, rfl, g1, g2⟩)
          have R1 := Lib.hid r1
          have R2 := Lib.hid r2
          have R3 := Lib.hid (SZ.out.setJob q ({ st.jobs[q] with worker := ⟨#[78, 111]⟩ }) SZQ.out.1 SZQ.out.2)
          have R4 := Lib.hid (KA2.out.own ((Keep.refl (one b) _).setCell (p := ⟨b, q * 7 + 2, none⟩) (.inl rfl) (.string ⟨#[78, 111]⟩)) (by omega))
          clear r1 r2
          go_wp2
          go_meet
          exact ⟨{ st with jobs := st.jobs.set q ({ st.jobs[q] with worker := ⟨#[78, 111]⟩ }) }, _, _, _, _, _, _, _, _, _, R1.out, R2.out, R3.out, R4.out⟩
      have z1b : (z == 1) = false := beq_eq_false_iff_ne.2 z1
      by_cases z2 : z = 2
      · subst z2
        obtain ⟨r1, r2⟩ := L4.out.setJob q hql 5 (by decide) (.bool (!st.jobs[q].done)) ({ st.jobs[q] with done := !st.jobs[q].done }) (fun cs h => by
          obtain ⟨vn, vi, rfl, g1, g2⟩ := h
          exact ⟨vn, vi, rfl, g1, g2⟩)
        have R1 := Lib.hid r1
        have R2 := Lib.hid r2
        have R3 := Lib.hid (SZ.out.setJob q ({ st.jobs[q] with done := !st.jobs[q].done }) SZQ.out.1 SZQ.out.2)
        have R4 := Lib.hid (K4.out.own ((Keep.refl (one b) w4).setCell (p := ⟨b, q * 7 + 5, none⟩) (.inl rfl) (.bool (!st.jobs[q].done))) (by omega))
        have fz := B4.out.frozen (q * 7 + 5)
        clear r1 r2
        go_wp2
        go_meet
        exact ⟨{ st with jobs := st.jobs.set q ({ st.jobs[q] with done := !st.jobs[q].done }) }, _, _, _, _, _, _, _, _, _, R1.out, R2.out, R3.out, R4.out⟩

      have z2b : (z == 2) = false := beq_eq_false_iff_ne.2 z2
      by_cases z3 : z = 3
      · subst z3
        obtain ⟨r1, r2⟩ := L4.out.setJob q hql 4 (by decide) (.int .i64 (st.jobs[q].tries + yb.tmod 4)) ({ st.jobs[q] with tries := st.jobs[q].tries + yb.tmod 4 }) (fun cs h => by
          obtain ⟨vn, vi, rfl, g1, g2⟩ := h
          exact ⟨vn, vi, rfl, g1, g2⟩)
        have R1 := Lib.hid r1
        have R2 := Lib.hid r2
        have R3 := Lib.hid (SZ.out.setJob q ({ st.jobs[q] with tries := st.jobs[q].tries + yb.tmod 4 }) SZQ.out.1 SZQ.out.2)
        have R4 := Lib.hid (K4.out.own ((Keep.refl (one b) w4).setCell (p := ⟨b, q * 7 + 4, none⟩) (.inl rfl) (.int .i64 (st.jobs[q].tries + yb.tmod 4))) (by omega))
        have fz := B4.out.frozen (q * 7 + 4)
        clear r1 r2
        go_wp2
        go_meet
        exact ⟨{ st with jobs := st.jobs.set q ({ st.jobs[q] with tries := st.jobs[q].tries + yb.tmod 4 }) }, _, _, _, _, _, _, _, _, _, R1.out, R2.out, R3.out, R4.out⟩

      have z3b : (z == 3) = false := beq_eq_false_iff_ne.2 z3
      by_cases z4 : z = 4
      · subst z4
        obtain ⟨ie, iz, hie, hiz, hsi, hby, hzs⟩ := info_all (P := Tryz.prog) (t := 72) (n := 148) (b := 296) (by kernel_rfl)
        have I1 := Lib.hid (And.intro hie (And.intro hiz (And.intro hsi (And.intro hby hzs))))
        clear hie hiz hsi hby hzs
        obtain ⟨IC, hIC⟩ : ∃ IC, itm1Cells = IC := ⟨_, rfl⟩
        have HIC := Lib.hid hIC
        have HBI := Lib.hid (hIC ▸ itm1_built : Tryz.prog.built 72 [(0, .int .i64 1)] = some IC)
        have HSZ := Lib.hid (hIC ▸ itm1_size : IC.size = 148)
        have HON := Lib.hid (show ∀ u ∈ IC.toList, u.oneCell' = true from fun u hu => by
          rw [← hIC] at hu
          exact (itm1_of w4 none_).one u hu)
        have AC := Lib.hid (show allCells [(0, .agg IC)] = IC.toList by simp [allCells, Value.cells])
        have ITM := Lib.hid (show ItemsOf w4 none_ vi st.jobs[q].items by
          obtain ⟨vn', vi', e, -, g⟩ := JB.out
          rw [hcs'.out] at e
          simp only [List.cons.injEq, and_true] at e
          obtain ⟨-, -, -, -, -, -, rfl⟩ := e
          exact g)
        have OWN := L4.out.items q hql y6
        obtain ⟨no, xo, hno⟩ : ∃ no xo, w4.ownsRow 0 72 148 vi no xo := OWN.elim (fun e => ⟨0, [], e ▸ ⟨rfl, .inl ⟨rfl, rfl⟩⟩⟩) (fun ⟨⟨xs, h⟩, _⟩ => ⟨1, xs, h⟩)
        have HNO := Lib.hid hno
        have HOWN := Lib.hid OWN
        obtain ⟨Ai, ci, rfl, hri⟩ := own_row (S := none_) hno (fun _ _ e => e)
        have hlo : no ≤ 1 := by
          rcases OWN with e | ⟨⟨xs, h⟩, -⟩
          · simp only [Value.slice.injEq] at e; omega
          · rcases h.2 with ⟨e1, h0⟩ | ⟨g', cap', cur', e1, -⟩
            · omega
            · simp only [Value.slice.injEq] at e1; omega
        clear hIC OWN hno hri
        have t8 : True := trivial
        have t9 : True := trivial
        have t10 : True := trivial
        go_wp2_with (first | (have _t := t8; refine wpList_build_is 72 _ rfl rfl IC HBI.out ?_; go_frame; clear _t t8) | (have _t := t9; refine wpList_buildSlice_whole 55 72 1 _ rfl rfl Tryz.underlying55 I1.out.1 I1.out.2.1 (by rw [I1.out.2.2.1]; decide) (by rw [I1.out.2.2.1]; decide) [(0, .agg IC)] rfl (by simp only [Contig, Value.cells, I1.out.2.2.1, HSZ.out]; exact ⟨trivial, trivial⟩) (by simp [allCells, Value.cells, I1.out.2.2.1, HSZ.out]) ?_; intro w5 b5 k5; have B5 := Lib.hid b5; have K5 := Lib.hid k5; have HN5 := Lib.hid (own_keep HNO.out k5 (fun _ _ e => e)); have L5 := Lib.hid (L4.out.keep k5); have BJ5 := Lib.hid (B4.out.keep k5 (fun e => e)); have IT5 := Lib.hid (ItemsOf.keep ITM.out k5); have x6 := k5.cell y6 (fun e => e); clear b5 k5 y6; go_frame; clear _t t9) | (have _t := t10; refine wpList_plain rfl fun K hK => wp_of_gives (gives_append_loc (.tmp 93) (.tmp 95) 55 72 rfl 0 148 296 Tryz.underlying55 I1.out.1 I1.out.2.1 I1.out.2.2.1 I1.out.2.2.2.1 I1.out.2.2.2.2 (by decide) _ no xo rfl HN5.out (some ⟨w4.heap.size, 0, none⟩) 1 1 IC.toList none_ rfl (by have := B5.out.row (size := 148) (n := 1) (c := 1) (S := none_) (by rw [AC.out]; simp [HSZ.out]) (Nat.le_refl _) (by decide) (fun e => e); rw [AC.out] at this; simpa [HSZ.out, List.take_of_length_le] using this) HON.out (by omega) (by unfold maxLen; omega) (Nat.zero_le _)) (fun v' w' h => hK _ _ ?_); obtain ⟨h1, h2, h3, -⟩ := h; obtain ⟨A7, c7, rfl, -⟩ := own_row (S := none_) h1 (fun _ _ e => e); have O7 := Lib.hid h1; have K7 := Lib.hid h2; have P7 := Lib.hid h3; have nb := Lib.hid (show ¬ ofBlk (.slice Ai no ci) b from fun e => own_apart HN5.out BJ5.out (by decide) b e rfl); have z6 := h2.cell x6 nb.out; have BJ7 := Lib.hid (BJ5.out.keep h2 nb.out); have fz := BJ7.out.frozen (q * 7 + 6); clear h1 h2 h3 hK K; go_frame; clear _t t10))
        go_meet
        have kst : Keep (one b) w' (w'.setCell ⟨b, q * 7 + 6, none⟩ (.slice A7 (no + 1) c7)) := (Keep.refl (one b) w').setCell (p := ⟨b, q * 7 + 6, none⟩) (.inl rfl) _
        have L7 : LSt w' W0.heap.size w2.heap.size w1.heap.size (.slice Ap st.present.length cp) (.slice (some ⟨b, 0, none⟩) st.jobs.length cj) (.slice Aw st.workers.length cw) st := by
          rcases HOWN.out with e | ⟨⟨xs, h⟩, -⟩
          · exact L5.out.keep (K7.out.mono (fun z hz => by rw [e] at hz; cases hz))
          · have h5 := own_keep h K5.out (fun _ _ e => e)
            have e1 : no = 1 := by
              rcases h5.2 with ⟨e2, h0⟩ | ⟨g', cap', cur', e2, -⟩
              · omega
              · simp only [Value.slice.injEq] at e2; omega
            subst e1
            exact L5.out.appended ⟨xs, h5⟩ K7.out P7.out (by simp [HSZ.out]) (fun j hj => (VG.out.2 j hj).1)
        have o8 := own_keep O7.out kst (own_apart O7.out BJ7.out (by decide))
        rw [← HIC.out] at o8
        have its := items_snoc IT5.out PLQ.out.1 HN5.out o8
        obtain ⟨r1, r2⟩ := L7.setJob q hql 6 (by decide) (.slice A7 (no + 1) c7) ({ st.jobs[q] with items := st.jobs[q].items ++ [itm1] }) (fun cs h => by
          obtain ⟨vn, vi, rfl, g1, g2⟩ := h
          exact ⟨vn, _, rfl, g1, its⟩)
        exact ⟨{ st with jobs := st.jobs.set q ({ st.jobs[q] with items := st.jobs[q].items ++ [itm1] }) }, _, _, _, _, _, _, _, _, _, r1, r2, SZ.out.setJob q _ SZQ.out.1 SZQ.out.2, ((K4.out.trans K5.out).then K7.out (fun z hz => .inr (by
          rcases HOWN.out with e | ⟨-, h⟩
          · rw [e] at hz; cases hz
          · have := h z hz; omega))).own kst (by omega)⟩
      have z4b : (z == 4) = false := beq_eq_false_iff_ne.2 z4
      by_cases z5 : z = 5
      · subst z5
        have h0l : 0 < st.jobs.length := by omega
        obtain ⟨b0', o0', eA, -, hl0, cs0, -, hrg0, vn0, vi0, hcs0, -, -⟩ := (JobsOf.keep (show JobsOf w4 none_ (.slice (some ⟨b, 0, none⟩) st.jobs.length cj) st.jobs from by obtain ⟨A', c', eA, hjb⟩ := L4.out.jobs.list; rw [eA]; exact hjb) (Keep.refl none_ w4)).elem 0 h0l
        simp only [Option.some.injEq, Addr.mk.injEq, and_true] at eA
        obtain ⟨rfl, rfl⟩ := eA
        have x0 : w4.cell? ⟨b, 0 + 0 * 7 + 0, none⟩ = some (.string st.jobs[0].name) := hrg0 0 _ (by rw [show cs0 = _ from hcs0]; rfl)
        rw [Nat.zero_mul] at x0
        obtain ⟨r1, r2⟩ := L4.out.setJob q hql 0 (by decide) (.string st.jobs[0].name) ({ st.jobs[q] with name := st.jobs[0].name }) (fun cs h => by
          obtain ⟨vn, vi, rfl, g1, g2⟩ := h
          exact ⟨vn, vi, rfl, g1, g2⟩)
        have R1 := Lib.hid r1
        have R2 := Lib.hid r2
        have R3 := Lib.hid (SZ.out.setJob q ({ st.jobs[q] with name := st.jobs[0].name }) (SZ.out.jb _ (List.getElem_mem h0l)).1 SZQ.out.2)
        have R4 := Lib.hid (K4.out.own ((Keep.refl (one b) w4).setCell (p := ⟨b, q * 7 + 0, none⟩) (.inl rfl) (.string st.jobs[0].name)) (by omega))
        rw [Nat.add_zero] at R1 R2 R4
        have fz := B4.out.frozen (q * 7)
        have h0' : (0 : Int) < st.jobs.length := by omega
        clear r1 r2 hrg0 hcs0
        go_wp2
        go_meet
        exact ⟨{ st with jobs := st.jobs.set q ({ st.jobs[q] with name := st.jobs[0].name }) }, _, _, _, _, _, _, _, _, _, R1.out, R2.out, R3.out, R4.out⟩
      have z5b : (z == 5) = false := beq_eq_false_iff_ne.2 z5
      by_cases z6 : z = 6
      · subst z6
        obtain ⟨An, nn, cn, rfl, hrn⟩ : ∃ An nn cn, vn = .slice An nn cn ∧ Row w4 none_ 1 An nn cn (st.jobs[q].needs.map Value.string) := by
          obtain ⟨vn', vi', e, g, -⟩ := JB.out
          rw [hcs'.out] at e
          simp only [List.cons.injEq, and_true] at e
          obtain ⟨-, rfl, -⟩ := e
          exact g
        have hnn : nn ≤ 16 := by
          have := hrn.len
          have h16 := ((namesOk_iff _).1 VQ.out.2.1).2.2
          simp at this
          omega
        have HRN := Lib.hid (hrn.keep ((Keep.refl none_ w4).alloc (.cells #[.string ⟨#[122, 122]⟩] 9)))
        have K5 : Keep none_ w4 (w4.alloc (.cells #[.string ⟨#[122, 122]⟩] 9)) := (Keep.refl none_ w4).alloc _
        have x1 := K5.cell y1 (fun e => e)
        have own5 : (w4.alloc (.cells #[.string ⟨#[122, 122]⟩] 9)).ownsRow w4.heap.size 9 1 (.slice (some ⟨w4.heap.size, 0, none⟩) 1 1) 1 [.string ⟨#[122, 122]⟩] := ⟨rfl, .inr ⟨w4.heap.size, 1, _, rfl, Nat.le_refl _, Blk.new _ _ _, Nat.le_refl _, by decide, rfl, rfl⟩⟩
        have OWN5 := Lib.hid own5
        have HK5 := Lib.hid K5
        obtain ⟨ie, iz, hie, hiz, hsi, hby, hzs⟩ := info_all (P := Tryz.prog) (t := 9) (n := 1) (b := 16) (by kernel_rfl)
        have I1 := Lib.hid (And.intro hie (And.intro hiz (And.intro hsi (And.intro hby hzs))))
        clear hie hiz hsi hby hzs own5 K5 hrn
        have t10 : True := trivial
        go_wp2_with (have _t := t10; refine wpList_plain rfl fun K hK => wp_of_gives (gives_append_loc (.tmp 112) (.tmp 116) 44 9 rfl w4.heap.size 1 16 Tryz.underlying44 I1.out.1 I1.out.2.1 I1.out.2.2.1 I1.out.2.2.2.1 I1.out.2.2.2.2 (by decide) _ 1 _ rfl OWN5.out An nn cn (st.jobs[q].needs.map Value.string) none_ rfl HRN.out (fun u hu => by obtain ⟨y, -, rfl⟩ := List.mem_map.1 hu; rfl) (by omega) (by unfold maxLen; omega) (by simp)) (fun v' w' h => hK _ _ ?_); obtain ⟨h1, h2, -, -⟩ := h; obtain ⟨A7, c7, rfl, -⟩ := own_row (S := none_) h1 (fun _ _ e => e); have O7 := Lib.hid h1; have K7 := Lib.hid (HK5.out.then h2 (fun z e => .inr (own_ge OWN5.out z e))); have z1 := K7.out.cell y1 (fun e => e); have BJ7 := Lib.hid (B4.out.keep K7.out (fun e => e)); have fz := BJ7.out.frozen (q * 7 + 1); clear h1 h2 hK K; go_frame; clear _t t10)
        go_meet
        have L7 := L4.out.keep K7.out
        have kst : Keep (one b) w' (w'.setCell ⟨b, q * 7 + 1, none⟩ (.slice A7 (1 + nn) c7)) := (Keep.refl (one b) w').setCell (p := ⟨b, q * 7 + 1, none⟩) (.inl rfl) _
        have o8 := own_keep O7.out kst (own_apart O7.out BJ7.out (by decide))
        obtain ⟨A8, c8, e8, r8⟩ := own_row (S := none_) o8 (fun _ _ e => e)
        obtain ⟨r1, r2⟩ := L7.setJob q hql 1 (by decide) (.slice A7 (1 + nn) c7) ({ st.jobs[q] with needs := ⟨#[122, 122]⟩ :: st.jobs[q].needs }) (fun cs h => by
          obtain ⟨vn, vi, rfl, g1, g2⟩ := h
          exact ⟨_, vi, rfl, ⟨_, _, _, e8, by simpa using r8⟩, g2⟩)
        exact ⟨{ st with jobs := st.jobs.set q ({ st.jobs[q] with needs := ⟨#[122, 122]⟩ :: st.jobs[q].needs }) }, _, _, _, _, _, _, _, _, _, r1, r2, SZ.out.setJob q _ SZQ.out.1 (fun y hy => by
          rcases List.mem_cons.1 hy with rfl | hy
          · unfold Szd maxLen; decide
          · exact SZQ.out.2 y hy), (K4.out.trans K7.out).own kst (by omega)⟩
      have z6b : (z == 6) = false := beq_eq_false_iff_ne.2 z6
      by_cases z7 : z = 7
      · subst z7
        have kg : Keep (one w2.heap.size) w4 (w4.setCell ⟨w2.heap.size, 0, none⟩ (.int .i64 (st.now + yb.tmod 12))) := (Keep.refl (one w2.heap.size) w4).setCell (p := ⟨w2.heap.size, 0, none⟩) (.inl rfl) _
        have R1 := Lib.hid (show Blk (w4.setCell ⟨w2.heap.size, 0, none⟩ (.int .i64 (st.now + yb.tmod 12))) w2.heap.size 48 #[.int .i64 (st.now + yb.tmod 12), .slice Ap st.present.length cp, .slice (some ⟨b, 0, none⟩) st.jobs.length cj, .slice Aw st.workers.length cw] from by
          have := L4.out.blk.set_ 0 (.int .i64 (st.now + yb.tmod 12))
          simpa using this)
        have L7 : LSt (w4.setCell ⟨w2.heap.size, 0, none⟩ (.int .i64 (st.now + yb.tmod 12))) W0.heap.size w2.heap.size w1.heap.size (.slice Ap st.present.length cp) (.slice (some ⟨b, 0, none⟩) st.jobs.length cj) (.slice Aw st.workers.length cw) { st with now := st.now + yb.tmod 12 } := by
          obtain ⟨css7, i1, i2, i3, i4⟩ := L4.out.jobs
          exact ⟨R1.out, own_keep L4.out.strs kg (own_apart L4.out.strs L4.out.blk (by decide)), ⟨css7, i1, i2, own_keep i3 kg (own_apart i3 L4.out.blk (by decide)), fun i cs x hi hx => (i4 i cs x hi hx).keep (kg.mono (fun _ e => .inr (.inl e)))⟩, own_keep L4.out.wks kg (own_apart L4.out.wks L4.out.blk (by decide))⟩
        have R2 := Lib.hid L7.state
        have R4 := Lib.hid (K4.out.own kg (by omega))
        clear kg L7
        go_wp2
        go_meet
        exact ⟨{ st with now := st.now + yb.tmod 12 }, _, _, _, _, _, _, _, _, _, R1.out, R2.out, ⟨SZ.out.pr, SZ.out.wk, SZ.out.jb⟩, R4.out⟩
      have z7b : (z == 7) = false := beq_eq_false_iff_ne.2 z7
      by_cases z8 : z = 8
      · subst z8
        have KA : Keep none_ w4 (w4.alloc (.cells #[.string ⟨#[97]⟩] 9)) := (Keep.refl none_ w4).alloc _
        have L5 := Lib.hid (L4.out.keep KA)
        have K5 := Lib.hid (K4.out.trans KA)
        have p16 : st.present.length ≤ 64 := VG.out.1.p64
        have nog : ¬ ofBlk (.slice Ap st.present.length cp) w2.heap.size := fun e => own_apart L5.out.strs L5.out.blk (by decide) _ e rfl
        clear KA
        have t9 : True := trivial
        have lw5 : w1.heap.size ≤ w4.heap.size := by have := L4.out.blk.lt; omega
        go_wp2_with (have _t := t9; refine wpList_append_blk (.tmp 131) (.tmp 132) 44 9 rfl rfl w1.heap.size (.string ⟨#[]⟩) 1 16 Tryz.underlying44 str_info rfl (by decide) (.slice Ap st.present.length cp) st.present.length _ rfl L5.out.strs w4.heap.size #[.string ⟨#[97]⟩] rfl (Blk.new _ _ _) rfl (by simp [Value.oneCell']) (by omega) (by simp; omega) ?_; intro A6 c6 w6 o6 k6; have B7 := L5.out.blk.keep k6 nog; have x1 := B7.cell 1; have f1 := B7.frozen 1; simp only [List.getElem?_toArray, List.getElem?_cons_zero, List.getElem?_cons_succ] at x1; have O6 := Lib.hid o6; have K6 := Lib.hid k6; have B6 := Lib.hid B7; clear o6 k6 B7; go_frame; clear _t t9)
        go_meet
        have kg : Keep (one w2.heap.size) w6 (w6.setCell ⟨w2.heap.size, 1, none⟩ (.slice A6 (st.present.length + 1) c6)) := (Keep.refl (one w2.heap.size) w6).setCell (p := ⟨w2.heap.size, 1, none⟩) (.inl rfl) _
        have R1 : Blk (w6.setCell ⟨w2.heap.size, 1, none⟩ (.slice A6 (st.present.length + 1) c6)) w2.heap.size 48 #[.int .i64 st.now, .slice A6 (st.present.length + 1) c6, .slice (some ⟨b, 0, none⟩) st.jobs.length cj, .slice Aw st.workers.length cw] := by
          have := B6.out.set_ 1 (.slice A6 (st.present.length + 1) c6)
          simpa using this
        obtain ⟨css7, i1, i2, i3, i4⟩ := L5.out.jobs
        have k2 : Keep (fun z => ofBlk (.slice Ap st.present.length cp) z ∨ z = w2.heap.size) (w4.alloc (.cells #[.string ⟨#[97]⟩] 9)) (w6.setCell ⟨w2.heap.size, 1, none⟩ (.slice A6 (st.present.length + 1) c6)) := (K6.out.mono (fun _ e => .inl e)).trans (kg.mono (fun _ e => .inr e))
        have far : ∀ {ty : TypeId} {sz m : Nat} {v : Value} {xs : List Value}, World.ownsRow (w4.alloc (.cells #[.string ⟨#[97]⟩] 9)) w1.heap.size ty sz v m xs → ty ≠ 9 → ty ≠ 48 → ∀ b, v.ownBlock = some b → ¬ (ofBlk (.slice Ap st.present.length cp) b ∨ b = w2.heap.size) := fun {ty sz m v xs} ho h1 h2 b hb e => e.elim (fun e => own_apart2 ho L5.out.strs h1 b hb e) (fun e => own_apart ho L5.out.blk h2 b hb e)
        have oj := own_keep i3 k2 (far i3 (by decide) (by decide))
        have ow := own_keep L5.out.wks k2 (far L5.out.wks (by decide) (by decide))
        have os := own_keep O6.out kg (own_apart O6.out B6.out (by decide))
        obtain ⟨A1, c1, e1, r1⟩ := own_row (S := none_) os (fun _ _ e => e)
        obtain ⟨A2, c2, e2, r2⟩ := own_row (S := none_) oj (fun _ _ e => e)
        obtain ⟨A3, c3, e3, r3⟩ := ElemsOf_wks (S := none_) ow (fun _ _ e => e)
        refine ⟨{ st with present := st.present ++ [⟨#[97]⟩] }, _, _, _, _, _, _, _, _, _, R1, ⟨_, _, _, rfl, ⟨_, _, _, e1, by simpa using r1⟩, ?_, by rw [e3]; exact r3⟩, ⟨fun x hx => ?_, SZ.out.wk, SZ.out.jb⟩, ?_⟩
        · rw [e2]
          exact ElemsOf.of_row rfl i1 i2 r2 (fun i cs x hi hx => ((i4 i cs x hi hx).1.keep (k2.mono (fun z e => e.elim (fun e => .inr (.inr (.inl e))) (fun e => .inr (.inl e))))).sub (fun _ e => e.elim))
        · rcases List.mem_append.1 hx with hx | hx
          · exact SZ.out.pr x hx
          · simp at hx; subst hx; unfold Szd maxLen; decide
        · exact (K5.out.then K6.out (fun z e => .inr (by have := own_ge L5.out.strs z e; omega))).own kg (by omega)
      have z8b : (z == 8) = false := beq_eq_false_iff_ne.2 z8
      have SM := Lib.hid (show ∃ (st' : St) (Q1 : Option Addr) (Q2 Q3 : Nat) (Q4 : Option Addr) (Q5 Q6 : Nat) (Q7 : Option Addr) (Q8 Q9 : Nat), Blk w4 w2.heap.size 48 #[.int .i64 st'.now, .slice Q1 Q2 Q3, .slice Q4 Q5 Q6, .slice Q7 Q8 Q9] ∧ StateOf w4 none_ (.agg #[.int .i64 st'.now, .slice Q1 Q2 Q3, .slice Q4 Q5 Q6, .slice Q7 Q8 Q9]) st' ∧ SzS st' ∧ Keep none_ w w4 from ⟨st, _, _, _, _, _, _, _, _, _, L4.out.blk, L4.out.state, SZ.out, K4.out⟩)
      go_wp2
      go_meet
      exact SM.out
  case rest =>
    obtain ⟨st', Q1, Q2, Q3, Q4, Q5, Q6, Q7, Q8, Q9, hB, hS, hZ, hK⟩ := hcut
    clear L3 K3 VG y2
    have HB := Lib.hid hB
    have HS := Lib.hid hS
    have HZ := Lib.hid hZ
    have HK := Lib.hid hK
    clear hB hS hZ hK
    go_upto_region 25 with (fail)
    have gd := factCalm_good (wr := wc) (ks := [1, 3, 7, 9, 10, 13]) (anc := stsAnc) (T := stsT (validF st') ((readyF st').map (nameAt st'))) (fun k v w w' h hk => stsT_keep _ _ k v w w' h hk)
    have ne := factCalm_some wc [1, 3, 7, 9, 10, 13] stsAnc (stsT (validF st') ((readyF st').map (nameAt st')))
    have x0 := Lib.hid (fun y => (HB.out.keep (factCalm_at (wr := wc) (ks := [1, 3, 7, 9, 10, 13]) (anc := stsAnc) (T := stsT (validF st') ((readyF st').map (nameAt st'))) y) (fun e => e)).rangeAt)
    refine wp_region_calm (factCalm wc [1, 3, 7, 9, 10, 13] stsAnc (stsT (validF st') ((readyF st').map (nameAt st')))) [0, 1, 2, 3, 4, 5, 6, 7, 8, 9, 10, 11, 12, 13, 14] [15] 150 (by kernel_rfl) (by kernel_rfl) rfl gd (Keep.refl _ _).drew ?_
    simp only [pairs, List.filterMap_cons, List.filterMap_nil, List.getElem?_toArray, List.getElem?_cons_succ, List.getElem?_cons_zero, Option.map_some]
    refine Calm.walk_load 48 (.tmp 8) rfl ne rfl rfl w2.heap.size 0 rfl #[.int .i64 st'.now, .slice Q1 Q2 Q3, .slice Q4 Q5 Q6, .slice Q7 Q8 Q9] _ x0.out Tryz.underlying48 rfl (by kernel_rfl) ?_
    go_frame
    refine Calm.walk_eff rfl rfl (fun n wy hn hG _ => ?_) ?_
    · have hG' : Keep none_ wc wy := hG
      unfold gives
      go_simp
      refine (valid_any st' _ none_ wy (HS.out.keep hG')).mono ?_
      rintro en wz ⟨rfl, kz⟩
      exact ⟨_, rfl, rfl, kz, hG'.trans kz, fun _ h => h.elim⟩
    intro vq wy hT
    obtain rfl : vq = .bool (validF st') := hT
    clear wy
    go_frame
    refine Calm.walk_load 48 (.tmp 8) rfl ne rfl rfl w2.heap.size 0 rfl #[.int .i64 st'.now, .slice Q1 Q2 Q3, .slice Q4 Q5 Q6, .slice Q7 Q8 Q9] _ x0.out Tryz.underlying48 rfl (by kernel_rfl) ?_
    go_frame
    refine Calm.walk_eff rfl rfl (fun n wy hn hG _ => ?_) ?_
    · have hG' : Keep none_ wc wy := hG
      unfold gives
      go_simp
      refine (rvalid_any st' HZ.out _ none_ wy (HS.out.keep hG')).mono ?_
      rintro en wz ⟨rfl, kz⟩
      exact ⟨_, rfl, rfl, kz, hG'.trans kz, fun _ h => h.elim⟩
    intro vq wy hT
    obtain rfl : vq = .bool (validF st') := hT
    clear wy
    go_frame
    repeat (refine Calm.walk_quiet ne rfl rfl rfl (fun K hK => ?_); go_big_quiet_op; refine hK _ ?_; clear hK K)
    refine Calm.walk_load 48 (.tmp 8) rfl ne rfl rfl w2.heap.size 0 rfl #[.int .i64 st'.now, .slice Q1 Q2 Q3, .slice Q4 Q5 Q6, .slice Q7 Q8 Q9] _ x0.out Tryz.underlying48 rfl (by kernel_rfl) ?_
    go_frame
    refine Calm.walk_eff rfl rfl (fun n wy hn hG _ => ?_) ?_
    · have hG' : Keep none_ wc wy := hG
      unfold gives
      go_simp
      refine (rdy_any st' _ none_ wy (HS.out.keep hG')).mono ?_
      rintro en wz ⟨vz, rfl, hz, kz⟩
      obtain ⟨Az, cz, rfl, rz⟩ := own_row (S := none_) hz (fun _ _ e => e)
      exact ⟨_, rfl, (⟨_, _, _, rfl, rz⟩ : StrsOf wz none_ _ _), kz, hG'.trans kz, fun _ h => h.elim⟩
    intro vq wy hT
    obtain ⟨Y1, Y2, Y3, rfl, -⟩ : StrsOf wy none_ vq _ := hT
    clear wy
    go_frame
    refine Calm.walk_load 48 (.tmp 8) rfl ne rfl rfl w2.heap.size 0 rfl #[.int .i64 st'.now, .slice Q1 Q2 Q3, .slice Q4 Q5 Q6, .slice Q7 Q8 Q9] _ x0.out Tryz.underlying48 rfl (by kernel_rfl) ?_
    go_frame
    refine Calm.walk_eff rfl rfl (fun n wy hn hG _ => ?_) ?_
    · have hG' : Keep none_ wc wy := hG
      unfold gives
      go_simp
      refine (rrdy_any st' HZ.out _ none_ wy (HS.out.keep hG')).mono ?_
      rintro en wz ⟨vz, rfl, hz, kz⟩
      obtain ⟨Az, cz, rfl, rz⟩ := own_row (S := none_) hz (fun _ _ e => e)
      exact ⟨_, rfl, (⟨_, _, _, rfl, rz⟩ : StrsOf wz none_ _ _), kz, hG'.trans kz, fun _ h => h.elim⟩
    intro vq wy hT
    obtain ⟨Z1, Z2, Z3, rfl, -⟩ : StrsOf wy none_ vq _ := hT
    clear wy
    go_frame
    refine Calm.walk_eff rfl rfl (fun n wy hn hG hAF => ?_) ?_
    · have hG' : Keep none_ wc wy := hG
      have a7 : StrsOf wy none_ _ _ := (hAF 7 (by first | exact List.mem_cons_self | exact List.mem_cons_of_mem _ List.mem_cons_self) _ rfl ⟨rfl, rfl⟩).1
      have a9 : StrsOf wy none_ _ _ := (hAF 9 (by first | exact List.mem_cons_self | exact List.mem_cons_of_mem _ List.mem_cons_self) _ rfl ⟨rfl, rfl⟩).1
      unfold gives
      go_simp
      refine (strings_any _ _ _ none_ none_ wy a7 a9).mono ?_
      rintro en wz ⟨rfl, kz⟩
      exact ⟨_, rfl, rfl, kz, hG'.trans kz, fun _ h => h.elim⟩
    intro vq wy hT
    obtain rfl : vq = .bool true := hT
    clear wy
    go_frame
    repeat (refine Calm.walk_quiet ne rfl rfl rfl (fun K hK => ?_); go_big_quiet_op; refine hK _ ?_; clear hK K)
    refine Calm.walk_eff rfl rfl (fun n wy hn hG _ => ?_) ?_
    · have hG' : Keep none_ wc wy := hG
      unfold gives
      go_simp
      refine (awake_any wy).mono ?_
      rintro en wz ⟨rfl, kz⟩
      exact ⟨_, rfl, rfl, kz, hG'.trans kz, fun _ h => h.elim⟩
    intro vq wy hT
    obtain rfl : vq = .bool true := hT
    clear wy
    go_frame
    repeat (refine Calm.walk_quiet ne rfl rfl rfl (fun K hK => ?_); go_big_quiet_op; refine hK _ ?_; clear hK K)
    intro w' hG hD
    have k9 : Keep none_ wc w' := hG
    have K9 := Lib.hid (HK.out.trans k9)
    clear hG hD gd ne x0 k9
    simp only [pickOps, List.filterMap_cons, List.filterMap_nil, List.getElem?_toArray, List.getElem?_cons_succ, List.getElem?_cons_zero]
    go_wp2
    go_ret
    exact ⟨rfl, K9.out⟩
end Go.Proofs.YtnefbeplgfdkkaaGreatDoor
