/-
  FarmRuns: the walk.
-/
import Derived.Test.YtnefbeplgfdkkaaGreatDoorRu50
namespace Go.Proofs.YtnefbeplgfdkkaaGreatDoor
open Go.RowKit

def runsAnc (k : Nat) : List Nat := if k = 10 then [7, 9] else []
/-- What the first region's calls answer. -/
def runsT (b : Bool) (NL : List ByteArray) (k : Nat) (v : Value) (w : World) : Prop :=
  match k with
  | 1 => v = .bool b
  | 3 => v = .bool b
  | 7 => StrsOf w none_ v NL
  | 9 => StrsOf w none_ v NL
  | 10 => v = .bool true
  | _ => True
theorem runsT_keep (b : Bool) (NL : List ByteArray) (k : Nat) (v : Value) (w w' : World) (h : runsT b NL k v w) (hk : Keep none_ w w') : runsT b NL k v w' := by
  unfold runsT at h ⊢
  split
  · exact h
  · exact h
  · exact StrsOf.keep h hk
  · exact StrsOf.keep h hk
  · exact h
  · trivial

set_option maxRecDepth 100000 in
set_option maxHeartbeats 4000000 in
theorem runs_any (raw : St) (e0 : Ev) (v ve : Value) (A : Option Addr) (n c : Nat) (zs : List Int) (w : World) (hs : StateOf w none_ v raw) (he : EvOf w none_ ve e0) (kr : KSt raw) (ke : KEv e0) (hr : Row w none_ 1 A n c (zs.map (Value.int .i64))) (hz : I64s zs) :
    Calls Tryz.prog 6 #[v, .slice A n c, ve] w fun e w' => e = .returned (.bool true) ∧ Keep none_ w w' := by
  obtain ⟨P1, P2, P3, P4, P5, P6, P7, P8, P9, rfl, -, -, -⟩ := hs.lists
  obtain ⟨vn, vi, rfl, hen, hei⟩ := (id he : EvOf w none_ ve e0)
  obtain ⟨An, nn, cn, rfl, -⟩ := hen
  obtain ⟨Ai, ni, ci, rfl, -⟩ := hei
  obtain ⟨W0, hW0⟩ : ∃ W0, W0 = ((w.alloc (.cells #[.int .i64 raw.now, .slice P1 P2 P3, .slice P4 P5 P6, .slice P7 P8 P9] 48)).alloc (.cells #[.int .i64 e0.kind, .string e0.name, .string e0.worker, .slice An nn cn, .int .i64 e0.ticks, .slice Ai ni ci] 78)).alloc (.cells #[.slice A n c, .int .i64 0] 29) := ⟨_, rfl⟩
  obtain ⟨b0, b1, b2, k0⟩ := three (w := w) (t0 := 48) (c0 := #[.int .i64 raw.now, .slice P1 P2 P3, .slice P4 P5 P6, .slice P7 P8 P9]) (t1 := 78) (c1 := #[.int .i64 e0.kind, .string e0.name, .string e0.worker, .slice An nn cn, .int .i64 e0.ticks, .slice Ai ni ci]) (t2 := 29) (c2 := #[.slice A n c, .int .i64 0]) (w1 := W0) (hW0 ▸ Keep.refl none_ W0)
  have ht : TapeAt W0 (w.heap.size + 1 + 1) 0 := ⟨A, n, c, 0, zs, b2, Nat.le_refl _, ((hr.fresh (S := ge w.heap.size) (fun k e => e) (by decide)).keep k0.weak).sub (fun b e => by unfold ge at e ⊢; omega), hz⟩
  obtain ⟨g, hg⟩ : ∃ g, g = w.heap.size + 1 + 1 := ⟨_, rfl⟩
  have lg : g < W0.heap.size := by have := b2.lt; omega
  rw [← hg] at ht b2
  have HS := Lib.hid (hs.fresh.keep k0.weak)
  have HE := Lib.hid (he.fresh.keep k0.weak)
  have EV := Lib.hid (events_any g 0 20 W0 ht (by decide) (by decide))
  have B0 := Lib.hid b0
  have B1 := Lib.hid b1
  have K0 := Lib.hid k0
  have KR := Lib.hid kr
  have KE := Lib.hid ke
  have gw : w.heap.size < g := by omega
  have gw2 : w.heap.size + 1 ≠ g := by omega
  clear hs he kr ke hr hz ht k0 b0 b1 b2
  have zs := zero_state W0
  go_enter Tryz.func6, Tryz.ntmps6
  go_upto_region 2 with (fail)
  rw [← hW0, ← hg]
  clear hW0 hg
  have t1 : True := trivial
  have t2 : True := trivial
  have t3 : True := trivial
  go_upto_region 3 with (first | (have _t := t1; go_at_call 16; refine EV.out.mono ?_; rintro e w1 ⟨vl, l, css, rfl, ho, hE, hl, hgn, hta, k1⟩; obtain ⟨LA, lc, rfl, -⟩ := own_row (S := none_) ho (fun _ _ e => e); have RN := Lib.hid (runs_rn lg k1.size ho hE (by omega) hgn); have KG := Lib.hid (KSt.gen hgn); have K1 := Lib.hid k1; have TA := Lib.hid hta; clear ho hE hl hgn hta k1 _t t1) | (have _t := t2; go_at_call 15; refine RN.out.mono ?_; rintro e w2 ⟨v2, vo2, ve2, rfl, h2, o2, e2, k2⟩; obtain ⟨Ao, co, rfl, -⟩ := o2; obtain ⟨Ae, ce, rfl, -⟩ := e2; obtain ⟨Q1, Q2, Q3, Q4, Q5, Q6, Q7, Q8, Q9, rfl, -, -, -⟩ := h2.lists; have S2 := Lib.hid h2; have K2 := Lib.hid k2; have lk2 := k2.size; clear h2 k2 _t t2) | (have _t := t3; refine wpList_store_blk rfl 48 (.tmp 8) (.tmp 36) rfl w2.heap.size 48 _ _ rfl rfl (Blk.new _ _ _) rfl (by kernel_rfl) (by simp [Value.oneCell']) ?_; intro w3 b3 k3 s3; go_frame; clear _t t3))
  generalize runS zeroSt l = st at *
  have k23 : Keep none_ w2 w3 := ((Keep.refl none_ w2).alloc _).own k3 (Nat.le_refl _)
  have k03 : Keep (one g) W0 w3 := K1.out.trans ((K2.out.trans k23).weak)
  have gO : ∀ b, one g b → ge w.heap.size b := fun b e => by unfold one at e; unfold ge; omega
  have S3 := Lib.hid (S2.out.keep k23.weak)
  have HS3 := Lib.hid (HS.out.keep (k03.mono gO))
  have HE3 := Lib.hid (HE.out.keep (k03.mono gO))
  have TA3 := Lib.hid (show TapeAt w3 g 420 from TapeAt.far TA.out (K2.out.trans k23) (fun _ e => e.elim))
  have B03 := Lib.hid (B0.out.keep k03 (fun e => by unfold one at e; omega))
  have B13 := Lib.hid (B1.out.keep k03 (fun e => by unfold one at e; omega))
  have K3 := Lib.hid (K0.out.own k03 (Nat.le_of_lt gw))
  have B3 := Lib.hid b3
  have l3 := b3.lt
  have lg2 : g < w2.heap.size := by have := K1.out.size; omega
  clear b3 k3 s3 k23 k03 HS HE EV B0 B1 K0 K1 TA RN S2 K2 zs
  obtain ⟨ecs, hecs⟩ : ∃ ecs : Array Value, ecs = #[.int .i64 e0.kind, .string e0.name, .string e0.worker, .slice An nn cn, .int .i64 e0.ticks, .slice Ai ni ci] := ⟨_, rfl⟩
  have gd := lCalm_good (wr := w3) (g := g) (M := 420) (ecs := ecs) (by omega)
  have ne := lCalm_some (wr := w3) (g := g) (M := 420) (ecs := ecs) TA3.out
  have x1 := Lib.hid (fun y => rangeAt_keep B13.out.rangeAt (lCalm_at (wr := w3) (g := g) (M := 420) (ecs := ecs) y) (fun e => by unfold one at e; exact gw2 e))
  refine wp_region_calm (lCalm w3 g 420 ecs) [0, 1, 2, 3] [4, 5] 134 (by kernel_rfl) (by kernel_rfl) rfl gd ⟨(Keep.refl _ _).drew, TapeAt.far TA3.out ((Keep.refl none_ w3).drew) (fun _ e => e.elim)⟩ ?_
  simp only [pairs, List.filterMap_cons, List.filterMap_nil, List.getElem?_toArray, List.getElem?_cons_succ, List.getElem?_cons_zero, Option.map_some]
  repeat (refine Calm.walk_quiet ne rfl rfl rfl (fun K hK => ?_); go_big_quiet_op; refine hK _ ?_; clear hK K)
  refine Calm.walk_eff rfl rfl (fun n wy hn hG _ => ?_) ?_
  · obtain ⟨hG1, hG2⟩ : Keep (one g) w3 wy ∧ TapeAt wy g (420 + 400 * n) := hG
    have hn2 : n < 2 := hn
    unfold gives
    go_simp
    refine (events_any g (420 + 400 * n) 8 wy hG2 (by omega) (by decide)).mono ?_
    rintro en wz ⟨vz, l1, css, rfl, ho, hE, hl, hgn, hta, kz⟩
    exact ⟨_, rfl, ⟨l1, css, wy.heap.size, hG1.size, kz.size, ho, hE, hl, hgn⟩, kz.mono (fun b e => ⟨rfl, e⟩), ⟨hG1.trans kz, hta.mono (by omega)⟩, fun _ h => h.elim⟩
  intro vq wy hT
  obtain ⟨l0, css0, lo0, -, -, ho0, -⟩ : ∃ (l : List Ev) (css : List (List Value)) (lo' : Nat), w3.heap.size ≤ lo' ∧ lo' ≤ wy.heap.size ∧ wy.ownsRow lo' 78 6 vq l.length css.flatten ∧ All2 (EvOwn wy lo') css l ∧ l.length ≤ 8 ∧ ∀ e ∈ l, GenEv e := hT
  obtain ⟨LA, lc, rfl, -⟩ := own_row (S := none_) ho0 (fun _ _ e => e)
  clear ho0 wy
  go_frame
  refine Calm.walk_load 78 (.tmp 5) rfl ne rfl rfl (w.heap.size + 1) 0 rfl #[.int .i64 e0.kind, .string e0.name, .string e0.worker, .slice An nn cn, .int .i64 e0.ticks, .slice Ai ni ci] _ x1.out Tryz.underlying78 rfl (by kernel_rfl) ?_
  go_frame
  refine Calm.walk_eff rfl rfl (fun n wy hn hG _ => ?_) ?_
  · obtain ⟨hG1, hG2⟩ : Keep (one g) w3 wy ∧ TapeAt wy g (420 + 400 * n) := hG
    have ka : Keep none_ wy (wy.alloc (.cells #[.int .i64 e0.kind, .string e0.name, .string e0.worker, .slice An nn cn, .int .i64 e0.ticks, .slice Ai ni ci] 78)) := (Keep.refl _ _).alloc _
    unfold gives
    go_simp
    exact ⟨⟨wy.heap.size, hG1.size, rfl, Blk.new _ _ _⟩, ka.weak, ⟨hG1.trans ka.weak, TapeAt.mono (TapeAt.far hG2 ka (fun _ e => e.elim)) (by omega)⟩, fun _ h => h.elim⟩
  intro vq wy hT
  obtain ⟨be, -, rfl, -⟩ : ∃ b, w3.heap.size ≤ b ∧ vq = .slice (some ⟨b, 0, none⟩) 1 1 ∧ Blk wy b 78 ecs := hT
  clear wy
  go_frame
  repeat (refine Calm.walk_quiet ne rfl rfl rfl (fun K hK => ?_); go_big_quiet_op; refine hK _ ?_; clear hK K)
  intro w4 hG hD
  obtain ⟨hG1, -⟩ : Keep (one g) w3 w4 ∧ TapeAt w4 g (420 + 400 * 2) := hG
  obtain ⟨ll, css, lo, hlo, hlo4, ho, hE, hl, hgn⟩ : ∃ (l : List Ev) (css : List (List Value)) (lo' : Nat), w3.heap.size ≤ lo' ∧ lo' ≤ w4.heap.size ∧ w4.ownsRow lo' 78 6 (.slice LA l0.length lc) l.length css.flatten ∧ All2 (EvOwn w4 lo') css l ∧ l.length ≤ 8 ∧ ∀ e ∈ l, GenEv e := (hD.1 1 rfl _ rfl ⟨rfl, rfl⟩).1
  obtain ⟨be', -, eb, hbe⟩ : ∃ b, w3.heap.size ≤ b ∧ Value.slice (some ⟨be, 0, none⟩) 1 1 = .slice (some ⟨b, 0, none⟩) 1 1 ∧ Blk w4 b 78 ecs := (hD.1 3 rfl _ rfl ⟨rfl, rfl⟩).1
  obtain rfl : be = be' := by simpa using eb
  have ell : l0.length = ll.length := by
    obtain ⟨A', c', e', -⟩ := own_row (S := none_) ho (fun _ _ e => e)
    simp only [Value.slice.injEq] at e'
    exact e'.2.1
  rw [ell] at ho
  rw [ell]
  clear hD gd ne x1 eb ell
  simp only [pickOps, List.filterMap_cons, List.filterMap_nil, List.getElem?_toArray, List.getElem?_cons_succ, List.getElem?_cons_zero]
  have HO := Lib.hid ho
  have HEE := Lib.hid hE
  have HL := Lib.hid hl
  have HGN := Lib.hid hgn
  have BE := Lib.hid hbe
  have HSZ := Lib.hid (show ecs.size = 6 by rw [hecs]; rfl)
  have HON := Lib.hid (show ∀ u ∈ ecs.toList, u.oneCell' = true by rw [hecs]; simp [Value.oneCell'])
  have HLN := Lib.hid (show (ll.length + 1) * (96 + 1) ≤ 140737488355328 by omega)
  have HECS := Lib.hid hecs
  have K4 := Lib.hid (hG1)
  have L4 := Lib.hid hlo4
  have LO := Lib.hid hlo
  clear ho hE hl hgn hbe hecs hG1 hlo hlo4
  have t4 : True := trivial
  go_upto_region 4 with (have _t := t4; refine wpList_append_blk (.tmp 40) (.tmp 42) 36 78 rfl rfl lo _ 6 96 Tryz.underlying36 ev_info rfl (by decide) (.slice LA ll.length lc) ll.length css.flatten rfl HO.out be ecs rfl BE.out HSZ.out HON.out HLN.out L4.out ?_; intro A5 c5 w5 o5 k5; have O5 := Lib.hid o5; have K5 := Lib.hid k5; clear o5 k5; go_frame; clear _t t4)
  have gw5 : ∀ b, ofBlk (.slice LA ll.length lc) b → lo ≤ b := fun b e => own_ge HO.out b e
  have lo3 := LO.out
  have EE5 := Lib.hid (evs_snoc HO.out HEE.out K5.out O5.out (e := e0) (by
    obtain ⟨vn, vi, e1, h1, h2⟩ := ((HE3.out.keep (K4.out.mono gO)).keep (K5.out.mono (fun b e => by have := gw5 b e; have := K3.out.size; unfold ge; omega))).sub (S' := none_) (fun _ e => e.elim)
    refine ⟨vn, vi, ?_, h1, h2⟩
    rw [HECS.out]
    injection e1 with e1
    rw [e1]))
  have R5 := Lib.hid (((HS3.out.keep (K4.out.mono gO)).keep (K5.out.mono (fun b e => by have := gw5 b e; have := K3.out.size; unfold ge; omega))).sub (S' := none_) (fun _ e => e.elim))
  have S5 := Lib.hid (((S3.out.keep (K4.out.mono (fun b e => .inl e))).keep (K5.out.mono (fun b e => .inr (by have := gw5 b e; omega)))).sub (S' := none_) (fun _ e => e.elim))
  have B05 := Lib.hid ((B03.out.keep K4.out (fun e => by unfold one at e; omega)).keep K5.out (fun e => by have := gw5 _ e; have := K3.out.size; omega))
  have B35 := Lib.hid ((B3.out.keep K4.out (fun e => by unfold one at e; omega)).keep K5.out (fun e => by have := gw5 _ e; omega))
  have KK5 := Lib.hid ((K3.out.own K4.out (Nat.le_of_lt gw)).then K5.out (fun b e => .inr (by have := gw5 b e; have := K3.out.size; omega)))
  obtain ⟨ls, hls⟩ : ∃ ls, ls = ll ++ [e0] := ⟨_, rfl⟩
  have KL := Lib.hid (show ∀ e ∈ ls, KEv e from fun e he => by
    rw [hls] at he
    rcases List.mem_append.1 he with he | he
    · exact (HGN.out e he).k
    · simp only [List.mem_cons, List.not_mem_nil, or_false] at he; rw [he]; exact KE.out)
  have hnl : ls.length = ll.length + 1 := by rw [hls]; simp
  have hnl9 : ls.length ≤ 9 := by have := HL.out; omega
  rw [← hls] at EE5
  rw [← hnl] at EE5 ⊢
  have l5 : w2.heap.size < w5.heap.size := B35.out.lt
  clear hls hnl HO HEE HL HGN BE HSZ HON HLN HECS K4 L4 LO O5 K5 lo3 gw5 HE3 HS3 S3 B03 B13 B3 K3 KE TA3 gO
  have zs := zero_state w5
  have t6 : True := trivial
  have t7 : True := trivial
  go_wp2_with (first | (have _t := t6; refine wpList_load_part 48 (.tmp 3) rfl rfl w.heap.size 0 rfl #[.int .i64 raw.now, .slice P1 P2 P3, .slice P4 P5 P6, .slice P7 P8 P9] _ B05.out.rangeAt Tryz.underlying48 rfl (by kernel_rfl) ?_; go_frame; clear _t t6) | (have _t := t7; refine wpList_load_part 48 (.tmp 8) rfl rfl w2.heap.size 0 rfl #[.int .i64 st.now, .slice Q1 Q2 Q3, .slice Q4 Q5 Q6, .slice Q7 Q8 Q9] _ B35.out.rangeAt Tryz.underlying48 rfl (by kernel_rfl) ?_; go_frame; clear _t t7))
  obtain ⟨w6, hw6⟩ : ∃ w6, w6 = w5.alloc (.cells #[.int .i64 raw.now, .slice P1 P2 P3, .slice P4 P5 P6, .slice P7 P8 P9, .int .i64 st.now, .slice Q1 Q2 Q3, .slice Q4 Q5 Q6, .slice Q7 Q8 Q9, .int .i64 0, .slice none 0 0, .slice none 0 0, .slice none 0 0] 48) := ⟨_, rfl⟩
  rw [← hw6]
  have k56 : Keep none_ w5 w6 := hw6 ▸ (Keep.refl none_ w5).alloc _
  have b6 : Blk w6 w5.heap.size 48 #[.int .i64 raw.now, .slice P1 P2 P3, .slice P4 P5 P6, .slice P7 P8 P9, .int .i64 st.now, .slice Q1 Q2 Q3, .slice Q4 Q5 Q6, .slice Q7 Q8 Q9, .int .i64 0, .slice none 0 0, .slice none 0 0, .slice none 0 0] := hw6 ▸ Blk.new _ _ _
  obtain ⟨gB, hgB⟩ : ∃ gB, gB = w5.heap.size := ⟨_, rfl⟩
  rw [← hgB] at b6 ⊢
  have ST3 := Lib.hid (show ∀ k : Nat, k < 3 → ∃ (s : St) (U1 : Option Addr) (U2 U3 : Nat) (U4 : Option Addr) (U5 U6 : Nat) (U7 : Option Addr) (U8 U9 : Nat), w6.rangeAt gB (k * 4) #[.int .i64 s.now, .slice U1 U2 U3, .slice U4 U5 U6, .slice U7 U8 U9].toList ∧ StateOf w6 none_ (.agg #[.int .i64 s.now, .slice U1 U2 U3, .slice U4 U5 U6, .slice U7 U8 U9]) s ∧ KSt s from fun k hk => by
    rcases (show k = 0 ∨ k = 1 ∨ k = 2 by omega) with rfl | rfl | rfl
    · exact ⟨raw, _, _, _, _, _, _, _, _, _, b6.part _ _ (part4 rfl rfl rfl rfl), R5.out.keep k56, KR.out⟩
    · exact ⟨st, _, _, _, _, _, _, _, _, _, b6.part _ _ (part4 rfl rfl rfl rfl), S5.out.keep k56, KG.out⟩
    · exact ⟨zeroSt, _, _, _, _, _, _, _, _, _, b6.part _ _ (part4 rfl rfl rfl rfl), zeroSt_of _ _, KSt.zero⟩)
  have EE6 := Lib.hid (EE5.out.keep k56)
  have K6 := Lib.hid (KK5.out.trans k56)
  clear hw6 hgB k56 b6 R5 S5 EE5 KK5 zs B05 B35 KR KG
  go_loopw [49] (fun i wr => ∃ k : Nat, k ≤ 3 ∧ i = .int .i64 k ∧ Keep none_ w6 wr) (fun i _ => 3 - (intOf i).toNat)
  case atStart => exact ⟨0, by decide, rfl, Keep.refl _ _⟩
  case round =>
    obtain ⟨k, hk, rfl, hkr⟩ := hrel
    have HK := Lib.hid hkr
    clear hkr
    obtain ⟨wo, hwo⟩ : ∃ wo, wo = wr := ⟨_, rfl⟩
    subst hwo
    by_cases hlt : k < 3
    · have hlt' : (k : Int) < 3 := by omega
      obtain ⟨s, U1, U2, U3, U4, U5, U6, U7, U8, U9, hrg, hst, hks⟩ := ST3.out k hlt
      have RG := Lib.hid (rangeAt_keep hrg HK.out (fun e => e))
      have SS := Lib.hid (hst.keep HK.out)
      have KS := Lib.hid hks
      clear hrg hst hks
      have t1 : True := trivial
      have t2 : True := trivial
      go_upto_region 7 with (first | (have _t := t1; refine wpList_load_part 48 (.tmp 51) rfl rfl gB (k * 4) (by first | rfl | simp) #[.int .i64 s.now, .slice U1 U2 U3, .slice U4 U5 U6, .slice U7 U8 U9] _ RG.out Tryz.underlying48 rfl (by kernel_rfl) ?_; go_frame; clear _t t1) | (have _t := t2; refine wpList_store_blk rfl 48 (.tmp 13) (.tmp 52) rfl wo.heap.size 48 _ _ rfl rfl (Blk.new _ _ _) rfl (by kernel_rfl) (by simp [Value.oneCell']) ?_; intro w7 b7 k7 s7; go_frame; clear _t t2))
      have k67 : Keep none_ wo w7 := ((Keep.refl none_ wo).alloc _).own k7 (Nat.le_refl _)
      have B7 := Lib.hid b7
      have SS7 := Lib.hid (SS.out.keep k67)
      have K7 := Lib.hid (HK.out.trans k67)
      have l7 := b7.lt
      obtain ⟨gv, hgv⟩ : ∃ gv, gv = wo.heap.size := ⟨_, rfl⟩
      rw [← hgv] at B7 l7 ⊢
      clear b7 k7 s7 k67 RG SS hgv
      have gd := factCalm_good (wr := w7) (ks := [1, 3, 7, 9, 10]) (anc := runsAnc) (T := runsT (validF s) ((readyF s).map (nameAt s))) (fun k v w w' h hk => runsT_keep _ _ k v w w' h hk)
      have ne := factCalm_some w7 [1, 3, 7, 9, 10] runsAnc (runsT (validF s) ((readyF s).map (nameAt s)))
      have x0 := Lib.hid (fun y => (B7.out.keep (factCalm_at (wr := w7) (ks := [1, 3, 7, 9, 10]) (anc := runsAnc) (T := runsT (validF s) ((readyF s).map (nameAt s))) y) (fun e => e)).rangeAt)
      refine wp_region_calm (factCalm w7 [1, 3, 7, 9, 10] runsAnc (runsT (validF s) ((readyF s).map (nameAt s)))) [0, 1, 2, 3, 4, 5, 6, 7, 8, 9, 10, 11, 12] [] 134 (by kernel_rfl) (by kernel_rfl) rfl gd (Keep.refl _ _).drew ?_
      simp only [pairs, List.filterMap_cons, List.filterMap_nil, List.getElem?_toArray, List.getElem?_cons_succ, List.getElem?_cons_zero, Option.map_some]
      refine Calm.walk_load 48 (.tmp 13) rfl ne rfl rfl gv 0 rfl #[.int .i64 s.now, .slice U1 U2 U3, .slice U4 U5 U6, .slice U7 U8 U9] _ x0.out Tryz.underlying48 rfl (by kernel_rfl) ?_
      go_frame
      refine Calm.walk_eff rfl rfl (fun n wy hn hG _ => ?_) ?_
      · have hG' : Keep none_ w7 wy := hG
        unfold gives
        go_simp
        refine (valid_any s _ none_ wy (SS7.out.keep hG')).mono ?_
        rintro en wz ⟨rfl, kz⟩
        exact ⟨_, rfl, rfl, kz, hG'.trans kz, fun _ h => h.elim⟩
      intro vq wy hT
      obtain rfl : vq = .bool (validF s) := hT
      clear wy
      go_frame
      refine Calm.walk_load 48 (.tmp 13) rfl ne rfl rfl gv 0 rfl #[.int .i64 s.now, .slice U1 U2 U3, .slice U4 U5 U6, .slice U7 U8 U9] _ x0.out Tryz.underlying48 rfl (by kernel_rfl) ?_
      go_frame
      refine Calm.walk_eff rfl rfl (fun n wy hn hG _ => ?_) ?_
      · have hG' : Keep none_ w7 wy := hG
        unfold gives
        go_simp
        refine (rvalid_any s KS.out.sz _ none_ wy (SS7.out.keep hG')).mono ?_
        rintro en wz ⟨rfl, kz⟩
        exact ⟨_, rfl, rfl, kz, hG'.trans kz, fun _ h => h.elim⟩
      intro vq wy hT
      obtain rfl : vq = .bool (validF s) := hT
      clear wy
      go_frame
      repeat (refine Calm.walk_quiet ne rfl rfl rfl (fun K hK => ?_); go_big_quiet_op; refine hK _ ?_; clear hK K)
      refine Calm.walk_load 48 (.tmp 13) rfl ne rfl rfl gv 0 rfl #[.int .i64 s.now, .slice U1 U2 U3, .slice U4 U5 U6, .slice U7 U8 U9] _ x0.out Tryz.underlying48 rfl (by kernel_rfl) ?_
      go_frame
      refine Calm.walk_eff rfl rfl (fun n wy hn hG _ => ?_) ?_
      · have hG' : Keep none_ w7 wy := hG
        unfold gives
        go_simp
        refine (rdy_any s _ none_ wy (SS7.out.keep hG')).mono ?_
        rintro en wz ⟨vz, rfl, hz, kz⟩
        obtain ⟨Az, cz, rfl, rz⟩ := own_row (S := none_) hz (fun _ _ e => e)
        exact ⟨_, rfl, (⟨_, _, _, rfl, rz⟩ : StrsOf wz none_ _ _), kz, hG'.trans kz, fun _ h => h.elim⟩
      intro vq wy hT
      obtain ⟨Y1, Y2, Y3, rfl, -⟩ : StrsOf wy none_ vq _ := hT
      clear wy
      go_frame
      refine Calm.walk_load 48 (.tmp 13) rfl ne rfl rfl gv 0 rfl #[.int .i64 s.now, .slice U1 U2 U3, .slice U4 U5 U6, .slice U7 U8 U9] _ x0.out Tryz.underlying48 rfl (by kernel_rfl) ?_
      go_frame
      refine Calm.walk_eff rfl rfl (fun n wy hn hG _ => ?_) ?_
      · have hG' : Keep none_ w7 wy := hG
        unfold gives
        go_simp
        refine (rrdy_any s KS.out.sz _ none_ wy (SS7.out.keep hG')).mono ?_
        rintro en wz ⟨vz, rfl, hz, kz⟩
        obtain ⟨Az, cz, rfl, rz⟩ := own_row (S := none_) hz (fun _ _ e => e)
        exact ⟨_, rfl, (⟨_, _, _, rfl, rz⟩ : StrsOf wz none_ _ _), kz, hG'.trans kz, fun _ h => h.elim⟩
      intro vq wy hT
      obtain ⟨Z1, Z2, Z3, rfl, -⟩ : StrsOf wy none_ vq _ := hT
      clear wy
      go_frame
      refine Calm.walk_eff rfl rfl (fun n wy hn hG hAF => ?_) ?_
      · have hG' : Keep none_ w7 wy := hG
        have a7 : StrsOf wy none_ _ _ := (hAF 7 (by first | exact List.mem_cons_self | exact List.mem_cons_of_mem _ List.mem_cons_self) _ rfl ⟨rfl, rfl⟩).1
        have a9 : StrsOf wy none_ _ _ := (hAF 9 (by first | exact List.mem_cons_self | exact List.mem_cons_of_mem _ List.mem_cons_self) _ rfl ⟨rfl, rfl⟩).1
        unfold gives
        go_simp
        refine (strings_any _ _ _ none_ none_ wy a7 a9).mono ?_
        rintro en wz ⟨rfl, kz⟩
        exact ⟨_, rfl, rfl, kz, hG'.trans kz, fun _ h => h.elim⟩
      intro vq wy hT
      obtain rfl : vq = .bool true := hT
      clear wy
      go_frame
      repeat (refine Calm.walk_quiet ne rfl rfl rfl (fun K hK => ?_); go_big_quiet_op; refine hK _ ?_; clear hK K)
      intro w8 hG hD
      have k78 : Keep none_ w7 w8 := hG
      have B8 := Lib.hid (B7.out.keep k78 (fun e => e))
      have SS8 := Lib.hid (SS7.out.keep k78)
      have K8 := Lib.hid (K7.out.trans k78)
      have K8r := K8
      have EE8 := Lib.hid (EE6.out.keep K8.out)
      have l8 := B8.out.lt
      clear hG hD gd ne x0 k78 B7 SS7 K7 HK
      simp only [pickOps, List.filterMap_nil]
      go_wp2_with (fail)
      go_loopw [68] (fun i wr => ∃ m : Nat, m ≤ ls.length ∧ i = .int .i64 m ∧ Keep none_ w8 wr) (fun i _ => ls.length - (intOf i).toNat)
      case atStart => exact ⟨0, Nat.zero_le _, rfl, Keep.refl _ _⟩
      case round =>
        obtain ⟨m, hm, rfl, hkz⟩ := hrel
        have HKZ := Lib.hid hkz
        have EZ := Lib.hid (EE8.out.keep hkz)
        have SZ := Lib.hid (SS8.out.keep hkz)
        have BZ := Lib.hid (B8.out.keep hkz (fun e => e))
        clear hkz
        by_cases hlt2 : m < ls.length
        · have hlt2' : (m : Int) < ls.length := by omega
          obtain ⟨be, oe, rfl, -, hkl, cs, hcl, hrg, vn, vi, hcs, hns, his⟩ := ElemsOf.elem EZ.out m hlt2
          have kek := KL.out ls[m] (List.getElem_mem hlt2)
          generalize ls[m] = e at hcs hns his kek
          subst hcs
          obtain ⟨An, nn, cn, rfl, -⟩ := (id hns : StrsOf wr none_ vn e.needs)
          obtain ⟨Ai, ni, ci, rfl, -⟩ := (id his : ItemsOf wr none_ vi e.items)
          have EV := Lib.hid (show EvOf wr none_ (.agg #[.int .i64 e.kind, .string e.name, .string e.worker, .slice An nn cn, .int .i64 e.ticks, .slice Ai ni ci]) e from ⟨_, _, rfl, hns, his⟩)
          have RG := Lib.hid hrg
          have KE := Lib.hid kek
          clear hcl hrg hns his kek
          have t3 : True := trivial
          have t4 : True := trivial
          go_upto_region 12 with (first | (have _t := t3; refine wpList_load_part 78 (.tmp 70) rfl rfl be (oe + m * 6) (by first | rfl | simp) #[.int .i64 e.kind, .string e.name, .string e.worker, .slice An nn cn, .int .i64 e.ticks, .slice Ai ni ci] _ RG.out Tryz.underlying78 rfl (by kernel_rfl) ?_; go_frame; clear _t t3) | (have _t := t4; refine wpList_store_blk rfl 78 (.tmp 15) (.tmp 71) rfl wr.heap.size 78 _ _ rfl rfl (Blk.new _ _ _) rfl (by kernel_rfl) (by simp [Value.oneCell']) ?_; intro w9 b9 k9 s9; go_frame; clear _t t4))
          have kr9 : Keep none_ wr w9 := ((Keep.refl none_ wr).alloc _).own k9 (Nat.le_refl _)
          have BE9 := Lib.hid b9
          have BV9 := Lib.hid (BZ.out.keep kr9 (fun e => e))
          have S9 := Lib.hid (SZ.out.keep kr9)
          have V9 := Lib.hid (EV.out.keep kr9)
          have K9 := Lib.hid (HKZ.out.trans kr9)
          have l9 := b9.lt
          clear b9 k9 s9 kr9 RG EV SZ EZ
          obtain ⟨ge_, hge⟩ : ∃ ge_, ge_ = wr.heap.size := ⟨_, rfl⟩
          rw [← hge] at BE9 l9 ⊢
          clear hge
          have ST := Lib.hid (stepK s e _ _ w9 KS.out KE.out S9.out V9.out)
          have t5 : True := trivial
          have t6 : True := trivial
          have t7 : True := trivial
          have t8 : True := trivial
          go_upto_region 13 with (first | (have _t := t5; refine wpList_load_part 48 (.tmp 13) rfl rfl gv 0 rfl #[.int .i64 s.now, .slice U1 U2 U3, .slice U4 U5 U6, .slice U7 U8 U9] _ BV9.out.rangeAt Tryz.underlying48 rfl (by kernel_rfl) ?_; go_frame; clear _t t5) | (have _t := t6; refine wpList_load_part 78 (.tmp 15) rfl rfl ge_ 0 rfl #[.int .i64 e.kind, .string e.name, .string e.worker, .slice An nn cn, .int .i64 e.ticks, .slice Ai ni ci] _ BE9.out.rangeAt Tryz.underlying78 rfl (by kernel_rfl) ?_; go_frame; clear _t t6) | (have _t := t7; go_at_call 22; refine ST.out.mono ?_; rintro en w10 ⟨v10, vo10, rfl, h10, o10, k10⟩; obtain ⟨X1, X2, X3, X4, X5, X6, X7, X8, X9, rfl, -, -, -⟩ := h10.lists; obtain ⟨Xo, Yo, rfl, -⟩ := (id o10 : OutsOf w10 vo10 _); have H10 := Lib.hid h10; have O10 := Lib.hid o10; have K10 := Lib.hid k10; clear h10 o10 k10 ST _t t7) | (have _t := t8; refine wpList_store_blk rfl 48 (.tmp 16) (.tmp 76) rfl w10.heap.size 48 _ _ rfl rfl (Blk.new _ _ _) rfl (by kernel_rfl) (by simp [Value.oneCell']) ?_; intro w11 b11 k11 s11; go_frame; clear _t t8))
          have ka : Keep none_ w10 w11 := ((Keep.refl none_ w10).alloc _).own k11 (Nat.le_refl _)
          have H11 := Lib.hid (H10.out.keep ka)
          have O11 := Lib.hid (O10.out.keep ka)
          have K11 := Lib.hid (K10.out.trans ka)
          have BA11 := Lib.hid b11
          have BE11 := Lib.hid (BE9.out.keep K11.out (fun e => e))
          have BV11 := Lib.hid (BV9.out.keep K11.out (fun e => e))
          have l11 := b11.lt
          have RS := Lib.hid (rstepK s e _ _ w11 KS.out KE.out (S9.out.keep K11.out) (V9.out.keep K11.out))
          obtain ⟨ga, hga⟩ : ∃ ga, ga = w10.heap.size := ⟨_, rfl⟩
          rw [← hga] at BA11 l11 ⊢
          clear hga b11 k11 s11 ka H10 O10 K10 BE9 BV9
          have t9 : True := trivial
          have t10 : True := trivial
          have t11 : True := trivial
          have t12 : True := trivial
          go_upto_region 14 with (first | (have _t := t9; refine wpList_load_part 48 (.tmp 13) rfl rfl gv 0 rfl #[.int .i64 s.now, .slice U1 U2 U3, .slice U4 U5 U6, .slice U7 U8 U9] _ BV11.out.rangeAt Tryz.underlying48 rfl (by kernel_rfl) ?_; go_frame; clear _t t9) | (have _t := t10; refine wpList_load_part 78 (.tmp 15) rfl rfl ge_ 0 rfl #[.int .i64 e.kind, .string e.name, .string e.worker, .slice An nn cn, .int .i64 e.ticks, .slice Ai ni ci] _ BE11.out.rangeAt Tryz.underlying78 rfl (by kernel_rfl) ?_; go_frame; clear _t t10) | (have _t := t11; go_at_call 24; refine RS.out.mono ?_; rintro en w12 ⟨v12, vo12, rfl, h12, o12, k12⟩; obtain ⟨Y1, Y2, Y3, Y4, Y5, Y6, Y7, Y8, Y9, rfl, -, -, -⟩ := h12.lists; obtain ⟨Xp, Yp, rfl, -⟩ := (id o12 : OutsOf w12 vo12 _); have H12 := Lib.hid h12; have O12 := Lib.hid o12; have K12 := Lib.hid k12; clear h12 o12 k12 RS _t t11) | (have _t := t12; refine wpList_store_blk rfl 48 (.tmp 19) (.tmp 83) rfl w12.heap.size 48 _ _ rfl rfl (Blk.new _ _ _) rfl (by kernel_rfl) (by simp [Value.oneCell']) ?_; intro w13 b13 k13 s13; go_frame; clear _t t12))
          have ka : Keep none_ w12 w13 := ((Keep.refl none_ w12).alloc _).own k13 (Nat.le_refl _)
          have kb : Keep none_ w11 w13 := K12.out.trans ka
          have BA13 := Lib.hid (BA11.out.keep kb (fun e => e))
          have BB13 := Lib.hid b13
          have SM := Lib.hid (same_any (stepS s e) (KSt.same (AllI.step ItK.nil KS.out.it KE.out.it)) _ _ none_ none_ w13 (H11.out.keep kb) (H12.out.keep ka))
          have SO := Lib.hid (fun (wx : World) (kx : Keep none_ w13 wx) => sameOuts_any (stepO s e) _ _ wx ((O11.out.keep kb).keep kx) ((O12.out.keep ka).keep kx))
          have K13 := Lib.hid ((K9.out.trans K11.out).trans kb)
          have l13 := b13.lt
          obtain ⟨gb, hgb⟩ : ∃ gb, gb = w12.heap.size := ⟨_, rfl⟩
          rw [← hgb] at BB13 l13 ⊢
          clear hgb b13 k13 s13 ka kb H11 O11 H12 O12 K12 K11 BE11 BV11 BA11
          generalize stepS s e = sa at *
          generalize stepE s e = ea at *
          generalize stepO s e = oa at *
          have t13 : True := trivial
          have t14 : True := trivial
          have t15 : True := trivial
          have t16 : True := trivial
          go_wp2_with (first | (have _t := t13; refine wpList_load_part 48 (.tmp 16) rfl rfl ga 0 rfl #[.int .i64 sa.now, .slice X1 X2 X3, .slice X4 X5 X6, .slice X7 X8 X9] _ BA13.out.rangeAt Tryz.underlying48 rfl (by kernel_rfl) ?_; go_frame; clear _t t13) | (have _t := t14; refine wpList_load_part 48 (.tmp 19) rfl rfl gb 0 rfl #[.int .i64 sa.now, .slice Y1 Y2 Y3, .slice Y4 Y5 Y6, .slice Y7 Y8 Y9] _ BB13.out.rangeAt Tryz.underlying48 rfl (by kernel_rfl) ?_; go_frame; clear _t t14) | (have _t := t15; go_at_call 25; refine SM.out.mono ?_; rintro en w14 ⟨rfl, k14⟩; have SO14 := Lib.hid (SO.out w14 k14); have K14 := Lib.hid (K13.out.trans k14); clear k14 _t t15) | (have _t := t16; go_at_call 26; refine SO14.out.mono ?_; rintro en w15 ⟨rfl, k15⟩; have K15 := Lib.hid (K14.out.trans k15); clear k15 _t t16))
          go_roundw
          case rel => exact ⟨m + 1, by omega, by go_num, K15.out⟩
          case measure => simp [intOf]; omega
        · have hmn : ¬ (m : Int) < ls.length := by omega
          clear hlt2
          have RF := Lib.hid (runK s ls _ _ wr KS.out KL.out SZ.out EZ.out (by omega))
          have t5 : True := trivial
          have t7 : True := trivial
          have t8 : True := trivial
          go_upto_region 18 with (first | (have _t := t5; refine wpList_load_part 48 (.tmp 13) rfl rfl gv 0 rfl #[.int .i64 s.now, .slice U1 U2 U3, .slice U4 U5 U6, .slice U7 U8 U9] _ BZ.out.rangeAt Tryz.underlying48 rfl (by kernel_rfl) ?_; go_frame; clear _t t5) | (have _t := t7; go_at_call 27; refine RF.out.mono ?_; rintro en w10 ⟨v10, vo10, ve10, rfl, h10, o10, e10, k10⟩; obtain ⟨X1, X2, X3, X4, X5, X6, X7, X8, X9, rfl, -, -, -⟩ := h10.lists; obtain ⟨Xo, Yo, rfl, -⟩ := (id o10 : OutsOf w10 vo10 _); obtain ⟨Xe, Ye, rfl, -⟩ := (id e10 : ErrsOf w10 ve10 _); have H10 := Lib.hid h10; have O10 := Lib.hid o10; have E10 := Lib.hid e10; have K10 := Lib.hid k10; clear h10 o10 e10 k10 RF _t t7) | (have _t := t8; refine wpList_store_blk rfl 48 (.tmp 22) (.tmp 106) rfl w10.heap.size 48 _ _ rfl rfl (Blk.new _ _ _) rfl (by kernel_rfl) (by simp [Value.oneCell']) ?_; intro w11 b11 k11 s11; go_frame; clear _t t8))
          have ka : Keep none_ w10 w11 := ((Keep.refl none_ w10).alloc _).own k11 (Nat.le_refl _)
          have H11 := Lib.hid (H10.out.keep ka)
          have O11 := Lib.hid (O10.out.keep ka)
          have E11 := Lib.hid (show ErrsOf w11 _ _ from by obtain ⟨A, c, e, r⟩ := E10.out; exact ⟨A, c, e, r.keep ka⟩)
          have K11 := Lib.hid (K10.out.trans ka)
          have BA11 := Lib.hid b11
          have BV11 := Lib.hid (BZ.out.keep K11.out (fun e => e))
          have l11 := b11.lt
          have RR := Lib.hid (rrunK s ls _ _ w11 KS.out KL.out (SZ.out.keep K11.out) (EZ.out.keep K11.out) (by omega))
          obtain ⟨ga, hga⟩ : ∃ ga, ga = w10.heap.size := ⟨_, rfl⟩
          rw [← hga] at BA11 l11 ⊢
          clear hga b11 k11 s11 ka H10 O10 E10 K10 BZ
          have t9 : True := trivial
          have t11 : True := trivial
          have t12 : True := trivial
          go_upto_region 19 with (first | (have _t := t9; refine wpList_load_part 48 (.tmp 13) rfl rfl gv 0 rfl #[.int .i64 s.now, .slice U1 U2 U3, .slice U4 U5 U6, .slice U7 U8 U9] _ BV11.out.rangeAt Tryz.underlying48 rfl (by kernel_rfl) ?_; go_frame; clear _t t9) | (have _t := t11; go_at_call 15; refine RR.out.mono ?_; rintro en w12 ⟨v12, vo12, ve12, rfl, h12, o12, e12, k12⟩; obtain ⟨Y1, Y2, Y3, Y4, Y5, Y6, Y7, Y8, Y9, rfl, -, -, -⟩ := h12.lists; obtain ⟨Xp, Yp, rfl, -⟩ := (id o12 : OutsOf w12 vo12 _); obtain ⟨Xf, Yf, rfl, -⟩ := (id e12 : ErrsOf w12 ve12 _); have H12 := Lib.hid h12; have O12 := Lib.hid o12; have E12 := Lib.hid e12; have K12 := Lib.hid k12; clear h12 o12 e12 k12 RR _t t11) | (have _t := t12; refine wpList_store_blk rfl 48 (.tmp 25) (.tmp 113) rfl w12.heap.size 48 _ _ rfl rfl (Blk.new _ _ _) rfl (by kernel_rfl) (by simp [Value.oneCell']) ?_; intro w13 b13 k13 s13; go_frame; clear _t t12))
          have ka : Keep none_ w12 w13 := ((Keep.refl none_ w12).alloc _).own k13 (Nat.le_refl _)
          have kb : Keep none_ w11 w13 := K12.out.trans ka
          have BA13 := Lib.hid (BA11.out.keep kb (fun e => e))
          have BB13 := Lib.hid b13
          have ER := Lib.hid (errnos_any (runE s ls) _ _ w13 (by obtain ⟨A, c, e, r⟩ := E11.out; exact ⟨A, c, e, r.keep kb⟩) (by obtain ⟨A, c, e, r⟩ := E12.out; exact ⟨A, c, e, r.keep ka⟩))
          have SM := Lib.hid (fun (wx : World) (kx : Keep none_ w13 wx) => same_any (runS s ls) (KSt.same (AllI.run ItK.nil KS.out.it (fun e he => (KL.out e he).it))) _ _ none_ none_ wx ((H11.out.keep kb).keep kx) ((H12.out.keep ka).keep kx))
          have SO := Lib.hid (fun (wx : World) (kx : Keep none_ w13 wx) => sameOuts_any (runO s ls) _ _ wx ((O11.out.keep kb).keep kx) ((O12.out.keep ka).keep kx))
          have K13 := Lib.hid ((HKZ.out.trans K11.out).trans kb)
          have l13 := b13.lt
          obtain ⟨gb, hgb⟩ : ∃ gb, gb = w12.heap.size := ⟨_, rfl⟩
          rw [← hgb] at BB13 l13 ⊢
          clear hgb b13 k13 s13 ka kb H11 O11 E11 H12 O12 E12 K12 K11 BV11 BA11
          generalize runS s ls = sa at *
          generalize runE s ls = ea at *
          generalize runO s ls = oa at *
          have t13 : True := trivial
          have t14 : True := trivial
          have t15 : True := trivial
          have t16 : True := trivial
          have t17 : True := trivial
          go_wp2_with (first | (have _t := t17; go_at_call 28; refine ER.out.mono ?_; rintro en w14 ⟨rfl, k14⟩; have SM14 := Lib.hid (SM.out w14 k14); have SO14 := Lib.hid (fun (wx : World) (kx : Keep none_ w14 wx) => SO.out wx (k14.trans kx)); have BA14 := Lib.hid (BA13.out.keep k14 (fun e => e)); have BB14 := Lib.hid (BB13.out.keep k14 (fun e => e)); have K14 := Lib.hid (K13.out.trans k14); clear k14 SM SO BA13 BB13 _t t17) | (have _t := t13; refine wpList_load_part 48 (.tmp 22) rfl rfl ga 0 rfl #[.int .i64 sa.now, .slice X1 X2 X3, .slice X4 X5 X6, .slice X7 X8 X9] _ BA14.out.rangeAt Tryz.underlying48 rfl (by kernel_rfl) ?_; go_frame; clear _t t13) | (have _t := t14; refine wpList_load_part 48 (.tmp 25) rfl rfl gb 0 rfl #[.int .i64 sa.now, .slice Y1 Y2 Y3, .slice Y4 Y5 Y6, .slice Y7 Y8 Y9] _ BB14.out.rangeAt Tryz.underlying48 rfl (by kernel_rfl) ?_; go_frame; clear _t t14) | (have _t := t15; go_at_call 25; refine SM14.out.mono ?_; rintro en w15 ⟨rfl, k15⟩; have SO15 := Lib.hid (SO14.out w15 k15); have K15 := Lib.hid (K14.out.trans k15); clear k15 _t t15) | (have _t := t16; go_at_call 26; refine SO15.out.mono ?_; rintro en w16 ⟨rfl, k16⟩; have K16 := Lib.hid (K15.out.trans k16); clear k16 _t t16))
          go_roundw
          case rel => exact ⟨k + 1, by omega, by go_num, K8r.out.trans K16.out⟩
          case measure => simp [intOf]; omega
    · obtain rfl : k = 3 := by omega
      have AW := Lib.hid (awake_any wo)
      clear hlt
      go_wp2_with (go_at_call 14; refine AW.out.mono ?_; rintro e w15 ⟨rfl, k15⟩; have K15 := Lib.hid ((K6.out.trans HK.out).trans k15); clear k15)
      go_ret
      exact ⟨by rfl, K15.out⟩
end Go.Proofs.YtnefbeplgfdkkaaGreatDoor
