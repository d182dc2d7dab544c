/-
  FarmJobs: the walk.
-/
import Derived.Test.YtnefbeplgfdkkaaGreatDoorJb50
namespace Go.Proofs.YtnefbeplgfdkkaaGreatDoor
open Go.RowKit

set_option maxRecDepth 100000 in
set_option maxHeartbeats 4000000 in
theorem jobsl_any (d : Nat) (ps : List Pt) (es : List Ex) (vp ve : Value) (A : Option Addr) (n c : Nat) (zs : List Int) (num : Int) (w : World) (hp : PartsOf w none_ vp ps) (hps : ps.length ≤ 1048576) (he : ElemsOf w none_ 8 (ExAt d w none_) ve es) (hf : FewN es) (hr : Row w none_ 1 A n c (zs.map (Value.int .i64))) (hz : I64s zs) (h1 : -9223372036854775808 ≤ num) (h2 : num ≤ 9223372036854775807) (ht : Tab w) :
    Calls Tryz.prog 3 #[.agg #[vp], ve, .slice A n c, .int .i64 num] w fun e w' => e = .returned (.bool true) ∧ Keep none_ w w' := by
  obtain ⟨P, np, cp, rfl, -⟩ := (id hp : ElemsOf w none_ 5 PtOf vp ps)
  obtain ⟨E, ne, ce, rfl, -⟩ := (id he : ElemsOf w none_ 8 (ExAt d w none_) ve es)
  have zl := zero_plan
  have zp := zero_part
  obtain ⟨W0, hW0⟩ : ∃ W0, W0 = (w.alloc (.cells #[.slice P np cp] 24)).alloc (.cells #[.slice A n c, .int .i64 0] 29) := ⟨_, rfl⟩
  have k0 : Keep none_ w W0 := hW0 ▸ ((Keep.refl none_ w).alloc _).alloc _
  have b0 : Blk W0 w.heap.size 24 #[.slice P np cp] := hW0 ▸ (Blk.new w _ _).alloc _
  have b1 : Blk W0 (w.heap.size + 1) 29 #[.slice A n c, .int .i64 0] := by
    have := Blk.new (w.alloc (.cells #[.slice P np cp] 24)) 29 #[.slice A n c, .int .i64 0]
    rw [← hW0] at this
    simpa using this
  obtain ⟨g, hg⟩ : ∃ g, g = w.heap.size + 1 := ⟨_, rfl⟩
  have hT : TapeAt W0 g 0 := ⟨A, n, c, 0, zs, hg ▸ b1, Nat.le_refl _, ((hr.fresh (S := ge w.heap.size) (fun k e => e) (by decide)).keep k0.weak).sub (fun b e => by unfold ge at e ⊢; omega), hz⟩
  have RW := Lib.hid (hr.keep k0)
  have HZ := Lib.hid hz
  have HP := Lib.hid (show PartsOf W0 (ge w.heap.size) (.slice P np cp) ps from PartsOf.keep (ElemsOf.fresh hp (by decide) (fun _ _ h => h)) k0.weak)
  have HE := Lib.hid (ExsAt.keep (ExsAt.fresh he) k0.weak)
  have HF := Lib.hid hf
  have HPS := Lib.hid hps
  have N1 := Lib.hid h1
  have N2 := Lib.hid h2
  have TB := Lib.hid ht
  have T0 := Lib.hid hT
  have B0 := Lib.hid b0
  have K0 := Lib.hid k0
  have GW := Lib.hid hg
  have G0 := Lib.hid hT.lt
  clear hp hps he hf hr hz h1 h2 ht k0 b0 b1 hT
  go_enter Tryz.func3, Tryz.ntmps3
  go_upto_region 2 with (fail)
  rw [← hW0]
  simp only [← hg]
  clear hW0 hg
  have t1 : True := trivial
  go_upto_region 5 with (have _t := t1; go_at_call 7; refine (exprs_any A n c zs W0 RW.out HZ.out).mono ?_; rintro e w1 ⟨vl, l, rfl, hx, hs, hl, k1⟩; obtain ⟨LA, lc, rfl⟩ := hx.form; have HX := Lib.hid hx; have HS := Lib.hid hs; have HL := Lib.hid hl; have K1 := Lib.hid k1; clear hx hs hl k1 _t t1)
  obtain ⟨pb, hpb⟩ : ∃ pb, pb = w1.heap.size := ⟨_, rfl⟩
  obtain ⟨w2, hw2⟩ : ∃ w2, w2 = w1.alloc (.cells #[.slice none 0 0] 24) := ⟨_, rfl⟩
  rw [← hpb, ← hw2]
  have k12 : Keep none_ w1 w2 := hw2 ▸ (Keep.refl none_ w1).alloc _
  have b2 : Blk w2 pb 24 #[.slice none 0 0] := hw2 ▸ hpb ▸ Blk.new _ _ _
  have GP := Lib.hid (show g < pb from hpb ▸ Nat.lt_of_lt_of_le G0.out K1.out.size)
  have T2 := Lib.hid (show TapeAt w2 g 0 from (T0.out.far K1.out (fun _ e => e.elim)).far k12 (fun _ e => e.elim))
  have L2 := Lib.hid (show pb + 1 ≤ w2.heap.size from b2.lt)
  have B2 := Lib.hid b2
  have XL := Lib.hid (show ExsAt 3 w2 (orr (fun b => b < W0.heap.size) pb) (.slice LA l.length lc) l from ExsAt.keep (hpb ▸ ElemsOf.orr (HX.out.elems (S := fun b => b < W0.heap.size) (fun _ h => h)) (by decide) (fun _ _ h => ExAt.orr h)) (k12.mono (fun _ e => e.elim)))
  have K2 := Lib.hid (show Keep none_ W0 w2 from K1.out.trans k12)
  clear hw2 hpb k12 b2 T0 K1 HX RW HZ
  go_loopw [12] (fun i wr => ∃ (at_ : Nat) (Ao : Option Addr) (co : Nat) (qs : List Pt), i = .int .i64 at_ ∧ at_ ≤ l.length ∧ qs.length ≤ at_ ∧ wr.ownsRow (pb + 1) 33 5 (.slice Ao qs.length co) qs.length (qs.flatMap ptCells) ∧ Blk wr pb 24 #[.slice Ao qs.length co] ∧ TapeAt wr g (2 * at_) ∧ Keep (orr (one g) pb) w2 wr) (fun i _ => l.length - (intOf i).toNat)
  case atStart => exact ⟨0, none, 0, [], rfl, Nat.zero_le _, Nat.zero_le _, ⟨rfl, .inl ⟨rfl, rfl⟩⟩, B2.out, T2.out, Keep.refl _ _⟩
  case round =>
    obtain ⟨at_, Ao, co, qs, rfl, hat, hqs, hO, hB, hT, hkr⟩ := hrel
    have HO := Lib.hid hO
    have HB := Lib.hid hB
    have HT := Lib.hid hT
    have HK := Lib.hid hkr
    have HQS := Lib.hid hqs
    have L3 := Lib.hid (show pb + 1 ≤ wr.heap.size from hB.lt)
    clear hO hB hT hkr hqs
    by_cases hlt : at_ < l.length
    · have hlt' : (at_ : Int) < l.length := by omega
      have hl24 := HL.out
      have tk_r : True := trivial
      go_upto_region 7 with (have _t := tk_r; go_at_call 8; refine (nextN g _ 5 wr HT.out (by decide) (by decide) (by have := HL.out; omega)).mono ?_; rintro e w3 ⟨r, rfl, hr, ht3, k3⟩; have T3 := Lib.hid ht3; have B3 := Lib.hid (HB.out.keep k3 (fun e => by have := GP.out; unfold one at e; omega)); have O3 := Lib.hid (own_keep HO.out k3 (fun b hb e => by have := own_ge HO.out b hb; have := GP.out; unfold one at e; omega)); have K3 := Lib.hid (HK.out.trans (k3.mono (fun _ e => .inl e))); have L4 := Lib.hid (Nat.le_trans L3.out k3.size); have LR := Lib.hid k3.size; clear ht3 k3 _t tk_r)
      obtain ⟨kk, hkk, hk1, hk2⟩ : ∃ kk : Nat, min (1 + (r : Int)) ((l.length : Int) - at_) = kk ∧ 1 ≤ kk ∧ at_ + kk ≤ l.length := ⟨(min (1 + (r : Int)) ((l.length : Int) - at_)).toNat, by omega, by omega, by omega⟩
      rw [hkk]
      have HK1 := Lib.hid hk1
      have HK2 := Lib.hid hk2
      clear hkk hk1 hk2 hr
      have tk_s : True := trivial
      have tk_n : True := trivial
      go_upto_if 45 with (first | (have _t := tk_s; refine wpList_store_blk rfl 33 (.tmp 14) (.tmp 42) rfl w3.heap.size 33 _ #[.bool false, .int .i64 at_, .int .i64 kk, .string ⟨#[]⟩, .int .i64 0] rfl rfl (Blk.new _ _ _) rfl (by kernel_rfl) (by simp [Value.oneCell']) ?_; intro w4 b4 k4 s4; have k34 : Keep none_ w3 w4 := ((Keep.refl none_ w3).alloc _).own k4 (Nat.le_refl _); have T4 := Lib.hid (T3.out.far k34 (fun _ e => e.elim)); have Q4 := Lib.hid b4; have B4 := Lib.hid (B3.out.keep k34 (fun e => e)); have O4 := Lib.hid (own_keep O3.out k34 (fun _ _ e => e)); have K4 := Lib.hid (K3.out.trans (k34.mono (fun _ e => e.elim))); have LQ := Lib.hid (show g < w3.heap.size by have := GP.out; have := L4.out; omega); clear b4 k4 s4 k34; go_frame; clear _t tk_s) | (have _t := tk_n; go_at_call 8; refine (nextN g _ 3 w4 T4.out (by decide) (by decide) (by have := HL.out; omega)).mono ?_; rintro e w5 ⟨y, rfl, -, ht5, k5⟩; have T5 := Lib.hid ht5; have Q5 := Lib.hid (Q4.out.keep k5 (fun e => by have := LQ.out; unfold one at e; omega)); have B5 := Lib.hid (B4.out.keep k5 (fun e => by have := GP.out; unfold one at e; omega)); have O5 := Lib.hid (own_keep O4.out k5 (fun b hb e => by have := own_ge HO.out b hb; have := GP.out; unfold one at e; omega)); have K5 := Lib.hid (K4.out.trans (k5.mono (fun _ e => .inl e))); have L5 := Lib.hid (show w3.heap.size < w5.heap.size from Nat.lt_of_lt_of_le Q4.out.lt k5.size); clear ht5 k5 _t tk_n))
      clear T3 B3 O3 K3 T4 Q4 B4 O4 K4 HT HB HK
      by_cases hy : y = 0
      · have hy' : ((y : Int) == 0) = true := by rw [hy]; rfl
        clear hy
        have c0 : w5.cell? ⟨w3.heap.size, 0, none⟩ = some (.bool false) := Q5.out.cell 0
        have c3 : w5.cell? ⟨w3.heap.size, 3, none⟩ = some (.string ⟨#[]⟩) := Q5.out.cell 3
        have z0 : w5.frozen? ⟨w3.heap.size, 0, none⟩ = false := Q5.out.frozen 0
        have z3 : w5.frozen? ⟨w3.heap.size, 3, none⟩ = false := Q5.out.frozen 3
        go_upto_region 10 with (fail)
        clear c0 c3 z0 z3
        obtain ⟨wB, hwB⟩ : ∃ wB, wB = (w5.setCell ⟨w3.heap.size, 0, none⟩ (.bool true)).setCell ⟨w3.heap.size, 3, none⟩ (.string ⟨#[109, 48]⟩) := ⟨_, rfl⟩
        rw [← hwB]
        have kB : Keep (one w3.heap.size) w5 wB := hwB ▸ ((Keep.refl (one w3.heap.size) w5).setCell (p := ⟨w3.heap.size, 0, none⟩) (.inl rfl) _).setCell (p := ⟨w3.heap.size, 3, none⟩) (.inl rfl) _
        have QB := Lib.hid (show Blk wB w3.heap.size 33 #[.bool true, .int .i64 at_, .int .i64 kk, .string ⟨#[109, 48]⟩, .int .i64 0] from hwB ▸ (Q5.out.set_ 0 _).set_ 3 _)
        have BB := Lib.hid (B5.out.keep kB (fun e => by have := L4.out; unfold one at e; omega))
        have OB := Lib.hid (own_keep O5.out kB (fun b hb e => by have := own_lt HO.out b hb; have := LR.out; unfold one at e; omega))
        have TBb := Lib.hid (T5.out.far kB (fun b e => by cases e; exact LQ.out))
        have KB := Lib.hid (K5.out.trans (kB.mono (fun b e => .inr (by have := L4.out; unfold one at e; omega))))
        clear hwB kB Q5 B5 O5 T5 K5
        have y0 : wB.cell? ⟨pb, 0, none⟩ = some (.slice Ao qs.length co) := BB.out.cell 0
        have tk_m : True := trivial
        have tk_a : True := trivial
        go_upto_region 11 with (first | (have _t := tk_m; refine wpList_load_part 33 (.tmp 14) rfl rfl w3.heap.size 0 rfl #[.bool true, .int .i64 at_, .int .i64 kk, .string ⟨#[109, 48]⟩, .int .i64 0] _ QB.out.rangeAt Tryz.underlying33 rfl (by kernel_rfl) ?_; go_frame; clear _t tk_m) | (have _t := tk_a; refine wpList_append_blk (.tmp 49) (.tmp 51) 22 33 rfl rfl (pb + 1) _ 5 48 Tryz.underlying22 pt_info rfl (by decide) (.slice Ao qs.length co) qs.length (qs.flatMap ptCells) rfl (own_keep OB.out ((Keep.refl none_ wB).alloc _) (fun _ _ e => e)) wB.heap.size #[.bool true, .int .i64 at_, .int .i64 kk, .string ⟨#[109, 48]⟩, .int .i64 0] rfl (Blk.new _ _ _) rfl (by simp [Value.oneCell']) (by have := HQS.out; have := HL.out; omega) (by have := BB.out.lt; rw [World.size_alloc]; omega) ?_; intro A6 c6 w6 o6 k6; have O6 := Lib.hid o6; have K6 := Lib.hid k6; have B6 := Lib.hid ((BB.out.alloc _).keep k6 (fun e => by have := own_ge OB.out _ e; omega)); have y6 : w6.cell? ⟨pb, 0, none⟩ = some (.slice Ao qs.length co) := B6.out.cell 0; have z6 : w6.frozen? ⟨pb, 0, none⟩ = false := B6.out.frozen 0; clear o6 k6; go_frame; clear _t tk_a))
        clear y0 y6 z6
        obtain ⟨w7, hw7⟩ : ∃ w7, w7 = w6.setCell ⟨pb, 0, none⟩ (.slice A6 (qs.length + 1) c6) := ⟨_, rfl⟩
        rw [← hw7]
        have k67 : Keep (one pb) w6 w7 := hw7 ▸ (Keep.refl (one pb) w6).setCell (p := ⟨pb, 0, none⟩) (.inl rfl) _
        have B7 := Lib.hid (show Blk w7 pb 24 #[.slice A6 (qs ++ [(⟨true, at_, kk, ⟨#[109, 48]⟩, 0⟩ : Pt)]).length c6] by rw [List.length_append]; exact hw7 ▸ B6.out.set_ 0 _)
        have O7 := Lib.hid (show w7.ownsRow (pb + 1) 33 5 (.slice A6 (qs ++ [(⟨true, at_, kk, ⟨#[109, 48]⟩, 0⟩ : Pt)]).length c6) (qs ++ [(⟨true, at_, kk, ⟨#[109, 48]⟩, 0⟩ : Pt)]).length ((qs ++ [(⟨true, at_, kk, ⟨#[109, 48]⟩, 0⟩ : Pt)]).flatMap ptCells) by
          rw [List.length_append, List.flatMap_append]
          have h := own_keep O6.out k67 (fun b hb e => by have := own_ge O6.out b hb; unfold one at e; omega)
          simpa [ptCells] using h)
        have T7 := Lib.hid (show TapeAt w7 g (2 * (at_ + kk)) from (((TBb.out.far ((Keep.refl none_ wB).alloc _) (fun _ e => e.elim)).far K6.out (fun b e => by have := own_ge OB.out b e; have := GP.out; omega)).far k67 (fun b e => by cases e; exact GP.out)).mono (by have := HK1.out; omega))
        have K7 := Lib.hid (show Keep (orr (one g) pb) w2 w7 from ((KB.out.trans (((Keep.refl none_ wB).alloc _).mono (fun _ e => e.elim))).trans (K6.out.mono (fun b e => .inr (Nat.le_of_succ_le (own_ge OB.out b e))))).trans (k67.mono (fun b e => .inr (Nat.le_of_eq e.symm))))
        clear hw7 k67 O6 K6 B6 QB BB OB TBb KB
        have hk2 := HK2.out
        have hl24 := HL.out
        go_wp2
        go_roundw
        case rel => exact ⟨at_ + kk, A6, c6, qs ++ [(⟨true, at_, kk, ⟨#[109, 48]⟩, 0⟩ : Pt)], by go_num, HK2.out, by have := HQS.out; have := HK1.out; simp; omega, O7.out, B7.out, T7.out, K7.out⟩
        case measure => have := HK1.out; have := HK2.out; simp [intOf]; omega

      · have hy' : ((y : Int) == 0) = false := beq_eq_false_iff_ne.2 (by omega)
        clear hy
        go_upto_region 10 with (fail)
        obtain ⟨wB, hwB⟩ : ∃ wB, wB = w5 := ⟨_, rfl⟩
        subst hwB
        have QB := Q5
        have BB := B5
        have OB := O5
        have TBb := T5
        have KB := K5
        clear Q5 B5 O5 T5 K5
        have y0 : wB.cell? ⟨pb, 0, none⟩ = some (.slice Ao qs.length co) := BB.out.cell 0
        have tk_m : True := trivial
        have tk_a : True := trivial
        go_upto_region 11 with (first | (have _t := tk_m; refine wpList_load_part 33 (.tmp 14) rfl rfl w3.heap.size 0 rfl #[.bool false, .int .i64 at_, .int .i64 kk, .string ⟨#[]⟩, .int .i64 0] _ QB.out.rangeAt Tryz.underlying33 rfl (by kernel_rfl) ?_; go_frame; clear _t tk_m) | (have _t := tk_a; refine wpList_append_blk (.tmp 49) (.tmp 51) 22 33 rfl rfl (pb + 1) _ 5 48 Tryz.underlying22 pt_info rfl (by decide) (.slice Ao qs.length co) qs.length (qs.flatMap ptCells) rfl (own_keep OB.out ((Keep.refl none_ wB).alloc _) (fun _ _ e => e)) wB.heap.size #[.bool false, .int .i64 at_, .int .i64 kk, .string ⟨#[]⟩, .int .i64 0] rfl (Blk.new _ _ _) rfl (by simp [Value.oneCell']) (by have := HQS.out; have := HL.out; omega) (by have := BB.out.lt; rw [World.size_alloc]; omega) ?_; intro A6 c6 w6 o6 k6; have O6 := Lib.hid o6; have K6 := Lib.hid k6; have B6 := Lib.hid ((BB.out.alloc _).keep k6 (fun e => by have := own_ge OB.out _ e; omega)); have y6 : w6.cell? ⟨pb, 0, none⟩ = some (.slice Ao qs.length co) := B6.out.cell 0; have z6 : w6.frozen? ⟨pb, 0, none⟩ = false := B6.out.frozen 0; clear o6 k6; go_frame; clear _t tk_a))
        clear y0 y6 z6
        obtain ⟨w7, hw7⟩ : ∃ w7, w7 = w6.setCell ⟨pb, 0, none⟩ (.slice A6 (qs.length + 1) c6) := ⟨_, rfl⟩
        rw [← hw7]
        have k67 : Keep (one pb) w6 w7 := hw7 ▸ (Keep.refl (one pb) w6).setCell (p := ⟨pb, 0, none⟩) (.inl rfl) _
        have B7 := Lib.hid (show Blk w7 pb 24 #[.slice A6 (qs ++ [(⟨false, at_, kk, ⟨#[]⟩, 0⟩ : Pt)]).length c6] by rw [List.length_append]; exact hw7 ▸ B6.out.set_ 0 _)
        have O7 := Lib.hid (show w7.ownsRow (pb + 1) 33 5 (.slice A6 (qs ++ [(⟨false, at_, kk, ⟨#[]⟩, 0⟩ : Pt)]).length c6) (qs ++ [(⟨false, at_, kk, ⟨#[]⟩, 0⟩ : Pt)]).length ((qs ++ [(⟨false, at_, kk, ⟨#[]⟩, 0⟩ : Pt)]).flatMap ptCells) by
          rw [List.length_append, List.flatMap_append]
          have h := own_keep O6.out k67 (fun b hb e => by have := own_ge O6.out b hb; unfold one at e; omega)
          simpa [ptCells] using h)
        have T7 := Lib.hid (show TapeAt w7 g (2 * (at_ + kk)) from (((TBb.out.far ((Keep.refl none_ wB).alloc _) (fun _ e => e.elim)).far K6.out (fun b e => by have := own_ge OB.out b e; have := GP.out; omega)).far k67 (fun b e => by cases e; exact GP.out)).mono (by have := HK1.out; omega))
        have K7 := Lib.hid (show Keep (orr (one g) pb) w2 w7 from ((KB.out.trans (((Keep.refl none_ wB).alloc _).mono (fun _ e => e.elim))).trans (K6.out.mono (fun b e => .inr (Nat.le_of_succ_le (own_ge OB.out b e))))).trans (k67.mono (fun b e => .inr (Nat.le_of_eq e.symm))))
        clear hw7 k67 O6 K6 B6 QB BB OB TBb KB
        have hk2 := HK2.out
        have hl24 := HL.out
        go_wp2
        go_roundw
        case rel => exact ⟨at_ + kk, A6, c6, qs ++ [(⟨false, at_, kk, ⟨#[]⟩, 0⟩ : Pt)], by go_num, HK2.out, by have := HQS.out; have := HK1.out; simp; omega, O7.out, B7.out, T7.out, K7.out⟩
        case measure => have := HK1.out; have := HK2.out; simp [intOf]; omega
    · have tt : True := trivial
      have hl24 := HL.out
      have hq24 : qs.length ≤ 24 := by have := HQS.out; omega
      have GWo := GW.out
      have gpo := GP.out
      have KW := Lib.hid (show Keep none_ w wr from (K0.out.trans K2.out).then HK.out (fun x e => .inr (by rcases e with e | e; (unfold one at e; omega); omega)))
      have XW := Lib.hid (show ExsAt 3 wr none_ (.slice LA l.length lc) l from ExsAt.sub (ExsAt.keep XL.out (HK.out.mono (fun b e => by rcases e with e | e; (unfold one at e; exact .inl (by rw [e]; exact G0.out)); exact .inr e))) (fun _ e => e.elim))
      have KGe := Lib.hid (show Keep (ge w.heap.size) W0 wr from (K2.out.mono (fun _ e => e.elim)).trans (HK.out.mono (fun b e => by unfold ge; rcases e with e | e; (unfold one at e; omega); omega)))
      have HEw := Lib.hid (show ExsAt d wr none_ (.slice E ne ce) es from ExsAt.sub (ExsAt.keep HE.out KGe.out) (fun _ e => e.elim))
      have HPw := Lib.hid (show PartsOf wr none_ (.slice P np cp) ps from ElemsOf.sub (PartsOf.keep HP.out KGe.out) (fun _ e => e.elim) (fun _ _ h => h))
      have PQ := Lib.hid (parts_of HO.out)
      have BRw := Lib.hid ((B0.out.keep K2.out (fun e => e)).keep HK.out (fun e => by rcases e with e | e; (unfold one at e; omega); omega))
      have LQ := Lib.hid (show qs.length ≤ 1048576 by omega)
      have FL := Lib.hid (exs_fewN HS.out hl24)
      obtain ⟨ie, hie, hiz, his, hib⟩ := info_parts plan_info
      have I1 := Lib.hid (And.intro hie (And.intro hiz (And.intro his hib)))
      obtain ⟨wo, hwo⟩ : ∃ wo, wo = wr := ⟨_, rfl⟩
      subst hwo
      clear hie hiz his hib HK HT HO HS XL HE HP K2 KGe B0 T2 B2 G0 hl24 hq24 GWo gpo L3 K0 L2
      go_wp2_with (fail)
      clear hlt hat
      obtain ⟨w8, hw8⟩ : ∃ w8, w8 = wo.alloc (.cells #[.slice LA l.length lc, .slice E ne ce] 25) := ⟨_, rfl⟩
      rw [← hw8]
      have k8 : Keep none_ wo w8 := hw8 ▸ (Keep.refl none_ wo).alloc _
      have B8 := Lib.hid (show Blk w8 wo.heap.size 25 #[.slice LA l.length lc, .slice E ne ce] from hw8 ▸ Blk.new _ _ _)
      have K8 := Lib.hid k8
      clear hw8 k8
      go_loopw [61] (fun i wr => ∃ k : Nat, k ≤ 2 ∧ i = .int .i64 k ∧ Keep none_ w8 wr) (fun i _ => 2 - (intOf i).toNat)
      case atStart => exact ⟨0, by decide, rfl, Keep.refl _ _⟩
      case round =>
        obtain ⟨k, hk, rfl, hkr⟩ := hrel
        obtain ⟨wk, hwk⟩ : ∃ wk, wk = wr := ⟨_, rfl⟩
        subst hwk
        have KK := Lib.hid (K8.out.trans hkr)
        have HKR := Lib.hid hkr
        by_cases hk2 : k < 2
        · have hk2' : (k : Int) < 2 := by omega
          obtain ⟨D, Ee, me, nc, ex, hcell, hex, hfx⟩ : ∃ (D : Nat) (Ee : Option Addr) (me nc : Nat) (ex : List Ex), wk.cell? ⟨wo.heap.size, k, none⟩ = some (.slice Ee me nc) ∧ ExsAt D wk none_ (.slice Ee me nc) ex ∧ FewN ex := by
            rcases (show k = 0 ∨ k = 1 by omega) with rfl | rfl
            · exact ⟨3, _, _, _, l, (B8.out.keep hkr (fun e => e)).cell 0, ExsAt.keep XW.out KK.out, FL.out⟩
            · exact ⟨d, _, _, _, es, (B8.out.keep hkr (fun e => e)).cell 1, ExsAt.keep HEw.out KK.out, HF.out⟩
          have EX := Lib.hid hex
          have FX := Lib.hid hfx
          have BPk := Lib.hid (HB.out.keep KK.out (fun e => e))
          have BRk := Lib.hid (BRw.out.keep KK.out (fun e => e))
          clear hex hfx hkr
          have tk1 : True := trivial
          have tk2 : True := trivial
          have tk3 : True := trivial
          go_wp2_with (first | (have _t := tk1; refine wpList_load_part 24 (.tmp 11) rfl rfl pb 0 rfl #[.slice Ao qs.length co] _ BPk.out.rangeAt Tryz.underlying24 rfl (by kernel_rfl) ?_; go_frame; clear _t tk1) | (have _t := tk2; refine wpList_load_part 24 (.tmp 4) rfl rfl w.heap.size 0 rfl #[.slice P np cp] _ BRk.out.rangeAt Tryz.underlying24 rfl (by kernel_rfl) ?_; go_frame; clear _t tk2) | (have _t := tk3; refine wpList_buildSlice_whole 35 24 2 _ rfl rfl Tryz.underlying35 I1.out.1 I1.out.2.1 (by rw [I1.out.2.2.1]; decide) (by rw [I1.out.2.2.1]; decide) [(0, .agg #[.slice Ao qs.length co]), (1, .agg #[.slice P np cp])] rfl (by simp [Contig, Value.cells, I1.out.2.2.1]) (by simp [allCells, Value.cells, I1.out.2.2.1]) ?_; intro w9 b9 k9; have B9 := Lib.hid (show Blk w9 wk.heap.size 24 #[.slice Ao qs.length co, .slice P np cp] from b9); have K9 := Lib.hid k9; clear b9 k9; go_frame; clear _t tk3))
          clear hcell
          go_loopw [69] (fun i wr => ∃ m : Nat, m ≤ 2 ∧ i = .int .i64 m ∧ Keep none_ w9 wr) (fun i _ => 2 - (intOf i).toNat)
          case atStart => exact ⟨0, by decide, rfl, Keep.refl _ _⟩
          case round =>
            obtain ⟨m, hm, rfl, hmr⟩ := hrel
            obtain ⟨wm, hwm⟩ : ∃ wm, wm = wr := ⟨_, rfl⟩
            subst hwm
            have HMR := Lib.hid hmr
            have KM := Lib.hid (KK.out.trans (K9.out.trans hmr))
            have KWm := Lib.hid (KW.out.trans KM.out)
            by_cases hm2 : m < 2
            · have hm2' : (m : Int) < 2 := by omega
              obtain ⟨Pe, mp, mc, pl, hrg, hpl, hpn⟩ : ∃ (Pe : Option Addr) (mp mc : Nat) (pl : List Pt), wm.rangeAt wk.heap.size m [.slice Pe mp mc] ∧ PartsOf wm none_ (.slice Pe mp mc) pl ∧ pl.length ≤ 1048576 := by
                rcases (show m = 0 ∨ m = 1 by omega) with rfl | rfl
                · exact ⟨_, _, _, qs, rangeAt_mid [] [_] [_] (B9.out.keep hmr (fun e => e)) rfl 0 rfl, PartsOf.keep PQ.out KM.out, LQ.out⟩
                · exact ⟨_, _, _, ps, rangeAt_mid [_] [_] [] (B9.out.keep hmr (fun e => e)) rfl 1 rfl, PartsOf.keep HPw.out KM.out, HPS.out⟩
              have RM := Lib.hid hrg
              have PM := Lib.hid hpl
              have LM := Lib.hid hpn
              have EM := Lib.hid (ExsAt.keep EX.out (K9.out.trans hmr))
              clear hrg hpl hpn hmr
              have ta : True := trivial
              have tb : True := trivial
              have tc : True := trivial
              have td : True := trivial
              have te : True := trivial
              have tf : True := trivial
              have tg : True := trivial
              go_wp2_with (first | (have _t := ta; refine wpList_load_part 24 (.tmp 71) rfl rfl wk.heap.size m (by first | rfl | simp) #[.slice Pe mp mc] _ RM.out Tryz.underlying24 rfl (by kernel_rfl) ?_; go_frame; clear _t ta) | (have _t := tb; refine wpList_store_blk rfl 24 (.tmp 18) (.tmp 72) rfl wm.heap.size 24 _ #[.slice Pe mp mc] rfl rfl (Blk.new _ _ _) rfl (by kernel_rfl) (by simp [Value.oneCell']) ?_; intro w10 b10 k10 s10; have k0_ : Keep none_ wm w10 := ((Keep.refl none_ wm).alloc _).own k10 (Nat.le_refl _); have B10 := Lib.hid b10; have K10 := Lib.hid k0_; have KW10 := Lib.hid (KWm.out.trans k0_); have P10 := Lib.hid (PartsOf.keep PM.out k0_); have E10 := Lib.hid (ExsAt.keep EM.out k0_); have TB10 := Lib.hid (TB.out.keep (KWm.out.trans k0_)); clear b10 k10 s10 k0_; go_frame; clear _t tb) | (have _t := tc; refine wpList_load_part 24 (.tmp 18) rfl rfl wm.heap.size 0 rfl #[.slice Pe mp mc] _ B10.out.rangeAt Tryz.underlying24 rfl (by kernel_rfl) ?_; go_frame; clear _t tc) | (have _t := td; go_at_call 9; refine (jobs_any D pl ex Pe mp mc Ee me nc none_ w10 P10.out E10.out FX.out TB10.out).mono ?_; rintro e w11 ⟨v1, rfl, o1, k11⟩; have O1 := Lib.hid (EvO.evs o1); have K11 := Lib.hid k11; have B11 := Lib.hid (B10.out.keep k11 (fun e => e)); have KW11 := Lib.hid (KW10.out.trans k11); have P11 := Lib.hid (PartsOf.keep P10.out k11); have E11 := Lib.hid (ExsAt.keep E10.out k11); clear o1 k11 _t td) | (have _t := te; refine wpList_load_part 24 (.tmp 18) rfl rfl wm.heap.size 0 rfl #[.slice Pe mp mc] _ B11.out.rangeAt Tryz.underlying24 rfl (by kernel_rfl) ?_; go_frame; clear _t te) | (have _t := tf; go_at_call 10; refine (rjobs_any D pl ex Pe mp mc Ee me nc none_ w11 P11.out E11.out FX.out LM.out).mono ?_; rintro e w12 ⟨v2, rfl, o2, k12⟩; have O2 := Lib.hid (EvO.evs o2); have O1b := Lib.hid (EvsOf.keep0 O1.out k12); have K12 := Lib.hid (((K10.out.trans K11.out).trans k12)); clear o2 k12 _t tf) | (have _t := tg; go_at_call 11; refine (sameEvents_any _ (jobsOut_none ex pl) v1 v2 w12 O1b.out O2.out).mono ?_; rintro e w13 ⟨rfl, k13⟩; have K13 := Lib.hid (K12.out.trans k13); clear k13 _t tg))
              have KG := Lib.hid (HMR.out.trans K13.out)
              go_roundw
              case rel => exact ⟨m + 1, hm2, by go_num, KG.out⟩
              case measure => simp [intOf]; omega
            · obtain rfl : m = 2 := by omega
              have KG := Lib.hid (HKR.out.trans (K9.out.trans hmr))
              clear hmr
              go_wp2
              go_roundw
              case rel => exact ⟨k + 1, hk2, by go_num, KG.out⟩
              case measure => simp [intOf]; omega
        · obtain rfl : k = 2 := by omega
          obtain ⟨r, hr, hr2⟩ := bits_and255 num
          have n1 := N1.out
          have n2 := N2.out
          have Kwk := Lib.hid (KW.out.trans KK.out)
          clear hkr
          have ta : True := trivial
          have tb : True := trivial
          have tc : True := trivial
          have td : True := trivial
          have te : True := trivial
          go_wp2_with (first | (have _t := ta; go_at_call 12; refine (jobName_any num wk n1 n2 (TB.out.keep Kwk.out)).mono ?_; rintro e wa ⟨rfl, k_⟩; have Kwa := Lib.hid (Kwk.out.trans k_); clear k_ _t ta) | (have _t := tb; go_at_call 13; refine (rjobName_any num wa n1 n2).mono ?_; rintro e wb ⟨rfl, k_⟩; have Kwb := Lib.hid (Kwa.out.trans k_); clear k_ _t tb) | (have _t := tc; go_at_call 12; refine (jobName_any r wb (by omega) (by omega) (TB.out.keep Kwb.out)).mono ?_; rintro e wc ⟨rfl, k_⟩; have Kwc := Lib.hid (Kwb.out.trans k_); clear k_ _t tc) | (have _t := td; go_at_call 13; refine (rjobName_any r wc (by omega) (by omega)).mono ?_; rintro e wd ⟨rfl, k_⟩; have Kwd := Lib.hid (Kwc.out.trans k_); clear k_ _t td) | (have _t := te; go_at_call 14; refine (awake_any wd).mono ?_; rintro e we ⟨rfl, k_⟩; have Kwe := Lib.hid (Kwd.out.trans k_); clear k_ _t te))
          go_ret
          exact ⟨rfl, Kwe.out⟩
end Go.Proofs.YtnefbeplgfdkkaaGreatDoor
