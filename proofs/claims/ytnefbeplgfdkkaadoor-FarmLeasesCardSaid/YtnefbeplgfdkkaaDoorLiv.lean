/-
  FarmLives: the walk.
-/
import Derived.Test.YtnefbeplgfdkkaaDoorLivP
import Derived.Test.YtnefbeplgfdkkaaDoorEvs
import Derived.Test.YtnefbeplgfdkkaaDoorOff
namespace Go.Proofs.YtnefbeplgfdkkaaDoor
open Go.RowKit

def four24 : Array Value := #[.int .i64 2, .string ⟨#[109, 48]⟩, .string ⟨#[]⟩, .slice none 0 0, .int .i64 0, .slice none 0 0, .int .i64 2, .string ⟨#[109, 49]⟩, .string ⟨#[]⟩, .slice none 0 0, .int .i64 0, .slice none 0 0, .int .i64 9, .string ⟨#[]⟩, .string ⟨#[]⟩, .slice none 0 0, .int .i64 10, .slice none 0 0, .int .i64 4, .string ⟨#[]⟩, .string ⟨#[108, 97, 115, 116]⟩, .slice none 0 0, .int .i64 0, .slice none 0 0]
theorem four_of {w : World} {b : Nat} (hb : Blk w b 25 four24) (k : Nat) (e : Ev) (hk : fourL[k]? = some e) : w.rangeAt b (k * 6) [.int .i64 e.kind, .string e.name, .string e.worker, .slice none 0 0, .int .i64 e.ticks, .slice none 0 0] ∧ k < 4 ∧ e.needs = [] ∧ e.items = [] := by
  match k, hk with
  | 0, hk => cases hk; exact ⟨rangeAt_mid [] _ _ hb rfl 0 rfl, by decide, rfl, rfl⟩
  | 1, hk => cases hk; exact ⟨rangeAt_mid [_, _, _, _, _, _] _ _ hb rfl 6 rfl, by decide, rfl, rfl⟩
  | 2, hk => cases hk; exact ⟨rangeAt_mid [_, _, _, _, _, _, _, _, _, _, _, _] _ _ hb rfl 12 rfl, by decide, rfl, rfl⟩
  | 3, hk => cases hk; exact ⟨rangeAt_mid [_, _, _, _, _, _, _, _, _, _, _, _, _, _, _, _, _, _] _ [] hb rfl 18 rfl, by decide, rfl, rfl⟩
  | k + 4, hk => simp [fourL] at hk
theorem four_get (k : Nat) (h : k < 4) : ∃ e, fourL[k]? = some e := ⟨_, List.getElem?_eq_getElem (show k < fourL.length from h)⟩
theorem StateOf.jobs_of {w : World} {S : Nat → Prop} {v vp vj vw : Value} {s : St} (h : StateOf w S (.agg #[v, vp, vj, vw]) s) : JobsOf w S vj s.jobs := by
  obtain ⟨p6, j6, q6, e, g1, g2, g3⟩ := h
  simp only [Value.agg.injEq, Array.mk.injEq, List.cons.injEq, and_true] at e
  obtain ⟨-, -, rfl, -⟩ := e
  exact g2
theorem StateOf.open_ {w : World} {S : Nat → Prop} {v : Value} {s : St} (h : StateOf w S v s) : ∃ P1 P2 P3 P4 P5 P6 P7 P8 P9, v = .agg #[.int .i64 s.now, .slice P1 P2 P3, .slice P4 P5 P6, .slice P7 P8 P9] ∧ P5 = s.jobs.length := by
  obtain ⟨p6, j6, q6, rfl, g1, g2, g3⟩ := h
  obtain ⟨P1, P2, P3, rfl, -⟩ := g1
  obtain ⟨P4, P5, P6, rfl, hj⟩ := g2
  obtain ⟨P7, P8, P9, rfl, -⟩ := g3
  exact ⟨_, _, _, _, _, _, _, _, _, rfl, hj.2.2.1.symm⟩

set_option maxRecDepth 100000 in
set_option maxHeartbeats 4000000 in
theorem lives_any (A : Option Addr) (n c : Nat) (zs : List Int) (w : World) (hr : Row w none_ 1 A n c (zs.map (Value.int .i64))) (hz : I64s zs) :
    Calls Tryd.prog 4 #[.slice A n c] w fun e w' => e = .returned (.bool true) ∧ Keep none_ w w' := by
  have ht : TapeAt (w.alloc (.cells #[.slice A n c, .int .i64 0] 45)) w.heap.size 0 := ⟨A, n, c, 0, zs, Blk.new _ _ _, Nat.le_refl _, ((hr.fresh (S := ge w.heap.size) (fun k e => e) (by decide)).keep ((Keep.refl _ _).alloc _)), hz⟩
  have k0 : Keep none_ w (w.alloc (.cells #[.slice A n c, .int .i64 0] 45)) := (Keep.refl _ _).alloc _
  have ze := zero_event
  have zs := zero_state
  obtain ⟨W0, hW0⟩ : ∃ W0, W0 = w.alloc (.cells #[.slice A n c, .int .i64 0] 45) := ⟨_, rfl⟩
  rw [← hW0] at ht k0
  have EV := Lib.hid (events_any w.heap.size 0 24 W0 ht (by decide) (by decide))
  have K0 := Lib.hid k0
  clear hr hz ht k0
  go_enter Tryd.func4, Tryd.ntmps4
  go_upto_region 2 with (fail)
  rw [← hW0]
  clear hW0
  have t1 : True := trivial
  have t2 : True := trivial
  have t3 : True := trivial
  go_upto_region 3 with (first | (have _t := t1; go_at_call 10; refine EV.out.mono ?_; rintro e w1 ⟨vl, l, css, rfl, ho, hE, hl, hg, -, k1⟩; have K1 := Lib.hid (K0.out.own k1 (Nat.le_refl _)); obtain ⟨LA, lc, rfl, -⟩ := own_row (S := none_) ho (fun _ _ e => e); have RN := Lib.hid (run_any zeroSt l (.agg #[.int .i64 0, .slice none 0 0, .slice none 0 0, .slice none 0 0]) (.slice LA l.length lc) none_ none_ w1 (zeroSt_of _ _) (EvsOf.own ho (hE.imp (fun _ _ h => h.cs))) V.zero ItsOk.zero (fun e he => (hg e he).items) (by omega)); obtain ⟨f, f0, fs, fi, finv⟩ := four_ok l hl hg; have F0 := Lib.hid f0; have FS := Lib.hid fs; have FI := Lib.hid fi; have FINV := Lib.hid finv; clear f0 fs fi finv ho hE hg k1 _t t1) | (have _t := t2; go_at_call 7; refine RN.out.mono ?_; rintro e w2 ⟨v2, vo2, ve2, rfl, h2, o2, e2, k2⟩; rw [← F0.out] at h2; have K2 := Lib.hid (K1.out.trans k2); obtain ⟨P1, P2, P3, P4, P5, P6, P7, P8, P9, rfl, -⟩ := h2.open_; obtain ⟨O5, O6, rfl, -⟩ := o2; obtain ⟨X1, X2, rfl, -⟩ := e2; have H2 := Lib.hid h2.fresh; clear h2 k2 _t t2) | (have _t := t3; refine wpList_store_blk rfl 30 (.tmp 4) (.tmp 29) rfl w2.heap.size 30 _ _ rfl rfl (Blk.new _ _ _) rfl (by kernel_rfl) (by simp [Value.oneCell']) ?_; intro w3 b3 k3 s3; go_frame; clear _t t3))
  have k23 : Keep none_ w2 w3 := ((Keep.refl none_ w2).alloc _).own k3 (Nat.le_refl _)
  obtain ⟨bs, hbs⟩ : ∃ bs, bs = w2.heap.size := ⟨_, rfl⟩
  have H3 := Lib.hid (show StateOf w3 (one bs) (.agg #[.int .i64 (f 0).now, .slice P1 P2 P3, .slice P4 P5 P6, .slice P7 P8 P9]) (f 0) from (H2.out.keep k23.weak).sub (fun x e => by unfold one at e; unfold ge; omega))
  have K3 := Lib.hid (K2.out.trans k23)
  have wb : w.heap.size ≤ bs := hbs ▸ K2.out.size
  rw [← hbs] at b3
  have bl3 := b3.lt
  obtain ⟨W4, hW4⟩ : ∃ W4, W4 = w3.alloc (.cells four24 25) := ⟨_, rfl⟩
  obtain ⟨be, hbe⟩ : ∃ be, be = w3.heap.size := ⟨_, rfl⟩
  have b4 : Blk W4 be 25 four24 := hW4 ▸ hbe ▸ Blk.new _ _ _
  have k34 : Keep none_ w3 W4 := hW4 ▸ (Keep.refl none_ w3).alloc _
  have B4 := Lib.hid b4
  have BS4 := Lib.hid (b3.keep k34 (fun e => e))
  have H4 := Lib.hid (H3.out.keep k34.weak)
  have K4 := Lib.hid (K3.out.trans k34)
  have HW4 := Lib.hid hW4
  have HBE := Lib.hid hbe
  have nbe : bs ≠ be := by omega
  have HBS := Lib.hid hbs
  clear k3 s3 b3 k23 k34 b4 hW4 hbe H3 H2 K3 K2
  rw [← HBS.out]
  clear hbs
  go_upto_region 4 with (fail)
  have e4 := HW4.out
  unfold four24 at e4
  rw [← HBE.out, ← e4]
  clear e4
  clear HW4 HBE HBS EV RN F0 K0 K1
  generalize (goO zeroSt l).length = no
  generalize (goE zeroSt l).length = ne
  go_loopw [38] (fun i wr => ∃ (k : Nat) (P1 : Option Addr) (P2 P3 : Nat) (P4 : Option Addr) (P5 P6 : Nat) (P7 : Option Addr) (P8 P9 : Nat), k ≤ 4 ∧ i = .int .i64 k ∧ Blk wr bs 30 #[.int .i64 (f k).now, .slice P1 P2 P3, .slice P4 P5 P6, .slice P7 P8 P9] ∧ StateOf wr (one bs) (.agg #[.int .i64 (f k).now, .slice P1 P2 P3, .slice P4 P5 P6, .slice P7 P8 P9]) (f k) ∧ Blk wr be 25 four24 ∧ Keep none_ w wr) (fun i _ => 4 - (intOf i).toNat)
  case atStart => exact ⟨0, P1, P2, P3, P4, P5, P6, P7, P8, P9, by decide, rfl, BS4.out, H4.out, B4.out, K4.out⟩
  case round =>
    clear H4 BS4 B4 K4
    obtain ⟨k, P1, P2, P3, P4, P5, P6, P7, P8, P9, hk4, rfl, hB, hS, hE, hkr⟩ := hrel
    have HB := Lib.hid hB
    have HS := Lib.hid hS
    have HE := Lib.hid hE
    have HK := Lib.hid hkr
    by_cases hlt : k < 4
    · have hlt' : (k : Int) < 4 := by omega
      obtain ⟨e, he⟩ := four_get k hlt
      obtain ⟨hrg, -, en, ei⟩ := four_of hE k e he
      obtain ⟨s0, s1⟩ := FS.out k e he
      have S0 := Lib.hid s0
      have S1 := Lib.hid s1
      have HRG := Lib.hid hrg
      have EN := Lib.hid en
      have EI := Lib.hid ei
      have lbs := hB.lt
      have lbe := hE.lt
      clear hB hS hE hkr hrg s0 s1 en ei he
      have t1 : True := trivial
      have t2 : True := trivial
      go_upto_region 6 with (first | (have _t := t1; refine wpList_load_part 25 (.tmp 40) rfl rfl be (k * 6) (by first | rfl | simp) #[.int .i64 e.kind, .string e.name, .string e.worker, .slice none 0 0, .int .i64 e.ticks, .slice none 0 0] _ HRG.out Tryd.underlying25 rfl (by kernel_rfl) ?_; go_frame; clear _t t1) | (have _t := t2; refine wpList_store_blk rfl 25 (.tmp 8) (.tmp 41) rfl wr.heap.size 25 _ _ rfl rfl (Blk.new _ _ _) rfl (by kernel_rfl) (by simp [Value.oneCell']) ?_; intro w5 b5 k5 s5; go_frame; clear _t t2))
      have kr5 : Keep none_ wr w5 := ((Keep.refl none_ wr).alloc _).own k5 (Nat.le_refl _)
      have B5 := Lib.hid b5
      have KR5 := Lib.hid kr5
      have HB5 := Lib.hid (HB.out.keep kr5 (fun e => e))
      have HS5 := Lib.hid (HS.out.keep kr5.weak)
      have l5 := kr5.size
      clear k5 s5 b5 kr5
      have ST := Lib.hid (step_new (f k) e (.agg #[.int .i64 (f k).now, .slice P1 P2 P3, .slice P4 P5 P6, .slice P7 P8 P9]) (.agg #[.int .i64 e.kind, .string e.name, .string e.worker, .slice none 0 0, .int .i64 e.ticks, .slice none 0 0]) (one bs) none_ w5 HS5.out ⟨_, _, rfl, by rw [EN.out]; exact StrsOf.nil _ _, by rw [EI.out]; exact ItemsOf.nil _ _⟩ (FI.out k hk4) (by rw [EI.out]; exact ItOk.nil))
      have t3 : True := trivial
      have t4 : True := trivial
      have t5 : True := trivial
      have t6 : True := trivial
      go_upto_region 7 with (first | (have _t := t3; refine wpList_load_part 30 (.tmp 4) rfl rfl bs 0 rfl #[.int .i64 (f k).now, .slice P1 P2 P3, .slice P4 P5 P6, .slice P7 P8 P9] _ HB5.out.rangeAt Tryd.underlying30 rfl (by kernel_rfl) ?_; go_frame; clear _t t3) | (have _t := t4; refine wpList_load_part 25 (.tmp 8) rfl rfl wr.heap.size 0 rfl #[.int .i64 e.kind, .string e.name, .string e.worker, .slice none 0 0, .int .i64 e.ticks, .slice none 0 0] _ B5.out.rangeAt Tryd.underlying25 rfl (by kernel_rfl) ?_; go_frame; clear _t t4) | (have _t := t5; go_at_call 8; refine ST.out.mono ?_; rintro en w6 ⟨v6, vo6, rfl, h6, o6, k6⟩; rw [S1.out] at h6; rw [S0.out]; obtain ⟨O6a, O6c, rfl, -⟩ := o6; obtain ⟨Q1, Q2, Q3, Q4, Q5, Q6, Q7, Q8, Q9, rfl, -⟩ := h6.open_; have H6 := Lib.hid (h6.sub (S' := one bs) (fun x e => by unfold one at e; unfold bel; omega)); have K6 := Lib.hid k6; generalize (stepO (f k) e).length = nq; clear h6 k6 _t t5) | (have _t := t6; refine wpList_store_blk rfl 30 (.tmp 9) (.tmp 46) rfl w6.heap.size 30 _ _ rfl rfl (Blk.new _ _ _) rfl (by kernel_rfl) (by simp [Value.oneCell']) ?_; intro w7 b7 k7 s7; go_frame; clear _t t6))
      have k67 : Keep none_ w6 w7 := ((Keep.refl none_ w6).alloc _).own k7 (Nat.le_refl _)
      have kr7 : Keep none_ wr w7 := (KR5.out.trans K6.out).trans k67
      have HB7 := Lib.hid (HB.out.keep kr7 (fun e => e))
      have HE7 := Lib.hid (HE.out.keep kr7 (fun e => e))
      have H7 := Lib.hid (H6.out.keep k67.weak)
      have B7 := Lib.hid b7
      have KR7 := Lib.hid kr7
      clear k7 s7 b7 k67 kr7
      have t7 : True := trivial
      have t8 : True := trivial
      go_wp2_with (first | (have _t := t7; refine wpList_load_part 30 (.tmp 9) rfl rfl w6.heap.size 0 rfl #[.int .i64 (f (k + 1)).now, .slice Q1 Q2 Q3, .slice Q4 Q5 Q6, .slice Q7 Q8 Q9] _ B7.out.rangeAt Tryd.underlying30 rfl (by kernel_rfl) ?_; go_frame; clear _t t7) | (have _t := t8; refine wpList_store_blk rfl 30 (.tmp 4) (.tmp 51) rfl bs 30 _ _ rfl rfl HB7.out rfl (by kernel_rfl) (by simp [Value.oneCell']) ?_; intro w8 b8 k8 s8; have B8 := Lib.hid b8; have K8 := Lib.hid k8; clear b8 k8 s8; go_frame; clear _t t8))
      go_roundw
      case rel => exact ⟨k + 1, Q1, Q2, Q3, Q4, Q5, Q6, Q7, Q8, Q9, hlt, by go_num, B8.out, H7.out.keep K8.out, HE7.out.keep K8.out (fun e => nbe e.symm), (HK.out.trans KR7.out).own K8.out wb⟩
      case measure => simp [intOf]; omega
    · have hk : k = 4 := by omega
      have hlt' : ¬ (k : Int) < 4 := by omega
      have FINVk := Lib.hid (show Inv (f k) (f k).jobs.length from hk ▸ FINV.out)
      clear hB hS hE hkr hlt HE hk FINV
      have y2 : wr.cell? ⟨bs, 2, none⟩ = some (.slice P4 P5 P6) := HB.out.cell 2
      have hp5 : (f k).jobs.length = P5 := (HS.out.jobs_of).facts.1
      have INV := Lib.hid (show Inv (f k) P5 from hp5 ▸ FINVk.out)
      have HP64 := Lib.hid (show P5 ≤ 64 from hp5 ▸ FINVk.out.v.jl)
      clear FINVk FS FI hk4
      go_upto_region 12 with (fail)
      clear y2 hp5
      go_loopw [12] (fun i wq => ∃ (s : St) (n : Nat) (P1 : Option Addr) (P2 P3 : Nat) (P4 : Option Addr) (P5 P6 : Nat) (P7 : Option Addr) (P8 P9 : Nat), i = .int .i64 n ∧ n ≤ 64 ∧ Inv s n ∧ Blk wq bs 30 #[.int .i64 s.now, .slice P1 P2 P3, .slice P4 P5 P6, .slice P7 P8 P9] ∧ StateOf wq (one bs) (.agg #[.int .i64 s.now, .slice P1 P2 P3, .slice P4 P5 P6, .slice P7 P8 P9]) s ∧ Keep none_ w wq) (fun i _ => (intOf i).toNat)
      case atStart => exact ⟨f k, P5, P1, P2, P3, P4, P5, P6, P7, P8, P9, rfl, HP64.out, INV.out, HB.out, HS.out, HK.out⟩
      case round =>
        clear HB HS HK INV
        obtain ⟨s, n, P1, P2, P3, P4, P5, P6, P7, P8, P9, rfl, hn64, hinv, hB, hS, hkr⟩ := hrel
        have HB := Lib.hid hB
        have HS := Lib.hid hS
        have HK := Lib.hid hkr
        have ITS := Lib.hid hinv.its
        have lbs := hB.lt
        clear hB hS hkr
        by_cases hn0 : 0 < n
        · have hn0' : (0 : Int) < n := by omega
          obtain ⟨m, hm⟩ : ∃ m, n = m + 1 := ⟨n - 1, by omega⟩
          rw [hm] at hinv
          have HM := Lib.hid hm
          clear hm
          obtain ⟨s0, hcase⟩ := hinv.round
          clear hinv
          obtain ⟨sp, hsp⟩ : ∃ sp, stepS s pollL = sp := ⟨_, rfl⟩
          rw [hsp] at hcase
          have S0 := Lib.hid s0
          have SP := Lib.hid hsp
          clear s0 hsp
          rcases hcase with ⟨so, hfin, hvp⟩ | ⟨x, so, hits, se, hinv⟩
          · have SO := Lib.hid so
            have FIN := Lib.hid hfin
            clear so hfin hvp
            have ST := Lib.hid (step_new s pollL (.agg #[.int .i64 s.now, .slice P1 P2 P3, .slice P4 P5 P6, .slice P7 P8 P9]) (.agg #[.int .i64 6, .string ⟨#[]⟩, .string ⟨#[108, 97, 115, 116]⟩, .slice none 0 0, .int .i64 0, .slice none 0 0]) (one bs) none_ wr HS.out ⟨_, _, rfl, StrsOf.nil _ _, ItemsOf.nil _ _⟩ ITS.out ItOk.nil)
            have t3 : True := trivial
            have t5 : True := trivial
            have t6 : True := trivial
            go_upto_region 15 with (first | (have _t := t3; refine wpList_load_part 30 (.tmp 4) rfl rfl bs 0 rfl #[.int .i64 s.now, .slice P1 P2 P3, .slice P4 P5 P6, .slice P7 P8 P9] _ HB.out.rangeAt Tryd.underlying30 rfl (by kernel_rfl) ?_; go_frame; clear _t t3) | (have _t := t5; go_at_call 8; refine ST.out.mono ?_; rintro en w6 ⟨v6, vo6, rfl, h6, o6, k6⟩; rw [SP.out] at h6; rw [S0.out]; rw [SO.out] at o6; obtain ⟨O6a, O6c, rfl, hro⟩ := o6; simp only [List.length_nil]; obtain ⟨Q1, Q2, Q3, Q4, Q5, Q6, Q7, Q8, Q9, rfl, -⟩ := h6.open_; have H6 := Lib.hid (h6.sub (S' := one bs) (fun x e => by unfold one at e; unfold bel; omega)); have K6 := Lib.hid k6; have RO := Lib.hid hro; clear h6 k6 hro _t t5) | (have _t := t6; refine wpList_store_blk rfl 30 (.tmp 13) (.tmp 64) rfl w6.heap.size 30 _ _ rfl rfl (Blk.new _ _ _) rfl (by kernel_rfl) (by simp [Value.oneCell']) ?_; intro w7 b7 k7 s7; go_frame; clear _t t6))
            have k67 : Keep none_ w6 w7 := ((Keep.refl none_ w6).alloc _).own k7 (Nat.le_refl _)
            have kr7 : Keep none_ wr w7 := K6.out.trans k67
            have HB7 := Lib.hid (HB.out.keep kr7 (fun e => e))
            have H7 := Lib.hid (H6.out.keep k67.weak)
            have K67 := Lib.hid k67
            have B7 := Lib.hid b7
            have KR7 := Lib.hid kr7
            clear k7 s7 b7 k67 kr7
            have t7 : True := trivial
            have t8 : True := trivial
            go_upto_region 18 with (first | (have _t := t7; refine wpList_load_part 30 (.tmp 13) rfl rfl w6.heap.size 0 rfl #[.int .i64 sp.now, .slice Q1 Q2 Q3, .slice Q4 Q5 Q6, .slice Q7 Q8 Q9] _ B7.out.rangeAt Tryd.underlying30 rfl (by kernel_rfl) ?_; go_frame; clear _t t7) | (have _t := t8; refine wpList_store_blk rfl 30 (.tmp 4) (.tmp 69) rfl bs 30 _ _ rfl rfl HB7.out rfl (by kernel_rfl) (by simp [Value.oneCell']) ?_; intro w8 b8 k8 s8; have B8 := Lib.hid b8; have K8 := Lib.hid k8; clear b8 k8 s8; go_frame; clear _t t8))
            have H8 := Lib.hid (H7.out.keep K8.out)
            have KW8 := Lib.hid ((HK.out.trans KR7.out).own K8.out wb)
            have HBf := B8
            have HSf := H8
            have HKf := KW8
            clear RO S0 SP SO ITS HB HS HK ST H6 K6 HB7 H7 K67 B7 KR7 B8 K8 H8 KW8
            have y2 : w8.cell? ⟨bs, 2, none⟩ = some (.slice Q4 Q5 Q6) := HBf.out.cell 2
            have JO := Lib.hid (show JobsOf w8 (one bs) (.slice Q4 Q5 Q6) sp.jobs from HSf.out.jobs_of)
            have hfl : sp.jobs.length = Q5 := JO.out.facts.1
            go_upto_region 24 with (fail)
            clear y2 HBf HSf
            have KF0 := Lib.hid (Keep.refl none_ w8)
            go_loopw [90] (fun i wz => ∃ k : Nat, k ≤ Q5 ∧ i = .int .i64 k ∧ Keep none_ w8 wz) (fun i _ => Q5 - (intOf i).toNat)
            case atStart => exact ⟨0, Nat.zero_le _, rfl, KF0.out⟩
            case round =>
              obtain ⟨k, hkF, rfl, hkr⟩ := hrel
              have HKr := Lib.hid hkr
              have JR := Lib.hid (JO.out.keep hkr.weak)
              clear hkr
              by_cases hlt : k < Q5
              · have hlt' : (k : Int) < Q5 := by omega
                have hcap := JR.out.facts.2
                unfold maxLen at hcap
                obtain ⟨bl, ol, rfl, -, hkl, cs, hcl, hrg, vn, vi, hcs, hns, his⟩ := JR.out.elem k hlt
                have hfin := FIN.out _ (List.getElem_mem hkl)
                generalize sp.jobs[k] = j at hcs hns his hfin
                subst hcs
                obtain ⟨An, nn, cn, rfl, -⟩ := hns
                obtain ⟨Ai, ni, ci, rfl, -⟩ := his
                have HRG := Lib.hid hrg
                clear hcl hrg
                have t1 : True := trivial
                have t2 : True := trivial
                go_upto_region 26 with (first | (have _t := t1; refine wpList_load_part 48 (.tmp 92) rfl rfl bl (ol + k * 7) (by first | rfl | simp) #[.string j.name, .slice An nn cn, .string j.worker, .int .i64 j.until_, .int .i64 j.tries, .bool j.done, .slice Ai ni ci] _ HRG.out Tryd.underlying48 rfl (by kernel_rfl) ?_; go_frame; clear _t t1) | (have _t := t2; refine wpList_store_blk rfl 48 (.tmp 20) (.tmp 93) rfl wr.heap.size 48 _ _ rfl rfl (Blk.new _ _ _) rfl (by kernel_rfl) (by simp [Value.oneCell']) ?_; intro w9 b9 k9 s9; go_frame; clear _t t2))
                have kr9 : Keep none_ wr w9 := ((Keep.refl none_ wr).alloc _).own k9 (Nat.le_refl _)
                have KR9 := Lib.hid (HKr.out.trans kr9)
                have z4 := b9.cell 4
                have z5 := b9.cell 5
                simp only [List.getElem?_toArray, List.getElem?_cons_zero, List.getElem?_cons_succ] at z4 z5
                clear k9 s9 b9 kr9
                cases hd : j.done with
                | true =>
                  rw [hd] at z5
                  clear hd hfin
                  go_wp2
                  go_roundw
                  case rel => exact ⟨k + 1, hlt, by go_num, KR9.out⟩
                  case measure => simp [intOf]; omega
                | false =>
                  rw [hd] at z5
                  have h3 : ¬ j.tries < 3 := by
                    rcases hfin with h | h
                    · rw [hd] at h; cases h
                    · omega
                  clear hd hfin
                  go_wp2
                  go_roundw
                  case rel => exact ⟨k + 1, hlt, by go_num, KR9.out⟩
                  case measure => simp [intOf]; omega
              · obtain rfl : k = Q5 := by omega
                have AW := Lib.hid awake_any
                have t3 : True := trivial
                go_wp2_with (have _t := t3; go_at_call 9; refine (AW.out wr).mono ?_; rintro e w15 ⟨rfl, k15⟩; have K15 := Lib.hid ((HKf.out.trans HKr.out).trans k15); clear k15 _t t3)
                go_ret
                exact ⟨by rfl, K15.out⟩
          · have SO := Lib.hid so
            have ITP := Lib.hid hits
            have SE := Lib.hid se
            have INV := Lib.hid hinv
            clear so hits se hinv
            have ST := Lib.hid (step_new s pollL (.agg #[.int .i64 s.now, .slice P1 P2 P3, .slice P4 P5 P6, .slice P7 P8 P9]) (.agg #[.int .i64 6, .string ⟨#[]⟩, .string ⟨#[108, 97, 115, 116]⟩, .slice none 0 0, .int .i64 0, .slice none 0 0]) (one bs) none_ wr HS.out ⟨_, _, rfl, StrsOf.nil _ _, ItemsOf.nil _ _⟩ ITS.out ItOk.nil)
            have t3 : True := trivial
            have t5 : True := trivial
            have t6 : True := trivial
            go_upto_region 15 with (first | (have _t := t3; refine wpList_load_part 30 (.tmp 4) rfl rfl bs 0 rfl #[.int .i64 s.now, .slice P1 P2 P3, .slice P4 P5 P6, .slice P7 P8 P9] _ HB.out.rangeAt Tryd.underlying30 rfl (by kernel_rfl) ?_; go_frame; clear _t t3) | (have _t := t5; go_at_call 8; refine ST.out.mono ?_; rintro en w6 ⟨v6, vo6, rfl, h6, o6, k6⟩; rw [SP.out] at h6; rw [S0.out]; rw [SO.out] at o6; obtain ⟨O6a, O6c, rfl, hro⟩ := o6; simp only [List.length_cons, List.length_nil, Nat.zero_add]; obtain ⟨Q1, Q2, Q3, Q4, Q5, Q6, Q7, Q8, Q9, rfl, -⟩ := h6.open_; have H6 := Lib.hid (h6.sub (S' := one bs) (fun x e => by unfold one at e; unfold bel; omega)); have K6 := Lib.hid k6; have RO := Lib.hid hro; clear h6 k6 hro _t t5) | (have _t := t6; refine wpList_store_blk rfl 30 (.tmp 13) (.tmp 64) rfl w6.heap.size 30 _ _ rfl rfl (Blk.new _ _ _) rfl (by kernel_rfl) (by simp [Value.oneCell']) ?_; intro w7 b7 k7 s7; go_frame; clear _t t6))
            have k67 : Keep none_ w6 w7 := ((Keep.refl none_ w6).alloc _).own k7 (Nat.le_refl _)
            have kr7 : Keep none_ wr w7 := K6.out.trans k67
            have HB7 := Lib.hid (HB.out.keep kr7 (fun e => e))
            have H7 := Lib.hid (H6.out.keep k67.weak)
            have K67 := Lib.hid k67
            have B7 := Lib.hid b7
            have KR7 := Lib.hid kr7
            clear k7 s7 b7 k67 kr7
            have t7 : True := trivial
            have t8 : True := trivial
            go_upto_region 18 with (first | (have _t := t7; refine wpList_load_part 30 (.tmp 13) rfl rfl w6.heap.size 0 rfl #[.int .i64 sp.now, .slice Q1 Q2 Q3, .slice Q4 Q5 Q6, .slice Q7 Q8 Q9] _ B7.out.rangeAt Tryd.underlying30 rfl (by kernel_rfl) ?_; go_frame; clear _t t7) | (have _t := t8; refine wpList_store_blk rfl 30 (.tmp 4) (.tmp 69) rfl bs 30 _ _ rfl rfl HB7.out rfl (by kernel_rfl) (by simp [Value.oneCell']) ?_; intro w8 b8 k8 s8; have B8 := Lib.hid b8; have K8 := Lib.hid k8; clear b8 k8 s8; go_frame; clear _t t8))
            have H8 := Lib.hid (H7.out.keep K8.out)
            have KW8 := Lib.hid ((HK.out.trans KR7.out).own K8.out wb)
            have ro := RO.out
            simp only [List.length_cons, List.length_nil, Nat.zero_add] at ro
            obtain ⟨bo, oo, rfl, -, hoo⟩ := ro.at_ (by decide)
            have y6 : w6.cell? ⟨bo, oo + 1, none⟩ = some (.string x) := hoo 1 (.string x) rfl
            have nbo : ¬ one bs bo := fun e => by
              have e' : bo = bs := e
              rw [e'] at y6
              exact no_string (HB.out.keep K6.out (fun e => e)) _ _ y6
            have y1 : w8.cell? ⟨bo, oo + 1, none⟩ = some (.string x) := K8.out.cell (K67.out.cell y6 (fun e => e)) nbo
            clear ro hoo y6 RO nbo
            go_upto_region 19 with (fail)
            obtain ⟨s2, hs2⟩ : ∃ s2, stepS sp (finL x) = s2 := ⟨_, rfl⟩
            rw [hs2] at INV
            have S2 := Lib.hid hs2
            have l8 := B8.out.lt
            clear hs2 HB HS HK ITS ST H6 K6 HB7 H7 K67 B7 KR7 K8 S0 SP SO
            have ITS2 := Lib.hid INV.out.its
            have gd := finCalm_good w8 s2 ITS2.out
            have ne := finCalm_some w8 s2
            have x0 := Lib.hid (fun y => (B8.out.keep (finCalm_at (wr := w8) (s2 := s2) y) (fun e => e)).rangeAt)
            have x1 := fun y => (finCalm_at (wr := w8) (s2 := s2) y).cell y1 (fun e => e)
            refine wp_region_calm (finCalm w8 s2) [0, 1, 2, 3, 4, 5, 6, 7, 8, 9, 10, 11, 12, 13] [14] 104 (by kernel_rfl) (by kernel_rfl) rfl gd (Keep.refl _ _).drew ?_
            simp only [pairs, List.filterMap_cons, List.filterMap_nil, List.getElem?_toArray, List.getElem?_cons_succ, List.getElem?_cons_zero, Option.map_some]
            refine Calm.walk_load 30 (.tmp 4) rfl ne rfl rfl bs 0 rfl #[.int .i64 sp.now, .slice Q1 Q2 Q3, .slice Q4 Q5 Q6, .slice Q7 Q8 Q9] _ x0.out Tryd.underlying30 rfl (by kernel_rfl) ?_
            go_frame
            repeat (refine Calm.walk_quiet ne rfl rfl rfl (fun K hK => ?_); go_big_quiet_op; refine hK _ ?_; clear hK K)
            refine Calm.walk_eff rfl rfl (fun n wy hn hG _ => ?_) ?_
            · have hG' : Keep none_ w8 wy := hG
              unfold gives
              go_simp
              refine (step_any sp (finL x) (.agg #[.int .i64 sp.now, .slice Q1 Q2 Q3, .slice Q4 Q5 Q6, .slice Q7 Q8 Q9]) (.agg #[.int .i64 7, .string x, .string ⟨#[108, 97, 115, 116]⟩, .slice none 0 0, .int .i64 0, .slice none 0 0]) (one bs) none_ wy (H8.out.keep hG'.weak) ⟨_, _, rfl, StrsOf.nil _ _, ItemsOf.nil _ _⟩ ITP.out ItOk.nil).mono ?_
              rintro en wz ⟨vz, voz, rfl, hz, oz, kz⟩
              rw [S2.out] at hz
              obtain ⟨Oa, Oc, rfl, -⟩ := oz
              refine ⟨_, rfl, ?_, kz, hG'.trans kz, fun _ h => h.elim⟩
              exact ⟨vz, Oa, _, Oc, by rw [SE.out]; rfl, hz⟩
            intro vq wy hT
            obtain ⟨vs, Oa, On, Oc, rfl, hvs⟩ : ∃ vs A n c, vq = .tuple #[vs, .slice A n c, .int .i64 0] ∧ StateOf wy none_ vs s2 := hT
            obtain ⟨T1, T2, T3, T4, T5, T6, T7, T8, T9, rfl, -⟩ := hvs.open_
            clear hvs wy
            go_frame
            repeat (refine Calm.walk_quiet ne rfl rfl rfl (fun K hK => ?_); go_big_quiet_op; refine hK _ ?_; clear hK K)
            refine Calm.walk_eff rfl rfl (fun n wy hn hG _ => ?_) ?_
            · have hG' : Keep none_ w8 wy := hG
              unfold gives
              go_simp
              exact ⟨⟨wy.heap.size, hG'.size, rfl, _, _, _, _, _, _, _, _, _, _, Blk.new _ _ _⟩, (Keep.refl _ _).alloc _, hG'.alloc _, fun _ h => h.elim⟩
            intro vq wy hT
            obtain ⟨bk, hbk, rfl, -⟩ : ∃ b, w8.heap.size ≤ b ∧ vq = .pointer (some ⟨b, 0, none⟩) ∧ StVar wy b := hT
            clear wy
            go_frame
            refine Calm.walk_eff rfl rfl (fun n wy hn hG hAF => ?_) ?_
            · have hG' : Keep none_ w8 wy := hG
              obtain ⟨bk', h1, h2, h3⟩ : ∃ b, w8.heap.size ≤ b ∧ Value.pointer (some ⟨bk, 0, none⟩) = .pointer (some ⟨b, 0, none⟩) ∧ StVar wy b := (hAF 11 (by first | exact List.mem_cons_self | exact List.mem_cons_of_mem _ List.mem_cons_self) _ rfl ⟨rfl, rfl⟩).1
              obtain rfl : bk = bk' := by simpa using h2
              have hsv := h3
              obtain ⟨a0, A1, n1, c1, A2, n2, c2, A3, n3, c3, hb⟩ := h3
              refine gives_store_blk 30 (.tmp 16) (.tmp 81) rfl bk 30 _ #[.int .i64 s2.now, .slice T1 T2 T3, .slice T4 T5 T6, .slice T7 T8 T9] rfl rfl hb rfl (by kernel_rfl) (by simp [Value.oneCell']) (fun wz bz kz => ?_)
              exact ⟨⟨bk, rfl, bz⟩, ⟨bk, h1, hsv, ⟨_, _, _, _, _, _, _, _, _, _, bz⟩, kz⟩, hG'.own kz h1, fun _ h => h.elim⟩
            rintro vq wy -
            clear wy
            go_frame
            repeat (refine Calm.walk_quiet ne rfl rfl rfl (fun K hK => ?_); go_big_quiet_op; refine hK _ ?_; clear hK K)
            intro w9 hG hD
            have k89 : Keep none_ w8 w9 := hG
            obtain ⟨vs9, A9, n9, c9, e9, h9⟩ : ∃ vs A n c, Value.tuple #[.agg #[.int .i64 s2.now, .slice T1 T2 T3, .slice T4 T5 T6, .slice T7 T8 T9], .slice Oa On Oc, .int .i64 0] = .tuple #[vs, .slice A n c, .int .i64 0] ∧ StateOf w9 none_ vs s2 := (hD.1 6 rfl _ rfl ⟨rfl, rfl⟩).1
            obtain rfl : Value.agg #[.int .i64 s2.now, .slice T1 T2 T3, .slice T4 T5 T6, .slice T7 T8 T9] = vs9 := by injection e9 with e; injection e with e; injection e
            obtain ⟨bk', h1, b9⟩ : ∃ b, Value.pointer (some ⟨bk, 0, none⟩) = .pointer (some ⟨b, 0, none⟩) ∧ Blk w9 b 30 #[.int .i64 s2.now, .slice T1 T2 T3, .slice T4 T5 T6, .slice T7 T8 T9] := (hD.1 12 rfl _ rfl ⟨rfl, rfl⟩).1
            obtain rfl : bk = bk' := by simpa using h1
            have bs9 := B8.out.keep k89 (fun e => e)
            have HB9 := Lib.hid bs9
            have B9 := Lib.hid b9
            have H9 := Lib.hid (show StateOf w9 (one bs) (.agg #[.int .i64 s2.now, .slice T1 T2 T3, .slice T4 T5 T6, .slice T7 T8 T9]) s2 from (h9.off ITS2.out ⟨_, _, _, _, _, _, _, _, _, _, bs9⟩).sub (fun _ e => .inr e))
            have K9 := Lib.hid (KW8.out.trans k89)
            clear hG hD gd ne x0 x1 y1 e9 h1 h9 b9 bs9 k89 B8 H8 KW8
            simp only [pickOps, List.filterMap_cons, List.filterMap_nil, List.getElem?_toArray, List.getElem?_cons_succ, List.getElem?_cons_zero]
            have t11 : True := trivial
            have t12 : True := trivial
            go_wp2_with (first | (have _t := t11; refine wpList_load_part 30 (.tmp 16) rfl rfl bk 0 rfl #[.int .i64 s2.now, .slice T1 T2 T3, .slice T4 T5 T6, .slice T7 T8 T9] _ B9.out.rangeAt Tryd.underlying30 rfl (by kernel_rfl) ?_; go_frame; clear _t t11) | (have _t := t12; refine wpList_store_blk rfl 30 (.tmp 4) (.tmp 86) rfl bs 30 _ _ rfl rfl HB9.out rfl (by kernel_rfl) (by simp [Value.oneCell']) ?_; intro w10 b10 k10 s10; have B10 := Lib.hid b10; have K10 := Lib.hid k10; clear b10 k10 s10; go_frame; clear _t t12))
            go_roundw
            case rel => exact ⟨s2, n - 1, T1, T2, T3, T4, T5, T6, T7, T8, T9, by go_num, by omega, by rw [HM.out]; exact INV.out, B10.out, H9.out.keep K10.out, K9.out.own K10.out wb⟩
            case measure => simp [intOf]; omega
        · obtain rfl : n = 0 := by omega
          have FIN := Lib.hid hinv.zero
          have HBf := HB
          have HSf := HS
          have HKf := HK
          clear hinv ITS HB HS HK
          have y2 : wr.cell? ⟨bs, 2, none⟩ = some (.slice P4 P5 P6) := HBf.out.cell 2
          have JO := Lib.hid (show JobsOf wr (one bs) (.slice P4 P5 P6) s.jobs from HSf.out.jobs_of)
          have hfl : s.jobs.length = P5 := JO.out.facts.1
          go_upto_region 24 with (fail)
          clear y2 HBf HSf
          have KF0 := Lib.hid (Keep.refl none_ wr)
          go_loopw [90] (fun i wz => ∃ k : Nat, k ≤ P5 ∧ i = .int .i64 k ∧ Keep none_ wr wz) (fun i _ => P5 - (intOf i).toNat)
          case atStart => exact ⟨0, Nat.zero_le _, rfl, KF0.out⟩
          case round =>
            obtain ⟨k, hkF, rfl, hkr⟩ := hrel
            have HKr := Lib.hid hkr
            have JR := Lib.hid (JO.out.keep hkr.weak)
            clear hkr
            by_cases hlt : k < P5
            · have hlt' : (k : Int) < P5 := by omega
              have hcap := JR.out.facts.2
              unfold maxLen at hcap
              obtain ⟨bl, ol, rfl, -, hkl, cs, hcl, hrg, vn, vi, hcs, hns, his⟩ := JR.out.elem k hlt
              have hfin := FIN.out _ (List.getElem_mem hkl)
              generalize s.jobs[k] = j at hcs hns his hfin
              subst hcs
              obtain ⟨An, nn, cn, rfl, -⟩ := hns
              obtain ⟨Ai, ni, ci, rfl, -⟩ := his
              have HRG := Lib.hid hrg
              clear hcl hrg
              have t1 : True := trivial
              have t2 : True := trivial
              go_upto_region 26 with (first | (have _t := t1; refine wpList_load_part 48 (.tmp 92) rfl rfl bl (ol + k * 7) (by first | rfl | simp) #[.string j.name, .slice An nn cn, .string j.worker, .int .i64 j.until_, .int .i64 j.tries, .bool j.done, .slice Ai ni ci] _ HRG.out Tryd.underlying48 rfl (by kernel_rfl) ?_; go_frame; clear _t t1) | (have _t := t2; refine wpList_store_blk rfl 48 (.tmp 20) (.tmp 93) rfl wr.heap.size 48 _ _ rfl rfl (Blk.new _ _ _) rfl (by kernel_rfl) (by simp [Value.oneCell']) ?_; intro w9 b9 k9 s9; go_frame; clear _t t2))
              have kr9 : Keep none_ wr w9 := ((Keep.refl none_ wr).alloc _).own k9 (Nat.le_refl _)
              have KR9 := Lib.hid (HKr.out.trans kr9)
              have z4 := b9.cell 4
              have z5 := b9.cell 5
              simp only [List.getElem?_toArray, List.getElem?_cons_zero, List.getElem?_cons_succ] at z4 z5
              clear k9 s9 b9 kr9
              cases hd : j.done with
              | true =>
                rw [hd] at z5
                clear hd hfin
                go_wp2
                go_roundw
                case rel => exact ⟨k + 1, hlt, by go_num, KR9.out⟩
                case measure => simp [intOf]; omega
              | false =>
                rw [hd] at z5
                have h3 : ¬ j.tries < 3 := by
                  rcases hfin with h | h
                  · rw [hd] at h; cases h
                  · omega
                clear hd hfin
                go_wp2
                go_roundw
                case rel => exact ⟨k + 1, hlt, by go_num, KR9.out⟩
                case measure => simp [intOf]; omega
            · obtain rfl : k = P5 := by omega
              have AW := Lib.hid awake_any
              have t3 : True := trivial
              go_wp2_with (have _t := t3; go_at_call 9; refine (AW.out wr).mono ?_; rintro e w15 ⟨rfl, k15⟩; have K15 := Lib.hid ((HKf.out.trans HKr.out).trans k15); clear k15 _t t3)
              go_ret
              exact ⟨by rfl, K15.out⟩
end Go.Proofs.YtnefbeplgfdkkaaDoor
