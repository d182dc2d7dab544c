/-
  Step once more: the state that it returns lies in new memory.
-/
import Derived.Test.YtnefbeplgfdkkaaGreatDoorStep
namespace Go.Proofs.YtnefbeplgfdkkaaGreatDoor
open Go.RowKit

def NewPost (s : St) (e : Ev) (w : World) (en : Ending) (w' : World) : Prop :=
  ∃ v' vo, en = .returned (.tuple #[v', vo, .int .i64 (stepE s e)]) ∧ StateOf w' (bel w.heap.size) v' (stepS s e) ∧ OutsOf w' vo (stepO s e) ∧ Keep none_ w w'
set_option maxRecDepth 100000 in
set_option maxHeartbeats 1000000 in
theorem step_new (s : St) (e : Ev) (v ve : Value) (S S' : Nat → Prop) (w : World) (h : StateOf w S v s) (he : EvOf w S' ve e) (hi : ItsOk s) (hie : ItOk e.items) :
    Calls Tryz.prog 22 #[v, ve] w (NewPost s e w) := by
  obtain ⟨vp, vj, vw, rfl, rest⟩ := (id h : StateOf w S v s)
  obtain ⟨hsp, hsj, hsw⟩ := rest
  obtain ⟨Ap, np, cp, rfl, -⟩ := hsp
  obtain ⟨Aj, nj, cj, rfl, -⟩ := hsj
  obtain ⟨Aw, nw, cw, rfl, -⟩ := hsw
  obtain ⟨vn, vi, rfl, hen, hei⟩ := (id he : EvOf w S' ve e)
  obtain ⟨An, nn, cn, rfl, -⟩ := hen
  obtain ⟨Ai, ni, ci, rfl, -⟩ := hei
  obtain ⟨W0, hW0⟩ : ∃ W0, W0 = ((w.alloc (.cells #[.int .i64 s.now, .slice Ap np cp, .slice Aj nj cj, .slice Aw nw cw] 48)).alloc (.cells #[.int .i64 e.kind, .string e.name, .string e.worker, .slice An nn cn, .int .i64 e.ticks, .slice Ai ni ci] 78)).alloc (.cells #[.int .i64 0, .slice none 0 0, .slice none 0 0, .slice none 0 0] 48) := ⟨_, rfl⟩
  obtain ⟨b0, b1, b2, k0⟩ := three (w := w) (t0 := 48) (c0 := #[.int .i64 s.now, .slice Ap np cp, .slice Aj nj cj, .slice Aw nw cw]) (t1 := 78) (c1 := #[.int .i64 e.kind, .string e.name, .string e.worker, .slice An nn cn, .int .i64 e.ticks, .slice Ai ni ci]) (t2 := 48) (c2 := #[.int .i64 0, .slice none 0 0, .slice none 0 0, .slice none 0 0]) (w1 := W0) (hW0 ▸ Keep.refl none_ W0)
  have H0 := Lib.hid ((h.fresh.keep k0.weak).sub (S' := ge W0.heap.size) (fun b e => Nat.le_trans k0.size e))
  have E0 := Lib.hid ((he.fresh.keep k0.weak).sub (S' := ge W0.heap.size) (fun b e => Nat.le_trans k0.size e))
  have VA := Lib.hid (valid_any s _ _ W0 H0.out)
  have BS := Lib.hid b0
  have BE := Lib.hid b1
  have BR := Lib.hid b2
  have K0 := Lib.hid k0
  have l0 := b2.lt
  have aE : stepE s e = if validF s && evOk e then perE s e else 1 := rfl
  have aS : stepS s e = if stepE s e = 0 then perS s e else zeroSt := rfl
  have aO : stepO s e = if stepE s e = 0 then perO s e else [] := rfl
  clear h he b0 b1 b2 k0
  cases hv : validF s with
  | false =>
    have e1 : stepE s e = 1 := by rw [aE, hv]; rfl
    have E1 := Lib.hid e1
    have E2 := Lib.hid (show stepS s e = zeroSt by rw [aS, e1]; rfl)
    have E3 := Lib.hid (show stepO s e = [] by rw [aO, e1]; rfl)
    rw [hv] at VA
    clear aE aS aO e1 hv
    go_enter Tryz.func22, Tryz.ntmps22
    go_upto_region 1 with (fail)
    rw [← hW0]
    clear hW0
    have t1 : True := trivial
    go_upto_region 2 with (first | (have _t := t1; refine wpList_load_part 48 (.tmp 2) rfl rfl w.heap.size 0 rfl #[.int .i64 s.now, .slice Ap np cp, .slice Aj nj cj, .slice Aw nw cw] _ BS.out.rangeAt Tryz.underlying48 rfl (by kernel_rfl) ?_; go_frame; clear _t t1) | (go_at_call 17; refine VA.out.mono ?_; rintro en w1 ⟨rfl, k1⟩; have K1 := Lib.hid k1; have R1 := Lib.hid (BR.out.keep k1 (fun e => e)); clear k1))
    have t3 : True := trivial
    have zs := zero_state w1
    go_wp2_with (have _t := t3; refine wpList_store_blk rfl 48 (.tmp 4) (.tmp 18) rfl (w.heap.size + 1 + 1) 48 _ _ rfl rfl R1.out rfl (by kernel_rfl) (by simp [Value.oneCell']) ?_; intro w9 b9 k9 s9; go_frame; clear _t t3)
    exact ⟨rfl, _, results_cell_tmp2 Tryz.results22 rfl (run_loadVar_blk b9 Tryz.underlying48 rfl (by kernel_rfl)), _, _, by rw [E1.out]; rfl, by rw [E2.out]; exact zeroSt_of _ _, by rw [E3.out]; exact OutsOf.nil _, (K0.out.trans K1.out).own k9 (by omega)⟩
  | true =>
    rw [hv] at VA
    have hV := (valid_iff s).1 hv
    have HV := Lib.hid hV
    have VE := Lib.hid (fun w1 (k : Keep none_ W0 w1) => validEvent_any e _ _ w1 (E0.out.keep k.weak))
    rw [hv] at aE
    cases hev : evOk e with
    | false =>
      rw [hev] at VE
      have e1 : stepE s e = 1 := by rw [aE, hev]; rfl
      have E1 := Lib.hid e1
      have E2 := Lib.hid (show stepS s e = zeroSt by rw [aS, e1]; rfl)
      have E3 := Lib.hid (show stepO s e = [] by rw [aO, e1]; rfl)
      clear aE aS aO e1 hv hV hev
      go_enter Tryz.func22, Tryz.ntmps22
      go_upto_region 1 with (fail)
      rw [← hW0]
      clear hW0
      have t1 : True := trivial
      have t2 : True := trivial
      go_upto_region 2 with (first | (have _t := t1; refine wpList_load_part 48 (.tmp 2) rfl rfl w.heap.size 0 rfl #[.int .i64 s.now, .slice Ap np cp, .slice Aj nj cj, .slice Aw nw cw] _ BS.out.rangeAt Tryz.underlying48 rfl (by kernel_rfl) ?_; go_frame; clear _t t1) | (go_at_call 17; refine VA.out.mono ?_; rintro en w1 ⟨rfl, k1⟩; have BE1 := Lib.hid (BE.out.keep k1 (fun e => e)); have VE1 := Lib.hid (VE.out w1 k1); have K1 := Lib.hid k1; clear k1 VE) | (have _t := t2; refine wpList_load_part 78 (.tmp 3) rfl rfl (w.heap.size + 1) 0 rfl #[.int .i64 e.kind, .string e.name, .string e.worker, .slice An nn cn, .int .i64 e.ticks, .slice Ai ni ci] _ BE1.out.rangeAt Tryz.underlying78 rfl (by kernel_rfl) ?_; go_frame; clear _t t2) | (go_at_call 51; refine VE1.out.mono ?_; rintro en w2 ⟨rfl, k2⟩; have K2 := Lib.hid (K1.out.trans k2); clear k2))
      have R1 := Lib.hid (BR.out.keep K2.out (fun e => e))
      have t3 : True := trivial
      have zs := zero_state w2
      go_wp2_with (have _t := t3; refine wpList_store_blk rfl 48 (.tmp 4) (.tmp 18) rfl (w.heap.size + 1 + 1) 48 _ _ rfl rfl R1.out rfl (by kernel_rfl) (by simp [Value.oneCell']) ?_; intro w9 b9 k9 s9; go_frame; clear _t t3)
      exact ⟨rfl, _, results_cell_tmp2 Tryz.results22 rfl (run_loadVar_blk b9 Tryz.underlying48 rfl (by kernel_rfl)), _, _, by rw [E1.out]; rfl, by rw [E2.out]; exact zeroSt_of _ _, by rw [E3.out]; exact OutsOf.nil _, (K0.out.trans K2.out).own k9 (by omega)⟩
    | true =>
      rw [hev] at VE
      have HEV := Lib.hid hev
      have e1 : stepE s e = perE s e := by rw [aE, hev]; rfl
      have E1 := Lib.hid e1
      have PS := Lib.hid (V.plain (hV.per hev) (per_items hi hie))
      have SS := Lib.hid (hV.per hev).small
      clear aE hv hev
      go_enter Tryz.func22, Tryz.ntmps22
      go_upto_region 1 with (fail)
      rw [← hW0]
      clear hW0
      have t1 : True := trivial
      have t2 : True := trivial
      go_upto_region 3 with (first | (have _t := t1; refine wpList_load_part 48 (.tmp 2) rfl rfl w.heap.size 0 rfl #[.int .i64 s.now, .slice Ap np cp, .slice Aj nj cj, .slice Aw nw cw] _ BS.out.rangeAt Tryz.underlying48 rfl (by kernel_rfl) ?_; go_frame; clear _t t1) | (go_at_call 17; refine VA.out.mono ?_; rintro en w1 ⟨rfl, k1⟩; have BE1 := Lib.hid (BE.out.keep k1 (fun e => e)); have VE1 := Lib.hid (VE.out w1 k1); have K1 := Lib.hid k1; clear k1 VE) | (have _t := t2; refine wpList_load_part 78 (.tmp 3) rfl rfl (w.heap.size + 1) 0 rfl #[.int .i64 e.kind, .string e.name, .string e.worker, .slice An nn cn, .int .i64 e.ticks, .slice Ai ni ci] _ BE1.out.rangeAt Tryz.underlying78 rfl (by kernel_rfl) ?_; go_frame; clear _t t2) | (go_at_call 51; refine VE1.out.mono ?_; rintro en w2 ⟨rfl, k2⟩; have K2 := Lib.hid (K1.out.trans k2); clear k2))
      have BS2 := Lib.hid (BS.out.keep K2.out (fun e => e))
      have CO := Lib.hid (copied_any s _ _ w2 (H0.out.keep K2.out.weak) hV.small)
      have sz2 := K2.out.size
      have t3 : True := trivial
      have t4 : True := trivial
      clear hV
      go_upto_region 4 with (first | (have _t := t4; refine wpList_load_part 48 (.tmp 2) rfl rfl w.heap.size 0 rfl #[.int .i64 s.now, .slice Ap np cp, .slice Aj nj cj, .slice Aw nw cw] _ BS2.out.rangeAt Tryz.underlying48 rfl (by kernel_rfl) ?_; go_frame; clear _t t4) | (go_at_call 52; refine CO.out.mono ?_; rintro en w3 ⟨vp, vj, vw, rfl, o1, o2, o3, k3⟩; obtain ⟨A1, c1, rfl, -⟩ := own_row (S := none_) o1 (fun _ _ e => e); obtain ⟨A2, c2, rfl, -, -⟩ := o2.slice; obtain ⟨A3, c3, rfl, -⟩ := own_row (S := none_) o3 (fun _ _ e => e); have O1 := Lib.hid o1; have O2 := Lib.hid o2; have O3 := Lib.hid o3; have K3 := Lib.hid k3; clear o1 o2 o3 k3 CO) | (have _t := t3; refine wpList_store_blk rfl 48 (.tmp 7) (.tmp 20) rfl w3.heap.size 48 _ _ rfl rfl (Blk.new _ _ _) rfl (by kernel_rfl) (by simp [Value.oneCell']) ?_; intro w4 b4 k4 s4; go_frame; clear _t t3))
      have k34 : Keep none_ w3 w4 := ((Keep.refl none_ w3).alloc _).own k4 (Nat.le_refl _)
      have A4 := Lib.hid (Aft.of_copy (base := ⟨W0.heap.size, W0.heap.size, Nat.le_refl _⟩) sz2 K3.out O1.out O2.out O3.out b4 k34)
      have K4 := Lib.hid ((K2.out.trans K3.out).trans k34)
      have PF := Lib.hid (perform_any s _ _ _ _ ⟨W0.heap.size, W0.heap.size, Nat.le_refl _⟩ w3.heap.size e w4 A4.out (E0.out.keep K4.out.weak) HEV.out HV.out)
      have BE5 := Lib.hid (BE.out.keep K4.out (fun e => e))
      have sz4 := K4.out.size
      have t5 : True := trivial
      clear k4 s4 b4 k34 O1 O2 O3 E0 BE
      go_upto_region 5 with (first | (have _t := t5; refine wpList_load_part 78 (.tmp 3) rfl rfl (w.heap.size + 1) 0 rfl #[.int .i64 e.kind, .string e.name, .string e.worker, .slice An nn cn, .int .i64 e.ticks, .slice Ai ni ci] _ BE5.out.rangeAt Tryz.underlying78 rfl (by kernel_rfl) ?_; go_frame; clear _t t5) | (go_at_call 53; refine PF.out.mono ?_; rintro en w5 ⟨vo, vp5, vj5, vw5, rfl, o5, a5, k5⟩; have O5 := Lib.hid o5; have A5 := Lib.hid a5; have K5 := Lib.hid k5; clear o5 a5 k5))
      have BR5 := Lib.hid ((BR.out.keep K4.out (fun e => e)).keep K5.out (fun e => by unfold ge at e; omega))
      have k05 : Keep none_ w w5 := ⟨K5.out.os.trans ((K0.out.trans K4.out).os), K5.out.tape.trans ((K0.out.trans K4.out).tape), K5.out.output.trans ((K0.out.trans K4.out).output), Nat.le_trans (K0.out.trans K4.out).size K5.out.size, fun k hk hn => (K5.out.block k (Nat.lt_of_lt_of_le hk (K0.out.trans K4.out).size) (fun e => by unfold ge at e; omega)).trans ((K0.out.trans K4.out).block k hk hn)⟩
      have K05 := Lib.hid k05
      clear k05 BR
      by_cases hz : perE s e = 0
      · have E2 := Lib.hid (show stepS s e = perS s e by rw [aS, e1, if_pos hz])
        have E3 := Lib.hid (show stepO s e = perO s e by rw [aO, e1, if_pos hz])
        have CL := Lib.hid (clone_any (perS s e) _ none_ w5 A5.out.state SS.out PS.out)
        have EZ := Lib.hid hz
        have B5 := Lib.hid A5.out.blk
        clear aS aO e1 PF
        rw [hz]
        clear hz
        have t6 : True := trivial
        have t7 : True := trivial
        go_wp2_with (first | (have _t := t6; refine wpList_load_part 48 (.tmp 7) rfl rfl w3.heap.size 0 rfl #[.int .i64 (perS s e).now, vp5, vj5, vw5] _ B5.out.rangeAt Tryz.underlying48 rfl (by kernel_rfl) ?_; go_frame; clear _t t6) | (go_at_call 54; refine CL.out.mono ?_; rintro en w6 ⟨v6, rfl, h6, k6⟩; have K6 := Lib.hid k6; have R6 := Lib.hid (BR5.out.keep k6 (fun e => e)); have H6 := Lib.hid h6; obtain ⟨p6, j6, q6, rfl, g1, g2, g3⟩ := h6; obtain ⟨P1, P2, P3, rfl, -⟩ := g1; obtain ⟨P4, P5, P6, rfl, -⟩ := g2; obtain ⟨P7, P8, P9, rfl, -⟩ := g3; clear k6 CL) | (have _t := t7; refine wpList_store_blk rfl 48 (.tmp 4) (.tmp 31) rfl (w.heap.size + 1 + 1) 48 _ _ rfl rfl R6.out rfl (by kernel_rfl) (by simp [Value.oneCell']) ?_; intro w9 b9 k9 s9; go_frame; clear _t t7))
        have sz5 := K5.out.size
        have k69 : Keep none_ w w9 := (K05.out.trans K6.out).own k9 (by omega)
        exact ⟨rfl, _, results_cell_tmp2 Tryz.results22 rfl (run_loadVar_blk b9 Tryz.underlying48 rfl (by kernel_rfl)), _, _, by rw [E1.out, EZ.out]; rfl, by rw [E2.out]; exact (H6.out.keep (k9.mono (fun x e => by unfold one at e; unfold bel; omega))).sub (fun x e => Nat.lt_of_lt_of_le e K05.out.size), by rw [E3.out]; exact OutsOf.own (own_keep (own_keep O5.out K6.out (fun _ _ e => e)) k9 (fun b e e' => by cases e'; have := own_ge O5.out _ e; omega)), k69⟩
      · have E2 := Lib.hid (show stepS s e = zeroSt by rw [aS, e1, if_neg hz])
        have E3 := Lib.hid (show stepO s e = [] by rw [aO, e1, if_neg hz])
        have hz' : (perE s e != 0) = true := by simpa using hz
        have zs := zero_state w5
        clear aS aO e1 hz
        have t6 : True := trivial
        go_wp2_with (have _t := t6; refine wpList_store_blk rfl 48 (.tmp 4) (.tmp 28) rfl (w.heap.size + 1 + 1) 48 _ _ rfl rfl BR5.out rfl (by kernel_rfl) (by simp [Value.oneCell']) ?_; intro w9 b9 k9 s9; go_frame; clear _t t6)
        exact ⟨rfl, _, results_cell_tmp2 Tryz.results22 rfl (run_loadVar_blk b9 Tryz.underlying48 rfl (by kernel_rfl)), _, _, by rw [E1.out]; rfl, by rw [E2.out]; exact zeroSt_of _ _, by rw [E3.out]; exact OutsOf.nil _, K05.out.own k9 (by omega)⟩
end Go.Proofs.YtnefbeplgfdkkaaGreatDoor
