/-
  Step once more: the state that it returns lies in new memory.
-/
import Derived.Test.YtnefbeplgfdkkaaGreatDoorJb24
namespace Go.Proofs.YtnefbeplgfdkkaaGreatDoor
open Go.RowKit

def NewPost (s : St) (e : Ev) (w : World) (en : Ending) (w' : World) : Prop :=
  ∃ v' vo, en = .returned (.tuple #[v', vo, .int .i64 (stepE s e)]) ∧ StateOf w' (bel w.heap.size) v' (stepS s e) ∧ OutsOf w' vo (stepO s e) ∧ Keep none_ w w'
set_option maxRecDepth 100000 in
set_option maxHeartbeats 1000000 in
theorem step_new (s : St) (e : Ev) (v ve : Value) (S S' : Nat → Prop) (w : World) (h : StateOf w S v s) (he : EvOf w S' ve e) (hi : ItsOk s) (hie : ItOk e.items) :
    Calls Tryz.prog 22 #[v, ve] w (NewPost s e w) := by
  obtain ⟨vp, vj, vw, rfl, rest⟩ := (id h : StateOf w S v s)
  obtain ⟨hsp, hsj, hsw⟩ := rest
  obtain ⟨Ap, np, cp, rfl, -⟩ := hsp
  obtain ⟨Aj, nj, cj, rfl, -⟩ := hsj
  obtain ⟨Aw, nw, cw, rfl, -⟩ := hsw
  obtain ⟨vn, vi, rfl, hen, hei⟩ := (id he : EvOf w S' ve e)
  obtain ⟨An, nn, cn, rfl, -⟩ := hen
  obtain ⟨Ai, ni, ci, rfl, -⟩ := hei
  obtain ⟨W0, hW0⟩ : ∃ W0, W0 = ((w.alloc (.cells #[.int .i64 s.now, .slice Ap np cp, .slice Aj nj cj, .slice Aw nw cw] 48)).alloc (.cells #[.int .i64 e.kind, .string e.name, .string e.worker, .slice An nn cn, .int .i64 e.ticks, .slice Ai ni ci] 78)).alloc (.cells #[.int .i64 0, .slice none 0 0, .slice none 0 0, .slice none 0 0] 48) := ⟨_, rfl⟩
  obtain ⟨b0, b1, b2, k0⟩ := three (w := w) (t0 := 48) (c0 := #[.int .i64 s.now, .slice Ap np cp, .slice Aj nj cj, .slice Aw nw cw]) (t1 := 78) (c1 := #[.int .i64 e.kind, .string e.name, .string e.worker, .slice An nn cn, .int .i64 e.ticks, .slice Ai ni ci]) (t2 := 48) (c2 := #[.int .i64 0, .slice none 0 0, .slice none 0 0, .slice none 0 0]) (w1 := W0) (hW0 ▸ Keep.refl none_ W0)
  have H0 := Lib.hid ((h.fresh.keep k0.weak).sub (S' := ge W0.heap.size) (fun b e => Nat.le_trans k0.size e))
  have E0 := Lib.hid ((he.fresh.keep k0.weak).sub (S' := ge W0.heap.size) (fun b e => Nat.le_trans k0.size e))
  have VA := Lib.hid (valid_any s _ _ W0 H0.out)
  have BS := Lib.hid b0
  have BE := Lib.hid b1
  have BR := Lib.hid b2
  have K0 := Lib.hid k0
  have l0 := b2.lt
  have aE : stepE s e = if validF s && evOk e then perE s e else 1 := rfl
  have aS : stepS s e = if stepE s e = 0 then perS s e else zeroSt := rfl
  have aO : stepO s e = if stepE s e = 0 then perO s e else [] := rfl
  clear h he b0 b1 b2 k0
  cases hv : validF s with
  | false =>
    have e1 : stepE s e = 1 := by rw [aE, hv]; rfl
    have E1 := Lib.hid e1
    have E2 := Lib.hid (show stepS s e = zeroSt by rw [aS, e1]; rfl)
    have E3 := Lib.hid (show stepO s e = [] by rw [aO, e1]; rfl)
    rw [hv] at VA
    clear aE aS aO e1 hv
    go_enter Tryz.func22, Tryz.ntmps22
    go_upto_region 1 with (fail)
    rw [← hW0]
    clear hW0
    have t1 : True := trivial
    go_upto_region 2 with (first | (have _t := t1; refine wpList_load_part 48 (.tmp 2) rfl rfl w.heap.size 0 rfl #[.int .i64 s.now, .slice Ap np cp, .slice Aj nj cj, .slice Aw nw cw] _ BS.out.rangeAt Tryz.underlying48 rfl (by kernel_rfl) ?_; go_frame; clear _t t1) | (go_at_call 17; refine VA.out.mono ?_; rintro en w1 ⟨rfl, k1⟩; have K1 := Lib.hid k1; have R1 := Lib.hid (BR.out.keep k1 (fun e => e)); clear k1))
    have t3 : True := trivial
    have zs := zero_state w1
    go_wp2_with (have _t := t3; refine wpList_store_blk rfl 48 (.tmp 4) (.tmp 18) rfl (w.heap.size + 1 + 1) 48 _ _ rfl rfl R1.out rfl (by kernel_rfl) (by simp [Value.oneCell']) ?_; intro w9 b9 k9 s9; go_frame; clear _t t3)
    exact ⟨rfl, _, results_cell_tmp2 Tryz.results22 rfl (run_loadVar_blk b9 Tryz.underlying48 rfl (by kernel_rfl)), _, _, by rw [E1.out]; rfl, by rw [E2.out]; exact zeroSt_of _ _, by rw [E3.out]; exact OutsOf.nil _, (K0.out.trans K1.out).own k9 (by omega)⟩
  | true =>
    rw [hv] at VA
    have hV := (valid_iff s).1 hv
    have HV := Lib.hid hV
    have VE := Lib.hid (fun w1 (k : Keep none_ W0 w1) => validEvent_any e _ _ w1 (E0.out.keep k.weak))
    rw [hv] at aE
    cases hev : evOk e with
    | false =>
      rw [hev] at VE
      have e1 : stepE s e = 1 := by rw [aE, hev]; rfl
      have E1 := Lib.hid e1
      have E2 := Lib.hid (show stepS s e = zeroSt by rw [aS, e1]; rfl)
      have E3 := Lib.hid (show stepO s e = [] by rw [aO, e1]; rfl)
      clear aE aS aO e1 hv hV hev
      go_enter Tryz.func22, Tryz.ntmps22
      go_upto_region 1 with (fail)
      rw [← hW0]
      clear hW0
      have t1 : True := trivial
      have t2 : True := trivial
      go_upto_region 2 with (first | (have _t := t1; refine wpList_load_part 48 (.tmp 2) rfl rfl w.heap.size 0 rfl #[.int .i64 s.now, .slice Ap np cp, .slice Aj nj cj, .slice Aw nw cw] _ BS.out.rangeAt Tryz.underlying48 rfl (by kernel_rfl) ?_; go_frame; clear _t t1) | (go_at_call 17; refine VA.out.mono ?_; rintro en w1 ⟨rfl, k1⟩; have BE1 := Lib.hid (BE.out.keep k1 (fun e => e)); have VE1 := Lib.hid (VE.out w1 k1); have K1 := Lib.hid k1; clear k1 VE) | (have _t := t2; refine wpList_load_part 78 (.tmp 3) rfl rfl (w.heap.size + 1) 0 rfl #[.int .i64 e.kind, .string e.name, .string e.worker, .slice An nn cn, .int .i64 e.ticks, .slice Ai ni ci] _ BE1.out.rangeAt Tryz.underlying78 rfl (by kernel_rfl) ?_; go_frame; clear _t t2) | (go_at_call 51; refine VE1.out.mono ?_; rintro en w2 ⟨rfl, k2⟩; have K2 := Lib.hid (K1.out.trans k2); clear k2))
      have R1 := Lib.hid (BR.out.keep K2.out (fun e => e))
      have t3 : True := trivial
      have zs := zero_state w2
      go_wp2_with (have _t := t3; refine wpList_store_blk rfl 48 (.tmp 4) (.tmp 18) rfl (w.heap.size + 1 + 1) 48 _ _ rfl rfl R1.out rfl (by kernel_rfl) (by simp [Value.oneCell']) ?_; intro w9 b9 k9 s9; go_frame; clear _t t3)
      exact ⟨rfl, _, results_cell_tmp2 Tryz.results22 rfl (run_loadVar_blk b9 Tryz.underlying48 rfl (by kernel_rfl)), _, _, by rw [E1.out]; rfl, by rw [E2.out]; exact zeroSt_of _ _, by rw [E3.out]; exact OutsOf.nil _, (K0.out.trans K2.out).own k9 (by omega)⟩
    | true =>
      rw [hev] at VE
      have HEV := Lib.hid hev
      have e1 : stepE s e = perE s e := by rw [aE, hev]; rfl
      have E1 := Lib.hid e1
      have PS := Lib.hid (V.plain (hV.per hev) (per_items hi hie).c)
      have SS := Lib.hid (hV.per hev).small
      clear aE hv hev
      go_enter Tryz.func22, Tryz.ntmps22
      go_upto_region 1 with (fail)
      rw [← hW0]
      clear hW0
      have t1 : True := trivial
      have t2 : True := trivial
      go_upto_region 3 with (first | (have _t := t1; refine wpList_load_part 48 (.tmp 2) rfl rfl w.heap.size 0 rfl #[.int .i64 s.now, .slice Ap np cp, .slice Aj nj cj, .slice Aw nw cw] _ BS.out.rangeAt Tryz.underlying48 rfl (by kernel_rfl) ?_; go_frame; clear _t t1) | (go_at_call 17; refine VA.out.mono ?_; rintro en w1 ⟨rfl, k1⟩; have BE1 := Lib.hid (BE.out.keep k1 (fun e => e)); have VE1 := Lib.hid (VE.out w1 k1); have K1 := Lib.hid k1; clear k1 VE) | (have _t := t2; refine wpList_load_part 78 (.tmp 3) rfl rfl (w.heap.size + 1) 0 rfl #[.int .i64 e.kind, .string e.name, .string e.worker, .slice An nn cn, .int .i64 e.ticks, .slice Ai ni ci] _ BE1.out.rangeAt Tryz.underlying78 rfl (by kernel_rfl) ?_; go_frame; clear _t t2) | (go_at_call 51; refine VE1.out.mono ?_; rintro en w2 ⟨rfl, k2⟩; have K2 := Lib.hid (K1.out.trans k2); clear k2))
      have BS2 := Lib.hid (BS.out.keep K2.out (fun e => e))
      have CO := Lib.hid (copied_any s _ _ w2 (H0.out.keep K2.out.weak) hV.small)
      have sz2 := K2.out.size
      have t3 : True := trivial
      have t4 : True := trivial
      clear hV
      go_upto_region 4 with (first | (have _t := t4; refine wpList_load_part 48 (.tmp 2) rfl rfl w.heap.size 0 rfl #[.int .i64 s.now, .slice Ap np cp, .slice Aj nj cj, .slice Aw nw cw] _ BS2.out.rangeAt Tryz.underlying48 rfl (by kernel_rfl) ?_; go_frame; clear _t t4) | (go_at_call 52; refine CO.out.mono ?_; rintro en w3 ⟨vp, vj, vw, rfl, o1, o2, o3, k3⟩; obtain ⟨A1, c1, rfl, -⟩ := own_row (S := none_) o1 (fun _ _ e => e); obtain ⟨A2, c2, rfl, -, -⟩ := o2.slice; obtain ⟨A3, c3, rfl, -⟩ := own_row (S := none_) o3 (fun _ _ e => e); have O1 := Lib.hid o1; have O2 := Lib.hid o2; have O3 := Lib.hid o3; have K3 := Lib.hid k3; clear o1 o2 o3 k3 CO) | (have _t := t3; refine wpList_store_blk rfl 48 (.tmp 7) (.tmp 20) rfl w3.heap.size 48 _ _ rfl rfl (Blk.new _ _ _) rfl (by kernel_rfl) (by simp [Value.oneCell']) ?_; intro w4 b4 k4 s4; go_frame; clear _t t3))
      have k34 : Keep none_ w3 w4 := ((Keep.refl none_ w3).alloc _).own k4 (Nat.le_refl _)
      have A4 := Lib.hid (Aft.of_copy (base := ⟨W0.heap.size, W0.heap.size, Nat.le_refl _⟩) sz2 K3.out O1.out O2.out O3.out b4 k34)
      have K4 := Lib.hid ((K2.out.trans K3.out).trans k34)
      have PF := Lib.hid (perform_any s _ _ _ _ ⟨W0.heap.size, W0.heap.size, Nat.le_refl _⟩ w3.heap.size e w4 A4.out (E0.out.keep K4.out.weak) HEV.out HV.out)
      have BE5 := Lib.hid (BE.out.keep K4.out (fun e => e))
      have sz4 := K4.out.size
      have t5 : True := trivial
      clear k4 s4 b4 k34 O1 O2 O3 E0 BE
      go_upto_region 5 with (first | (have _t := t5; refine wpList_load_part 78 (.tmp 3) rfl rfl (w.heap.size + 1) 0 rfl #[.int .i64 e.kind, .string e.name, .string e.worker, .slice An nn cn, .int .i64 e.ticks, .slice Ai ni ci] _ BE5.out.rangeAt Tryz.underlying78 rfl (by kernel_rfl) ?_; go_frame; clear _t t5) | (go_at_call 53; refine PF.out.mono ?_; rintro en w5 ⟨vo, vp5, vj5, vw5, rfl, o5, a5, k5⟩; have O5 := Lib.hid o5; have A5 := Lib.hid a5; have K5 := Lib.hid k5; clear o5 a5 k5))
      have BR5 := Lib.hid ((BR.out.keep K4.out (fun e => e)).keep K5.out (fun e => by unfold ge at e; omega))
      have k05 : Keep none_ w w5 := ⟨K5.out.os.trans ((K0.out.trans K4.out).os), K5.out.tape.trans ((K0.out.trans K4.out).tape), K5.out.output.trans ((K0.out.trans K4.out).output), Nat.le_trans (K0.out.trans K4.out).size K5.out.size, fun k hk hn => (K5.out.block k (Nat.lt_of_lt_of_le hk (K0.out.trans K4.out).size) (fun e => by unfold ge at e; omega)).trans ((K0.out.trans K4.out).block k hk hn)⟩
      have K05 := Lib.hid k05
      clear k05 BR
      by_cases hz : perE s e = 0
      · have E2 := Lib.hid (show stepS s e = perS s e by rw [aS, e1, if_pos hz])
        have E3 := Lib.hid (show stepO s e = perO s e by rw [aO, e1, if_pos hz])
        have CL := Lib.hid (clone_any (perS s e) _ none_ w5 A5.out.state SS.out PS.out)
        have EZ := Lib.hid hz
        have B5 := Lib.hid A5.out.blk
        clear aS aO e1 PF
        rw [hz]
        clear hz
        have t6 : True := trivial
        have t7 : True := trivial
        go_wp2_with (first | (have _t := t6; refine wpList_load_part 48 (.tmp 7) rfl rfl w3.heap.size 0 rfl #[.int .i64 (perS s e).now, vp5, vj5, vw5] _ B5.out.rangeAt Tryz.underlying48 rfl (by kernel_rfl) ?_; go_frame; clear _t t6) | (go_at_call 54; refine CL.out.mono ?_; rintro en w6 ⟨v6, rfl, h6, k6⟩; have K6 := Lib.hid k6; have R6 := Lib.hid (BR5.out.keep k6 (fun e => e)); have H6 := Lib.hid h6; obtain ⟨p6, j6, q6, rfl, g1, g2, g3⟩ := h6; obtain ⟨P1, P2, P3, rfl, -⟩ := g1; obtain ⟨P4, P5, P6, rfl, -⟩ := g2; obtain ⟨P7, P8, P9, rfl, -⟩ := g3; clear k6 CL) | (have _t := t7; refine wpList_store_blk rfl 48 (.tmp 4) (.tmp 31) rfl (w.heap.size + 1 + 1) 48 _ _ rfl rfl R6.out rfl (by kernel_rfl) (by simp [Value.oneCell']) ?_; intro w9 b9 k9 s9; go_frame; clear _t t7))
        have sz5 := K5.out.size
        have k69 : Keep none_ w w9 := (K05.out.trans K6.out).own k9 (by omega)
        exact ⟨rfl, _, results_cell_tmp2 Tryz.results22 rfl (run_loadVar_blk b9 Tryz.underlying48 rfl (by kernel_rfl)), _, _, by rw [E1.out, EZ.out]; rfl, by rw [E2.out]; exact (H6.out.keep (k9.mono (fun x e => by unfold one at e; unfold bel; omega))).sub (fun x e => Nat.lt_of_lt_of_le e K05.out.size), by rw [E3.out]; exact OutsOf.own (own_keep (own_keep O5.out K6.out (fun _ _ e => e)) k9 (fun b e e' => by cases e'; have := own_ge O5.out _ e; omega)), k69⟩
      · have E2 := Lib.hid (show stepS s e = zeroSt by rw [aS, e1, if_neg hz])
        have E3 := Lib.hid (show stepO s e = [] by rw [aO, e1, if_neg hz])
        have hz' : (perE s e != 0) = true := by simpa using hz
        have zs := zero_state w5
        clear aS aO e1 hz
        have t6 : True := trivial
        go_wp2_with (have _t := t6; refine wpList_store_blk rfl 48 (.tmp 4) (.tmp 28) rfl (w.heap.size + 1 + 1) 48 _ _ rfl rfl BR5.out rfl (by kernel_rfl) (by simp [Value.oneCell']) ?_; intro w9 b9 k9 s9; go_frame; clear _t t6)
        exact ⟨rfl, _, results_cell_tmp2 Tryz.results22 rfl (run_loadVar_blk b9 Tryz.underlying48 rfl (by kernel_rfl)), _, _, by rw [E1.out]; rfl, by rw [E2.out]; exact zeroSt_of _ _, by rw [E3.out]; exact OutsOf.nil _, K05.out.own k9 (by omega)⟩
end Go.Proofs.YtnefbeplgfdkkaaGreatDoor
/-
  A state lies apart from every variable of its own type: told from what the cells hold. The facts of 'u, _, g := farm.Step(s, e)' where the region draws.
-/
namespace Go.Proofs.YtnefbeplgfdkkaaGreatDoor
open Go.RowKit

theorem no_string {w : World} {b : Nat} {a : Int} {A1 A2 A3 : Option Addr} {n1 n2 n3 c1 c2 c3 : Nat} (h : Blk w b 48 #[.int .i64 a, .slice A1 n1 c1, .slice A2 n2 c2, .slice A3 n3 c3]) (i : Nat) (x : ByteArray) : w.cell? ⟨b, i, none⟩ ≠ some (.string x) := by
  rw [h.cell]
  match i with
  | 0 => exact fun e => nomatch e
  | 1 => exact fun e => nomatch e
  | 2 => exact fun e => nomatch e
  | 3 => exact fun e => nomatch e
  | i + 4 => simp
/-- Block b is a variable of the state's type. -/
def StVar (w : World) (b : Nat) : Prop := ∃ a A1 n1 c1 A2 n2 c2 A3 n3 c3, Blk w b 48 #[.int .i64 a, .slice A1 n1 c1, .slice A2 n2 c2, .slice A3 n3 c3]
theorem StVar.no_string {w : World} {b : Nat} (h : StVar w b) (i : Nat) (x : ByteArray) : w.cell? ⟨b, i, none⟩ ≠ some (.string x) := by
  obtain ⟨_, _, _, _, _, _, _, _, _, _, h⟩ := h
  exact Proofs.YtnefbeplgfdkkaaGreatDoor.no_string h i x
theorem StVar.no_far {w : World} {b : Nat} (h : StVar w b) (i : Nat) (v : Value) (hi : 4 ≤ i) : w.cell? ⟨b, i, none⟩ ≠ some v := by
  obtain ⟨_, _, _, _, _, _, _, _, _, _, h⟩ := h
  rw [h.cell]
  obtain ⟨j, rfl⟩ : ∃ j, i = j + 4 := ⟨i - 4, by omega⟩
  simp
theorem StVar.keep {w w' : World} {S : Nat → Prop} {b : Nat} (h : StVar w b) (k : Keep S w w') (hb : ¬ S b) : StVar w' b := by
  obtain ⟨_, _, _, _, _, _, _, _, _, _, h⟩ := h
  exact ⟨_, _, _, _, _, _, _, _, _, _, h.keep k hb⟩
def orB (S : Nat → Prop) (bk : Nat) : Nat → Prop := fun b => S b ∨ b = bk
theorem ElemsOf.off {α : Type} {w : World} {S : Nat → Prop} {size : Nat} {R R' : List Value → α → Prop} {v : Value} {l : List α} {bk : Nat} (h : ElemsOf w S size R v l) (hno : ∀ b o cs x, cs.length = size → w.rangeAt b o cs → R cs x → b ≠ bk) (hR : ∀ cs x, x ∈ l → R cs x → R' cs x) : ElemsOf w (orB S bk) size R' v l := by
  obtain ⟨A, n, c, e, h1, h2, h3, h4⟩ := h
  refine ⟨A, n, c, e, h1, h2, h3, fun hn => ?_⟩
  obtain ⟨b, o, e, hb, hc⟩ := h4 hn
  refine ⟨b, o, e, fun hx => ?_, fun i hi => ?_⟩
  · obtain ⟨cs, g1, g2, g3⟩ := hc 0 (by omega)
    rcases hx with hx | hx
    · exact hb hx
    · exact hno b _ cs _ g1 g2 g3 hx
  · obtain ⟨cs, g1, g2, g3⟩ := hc i hi
    exact ⟨cs, g1, g2, hR _ _ (List.getElem_mem hi) g3⟩
theorem StrsOf.off {w : World} {S : Nat → Prop} {v : Value} {l : List ByteArray} {bk : Nat} (h : StrsOf w S v l) (hk : StVar w bk) : StrsOf w (orB S bk) v l := by
  obtain ⟨A, n, c, e, r⟩ := h
  refine ⟨A, n, c, e, r.len, r.le, r.cap, fun hn => ?_⟩
  obtain ⟨b, o, e, hb, hc⟩ := r.at_ hn
  refine ⟨b, o, e, fun hx => ?_, hc⟩
  rcases hx with hx | hx
  · exact hb hx
  · have hl : l.length = n := by have := r.len; simpa using this
    have := hc 0 (.string (l[0]'(by omega))) (by rw [List.getElem?_map, List.getElem?_eq_getElem (by omega)]; rfl)
    rw [hx] at this
    exact hk.no_string _ _ this
theorem ElemsOf.none {α : Type} {w : World} {S S' : Nat → Prop} {size : Nat} {R R' : List Value → α → Prop} {v : Value} {l : List α} (h : ElemsOf w S size R v l) (h0 : l = []) : ElemsOf w S' size R' v l := by
  obtain ⟨A, n, c, e, h1, h2, h3, h4⟩ := h
  subst h0
  exact ⟨A, n, c, e, h1, h2, h3, fun hn => absurd hn (by simp at h3; omega)⟩
theorem StateOf.off {w : World} {S : Nat → Prop} {v : Value} {s : St} {bk : Nat} (h : StateOf w S v s) (hi : ItsOk s) (hk : StVar w bk) : StateOf w (orB S bk) v s := by
  obtain ⟨p, j, q, e, h1, h2, h3⟩ := h
  refine ⟨p, j, q, e, h1.off hk, ElemsOf.off h2 (fun b o cs x g1 g2 g3 hb => ?_) (fun cs x hx g => ?_), ElemsOf.off h3 (fun b o cs x g1 g2 g3 hb => ?_) (fun _ _ _ h => h)⟩
  · obtain ⟨vn, vi, rfl, -⟩ := g3
    have := g2 0 (.string x.name) rfl
    rw [hb] at this
    exact hk.no_string _ _ this
  · obtain ⟨vn, vi, rfl, g1, g2⟩ := g
    have hp := (hi x hx).1
    refine ⟨vn, vi, rfl, g1.off hk, ElemsOf.off g2 (fun b o cs x g1 g2 g3 hb => ?_) (fun cs y hy g => ?_)⟩
    · have := g2 147 (cs[147]'(by omega)) (List.getElem?_eq_getElem (by omega))
      rw [hb] at this
      exact hk.no_far _ _ (by omega) this
    · obtain ⟨u, t, e1, e2, e3, e4, e5⟩ := g
      exact ⟨u, t, e1, e2, e3, e4.none (hp y hy).1, e5.none (hp y hy).2⟩
  · have g3' : cs = [.string x.name, .bool x.dead] := g3
    subst g3'
    have := g2 0 (.string x.name) rfl
    rw [hb] at this
    exact hk.no_string _ _ this
theorem gives_store_blk {P : Program} {o : Oper} {a : Act} {w : World} {X : Value → World → Prop} (ty : TypeId) (x y : Operand) (ho : o.op = .store ty x y) (b : Nat) (t : TypeId) (cs xs : Array Value) (hx : a.eval x = .pointer (some ⟨b, 0, none⟩)) (hy : a.eval y = .agg xs)
    (hb : Blk w b t cs) (hs : cs.size = xs.size) (hi : (P.info? ty).map (·.size) = some xs.size) (h1 : xs.all (·.oneCell') = true)
    (h : ∀ w', Blk w' b t xs → Keep (one b) w w' → X undef w') : gives P o a w X := by
  unfold gives execOp
  simp only [ho, hx, hy, Sem.run_bind, run_storeAt_mid (P := P) w b 0 ty xs (hb.there 0 xs.size (by omega)) hi h1, Result.andThen_ok, Sem.run_pure]
  refine h _ ?_ (Keep.setCells _ _ _ _)
  have := Blk.setCells b xs.toList 0 w cs hb
  rw [laid_whole cs xs.toList (by simp [hs])] at this
  simpa using this

/-- The facts of 'u, _, g := farm.Step(s, farm.Event{..})'. -/
def stR (wr : World) (i : Nat) (a b : World) : Prop := if i = 12 then ∃ bk, wr.heap.size ≤ bk ∧ StVar a bk ∧ StVar b bk ∧ Keep (one bk) a b else Keep none_ a b
def stCells (vs : List Value) : Array Value := match vs.getD 1 undef with
  | .agg cs => cs
  | _ => #[]
def stBlk (vs : List Value) (b : Nat) : Prop := vs.getD 0 undef = .pointer (some ⟨b, 0, none⟩)
def finCalm (wr : World) (s2 : St) : Calm where
  R := stR wr
  G := fun _ => Keep none_ wr
  eff := [6, 11, 12]
  T := fun k vs v w' => if k = 11 then ∃ b, wr.heap.size ≤ b ∧ v = .pointer (some ⟨b, 0, none⟩) ∧ StVar w' b else if k = 6 then ∃ vs A n c, v = .tuple #[vs, .slice A n c, .int .i64 0] ∧ StateOf w' none_ vs s2 else ∃ b, stBlk vs b ∧ Blk w' b 48 (stCells vs)
  anc := fun k => if k = 12 then [6, 11] else []
  own := fun _ _ _ => False
theorem finCalm_good (wr : World) (s2 : St) (hi : ItsOk s2) : (finCalm wr s2).Good where
  mono := fun _ _ h => h
  size := fun i _ _ h => by
    simp only [finCalm, stR] at h
    split at h
    · obtain ⟨_, _, _, _, h⟩ := h; exact h.size
    · exact h.size
  stable := fun i k _ _ w1 w2 he hne h hR => by
    simp only [finCalm, stR] at h hR ⊢
    by_cases e : k = 11
    · rw [if_pos e] at h ⊢
      obtain ⟨b, h1, h2, h3⟩ := h
      refine ⟨b, h1, h2, ?_⟩
      split at hR
      · obtain ⟨bk, g1, g2, g3, g4⟩ := hR
        by_cases eb : b = bk
        · rw [eb]; exact g3
        · exact h3.keep g4 eb
      · exact h3.keep hR (fun e => e)
    · rw [if_neg e] at h ⊢
      by_cases e6 : k = 6
      · rw [if_pos e6] at h ⊢
        obtain ⟨vs, A, n, c, e1, h1⟩ := h
        refine ⟨vs, A, n, c, e1, ?_⟩
        split at hR
        · obtain ⟨bk, g1, g2, g3, g4⟩ := hR
          exact ((h1.off hi g2).keep (g4.mono (fun x e => .inr e))).sub (fun _ e => e.elim)
        · exact h1.keep hR
      · rw [if_neg e6] at h ⊢
        have e12 : k = 12 := by simpa [finCalm, e, e6] using he
        rw [if_neg (fun e => hne (by omega))] at hR
        obtain ⟨b, h1, h2⟩ := h
        exact ⟨b, h1, h2.keep hR (fun e => e)⟩
theorem finCalm_at {wr : World} {s2 : St} (x : (finCalm wr s2).Sub) : Keep none_ wr ((finCalm wr s2).at_ x) := by
  obtain ⟨x, n, _, h⟩ := x
  exact h
theorem finCalm_some (wr : World) (s2 : St) : Nonempty (finCalm wr s2).Sub := ⟨⟨wr, 0, Nat.zero_le _, Keep.refl _ _⟩⟩
end Go.Proofs.YtnefbeplgfdkkaaGreatDoor
/-
  'a, b := x, y' inside a region that draws: two variables made and stored.
-/
namespace Go.Proofs.YtnefbeplgfdkkaaGreatDoor
open Go.RowKit

/-- A variable of n cells of type t. -/
def VarT (w : World) (b : Nat) (t : TypeId) (n : Nat) : Prop := ∃ cs : Array Value, cs.size = n ∧ Blk w b t cs
theorem VarT.keep {w w' : World} {S : Nat → Prop} {b : Nat} {t : TypeId} {n : Nat} (h : VarT w b t n) (k : Keep S w w') (hb : ¬ S b) : VarT w' b t n := by
  obtain ⟨cs, h1, h2⟩ := h
  exact ⟨cs, h1, h2.keep k hb⟩
/-- The facts of 'a, b := x, y': operations k1 and k2 make the variables, k3 stores into the first. -/
def pvR (n0 : Nat) (t : TypeId) (n k3 : Nat) (i : Nat) (a b : World) : Prop := if i = k3 then ∃ bk, n0 ≤ bk ∧ VarT a bk t n ∧ VarT b bk t n ∧ Keep (one bk) a b else Keep none_ a b
def pvCalm (wr : World) (t : TypeId) (n k1 k2 k3 : Nat) : Calm where
  R := pvR wr.heap.size t n k3
  G := fun _ => Keep none_ wr
  eff := [k1, k2, k3]
  T := fun k vs v w' => if k = k3 then ∃ b xs, vs.getD 0 undef = .pointer (some ⟨b, 0, none⟩) ∧ vs.getD 1 undef = .agg xs ∧ Blk w' b t xs else ∃ b, wr.heap.size ≤ b ∧ v = .pointer (some ⟨b, 0, none⟩) ∧ VarT w' b t n
  anc := fun k => if k = k3 then [k1] else []
  own := fun k v b => k ≠ k3 ∧ ownBlk v b
theorem pvCalm_good (wr : World) (t : TypeId) (n k1 k2 k3 : Nat) : (pvCalm wr t n k1 k2 k3).Good where
  mono := fun _ _ h => h
  size := fun i _ _ h => by
    simp only [pvCalm, pvR] at h
    split at h
    · obtain ⟨_, _, _, _, h⟩ := h; exact h.size
    · exact h.size
  stable := fun i k _ _ w1 w2 he hne h hR => by
    simp only [pvCalm, pvR] at h hR ⊢
    by_cases e : k = k3
    · rw [if_pos e] at h ⊢
      rw [if_neg (fun e' => hne (e'.trans e.symm))] at hR
      obtain ⟨b, xs, h1, h2, h3⟩ := h
      exact ⟨b, xs, h1, h2, h3.keep hR (fun e => e)⟩
    · rw [if_neg e] at h ⊢
      obtain ⟨b, h1, h2, h3⟩ := h
      refine ⟨b, h1, h2, ?_⟩
      split at hR
      · obtain ⟨bk, g1, g2, g3, g4⟩ := hR
        by_cases eb : b = bk
        · rw [eb]; exact g3
        · exact h3.keep g4 eb
      · exact h3.keep hR (fun e => e)
theorem pvCalm_at {wr : World} {t : TypeId} {n k1 k2 k3 : Nat} (x : (pvCalm wr t n k1 k2 k3).Sub) : Keep none_ wr ((pvCalm wr t n k1 k2 k3).at_ x) := by
  obtain ⟨x, n, _, h⟩ := x
  exact h
theorem pvCalm_some (wr : World) (t : TypeId) (n k1 k2 k3 : Nat) : Nonempty (pvCalm wr t n k1 k2 k3).Sub := ⟨⟨wr, 0, Nat.zero_le _, Keep.refl _ _⟩⟩
theorem zero_job (w : World) : (zeroValue 57).run Tryz.prog w = .ok (.agg #[.string ⟨#[]⟩, .slice none 0 0, .string ⟨#[]⟩, .int .i64 0, .int .i64 0, .bool false, .slice none 0 0]) w := by kernel_rfl
end Go.Proofs.YtnefbeplgfdkkaaGreatDoor
