/-
  cutroomfilm.Exprs.
-/
import Derived.Test.YtnefbeplgfdkkaaGreatDoorJb42
import Derived.Test.YtnefbeplgfdkkaaGreatDoorJb40
namespace Go.Proofs.YtnefbeplgfdkkaaGreatDoor
open Go.RowKit

theorem texpr_one (g m : Nat) (w : World) (ht : TapeAt w g m) (hm : m ≤ 4503599627200000) :
    Calls Tryz.prog 29 #[.pointer (some ⟨g, 0, none⟩), .int .i64 1] w fun e w' => ∃ v, e = .returned v ∧ GotX 1 w' w.heap.size v ∧ TapeAt w' g (m + 360) ∧ Keep (one g) w w' :=
  texpr_succ 0 g m 4503599627200000 1 w (by decide) (by decide) (by decide) (by decide) (fun m w ht hm => texpr_zero g m w ht (by omega)) ht hm
theorem texpr_two (g m : Nat) (w : World) (ht : TapeAt w g m) (hm : m ≤ 4503599627100000) :
    Calls Tryz.prog 29 #[.pointer (some ⟨g, 0, none⟩), .int .i64 2] w fun e w' => ∃ v, e = .returned v ∧ GotX 2 w' w.heap.size v ∧ TapeAt w' g (m + 14440) ∧ Keep (one g) w w' :=
  texpr_succ 1 g m 4503599627100000 2 w (by decide) (by decide) (by decide) (by decide) (fun m w ht hm => texpr_one g m w ht (by omega)) ht hm
theorem ex_inf : (Tryz.prog.info? 89).map (fun i => (i.zero, i.size, i.bytes)) = some (some (.agg #[.int .i64 0, .string ⟨#[]⟩, .int .i64 0, .int .i64 0, .int .i64 0, .int .i64 0, .string ⟨#[]⟩, .slice none 0 0]), 8, 96) := by kernel_rfl
theorem one_cells (c1 : Array Value) : (allCells [(0, .agg c1)]).toArray = c1 := by
  apply Array.toList_inj.1
  simp [allCells, Value.cells]
theorem ExO.form {w : World} {lo : Nat} {v : Value} {l : List Ex} (h : ExO w lo v l) : ∃ A c, v = .slice A l.length c := by
  obtain ⟨css, h1, h2, ho, h4⟩ := h
  obtain ⟨Ao, co, e, -⟩ := own_row (S := none_) ho (fun _ _ e => e)
  exact ⟨Ao, co, e⟩
theorem low_lowv {lo b : Nat} {v : Value} {w : World} {l : List Ex} (h : ExO w lo v l) {k : Nat} (hk : w.heap.size ≤ k) (hlo : lo ≤ w.heap.size) (hb : lowv lo v b) : low_ k b := by
  rcases hb with hb | hb
  · unfold low_; omega
  · have := (ExO.own h b hb).2
    unfold low_; omega

set_option maxRecDepth 100000 in
set_option maxHeartbeats 4000000 in
theorem exprs_any (A : Option Addr) (n c : Nat) (zs : List Int) (w : World) (hr : Row w none_ 1 A n c (zs.map (Value.int .i64))) (hz : I64s zs) :
    Calls Tryz.prog 7 #[.slice A n c] w fun e w' => ∃ v l, e = .returned v ∧ ExO w' w.heap.size v l ∧ (∀ x ∈ l, Sm 4 x) ∧ l.length ≤ 24 ∧ Keep none_ w w' := by
  have ht : TapeAt (w.alloc (.cells #[.slice A n c, .int .i64 0] 29)) w.heap.size 0 := ⟨A, n, c, 0, zs, Blk.new _ _ _, Nat.le_refl _, ((hr.fresh (S := ge w.heap.size) (fun k e => e) (by decide)).keep ((Keep.refl _ _).alloc _)), hz⟩
  have k0 : Keep none_ w (w.alloc (.cells #[.slice A n c, .int .i64 0] 29)) := (Keep.refl _ _).alloc _
  obtain ⟨W0, hW0⟩ : ∃ W0, W0 = w.alloc (.cells #[.slice A n c, .int .i64 0] 29) := ⟨_, rfl⟩
  rw [← hW0] at ht k0
  obtain ⟨g, hg⟩ : ∃ g, g = w.heap.size := ⟨_, rfl⟩
  rw [← hg] at ht
  have T0 := Lib.hid ht
  have K0 := Lib.hid k0
  have GW := Lib.hid hg
  obtain ⟨ie, hie, hiz, his, hib⟩ := info_parts ex_inf
  have I1 := Lib.hid (And.intro hie (And.intro hiz (And.intro his hib)))
  clear hr hz ht k0 hie hiz his hib
  go_enter Tryz.func7, Tryz.ntmps7
  go_upto_region 2 with (fail)
  rw [← hW0, ← hg]
  clear hW0 hg
  have tk_r : True := trivial
  go_upto_region 4 with (have _t := tk_r; go_at_call 8; refine (nextN g _ 24 W0 T0.out (by decide) (by decide) (by decide)).mono ?_; rintro e w1 ⟨r, rfl, hr, ht1, k1⟩; have T1 := Lib.hid ht1; have HR := Lib.hid hr; have K1 := Lib.hid (K0.out.own k1 (Nat.le_of_eq GW.out.symm)); clear ht1 hr k1 _t tk_r)
  go_loopw [4, 5] (fun u i wr => ∃ (q : Nat) (l : List Ex), i = .int .i64 q ∧ l.length + q ≤ 24 ∧ ExO wr (g + 1) u l ∧ (∀ x ∈ l, Sm 4 x) ∧ TapeAt wr g (1 + 15000 * l.length) ∧ Keep none_ w wr) (fun _ i _ => (intOf i).toNat)
  case atStart => exact ⟨r, [], rfl, by have := HR.out; simp; omega, ExO.nil _ _, fun _ h => (by cases h), T1.out.mono (by simp), K1.out⟩
  case round =>
    clear T0 K0 T1 K1 HR
    obtain ⟨q, l, rfl, hq, hE, hS, hT, hkr⟩ := hrel
    have HE := Lib.hid hE
    have HSm := Lib.hid hS
    have HT := Lib.hid hT
    have HK := Lib.hid hkr
    have LG := Lib.hid (show g + 1 ≤ wr.heap.size from hT.lt)
    have HL := Lib.hid (show l.length ≤ 24 by omega)
    obtain ⟨Ao, co, rfl⟩ := hE.form
    clear hE hS hT hkr
    by_cases hq0 : 0 < q
    · obtain ⟨q, rfl⟩ : ∃ q', q = q' + 1 := ⟨q - 1, by omega⟩
      have hq0' : (0 : Int) < ((q + 1 : Nat) : Int) := by omega
      by_cases hl0 : l.length = 0
      · have f1 : ¬ (0 : Int) < l.length := by omega
        have KR := Lib.hid (Keep.refl (one g) wr)
        have HJ := Lib.hid (rfl : l.length = l.length)
        clear hl0
        have tk_e : True := trivial
        have tk_b : True := trivial
        have tk_a : True := trivial
        go_wp2_with (first | (have _t := tk_e; go_at_call 29; refine (texpr_two g _ wr HT.out (by have := HL.out; omega)).mono ?_; rintro e w4 ⟨v4, rfl, ⟨c4, x4, rfl, s4, a4, m4⟩, ht4, k4⟩; have T4 := Lib.hid ht4; have K4 := Lib.hid k4; have S4 := Lib.hid s4; have A4 := Lib.hid a4; have M4 := Lib.hid m4; clear s4 a4 m4 ht4 k4 _t tk_e) | (have _t := tk_b; refine wpList_buildSlice_whole 25 89 1 _ rfl rfl Tryz.underlying25 I1.out.1 I1.out.2.1 (by rw [I1.out.2.2.1]; decide) (by rw [I1.out.2.2.1]; decide) [(0, .agg c4)] rfl (by simp [Contig, Value.cells, I1.out.2.2.1, S4.out]) (by simp [allCells, Value.cells, I1.out.2.2.1, S4.out]) ?_; intro w5 b5 k5; rw [one_cells] at b5; have B5 := Lib.hid b5; have K5 := Lib.hid k5; obtain ⟨css, h1, h2, ho, h4⟩ := HE.out.keep ((KR.out.trans K4.out).trans k5.weak) (fun b e => by cases e; exact Nat.lt_succ_self g); have H1 := Lib.hid h1; have H2 := Lib.hid h2; have HO := Lib.hid ho; have H4 := Lib.hid h4; have L5 := Lib.hid (show g + 1 ≤ w5.heap.size from Nat.le_trans LG.out (Nat.le_trans (KR.out.trans K4.out).size k5.size)); clear b5 k5 h1 h2 ho h4; go_frame; clear _t tk_b) | (have _t := tk_a; refine wpList_append_at (.tmp 48) (.tmp 51) 25 89 rfl rfl (g + 1) _ 8 96 Tryz.underlying25 ex_inf rfl (by decide) (.slice Ao l.length co) l.length css.flatten rfl (by first | exact HO.out | (have h := HO.out; rw [HJ.out] at h; exact h)) w4.heap.size c4 rfl B5.out S4.out (ex_one A4.out) (by have := HL.out; omega) L5.out ?_; intro A6 c6 w6 o6 k6 at6; have O6 := Lib.hid o6; have K6 := Lib.hid k6; have AT6 := Lib.hid at6; clear o6 k6 at6; go_frame; clear _t tk_a))
        have EX := Lib.hid (show ExAt 3 w5 (lowv (g + 1) (.slice Ao l.length co)) c4.toList x4 from (A4.out.keep (K5.out.mono (fun _ e => e.elim))).sub (fun b e => low_lowv (HE.out.keep KR.out (fun b e => by cases e; exact Nat.lt_succ_self g)) (Nat.le_refl _) (Nat.le_trans LG.out KR.out.size) e))
        have TT := Lib.hid (show TapeAt w6 g (1 + 15000 * (l.length + 1)) from ((T4.out.far K5.out (fun _ e => e.elim)).far K6.out (fun b e => own_ge HO.out b e)).mono (by omega))
        have KK := Lib.hid (show Keep none_ w w6 from ((HK.out.own K4.out (Nat.le_of_eq GW.out.symm)).trans K5.out).then K6.out (fun x e => .inr (by have := own_ge HO.out x e; have := GW.out; omega)))
        have GO := Lib.hid (show ExO w6 (g + 1) (.slice A6 (l.length + 1) c6) (l ++ [x4]) from ExO.snoc H1.out H2.out H4.out EX.out (by rw [Array.length_toList]; exact S4.out) (by first | rfl | exact HJ.out) K6.out O6.out AT6.out)
        have SM := Lib.hid (show ∀ x ∈ l ++ [x4], Sm 4 x from fun x hx => by
          rcases List.mem_append.1 hx with hx | hx
          · exact HSm.out x hx
          · rw [List.mem_singleton.1 hx]
            exact M4.out)
        have HQ := Lib.hid hq
        clear EX H1 H2 HO H4 A4 M4 T4 K5 K6 O6 AT6 L5 B5 S4
        go_roundw
        case rel => exact ⟨q, l ++ [x4], by go_num, by have := HQ.out; simp; omega, GO.out, SM.out, by simpa using TT.out, KK.out⟩
        case measure => simp [intOf]

      · obtain ⟨j, hj⟩ : ∃ j, l.length = j + 1 := ⟨l.length - 1, by omega⟩
        obtain ⟨css0, -, -, ho0, -⟩ := (id HE.out : ExO wr (g + 1) (.slice Ao l.length co) l)
        obtain ⟨b, cap, cur, eV, hb1, hbB, -⟩ := own_cases ho0 (by omega)
        simp only [Value.slice.injEq, true_and] at eV
        obtain ⟨rfl, rfl⟩ := eV
        obtain ⟨cs, hcl, hx, hget⟩ := PRow.get (id HE.out : ExO wr (g + 1) (.slice (some ⟨b, 0, none⟩) l.length co) l) j (by omega)
        have HXS := Lib.hid (HSm.out _ (List.getElem_mem (show j < l.length by omega)))
        generalize l[j] = x at hx HXS
        obtain ⟨va, rfl, -, -, Va, vn, vc, rfl, -⟩ := (id hx : ExAt 3 wr _ cs x)
        have HX := Lib.hid hx
        have RG := Lib.hid (show wr.rangeAt b (j * 8) [.int .i64 x.op, .string x.media, .int .i64 x.frame, .int .i64 x.num, .int .i64 x.den, .int .i64 x.param, .string x.text, .slice Va vn vc] from fun r u hu => hget r u (by have := (List.getElem?_eq_some_iff.1 hu).1; simpa using this) hu)
        have LB := Lib.hid (And.intro hb1 hbB.lt)
        have c0 : wr.cell? ⟨b, j * 8, none⟩ = some (.int .i64 x.op) := hget 0 _ (by decide) rfl
        have hj0 : (0 : Int) < l.length := by omega
        have HJ := Lib.hid hj
        clear ho0 hbB hb1 hget hcl hx hl0
        by_cases hop : x.op = 1
        · have fop : (x.op == 1) = true := by simpa using hop
          have HOP := Lib.hid hop
          clear hop
          have tk_y : True := trivial
          go_upto_if 34 with (have _t := tk_y; go_at_call 8; refine (nextN g _ 4 wr HT.out (by decide) (by decide) (by have := HL.out; omega)).mono ?_; rintro e w2 ⟨y, rfl, -, ht2, k2⟩; have T2 := Lib.hid ht2; have KR2 := Lib.hid k2; have KW2 := Lib.hid (HK.out.own k2 (Nat.le_of_eq GW.out.symm)); clear ht2 k2 _t tk_y)
          by_cases hy : 0 < y
          · have hy' : (0 : Int) < y := by omega
            clear hy
            have RG2 := Lib.hid (rangeAt_keep RG.out KR2.out (fun e => by have := LB.out.1; unfold one at e; omega))
            have tk_l : True := trivial
            have tk_s : True := trivial
            go_upto_region 9 with (first | (have _t := tk_l; refine wpList_load_part 89 (.tmp 38) rfl rfl b (j * 8) (by first | rfl | simp) #[.int .i64 x.op, .string x.media, .int .i64 x.frame, .int .i64 x.num, .int .i64 x.den, .int .i64 x.param, .string x.text, .slice Va vn vc] _ RG2.out Tryz.underlying89 rfl (by kernel_rfl) ?_; go_frame; clear _t tk_l) | (have _t := tk_s; refine wpList_store_blk rfl 89 (.tmp 7) (.tmp 39) rfl w2.heap.size 89 _ #[.int .i64 x.op, .string x.media, .int .i64 x.frame, .int .i64 x.num, .int .i64 x.den, .int .i64 x.param, .string x.text, .slice Va vn vc] rfl rfl (Blk.new _ _ _) rfl (by kernel_rfl) (by simp [Value.oneCell']) ?_; intro w3 b3 k3 s3; go_frame; clear _t tk_s))
            have k23 : Keep none_ w2 w3 := ((Keep.refl none_ w2).alloc _).own k3 (Nat.le_refl _)
            have B3 := Lib.hid b3
            have K3 := Lib.hid k23
            have LW := Lib.hid (show g + 1 ≤ w2.heap.size from T2.out.lt)
            clear b3 k3 s3 k23 RG RG2
            have y2 : w3.cell? ⟨w2.heap.size, 2, none⟩ = some (.int .i64 x.frame) := B3.out.cell 2
            have z2 : w3.frozen? ⟨w2.heap.size, 2, none⟩ = false := B3.out.frozen 2
            go_upto_region 10 with (fail)
            obtain ⟨fr, hfr⟩ : ∃ fr, fr = wrap64 (x.frame + 1) := ⟨_, rfl⟩
            rw [← hfr]
            obtain ⟨w4, hw4⟩ : ∃ w4, w4 = w3.setCell ⟨w2.heap.size, 2, none⟩ (.int .i64 fr) := ⟨_, rfl⟩
            rw [← hw4]
            have k34 : Keep (one w2.heap.size) w3 w4 := hw4 ▸ (Keep.refl (one w2.heap.size) w3).setCell (p := ⟨w2.heap.size, 2, none⟩) (.inl rfl) _
            have B4 := Lib.hid (show Blk w4 w2.heap.size 89 #[.int .i64 x.op, .string x.media, .int .i64 fr, .int .i64 x.num, .int .i64 x.den, .int .i64 x.param, .string x.text, .slice Va vn vc] from hw4 ▸ B3.out.set_ 2 _)
            have KR4 := Lib.hid ((KR2.out.trans K3.out.weak).own k34 KR2.out.size)
            have KW4 := Lib.hid ((KW2.out.trans K3.out).own k34 (KW2.out.size))
            have T4 := Lib.hid ((T2.out.far K3.out (fun _ e => e.elim)).far k34 (fun b e => by cases e; exact LW.out))
            obtain ⟨x4, hx4, hm4⟩ := ExAt.frame fr HX.out
            obtain ⟨c4, hc4⟩ : ∃ c4 : Array Value, c4 = #[.int .i64 x.op, .string x.media, .int .i64 fr, .int .i64 x.num, .int .i64 x.den, .int .i64 x.param, .string x.text, .slice Va vn vc] := ⟨_, rfl⟩
            rw [← hc4] at B4
            have S4 := Lib.hid (show c4.size = 8 by rw [hc4]; rfl)
            have A4 := Lib.hid (show ExAt 3 wr (lowv (g + 1) (.slice (some ⟨b, 0, none⟩) l.length co)) c4.toList x4 by rw [hc4]; exact hx4)
            have M4 := Lib.hid (show Sm 4 x4 by have h := HXS.out; unfold Sm at h ⊢; rw [hm4]; exact h)
            clear hfr hw4 hc4 k34 hx4 hm4 y2 z2 B3 HX HXS
            obtain ⟨Ao, hAo⟩ : ∃ Ao : Option Addr, Ao = some ⟨b, 0, none⟩ := ⟨_, rfl⟩
            rw [← hAo] at HE A4 ⊢
            rw [hj] at HE A4
            clear hAo c0
            have tk_m : True := trivial
            have tk_b : True := trivial
            have tk_a : True := trivial
            go_wp2_with (first | (have _t := tk_m; refine wpList_load_part 89 (.tmp 7) rfl rfl w2.heap.size 0 rfl c4 _ B4.out.rangeAt Tryz.underlying89 rfl (by rw [S4.out]; kernel_rfl) ?_; go_frame; clear _t tk_m) | (have _t := tk_b; refine wpList_buildSlice_whole 25 89 1 _ rfl rfl Tryz.underlying25 I1.out.1 I1.out.2.1 (by rw [I1.out.2.2.1]; decide) (by rw [I1.out.2.2.1]; decide) [(0, .agg c4)] rfl (by simp [Contig, Value.cells, I1.out.2.2.1, S4.out]) (by simp [allCells, Value.cells, I1.out.2.2.1, S4.out]) ?_; intro w5 b5 k5; rw [one_cells] at b5; have B5 := Lib.hid b5; have K5 := Lib.hid k5; obtain ⟨css, h1, h2, ho, h4⟩ := HE.out.keep ((KR4.out).trans k5.weak) (fun b e => by cases e; exact Nat.lt_succ_self g); have H1 := Lib.hid h1; have H2 := Lib.hid h2; have HO := Lib.hid ho; have H4 := Lib.hid h4; have L5 := Lib.hid (show g + 1 ≤ w5.heap.size from Nat.le_trans LG.out (Nat.le_trans (KR4.out).size k5.size)); clear b5 k5 h1 h2 ho h4; go_frame; clear _t tk_b) | (have _t := tk_a; refine wpList_append_at (.tmp 44) (.tmp 46) 25 89 rfl rfl (g + 1) _ 8 96 Tryz.underlying25 ex_inf rfl (by decide) (.slice Ao (j + 1) co) (j + 1) css.flatten rfl (by first | exact HO.out | (have h := HO.out; rw [HJ.out] at h; exact h)) w4.heap.size c4 rfl B5.out S4.out (ex_one A4.out) (by have := HL.out; omega) L5.out ?_; intro A6 c6 w6 o6 k6 at6; have O6 := Lib.hid o6; have K6 := Lib.hid k6; have AT6 := Lib.hid at6; clear o6 k6 at6; go_frame; clear _t tk_a))
            have EX := Lib.hid (show ExAt 3 w5 (lowv (g + 1) (.slice Ao (j + 1) co)) c4.toList x4 from (A4.out.keep (KR4.out.mono (fun b e => by cases e; exact .inl (Nat.lt_succ_self g)))).keep (K5.out.mono (fun _ e => e.elim)))
            have TT := Lib.hid (show TapeAt w6 g (1 + 15000 * (l.length + 1)) from ((T4.out.far K5.out (fun _ e => e.elim)).far K6.out (fun b e => own_ge HO.out b e)).mono (by omega))
            have KK := Lib.hid (show Keep none_ w w6 from (KW4.out.trans K5.out).then K6.out (fun x e => .inr (by have := own_ge HO.out x e; have := GW.out; omega)))
            have GO := Lib.hid (show ExO w6 (g + 1) (.slice A6 ((j + 1) + 1) c6) (l ++ [x4]) from ExO.snoc H1.out H2.out H4.out EX.out (by rw [Array.length_toList]; exact S4.out) (by first | rfl | exact HJ.out) K6.out O6.out AT6.out)
            have SM := Lib.hid (show ∀ x ∈ l ++ [x4], Sm 4 x from fun x hx => by
              rcases List.mem_append.1 hx with hx | hx
              · exact HSm.out x hx
              · rw [List.mem_singleton.1 hx]
                exact M4.out)
            have HQ := Lib.hid hq
            clear EX H1 H2 HO H4 A4 M4 T4 K5 K6 O6 AT6 L5 B5 S4
            go_roundw
            case rel => exact ⟨q, l ++ [x4], by go_num, by have := HQ.out; simp; omega, GO.out, SM.out, by simpa using TT.out, KK.out⟩
            case measure => simp [intOf]

          · have hy' : ¬ (0 : Int) < y := by omega
            clear hy HX HXS RG LB
            go_upto_region 11 with (fail)
            obtain ⟨Ao, hAo⟩ : ∃ Ao : Option Addr, Ao = some ⟨b, 0, none⟩ := ⟨_, rfl⟩
            rw [← hAo] at HE ⊢
            rw [hj] at HE
            clear hAo c0
            have tk_e : True := trivial
            have tk_b : True := trivial
            have tk_a : True := trivial
            go_wp2_with (first | (have _t := tk_e; go_at_call 29; refine (texpr_two g _ w2 T2.out (by have := HL.out; omega)).mono ?_; rintro e w4 ⟨v4, rfl, ⟨c4, x4, rfl, s4, a4, m4⟩, ht4, k4⟩; have T4 := Lib.hid ht4; have K4 := Lib.hid k4; have S4 := Lib.hid s4; have A4 := Lib.hid a4; have M4 := Lib.hid m4; clear s4 a4 m4 ht4 k4 _t tk_e) | (have _t := tk_b; refine wpList_buildSlice_whole 25 89 1 _ rfl rfl Tryz.underlying25 I1.out.1 I1.out.2.1 (by rw [I1.out.2.2.1]; decide) (by rw [I1.out.2.2.1]; decide) [(0, .agg c4)] rfl (by simp [Contig, Value.cells, I1.out.2.2.1, S4.out]) (by simp [allCells, Value.cells, I1.out.2.2.1, S4.out]) ?_; intro w5 b5 k5; rw [one_cells] at b5; have B5 := Lib.hid b5; have K5 := Lib.hid k5; obtain ⟨css, h1, h2, ho, h4⟩ := HE.out.keep ((KR2.out.trans K4.out).trans k5.weak) (fun b e => by cases e; exact Nat.lt_succ_self g); have H1 := Lib.hid h1; have H2 := Lib.hid h2; have HO := Lib.hid ho; have H4 := Lib.hid h4; have L5 := Lib.hid (show g + 1 ≤ w5.heap.size from Nat.le_trans LG.out (Nat.le_trans (KR2.out.trans K4.out).size k5.size)); clear b5 k5 h1 h2 ho h4; go_frame; clear _t tk_b) | (have _t := tk_a; refine wpList_append_at (.tmp 48) (.tmp 51) 25 89 rfl rfl (g + 1) _ 8 96 Tryz.underlying25 ex_inf rfl (by decide) (.slice Ao (j + 1) co) (j + 1) css.flatten rfl (by first | exact HO.out | (have h := HO.out; rw [HJ.out] at h; exact h)) w4.heap.size c4 rfl B5.out S4.out (ex_one A4.out) (by have := HL.out; omega) L5.out ?_; intro A6 c6 w6 o6 k6 at6; have O6 := Lib.hid o6; have K6 := Lib.hid k6; have AT6 := Lib.hid at6; clear o6 k6 at6; go_frame; clear _t tk_a))
            have EX := Lib.hid (show ExAt 3 w5 (lowv (g + 1) (.slice Ao (j + 1) co)) c4.toList x4 from (A4.out.keep (K5.out.mono (fun _ e => e.elim))).sub (fun b e => low_lowv (HE.out.keep KR2.out (fun b e => by cases e; exact Nat.lt_succ_self g)) (Nat.le_refl _) (Nat.le_trans LG.out KR2.out.size) e))
            have TT := Lib.hid (show TapeAt w6 g (1 + 15000 * (l.length + 1)) from ((T4.out.far K5.out (fun _ e => e.elim)).far K6.out (fun b e => own_ge HO.out b e)).mono (by omega))
            have KK := Lib.hid (show Keep none_ w w6 from ((KW2.out.own K4.out (Nat.le_of_eq GW.out.symm)).trans K5.out).then K6.out (fun x e => .inr (by have := own_ge HO.out x e; have := GW.out; omega)))
            have GO := Lib.hid (show ExO w6 (g + 1) (.slice A6 ((j + 1) + 1) c6) (l ++ [x4]) from ExO.snoc H1.out H2.out H4.out EX.out (by rw [Array.length_toList]; exact S4.out) (by first | rfl | exact HJ.out) K6.out O6.out AT6.out)
            have SM := Lib.hid (show ∀ x ∈ l ++ [x4], Sm 4 x from fun x hx => by
              rcases List.mem_append.1 hx with hx | hx
              · exact HSm.out x hx
              · rw [List.mem_singleton.1 hx]
                exact M4.out)
            have HQ := Lib.hid hq
            clear EX H1 H2 HO H4 A4 M4 T4 K5 K6 O6 AT6 L5 B5 S4
            go_roundw
            case rel => exact ⟨q, l ++ [x4], by go_num, by have := HQ.out; simp; omega, GO.out, SM.out, by simpa using TT.out, KK.out⟩
            case measure => simp [intOf]

        · have fop : (x.op == 1) = false := by simpa using hop
          have KR := Lib.hid (Keep.refl (one g) wr)
          clear hop HX HXS RG LB
          go_upto_region 11 with (fail)
          obtain ⟨Ao, hAo⟩ : ∃ Ao : Option Addr, Ao = some ⟨b, 0, none⟩ := ⟨_, rfl⟩
          rw [← hAo] at HE ⊢
          rw [hj] at HE
          clear hAo c0
          have tk_e : True := trivial
          have tk_b : True := trivial
          have tk_a : True := trivial
          go_wp2_with (first | (have _t := tk_e; go_at_call 29; refine (texpr_two g _ wr HT.out (by have := HL.out; omega)).mono ?_; rintro e w4 ⟨v4, rfl, ⟨c4, x4, rfl, s4, a4, m4⟩, ht4, k4⟩; have T4 := Lib.hid ht4; have K4 := Lib.hid k4; have S4 := Lib.hid s4; have A4 := Lib.hid a4; have M4 := Lib.hid m4; clear s4 a4 m4 ht4 k4 _t tk_e) | (have _t := tk_b; refine wpList_buildSlice_whole 25 89 1 _ rfl rfl Tryz.underlying25 I1.out.1 I1.out.2.1 (by rw [I1.out.2.2.1]; decide) (by rw [I1.out.2.2.1]; decide) [(0, .agg c4)] rfl (by simp [Contig, Value.cells, I1.out.2.2.1, S4.out]) (by simp [allCells, Value.cells, I1.out.2.2.1, S4.out]) ?_; intro w5 b5 k5; rw [one_cells] at b5; have B5 := Lib.hid b5; have K5 := Lib.hid k5; obtain ⟨css, h1, h2, ho, h4⟩ := HE.out.keep ((KR.out.trans K4.out).trans k5.weak) (fun b e => by cases e; exact Nat.lt_succ_self g); have H1 := Lib.hid h1; have H2 := Lib.hid h2; have HO := Lib.hid ho; have H4 := Lib.hid h4; have L5 := Lib.hid (show g + 1 ≤ w5.heap.size from Nat.le_trans LG.out (Nat.le_trans (KR.out.trans K4.out).size k5.size)); clear b5 k5 h1 h2 ho h4; go_frame; clear _t tk_b) | (have _t := tk_a; refine wpList_append_at (.tmp 48) (.tmp 51) 25 89 rfl rfl (g + 1) _ 8 96 Tryz.underlying25 ex_inf rfl (by decide) (.slice Ao (j + 1) co) (j + 1) css.flatten rfl (by first | exact HO.out | (have h := HO.out; rw [HJ.out] at h; exact h)) w4.heap.size c4 rfl B5.out S4.out (ex_one A4.out) (by have := HL.out; omega) L5.out ?_; intro A6 c6 w6 o6 k6 at6; have O6 := Lib.hid o6; have K6 := Lib.hid k6; have AT6 := Lib.hid at6; clear o6 k6 at6; go_frame; clear _t tk_a))
          have EX := Lib.hid (show ExAt 3 w5 (lowv (g + 1) (.slice Ao (j + 1) co)) c4.toList x4 from (A4.out.keep (K5.out.mono (fun _ e => e.elim))).sub (fun b e => low_lowv (HE.out.keep KR.out (fun b e => by cases e; exact Nat.lt_succ_self g)) (Nat.le_refl _) (Nat.le_trans LG.out KR.out.size) e))
          have TT := Lib.hid (show TapeAt w6 g (1 + 15000 * (l.length + 1)) from ((T4.out.far K5.out (fun _ e => e.elim)).far K6.out (fun b e => own_ge HO.out b e)).mono (by omega))
          have KK := Lib.hid (show Keep none_ w w6 from ((HK.out.own K4.out (Nat.le_of_eq GW.out.symm)).trans K5.out).then K6.out (fun x e => .inr (by have := own_ge HO.out x e; have := GW.out; omega)))
          have GO := Lib.hid (show ExO w6 (g + 1) (.slice A6 ((j + 1) + 1) c6) (l ++ [x4]) from ExO.snoc H1.out H2.out H4.out EX.out (by rw [Array.length_toList]; exact S4.out) (by first | rfl | exact HJ.out) K6.out O6.out AT6.out)
          have SM := Lib.hid (show ∀ x ∈ l ++ [x4], Sm 4 x from fun x hx => by
            rcases List.mem_append.1 hx with hx | hx
            · exact HSm.out x hx
            · rw [List.mem_singleton.1 hx]
              exact M4.out)
          have HQ := Lib.hid hq
          clear EX H1 H2 HO H4 A4 M4 T4 K5 K6 O6 AT6 L5 B5 S4
          go_roundw
          case rel => exact ⟨q, l ++ [x4], by go_num, by have := HQ.out; simp; omega, GO.out, SM.out, by simpa using TT.out, KK.out⟩
          case measure => simp [intOf]

    · obtain rfl : q = 0 := by omega
      have HE2 := Lib.hid (show ExO wr w.heap.size (.slice Ao l.length co) l from HE.out.base (by have := GW.out; omega))
      go_wp2
      go_ret
      exact ⟨_, l, rfl, HE2.out, HSm.out, HL.out, HK.out⟩
end Go.Proofs.YtnefbeplgfdkkaaGreatDoor
