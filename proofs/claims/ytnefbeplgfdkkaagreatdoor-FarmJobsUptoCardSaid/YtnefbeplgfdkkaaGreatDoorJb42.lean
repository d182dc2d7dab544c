/-
  (*cutroomfilm.Tape).Expr: a depth out of the one below.
-/
import Derived.Test.YtnefbeplgfdkkaaGreatDoorJb41
namespace Go.Proofs.YtnefbeplgfdkkaaGreatDoor
open Go.RowKit

theorem ex_info : (Tryz.prog.info? 89).map (fun i => (i.zero, i.size, i.bytes)) = some (some (.agg #[.int .i64 0, .string ⟨#[]⟩, .int .i64 0, .int .i64 0, .int .i64 0, .int .i64 0, .string ⟨#[]⟩, .slice none 0 0]), 8, 96) := by kernel_rfl
theorem int64_info : (Tryz.prog.info? 2).map (fun i => (i.zero, i.size, i.bytes)) = some (some (.int .i64 0), 1, 8) := by kernel_rfl
theorem next3 (g m b : Nat) (w : World) (ht : TapeAt w g m) (hm : m ≤ 4503599627370496) (hb : Blk w b 2 #[.int .i64 4, .int .i64 5, .int .i64 7]) (hbg : b ≠ g) : Calls Tryz.prog 8 #[.pointer (some ⟨g, 0, none⟩), .int .i64 3] w fun e w' => ∃ (q : Nat) (K : Int), e = .returned (.int .i64 q) ∧ q < 3 ∧ (q : Int) < 3 ∧ w'.cell? ⟨b, q, none⟩ = some (.int .i64 K) ∧ TapeAt w' g (m + 1) ∧ Keep (one g) w w' := by
  refine (nextN g m 3 w ht (by decide) (by decide) hm).mono ?_
  rintro e w' ⟨q, rfl, hq, ht', k⟩
  have hK : ∃ K, (#[.int .i64 4, .int .i64 5, .int .i64 7] : Array Value)[q]? = some (.int .i64 K) := by
    have : q = 0 ∨ q = 1 ∨ q = 2 := by omega
    rcases this with rfl | rfl | rfl <;> exact ⟨_, rfl⟩
  obtain ⟨K, hK⟩ := hK
  refine ⟨q, K, rfl, hq, by omega, ?_, ht', k⟩
  rw [(hb.keep k (fun e => hbg e)).cell]
  exact hK
theorem two_cells (c1 c2 : Array Value) : (allCells [(0, .agg c1), (1, .agg c2)]).toArray = c1 ++ c2 := by
  apply Array.toList_inj.1
  simp [allCells, Value.cells]
theorem two_mem {α : Type} {p : α → Prop} {x y : α} (h1 : p x) (h2 : p y) : ∀ z ∈ [x, y], p z := fun z hz => by
  rcases List.mem_cons.1 hz with rfl | hz
  · exact h1
  · rcases List.mem_cons.1 hz with rfl | hz
    · exact h2
    · cases hz
set_option maxRecDepth 100000 in
set_option maxHeartbeats 4000000 in
theorem texpr_succ (dep g m B : Nat) (n : Int) (w : World) (hB : B + 100000 ≤ 4503599627370000) (hn1 : 1 ≤ n) (hn2 : n ≤ 2) (hd : draws dep ≤ 400) (ih : ∀ (m : Nat) (w : World), TapeAt w g m → m ≤ B + 100000 → Calls Tryz.prog 29 #[.pointer (some ⟨g, 0, none⟩), .int .i64 (n - 1)] w fun e w' => ∃ v, e = .returned v ∧ GotX dep w' w.heap.size v ∧ TapeAt w' g (m + draws dep) ∧ Keep (one g) w w') (ht : TapeAt w g m) (hm : m ≤ B) :
    Calls Tryz.prog 29 #[.pointer (some ⟨g, 0, none⟩), .int .i64 n] w fun e w' => ∃ v, e = .returned v ∧ GotX (dep + 1) w' w.heap.size v ∧ TapeAt w' g (m + draws (dep + 1)) ∧ Keep (one g) w w' := by
  obtain ⟨W0, hW0⟩ : ∃ W0, W0 = w.alloc (.cells #[.int .i64 0, .string ⟨#[]⟩, .int .i64 0, .int .i64 0, .int .i64 0, .int .i64 0, .string ⟨#[]⟩, .slice none 0 0] 89) := ⟨_, rfl⟩
  have k0 : Keep none_ w W0 := hW0 ▸ (Keep.refl _ _).alloc _
  have B0 := Lib.hid (show Blk W0 w.heap.size 89 #[.int .i64 0, .string ⟨#[]⟩, .int .i64 0, .int .i64 0, .int .i64 0, .int .i64 0, .string ⟨#[]⟩, .slice none 0 0] from hW0 ▸ Blk.new _ _ _)
  have T0 := Lib.hid (ht.far k0 (fun _ e => e.elim))
  have K0 := Lib.hid (show Keep (one g) w W0 from k0.weak)
  have GN := Lib.hid (show w.heap.size ≠ g from fun e => by have := ht.lt; omega)
  have GL := Lib.hid ht.lt
  have MM := Lib.hid (And.intro hm hB)
  have IH := Lib.hid ih
  have DD := Lib.hid hd
  have ze := zero_ex
  obtain ⟨ie, hie, hiz, his, hib⟩ := info_parts ex_info
  have I1 := Lib.hid (And.intro hie (And.intro hiz (And.intro his hib)))
  obtain ⟨je, hje, hjz, hjs, hjb⟩ := info_parts int64_info
  have J1 := Lib.hid (And.intro hje (And.intro hjz (And.intro hjs hjb)))
  have hn0 : ¬ n < 1 := by omega
  show Calls Tryz.prog 29 #[.pointer (some ⟨g, 0, none⟩), .int .i64 n] w fun e w' => ∃ v, e = .returned v ∧ GotX (dep + 1) w' w.heap.size v ∧ TapeAt w' g (m + 40 * (draws dep + 1)) ∧ Keep (one g) w w'
  clear ht k0 hm hB ih hd hie hiz his hib hje hjz hjs hjb
  go_enter Tryz.func29, Tryz.ntmps29
  go_upto_region 1 with (fail)
  rw [← hW0]
  clear hW0
  have tk_r : True := trivial
  go_upto_region 2 with (have _t := tk_r; go_at_call 8; refine (nextN g _ 8 W0 T0.out (by decide) (by decide) (by have := MM.out; omega)).mono ?_; rintro e w1 ⟨r, rfl, hr, ht_r, k_r⟩; have Tr := Lib.hid ht_r; have Br := Lib.hid (B0.out.keep k_r (fun e => GN.out (by unfold one at e; first | exact e | exact e.symm))); have Kr := Lib.hid (K0.out.trans k_r); have Hr := Lib.hid hr; clear hr; clear ht_r k_r _t tk_r)
  have hr := Hr.out
  have hcs : r = 0 ∨ (1 ≤ r ∧ r ≤ 3) ∨ r = 4 ∨ r = 5 ∨ r = 6 ∨ r = 7 := by omega
  rcases hcs with h | h | h | h | h | h
  · have f0 : ((r : Int) == 0) = true := by rw [h]; rfl
    clear h hr
    have t8 : True := trivial
    go_wp2_with (have _t := t8; refine wpList_store_blk rfl 89 (.tmp 4) (.tmp 22) rfl w.heap.size 89 _ #[.int .i64 0, .string ⟨#[]⟩, .int .i64 0, .int .i64 0, .int .i64 0, .int .i64 0, .string ⟨#[]⟩, .slice none 0 0] rfl rfl Br.out rfl (by kernel_rfl) (by simp [Value.oneCell']) ?_; intro wz bz kz sz; have BZ := Lib.hid bz; have KZ := Lib.hid kz; clear bz kz sz; go_frame; clear _t t8)
    have GX := Lib.hid (show GotX (dep + 1) wz w.heap.size (.agg #[.int .i64 0, .string ⟨#[]⟩, .int .i64 0, .int .i64 0, .int .i64 0, .int .i64 0, .string ⟨#[]⟩, .slice none 0 0]) from GotX.leaf _ _ _ 0 0 0 0 0 ⟨#[]⟩ ⟨#[]⟩ (by decide) (by decide))
    have TT := Lib.hid (show TapeAt wz g (m + 40 * (draws dep + 1)) from (Tr.out.far (S := one w.heap.size) KZ.out (fun b e => by cases e; exact GL.out)).mono (by omega))
    have KK := Lib.hid (show Keep (one g) w wz from Kr.out.own KZ.out (Nat.le_refl _))
    try simp only [Exit.inBlock, Exit.then]
    refine bodyPost_ret (v := .agg #[.int .i64 0, .string ⟨#[]⟩, .int .i64 0, .int .i64 0, .int .i64 0, .int .i64 0, .string ⟨#[]⟩, .slice none 0 0]) (results_cell Tryz.results29 rfl (run_loadVar_blk BZ.out Tryz.underlying89 rfl (by kernel_rfl))) rfl ?_
    exact ⟨_, rfl, GX.out, TT.out, KK.out⟩

  · have f0 : ((r : Int) == 0) = false := beq_eq_false_iff_ne.2 (by omega)
    have f4 : ((r : Int) == 4) = false := beq_eq_false_iff_ne.2 (by omega)
    have f5 : ((r : Int) == 5) = false := beq_eq_false_iff_ne.2 (by omega)
    have f6 : ((r : Int) == 6) = false := beq_eq_false_iff_ne.2 (by omega)
    have f7 : ((r : Int) == 7) = false := beq_eq_false_iff_ne.2 (by omega)
    clear h hr
    have t8 : True := trivial
    have tk_q : True := trivial
    have tk_n : True := trivial
    have tk_p : True := trivial
    go_wp2_with (first | (have _t := tk_q; go_at_call 8; refine (nextN g _ 8 wp Tp.out (by decide) (by decide) (by have := MM.out; omega)).mono ?_; rintro e wq ⟨q, rfl, hq, ht_q, k_q⟩; have Tq := Lib.hid ht_q; have Bq := Lib.hid (Bp.out.keep k_q (fun e => GN.out (by unfold one at e; first | exact e | exact e.symm))); have Kq := Lib.hid (Kp.out.trans k_q); have Hq := Lib.hid hq; clear hq; clear ht_q k_q _t tk_q) | (have _t := tk_n; go_at_call 58; refine (name_any p Hp.out wp).mono ?_; rintro e wn ⟨rfl, hwn⟩; subst wn; clear _t tk_n) | (have _t := tk_p; go_at_call 8; refine (nextN g _ 3 w1 Tr.out (by decide) (by decide) (by have := MM.out; omega)).mono ?_; rintro e wp ⟨p, rfl, hp, ht_p, k_p⟩; have Tp := Lib.hid ht_p; have Bp := Lib.hid (Br.out.keep k_p (fun e => GN.out (by unfold one at e; first | exact e | exact e.symm))); have Kp := Lib.hid (Kr.out.trans k_p); have Hp := Lib.hid hp; clear hp; clear ht_p k_p _t tk_p) | (have _t := t8; refine wpList_store_blk rfl 89 (.tmp 4) (.tmp 96) rfl w.heap.size 89 _ #[.int .i64 1, .string (mName p), .int .i64 q, .int .i64 0, .int .i64 0, .int .i64 0, .string ⟨#[]⟩, .slice none 0 0] rfl rfl Bq.out rfl (by kernel_rfl) (by simp [Value.oneCell']) ?_; intro wz bz kz sz; have BZ := Lib.hid bz; have KZ := Lib.hid kz; clear bz kz sz; go_frame; clear _t t8))
    have GX := Lib.hid (show GotX (dep + 1) wz w.heap.size (.agg #[.int .i64 1, .string (mName p), .int .i64 q, .int .i64 0, .int .i64 0, .int .i64 0, .string ⟨#[]⟩, .slice none 0 0]) from GotX.leaf _ _ _ 1 q 0 0 0 (mName p) ⟨#[]⟩ (mName_size p) (by decide))
    have TT := Lib.hid (show TapeAt wz g (m + 40 * (draws dep + 1)) from (Tq.out.far (S := one w.heap.size) KZ.out (fun b e => by cases e; exact GL.out)).mono (by omega))
    have KK := Lib.hid (show Keep (one g) w wz from Kq.out.own KZ.out (Nat.le_refl _))
    try simp only [Exit.inBlock, Exit.then]
    refine bodyPost_ret (v := .agg #[.int .i64 1, .string (mName p), .int .i64 q, .int .i64 0, .int .i64 0, .int .i64 0, .string ⟨#[]⟩, .slice none 0 0]) (results_cell Tryz.results29 rfl (run_loadVar_blk BZ.out Tryz.underlying89 rfl (by kernel_rfl))) rfl ?_
    exact ⟨_, rfl, GX.out, TT.out, KK.out⟩

  · have f0 : ((r : Int) == 0) = false := beq_eq_false_iff_ne.2 (by omega)
    have f4 : ((r : Int) == 4) = true := by rw [h]; rfl
    have f5 : ((r : Int) == 5) = false := beq_eq_false_iff_ne.2 (by omega)
    clear h hr
    go_upto_region 9 with (fail)
    have tk_s : True := trivial
    have tk_l : True := trivial
    have tk_q : True := trivial
    have t6 : True := trivial
    go_upto_region 10 with (first | (have _t := tk_s; go_at_call 8; refine (nextN g _ 3 w1 Tr.out (by decide) (by decide) (by have := MM.out; omega)).mono ?_; rintro e w2 ⟨s, rfl, hs, ht_s, k_s⟩; have Ts := Lib.hid ht_s; have Bs := Lib.hid (Br.out.keep k_s (fun e => GN.out (by unfold one at e; first | exact e | exact e.symm))); have Ks := Lib.hid (Kr.out.trans k_s); clear ht_s k_s _t tk_s) | (have _t := tk_l; refine wpList_buildSlice_whole 126 2 3 _ rfl rfl Tryz.underlying126 J1.out.1 J1.out.2.1 (by rw [J1.out.2.2.1]; decide) (by rw [J1.out.2.2.1]; decide) [(0, .int .i64 4), (1, .int .i64 5), (2, .int .i64 7)] rfl (by simp [Contig, Value.cells, J1.out.2.2.1]) (by simp [allCells, Value.cells, J1.out.2.2.1]) ?_; intro w3 b3 k3; have HSS := Lib.hid hs; clear hs; have BL := Lib.hid (show Blk w3 w2.heap.size 2 #[.int .i64 4, .int .i64 5, .int .i64 7] from b3); have T3 := Lib.hid (Ts.out.far k3 (fun _ e => e.elim)); have B3 := Lib.hid (Bs.out.keep k3 (fun e => e)); have K3 := Lib.hid (Ks.out.trans k3.weak); have NQ := Lib.hid (next3 g (m + 1 + 1) w2.heap.size w3 T3.out (by have := MM.out; omega) BL.out (fun e => by have := Ts.out.lt; omega)); clear b3 k3; go_frame; clear _t tk_l) | (have _t := tk_q; go_at_call 8; refine NQ.out.mono ?_; rintro e w4 ⟨q, K, rfl, hq, hq', f2, ht4, k4⟩; have T4 := Lib.hid ht4; have B4 := Lib.hid (B3.out.keep k4 (fun e => GN.out (by unfold one at e; first | exact e | exact e.symm))); have K4 := Lib.hid (K3.out.trans k4); clear ht4 k4 _t tk_q) | (have _t := t6; refine wpList_store_blk rfl 89 (.tmp 6) (.tmp 34) rfl w4.heap.size 89 _ #[.int .i64 2, .string ⟨#[]⟩, .int .i64 0, .int .i64 (1 + s), .int .i64 K, .int .i64 0, .string ⟨#[]⟩, .slice none 0 0] rfl rfl (Blk.new _ _ _) rfl (by kernel_rfl) (by simp [Value.oneCell']) ?_; intro w5 b5 k5 s5; go_frame; clear _t t6))
    clear f2 hq hq'
    have k45 : Keep none_ w4 w5 := ((Keep.refl none_ w4).alloc _).own k5 (Nat.le_refl _)
    have B6 := Lib.hid b5
    have T5 := Lib.hid (T4.out.far k45 (fun _ e => e.elim))
    have BR5 := Lib.hid (B4.out.keep k45 (fun e => e))
    have K5 := Lib.hid (K4.out.trans k45.weak)
    have G6 := Lib.hid (show g < w4.heap.size from T4.out.lt)
    have L6 := Lib.hid (show w.heap.size < w4.heap.size from B4.out.lt)
    clear k45 k5 s5 b5 BL NQ
    obtain ⟨b6, hb6⟩ : ∃ b6, b6 = w4.heap.size := ⟨_, rfl⟩
    rw [← hb6] at B6 G6 L6 ⊢
    clear hb6
    go_upto_region 12 with (fail)
    obtain ⟨wA, hwA⟩ : ∃ wA, wA = w5 := ⟨_, rfl⟩
    rw [← hwA]
    have BA := Lib.hid (show Blk wA b6 89 #[.int .i64 2, .string ⟨#[]⟩, .int .i64 0, .int .i64 (1 + s), .int .i64 K, .int .i64 0, .string ⟨#[]⟩, .slice none 0 0] from hwA ▸ B6.out)
    have TA := Lib.hid (show TapeAt wA g (m + 4) from hwA ▸ T5.out.mono (by omega))
    have KA := Lib.hid (show Keep (one g) w wA from hwA ▸ K5.out)
    have BRA := Lib.hid (show Blk wA w.heap.size 89 #[.int .i64 0, .string ⟨#[]⟩, .int .i64 0, .int .i64 0, .int .i64 0, .int .i64 0, .string ⟨#[]⟩, .slice none 0 0] from hwA ▸ BR5.out)
    clear hwA
    have c3 : wA.cell? ⟨b6, 3, none⟩ = some (.int .i64 (1 + s)) := BA.out.cell 3
    have z3 : wA.frozen? ⟨b6, 3, none⟩ = false := BA.out.frozen 3
    go_upto_if 43 with (fail)
    go_cut [] (fun wx => ∃ nm : Int, Blk wx b6 89 #[.int .i64 2, .string ⟨#[]⟩, .int .i64 0, .int .i64 nm, .int .i64 K, .int .i64 0, .string ⟨#[]⟩, .slice none 0 0] ∧ TapeAt wx g (m + 4) ∧ Keep (one g) w wx ∧ Blk wx w.heap.size 89 #[.int .i64 0, .string ⟨#[]⟩, .int .i64 0, .int .i64 0, .int .i64 0, .int .i64 0, .string ⟨#[]⟩, .slice none 0 0])
    case first =>
      by_cases h2 : s = 1
      · have h2' : ((1 : Int) + s == 2) = true := by rw [h2]; rfl
        clear h2
        go_wp2
        go_meet
        have kS := (Keep.refl (one b6) wA).setCell (p := ⟨b6, 3, none⟩) (.inl rfl) (.int .i64 3)
        exact ⟨3, BA.out.set_ 3 _, TA.out.far kS (fun b e => by cases e; exact G6.out), KA.out.own kS (Nat.le_of_lt L6.out), BRA.out.keep kS (fun e => by have := L6.out; unfold one at e; omega)⟩
      · have h2' : ((1 : Int) + s == 2) = false := beq_eq_false_iff_ne.2 (by omega)
        clear h2
        go_wp2
        go_meet
        exact ⟨1 + s, BA.out, TA.out, KA.out, BRA.out⟩
    case rest =>
      obtain ⟨nm, hbC, htC, hkC, hrC⟩ := hcut
      have BC := Lib.hid hbC
      have TC := Lib.hid htC
      have KC := Lib.hid hkC
      have BRC := Lib.hid hrC
      have LC := Lib.hid hbC.lt
      clear hbC htC hkC hrC BA TA KA BRA
      obtain ⟨wo, hwo⟩ : ∃ wo, wo = wc := ⟨_, rfl⟩
      subst hwo
      have tk_e1 : True := trivial
      have t7 : True := trivial
      have tl1 : True := trivial
      have tl2 : True := trivial
      have tk_b : True := trivial
      go_upto_region 16 with (first | (have _t := tk_e1; go_at_call 29; refine (IH.out _ wo TC.out (by have := MM.out; have := DD.out; omega)).mono ?_; rintro e wd ⟨v1, rfl, ⟨c1, x1, rfl, s1, a1, m1⟩, ht_e, k_e⟩; have Te1 := Lib.hid ht_e; have Be1 := Lib.hid (BRC.out.keep k_e (fun e => GN.out (by unfold one at e; first | exact e | exact e.symm))); have Ke1 := Lib.hid (KC.out.trans k_e); have KE1 := Lib.hid k_e; have S1 := Lib.hid s1; have A1 := Lib.hid a1; have M1 := Lib.hid m1; clear ht_e k_e s1 a1 m1 _t tk_e1) | (have _t := t7; refine wpList_store_blk rfl 89 (.tmp 7) (.tmp 48) rfl wd.heap.size 89 _ c1 rfl rfl (Blk.new _ _ _) (by rw [S1.out]; rfl) (by rw [S1.out]; kernel_rfl) (by rw [← Array.all_toList]; exact List.all_eq_true.2 (ex_one A1.out)) ?_; intro we be ke se; have BE7 := Lib.hid be; have KDE := Lib.hid (((Keep.refl none_ wd).alloc _).own ke (Nat.le_refl _)); clear be ke se; go_frame; clear _t t7) | (have _t := tl1; refine wpList_load_part 89 (.tmp 7) rfl rfl wd.heap.size 0 rfl c1 _ BE7.out.rangeAt Tryz.underlying89 rfl (by rw [S1.out]; kernel_rfl) ?_; go_frame; clear _t tl1) | (have _t := tl2; refine wpList_load_part 89 (.tmp 7) rfl rfl wd.heap.size 0 rfl c1 _ BE7.out.rangeAt Tryz.underlying89 rfl (by rw [S1.out]; kernel_rfl) ?_; go_frame; clear _t tl2) | (have _t := tk_b; refine wpList_buildSlice_whole 25 89 2 _ rfl rfl Tryz.underlying25 I1.out.1 I1.out.2.1 (by rw [I1.out.2.2.1]; decide) (by rw [I1.out.2.2.1]; decide) [(0, .agg c1), (1, .agg c1)] rfl (by simp only [Contig, Value.cells, I1.out.2.2.1, S1.out]; exact ⟨trivial, trivial, trivial⟩) (by simp [allCells, Value.cells, I1.out.2.2.1, S1.out]) ?_; intro wf bf kf; rw [two_cells] at bf; have BF := Lib.hid bf; have KF := Lib.hid kf; have KDF := Lib.hid (KDE.out.trans kf); have B6F := Lib.hid ((BC.out.keep KE1.out (fun e => by have := G6.out; unfold one at e; omega)).keep (KDE.out.trans kf) (fun e => e)); have c7 : wf.cell? ⟨b6, 7, none⟩ = some (.slice none 0 0) := B6F.out.cell 7; have z7 : wf.frozen? ⟨b6, 7, none⟩ = false := B6F.out.frozen 7; clear bf kf; go_frame; clear _t tk_b))
      clear c7 z7
      obtain ⟨wg, hwg⟩ : ∃ wg, wg = wf.setCell ⟨b6, 7, none⟩ (.slice (some ⟨we.heap.size, 0, none⟩) 2 2) := ⟨_, rfl⟩
      rw [← hwg]
      have kg : Keep (one b6) wf wg := hwg ▸ (Keep.refl (one b6) wf).setCell (p := ⟨b6, 7, none⟩) (.inl rfl) _
      have DE := Lib.hid KDE.out.size
      have CD := Lib.hid KE1.out.size
      have LX := Lib.hid (show b6 < we.heap.size by have := LC.out; have := DE.out; have := CD.out; omega)
      have BG := Lib.hid (show Blk wg b6 89 #[.int .i64 2, .string ⟨#[]⟩, .int .i64 0, .int .i64 nm, .int .i64 K, .int .i64 0, .string ⟨#[]⟩, .slice (some ⟨we.heap.size, 0, none⟩) 2 2] from hwg ▸ B6F.out.set_ 7 _)
      have BX := Lib.hid (BF.out.keep kg (fun e => by have := LX.out; unfold one at e; omega))
      have TG := Lib.hid ((Te1.out.far KDF.out (fun _ e => e.elim)).far kg (fun b e => by cases e; exact G6.out))
      have KG := Lib.hid ((Ke1.out.trans KDF.out.weak).own kg (Nat.le_of_lt L6.out))
      have BRG := Lib.hid ((Be1.out.keep KDF.out (fun e => e)).keep kg (fun e => by have := L6.out; unfold one at e; omega))
      have AG := Lib.hid ((A1.out.orr.keep (KDF.out.mono (fun _ e => e.elim))).keep (kg.mono (fun b e => by cases e; exact .inl LC.out)))
      have GC := Lib.hid (show g < wo.heap.size from TC.out.lt)
      have WG := Lib.hid (show wo.heap.size ≤ wg.heap.size from Nat.le_trans KE1.out.size (Nat.le_trans KDF.out.size kg.size))
      have GX := Lib.hid (show g < we.heap.size by have := LX.out; have := G6.out; omega)
      clear hwg kg B6F BF KDF KDE KE1 Te1 Ke1 Be1 A1 BC KC BRC TC KF BE7 CD
      have tk_y : True := trivial
      go_upto_if 55 with (have _t := tk_y; go_at_call 8; refine (nextN g _ 4 wg TG.out (by decide) (by decide) (by have := MM.out; have := DD.out; omega)).mono ?_; rintro e wh ⟨y, rfl, -, hth, kh⟩; have TH := Lib.hid hth; have BH := Lib.hid (BG.out.keep kh (fun e => by have := G6.out; unfold one at e; omega)); have BHX := Lib.hid (BX.out.keep kh (fun e => by have := GX.out; unfold one at e; omega)); have KH := Lib.hid (KG.out.trans kh); have BRH := Lib.hid (BRG.out.keep kh (fun e => GN.out (by unfold one at e; first | exact e | exact e.symm))); have AH := Lib.hid (AG.out.keep (kh.mono (fun b e => by cases e; exact .inl GC.out))); have WH := Lib.hid (show wo.heap.size ≤ wh.heap.size from Nat.le_trans WG.out kh.size); clear hth kh _t tk_y)
      clear BG BX TG KG BRG AG
      go_cut [] (fun wx => ∃ (c2 : Array Value) (x2 : Ex), c2.size = 8 ∧ Sm (2 ^ dep) x2 ∧ Blk wx we.heap.size 89 (c1 ++ c2) ∧ ExAt (dep + 1) wx (low_ wo.heap.size) c1.toList x1 ∧ ExAt (dep + 1) wx (low_ wo.heap.size) c2.toList x2 ∧ Blk wx b6 89 #[.int .i64 2, .string ⟨#[]⟩, .int .i64 0, .int .i64 nm, .int .i64 K, .int .i64 0, .string ⟨#[]⟩, .slice (some ⟨we.heap.size, 0, none⟩) 2 2] ∧ Blk wx w.heap.size 89 #[.int .i64 0, .string ⟨#[]⟩, .int .i64 0, .int .i64 0, .int .i64 0, .int .i64 0, .string ⟨#[]⟩, .slice none 0 0] ∧ TapeAt wx g (m + 6 + 2 * draws dep) ∧ Keep (one g) w wx)
      case first =>
        by_cases hy : 0 < y
        · have hy' : (0 : Int) < y := by omega
          clear hy
          go_upto_region 17 with (fail)
          have gd := argCalm_good wh g (m + 5 + draws dep) (draws dep) dep TH.out.lt
          have ne : Nonempty (argCalm wh g (m + 5 + draws dep) (draws dep) dep).Sub := ⟨⟨wh, 0, Nat.zero_le _, Keep.refl _ _, TH.out.mono (by omega)⟩⟩
          have x7 : ∀ x : (argCalm wh g (m + 5 + draws dep) (draws dep) dep).Sub, ((argCalm wh g (m + 5 + draws dep) (draws dep) dep).at_ x).cell? ⟨b6, 7, none⟩ = some (.slice (some ⟨we.heap.size, 0, none⟩) 2 2) := fun x => (BH.out.keep (argCalm_at x) (fun e => by have := G6.out; unfold one at e; omega)).cell 7
          refine wp_region_calm (argCalm wh g (m + 5 + draws dep) (draws dep) dep) [0, 1, 2, 3, 4, 5, 6] [7] 97 (by kernel_rfl) (by kernel_rfl) rfl gd ⟨(Keep.refl _ _).drew, (TH.out.far (Keep.refl none_ _).drew (fun _ e => e.elim)).mono (by omega)⟩ ?_
          simp only [pairs, List.filterMap_cons, List.filterMap_nil, List.getElem?_toArray, List.getElem?_cons_succ, List.getElem?_cons_zero, Option.map_some]
          repeat (refine Calm.walk_quiet ne rfl rfl rfl (fun K hK => ?_); go_big_quiet_op; refine hK _ ?_; clear hK K)
          refine Calm.walk_eff rfl rfl (fun nn wy hn hG _ => ?_) ?_
          · unfold gives
            go_simp
            refine (IH.out (m + 5 + draws dep + (draws dep + 1) * nn) wy hG.2 (by have h1 := MM.out; have h2 : (draws dep + 1) * nn ≤ 401 * 1 := Nat.mul_le_mul (by have := DD.out; omega) (by have : nn < 1 := hn; omega); have := DD.out; omega)).mono ?_
            rintro e wz ⟨v, rfl, hv, hq, hk⟩
            exact ⟨_, rfl, hv.lower hG.1.size, hk, ⟨hG.1.trans hk, hq.mono (by rw [Nat.mul_succ]; omega)⟩, fun _ h => h.elim⟩
          intro vq wy hT
          obtain ⟨c2, x2, rfl, s2, -, -⟩ : GotX dep wy wh.heap.size vq := hT
          clear wy
          have S2 := Lib.hid s2
          clear s2
          go_frame
          repeat (refine Calm.walk_quiet ne rfl rfl rfl (fun K hK => ?_); go_big_quiet_op; refine hK _ ?_; clear hK K)
          intro w7 hG hD
          obtain ⟨c3, x3, e3, -, a3, m3⟩ : GotX dep w7 wh.heap.size (.agg c2) := (hD.1 5 rfl _ rfl ⟨rfl, rfl⟩).1
          injection e3 with e3
          subst e3
          have K7 := Lib.hid (show Keep (one g) wh w7 from hG.1)
          have T7 := Lib.hid (show TapeAt w7 g (m + 5 + draws dep + (draws dep + 1) * 1) from hG.2)
          have A3 := Lib.hid a3
          have M3 := Lib.hid m3
          clear hG hD gd ne x7 a3 m3
          simp only [pickOps, List.filterMap_cons, List.filterMap_nil, List.getElem?_toArray, List.getElem?_cons_succ, List.getElem?_cons_zero]
          refine wpList_store_mid rfl 89 (.tmp 62) (.tmp 61) rfl we.heap.size 8 c2 (by first | rfl | simp) rfl ((BHX.out.keep K7.out (fun e => by have := GX.out; unfold one at e; omega)).there 8 c2.size (by rw [Array.size_append, S1.out, S2.out]; exact Nat.le_refl _)) (by rw [S2.out]; kernel_rfl) (by rw [← Array.all_toList]; exact List.all_eq_true.2 (ex_one A3.out)) ?_
          obtain ⟨wq, hwq⟩ : ∃ wq, wq = w7.setCells we.heap.size 8 c2.toList := ⟨_, rfl⟩
          rw [← hwq]
          have kq : Keep (one we.heap.size) w7 wq := hwq ▸ Keep.setCells w7 _ 8 _
          have BQ := Lib.hid (show Blk wq we.heap.size 89 (c1 ++ c2) from by rw [← laid_second S1.out S1.out S2.out]; exact hwq ▸ Blk.setCells _ _ 8 _ _ (BHX.out.keep K7.out (fun e => by have := GX.out; unfold one at e; omega)))
          have XL := Lib.hid BHX.out.lt
          have AQ := Lib.hid (show ExAt (dep + 1) wq (low_ wo.heap.size) c1.toList x1 from ((AH.out.keep (K7.out.mono (fun b e => by cases e; exact .inl GC.out))).keep (kq.mono (fun b e => by cases e; exact .inr DE.out))).sub (fun b e => .inl e))
          have AQ2 := Lib.hid (show ExAt (dep + 1) wq (low_ wo.heap.size) c2.toList x3 from (A3.out.low kq (fun b e => by cases e; exact XL.out)).lower WH.out)
          have BQ6 := Lib.hid ((BH.out.keep K7.out (fun e => by have := G6.out; unfold one at e; omega)).keep kq (fun e => by have := LX.out; unfold one at e; omega))
          have BQR := Lib.hid ((BRH.out.keep K7.out (fun e => GN.out (by unfold one at e; first | exact e | exact e.symm))).keep kq (fun e => by have := LX.out; have := L6.out; unfold one at e; omega))
          have TQ := Lib.hid (show TapeAt wq g (m + 6 + 2 * draws dep) from (T7.out.far kq (fun b e => by cases e; exact GX.out)).mono (by omega))
          have KQ := Lib.hid ((KH.out.trans K7.out).own kq (by have := LX.out; have := L6.out; omega))
          clear hwq kq
          go_frame
          go_wp2
          go_meet
          exact ⟨c2, x3, S2.out, M3.out, BQ.out, AQ.out, AQ2.out, BQ6.out, BQR.out, TQ.out, KQ.out⟩
        · have hy' : ¬ (0 : Int) < y := by omega
          clear hy
          go_wp2
          go_meet
          exact ⟨c1, x1, S1.out, M1.out, BHX.out, AH.out.sub (fun b e => .inl e), AH.out.sub (fun b e => .inl e), BH.out, BRH.out, TH.out.mono (by omega), KH.out⟩
      case rest =>
        obtain ⟨c2, x2, s2, m2, hbX, a1, a2, hb6, hbR, htZ, hkZ⟩ := hcut
        have S2 := Lib.hid s2
        have M2 := Lib.hid m2
        have A1 := Lib.hid a1
        have A2 := Lib.hid a2
        have BX := Lib.hid hbX
        have B6 := Lib.hid hb6
        have BR := Lib.hid hbR
        have TZ := Lib.hid htZ
        have KZ0 := Lib.hid hkZ
        clear s2 m2 a1 a2 hbX hb6 hbR htZ hkZ
        have tl6 : True := trivial
        have t8 : True := trivial
        have LWE := Lib.hid (show w.heap.size < we.heap.size by have := LX.out; have := L6.out; omega)
        have LWC := Lib.hid (show w.heap.size < wo.heap.size by have := LC.out; have := L6.out; omega)
        clear TH BH BHX KH BRH AH
        go_wp2_with (first | (have _t := tl6; refine wpList_load_part 89 (.tmp 6) rfl rfl b6 0 rfl #[.int .i64 2, .string ⟨#[]⟩, .int .i64 0, .int .i64 nm, .int .i64 K, .int .i64 0, .string ⟨#[]⟩, .slice (some ⟨we.heap.size, 0, none⟩) 2 2] _ B6.out.rangeAt Tryz.underlying89 rfl (by kernel_rfl) ?_; go_frame; clear _t tl6) | (have _t := t8; refine wpList_store_blk rfl 89 (.tmp 4) (.tmp 63) rfl w.heap.size 89 _ #[.int .i64 2, .string ⟨#[]⟩, .int .i64 0, .int .i64 nm, .int .i64 K, .int .i64 0, .string ⟨#[]⟩, .slice (some ⟨we.heap.size, 0, none⟩) 2 2] rfl rfl BR.out rfl (by kernel_rfl) (by simp [Value.oneCell']) ?_; intro wz bz kz sz; have BZ := Lib.hid bz; have KZ := Lib.hid kz; clear bz kz sz; go_frame; clear _t t8))
        have GX := Lib.hid (show GotX (dep + 1) wz w.heap.size (.agg #[.int .i64 2, .string ⟨#[]⟩, .int .i64 0, .int .i64 nm, .int .i64 K, .int .i64 0, .string ⟨#[]⟩, .slice (some ⟨we.heap.size, 0, none⟩) 2 2]) from GotX.node 2 0 nm K 0 ⟨#[]⟩ (by decide) (by decide) (two_args (BX.out.keep KZ.out (fun e => by have := LWE.out; unfold one at e; omega)) (by have := LWE.out; omega) S1.out S2.out ((A1.out.low KZ.out (fun b e => by cases e; exact LWC.out)).lower (Nat.le_of_lt LWC.out)) ((A2.out.low KZ.out (fun b e => by cases e; exact LWC.out)).lower (Nat.le_of_lt LWC.out))) (Nat.le_refl 2) (two_mem M1.out M2.out))
        have TT := Lib.hid (show TapeAt wz g (m + 40 * (draws dep + 1)) from (TZ.out.far (S := one w.heap.size) KZ.out (fun b e => by cases e; exact GL.out)).mono (by omega))
        have KK := Lib.hid (show Keep (one g) w wz from KZ0.out.own KZ.out (Nat.le_refl _))
        try simp only [Exit.inBlock, Exit.then]
        refine bodyPost_ret (v := .agg #[.int .i64 2, .string ⟨#[]⟩, .int .i64 0, .int .i64 nm, .int .i64 K, .int .i64 0, .string ⟨#[]⟩, .slice (some ⟨we.heap.size, 0, none⟩) 2 2]) (results_cell Tryz.results29 rfl (run_loadVar_blk BZ.out Tryz.underlying89 rfl (by kernel_rfl))) rfl ?_
        exact ⟨_, rfl, GX.out, TT.out, KK.out⟩

  · have f0 : ((r : Int) == 0) = false := beq_eq_false_iff_ne.2 (by omega)
    have f4 : ((r : Int) == 4) = false := beq_eq_false_iff_ne.2 (by omega)
    have f5 : ((r : Int) == 5) = true := by rw [h]; rfl
    clear h hr
    go_upto_region 9 with (fail)
    have tk_s : True := trivial
    have tk_l : True := trivial
    have tk_q : True := trivial
    have t6 : True := trivial
    go_upto_region 10 with (first | (have _t := tk_s; go_at_call 8; refine (nextN g _ 3 w1 Tr.out (by decide) (by decide) (by have := MM.out; omega)).mono ?_; rintro e w2 ⟨s, rfl, hs, ht_s, k_s⟩; have Ts := Lib.hid ht_s; have Bs := Lib.hid (Br.out.keep k_s (fun e => GN.out (by unfold one at e; first | exact e | exact e.symm))); have Ks := Lib.hid (Kr.out.trans k_s); clear ht_s k_s _t tk_s) | (have _t := tk_l; refine wpList_buildSlice_whole 126 2 3 _ rfl rfl Tryz.underlying126 J1.out.1 J1.out.2.1 (by rw [J1.out.2.2.1]; decide) (by rw [J1.out.2.2.1]; decide) [(0, .int .i64 4), (1, .int .i64 5), (2, .int .i64 7)] rfl (by simp [Contig, Value.cells, J1.out.2.2.1]) (by simp [allCells, Value.cells, J1.out.2.2.1]) ?_; intro w3 b3 k3; have HSS := Lib.hid hs; clear hs; have BL := Lib.hid (show Blk w3 w2.heap.size 2 #[.int .i64 4, .int .i64 5, .int .i64 7] from b3); have T3 := Lib.hid (Ts.out.far k3 (fun _ e => e.elim)); have B3 := Lib.hid (Bs.out.keep k3 (fun e => e)); have K3 := Lib.hid (Ks.out.trans k3.weak); have NQ := Lib.hid (next3 g (m + 1 + 1) w2.heap.size w3 T3.out (by have := MM.out; omega) BL.out (fun e => by have := Ts.out.lt; omega)); clear b3 k3; go_frame; clear _t tk_l) | (have _t := tk_q; go_at_call 8; refine NQ.out.mono ?_; rintro e w4 ⟨q, K, rfl, hq, hq', f2, ht4, k4⟩; have T4 := Lib.hid ht4; have B4 := Lib.hid (B3.out.keep k4 (fun e => GN.out (by unfold one at e; first | exact e | exact e.symm))); have K4 := Lib.hid (K3.out.trans k4); clear ht4 k4 _t tk_q) | (have _t := t6; refine wpList_store_blk rfl 89 (.tmp 6) (.tmp 34) rfl w4.heap.size 89 _ #[.int .i64 2, .string ⟨#[]⟩, .int .i64 0, .int .i64 (1 + s), .int .i64 K, .int .i64 0, .string ⟨#[]⟩, .slice none 0 0] rfl rfl (Blk.new _ _ _) rfl (by kernel_rfl) (by simp [Value.oneCell']) ?_; intro w5 b5 k5 s5; go_frame; clear _t t6))
    clear f2 hq hq'
    have k45 : Keep none_ w4 w5 := ((Keep.refl none_ w4).alloc _).own k5 (Nat.le_refl _)
    have B6 := Lib.hid b5
    have T5 := Lib.hid (T4.out.far k45 (fun _ e => e.elim))
    have BR5 := Lib.hid (B4.out.keep k45 (fun e => e))
    have K5 := Lib.hid (K4.out.trans k45.weak)
    have G6 := Lib.hid (show g < w4.heap.size from T4.out.lt)
    have L6 := Lib.hid (show w.heap.size < w4.heap.size from B4.out.lt)
    clear k45 k5 s5 b5 BL NQ
    obtain ⟨b6, hb6⟩ : ∃ b6, b6 = w4.heap.size := ⟨_, rfl⟩
    rw [← hb6] at B6 G6 L6 ⊢
    clear hb6
    have tk_p : True := trivial
    go_upto_region 12 with (have _t := tk_p; go_at_call 8; refine (nextN g _ 4 w5 T5.out (by decide) (by decide) (by have := MM.out; omega)).mono ?_; rintro e w6 ⟨p, rfl, -, ht6, k6⟩; have T6 := Lib.hid ht6; have B66 := Lib.hid (B6.out.keep k6 (fun e => by have := G6.out; unfold one at e; omega)); have BR6 := Lib.hid (BR5.out.keep k6 (fun e => GN.out (by unfold one at e; first | exact e | exact e.symm))); have K6 := Lib.hid (K5.out.trans k6); have c0 : w6.cell? ⟨b6, 0, none⟩ = some (.int .i64 2) := B66.out.cell 0; have c5 : w6.cell? ⟨b6, 5, none⟩ = some (.int .i64 0) := B66.out.cell 5; have z0 : w6.frozen? ⟨b6, 0, none⟩ = false := B66.out.frozen 0; have z5 : w6.frozen? ⟨b6, 5, none⟩ = false := B66.out.frozen 5; clear ht6 k6 _t tk_p)
    clear c0 c5 z0 z5
    obtain ⟨wA, hwA⟩ : ∃ wA, wA = (w6.setCell ⟨b6, 0, none⟩ (.int .i64 3)).setCell ⟨b6, 5, none⟩ (.int .i64 p) := ⟨_, rfl⟩
    rw [← hwA]
    have kA : Keep (one b6) w6 wA := hwA ▸ ((Keep.refl (one b6) w6).setCell (p := ⟨b6, 0, none⟩) (.inl rfl) _).setCell (p := ⟨b6, 5, none⟩) (.inl rfl) _
    have BA := Lib.hid (show Blk wA b6 89 #[.int .i64 3, .string ⟨#[]⟩, .int .i64 0, .int .i64 (1 + s), .int .i64 K, .int .i64 p, .string ⟨#[]⟩, .slice none 0 0] from hwA ▸ (B66.out.set_ 0 _).set_ 5 _)
    have TA := Lib.hid (show TapeAt wA g (m + 4) from (T6.out.far kA (fun b e => by cases e; exact G6.out)).mono (by omega))
    have KA := Lib.hid (K6.out.own kA (Nat.le_of_lt L6.out))
    have BRA := Lib.hid (BR6.out.keep kA (fun e => by have := L6.out; unfold one at e; omega))
    clear hwA kA
    have c3 : wA.cell? ⟨b6, 3, none⟩ = some (.int .i64 (1 + s)) := BA.out.cell 3
    have z3 : wA.frozen? ⟨b6, 3, none⟩ = false := BA.out.frozen 3
    go_upto_if 43 with (fail)
    go_cut [] (fun wx => ∃ nm : Int, Blk wx b6 89 #[.int .i64 3, .string ⟨#[]⟩, .int .i64 0, .int .i64 nm, .int .i64 K, .int .i64 p, .string ⟨#[]⟩, .slice none 0 0] ∧ TapeAt wx g (m + 4) ∧ Keep (one g) w wx ∧ Blk wx w.heap.size 89 #[.int .i64 0, .string ⟨#[]⟩, .int .i64 0, .int .i64 0, .int .i64 0, .int .i64 0, .string ⟨#[]⟩, .slice none 0 0])
    case first =>
      by_cases h2 : s = 1
      · have h2' : ((1 : Int) + s == 2) = true := by rw [h2]; rfl
        clear h2
        go_wp2
        go_meet
        have kS := (Keep.refl (one b6) wA).setCell (p := ⟨b6, 3, none⟩) (.inl rfl) (.int .i64 3)
        exact ⟨3, BA.out.set_ 3 _, TA.out.far kS (fun b e => by cases e; exact G6.out), KA.out.own kS (Nat.le_of_lt L6.out), BRA.out.keep kS (fun e => by have := L6.out; unfold one at e; omega)⟩
      · have h2' : ((1 : Int) + s == 2) = false := beq_eq_false_iff_ne.2 (by omega)
        clear h2
        go_wp2
        go_meet
        exact ⟨1 + s, BA.out, TA.out, KA.out, BRA.out⟩
    case rest =>
      obtain ⟨nm, hbC, htC, hkC, hrC⟩ := hcut
      have BC := Lib.hid hbC
      have TC := Lib.hid htC
      have KC := Lib.hid hkC
      have BRC := Lib.hid hrC
      have LC := Lib.hid hbC.lt
      clear hbC htC hkC hrC BA TA KA BRA
      obtain ⟨wo, hwo⟩ : ∃ wo, wo = wc := ⟨_, rfl⟩
      subst hwo
      have tk_e1 : True := trivial
      have t7 : True := trivial
      have tl1 : True := trivial
      have tl2 : True := trivial
      have tk_b : True := trivial
      go_upto_region 16 with (first | (have _t := tk_e1; go_at_call 29; refine (IH.out _ wo TC.out (by have := MM.out; have := DD.out; omega)).mono ?_; rintro e wd ⟨v1, rfl, ⟨c1, x1, rfl, s1, a1, m1⟩, ht_e, k_e⟩; have Te1 := Lib.hid ht_e; have Be1 := Lib.hid (BRC.out.keep k_e (fun e => GN.out (by unfold one at e; first | exact e | exact e.symm))); have Ke1 := Lib.hid (KC.out.trans k_e); have KE1 := Lib.hid k_e; have S1 := Lib.hid s1; have A1 := Lib.hid a1; have M1 := Lib.hid m1; clear ht_e k_e s1 a1 m1 _t tk_e1) | (have _t := t7; refine wpList_store_blk rfl 89 (.tmp 7) (.tmp 48) rfl wd.heap.size 89 _ c1 rfl rfl (Blk.new _ _ _) (by rw [S1.out]; rfl) (by rw [S1.out]; kernel_rfl) (by rw [← Array.all_toList]; exact List.all_eq_true.2 (ex_one A1.out)) ?_; intro we be ke se; have BE7 := Lib.hid be; have KDE := Lib.hid (((Keep.refl none_ wd).alloc _).own ke (Nat.le_refl _)); clear be ke se; go_frame; clear _t t7) | (have _t := tl1; refine wpList_load_part 89 (.tmp 7) rfl rfl wd.heap.size 0 rfl c1 _ BE7.out.rangeAt Tryz.underlying89 rfl (by rw [S1.out]; kernel_rfl) ?_; go_frame; clear _t tl1) | (have _t := tl2; refine wpList_load_part 89 (.tmp 7) rfl rfl wd.heap.size 0 rfl c1 _ BE7.out.rangeAt Tryz.underlying89 rfl (by rw [S1.out]; kernel_rfl) ?_; go_frame; clear _t tl2) | (have _t := tk_b; refine wpList_buildSlice_whole 25 89 2 _ rfl rfl Tryz.underlying25 I1.out.1 I1.out.2.1 (by rw [I1.out.2.2.1]; decide) (by rw [I1.out.2.2.1]; decide) [(0, .agg c1), (1, .agg c1)] rfl (by simp only [Contig, Value.cells, I1.out.2.2.1, S1.out]; exact ⟨trivial, trivial, trivial⟩) (by simp [allCells, Value.cells, I1.out.2.2.1, S1.out]) ?_; intro wf bf kf; rw [two_cells] at bf; have BF := Lib.hid bf; have KF := Lib.hid kf; have KDF := Lib.hid (KDE.out.trans kf); have B6F := Lib.hid ((BC.out.keep KE1.out (fun e => by have := G6.out; unfold one at e; omega)).keep (KDE.out.trans kf) (fun e => e)); have c7 : wf.cell? ⟨b6, 7, none⟩ = some (.slice none 0 0) := B6F.out.cell 7; have z7 : wf.frozen? ⟨b6, 7, none⟩ = false := B6F.out.frozen 7; clear bf kf; go_frame; clear _t tk_b))
      clear c7 z7
      obtain ⟨wg, hwg⟩ : ∃ wg, wg = wf.setCell ⟨b6, 7, none⟩ (.slice (some ⟨we.heap.size, 0, none⟩) 2 2) := ⟨_, rfl⟩
      rw [← hwg]
      have kg : Keep (one b6) wf wg := hwg ▸ (Keep.refl (one b6) wf).setCell (p := ⟨b6, 7, none⟩) (.inl rfl) _
      have DE := Lib.hid KDE.out.size
      have CD := Lib.hid KE1.out.size
      have LX := Lib.hid (show b6 < we.heap.size by have := LC.out; have := DE.out; have := CD.out; omega)
      have BG := Lib.hid (show Blk wg b6 89 #[.int .i64 3, .string ⟨#[]⟩, .int .i64 0, .int .i64 nm, .int .i64 K, .int .i64 p, .string ⟨#[]⟩, .slice (some ⟨we.heap.size, 0, none⟩) 2 2] from hwg ▸ B6F.out.set_ 7 _)
      have BX := Lib.hid (BF.out.keep kg (fun e => by have := LX.out; unfold one at e; omega))
      have TG := Lib.hid ((Te1.out.far KDF.out (fun _ e => e.elim)).far kg (fun b e => by cases e; exact G6.out))
      have KG := Lib.hid ((Ke1.out.trans KDF.out.weak).own kg (Nat.le_of_lt L6.out))
      have BRG := Lib.hid ((Be1.out.keep KDF.out (fun e => e)).keep kg (fun e => by have := L6.out; unfold one at e; omega))
      have AG := Lib.hid ((A1.out.orr.keep (KDF.out.mono (fun _ e => e.elim))).keep (kg.mono (fun b e => by cases e; exact .inl LC.out)))
      have GC := Lib.hid (show g < wo.heap.size from TC.out.lt)
      have WG := Lib.hid (show wo.heap.size ≤ wg.heap.size from Nat.le_trans KE1.out.size (Nat.le_trans KDF.out.size kg.size))
      have GX := Lib.hid (show g < we.heap.size by have := LX.out; have := G6.out; omega)
      clear hwg kg B6F BF KDF KDE KE1 Te1 Ke1 Be1 A1 BC KC BRC TC KF BE7 CD
      have tk_y : True := trivial
      go_upto_if 55 with (have _t := tk_y; go_at_call 8; refine (nextN g _ 4 wg TG.out (by decide) (by decide) (by have := MM.out; have := DD.out; omega)).mono ?_; rintro e wh ⟨y, rfl, -, hth, kh⟩; have TH := Lib.hid hth; have BH := Lib.hid (BG.out.keep kh (fun e => by have := G6.out; unfold one at e; omega)); have BHX := Lib.hid (BX.out.keep kh (fun e => by have := GX.out; unfold one at e; omega)); have KH := Lib.hid (KG.out.trans kh); have BRH := Lib.hid (BRG.out.keep kh (fun e => GN.out (by unfold one at e; first | exact e | exact e.symm))); have AH := Lib.hid (AG.out.keep (kh.mono (fun b e => by cases e; exact .inl GC.out))); have WH := Lib.hid (show wo.heap.size ≤ wh.heap.size from Nat.le_trans WG.out kh.size); clear hth kh _t tk_y)
      clear BG BX TG KG BRG AG
      go_cut [] (fun wx => ∃ (c2 : Array Value) (x2 : Ex), c2.size = 8 ∧ Sm (2 ^ dep) x2 ∧ Blk wx we.heap.size 89 (c1 ++ c2) ∧ ExAt (dep + 1) wx (low_ wo.heap.size) c1.toList x1 ∧ ExAt (dep + 1) wx (low_ wo.heap.size) c2.toList x2 ∧ Blk wx b6 89 #[.int .i64 3, .string ⟨#[]⟩, .int .i64 0, .int .i64 nm, .int .i64 K, .int .i64 p, .string ⟨#[]⟩, .slice (some ⟨we.heap.size, 0, none⟩) 2 2] ∧ Blk wx w.heap.size 89 #[.int .i64 0, .string ⟨#[]⟩, .int .i64 0, .int .i64 0, .int .i64 0, .int .i64 0, .string ⟨#[]⟩, .slice none 0 0] ∧ TapeAt wx g (m + 6 + 2 * draws dep) ∧ Keep (one g) w wx)
      case first =>
        by_cases hy : 0 < y
        · have hy' : (0 : Int) < y := by omega
          clear hy
          go_upto_region 17 with (fail)
          have gd := argCalm_good wh g (m + 5 + draws dep) (draws dep) dep TH.out.lt
          have ne : Nonempty (argCalm wh g (m + 5 + draws dep) (draws dep) dep).Sub := ⟨⟨wh, 0, Nat.zero_le _, Keep.refl _ _, TH.out.mono (by omega)⟩⟩
          have x7 : ∀ x : (argCalm wh g (m + 5 + draws dep) (draws dep) dep).Sub, ((argCalm wh g (m + 5 + draws dep) (draws dep) dep).at_ x).cell? ⟨b6, 7, none⟩ = some (.slice (some ⟨we.heap.size, 0, none⟩) 2 2) := fun x => (BH.out.keep (argCalm_at x) (fun e => by have := G6.out; unfold one at e; omega)).cell 7
          refine wp_region_calm (argCalm wh g (m + 5 + draws dep) (draws dep) dep) [0, 1, 2, 3, 4, 5, 6] [7] 97 (by kernel_rfl) (by kernel_rfl) rfl gd ⟨(Keep.refl _ _).drew, (TH.out.far (Keep.refl none_ _).drew (fun _ e => e.elim)).mono (by omega)⟩ ?_
          simp only [pairs, List.filterMap_cons, List.filterMap_nil, List.getElem?_toArray, List.getElem?_cons_succ, List.getElem?_cons_zero, Option.map_some]
          repeat (refine Calm.walk_quiet ne rfl rfl rfl (fun K hK => ?_); go_big_quiet_op; refine hK _ ?_; clear hK K)
          refine Calm.walk_eff rfl rfl (fun nn wy hn hG _ => ?_) ?_
          · unfold gives
            go_simp
            refine (IH.out (m + 5 + draws dep + (draws dep + 1) * nn) wy hG.2 (by have h1 := MM.out; have h2 : (draws dep + 1) * nn ≤ 401 * 1 := Nat.mul_le_mul (by have := DD.out; omega) (by have : nn < 1 := hn; omega); have := DD.out; omega)).mono ?_
            rintro e wz ⟨v, rfl, hv, hq, hk⟩
            exact ⟨_, rfl, hv.lower hG.1.size, hk, ⟨hG.1.trans hk, hq.mono (by rw [Nat.mul_succ]; omega)⟩, fun _ h => h.elim⟩
          intro vq wy hT
          obtain ⟨c2, x2, rfl, s2, -, -⟩ : GotX dep wy wh.heap.size vq := hT
          clear wy
          have S2 := Lib.hid s2
          clear s2
          go_frame
          repeat (refine Calm.walk_quiet ne rfl rfl rfl (fun K hK => ?_); go_big_quiet_op; refine hK _ ?_; clear hK K)
          intro w7 hG hD
          obtain ⟨c3, x3, e3, -, a3, m3⟩ : GotX dep w7 wh.heap.size (.agg c2) := (hD.1 5 rfl _ rfl ⟨rfl, rfl⟩).1
          injection e3 with e3
          subst e3
          have K7 := Lib.hid (show Keep (one g) wh w7 from hG.1)
          have T7 := Lib.hid (show TapeAt w7 g (m + 5 + draws dep + (draws dep + 1) * 1) from hG.2)
          have A3 := Lib.hid a3
          have M3 := Lib.hid m3
          clear hG hD gd ne x7 a3 m3
          simp only [pickOps, List.filterMap_cons, List.filterMap_nil, List.getElem?_toArray, List.getElem?_cons_succ, List.getElem?_cons_zero]
          refine wpList_store_mid rfl 89 (.tmp 62) (.tmp 61) rfl we.heap.size 8 c2 (by first | rfl | simp) rfl ((BHX.out.keep K7.out (fun e => by have := GX.out; unfold one at e; omega)).there 8 c2.size (by rw [Array.size_append, S1.out, S2.out]; exact Nat.le_refl _)) (by rw [S2.out]; kernel_rfl) (by rw [← Array.all_toList]; exact List.all_eq_true.2 (ex_one A3.out)) ?_
          obtain ⟨wq, hwq⟩ : ∃ wq, wq = w7.setCells we.heap.size 8 c2.toList := ⟨_, rfl⟩
          rw [← hwq]
          have kq : Keep (one we.heap.size) w7 wq := hwq ▸ Keep.setCells w7 _ 8 _
          have BQ := Lib.hid (show Blk wq we.heap.size 89 (c1 ++ c2) from by rw [← laid_second S1.out S1.out S2.out]; exact hwq ▸ Blk.setCells _ _ 8 _ _ (BHX.out.keep K7.out (fun e => by have := GX.out; unfold one at e; omega)))
          have XL := Lib.hid BHX.out.lt
          have AQ := Lib.hid (show ExAt (dep + 1) wq (low_ wo.heap.size) c1.toList x1 from ((AH.out.keep (K7.out.mono (fun b e => by cases e; exact .inl GC.out))).keep (kq.mono (fun b e => by cases e; exact .inr DE.out))).sub (fun b e => .inl e))
          have AQ2 := Lib.hid (show ExAt (dep + 1) wq (low_ wo.heap.size) c2.toList x3 from (A3.out.low kq (fun b e => by cases e; exact XL.out)).lower WH.out)
          have BQ6 := Lib.hid ((BH.out.keep K7.out (fun e => by have := G6.out; unfold one at e; omega)).keep kq (fun e => by have := LX.out; unfold one at e; omega))
          have BQR := Lib.hid ((BRH.out.keep K7.out (fun e => GN.out (by unfold one at e; first | exact e | exact e.symm))).keep kq (fun e => by have := LX.out; have := L6.out; unfold one at e; omega))
          have TQ := Lib.hid (show TapeAt wq g (m + 6 + 2 * draws dep) from (T7.out.far kq (fun b e => by cases e; exact GX.out)).mono (by omega))
          have KQ := Lib.hid ((KH.out.trans K7.out).own kq (by have := LX.out; have := L6.out; omega))
          clear hwq kq
          go_frame
          go_wp2
          go_meet
          exact ⟨c2, x3, S2.out, M3.out, BQ.out, AQ.out, AQ2.out, BQ6.out, BQR.out, TQ.out, KQ.out⟩
        · have hy' : ¬ (0 : Int) < y := by omega
          clear hy
          go_wp2
          go_meet
          exact ⟨c1, x1, S1.out, M1.out, BHX.out, AH.out.sub (fun b e => .inl e), AH.out.sub (fun b e => .inl e), BH.out, BRH.out, TH.out.mono (by omega), KH.out⟩
      case rest =>
        obtain ⟨c2, x2, s2, m2, hbX, a1, a2, hb6, hbR, htZ, hkZ⟩ := hcut
        have S2 := Lib.hid s2
        have M2 := Lib.hid m2
        have A1 := Lib.hid a1
        have A2 := Lib.hid a2
        have BX := Lib.hid hbX
        have B6 := Lib.hid hb6
        have BR := Lib.hid hbR
        have TZ := Lib.hid htZ
        have KZ0 := Lib.hid hkZ
        clear s2 m2 a1 a2 hbX hb6 hbR htZ hkZ
        have tl6 : True := trivial
        have t8 : True := trivial
        have LWE := Lib.hid (show w.heap.size < we.heap.size by have := LX.out; have := L6.out; omega)
        have LWC := Lib.hid (show w.heap.size < wo.heap.size by have := LC.out; have := L6.out; omega)
        clear TH BH BHX KH BRH AH
        go_wp2_with (first | (have _t := tl6; refine wpList_load_part 89 (.tmp 6) rfl rfl b6 0 rfl #[.int .i64 3, .string ⟨#[]⟩, .int .i64 0, .int .i64 nm, .int .i64 K, .int .i64 p, .string ⟨#[]⟩, .slice (some ⟨we.heap.size, 0, none⟩) 2 2] _ B6.out.rangeAt Tryz.underlying89 rfl (by kernel_rfl) ?_; go_frame; clear _t tl6) | (have _t := t8; refine wpList_store_blk rfl 89 (.tmp 4) (.tmp 63) rfl w.heap.size 89 _ #[.int .i64 3, .string ⟨#[]⟩, .int .i64 0, .int .i64 nm, .int .i64 K, .int .i64 p, .string ⟨#[]⟩, .slice (some ⟨we.heap.size, 0, none⟩) 2 2] rfl rfl BR.out rfl (by kernel_rfl) (by simp [Value.oneCell']) ?_; intro wz bz kz sz; have BZ := Lib.hid bz; have KZ := Lib.hid kz; clear bz kz sz; go_frame; clear _t t8))
        have GX := Lib.hid (show GotX (dep + 1) wz w.heap.size (.agg #[.int .i64 3, .string ⟨#[]⟩, .int .i64 0, .int .i64 nm, .int .i64 K, .int .i64 p, .string ⟨#[]⟩, .slice (some ⟨we.heap.size, 0, none⟩) 2 2]) from GotX.node 3 0 nm K p ⟨#[]⟩ (by decide) (by decide) (two_args (BX.out.keep KZ.out (fun e => by have := LWE.out; unfold one at e; omega)) (by have := LWE.out; omega) S1.out S2.out ((A1.out.low KZ.out (fun b e => by cases e; exact LWC.out)).lower (Nat.le_of_lt LWC.out)) ((A2.out.low KZ.out (fun b e => by cases e; exact LWC.out)).lower (Nat.le_of_lt LWC.out))) (Nat.le_refl 2) (two_mem M1.out M2.out))
        have TT := Lib.hid (show TapeAt wz g (m + 40 * (draws dep + 1)) from (TZ.out.far (S := one w.heap.size) KZ.out (fun b e => by cases e; exact GL.out)).mono (by omega))
        have KK := Lib.hid (show Keep (one g) w wz from KZ0.out.own KZ.out (Nat.le_refl _))
        try simp only [Exit.inBlock, Exit.then]
        refine bodyPost_ret (v := .agg #[.int .i64 3, .string ⟨#[]⟩, .int .i64 0, .int .i64 nm, .int .i64 K, .int .i64 p, .string ⟨#[]⟩, .slice (some ⟨we.heap.size, 0, none⟩) 2 2]) (results_cell Tryz.results29 rfl (run_loadVar_blk BZ.out Tryz.underlying89 rfl (by kernel_rfl))) rfl ?_
        exact ⟨_, rfl, GX.out, TT.out, KK.out⟩

  · have f0 : ((r : Int) == 0) = false := beq_eq_false_iff_ne.2 (by omega)
    have f4 : ((r : Int) == 4) = false := beq_eq_false_iff_ne.2 (by omega)
    have f5 : ((r : Int) == 5) = false := beq_eq_false_iff_ne.2 (by omega)
    have f6 : ((r : Int) == 6) = true := by rw [h]; rfl
    clear h hr
    have t8 : True := trivial
    have tk_u : True := trivial
    have tk_e1 : True := trivial
    have tk_e2 : True := trivial
    have tk_b : True := trivial
    go_wp2_with (first | (have _t := tk_u; go_at_call 8; refine (nextN g _ 256 w1 Tr.out (by decide) (by decide) (by have := MM.out; omega)).mono ?_; rintro e w2 ⟨u, rfl, hu, ht_u, k_u⟩; have Tu := Lib.hid ht_u; have Bu := Lib.hid (Br.out.keep k_u (fun e => GN.out (by unfold one at e; first | exact e | exact e.symm))); have Ku := Lib.hid (Kr.out.trans k_u); have Hu := Lib.hid hu; clear hu; clear ht_u k_u _t tk_u) | (have _t := tk_e1; go_at_call 29; refine (IH.out _ w2 Tu.out (by have := MM.out; have := DD.out; omega)).mono ?_; rintro e w3 ⟨v1, rfl, ⟨c1, x1, rfl, s1, a1, m1⟩, ht_e, k_e⟩; have Te1 := Lib.hid ht_e; have Be1 := Lib.hid (Bu.out.keep k_e (fun e => GN.out (by unfold one at e; first | exact e | exact e.symm))); have Ke1 := Lib.hid (Ku.out.trans k_e); have KE1 := Lib.hid k_e; have S1 := Lib.hid s1; have A1 := Lib.hid a1; have M1 := Lib.hid m1; clear ht_e k_e s1 a1 m1 _t tk_e1) | (have _t := tk_e2; go_at_call 29; refine (IH.out _ w3 Te1.out (by have := MM.out; have := DD.out; omega)).mono ?_; rintro e w4 ⟨v2, rfl, ⟨c2, x2, rfl, s2, a2, m2⟩, ht_e, k_e⟩; have Te2 := Lib.hid ht_e; have Be2 := Lib.hid (Be1.out.keep k_e (fun e => GN.out (by unfold one at e; first | exact e | exact e.symm))); have Ke2 := Lib.hid (Ke1.out.trans k_e); have KE2 := Lib.hid k_e; have S2 := Lib.hid s2; have A2 := Lib.hid a2; have M2 := Lib.hid m2; clear ht_e k_e s2 a2 m2 _t tk_e2) | (have _t := tk_b; refine wpList_buildSlice_whole 25 89 2 _ rfl rfl Tryz.underlying25 I1.out.1 I1.out.2.1 (by rw [I1.out.2.2.1]; decide) (by rw [I1.out.2.2.1]; decide) [(0, .agg c1), (1, .agg c2)] rfl (by simp only [Contig, Value.cells, I1.out.2.2.1, S1.out, S2.out]; exact ⟨trivial, trivial, trivial⟩) (by simp [allCells, Value.cells, I1.out.2.2.1, S1.out, S2.out]) ?_; intro w5 b5 k5; rw [two_cells] at b5; have BS := Lib.hid b5; have KS := Lib.hid k5; have B5 := Lib.hid (Be2.out.keep k5 (fun e => e)); have T5 := Lib.hid (Te2.out.far k5 (fun _ e => e.elim)); have K5 := Lib.hid (Ke2.out.trans k5.weak); clear b5 k5; go_frame; clear _t tk_b) | (have _t := t8; refine wpList_store_blk rfl 89 (.tmp 4) (.tmp 77) rfl w.heap.size 89 _ #[.int .i64 4, .string ⟨#[]⟩, .int .i64 0, .int .i64 0, .int .i64 0, .int .i64 u, .string ⟨#[]⟩, .slice (some ⟨w4.heap.size, 0, none⟩) 2 2] rfl rfl B5.out rfl (by kernel_rfl) (by simp [Value.oneCell']) ?_; intro wz bz kz sz; have BZ := Lib.hid bz; have KZ := Lib.hid kz; clear bz kz sz; go_frame; clear _t t8))
    have GX := Lib.hid (show GotX (dep + 1) wz w.heap.size (.agg #[.int .i64 4, .string ⟨#[]⟩, .int .i64 0, .int .i64 0, .int .i64 0, .int .i64 u, .string ⟨#[]⟩, .slice (some ⟨w4.heap.size, 0, none⟩) 2 2]) from GotX.node 4 0 0 0 u ⟨#[]⟩ (by decide) (by decide) (two_args (BS.out.keep KZ.out (fun e => by have := Be2.out.lt; unfold one at e; omega)) (by have := Be2.out.lt; omega) S1.out S2.out ((((A1.out.low KE2.out (fun b e => by cases e; exact Nat.lt_trans GL.out Bu.out.lt)).low KS.out (fun b e => e.elim)).low KZ.out (fun b e => by cases e; exact Bu.out.lt)).lower (Nat.le_of_lt Bu.out.lt)) (((A2.out.low KS.out (fun b e => e.elim)).low KZ.out (fun b e => by cases e; exact Be1.out.lt)).lower (Nat.le_of_lt Be1.out.lt))) (Nat.le_refl 2) (two_mem M1.out M2.out))
    have TT := Lib.hid (show TapeAt wz g (m + 40 * (draws dep + 1)) from (T5.out.far (S := one w.heap.size) KZ.out (fun b e => by cases e; exact GL.out)).mono (by have := MM.out; omega))
    have KK := Lib.hid (show Keep (one g) w wz from K5.out.own KZ.out (Nat.le_refl _))
    try simp only [Exit.inBlock, Exit.then]
    refine bodyPost_ret (v := .agg #[.int .i64 4, .string ⟨#[]⟩, .int .i64 0, .int .i64 0, .int .i64 0, .int .i64 u, .string ⟨#[]⟩, .slice (some ⟨w4.heap.size, 0, none⟩) 2 2]) (results_cell Tryz.results29 rfl (run_loadVar_blk BZ.out Tryz.underlying89 rfl (by kernel_rfl))) rfl ?_
    exact ⟨_, rfl, GX.out, TT.out, KK.out⟩

  · have f0 : ((r : Int) == 0) = false := beq_eq_false_iff_ne.2 (by omega)
    have f4 : ((r : Int) == 4) = false := beq_eq_false_iff_ne.2 (by omega)
    have f5 : ((r : Int) == 5) = false := beq_eq_false_iff_ne.2 (by omega)
    have f6 : ((r : Int) == 6) = false := beq_eq_false_iff_ne.2 (by omega)
    have f7 : ((r : Int) == 7) = true := by rw [h]; rfl
    clear h hr
    go_upto_region 22 with (fail)
    have gd := capCalm_good w1 g (m + 1) (draws dep) dep Tr.out.lt
    have ne : Nonempty (capCalm w1 g (m + 1) (draws dep) dep).Sub := ⟨⟨w1, 0, Nat.zero_le _, Keep.refl _ _, Tr.out⟩⟩
    refine wp_region_calm (capCalm w1 g (m + 1) (draws dep) dep) [0, 1, 2, 3, 4, 5, 6, 7, 8, 9, 10] [11] 97 (by kernel_rfl) (by kernel_rfl) rfl gd ⟨(Keep.refl _ _).drew, (Tr.out.far (Keep.refl none_ _).drew (fun _ e => e.elim))⟩ ?_
    simp only [pairs, List.filterMap_cons, List.filterMap_nil, List.getElem?_toArray, List.getElem?_cons_succ, List.getElem?_cons_zero, Option.map_some]
    refine Calm.walk_eff rfl rfl (fun n wy hn hG _ => ?_) ?_
    · unfold gives
      go_simp
      exact ⟨madeT.new hG.1 9 #[.string ⟨#[65]⟩, .string ⟨#[69, 78, 68, 32, 50]⟩] (fun a => .slice (some a) 2 2), (Keep.refl _ _).alloc _, ⟨hG.1.alloc _, (hG.2.far ((Keep.refl none_ _).alloc _) (fun _ e => e.elim)).mono (by rw [Nat.mul_succ]; omega)⟩, fun _ h => h.elim⟩
    intro vq wy hT
    obtain ⟨bj, hbj, rfl, -⟩ : ∃ b, w1.heap.size ≤ b ∧ vq = .slice (some ⟨b, 0, none⟩) 2 2 ∧ True := by
      obtain ⟨b, h1, h2, -⟩ := (id hT : madeT w1.heap.size 9 #[.string ⟨#[65]⟩, .string ⟨#[69, 78, 68, 32, 50]⟩] (fun a => .slice (some a) 2 2) vq wy)
      exact ⟨b, h1, h2, trivial⟩
    clear hT wy
    go_frame
    repeat (refine Calm.walk_quiet ne rfl rfl rfl (fun K hK => ?_); go_big_quiet_op; refine hK _ ?_; clear hK K)
    refine Calm.walk_eff rfl rfl (fun nn wy hn hG _ => ?_) ?_
    · unfold gives
      go_simp
      refine (nextN g (m + 1 + (draws dep + 1) * nn) 2 wy hG.2 (by decide) (by decide) (by have h1 := MM.out; have h2 : (draws dep + 1) * nn ≤ 401 * 12 := Nat.mul_le_mul (by have := DD.out; omega) (by have : nn < 5 := hn; omega); omega)).mono ?_
      rintro e wz ⟨q, rfl, h1, hq, hk⟩
      exact ⟨_, rfl, ⟨q, rfl, h1⟩, hk, ⟨hG.1.trans hk, hq.mono (by rw [Nat.mul_succ]; omega)⟩, fun _ h => h.elim⟩
    intro vq wy hT
    obtain ⟨q, rfl, hq⟩ : ∃ r : Nat, vq = .int .i64 r ∧ r < 2 := hT
    clear wy
    have hq' : (q : Int) < 2 := by omega
    go_frame
    repeat (refine Calm.walk_quiet ne rfl rfl rfl (fun K hK => ?_); go_big_quiet_op; refine hK _ ?_; clear hK K)
    refine Calm.walk_eff rfl rfl (fun nn wy hn hG hAF => ?_) ?_
    · have hm : madeT w1.heap.size 9 #[.string ⟨#[65]⟩, .string ⟨#[69, 78, 68, 32, 50]⟩] (fun a => .slice (some a) 2 2) (.slice (some ⟨bj, 0, none⟩) 2 2) wy := (hAF 0 List.mem_cons_self _ rfl ⟨rfl, rfl⟩).1
      have hbk := hm.slice.2
      obtain ⟨x, hx, hmem⟩ : ∃ x : ByteArray, (#[.string ⟨#[65]⟩, .string ⟨#[69, 78, 68, 32, 50]⟩] : Array Value)[q]? = some (.string x) ∧ x.size ≤ 5 := by
        have : q = 0 ∨ q = 1 := by omega
        rcases this with rfl | rfl <;> exact ⟨_, rfl, by decide⟩
      have f1 : wy.cell? ⟨bj, q, none⟩ = some (.string x) := by rw [hbk.cell]; exact hx
      clear hm hbk
      unfold gives
      go_simp
      exact ⟨⟨x, rfl, hmem⟩, Keep.refl _ _, ⟨hG.1, hG.2.mono (by rw [Nat.mul_succ]; omega)⟩, fun _ h => h.elim⟩
    intro vq wy hT
    obtain ⟨tx, rfl, htx⟩ : ∃ x : ByteArray, vq = .string x ∧ x.size ≤ 5 := hT
    clear wy
    go_frame
    repeat (refine Calm.walk_quiet ne rfl rfl rfl (fun K hK => ?_); go_big_quiet_op; refine hK _ ?_; clear hK K)
    refine Calm.walk_eff rfl rfl (fun nn wy hn hG _ => ?_) ?_
    · unfold gives
      go_simp
      refine (IH.out (m + 1 + (draws dep + 1) * nn) wy hG.2 (by have h1 := MM.out; have h2 : (draws dep + 1) * nn ≤ 401 * 12 := Nat.mul_le_mul (by have := DD.out; omega) (by have : nn < 5 := hn; omega); omega)).mono ?_
      rintro e wz ⟨v, rfl, hv, hq, hk⟩
      exact ⟨_, rfl, hv.lower hG.1.size, hk, ⟨hG.1.trans hk, hq.mono (by rw [Nat.mul_succ]; omega)⟩, fun _ h => h.elim⟩
    intro vq wy hT
    obtain ⟨c1, x1, rfl, s1, -, -⟩ : GotX dep wy w1.heap.size vq := hT
    clear wy
    have S1 := Lib.hid s1
    clear s1
    go_frame
    refine Calm.walk_eff rfl rfl (fun nn wy hn hG _ => ?_) ?_
    · refine gives_buildSlice 25 89 1 _ rfl Tryz.underlying25 I1.out.1 I1.out.2.1 (by rw [I1.out.2.2.1]; decide) (by rw [I1.out.2.2.1]; decide) [(0, .agg c1)] rfl (by simp only [Contig, Value.cells, I1.out.2.2.1, S1.out]; exact ⟨trivial, trivial⟩) (by simp [allCells, Value.cells, I1.out.2.2.1, S1.out]) ?_
      exact ⟨⟨wy.heap.size, hG.1.size, rfl, Blk.new _ _ _⟩, (Keep.refl _ _).alloc _, ⟨hG.1.alloc _, (hG.2.far ((Keep.refl none_ _).alloc _) (fun _ e => e.elim)).mono (by rw [Nat.mul_succ]; omega)⟩, fun _ h => h.elim⟩
    intro vq wy hT
    obtain ⟨bx, hbx, rfl, -⟩ : ∃ b, w1.heap.size ≤ b ∧ vq = .slice (some ⟨b, 0, none⟩) 1 1 ∧ _ := hT
    clear wy
    go_frame
    repeat (refine Calm.walk_quiet ne rfl rfl rfl (fun K hK => ?_); go_big_quiet_op; refine hK _ ?_; clear hK K)
    intro w7 hG hD
    have bb : ∃ b, w1.heap.size ≤ b ∧ Value.slice (some ⟨bx, 0, none⟩) 1 1 = .slice (some ⟨b, 0, none⟩) 1 1 ∧ Blk w7 b 89 (c1.toList ++ []).toArray := (hD.1 9 rfl _ rfl ⟨rfl, rfl⟩).1
    have K7 := Lib.hid (show Keep (one g) w1 w7 from hG.1)
    have T7 := Lib.hid (show TapeAt w7 g (m + 1 + (draws dep + 1) * 5) from hG.2)
    obtain ⟨c2, x2, e2, s2, a2, m2⟩ : GotX dep w7 w1.heap.size (.agg c1) := (hD.1 8 rfl _ rfl ⟨rfl, rfl⟩).1
    injection e2 with e2
    subst e2
    obtain ⟨b', -, e3, bb⟩ := bb
    obtain rfl : bx = b' := by simpa using e3
    have BX := Lib.hid (show Blk w7 bx 89 c1 from by simpa using bb)
    have A2 := Lib.hid a2
    have M2 := Lib.hid m2
    have LX := Lib.hid hbx
    have TX := Lib.hid htx
    have B7 := Lib.hid (Br.out.keep K7.out (fun e => GN.out (by unfold one at e; first | exact e | exact e.symm)))
    have KW7 := Lib.hid (Kr.out.trans K7.out)
    clear hG hD gd ne e3 bb a2 m2 s2 hbx htx
    simp only [pickOps, List.filterMap_cons, List.filterMap_nil, List.getElem?_toArray, List.getElem?_cons_succ, List.getElem?_cons_zero]
    refine wpList_store_blk rfl 89 (.tmp 4) (.tmp 90) rfl w.heap.size 89 _ #[.int .i64 5, .string ⟨#[]⟩, .int .i64 0, .int .i64 0, .int .i64 0, .int .i64 0, .string tx, .slice (some ⟨bx, 0, none⟩) 1 1] rfl rfl B7.out rfl (by kernel_rfl) (by simp [Value.oneCell']) ?_
    intro wz bz kz sz
    have BZ := Lib.hid bz
    have KZ := Lib.hid kz
    clear bz kz sz
    go_frame
    go_wp2
    
    have GX := Lib.hid (show GotX (dep + 1) wz w.heap.size (.agg #[.int .i64 5, .string ⟨#[]⟩, .int .i64 0, .int .i64 0, .int .i64 0, .int .i64 0, .string tx, .slice (some ⟨bx, 0, none⟩) 1 1]) from GotX.node 5 0 0 0 0 tx (by decide) (Nat.le_trans TX.out (by decide)) (one_arg (BX.out.keep KZ.out (fun e => by have := Br.out.lt; have := LX.out; unfold one at e; omega)) (by have := Br.out.lt; have := LX.out; omega) S1.out ((A2.out.low KZ.out (fun b e => by cases e; exact Br.out.lt)).lower (Nat.le_of_lt Br.out.lt))) (by exact Nat.le_succ 1) (fun z hz => by rcases List.mem_cons.1 hz with rfl | hz; exact M2.out; cases hz))
    have TT := Lib.hid (show TapeAt wz g (m + 40 * (draws dep + 1)) from (T7.out.far (S := one w.heap.size) KZ.out (fun b e => by cases e; exact GL.out)).mono (by omega))
    have KK := Lib.hid (show Keep (one g) w wz from KW7.out.own KZ.out (Nat.le_refl _))
    try simp only [Exit.inBlock, Exit.then]
    refine bodyPost_ret (v := .agg #[.int .i64 5, .string ⟨#[]⟩, .int .i64 0, .int .i64 0, .int .i64 0, .int .i64 0, .string tx, .slice (some ⟨bx, 0, none⟩) 1 1]) (results_cell Tryz.results29 rfl (run_loadVar_blk BZ.out Tryz.underlying89 rfl (by kernel_rfl))) rfl ?_
    exact ⟨_, rfl, GX.out, TT.out, KK.out⟩

end Go.Proofs.YtnefbeplgfdkkaaGreatDoor
