/-
  The law's sanity check, and the law.
-/
import Derived.Test.YtebdgoikmclflaaGreatDoorEb45
import Derived.Test.YtebdgoikmclflaaGreatDoorEb46
namespace Go.Proofs.YtebdgoikmclflaaGreatDoor
open Go.RowKit

/-- The header of the law, k entries of its matrices laid. -/
def pc (k : Nat) : Array Value := (plS.seven ++ ((mixL 64 k 0 16).map (Value.int .u8) ++ (mixL 64 k 0 16).map (Value.int .u8))).toArray
theorem pc_next (k : Nat) (hk : k < 64) : ((pc k).setIfInBounds (7 + k) (.int .u8 16)).setIfInBounds (71 + k) (.int .u8 16) = pc (k + 1) := by
  have hl : ((mixL 64 k 0 16).map (Value.int .u8)).length = 64 := by rw [List.length_map, mixL_length (by omega)]
  have h7 : plS.seven.length = 7 := rfl
  have hs : ((mixL 64 k 0 16).map (Value.int .u8)).set k (.int .u8 16) = (mixL 64 (k + 1) 0 16).map (Value.int .u8) := by rw [← List.map_set, mixL_set hk]
  unfold pc
  rw [List.setIfInBounds_toArray, List.setIfInBounds_toArray]
  congr 1
  rw [List.set_append, if_neg (by omega), show 7 + k - plS.seven.length = k by omega]
  rw [List.set_append, if_neg (by omega), show 71 + k - plS.seven.length = 64 + k by omega]
  rw [List.set_append, if_pos (by omega), hs]
  rw [List.set_append, if_neg (by rw [List.length_map, mixL_length (by omega)]; omega), List.length_map, mixL_length (by omega), show 64 + k - 64 = k by omega, hs]
theorem pc_size (k : Nat) (hk : k ≤ 64) : (pc k).size = 135 := by
  unfold pc
  simp [mixL_length hk, Sq.seven]
theorem pc_all : pc 64 = plV := by kernel_rfl
theorem pc_none : pc 0 = (plS.seven ++ List.replicate 128 (Value.int .u8 0)).toArray := by kernel_rfl
theorem bytes_const {w : World} {v : Value} {N : Nat} {z : Int} (h : BytesOf w none_ v (List.replicate N z)) (hz : 0 ≤ z ∧ z ≤ 255) : ∃ A c, v = .slice A N c ∧ CstS w none_ N z A c := by
  obtain ⟨A, n, c, rfl, hr, -⟩ := h
  have hl := hr.len
  rw [List.length_map, List.length_replicate, Nat.mul_one] at hl
  subst hl
  exact ⟨A, c, rfl, hr, hz⟩
theorem frC_of {w : World} {v : Value} (h : FrameOf w none_ v ⟨16, 16, List.replicate 256 128, List.replicate 64 128, List.replicate 64 128⟩) : ∃ A1 A2 A3 c1 c2 c3, v = .agg (srV A1 A2 A3 c1 c2 c3).toArray ∧ FrC w 128 A1 A2 A3 c1 c2 c3 := by
  obtain ⟨y, u, x, rfl, h1, h2, h3⟩ := h
  obtain ⟨A1, c1, rfl, q1⟩ := bytes_const h1 (by decide)
  obtain ⟨A2, c2, rfl, q2⟩ := bytes_const h2 (by decide)
  obtain ⟨A3, c3, rfl, q3⟩ := bytes_const h3 (by decide)
  exact ⟨A1, A2, A3, c1, c2, c3, rfl, q1, q2, q3⟩
set_option maxRecDepth 100000 in
set_option maxHeartbeats 4000000 in
theorem plain_any (w : World) : Calls Tryz.prog 9 #[] w fun e w' => e = .returned (.agg plV) ∧ Keep none_ w w' := by
  obtain ⟨zc, ze, sz⟩ : ∃ zc : Array Value, (∀ w, (zeroValue 26).run Tryz.prog w = .ok (.agg zc) w) ∧ zc.size = 135 := ⟨Tryz.zeroCells26, fun w => by kernel_rfl, by kernel_rfl⟩
  have SZ := Lib.hid sz
  clear sz
  obtain ⟨W0, hW0⟩ : ∃ W0, W0 = w.alloc (.cells zc 26) := ⟨_, rfl⟩
  have K0 := Lib.hid (show Keep none_ w W0 from hW0 ▸ (Keep.refl _ _).alloc _)
  have R0 := Lib.hid (show Blk W0 w.heap.size 26 zc from hW0 ▸ Blk.new _ _ _)
  have L0 := Lib.hid (show w.heap.size < W0.heap.size from R0.out.lt)
  go_enter Tryz.func9, Tryz.ntmps9
  go_upto_region 1 with (fail)
  rw [← hW0]
  clear hW0
  have tk1 : True := trivial
  have tk2 : True := trivial
  go_upto_region 2 with (first | (have _t := tk1; refine wpList_build_is 26 _ rfl rfl (pc 0) (by kernel_rfl) ?_; go_frame; clear _t tk1) | (have _t := tk2; refine wpList_store_blk rfl 26 (.tmp 1) (.tmp 4) rfl (W0.heap.size) 26 _ (pc 0) rfl rfl (Blk.new _ _ _) (by rw [SZ.out, pc_size 0 (by omega)]) (by rw [pc_size 0 (by omega)]; kernel_rfl) (by kernel_rfl) ?_; intro w1 B1_ K1_ sz_; have B1 := Lib.hid B1_; have K1 := Lib.hid K1_; clear B1_ K1_ sz_; go_frame; clear _t tk2))
  have K1' := Lib.hid (show Keep none_ w w1 from K0.out.trans (((Keep.refl none_ W0).alloc _).own K1.out (Nat.le_refl _)))
  have R1 := Lib.hid ((R0.out.keep ((Keep.refl none_ W0).alloc _) (fun e => e)).keep K1.out (fun e => by have := L0.out; unfold one at e; omega))
  obtain ⟨g, hg⟩ : ∃ g, g = W0.heap.size := ⟨_, rfl⟩
  have LG := Lib.hid (show w.heap.size < g from hg ▸ L0.out)
  rw [← hg] at B1 ⊢
  clear hg K1
  go_wp2_with (fail)
  go_loopw [2] (fun i wr => ∃ k : Nat, k ≤ 64 ∧ i = .int .i64 k ∧ Blk wr g 26 (pc k) ∧ Keep (one g) w1 wr) (fun i _ => 64 - (intOf i).toNat)
  case atStart => exact ⟨0, by decide, rfl, B1.out, Keep.refl _ _⟩
  case round =>
    obtain ⟨k, hk, rfl, hb, hkr⟩ := hrel
    have HB := Lib.hid hb
    have HK := Lib.hid hkr
    clear hb hkr
    by_cases hlt : k < 64
    · have hlt' : (k : Int) < 64 := by omega
      have z1 := Blk.frozen HB.out (7 + k)
      obtain ⟨u1, x1⟩ : ∃ u, wr.cell? ⟨g, 7 + k, none⟩ = some u := ⟨_, by rw [HB.out.cell]; exact Array.getElem?_eq_getElem (by rw [pc_size k hk]; omega)⟩
      have HB2 := Lib.hid (HB.out.set_ (7 + k) (.int .u8 16))
      have z2 := Blk.frozen HB2.out (71 + k)
      obtain ⟨u2, x2⟩ : ∃ u, (wr.setCell ⟨g, 7 + k, none⟩ (.int .u8 16)).cell? ⟨g, 71 + k, none⟩ = some u := ⟨_, by rw [HB2.out.cell]; exact Array.getElem?_eq_getElem (by rw [Array.size_setIfInBounds, pc_size k hk]; omega)⟩
      have HB3 := Lib.hid (show Blk ((wr.setCell ⟨g, 7 + k, none⟩ (.int .u8 16)).setCell ⟨g, 71 + k, none⟩ (.int .u8 16)) g 26 (pc (k + 1)) from by have h := HB2.out.set_ (71 + k) (.int .u8 16); rw [pc_next k hlt] at h; exact h)
      have KS := Lib.hid (show Keep (one g) w1 ((wr.setCell ⟨g, 7 + k, none⟩ (.int .u8 16)).setCell ⟨g, 71 + k, none⟩ (.int .u8 16)) from (HK.out.setCell (p := ⟨g, 7 + k, none⟩) (.inl rfl) _).setCell (p := ⟨g, 71 + k, none⟩) (.inl rfl) _)
      go_wp2
      go_roundw
      case rel => exact ⟨k + 1, hlt, by go_num, HB3.out, KS.out⟩
      case measure => simp [intOf]; omega
    · obtain rfl : k = 64 := by omega
      have HV := Lib.hid (show Blk wr g 26 plV from by have h := HB.out; rw [pc_all] at h; exact h)
      have RV := Lib.hid (R1.out.keep HK.out (fun e => by have := LG.out; unfold one at e; omega))
      clear hlt hk HB
      have tk3 : True := trivial
      have tk4 : True := trivial
      go_wp2_with (first | (have _t := tk3; refine wpList_load_part 26 (.tmp 1) rfl rfl (g) (0) rfl (plV) _ (HV.out.rangeAt) Tryz.underlying26 rfl (by rw [plV_size]; kernel_rfl) ?_; go_frame; clear _t tk3) | (have _t := tk4; refine wpList_store_blk rfl 26 (.tmp 0) (.tmp 15) rfl (w.heap.size) 26 _ (plV) rfl rfl (RV.out) (by rw [SZ.out, plV_size]) (by rw [plV_size]; kernel_rfl) (plV_one) ?_; intro w3 B3_ K3_ sz_; have B3 := Lib.hid B3_; have K3 := Lib.hid K3_; clear B3_ K3_ sz_; go_frame; clear _t tk4))
      refine bodyPost_ret (results_cell Tryz.results9 rfl (run_loadVar_blk B3.out Tryz.underlying26 rfl (by rw [plV_size]; kernel_rfl))) rfl ⟨rfl, (K1'.out.own HK.out (by have := LG.out; omega)).own K3.out (Nat.le_refl _)⟩
def PicV (v : Value) (w : World) : Prop := ∃ b c d1 d2 d3, v = .tuple #[.agg (cod1 b c), .agg (frV d1 d2 d3), .int .i64 0] ∧ NewFr w 0 128 d1 d2 d3
theorem PicV.keep {v : Value} {w w' : World} (h : PicV v w) (k : Keep none_ w w') : PicV v w' := by
  obtain ⟨b, c, d1, d2, d3, e, n⟩ := h
  exact ⟨b, c, d1, d2, d3, e, n.keep0 k⟩
theorem PicV.out_ {b c d1 d2 d3 : Nat} {w : World} (h : PicV (.tuple #[.agg (cod1 b c), .agg (frV d1 d2 d3), .int .i64 0]) w) : NewFr w 0 128 d1 d2 d3 := by
  obtain ⟨b', c', q1, q2, q3, e, n⟩ := h
  unfold frV at e
  simp only [Value.tuple.injEq, Array.mk.injEq, List.cons.injEq, Value.agg.injEq, Value.slice.injEq, Option.some.injEq, Addr.mk.injEq, and_true, true_and] at e
  obtain ⟨-, rfl, rfl, rfl⟩ := e
  exact n
/-- A new variable of a type, whatever it holds. -/
def AnyV (lo : Nat) (t : TypeId) (n : Nat) (v : Value) (w : World) : Prop := ∃ b cs, v = .pointer (some ⟨b, 0, none⟩) ∧ lo ≤ b ∧ Blk w b t cs ∧ cs.size = n
/-- A new variable of a type is laid anew. -/
def Chg (lo : Nat) (t : TypeId) (n : Nat) (w w' : World) : Prop := ∃ b cs0 cs1, lo ≤ b ∧ Blk w b t cs0 ∧ Blk w' b t cs1 ∧ cs1.size = n ∧ Keep (one b) w w'
theorem AnyV.keep {lo : Nat} {t : TypeId} {n : Nat} {v : Value} {w w' : World} (h : AnyV lo t n v w) (k : Keep none_ w w') : AnyV lo t n v w' := by
  obtain ⟨b, cs, e, h1, h2, h3⟩ := h
  exact ⟨b, cs, e, h1, h2.keep k (fun e => e), h3⟩
theorem AnyV.chg {lo : Nat} {t : TypeId} {n : Nat} {v : Value} {w w' : World} (h : AnyV lo t n v w) (k : Chg lo t n w w') : AnyV lo t n v w' := by
  obtain ⟨b, cs, e, h1, h2, h3⟩ := h
  obtain ⟨b', c0, c1, -, q1, q2, q3, q4⟩ := k
  by_cases hb : b = b'
  · subst hb
    exact ⟨b, c1, e, h1, q2, q3⟩
  · exact ⟨b, cs, e, h1, h2.keep q4 (fun e => hb e), h3⟩
theorem AnyV.chg' {lo : Nat} {t t' : TypeId} {n n' : Nat} {v : Value} {w w' : World} (h : AnyV lo t n v w) (ht : t ≠ t') (k : Chg lo t' n' w w') : AnyV lo t n v w' := by
  obtain ⟨b, cs, e, h1, h2, h3⟩ := h
  obtain ⟨b', c0, c1, -, q1, q2, q3, q4⟩ := k
  exact ⟨b, cs, e, h1, h2.keep q4 (fun e => Blk.ne_ h2 q1 ht e), h3⟩
theorem PicV.chg {lo n : Nat} {t : TypeId} {v : Value} {w w' : World} (h : PicV v w) (ht : 5 ≠ t) (k : Chg lo t n w w') : PicV v w' := by
  obtain ⟨b, c, d1, d2, d3, e, m⟩ := h
  obtain ⟨b', c0, c1, -, q1, q2, q3, q4⟩ := k
  exact ⟨b, c, d1, d2, d3, e, m.keep q4 (fun e => Blk.ne_ m.y.1 q1 ht e) (fun e => Blk.ne_ m.u.1 q1 ht e) (fun e => Blk.ne_ m.v.1 q1 ht e)⟩
/-- What has been stored. -/
def Laid (t : TypeId) (vs : List Value) (w : World) : Prop := ∃ b cs, vs[0]? = some (.pointer (some ⟨b, 0, none⟩)) ∧ vs[1]? = some (.agg cs) ∧ Blk w b t cs
theorem Laid.keep {t : TypeId} {vs : List Value} {w w' : World} (h : Laid t vs w) (k : Keep none_ w w') : Laid t vs w' := by
  obtain ⟨b, cs, h1, h2, h3⟩ := h
  exact ⟨b, cs, h1, h2, h3.keep k (fun e => e)⟩
theorem Laid.chg {lo n : Nat} {t t' : TypeId} {vs : List Value} {w w' : World} (h : Laid t vs w) (ht : t ≠ t') (k : Chg lo t' n w w') : Laid t vs w' := by
  obtain ⟨b, cs, h1, h2, h3⟩ := h
  obtain ⟨b', c0, c1, -, q1, q2, q3, q4⟩ := k
  exact ⟨b, cs, h1, h2, h3.keep q4 (fun e => Blk.ne_ h3 q1 ht e)⟩
def awkCalm (wr : World) : Calm where
  R := fun i w w' => if i = 11 then Chg wr.heap.size 39 8 w w' else if i = 12 then Chg wr.heap.size 32 5 w w' else Keep none_ w w'
  G := fun _ w => Keep (fun b => wr.heap.size ≤ b) wr w
  eff := [0, 4, 9, 10, 11, 12]
  T := fun k vs v w => if k = 0 then v = .agg plV else if k = 4 then PicV v w else if k = 9 then AnyV wr.heap.size 39 8 v w else if k = 10 then AnyV wr.heap.size 32 5 v w else if k = 11 then Laid 39 vs w else Laid 32 vs w
  anc := fun k => if k = 11 then [9] else if k = 12 then [10] else []
  own := fun _ _ _ => False
theorem Chg.up {wr w w' : World} {t : TypeId} {n : Nat} (h : Chg wr.heap.size t n w w') : Keep (fun b => wr.heap.size ≤ b) w w' := by
  obtain ⟨b, c0, c1, h1, -, -, -, k⟩ := h
  exact k.mono (fun x e => by cases e; exact h1)
theorem awkCalm_good (wr : World) : (awkCalm wr).Good where
  mono := fun _ _ h => h
  size := fun i _ _ h => by
    simp only [awkCalm] at h
    split at h
    · exact h.up.size
    · split at h
      · exact h.up.size
      · exact h.size
  stable := fun i k vs v w1 w2 hk hne h hR => by
    have hk' : k = 0 ∨ k = 4 ∨ k = 9 ∨ k = 10 ∨ k = 11 ∨ k = 12 := by simpa [awkCalm] using hk
    simp only [awkCalm] at h hR ⊢
    by_cases h11 : i = 11
    · subst h11
      rw [if_pos rfl] at hR
      rcases hk' with rfl | rfl | rfl | rfl | rfl | rfl <;> simp only [Nat.reduceEqDiff, ↓reduceIte, reduceCtorEq] at h ⊢
      · exact h
      · exact h.chg (by decide) hR
      · exact h.chg hR
      · exact h.chg' (by decide) hR
      · exact absurd rfl hne
      · exact h.chg (by decide) hR
    · rw [if_neg h11] at hR
      by_cases h12 : i = 12
      · subst h12
        rw [if_pos rfl] at hR
        rcases hk' with rfl | rfl | rfl | rfl | rfl | rfl <;> simp only [Nat.reduceEqDiff, ↓reduceIte, reduceCtorEq] at h ⊢
        · exact h
        · exact h.chg (by decide) hR
        · exact h.chg' (by decide) hR
        · exact h.chg hR
        · exact h.chg (by decide) hR
        · exact absurd rfl hne
      · rw [if_neg h12] at hR
        rcases hk' with rfl | rfl | rfl | rfl | rfl | rfl <;> simp only [Nat.reduceEqDiff, ↓reduceIte, reduceCtorEq] at h ⊢
        · exact h
        · exact h.keep hR
        · exact h.keep hR
        · exact h.keep hR
        · exact h.keep hR
        · exact h.keep hR
theorem awkCalm_at {wr : World} (x : (awkCalm wr).Sub) : Keep (fun b => wr.heap.size ≤ b) wr ((awkCalm wr).at_ x) := by
  obtain ⟨x, n, _, h⟩ := x
  exact h
theorem awkCalm_some (wr : World) : Nonempty (awkCalm wr).Sub := ⟨⟨wr, 0, Nat.zero_le _, Keep.refl _ _⟩⟩
theorem Laid.out_ {t : TypeId} {b : Nat} {cs : Array Value} {w : World} {vs : List Value} (h : Laid t vs w) (h0 : vs[0]? = some (.pointer (some ⟨b, 0, none⟩))) (h1 : vs[1]? = some (.agg cs)) : Blk w b t cs := by
  obtain ⟨b', c', e0, e1, hb⟩ := h
  rw [h0] at e0
  rw [h1] at e1
  simp only [Option.some.injEq, Value.pointer.injEq, Addr.mk.injEq, and_true, Value.agg.injEq] at e0 e1
  subst e0; subst e1
  exact hb
set_option maxRecDepth 100000 in
set_option maxHeartbeats 4000000 in
theorem awake_any (w : World) : Calls Tryz.prog 4 #[] w fun e w' => e = .returned (.bool true) ∧ Keep none_ w w' := by
  go_enter Tryz.func4, Tryz.ntmps4
  have tk5 : True := trivial
  have tk6 : True := trivial
  go_upto_region 2 with (first | (have _t := tk5; go_at_call 7; refine (flat_any 16 16 256 64 128 128 128 w (by decide) (by decide) rfl rfl (by decide) (by decide) (by decide) (by decide) (by decide)).mono ?_; rintro e w1 ⟨v, rfl, hf, k⟩; obtain ⟨A1, A2, A3, c1, c2, c3, rfl, hs⟩ := frC_of hf; have HS1 := Lib.hid hs; have K1 := Lib.hid k; clear hf hs k; clear _t tk5) | (have _t := tk6; refine wpList_store_blk rfl 32 (.tmp 1) (.tmp 5) rfl (w1.heap.size) 32 _ ((srV A1 A2 A3 c1 c2 c3).toArray) rfl rfl (Blk.new _ _ _) (rfl) (by kernel_rfl) (by kernel_rfl) ?_; intro w2 B2_ KX2_ sz_; have B2 := Lib.hid B2_; have KX2 := Lib.hid KX2_; clear B2_ KX2_ sz_; go_frame; clear _t tk6))
  have k12 : Keep none_ w1 w2 := ((Keep.refl none_ w1).alloc _).own KX2.out (Nat.le_refl _)
  have HS2 := Lib.hid (HS1.out.keep k12)
  have K2 := Lib.hid (K1.out.trans k12)
  obtain ⟨gf, hgf⟩ : ∃ gf, gf = w1.heap.size := ⟨_, rfl⟩
  rw [← hgf] at B2 ⊢
  clear hgf KX2 k12 HS1 K1
  have gd := awkCalm_good w2
  have ne := awkCalm_some w2
  have LF := Lib.hid (show ¬ w2.heap.size ≤ gf from by have := B2.out.lt; omega)
  refine wp_region_calm (awkCalm w2) [0, 1, 2, 3, 4, 5, 6, 7, 8, 9, 10, 11, 12] [13] 28 (by kernel_rfl) (by kernel_rfl) rfl gd (Keep.refl _ _).drew ?_
  simp only [pairs, List.filterMap_cons, List.filterMap_nil, List.getElem?_toArray, List.getElem?_cons_succ, List.getElem?_cons_zero, Option.map_some]
  refine Calm.walk_eff rfl rfl (fun n wy _ hG _ => ?_) ?_
  · have kR : Keep (fun b => w2.heap.size ≤ b) w2 wy := hG
    unfold gives
    go_simp
    refine (plain_any wy).mono ?_
    rintro e wz ⟨rfl, hk⟩
    exact ⟨_, rfl, rfl, hk, kR.trans hk.weak, fun _ h => h.elim⟩
  intro v wy hv
  obtain rfl : v = .agg plV := hv
  clear wy
  go_frame
  repeat (refine Calm.walk_quiet ne rfl rfl rfl (fun K hK => ?_); go_big_quiet_op; refine hK _ ?_; clear hK K)
  refine Calm.walk_load 32 (.tmp 1) rfl ne rfl rfl gf 0 rfl (srV A1 A2 A3 c1 c2 c3).toArray _ (fun y => (B2.out.keep (awkCalm_at y) LF.out).rangeAt) Tryz.underlying32 rfl (by kernel_rfl) ?_
  go_frame
  refine Calm.walk_build 45 _ rfl ne rfl rfl rfV (by kernel_rfl) ?_
  go_frame
  refine Calm.walk_eff rfl rfl (fun n wy _ hG _ => ?_) ?_
  · have kR : Keep (fun b => w2.heap.size ≤ b) w2 wy := hG
    unfold gives
    go_simp
    refine (picture_any A1 A2 A3 c1 c2 c3 wy (HS2.out.keep ((Keep.refl none_ w2).then kR (fun b e => .inr e)))).mono ?_
    rintro e wz ⟨b, c, d1, d2, d3, rfl, hn, hk⟩
    exact ⟨_, rfl, ⟨b, c, d1, d2, d3, rfl, hn⟩, hk, kR.trans hk.weak, fun _ h => h.elim⟩
  intro v wy hv
  obtain ⟨b, c, d1, d2, d3, rfl, -⟩ : PicV v wy := hv
  clear wy
  go_frame
  repeat (refine Calm.walk_quiet ne rfl rfl rfl (fun K hK => ?_); go_big_quiet_op; refine hK _ ?_; clear hK K)
  refine Calm.walk_eff rfl rfl (fun n wy _ hG _ => ?_) ?_
  · have kR : Keep (fun b => w2.heap.size ≤ b) w2 wy := hG
    refine gives_mono (X := fun v w' => v = .pointer (some ⟨wy.heap.size, 0, none⟩) ∧ w' = wy.alloc (.cells codZ 39)) ?_ ?_
    · unfold gives
      go_simp
      try rfl
    · rintro _ _ ⟨rfl, rfl⟩
      exact ⟨⟨_, _, rfl, kR.size, Blk.new _ _ _, rfl⟩, (Keep.refl _ _).alloc _, kR.alloc _, fun _ h => h.elim⟩
  intro v wy hv
  obtain ⟨gco, -, rfl, -, -, -⟩ : AnyV w2.heap.size 39 8 v wy := hv
  clear wy
  go_frame
  refine Calm.walk_eff rfl rfl (fun n wy _ hG _ => ?_) ?_
  · have kR : Keep (fun b => w2.heap.size ≤ b) w2 wy := hG
    refine gives_mono (X := fun v w' => v = .pointer (some ⟨wy.heap.size, 0, none⟩) ∧ w' = wy.alloc (.cells zeroFrame 32)) ?_ ?_
    · unfold gives
      go_simp
      try rfl
    · rintro _ _ ⟨rfl, rfl⟩
      exact ⟨⟨_, _, rfl, kR.size, Blk.new _ _ _, rfl⟩, (Keep.refl _ _).alloc _, kR.alloc _, fun _ h => h.elim⟩
  intro v wy hv
  obtain ⟨gfr, -, rfl, -, -, -⟩ : AnyV w2.heap.size 32 5 v wy := hv
  clear wy
  go_frame
  refine Calm.walk_eff rfl rfl (fun n wy _ hG hA => ?_) ?_
  · have kR : Keep (fun b => w2.heap.size ≤ b) w2 wy := hG
    obtain ⟨b', cs, e, h1, h2, h3⟩ : AnyV w2.heap.size 39 8 (.pointer (some ⟨gco, 0, none⟩)) wy := (hA 9 (by simp [awkCalm]) _ rfl ⟨rfl, rfl⟩).1
    simp only [Value.pointer.injEq, Option.some.injEq, Addr.mk.injEq, and_true] at e
    subst e
    exact gives_store_blk 39 (.tmp 2) (.tmp 12) rfl gco 39 cs (cod1 b c) rfl rfl h2 h3 (by kernel_rfl) (by kernel_rfl) (fun w' hb hk => ⟨⟨gco, _, rfl, rfl, hb⟩, ⟨gco, cs, _, h1, h2, hb, rfl, hk⟩, kR.trans (hk.mono (fun x e => by cases e; exact h1)), fun _ h => h.elim⟩)
  intro v wy hv
  clear hv wy
  go_frame
  refine Calm.walk_eff rfl rfl (fun n wy _ hG hA => ?_) ?_
  · have kR : Keep (fun b => w2.heap.size ≤ b) w2 wy := hG
    obtain ⟨b', cs, e, h1, h2, h3⟩ : AnyV w2.heap.size 32 5 (.pointer (some ⟨gfr, 0, none⟩)) wy := (hA 10 (by simp [awkCalm]) _ rfl ⟨rfl, rfl⟩).1
    simp only [Value.pointer.injEq, Option.some.injEq, Addr.mk.injEq, and_true] at e
    subst e
    exact gives_store_blk 32 (.tmp 3) (.tmp 13) rfl gfr 32 cs (frV d1 d2 d3) rfl rfl h2 h3 (by kernel_rfl) (by kernel_rfl) (fun w' hb hk => ⟨⟨gfr, _, rfl, rfl, hb⟩, ⟨gfr, cs, _, h1, h2, hb, rfl, hk⟩, kR.trans (hk.mono (fun x e => by cases e; exact h1)), fun _ h => h.elim⟩)
  intro v wy hv
  clear hv wy
  go_frame
  intro w3 hG hD
  have K3 := Lib.hid (show Keep none_ w2 w3 from (Keep.refl none_ w2).then (show Keep (fun b => w2.heap.size ≤ b) w2 w3 from hG) (fun b e => .inr e))
  have N3 := Lib.hid (PicV.out_ (show PicV (.tuple #[.agg (cod1 b c), .agg (frV d1 d2 d3), .int .i64 0]) w3 from (hD.1 4 rfl _ rfl ⟨rfl, rfl⟩).1))
  have C3 := Lib.hid (Laid.out_ (b := gco) (cs := cod1 b c) (show Laid 39 _ w3 from (hD.1 11 rfl _ rfl ⟨rfl, rfl⟩).1) rfl rfl)
  have G3 := Lib.hid (Laid.out_ (b := gfr) (cs := frV d1 d2 d3) (show Laid 32 _ w3 from (hD.1 12 rfl _ rfl ⟨rfl, rfl⟩).1) rfl rfl)
  clear hG hD gd ne
  simp only [pickOps, List.filterMap_cons, List.filterMap_nil, List.getElem?_toArray, List.getElem?_cons_succ, List.getElem?_cons_zero]
  have B3 := Lib.hid (B2.out.keep K3.out (fun e => e))
  have HS3 := Lib.hid (HS2.out.keep K3.out)
  have x7 : w3.cell? ⟨gco, 7, none⟩ = some (.slice (some ⟨b, 0, none⟩) 1 c) := C3.out.cell 7
  have tk7 : True := trivial
  have tk8 : True := trivial
  have tk9 : True := trivial
  go_wp2_with (first | (have _t := tk7; refine wpList_load_part 32 (.tmp 1) rfl rfl (gf) (0) rfl (#[.int .i64 16, .int .i64 16, .slice A1 256 c1, .slice A2 64 c2, .slice A3 64 c3]) _ (B3.out.rangeAt) Tryz.underlying32 rfl (by kernel_rfl) ?_; go_frame; clear _t tk7) | (have _t := tk8; refine wpList_load_part 32 (.tmp 3) rfl rfl (gfr) (0) rfl (#[.int .i64 16, .int .i64 16, .slice (some ⟨d1, 0, none⟩) 256 256, .slice (some ⟨d2, 0, none⟩) 64 64, .slice (some ⟨d3, 0, none⟩) 64 64]) _ (G3.out.rangeAt) Tryz.underlying32 rfl (by kernel_rfl) ?_; go_frame; clear _t tk8) | (have _t := tk9; go_at_call 10; refine (equal_any 128 A1 A2 A3 (some ⟨d1, 0, none⟩) (some ⟨d2, 0, none⟩) (some ⟨d3, 0, none⟩) c1 c2 c3 256 64 64 w3 HS3.out (N3.out.frC (by decide))).mono ?_; rintro e w4 ⟨rfl, k⟩; have K4 := Lib.hid k; clear k; clear _t tk9))
  go_ret
  exact ⟨rfl, (K2.out.trans K3.out).trans K4.out⟩
set_option maxRecDepth 100000 in
set_option maxHeartbeats 4000000 in
theorem law_any (s : Sq) (q : Int) (w : World) (ok : s.Ok) (hu : U8r s.ia ∧ U8r s.ie) : Calls Tryz.prog 3 #[.agg s.cells, .int .i64 q] w fun e w' => e = .returned (.bool true) ∧ Keep none_ w w' := by
  go_enter Tryz.func3, Tryz.ntmps3
  obtain ⟨cs, hcs⟩ : ∃ cs, cs = s.cells := ⟨_, rfl⟩
  have SZ := Lib.hid (show cs.size = 135 by rw [hcs]; exact s.cells_size ok)
  have E1 := Lib.hid (show ∀ w, Calls Tryz.prog 5 #[.agg cs, .int .i64 q] w fun e w' => e = .returned (.int .i64 (ebF s q)) ∧ Keep none_ w w' from fun w => hcs ▸ ebound_any s q w ok hu)
  have E2 := Lib.hid (show ∀ w, Calls Tryz.prog 6 #[.agg cs, .int .i64 q] w fun e w' => e = .returned (.int .i64 (ebF s q)) ∧ Keep none_ w w' from fun w => hcs ▸ erbound_any s q w ok hu)
  rw [← hcs]
  clear hcs
  obtain ⟨W0, hW0⟩ : ∃ W0, W0 = w.alloc (.cells cs 26) := ⟨_, rfl⟩
  have K0 := Lib.hid (show Keep none_ w W0 from hW0 ▸ (Keep.refl _ _).alloc _)
  have BS0 := Lib.hid (show Blk W0 w.heap.size 26 cs from hW0 ▸ Blk.new _ _ _)
  obtain ⟨r, hr⟩ : ∃ r, r = ebF s q := ⟨_, rfl⟩
  rw [← hr] at E1 E2
  clear hr
  go_upto_region 1 with (fail)
  rw [← hW0]
  clear hW0
  obtain ⟨X0, S0, H0⟩ : ∃ X : List Value → Value → World → Prop, (∀ vs v w w', X vs v w → Keep none_ w w' → X vs v w') ∧ ∀ vs v w, X vs v w ↔ (v = .bool true) := ⟨fun vs v w => v = .bool true, fun vs v w w' h k => by first | exact h | exact h, fun _ _ _ => Iff.rfl⟩
  obtain ⟨X4, S4, H4⟩ : ∃ X : List Value → Value → World → Prop, (∀ vs v w w', X vs v w → Keep none_ w w' → X vs v w') ∧ ∀ vs v w, X vs v w ↔ (v = .int .i64 r) := ⟨fun vs v w => v = .int .i64 r, fun vs v w w' h k => by first | exact h | exact h, fun _ _ _ => Iff.rfl⟩
  obtain ⟨X7, S7, H7⟩ : ∃ X : List Value → Value → World → Prop, (∀ vs v w w', X vs v w → Keep none_ w w' → X vs v w') ∧ ∀ vs v w, X vs v w ↔ (v = .int .i64 r) := ⟨fun vs v w => v = .int .i64 r, fun vs v w w' h k => by first | exact h | exact h, fun _ _ _ => Iff.rfl⟩
  have gd := pureCalm_good (W0) [⟨0, X0, S0⟩, ⟨4, X4, S4⟩, ⟨7, X7, S7⟩]
  have ne := pureCalm_some (W0) [⟨0, X0, S0⟩, ⟨4, X4, S4⟩, ⟨7, X7, S7⟩]
  refine wp_region_calm (pureCalm (W0) [⟨0, X0, S0⟩, ⟨4, X4, S4⟩, ⟨7, X7, S7⟩]) [0, 1, 2, 3, 4, 5, 6, 7, 8, 9] [10] 15 (by kernel_rfl) (by kernel_rfl) rfl gd (Keep.refl _ _).drew ?_
  simp only [pairs, List.filterMap_cons, List.filterMap_nil, List.getElem?_toArray, List.getElem?_cons_succ, List.getElem?_cons_zero, Option.map_some]
  refine Calm.walk_eff rfl rfl (fun n wy _ hR hA => ?_) ?_
  · have kR : Keep none_ (W0) wy := hR
    unfold gives
    go_simp
    refine (awake_any wy).mono ?_
    rintro e wz ⟨rfl, hk⟩
    exact ⟨_, rfl, (H0 _ _ _).2 (rfl), hk, kR.trans hk, fun _ h => h.elim⟩
  intro v wy hv
  obtain rfl : v = .bool true := (H0 _ _ _).1 hv
  clear hv
  clear wy
  go_frame
  repeat (refine Calm.walk_quiet ne rfl rfl rfl (fun K hK => ?_); go_big_quiet_op; refine hK _ ?_; clear hK K)
  refine Calm.walk_load 26 (.tmp 2) rfl ne rfl rfl (w.heap.size) (0) rfl (cs) _ (fun y => by have k_ := pureCalm_at y; exact (BS0.out.keep k_ (fun e => e)).rangeAt) Tryz.underlying26 rfl (by rw [SZ.out]; kernel_rfl) ?_
  go_frame
  repeat (refine Calm.walk_quiet ne rfl rfl rfl (fun K hK => ?_); go_big_quiet_op; refine hK _ ?_; clear hK K)
  refine Calm.walk_eff rfl rfl (fun n wy _ hR hA => ?_) ?_
  · have kR : Keep none_ (W0) wy := hR
    unfold gives
    go_simp
    refine (E1.out wy).mono ?_
    rintro e wz ⟨rfl, hk⟩
    exact ⟨_, rfl, (H4 _ _ _).2 (rfl), hk, kR.trans hk, fun _ h => h.elim⟩
  intro v wy hv
  obtain rfl : v = .int .i64 r := (H4 _ _ _).1 hv
  clear hv
  clear wy
  go_frame
  refine Calm.walk_load 26 (.tmp 2) rfl ne rfl rfl (w.heap.size) (0) rfl (cs) _ (fun y => by have k_ := pureCalm_at y; exact (BS0.out.keep k_ (fun e => e)).rangeAt) Tryz.underlying26 rfl (by rw [SZ.out]; kernel_rfl) ?_
  go_frame
  repeat (refine Calm.walk_quiet ne rfl rfl rfl (fun K hK => ?_); go_big_quiet_op; refine hK _ ?_; clear hK K)
  refine Calm.walk_eff rfl rfl (fun n wy _ hR hA => ?_) ?_
  · have kR : Keep none_ (W0) wy := hR
    unfold gives
    go_simp
    refine (E2.out wy).mono ?_
    rintro e wz ⟨rfl, hk⟩
    exact ⟨_, rfl, (H7 _ _ _).2 (rfl), hk, kR.trans hk, fun _ h => h.elim⟩
  intro v wy hv
  obtain rfl : v = .int .i64 r := (H7 _ _ _).1 hv
  clear hv
  clear wy
  go_frame
  repeat (refine Calm.walk_quiet ne rfl rfl rfl (fun K hK => ?_); go_big_quiet_op; refine hK _ ?_; clear hK K)
  intro w1 hG hD
  have K1 := Lib.hid (show Keep none_ (W0) w1 from hG)
  clear hG hD gd ne 
  clear H0 H4 H7
  clear S0 S4 S7
  clear X0 X4 X7
  simp only [pickOps, List.filterMap_cons, List.filterMap_nil, List.getElem?_toArray, List.getElem?_cons_succ, List.getElem?_cons_zero]
  go_wp2
  go_ret
  exact ⟨by simp, K0.out.trans K1.out⟩
end Go.Proofs.YtebdgoikmclflaaGreatDoor
