/-
  The law ProxyReduces: the walk.
-/
import Derived.Test.YtnpkhbcbbbpjhaaAwake
import Derived.Test.YtnpkhbcbbbpjhaaRefQ
import Derived.Test.YtnpkhbcbbbpjhaaImg
namespace Go.Proofs.Ytnpkhbcbbbpjhaa
open Go.RowKit

/-- Equal frames are the same. -/
theorem same_frames (f : Fr) (v v' : Value) (w : World) (h : FrameOf w none_ v f) (h' : FrameOf w none_ v' f) : Calls Try.prog 9 #[v, v'] w fun e w' => e = .returned (.bool true) ∧ Keep none_ w w' := by
  obtain ⟨y, u, x, rfl, ⟨A1, n1, c1, rfl, r1, -⟩, ⟨A2, n2, c2, rfl, r2, -⟩, ⟨A3, n3, c3, rfl, r3, -⟩⟩ := h
  obtain ⟨y', u', x', rfl, ⟨B1, m1, d1, rfl, s1, -⟩, ⟨B2, m2, d2, rfl, s2, -⟩, ⟨B3, m3, d3, rfl, s3, -⟩⟩ := h'
  obtain rfl : n1 = m1 := by have := r1.len; have := s1.len; simp only [List.length_map] at *; omega
  obtain rfl : n2 = m2 := by have := r2.len; have := s2.len; simp only [List.length_map] at *; omega
  obtain rfl : n3 = m3 := by have := r3.len; have := s3.len; simp only [List.length_map] at *; omega
  exact same_yes f.W f.H A1 A2 A3 B1 B2 B3 n1 n2 n3 c1 c2 c3 d1 d2 d3 f.Y f.U f.V none_ w r1 r2 r3 s1 s2 s3

/-- The facts of the law's slice of four frames. -/
def lawCalm (wr : World) (g : Nat) : Calm where
  R := fun _ => Keep (one g)
  G := fun n w' => Keep (one g) wr w' ∧ TapeAt w' g (20 * n)
  eff := [2, 4, 6, 7]
  T := fun k vs v w' => if k = 7 then ∃ b, wr.heap.size ≤ b ∧ v = .slice (some ⟨b, 0, none⟩) 4 4 ∧ Blk w' b 24 (vs.flatMap fun v => v.cells.toList).toArray else ∃ f, FrameOf w' (one g) v f
  anc := fun _ => []
  own := fun _ _ _ => False
theorem lawCalm_good (wr : World) (g : Nat) (hg : g < wr.heap.size) : (lawCalm wr g).Good where
  mono := fun _ _ h => ⟨h.1, h.2.mono (by omega)⟩
  size := fun _ _ _ h => h.size
  stable := fun _ k _ _ w1 w2 _ _ h hR => by
    simp only [lawCalm] at h ⊢
    split at h
    · obtain ⟨b, hb, e, h⟩ := h
      rw [if_pos (by assumption)]
      exact ⟨b, hb, e, h.keep hR (fun e => by cases e; omega)⟩
    · obtain ⟨f, h⟩ := h
      rw [if_neg (by assumption)]
      exact ⟨f, h.keep hR⟩
theorem lawCalm_at {wr : World} {g : Nat} (x : (lawCalm wr g).Sub) : Keep (one g) wr ((lawCalm wr g).at_ x) := by
  obtain ⟨x, n, _, h⟩ := x
  exact h.1

/-- A frame's five cells within a block. -/
theorem five {w : World} {b o : Nat} {t : TypeId} {cs : Array Value} {a0 a1 a2 a3 a4 : Value} (hb : Blk w b t cs) (h : cs[o]? = some a0 ∧ cs[o + 1]? = some a1 ∧ cs[o + 2]? = some a2 ∧ cs[o + 3]? = some a3 ∧ cs[o + 4]? = some a4) : w.rangeAt b o [a0, a1, a2, a3, a4] := by
  intro j v hv
  rw [hb.cell]
  obtain ⟨h0, h1, h2, h3, h4⟩ := h
  match j with
  | 0 => rw [Nat.add_zero, h0]; simpa using hv
  | 1 => rw [h1]; simpa using hv
  | 2 => rw [h2]; simpa using hv
  | 3 => rw [h3]; simpa using hv
  | 4 => rw [h4]; simpa using hv
  | j + 5 => simp at hv

set_option maxRecDepth 100000 in
set_option maxHeartbeats 400000 in
theorem law3_any (f0 : Fr) (v0 : Value) (A : Option Addr) (n c : Nat) (zs : List Int) (w : World) (hf : FrameOf w none_ v0 f0) (hr : Row w none_ 1 A n c (zs.map (Value.int .i64))) (hz : I64s zs) :
    Calls Try.prog 3 #[v0, .slice A n c] w fun e w' => e = .returned (.bool true) ∧ Keep none_ w w' := by
  obtain ⟨y, u, x, rfl, ⟨A1, n1, c1, rfl, hy⟩, ⟨A2, n2, c2, rfl, hu⟩, ⟨A3, n3, c3, rfl, hx⟩⟩ := hf
  have HY := Lib.hid hy
  have HU := Lib.hid hu
  have HX := Lib.hid hx
  have HR := Lib.hid hr
  have HZ := Lib.hid hz
  clear hy hu hx hr hz
  go_enter Try.func3, Try.ntmps3
  go_upto_region 2 with (fail)
  obtain ⟨W0, hW0⟩ : ∃ W0, W0 = (w.alloc (.cells #[.int .i64 f0.W, .int .i64 f0.H, .slice A1 n1 c1, .slice A2 n2 c2, .slice A3 n3 c3] 24)).alloc (.cells #[.slice A n c, .int .i64 0] 28) := ⟨_, rfl⟩
  obtain ⟨b0, b1, k0⟩ := two (w := w) (t0 := 24) (c0 := #[.int .i64 f0.W, .int .i64 f0.H, .slice A1 n1 c1, .slice A2 n2 c2, .slice A3 n3 c3]) (t1 := 28) (c1 := #[.slice A n c, .int .i64 0]) (w1 := W0) (hW0 ▸ Keep.refl none_ W0)
  rw [← hW0]
  clear hW0
  have hg : w.heap.size + 1 < W0.heap.size := b1.lt
  have ht : TapeAt W0 (w.heap.size + 1) 0 := ⟨A, n, c, 0, zs, b1, Nat.le_refl _, ((HR.out.fresh (S := ge (w.heap.size + 1)) (fun k e => by unfold ge at e; omega) (by decide)).keep k0.weak), HZ.out⟩
  have hF0 : FrameOf W0 (one (w.heap.size + 1)) (.agg #[.int .i64 f0.W, .int .i64 f0.H, .slice A1 n1 c1, .slice A2 n2 c2, .slice A3 n3 c3]) f0 := by
    have fr : ∀ {B m d} {xs : List Int}, Row w none_ 1 B m d (xs.map (Value.int .u8)) ∧ U8s xs → BytesOf W0 (one (w.heap.size + 1)) (.slice B m d) xs := fun h => ⟨_, _, _, rfl, (h.1.fresh (S := one (w.heap.size + 1)) (fun k e => by cases e; omega) (by decide)).keep k0.weak, h.2⟩
    exact ⟨_, _, _, rfl, fr HY.out, fr HU.out, fr HX.out⟩
  have HF0 := Lib.hid hF0
  clear HY HU HX HR HZ hF0
  have gd := lawCalm_good W0 (w.heap.size + 1) hg
  have ne : Nonempty (lawCalm W0 (w.heap.size + 1)).Sub := ⟨⟨W0, 0, Nat.zero_le _, Keep.refl _ _, ht⟩⟩
  have n0 : ¬ one (w.heap.size + 1) w.heap.size := fun e => by unfold one at e; omega
  have x0 := fun x => (b0.keep (lawCalm_at x) n0).cell 0
  have x1 := fun x => (b0.keep (lawCalm_at x) n0).cell 1
  have x2 := fun x => (b0.keep (lawCalm_at x) n0).cell 2
  have x3 := fun x => (b0.keep (lawCalm_at x) n0).cell 3
  have x4 := fun x => (b0.keep (lawCalm_at x) n0).cell 4
  simp only [List.getElem?_toArray, List.getElem?_cons_zero, List.getElem?_cons_succ] at x0 x1 x2 x3 x4
  refine wp_region_calm (lawCalm W0 (w.heap.size + 1)) [0, 1, 2, 3, 4, 5, 6, 7, 8, 9] [] 49 (by kernel_rfl) (by kernel_rfl) rfl gd ⟨(Keep.refl _ _).drew, ht.far ((Keep.refl none_ _).drew) (fun _ e => e.elim)⟩ ?_
  simp only [pairs, List.filterMap_cons, List.filterMap_nil, List.getElem?_toArray, List.getElem?_cons_succ, List.getElem?_cons_zero, Option.map_some]
  repeat (refine Calm.walk_quiet ne rfl rfl rfl (fun K hK => ?_); go_big_quiet_op; refine hK _ ?_; clear hK K)
  refine Calm.walk_eff rfl rfl (fun n w2 hn hG _ => ?_) ?_
  · unfold gives
    go_simp
    have hn' : n < 4 := hn
    refine (image_any (w.heap.size + 1) (20 * n) 32 32 1024 256 w2 hG.2 (by omega) (by decide) (by decide) (by decide) rfl rfl (by decide)).mono ?_
    rintro e w3 ⟨v, f, rfl, hf, ht, hk, -⟩
    exact ⟨_, rfl, ⟨f, hf⟩, hk, ⟨hG.1.trans hk, ht.mono (by omega)⟩, fun _ h => h.elim⟩
  rintro v w2 ⟨f1, y1, u1, z1, rfl, ⟨B1, m1, d1, rfl, -⟩, ⟨B2, m2, d2, rfl, -⟩, ⟨B3, m3, d3, rfl, -⟩⟩
  clear w2
  go_frame
  repeat (refine Calm.walk_quiet ne rfl rfl rfl (fun K hK => ?_); go_big_quiet_op; refine hK _ ?_; clear hK K)
  refine Calm.walk_eff rfl rfl (fun n w2 hn hG _ => ?_) ?_
  · unfold gives
    go_simp
    have hn' : n < 4 := hn
    refine (image_any (w.heap.size + 1) (20 * n) 64 32 2048 512 w2 hG.2 (by omega) (by decide) (by decide) (by decide) rfl rfl (by decide)).mono ?_
    rintro e w3 ⟨v, f, rfl, hf, ht, hk, -⟩
    exact ⟨_, rfl, ⟨f, hf⟩, hk, ⟨hG.1.trans hk, ht.mono (by omega)⟩, fun _ h => h.elim⟩
  rintro v w2 ⟨f2, y1, u1, z1, rfl, ⟨D1, p1, e1, rfl, -⟩, ⟨D2, p2, e2, rfl, -⟩, ⟨D3, p3, e3, rfl, -⟩⟩
  clear w2
  go_frame
  repeat (refine Calm.walk_quiet ne rfl rfl rfl (fun K hK => ?_); go_big_quiet_op; refine hK _ ?_; clear hK K)
  refine Calm.walk_eff rfl rfl (fun n w2 hn hG _ => ?_) ?_
  · unfold gives
    go_simp
    have hn' : n < 4 := hn
    refine (image_any (w.heap.size + 1) (20 * n) 16 32 512 128 w2 hG.2 (by omega) (by decide) (by decide) (by decide) rfl rfl (by decide)).mono ?_
    rintro e w3 ⟨v, f, rfl, hf, ht, hk, -⟩
    exact ⟨_, rfl, ⟨f, hf⟩, hk, ⟨hG.1.trans hk, ht.mono (by omega)⟩, fun _ h => h.elim⟩
  rintro v w2 ⟨f3, y1, u1, z1, rfl, ⟨E1, q1, g1, rfl, -⟩, ⟨E2, q2, g2, rfl, -⟩, ⟨E3, q3, g3, rfl, -⟩⟩
  clear w2
  go_frame
  refine Calm.walk_eff rfl rfl (fun n w2 hn hG _ => ?_) ?_
  · unfold gives
    go_simp
    exact ⟨⟨w2.heap.size, hG.1.size, rfl, Blk.new _ _ _⟩, (Keep.refl _ _).alloc _, ⟨hG.1.alloc _, (hG.2.far ((Keep.refl none_ _).alloc _) (fun _ e => e.elim)).mono (by omega)⟩, fun _ h => h.elim⟩
  rintro v w2 ⟨b, -, rfl, -⟩
  clear w2
  go_frame
  repeat (refine Calm.walk_quiet ne rfl rfl rfl (fun K hK => ?_); go_big_quiet_op; refine hK _ ?_; clear hK K)
  intro w2 hG hD
  have hG' : Keep (one (w.heap.size + 1)) W0 w2 := hG.1
  have kw : Keep none_ w w2 := k0.then hG' (fun k e => by cases e; exact .inr (by omega))
  have h7 : ∃ b', W0.heap.size ≤ b' ∧ Value.slice (some ⟨b, 0, none⟩) 4 4 = .slice (some ⟨b', 0, none⟩) 4 4 ∧ Blk w2 b' 24 #[.int .i64 f0.W, .int .i64 f0.H, .slice A1 n1 c1, .slice A2 n2 c2, .slice A3 n3 c3, .int .i64 f1.W, .int .i64 f1.H, .slice B1 m1 d1, .slice B2 m2 d2, .slice B3 m3 d3, .int .i64 f2.W, .int .i64 f2.H, .slice D1 p1 e1, .slice D2 p2 e2, .slice D3 p3 e3, .int .i64 f3.W, .int .i64 f3.H, .slice E1 q1 g1, .slice E2 q2 g2, .slice E3 q3 g3] := (hD.1 7 rfl _ rfl ⟨rfl, rfl⟩).1
  have i1 : ∃ f, FrameOf w2 (one (w.heap.size + 1)) (.agg #[.int .i64 f1.W, .int .i64 f1.H, .slice B1 m1 d1, .slice B2 m2 d2, .slice B3 m3 d3]) f := (hD.1 2 rfl _ rfl ⟨rfl, rfl⟩).1
  have i2 : ∃ f, FrameOf w2 (one (w.heap.size + 1)) (.agg #[.int .i64 f2.W, .int .i64 f2.H, .slice D1 p1 e1, .slice D2 p2 e2, .slice D3 p3 e3]) f := (hD.1 4 rfl _ rfl ⟨rfl, rfl⟩).1
  have i3 : ∃ f, FrameOf w2 (one (w.heap.size + 1)) (.agg #[.int .i64 f3.W, .int .i64 f3.H, .slice E1 q1 g1, .slice E2 q2 g2, .slice E3 q3 g3]) f := (hD.1 6 rfl _ rfl ⟨rfl, rfl⟩).1
  obtain ⟨b', hb', he, h7⟩ := h7
  simp only [Value.slice.injEq, Option.some.injEq, Addr.mk.injEq, and_true] at he
  subst he
  clear hD hG x0 x1 x2 x3 x4 ne gd
  obtain ⟨f1', i1⟩ := i1
  obtain ⟨f2', i2⟩ := i2
  obtain ⟨f3', i3⟩ := i3
  have four : ∀ k : Nat, k < 4 → ∃ (f : Fr) (W H : Int) (B1 B2 B3 : Option Addr) (m1 m2 m3 d1 d2 d3 : Nat), w2.rangeAt b (k * 5) [.int .i64 W, .int .i64 H, .slice B1 m1 d1, .slice B2 m2 d2, .slice B3 m3 d3] ∧ FrameOf w2 none_ (.agg #[.int .i64 W, .int .i64 H, .slice B1 m1 d1, .slice B2 m2 d2, .slice B3 m3 d3]) f := by
    intro k hk
    match k, hk with
    | 0, _ => exact ⟨f0, _, _, _, _, _, _, _, _, _, _, _, five h7 ⟨rfl, rfl, rfl, rfl, rfl⟩, (HF0.out.keep hG').free⟩
    | 1, _ => exact ⟨f1', _, _, _, _, _, _, _, _, _, _, _, five h7 ⟨rfl, rfl, rfl, rfl, rfl⟩, i1.free⟩
    | 2, _ => exact ⟨f2', _, _, _, _, _, _, _, _, _, _, _, five h7 ⟨rfl, rfl, rfl, rfl, rfl⟩, i2.free⟩
    | 3, _ => exact ⟨f3', _, _, _, _, _, _, _, _, _, _, _, five h7 ⟨rfl, rfl, rfl, rfl, rfl⟩, i3.free⟩
  have FOUR := Lib.hid four
  clear four i1 i2 i3 h7 HF0 b0 b1 ht hG'
  simp only [pickOps, List.filterMap_nil]
  go_wp2_with fail
  go_loopw [24] (fun i wr => ∃ k : Nat, k ≤ 4 ∧ i = .int .i64 k ∧ Keep none_ w2 wr) (fun i _ => 4 - (intOf i).toNat)
  case atStart => exact ⟨0, by omega, rfl, Keep.refl _ _⟩
  case round =>
    obtain ⟨k, hk, rfl, hkr⟩ := hrel
    by_cases hlt : k < 4
    · obtain ⟨f, W, H, B1, B2, B3, m1, m2, m3, d1, d2, d3, hrg, hf⟩ := FOUR.out k hlt
      have HRG := Lib.hid (show wr.rangeAt b (k * 5) _ from fun j v hv => hkr.cell (hrg j v hv) (fun e => e))
      have HF := Lib.hid (hf.keep hkr)
      clear hrg hf
      have hlt' : (k : Int) < 4 := by omega
      go_upto_region 4 with (fail)
      go_upto_region 5 with (first | (refine wpList_load_mid rfl 24 (.tmp 26) rfl b (k * 5) (by first | rfl | simp) _ _ HRG.out Try.underlying24 rfl (by kernel_rfl) ?_) | (refine wpList_store_blk rfl 24 (.tmp 7) (.tmp 27) rfl wr.heap.size 24 _ _ rfl rfl (Blk.new _ _ _) rfl (by kernel_rfl) (by simp [Value.oneCell']) ?_; intro w3 b3 k3 s3))
      go_frame
      have kr3 : Keep none_ wr w3 := ((Keep.refl none_ wr).alloc _).own k3 (Nat.le_refl _)
      clear s3 k3
      go_wp2_with (refine wpList_load_blk rfl 24 (.tmp 7) rfl wr.heap.size 24 _ _ rfl b3 Try.underlying24 rfl (by kernel_rfl) ?_)
      refine (reduceP_any f (.agg #[.int .i64 W, .int .i64 H, .slice B1 m1 d1, .slice B2 m2 d2, .slice B3 m3 d3]) w3 none_ (HF.out.keep kr3)).mono ?_
      rintro e w4 ⟨v, rfl, hv, k4⟩
      replace b3 := b3.keep k4 (fun e => e)
      replace kr3 := kr3.trans k4
      clear k4
      obtain ⟨y, u, x, rfl, ⟨C1, o1, h1, rfl, r1, t1⟩, ⟨C2, o2, h2, rfl, r2, t2⟩, ⟨C3, o3, h3, rfl, r3, t3⟩⟩ := hv
      have HV := Lib.hid (show FrameOf w4 none_ (.agg #[.int .i64 (redF f).W, .int .i64 (redF f).H, .slice C1 o1 h1, .slice C2 o2 h2, .slice C3 o3 h3]) (redF f) from ⟨_, _, _, rfl, ⟨_, _, _, rfl, r1, t1⟩, ⟨_, _, _, rfl, r2, t2⟩, ⟨_, _, _, rfl, r3, t3⟩⟩)
      clear r1 r2 r3 t1 t2 t3
      go_upto_region 6 with (refine wpList_store_blk rfl 24 (.tmp 8) (.tmp 31) rfl w4.heap.size 24 _ _ rfl rfl (Blk.new _ _ _) rfl (by kernel_rfl) (by simp [Value.oneCell']) ?_; intro w5 b5 k5 s5)
      have l4 := b3.lt
      replace b3 := (b3.alloc (.cells zeroFrame 24)).keep k5 (fun e => by unfold one at e; omega)
      have kr5 : Keep none_ w4 w5 := ((Keep.refl none_ w4).alloc _).own k5 (Nat.le_refl _)
      replace kr3 := kr3.trans kr5
      replace HV := Lib.hid (HV.out.keep kr5)
      clear s5 k5 kr5 l4
      go_wp2_with (refine wpList_load_blk rfl 24 (.tmp 7) rfl wr.heap.size 24 _ _ rfl b3 Try.underlying24 rfl (by kernel_rfl) ?_)
      refine (refR_any f (.agg #[.int .i64 W, .int .i64 H, .slice B1 m1 d1, .slice B2 m2 d2, .slice B3 m3 d3]) w5 none_ (HF.out.keep kr3)).mono ?_
      rintro e w6 ⟨v, rfl, hv, k6⟩
      replace b5 := b5.keep k6 (fun e => e)
      replace kr3 := kr3.trans k6
      replace HV := Lib.hid (HV.out.keep k6)
      clear k6 b3
      obtain ⟨y, u, x, rfl, ⟨G1, j1, l1, rfl, r1, t1⟩, ⟨G2, j2, l2, rfl, r2, t2⟩, ⟨G3, j3, l3, rfl, r3, t3⟩⟩ := hv
      have HW := Lib.hid (show FrameOf w6 none_ (.agg #[.int .i64 (redF f).W, .int .i64 (redF f).H, .slice G1 j1 l1, .slice G2 j2 l2, .slice G3 j3 l3]) (redF f) from ⟨_, _, _, rfl, ⟨_, _, _, rfl, r1, t1⟩, ⟨_, _, _, rfl, r2, t2⟩, ⟨_, _, _, rfl, r3, t3⟩⟩)
      clear r1 r2 r3 t1 t2 t3
      go_upto_region 7 with (refine wpList_store_blk rfl 24 (.tmp 10) (.tmp 36) rfl w6.heap.size 24 _ _ rfl rfl (Blk.new _ _ _) rfl (by kernel_rfl) (by simp [Value.oneCell']) ?_; intro w7 b7 k7 s7)
      have l6 := b5.lt
      replace b5 := (b5.alloc (.cells zeroFrame 24)).keep k7 (fun e => by unfold one at e; omega)
      have kr7 : Keep none_ w6 w7 := ((Keep.refl none_ w6).alloc _).own k7 (Nat.le_refl _)
      replace kr3 := kr3.trans kr7
      replace HV := Lib.hid (HV.out.keep kr7)
      replace HW := Lib.hid (HW.out.keep kr7)
      clear s7 k7 kr7 l6
      have y0 := b5.cell 0
      have y1 := b5.cell 1
      have y2 := b5.cell 2
      have y3 := b5.cell 3
      have y4 := b5.cell 4
      have z0 := b7.cell 0
      have z1 := b7.cell 1
      have z2 := b7.cell 2
      have z3 := b7.cell 3
      have z4 := b7.cell 4
      simp only [List.getElem?_toArray, List.getElem?_cons_zero, List.getElem?_cons_succ] at y0 y1 y2 y3 y4 z0 z1 z2 z3 z4
      clear b5 b7
      go_wp2_with fail
      refine (same_frames (redF f) _ _ w7 HV.out HW.out).mono ?_
      rintro e w8 ⟨rfl, k8⟩
      replace kr3 := kr3.trans k8
      clear k8 y0 y1 y2 y3 y4 z0 z1 z2 z3 z4
      go_wp2_with fail
      go_roundw
      case rel => exact ⟨k + 1, by omega, by go_num, hkr.trans kr3⟩
      case measure => simp [intOf]; omega
    · obtain rfl : k = 4 := by omega
      go_wp2_with fail
      refine (awake_any wr).mono ?_
      rintro e w8 ⟨rfl, k8⟩
      go_wp2_with fail
      go_ret
      exact ⟨rfl, (kw.trans hkr).trans k8⟩
end Go.Proofs.Ytnpkhbcbbbpjhaa
