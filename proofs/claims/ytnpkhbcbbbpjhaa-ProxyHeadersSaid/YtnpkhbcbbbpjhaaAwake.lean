/-
  The law's sanity check.
-/
import Derived.Test.YtnpkhbcbbbpjhaaHead
import Derived.Test.YtnpkhbcbbbpjhaaFlat
import Derived.Test.YtnpkhbcbbbpjhaaRedQ
import Derived.Test.YtnpkhbcbbbpjhaaSame
namespace Go.Proofs.Ytnpkhbcbbbpjhaa
open Go.RowKit

section
variable {P : Program} {ops : Array Oper} {rest : List Oper} {op : Oper} {a : Act} {w : World} {Q : Exit → Act → World → Prop}
/-- A composite literal whose cells are known. -/
theorem wpList_build_eq (hgd : op.guard = none) (t : TypeId) (parts : Array (Nat × Operand)) (ho : op.op = .build t parts) (cs : Array Value) (hb : P.built t (parts.toList.map fun p => (p.1, a.eval p.2)) = some cs)
    (h : wpList P ops Q rest (a.put op.dst (.agg cs)) w) : wpList P ops Q (op :: rest) a w := by
  rw [← Array.toList_map] at hb
  exact wpList_plain hgd fun _ hK => wp_build t parts ho (by rw [hb]; rfl) (hK _ _ (by rw [hb]; exact h))
end

theorem redPlane_flat (W n : Nat) (y : Int) (hy : ∀ i, i < n / 4 → at4 W i + W + 1 < n) : redPlane (List.replicate n y) W = List.replicate (n / 4) y := by
  unfold redPlane
  rw [List.length_replicate]
  apply List.ext_getElem
  · simp
  · intro i h1 h2
    simp only [List.length_replicate] at h2
    have := hy i h2
    simp only [List.getElem_map, List.getElem_range, List.getElem_replicate, redAt]
    simp only [List.getD_eq_getElem?_getD, List.getElem?_replicate]
    rw [if_pos (by omega), if_pos (by omega), if_pos (by omega), if_pos (by omega)]
    simp only [Option.getD_some]
    omega
def flat32 : Fr := ⟨32, 32, List.replicate 1024 50, List.replicate 256 60, List.replicate 256 70⟩
def flat16 : Fr := ⟨16, 16, List.replicate 256 50, List.replicate 64 60, List.replicate 64 70⟩
theorem flat_ok : redOkF flat32 = true := by
  unfold redOkF flat32
  simp only [List.length_replicate]
  decide
theorem flat_red : redF flat32 = flat16 := by
  rw [redF, flat_ok]
  unfold flat32 flat16 redFr
  simp only [if_true, show (32 : Int).toNat = 32 from rfl, show 32 / 2 = 16 from rfl]
  rw [redPlane_flat 32 1024 50 (fun i h => by unfold at4; omega), redPlane_flat 16 256 60 (fun i h => by unfold at4; omega), redPlane_flat 16 256 70 (fun i h => by unfold at4; omega)]
  rfl
def s16 : Sq := { zeroSq with W := 16, H := 16 }
theorem s16_ok : s16.Ok := ⟨rfl, rfl, by decide, by decide, by decide⟩
theorem s16_no : hdrOk s16 = false := by simp [hdrOk, s16]
theorem s16_built : Try.prog.built 42 [(0, .int .i64 16), (1, .int .i64 16)] = some s16.cells := by kernel_rfl

def awakeCalm (wr : World) : Calm where
  R := fun _ => Keep none_
  G := fun _ => Keep none_ wr
  eff := [4, 5]
  T := fun k _ v w' => if k = 4 then FrameOf w' none_ v flat16 else v = .bool true
  anc := fun k => if k = 5 then [4] else []
  own := fun _ _ _ => False
theorem awakeCalm_good (wr : World) : (awakeCalm wr).Good := ⟨fun _ _ h => h, fun _ _ _ h => h.size, fun _ k _ _ w1 w2 _ _ h hR => by
  simp only [awakeCalm] at h ⊢
  split at h
  · rw [if_pos (by assumption)]; exact h.keep hR
  · rw [if_neg (by assumption)]; exact h⟩
theorem awakeCalm_at {wr : World} (x : (awakeCalm wr).Sub) : Keep none_ wr ((awakeCalm wr).at_ x) := by
  obtain ⟨x, n, _, h⟩ := x
  exact h

set_option maxRecDepth 100000 in
set_option maxHeartbeats 400000 in
theorem awake_any (w : World) : Calls Try.prog 10 #[] w fun e w' => e = .returned (.bool true) ∧ Keep none_ w w' := by
  obtain ⟨ds, hds⟩ : ∃ ds, ds = s16.cells := ⟨_, rfl⟩
  obtain ⟨zs, hzs⟩ : ∃ zs, zs = zeroSq.cells := ⟨_, rfl⟩
  have hz : ∀ w, (zeroValue 42).run Try.prog w = .ok (.agg zs) w := hzs ▸ zero_seq
  have hb : Try.prog.built 42 [(0, .int .i64 16), (1, .int .i64 16)] = some ds := hds ▸ s16_built
  have hi : (Try.prog.info? 42).map (·.size) = some zs.size := by rw [hzs, zeroSq_size]; exact seq_info
  have h1 : zs.all (·.oneCell') = true := by rw [hzs]; exact Sq.plain _
  have hc : ∀ w, Calls Try.prog 13 #[.agg ds] w fun e w' => e = .returned (.tuple #[.agg zs, .int .i64 1]) ∧ Keep none_ w w' := fun w => by
    refine (hds ▸ header_any s16 w s16_ok : Calls Try.prog 13 #[.agg ds] w (HeadPost s16 w)).mono ?_
    rintro e w' ⟨rfl, hk⟩
    refine ⟨?_, hk⟩
    rw [hzs]
    simp [hdr, hdrE, s16_no]
  have HB := Lib.hid hb
  have HI := Lib.hid hi
  have H1 := Lib.hid h1
  have HC := Lib.hid hc
  clear hds hzs hb hi h1 hc
  go_enter Try.func10, Try.ntmps10
  go_wp2_with fail
  refine (flat_any 32 32 1024 256 50 60 70 w (by decide) (by decide) rfl rfl (by decide) (by decide) (by decide) (by decide) (by decide)).mono ?_
  rintro e w1 ⟨v, rfl, hf, k1⟩
  go_wp2_with fail
  refine (reduceP_any flat32 v w1 none_ hf).mono ?_
  rintro e w2 ⟨v2, rfl, hf2, k2⟩
  replace k2 := k1.trans k2
  rw [flat_red] at hf2
  have he : redE flat32 = 0 := by rw [redE, flat_ok]; rfl
  rw [he]
  clear he hf k1
  obtain ⟨y, u, x, rfl, ⟨A1, n1, c1, rfl, hy⟩, ⟨A2, n2, c2, rfl, hu⟩, ⟨A3, n3, c3, rfl, hx⟩⟩ := hf2
  have HY := Lib.hid hy
  have HU := Lib.hid hu
  have HX := Lib.hid hx
  clear hy hu hx
  obtain rfl : n1 = 256 := by have := HY.out.1.len; rw [List.length_map, show flat16.Y.length = 256 from List.length_replicate ..] at this; omega
  obtain rfl : n2 = 64 := by have := HU.out.1.len; rw [List.length_map, show flat16.U.length = 64 from List.length_replicate ..] at this; omega
  obtain rfl : n3 = 64 := by have := HX.out.1.len; rw [List.length_map, show flat16.V.length = 64 from List.length_replicate ..] at this; omega
  simp only [show flat16.W = 16 from rfl, show flat16.H = 16 from rfl]
  go_upto_region 2 with (refine wpList_store_blk rfl 24 (.tmp 1) (.tmp 8) rfl w2.heap.size 24 _ _ rfl rfl (Blk.new _ _ _) rfl (by kernel_rfl) (by simp [Value.oneCell']) ?_; intro w3 b3 k3 s3)
  replace k3 := ((Keep.refl none_ w2).alloc _).own k3 (Nat.le_refl _)
  clear s3
  go_wp2_with (refine wpList_build_eq rfl 42 _ rfl ds HB.out ?_)
  refine (HC.out w3).mono ?_
  rintro e w4 ⟨rfl, k4⟩
  replace b3 := b3.keep k4 (fun e => e)
  replace k4 := k3.trans k4
  have l4 := b3.lt
  go_upto_region 3 with (refine wpList_store_blk rfl 42 (.tmp 3) (.tmp 13) rfl w4.heap.size 42 zs zs rfl rfl (Blk.new _ _ _) rfl HI.out H1.out ?_; intro w5 b5 k5 s5)
  clear s5 b5
  replace b3 := (b3.alloc (.cells zs 42)).keep k5 (fun e => by unfold one at e; omega)
  have k25 : Keep none_ w2 w5 := k4.trans (((Keep.refl none_ w4).alloc _).own k5 (Nat.le_refl _))
  clear k4 l4 k3 k5
  have gd := awakeCalm_good w5
  have ne : Nonempty (awakeCalm w5).Sub := ⟨⟨w5, 0, Nat.zero_le _, Keep.refl _ _⟩⟩
  have x0 := fun x => (b3.keep (awakeCalm_at x) (fun e => e)).cell 0
  have x1 := fun x => (b3.keep (awakeCalm_at x) (fun e => e)).cell 1
  have x2 := fun x => (b3.keep (awakeCalm_at x) (fun e => e)).cell 2
  have x3 := fun x => (b3.keep (awakeCalm_at x) (fun e => e)).cell 3
  have x4 := fun x => (b3.keep (awakeCalm_at x) (fun e => e)).cell 4
  simp only [List.getElem?_toArray, List.getElem?_cons_zero, List.getElem?_cons_succ] at x0 x1 x2 x3 x4
  refine wp_region_calm (awakeCalm w5) [0, 1, 2, 3, 4, 5, 6, 7, 8, 9, 10] [11] 26 (by kernel_rfl) (by kernel_rfl) rfl gd (Keep.refl _ _).drew ?_
  simp only [pairs, List.filterMap_cons, List.filterMap_nil, List.getElem?_toArray, List.getElem?_cons_succ, List.getElem?_cons_zero, Option.map_some]
  repeat (refine Calm.walk_quiet ne rfl rfl rfl (fun K hK => ?_); go_big_quiet_op; refine hK _ ?_; clear hK K)
  refine Calm.walk_eff rfl rfl (fun n w6 _ hG _ => ?_) ?_
  · unfold gives
    go_simp
    refine (flat_any 16 16 256 64 50 60 70 w6 (by decide) (by decide) rfl rfl (by decide) (by decide) (by decide) (by decide) (by decide)).mono ?_
    rintro e w7 ⟨v, rfl, hf, hk⟩
    exact ⟨_, rfl, hf, hk, Keep.trans (S := none_) hG hk, fun _ h => h.elim⟩
  rintro v w6 ⟨y', u', x', rfl, ⟨B1, m1, d1, rfl, r1, -⟩, ⟨B2, m2, d2, rfl, r2, -⟩, ⟨B3, m3, d3, rfl, r3, -⟩⟩
  obtain rfl : m1 = 256 := by have := r1.len; rw [List.length_map, show flat16.Y.length = 256 from List.length_replicate ..] at this; omega
  obtain rfl : m2 = 64 := by have := r2.len; rw [List.length_map, show flat16.U.length = 64 from List.length_replicate ..] at this; omega
  obtain rfl : m3 = 64 := by have := r3.len; rw [List.length_map, show flat16.V.length = 64 from List.length_replicate ..] at this; omega
  clear r1 r2 r3 w6
  go_frame
  refine Calm.walk_eff rfl rfl (fun n w6 _ hG hA => ?_) ?_
  · have hA' : FrameOf w6 none_ (.agg #[.int .i64 16, .int .i64 16, .slice B1 256 d1, .slice B2 64 d2, .slice B3 64 d3]) flat16 := (hA 4 (List.mem_cons_self ..) _ rfl ⟨rfl, rfl⟩).1
    obtain ⟨y', u', x', he, ⟨C1, m1, e1, rfl, r1, -⟩, ⟨C2, m2, e2, rfl, r2, -⟩, ⟨C3, m3, e3, rfl, r3, -⟩⟩ := hA'
    simp only [Value.agg.injEq, Array.mk.injEq, List.cons.injEq, Value.slice.injEq, and_true] at he
    obtain ⟨-, -, ⟨rfl, rfl, rfl⟩, ⟨rfl, rfl, rfl⟩, rfl, rfl, rfl⟩ := he
    have kk : Keep none_ w2 w6 := k25.trans hG
    unfold gives
    go_simp
    refine (same_yes 16 16 A1 A2 A3 B1 B2 B3 256 64 64 c1 c2 c3 d1 d2 d3 flat16.Y flat16.U flat16.V none_ w6 (HY.out.1.keep kk) (HU.out.1.keep kk) (HX.out.1.keep kk) r1 r2 r3).mono ?_
    rintro e w7 ⟨rfl, hk⟩
    exact ⟨_, rfl, rfl, hk, Keep.trans (S := none_) hG hk, fun _ h => h.elim⟩
  rintro v w6 rfl
  clear w6
  go_frame
  repeat (refine Calm.walk_quiet ne rfl rfl rfl (fun K hK => ?_); go_big_quiet_op; refine hK _ ?_; clear hK K)
  intro w6 hG _
  have hG' : Keep none_ w5 w6 := hG
  clear hG x0 x1 x2 x3 x4 ne gd
  simp only [pickOps, List.filterMap_cons, List.filterMap_nil, List.getElem?_toArray, List.getElem?_cons_succ, List.getElem?_cons_zero]
  go_wp2_with fail
  go_ret
  exact ⟨rfl, k2.trans (k25.trans hG')⟩
end Go.Proofs.Ytnpkhbcbbbpjhaa
