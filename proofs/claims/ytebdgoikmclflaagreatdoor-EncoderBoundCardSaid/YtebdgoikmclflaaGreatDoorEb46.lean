/-
  Frames of one colour: the reference's Blank and Flat.
-/
import Derived.Test.YtebdgoikmclflaaGreatDoorEb04
namespace Go.Proofs.YtebdgoikmclflaaGreatDoor
open Go.RowKit

def blankCalm (w : World) (N M : Nat) : Calm where
  R := fun _ => Keep none_
  G := fun _ => Keep none_ w
  eff := [5, 11, 17]
  T := fun k _ v w' => match k with
    | 5 => madeT w.heap.size 5 (madeCells #[.int .u8 0] N) (fun a => .slice (some a) N N) v w'
    | _ => madeT w.heap.size 5 (madeCells #[.int .u8 0] M) (fun a => .slice (some a) M M) v w'
  anc := fun _ => []
  own := fun _ => ownBlk
theorem blankCalm_good (w : World) (N M : Nat) : (blankCalm w N M).Good where
  mono := fun _ _ h => h
  size := fun _ _ _ h => h.size
  stable := fun _ k vs v w1 w2 _ _ h hR => by
    have hS : ∀ b, none_ b → b < w.heap.size := fun _ h => h.elim
    simp only [blankCalm] at h ⊢
    split at h <;> exact h.stable hR hS

def BlankPost (W H N M : Nat) (w : World) (e : Ending) (w' : World) : Prop :=
  ∃ by_ bu bv : Nat, e = .returned (.agg #[.int .i64 W, .int .i64 H, .slice (some ⟨by_, 0, none⟩) N N, .slice (some ⟨bu, 0, none⟩) M M, .slice (some ⟨bv, 0, none⟩) M M]) ∧ ByteBlk w' by_ (List.replicate N 0) ∧ ByteBlk w' bu (List.replicate M 0) ∧ ByteBlk w' bv (List.replicate M 0) ∧
    by_ ≠ bu ∧ by_ ≠ bv ∧ bu ≠ bv ∧ w.heap.size < by_ ∧ w.heap.size < bu ∧ w.heap.size < bv ∧ Keep none_ w w'

set_option maxRecDepth 100000 in
set_option maxHeartbeats 1000000 in
theorem blank_any (W H N M : Nat) (w : World) (hW : W ≤ 64) (hH : H ≤ 64) (hN : W * H = N) (hM : W / 2 * (H / 2) = M) (hN2 : N ≤ 4096) (hM2 : M ≤ 4096) :
    Calls Tryz.prog 16 #[.int .i64 W, .int .i64 H] w (BlankPost W H N M w) := by
  have hWH : (W : Int) * H = N := by rw [← hN]; simp
  have hMM : (W : Int) / 2 * ((H : Int) / 2) = M := by rw [← hM]; simp
  have mkN := mk_u8 N (by omega)
  have mkM := mk_u8 M (by omega)
  clear hN hM
  go_enter Tryz.func16, Tryz.ntmps16
  go_wp2
  obtain ⟨W0, hW0⟩ : ∃ W0, W0 = w.alloc (.cells #[.int .i64 0, .int .i64 0, .slice none 0 0, .slice none 0 0, .slice none 0 0] 32) := ⟨_, rfl⟩
  have k0 : Keep none_ w W0 := hW0 ▸ (Keep.refl _ _).alloc _
  have b0 : Blk W0 w.heap.size 32 #[.int .i64 0, .int .i64 0, .slice none 0 0, .slice none 0 0, .slice none 0 0] := hW0 ▸ Blk.new _ _ _
  have s0 : W0.heap.size = w.heap.size + 1 := by rw [hW0]; simp
  rw [← hW0]
  clear hW0
  have gd := blankCalm_good W0 N M
  have ne : Nonempty (blankCalm W0 N M).Sub := ⟨⟨_, 0, Nat.zero_le _, Keep.refl _ _⟩⟩
  refine wp_region_calm (blankCalm W0 N M) [0, 1, 2, 3, 4, 5, 6, 7, 8, 9, 10, 11, 12, 13, 14, 15, 16, 17, 18] [19] 24 (by kernel_rfl) (by kernel_rfl) rfl gd (Keep.refl _ _).drew ?_
  simp only [pairs, List.filterMap_cons, List.filterMap_nil, List.getElem?_toArray, List.getElem?_cons_succ, List.getElem?_cons_zero, Option.map_some]
  repeat (refine Calm.walk_quiet ne rfl rfl rfl (fun K hK => ?_); go_big_quiet_op; refine hK _ ?_; clear hK K)
  refine Calm.walk_eff rfl rfl (fun n w1 _ hR _ => ?_) ?_
  · unfold gives
    go_simp
    exact ⟨⟨w1.heap.size, hR.size, rfl, Blk.new _ _ _⟩, (Keep.refl _ _).alloc _, Keep.alloc hR _, fun b hb => by cases hb; simp⟩
  rintro v w1 ⟨by_, -, rfl, -⟩
  clear w1
  go_frame
  repeat (refine Calm.walk_quiet ne rfl rfl rfl (fun K hK => ?_); go_big_quiet_op; refine hK _ ?_; clear hK K)
  refine Calm.walk_eff rfl rfl (fun n w1 _ hR _ => ?_) ?_
  · unfold gives
    go_simp
    exact ⟨⟨w1.heap.size, hR.size, rfl, Blk.new _ _ _⟩, (Keep.refl _ _).alloc _, Keep.alloc hR _, fun b hb => by cases hb; simp⟩
  rintro v w1 ⟨bu, -, rfl, -⟩
  clear w1
  go_frame
  repeat (refine Calm.walk_quiet ne rfl rfl rfl (fun K hK => ?_); go_big_quiet_op; refine hK _ ?_; clear hK K)
  refine Calm.walk_eff rfl rfl (fun n w1 _ hR _ => ?_) ?_
  · unfold gives
    go_simp
    exact ⟨⟨w1.heap.size, hR.size, rfl, Blk.new _ _ _⟩, (Keep.refl _ _).alloc _, Keep.alloc hR _, fun b hb => by cases hb; simp⟩
  rintro v w1 ⟨bv, -, rfl, -⟩
  clear w1
  go_frame
  repeat (refine Calm.walk_quiet ne rfl rfl rfl (fun K hK => ?_); go_big_quiet_op; refine hK _ ?_; clear hK K)
  intro w' hR hD
  have hR' : Keep none_ W0 w' := hR
  have f5 := madeT.slice (hD.1 5 rfl _ rfl ⟨rfl, rfl⟩).1
  have f10 := madeT.slice (hD.1 11 rfl _ rfl ⟨rfl, rfl⟩).1
  have f15 := madeT.slice (hD.1 17 rfl _ rfl ⟨rfl, rfl⟩).1
  have d1 : by_ ≠ bu := fun e => hD.2 5 11 rfl rfl (by decide) _ _ rfl rfl ⟨rfl, rfl⟩ ⟨rfl, rfl⟩ by_ rfl e
  have d2 : by_ ≠ bv := fun e => hD.2 5 17 rfl rfl (by decide) _ _ rfl rfl ⟨rfl, rfl⟩ ⟨rfl, rfl⟩ by_ rfl e
  have d3 : bu ≠ bv := fun e => hD.2 11 17 rfl rfl (by decide) _ _ rfl rfl ⟨rfl, rfl⟩ ⟨rfl, rfl⟩ bu rfl e
  clear hD hR gd ne
  simp only [pickOps, List.filterMap_cons, List.filterMap_nil, List.getElem?_toArray, List.getElem?_cons_succ, List.getElem?_cons_zero]
  refine wpList_store_blk rfl 32 (.tmp 4) (.tmp 23) rfl w.heap.size 32 _ _ rfl rfl (b0.keep hR' (fun e => e)) rfl (by kernel_rfl) (by simp [Value.oneCell']) ?_
  intro w2 hb2 hk2 hs2
  go_frame
  go_wp2
  rw [s0] at f5 f10 f15
  have nn : ∀ b, w.heap.size + 1 ≤ b → ¬ one w.heap.size b := fun b h e => by unfold one at e; omega
  refine bodyPost_ret (results_cell Tryz.results16 rfl (run_loadVar_blk hb2 Tryz.underlying32 rfl (by kernel_rfl))) rfl ⟨by_, bu, bv, rfl, (ByteBlk.made _ _ _ f5.2).keep hk2 (nn _ f5.1), (ByteBlk.made _ _ _ f10.2).keep hk2 (nn _ f10.1), (ByteBlk.made _ _ _ f15.2).keep hk2 (nn _ f15.1), d1, d2, d3, by omega, by omega, by omega, (k0.trans hR').own hk2 (Nat.le_refl _)⟩

/-- The state of Flat. -/
structure FlatSt (w wr : World) (gf by_ bu bv : Nat) (f : Fr) : Prop where
  keep : Keep none_ w wr
  res : Blk wr w.heap.size 32 #[.int .i64 0, .int .i64 0, .slice none 0 0, .slice none 0 0, .slice none 0 0]
  frame : FrameBlk wr gf by_ bu bv f
  g0 : w.heap.size < gf
  g1 : w.heap.size < by_
  g2 : w.heap.size < bu
  g3 : w.heap.size < bv
section
variable {w wr w' : World} {gf by_ bu bv : Nat} {f : Fr}
theorem FlatSt.drew (h : FlatSt w wr gf by_ bu bv f) : FlatSt w wr.drew gf by_ bu bv f := ⟨h.keep.drew, h.res, h.frame.drewN 1, h.g0, h.g1, h.g2, h.g3⟩
theorem FlatSt.stored (h : FlatSt w wr gf by_ bu bv f) {b k : Nat} {u : Value} {f' : Fr} (hb : w.heap.size < b) (hf : FrameBlk (wr.setCell ⟨b, k, none⟩ u) gf by_ bu bv f') : FlatSt w (wr.setCell ⟨b, k, none⟩ u) gf by_ bu bv f' :=
  have hk : Keep (one b) wr (wr.setCell ⟨b, k, none⟩ u) := (Keep.refl (one b) wr).setCell (p := ⟨b, k, none⟩) (.inl rfl) u
  ⟨h.keep.setCell (.inr (Nat.le_of_lt hb)) _, h.res.keep hk (fun e => by cases e; omega), hf, h.g0, h.g1, h.g2, h.g3⟩
theorem FlatSt.done {W H N M : Nat} (h : FlatSt w wr gf by_ bu bv f) (hsz : Szd f W H N M) (hNM : N ≤ 65536 ∧ M ≤ 65536) (hk : Keep (one w.heap.size) wr w') :
    FrameOf w' none_ (.agg #[.int .i64 f.W, .int .i64 f.H, .slice (some ⟨by_, 0, none⟩) f.Y.length f.Y.length, .slice (some ⟨bu, 0, none⟩) f.U.length f.U.length, .slice (some ⟨bv, 0, none⟩) f.V.length f.V.length]) f ∧ Keep none_ w w' := by
  have n2 : ∀ b, w.heap.size < b → ¬ one w.heap.size b := fun b hb e => by cases e; omega
  have row : ∀ b zs, w.heap.size < b → ByteBlk wr b zs → zs.length ≤ 65536 → BytesOf w' none_ (.slice (some ⟨b, 0, none⟩) zs.length zs.length) zs := fun b zs hb hy hl => by
    refine ⟨_, _, _, rfl, ?_, hy.2⟩
    have := (hy.1.keep hk (n2 b hb)).row (S := none_) (size := 1) (n := zs.length) (c := zs.length) (by simp) (Nat.le_refl _) (by unfold maxLen; omega) (fun e => e)
    rw [List.take_of_length_le (by simp)] at this
    simpa using this
  exact ⟨⟨_, _, _, rfl, row by_ f.Y h.g1 h.frame.y (by rw [hsz.y]; omega), row bu f.U h.g2 h.frame.u (by rw [hsz.u]; omega), row bv f.V h.g3 h.frame.v (by rw [hsz.v]; omega)⟩, h.keep.own hk (Nat.le_refl _)⟩
end

/-- The first k numbers of a list are z. -/
def Firsts (zs : List Int) (k : Nat) (z : Int) : Prop := ∀ j, j < k → zs[j]? = some z
theorem Firsts.set {zs : List Int} {k : Nat} {z : Int} (h : Firsts zs k z) (hk : k < zs.length) : Firsts (zs.set k z) (k + 1) z := fun j hj => by
  by_cases e : j = k
  · subst e; rw [List.getElem?_set_self hk]
  · rw [List.getElem?_set_ne (fun x => e x.symm)]; exact h j (by omega)
theorem Firsts.all {zs : List Int} {k : Nat} {z : Int} (h : Firsts zs k z) (hk : zs.length = k) : zs = List.replicate k z := by
  apply List.ext_getElem?
  intro j
  by_cases hj : j < k
  · rw [h j hj]; simp [hj]
  · rw [List.getElem?_eq_none (by omega), List.getElem?_eq_none (by simp; omega)]

def FlatPost (W H N M : Nat) (y u x : Int) (w : World) (e : Ending) (w' : World) : Prop := ∃ v, e = .returned v ∧ FrameOf w' none_ v ⟨W, H, List.replicate N y, List.replicate M u, List.replicate M x⟩ ∧ Keep none_ w w'

set_option maxRecDepth 100000 in
set_option maxHeartbeats 2000000 in
theorem flat_any (W H N M : Nat) (y u x : Int) (w : World) (hW : W ≤ 64) (hH : H ≤ 64) (hN : W * H = N) (hM : W / 2 * (H / 2) = M) (hN2 : N ≤ 4096) (hM2 : M ≤ 4096) (hy : 0 ≤ y ∧ y ≤ 255) (hu : 0 ≤ u ∧ u ≤ 255) (hv : 0 ≤ x ∧ x ≤ 255) :
    Calls Tryz.prog 7 #[.int .i64 W, .int .i64 H, .int .u8 y, .int .u8 u, .int .u8 x] w (FlatPost W H N M y u x w) := by
  go_enter Tryz.func7, Tryz.ntmps7
  go_wp2_with fail
  refine (blank_any W H N M _ hW hH hN hM hN2 hM2).mono ?_
  rintro e w1 ⟨by_, bu, bv, rfl, y1, u1, v1, d1, d2, d3, s1, s2, s3, hk⟩
  have s0 : (w.alloc (.cells #[.int .i64 0, .int .i64 0, .slice none 0 0, .slice none 0 0, .slice none 0 0] 32)).heap.size = w.heap.size + 1 := by simp
  rw [s0] at s1 s2 s3
  have b0 := (Blk.new w 32 #[.int .i64 0, .int .i64 0, .slice none 0 0, .slice none 0 0, .slice none 0 0]).keep hk (fun e => e)
  have kw : Keep none_ w w1 := ((Keep.refl _ _).alloc _).trans hk
  have hsz1 := hk.size
  rw [s0] at hsz1
  have l1 := y1.1.lt
  have l2 := u1.1.lt
  have l3 := v1.1.lt
  clear hk hN hM s0
  go_wp2_with (first | (refine wpList_store_blk rfl 32 (.tmp 11) (.tmp 16) rfl w1.heap.size 32 _ _ rfl rfl (Blk.new _ _ _) rfl (by kernel_rfl) (by simp [Value.oneCell']) ?_; intro w2 b2 k2 s4))
  have l0 : w.heap.size < w1.heap.size := by omega
  have nn : ∀ b, b < w1.heap.size → ¬ one w1.heap.size b := fun b h e => by unfold one at e; omega
  have kA : Keep (one w1.heap.size) w1 w2 := ((Keep.refl _ _).alloc _).trans k2
  have hst : FlatSt w w2 w1.heap.size by_ bu bv ⟨W, H, List.replicate N 0, List.replicate M 0, List.replicate M 0⟩ :=
    ⟨kw.own kA (by omega), b0.keep kA (nn _ l0), ⟨by simpa using b2, y1.keep kA (nn _ l1), u1.keep kA (nn _ l2), v1.keep kA (nn _ l3), d1, d2, d3⟩, l0, by omega, by omega, by omega⟩
  obtain ⟨gf, hgf⟩ : ∃ g, g = w1.heap.size := ⟨_, rfl⟩
  rw [← hgf] at hst ⊢
  clear hgf b2 k2 s4 kA nn l0 l1 l2 l3 b0 kw hsz1 s1 s2 s3 y1 u1 v1 d1 d2 d3
  go_loopw [12] (fun i wr => ∃ (k : Nat) (f : Fr), k ≤ N ∧ i = .int .i64 k ∧ FlatSt w wr gf by_ bu bv f ∧ Szd f W H N M ∧ Firsts f.Y k y) (fun i _ => N - (intOf i).toNat)
  case atStart => exact ⟨0, _, Nat.zero_le _, rfl, hst, ⟨rfl, rfl, by simp, by simp, by simp⟩, fun j hj => by omega⟩
  case round =>
    clear hst
    obtain ⟨k, f, hk, rfl, hst, hsz, hfy⟩ := hrel
    have c2 : wr.cell? ⟨gf, 2, none⟩ = some (.slice (some ⟨by_, 0, none⟩) N N) := by rw [hst.frame.blk.cell]; simp [hsz.y]
    by_cases hlt : k < N
    · have c3 := hst.frame.y.cell (k := k) (by rw [hsz.y]; exact hlt)
      have f3 := hst.frame.y.1.frozen k
      have hki : (0 : Int) ≤ (k : Int) := by omega
      have hkn : (k : Int) < N := by omega
      go_wp2_with fail
      go_roundw
      case rel => exact ⟨k + 1, _, by omega, by go_num, hst.stored hst.g1 (hst.frame.setY k hy), ⟨hsz.w, hsz.h, by simp [hsz.y], hsz.u, hsz.v⟩, hfy.set (by rw [hsz.y]; exact hlt)⟩
      case measure => simp [intOf]; omega
    · obtain rfl : k = N := by omega
      go_wp2_with fail
      go_loopw [13] (fun i wr => ∃ (k2 : Nat) (f : Fr), k2 ≤ M ∧ i = .int .i64 k2 ∧ FlatSt w wr gf by_ bu bv f ∧ Szd f W H k M ∧ Firsts f.Y k y ∧ Firsts f.U k2 u ∧ Firsts f.V k2 x) (fun i _ => M - (intOf i).toNat)
      case atStart => exact ⟨0, _, Nat.zero_le _, rfl, hst, hsz, hfy, fun j hj => by omega, fun j hj => by omega⟩
      case round =>
        clear hst hsz c2 hfy f
        obtain ⟨k2, f, hk2, rfl, hst, hsz, hfy, hfu, hfv⟩ := hrel
        have c2 : wr.cell? ⟨gf, 3, none⟩ = some (.slice (some ⟨bu, 0, none⟩) M M) := by rw [hst.frame.blk.cell]; simp [hsz.u]
        have c4 : wr.cell? ⟨gf, 4, none⟩ = some (.slice (some ⟨bv, 0, none⟩) M M) := by rw [hst.frame.blk.cell]; simp [hsz.v]
        by_cases hlt2 : k2 < M
        · have c3 := hst.frame.u.cell (k := k2) (by rw [hsz.u]; exact hlt2)
          have f3 := hst.frame.u.1.frozen k2
          have c5 := hst.frame.v.cell (k := k2) (by rw [hsz.v]; exact hlt2)
          have f5 := hst.frame.v.1.frozen k2
          have hki : (0 : Int) ≤ (k2 : Int) := by omega
          have hkn : (k2 : Int) < M := by omega
          have n2 : ¬ bu = bv := hst.frame.uv
          go_wp2_with fail
          have n3 : ¬ bu = gf := hst.frame.gne.2.1
          have xc : ∀ x, ((storeCalm wr.drew ((wr.setCell ⟨bu, k2, none⟩ (.int .u8 u)).drew) 9).at_ x).cell? ⟨gf, 3, none⟩ = some (.slice (some ⟨bu, 0, none⟩) M M) := fun x => by
            rcases store_at _ _ _ x with h | h <;> rw [h] <;> simp [go_sem, World.cell?_setCell_other, c2]
          have xd : ∀ x, ((storeCalm wr.drew ((wr.setCell ⟨bu, k2, none⟩ (.int .u8 u)).drew) 9).at_ x).cell? ⟨gf, 4, none⟩ = some (.slice (some ⟨bv, 0, none⟩) M M) := fun x => by
            rcases store_at _ _ _ x with h | h <;> rw [h] <;> simp [go_sem, World.cell?_setCell_other, c4]
          have gd := store_good (wr).drew ((wr.setCell ⟨bu, k2, none⟩ (.int .u8 u)).drew) 9
          have ne := store_some (wr).drew ((wr.setCell ⟨bu, k2, none⟩ (.int .u8 u)).drew) 9
          refine wp_region_calm (storeCalm (wr).drew ((wr.setCell ⟨bu, k2, none⟩ (.int .u8 u)).drew) 9) [0, 1, 2, 3, 4, 5, 6, 7, 8, 9] [10, 11] 47 (by kernel_rfl) (by kernel_rfl) rfl gd (.inl rfl) ?_
          simp only [pairs, List.filterMap_cons, List.filterMap_nil, List.getElem?_toArray, List.getElem?_cons_succ, List.getElem?_cons_zero, Option.map_some]
          repeat (refine Calm.walk_quiet ne rfl rfl rfl (fun K hK => ?_); go_big_quiet_op; refine hK _ ?_; clear hK K)
          refine Calm.walk_eff rfl rfl (fun n w1 hn hG _ => ?_) ?_
          · have e1 := store_first hn hG
            subst e1
            unfold gives
            go_simp
            exact ⟨rfl, ⟨rfl, by simp⟩, .inr ⟨by omega, rfl⟩, fun _ h => h.elim⟩
          rintro v w1 -
          intro w' hG hD
          obtain rfl : w' = (wr.setCell ⟨bu, k2, none⟩ (.int .u8 u)).drew := (hD.1 9 rfl _ rfl ⟨rfl, rfl⟩).1
          clear hD hG gd ne xc xd
          simp only [pickOps, List.filterMap_cons, List.filterMap_nil, List.getElem?_toArray, List.getElem?_cons_succ, List.getElem?_cons_zero]
          go_wp2_with fail
          go_roundw
          case rel =>
            have h1 := hst.stored hst.g2 (hst.frame.setU k2 hu)
            have h2 := h1.stored hst.g3 (h1.frame.setV k2 hv)
            exact ⟨k2 + 1, _, by omega, by go_num, h2.drew, ⟨hsz.w, hsz.h, hsz.y, by simp [hsz.u], by simp [hsz.v]⟩, hfy, hfu.set (by rw [hsz.u]; exact hlt2), hfv.set (by rw [hsz.v]; exact hlt2)⟩
          case measure => simp [intOf]; omega
        · obtain rfl : k2 = M := by omega
          go_wp2_with (first | (refine wpList_load_blk rfl 32 (.tmp 11) rfl gf 32 _ _ rfl hst.frame.blk Tryz.underlying32 rfl (by kernel_rfl) ?_) | (refine wpList_store_blk rfl 32 (.tmp 10) (.tmp 46) rfl w.heap.size 32 _ _ rfl rfl hst.res rfl (by kernel_rfl) (by simp [Value.oneCell']) ?_; intro w5 hb5 hk5 hs5))
          obtain ⟨hfr, hkk⟩ := hst.done hsz ⟨by omega, by omega⟩ hk5
          have ef : f = ⟨W, H, List.replicate k y, List.replicate k2 u, List.replicate k2 x⟩ := by
            obtain ⟨fw, fh, fy, fu, fv⟩ := f
            obtain ⟨s1, s2, s3, s4, s5⟩ := hsz
            simp only at s1 s2 s3 s4 s5 hfy hfu hfv
            subst s1 s2
            rw [hfy.all s3, hfu.all s4, hfv.all s5]
          rw [ef] at hfr
          exact bodyPost_ret (results_cell Tryz.results7 rfl (run_loadVar_blk hb5 Tryz.underlying32 rfl (by kernel_rfl))) rfl ⟨_, by rw [ef], hfr, hkk⟩
end Go.Proofs.YtebdgoikmclflaaGreatDoor
