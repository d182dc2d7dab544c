import Derived.Test.YtnpkhbcbbbpjhaaTape
import Derived.Test.YtnpkhbcbbbpjhaaWords
namespace Go.Proofs.Ytnpkhbcbbbpjhaa
open Go.RowKit
attribute [local go_sem ↓] Go.wp_at_zero Go.wp_at_succ

def imgCalm (w : World) (N M : Nat) : Calm where
  R := fun _ => Keep none_
  G := fun _ => Keep none_ w
  eff := [5, 10, 15, 17]
  T := fun k _ v w' => match k with
    | 5 => madeT w.heap.size 5 (madeCells #[.int .u8 0] N) (fun a => .slice (some a) N N) v w'
    | 17 => madeT w.heap.size 24 #[.int .i64 0, .int .i64 0, .slice none 0 0, .slice none 0 0, .slice none 0 0] (fun a => .pointer (some a)) v w'
    | _ => madeT w.heap.size 5 (madeCells #[.int .u8 0] M) (fun a => .slice (some a) M M) v w'
  anc := fun _ => []
  own := fun _ => ownBlk

theorem imgCalm_good (w : World) (N M : Nat) : (imgCalm w N M).Good where
  mono := fun _ _ h => h
  size := fun _ _ _ h => h.size
  stable := fun _ k vs v w1 w2 _ _ h hR => by
    have hS : ∀ b, none_ b → b < w.heap.size := fun _ h => h.elim
    simp only [imgCalm] at h ⊢
    split at h <;> exact h.stable hR hS

/-- The state of Image: its result's variable, its frame's, its tape. -/
structure ImgSt (w wr : World) (g m gf by_ bu bv : Nat) (f : Fr) : Prop where
  keep : Keep (one g) w wr
  tape : TapeAt wr g m
  res : Blk wr w.heap.size 24 #[.int .i64 0, .int .i64 0, .slice none 0 0, .slice none 0 0, .slice none 0 0]
  frame : FrameBlk wr gf by_ bu bv f
  g0 : w.heap.size < gf
  g1 : w.heap.size < by_
  g2 : w.heap.size < bu
  g3 : w.heap.size < bv
  old : g < w.heap.size

section
variable {w wr w' : World} {g m gf by_ bu bv : Nat} {f : Fr}
theorem ImgSt.next (h : ImgSt w wr g m gf by_ bu bv f) (k : Keep (one g) wr w') {m' : Nat} (t : TapeAt w' g m') : ImgSt w w' g m' gf by_ bu bv f :=
  have n : ∀ b, w.heap.size ≤ b → ¬ one g b := fun b hb e => by have := h.old; cases e; omega
  ⟨h.keep.trans k, t, h.res.keep k (n _ (Nat.le_refl _)), h.frame.keep k (n _ (by have := h.g0; omega)) (n _ (by have := h.g1; omega)) (n _ (by have := h.g2; omega)) (n _ (by have := h.g3; omega)), h.g0, h.g1, h.g2, h.g3, h.old⟩
theorem ImgSt.drewN (h : ImgSt w wr g m gf by_ bu bv f) (n : Nat) : ImgSt w (wr.drewN n) g m gf by_ bu bv f :=
  ⟨h.keep.drewN n, h.tape.far ((Keep.refl none_ _).drewN n) (fun _ e => e.elim), h.res, h.frame.drewN n, h.g0, h.g1, h.g2, h.g3, h.old⟩
theorem ImgSt.more (h : ImgSt w wr g m gf by_ bu bv f) {m' : Nat} (hm : m ≤ m') : ImgSt w wr g m' gf by_ bu bv f := ⟨h.keep, h.tape.mono hm, h.res, h.frame, h.g0, h.g1, h.g2, h.g3, h.old⟩
theorem ImgSt.drew (h : ImgSt w wr g m gf by_ bu bv f) : ImgSt w wr.drew g m gf by_ bu bv f := h.drewN 1
theorem ImgSt.stored (h : ImgSt w wr g m gf by_ bu bv f) {b k : Nat} {u : Value} {f' : Fr} (hb : w.heap.size < b) (hf : FrameBlk (wr.setCell ⟨b, k, none⟩ u) gf by_ bu bv f') : ImgSt w (wr.setCell ⟨b, k, none⟩ u) g m gf by_ bu bv f' :=
  have hk : Keep (one b) wr (wr.setCell ⟨b, k, none⟩ u) := (Keep.refl (one b) wr).setCell (p := ⟨b, k, none⟩) (.inl rfl) u
  ⟨h.keep.setCell (.inr (Nat.le_of_lt hb)) _, h.tape.far hk (fun x e => by cases e; have := h.old; omega), h.res.keep hk (fun e => by cases e; omega), hf, h.g0, h.g1, h.g2, h.g3, h.old⟩
end

def ImgPost (g m W H N M : Nat) (w : World) (e : Ending) (w' : World) : Prop := ∃ v f, e = .returned v ∧ FrameOf w' (one g) v f ∧ TapeAt w' g (m + 20) ∧ Keep (one g) w w' ∧ Szd f W H N M

/-- The facts of 'f.Y[t.Next(len(f.Y))] = byte(t.Next(256))'. -/
def imgCalm2 (wr : World) (g m1 N : Nat) : Calm where
  R := fun _ => Keep (one g)
  G := fun n w' => Keep (one g) wr w' ∧ TapeAt w' g (m1 + n)
  eff := [6, 8]
  T := fun k _ v _ => if k = 6 then ∃ r : Int, v = .int .i64 r ∧ 0 ≤ r ∧ r < N else ∃ r : Int, v = .int .i64 r ∧ 0 ≤ r ∧ r < 256
  anc := fun _ => []
  own := fun _ _ _ => False
theorem imgCalm2_good (wr : World) (g m1 N : Nat) : (imgCalm2 wr g m1 N).Good := ⟨fun _ _ h => ⟨h.1, h.2.mono (by omega)⟩, fun _ _ _ h => h.size, fun _ _ _ _ _ _ _ _ h _ => h⟩

/-- What Image hands back. -/
theorem ImgSt.done {w wr w' : World} {m0 g m gf by_ bu bv : Nat} {f : Fr} {W H N M : Nat} (h : ImgSt w wr g m gf by_ bu bv f) (hsz : Szd f W H N M) (hNM : N ≤ 65536 ∧ M ≤ 65536) (hm : m ≤ m0 + 20) (hk : Keep (one w.heap.size) wr w') :
    ImgPost g m0 W H N M w (.returned (.agg #[.int .i64 f.W, .int .i64 f.H, .slice (some ⟨by_, 0, none⟩) f.Y.length f.Y.length, .slice (some ⟨bu, 0, none⟩) f.U.length f.U.length, .slice (some ⟨bv, 0, none⟩) f.V.length f.V.length])) w' := by
  have n : ∀ b, w.heap.size < b → ¬ one g b := fun b hb e => by have := h.old; cases e; omega
  have n2 : ∀ b, w.heap.size < b → ¬ one w.heap.size b := fun b hb e => by cases e; omega
  have row : ∀ b zs, w.heap.size < b → ByteBlk wr b zs → zs.length ≤ 65536 → BytesOf w' (one g) (.slice (some ⟨b, 0, none⟩) zs.length zs.length) zs := fun b zs hb hy hl => by
    refine ⟨_, _, _, rfl, ?_, hy.2⟩
    have := (hy.1.keep hk (n2 b hb)).row (S := one g) (size := 1) (n := zs.length) (c := zs.length) (by simp) (Nat.le_refl _) (by unfold maxLen; omega) (n b hb)
    rw [List.take_of_length_le (by simp)] at this
    simpa using this
  have hb := h.old
  refine ⟨_, f, rfl, ⟨_, _, _, rfl, row by_ f.Y h.g1 h.frame.y (by rw [hsz.y]; omega), row bu f.U h.g2 h.frame.u (by rw [hsz.u]; omega), row bv f.V h.g3 h.frame.v (by rw [hsz.v]; omega)⟩, ?_, ?_, hsz⟩
  · exact (h.tape.mono hm).far hk (fun b e => by unfold one at e; omega)
  · exact h.keep.then hk (fun k e => by unfold one at e; right; omega)

set_option maxRecDepth 100000 in
set_option maxHeartbeats 1000000 in
theorem image_any (g m W H N M : Nat) (w : World) (ht : TapeAt w g m) (hm : m ≤ 4503599627370000) (hW0 : 0 < W) (hW : W ≤ 64) (hH0 : 0 < H) (hN : W * H = N) (hM : N / 4 = M) (hN2 : N ≤ 4096) :
    Calls Try.prog 6 #[.pointer (some ⟨g, 0, none⟩), .int .i64 W, .int .i64 H] w (ImgPost g m W H N M w) := by
  have hold : g < w.heap.size := ht.lt
  have hWH : (W : Int) * H = N := by rw [← hN]; simp
  have hMM : (N : Int) / 4 = M := by omega
  have hN0 : 0 < N := hN ▸ Nat.mul_pos hW0 hH0
  have mkN := mk_u8 N (by omega)
  have mkM := mk_u8 M (by omega)
  have HN := Lib.hid hN
  have HM := Lib.hid hM
  have HT := Lib.hid ht
  clear hN hM ht
  go_enter Try.func6, Try.ntmps6
  go_upto_region 1 with (fail)
  go_cut [7] (fun s7 wx => ∃ gf by_ bu bv : Nat, s7 = .pointer (some ⟨gf, 0, none⟩) ∧ ImgSt w wx g m gf by_ bu bv ⟨W, H, List.replicate N 0, List.replicate M 0, List.replicate M 0⟩)
  case first =>
    have gd := imgCalm_good (w.alloc (.cells #[.int .i64 0, .int .i64 0, .slice none 0 0, .slice none 0 0, .slice none 0 0] 24)) N M
    refine wp_region_calm (imgCalm (w.alloc (.cells #[.int .i64 0, .int .i64 0, .slice none 0 0, .slice none 0 0, .slice none 0 0] 24)) N M) [0, 1, 2, 3, 4, 5, 6, 7, 8, 9, 10, 11, 12, 13, 14, 15, 16, 17] [18] 113 (by kernel_rfl) (by kernel_rfl) rfl gd (Keep.refl _ _).drew ?_
    have ne : Nonempty (imgCalm (w.alloc (.cells #[.int .i64 0, .int .i64 0, .slice none 0 0, .slice none 0 0, .slice none 0 0] 24)) N M).Sub := ⟨⟨_, 0, Nat.zero_le _, Keep.refl _ _⟩⟩
    simp only [pairs, List.filterMap_cons, List.filterMap_nil, List.getElem?_toArray, List.getElem?_cons_succ, List.getElem?_cons_zero, Option.map_some]
    repeat (refine Calm.walk_quiet ne rfl rfl rfl (fun K hK => ?_); go_big_quiet_op; refine hK _ ?_; clear hK K)
    refine Calm.walk_eff rfl rfl (fun n w1 _ hR _ => ?_) ?_
    · unfold gives
      go_simp
      exact ⟨⟨w1.heap.size, hR.size, rfl, Blk.new _ _ _⟩, (Keep.refl _ _).alloc _, Keep.alloc hR _, fun b hb => by cases hb; simp⟩
    rintro v w1 ⟨by_, -, rfl, -⟩
    clear w1
    go_frame
    repeat (refine Calm.walk_quiet ne rfl rfl rfl (fun K hK => ?_); go_big_quiet_op; refine hK _ ?_; clear hK K)
    refine Calm.walk_eff rfl rfl (fun n w1 _ hR _ => ?_) ?_
    · unfold gives
      go_simp
      exact ⟨⟨w1.heap.size, hR.size, rfl, Blk.new _ _ _⟩, (Keep.refl _ _).alloc _, Keep.alloc hR _, fun b hb => by cases hb; simp⟩
    rintro v w1 ⟨bu, -, rfl, -⟩
    clear w1
    go_frame
    repeat (refine Calm.walk_quiet ne rfl rfl rfl (fun K hK => ?_); go_big_quiet_op; refine hK _ ?_; clear hK K)
    refine Calm.walk_eff rfl rfl (fun n w1 _ hR _ => ?_) ?_
    · unfold gives
      go_simp
      exact ⟨⟨w1.heap.size, hR.size, rfl, Blk.new _ _ _⟩, (Keep.refl _ _).alloc _, Keep.alloc hR _, fun b hb => by cases hb; simp⟩
    rintro v w1 ⟨bv, -, rfl, -⟩
    clear w1
    go_frame
    repeat (refine Calm.walk_quiet ne rfl rfl rfl (fun K hK => ?_); go_big_quiet_op; refine hK _ ?_; clear hK K)
    refine Calm.walk_eff rfl rfl (fun n w1 _ hR _ => ?_) ?_
    · unfold gives
      go_simp
      exact ⟨⟨w1.heap.size, hR.size, rfl, Blk.new _ _ _⟩, (Keep.refl _ _).alloc _, Keep.alloc hR _, fun b hb => by cases hb; simp⟩
    rintro v w1 ⟨gf, -, rfl, -⟩
    clear w1
    go_frame
    repeat (refine Calm.walk_quiet ne rfl rfl rfl (fun K hK => ?_); go_big_quiet_op; refine hK _ ?_; clear hK K)
    intro w' hR hD
    have f5 := madeT.slice (hD.1 5 rfl _ rfl ⟨rfl, rfl⟩).1
    have f10 := madeT.slice (hD.1 10 rfl _ rfl ⟨rfl, rfl⟩).1
    have f15 := madeT.slice (hD.1 15 rfl _ rfl ⟨rfl, rfl⟩).1
    have f17 := madeT.ptr (hD.1 17 rfl _ rfl ⟨rfl, rfl⟩).1
    have d1 : by_ ≠ bu := fun e => hD.2 5 10 rfl rfl (by decide) _ _ rfl rfl ⟨rfl, rfl⟩ ⟨rfl, rfl⟩ by_ rfl e
    have d2 : by_ ≠ bv := fun e => hD.2 5 15 rfl rfl (by decide) _ _ rfl rfl ⟨rfl, rfl⟩ ⟨rfl, rfl⟩ by_ rfl e
    have d3 : bu ≠ bv := fun e => hD.2 10 15 rfl rfl (by decide) _ _ rfl rfl ⟨rfl, rfl⟩ ⟨rfl, rfl⟩ bu rfl e
    have d4 : by_ ≠ gf := fun e => hD.2 5 17 rfl rfl (by decide) _ _ rfl rfl ⟨rfl, rfl⟩ ⟨rfl, rfl⟩ by_ rfl e
    have d5 : bu ≠ gf := fun e => hD.2 10 17 rfl rfl (by decide) _ _ rfl rfl ⟨rfl, rfl⟩ ⟨rfl, rfl⟩ bu rfl e
    have d6 : bv ≠ gf := fun e => hD.2 15 17 rfl rfl (by decide) _ _ rfl rfl ⟨rfl, rfl⟩ ⟨rfl, rfl⟩ bv rfl e
    clear hD
    simp only [pickOps, List.filterMap_cons, List.filterMap_nil, List.getElem?_toArray, List.getElem?_cons_succ, List.getElem?_cons_zero]
    refine wpList_store_blk rfl 24 (.tmp 7) (.tmp 30) rfl gf 24 _ _ rfl rfl f17.2 rfl (by kernel_rfl) (by simp [Value.oneCell']) ?_
    intro w2 hb2 hk2 hs2
    go_frame
    go_wp2
    go_meet
    case rel =>
      have hR' : Keep none_ (w.alloc (.cells #[.int .i64 0, .int .i64 0, .slice none 0 0, .slice none 0 0, .slice none 0 0] 24)) w' := hR
      have s0 : (w.alloc (.cells #[.int .i64 0, .int .i64 0, .slice none 0 0, .slice none 0 0, .slice none 0 0] 24)).heap.size = w.heap.size + 1 := by simp
      have g5 : w.heap.size + 1 ≤ by_ := s0 ▸ f5.1
      have g10 : w.heap.size + 1 ≤ bu := s0 ▸ f10.1
      have g15 : w.heap.size + 1 ≤ bv := s0 ▸ f15.1
      have g17 : w.heap.size + 1 ≤ gf := s0 ▸ f17.1
      have kw : Keep none_ w w' := ((Keep.refl _ _).alloc _).trans hR'
      have kw2 : Keep (one g) w w2 := kw.weak.then hk2 fun k e => by cases e; right; omega
      have nn : ∀ b, b ≠ gf → ¬ one gf b := fun b h e => h e
      refine ⟨gf, by_, bu, bv, rfl, kw2, ?_, ?_, ⟨?_, ?_, ?_, ?_, d1, d2, d3⟩, by omega, by omega, by omega, by omega, hold⟩
      · exact (HT.out.far kw (fun _ e => e.elim)).far hk2 (fun x e => by cases e; omega)
      · exact (Blk.keep (Blk.new w _ _) hR' (fun e => e)).keep hk2 (by intro e; cases e; omega)
      · simpa using hb2
      · exact (ByteBlk.made _ _ _ f5.2).keep hk2 (nn _ d4)
      · exact (ByteBlk.made _ _ _ f10.2).keep hk2 (nn _ d5)
      · exact (ByteBlk.made _ _ _ f15.2).keep hk2 (nn _ d6)
  case rest =>
    obtain ⟨gf, by_, bu, bv, rfl, hst⟩ := hcut
    go_wp2_with fail
    refine (next_any g m 256 _ hst.tape (by omega) (by omega)).mono ?_
    rintro e w1 ⟨a, rfl, ha, -, ht1, hk1⟩
    replace hst := hst.next hk1 ht1
    obtain ⟨ha0, ha1⟩ := ha (by omega)
    clear ht1 hk1 ha
    go_wp2_with fail
    refine (next_any g (m + 1) 17 _ hst.tape (by omega) (by omega)).mono ?_
    rintro e w2 ⟨b, rfl, hb, -, ht1, hk1⟩
    replace hst := hst.next hk1 ht1
    obtain ⟨hb0, hb1⟩ := hb (by omega)
    clear ht1 hk1 hb
    go_wp2_with fail
    refine (next_any g (m + 1 + 1) 9 _ hst.tape (by omega) (by omega)).mono ?_
    rintro e w3 ⟨c, rfl, hc, -, ht1, hk1⟩
    replace hst := hst.next hk1 ht1
    obtain ⟨hc0, hc1⟩ := hc (by omega)
    clear ht1 hk1 hc
    go_wp2_with fail
    go_loopw [11] (fun i wr => ∃ (k : Nat) (f : Fr), k ≤ N ∧ i = .int .i64 k ∧ ImgSt w wr g (m + 3) gf by_ bu bv f ∧ Szd f W H N M) (fun i _ => N - (intOf i).toNat)
    case atStart => exact ⟨0, _, Nat.zero_le _, rfl, hst, ⟨rfl, rfl, by simp, by simp, by simp⟩⟩
    case round =>
      clear hst
      obtain ⟨k, f, hk, rfl, hst, hsz⟩ := hrel
      have c2 : wr.cell? ⟨gf, 2, none⟩ = some (.slice (some ⟨by_, 0, none⟩) N N) := by rw [hst.frame.blk.cell]; simp [hsz.y]
      by_cases hlt : k < N
      · have c3 := hst.frame.y.cell (k := k) (by rw [hsz.y]; exact hlt)
        have f3 := hst.frame.y.1.frozen k
        have hki : (0 : Int) ≤ (k : Int) := by omega
        have hkn : (k : Int) < N := by omega
        go_wp2_with fail
        have gd := still_good (wr).drew
        have ne := still_some (wr).drew
        have hx := still_at (wr).drew
        refine wp_region_calm (stillCalm (wr).drew) [0, 1, 2, 3, 4, 5, 6, 7, 8, 9, 10, 11, 12, 13, 14, 15, 16, 17] [18] 113 (by kernel_rfl) (by kernel_rfl) rfl gd rfl ?_
        simp only [pairs, List.filterMap_cons, List.filterMap_nil, List.getElem?_toArray, List.getElem?_cons_succ, List.getElem?_cons_zero, Option.map_some]
        repeat (refine Calm.walk_quiet ne rfl rfl rfl (fun K hK => ?_); go_big_quiet_op; refine hK _ ?_; clear hK K)
        intro w' hR _
        obtain rfl : w' = (wr).drew := hR.symm
        simp only [pickOps, List.filterMap_cons, List.filterMap_nil, List.getElem?_toArray, List.getElem?_cons_succ, List.getElem?_cons_zero]
        clear gd ne hx hR
        go_wp2_with fail
        go_roundw
        case rel => exact ⟨k + 1, _, by omega, by go_num, (hst.stored hst.g1 (hst.frame.setY k (by constructor <;> omega))).drew, ⟨hsz.w, hsz.h, by simp [hsz.y], hsz.u, hsz.v⟩⟩
        case measure => simp [intOf]; omega
      · go_wp2_with fail
        go_loopw [12] (fun i wr => ∃ (k : Nat) (f : Fr), k ≤ M ∧ i = .int .i64 k ∧ ImgSt w wr g (m + 3) gf by_ bu bv f ∧ Szd f W H N M) (fun i _ => M - (intOf i).toNat)
        case atStart => exact ⟨0, _, Nat.zero_le _, rfl, hst, hsz⟩
        case round =>
          clear hst hsz c2 f
          obtain ⟨k2, f, hk2, rfl, hst, hsz⟩ := hrel
          have c2 : wr.cell? ⟨gf, 3, none⟩ = some (.slice (some ⟨bu, 0, none⟩) M M) := by rw [hst.frame.blk.cell]; simp [hsz.u]
          have c4 : wr.cell? ⟨gf, 4, none⟩ = some (.slice (some ⟨bv, 0, none⟩) M M) := by rw [hst.frame.blk.cell]; simp [hsz.v]
          by_cases hlt2 : k2 < M
          · have c3 := hst.frame.u.cell (k := k2) (by rw [hsz.u]; exact hlt2)
            have f3 := hst.frame.u.1.frozen k2
            have c5 := hst.frame.v.cell (k := k2) (by rw [hsz.v]; exact hlt2)
            have f5 := hst.frame.v.1.frozen k2
            have hki : (0 : Int) ≤ (k2 : Int) := by omega
            have hkn : (k2 : Int) < M := by omega
            have n1 : ¬ bu = gf := hst.frame.gne.2.1
            have n2 : ¬ bu = bv := hst.frame.uv
            go_wp2_with fail
            go_roundw
            case rel =>
              have h1 := hst.stored hst.g2 (hst.frame.setU k2 (z := wrap64 (128 + a / 4 + wrap64 (↑k2 % 7 * c)) % 256) (by constructor <;> omega))
              have h2 := h1.stored hst.g3 (h1.frame.setV k2 (z := wrap64 (128 - a / 4 + wrap64 (↑k2 % 5 * b)) % 256) (by constructor <;> omega))
              exact ⟨k2 + 1, _, by omega, by go_num, h2, ⟨hsz.w, hsz.h, hsz.y, by simp [hsz.u], by simp [hsz.v]⟩⟩
            case measure => simp [intOf]; omega
          · go_wp2_with fail
            clear c2 c4
            refine (next_any g (m + 3) 5 _ hst.tape (by omega) (by omega)).mono ?_
            rintro e w4 ⟨q, rfl, hq, -, ht1, hk1⟩
            replace hst := hst.next hk1 ht1
            obtain ⟨hq0, hq1⟩ := hq (by omega)
            clear ht1 hk1 hq
            obtain ⟨q, rfl⟩ := Int.eq_ofNat_of_zero_le hq0
            go_wp2_with fail
            go_loopw [13] (fun i wr => ∃ (k : Nat) (f : Fr), k ≤ 4 ∧ i = .int .i64 k ∧ ImgSt w wr g (m + 12 - 2 * k) gf by_ bu bv f ∧ Szd f W H N M) (fun i _ => (intOf i).toNat)
            case atStart => exact ⟨q, _, by omega, rfl, hst.more (by omega), hsz⟩
            case round =>
              clear hst hsz f
              obtain ⟨k3, f, hk3, rfl, hst, hsz⟩ := hrel
              by_cases hlt3 : 0 < k3
              · have hl2 : (0 : Int) < k3 := by omega
                go_wp2_with fail
                have gd := imgCalm2_good wr g (m + 12 - 2 * k3) N
                have ne : Nonempty (imgCalm2 wr g (m + 12 - 2 * k3) N).Sub := ⟨⟨wr, 0, Nat.zero_le _, Keep.refl _ _, hst.tape⟩⟩
                have c2 : ∀ x : (imgCalm2 wr g (m + 12 - 2 * k3) N).Sub, ((imgCalm2 wr g (m + 12 - 2 * k3) N).at_ x).cell? ⟨gf, 2, none⟩ = some (.slice (some ⟨by_, 0, none⟩) N N) := by
                  rintro ⟨x, n, hn, hx, _⟩
                  refine hx.cell ?_ (not_one hst.old hst.g0)
                  rw [hst.frame.blk.cell]; simp [hsz.y]
                refine wp_region_calm (imgCalm2 wr g (m + 12 - 2 * k3) N) [0, 1, 2, 3, 4, 5, 6, 7, 8, 9, 10] [11] 113 (by kernel_rfl) (by kernel_rfl) rfl gd ⟨(Keep.refl _ _).drew, hst.drew.tape⟩ ?_
                simp only [pairs, List.filterMap_cons, List.filterMap_nil, List.getElem?_toArray, List.getElem?_cons_succ, List.getElem?_cons_zero, Option.map_some]
                repeat (refine Calm.walk_quiet ne rfl rfl rfl (fun K hK => ?_); go_big_quiet_op; refine hK _ ?_; clear hK K)
                refine Calm.walk_eff rfl rfl (fun n w1 hn hG _ => ?_) ?_
                · unfold gives
                  go_simp
                  have hn' : n < 2 := hn
                  refine (next_any g (m + 12 - 2 * k3 + n) N w1 hG.2 (by omega) (by omega)).mono ?_
                  rintro e w2 ⟨r, rfl, hr, -, ht, hk⟩
                  exact ⟨_, rfl, ⟨r, rfl, hr (by omega)⟩, hk, ⟨hG.1.trans hk, ht⟩, fun _ h => h.elim⟩
                rintro v w1 ⟨r1, rfl, hr1, hr2⟩
                clear w1
                go_frame
                repeat (refine Calm.walk_quiet ne rfl rfl rfl (fun K hK => ?_); go_big_quiet_op; refine hK _ ?_; clear hK K)
                refine Calm.walk_eff rfl rfl (fun n w1 hn hG _ => ?_) ?_
                · unfold gives
                  go_simp
                  have hn' : n < 2 := hn
                  refine (next_any g (m + 12 - 2 * k3 + n) 256 w1 hG.2 (by omega) (by omega)).mono ?_
                  rintro e w2 ⟨r, rfl, hr, -, ht, hk⟩
                  exact ⟨_, rfl, ⟨r, rfl, hr (by omega)⟩, hk, ⟨hG.1.trans hk, ht⟩, fun _ h => h.elim⟩
                rintro v w1 ⟨r2, rfl, hr3, hr4⟩
                clear w1
                go_frame
                obtain ⟨r1, rfl⟩ := Int.eq_ofNat_of_zero_le hr1
                repeat (refine Calm.walk_quiet ne rfl rfl rfl (fun K hK => ?_); go_big_quiet_op; refine hK _ ?_; clear hK K)
                intro w' hG0 _
                have hG : Keep (one g) wr w' ∧ TapeAt w' g (m + 12 - 2 * k3 + 2) := hG0
                replace hst := hst.next hG.1 hG.2
                clear hG0
                clear hG c2 ne gd
                simp only [pickOps, List.filterMap_cons, List.filterMap_nil, List.getElem?_toArray, List.getElem?_cons_succ, List.getElem?_cons_zero]
                have c3 := hst.frame.y.cell (k := r1) (by rw [hsz.y]; omega)
                have f3 := hst.frame.y.1.frozen r1
                go_wp2_with fail
                go_roundw
                case rel => exact ⟨k3 - 1, _, by omega, by go_num, (hst.stored hst.g1 (hst.frame.setY r1 (by omega))).more (by omega), ⟨hsz.w, hsz.h, by simp [hsz.y], hsz.u, hsz.v⟩⟩
                case measure => simp [intOf]; omega
              · go_wp2_with (first | (refine wpList_load_blk rfl 24 (.tmp 7) rfl gf 24 _ _ rfl hst.frame.blk Try.underlying24 rfl (by kernel_rfl) ?_) | (refine wpList_store_blk rfl 24 (.tmp 6) (.tmp 112) rfl w.heap.size 24 _ _ rfl rfl hst.res rfl (by kernel_rfl) (by simp [Value.oneCell']) ?_; intro w5 hb5 hk5 hs5))
                refine bodyPost_ret (v := .agg #[.int .i64 f.W, .int .i64 f.H, .slice (some ⟨by_, 0, none⟩) f.Y.length f.Y.length, .slice (some ⟨bu, 0, none⟩) f.U.length f.U.length, .slice (some ⟨bv, 0, none⟩) f.V.length f.V.length]) ?_ rfl (hst.done hsz ⟨by omega, by omega⟩ (by omega) hk5)
                exact results_cell Try.results6 rfl (run_loadVar_blk hb5 Try.underlying24 rfl (by kernel_rfl))
end Go.Proofs.Ytnpkhbcbbbpjhaa
