/-
  The law ProxyMeans: the walk.
-/
import Derived.Test.YtnpkhbcbbbpjhaaAwake
import Derived.Test.YtnpkhbcbbbpjhaaImg
import Derived.Test.YtnpkhbcbbbpjhaaMeanS
import Derived.Test.YtnpkhbcbbbpjhaaApp
namespace Go.Proofs.Ytnpkhbcbbbpjhaa
open Go.RowKit

/-- The facts of 'g := api.Frame{W: 32, H: 64, U: make(..), V: make(..)}'. -/
def meanCalm (w : World) : Calm where
  R := fun _ => Keep none_
  G := fun _ => Keep none_ w
  eff := [0, 1, 3]
  T := fun k _ v w' => match k with
    | 3 => madeT w.heap.size 24 zeroFrame (fun a => .pointer (some a)) v w'
    | _ => madeT w.heap.size 5 (madeCells #[.int .u8 0] 512) (fun a => .slice (some a) 512 512) v w'
  anc := fun _ => []
  own := fun _ => ownBlk
theorem meanCalm_good (w : World) : (meanCalm w).Good where
  mono := fun _ _ h => h
  size := fun _ _ _ h => h.size
  stable := fun _ k vs v w1 w2 _ _ h hR => by
    have hS : ∀ b, none_ b → b < w.heap.size := fun _ h => h.elim
    simp only [meanCalm] at h ⊢
    split at h <;> exact h.stable hR hS

theorem mean_ok {f : Fr} (h : Szd f 32 64 2048 512) : redOkF f = true := by
  unfold redOkF
  rw [h.w, h.h, h.y, h.u, h.v]
  decide
theorem mean_E {f : Fr} (h : Szd f 32 64 2048 512) : redE f = 0 := by rw [redE, mean_ok h]; rfl
theorem mean_Y {f : Fr} (h : Szd f 32 64 2048 512) : (redF f).Y = redPlane f.Y 32 := by
  rw [redF, mean_ok h, if_pos rfl, redFr, h.w]
  rfl
theorem mean_gok (p : List Int) : redOkF ⟨32, 64, mir p 2048, List.replicate 512 0, List.replicate 512 0⟩ = true := by
  unfold redOkF
  simp only [mir_length, List.length_replicate]
  decide
theorem mean_gE (p : List Int) : redE ⟨32, 64, mir p 2048, List.replicate 512 0, List.replicate 512 0⟩ = 0 := by rw [redE, mean_gok]; rfl
theorem mean_gY (p : List Int) : (redF ⟨32, 64, mir p 2048, List.replicate 512 0, List.replicate 512 0⟩).Y = redPlane (mir p 2048) 32 := by
  have h := mean_gok p
  generalize mir p 2048 = m at *
  rw [redF, h, if_pos rfl]
  exact congrArg (redPlane m) (show (32 : Int).toNat = 32 from rfl)
theorem redPlane_length (p : List Int) (W : Nat) : (redPlane p W).length = p.length / 4 := by simp [redPlane]
theorem ByteBlk.bytes {w : World} {b : Nat} {zs : List Int} {S : Nat → Prop} (h : ByteBlk w b zs) (n : Nat) (hl : zs.length = n) (hn : n ≤ 65536) (hS : ¬ S b := by exact fun e => e) : BytesOf w S (.slice (some ⟨b, 0, none⟩) n n) zs := by
  subst hl
  refine ⟨_, _, _, rfl, ?_, h.2⟩
  have := h.1.row (size := 1) (n := zs.length) (c := zs.length) (S := S) (by simp) (Nat.le_refl _) (by unfold maxLen; omega) hS
  have e : ((zs.map (Value.int .u8)).toArray.toList.take (zs.length * 1)) = zs.map (Value.int .u8) := by rw [Nat.mul_one]; exact List.take_of_length_le (by simp)
  rw [e] at this
  exact this

theorem min4 (a b c d : Int) : ∃ m, m ≤ a ∧ m ≤ b ∧ m ≤ c ∧ m ≤ d ∧ ∀ w, (Builtin.min_ #[5, 5, 5, 5] 5 #[.int .u8 a, .int .u8 b, .int .u8 c, .int .u8 d]).run Try.prog w = .ok (.int .u8 m) w := by
  refine ⟨if d < (if c < (if b < a then b else a) then c else if b < a then b else a) then d else if c < (if b < a then b else a) then c else if b < a then b else a, ?_, ?_, ?_, ?_, fun w => by simp [Builtin.min_, Builtin.min2]⟩ <;> (repeat' split) <;> omega
theorem max4 (a b c d : Int) : ∃ m, a ≤ m ∧ b ≤ m ∧ c ≤ m ∧ d ≤ m ∧ ∀ w, (Builtin.max_ #[5, 5, 5, 5] 5 #[.int .u8 a, .int .u8 b, .int .u8 c, .int .u8 d]).run Try.prog w = .ok (.int .u8 m) w := by
  refine ⟨if (if (if a < b then b else a) < c then c else if a < b then b else a) < d then d else if (if a < b then b else a) < c then c else if a < b then b else a, ?_, ?_, ?_, ?_, fun w => by simp [Builtin.max_, Builtin.max2]⟩ <;> (repeat' split) <;> omega

set_option maxRecDepth 100000 in
set_option maxHeartbeats 1000000 in
theorem law4_any (A : Option Addr) (n c : Nat) (zs : List Int) (w : World) (hr : Row w none_ 1 A n c (zs.map (Value.int .i64))) (hz : I64s zs) :
    Calls Try.prog 4 #[.slice A n c] w fun e w' => e = .returned (.bool true) ∧ Keep none_ w w' := by
  have ht : TapeAt (w.alloc (.cells #[.slice A n c, .int .i64 0] 28)) w.heap.size 0 := ⟨A, n, c, 0, zs, Blk.new _ _ _, Nat.le_refl _, ((hr.fresh (S := ge w.heap.size) (fun k e => e) (by decide)).keep ((Keep.refl _ _).alloc _)), hz⟩
  have k0 : Keep none_ w (w.alloc (.cells #[.slice A n c, .int .i64 0] 28)) := (Keep.refl _ _).alloc _
  have mk512 := mk_u8 512 (by decide)
  obtain ⟨W0, hW0⟩ : ∃ W0, W0 = w.alloc (.cells #[.slice A n c, .int .i64 0] 28) := ⟨_, rfl⟩
  rw [← hW0] at ht k0
  clear hr hz
  go_enter Try.func4, Try.ntmps4
  go_upto_region 2 with (fail)
  rw [← hW0]
  clear hW0
  go_wp2_with fail
  refine (image_any w.heap.size 0 32 64 2048 512 W0 ht (by decide) (by decide) (by decide) (by decide) rfl rfl (by decide)).mono ?_
  rintro e w1 ⟨v, f, rfl, hf, -, hk, hsz⟩
  have k1 : Keep none_ w w1 := k0.own hk (Nat.le_refl _)
  have HF := Lib.hid hf.free
  obtain ⟨y, u, x, rfl, ⟨A1, n1, c1, rfl, r1, t1⟩, ⟨A2, n2, c2, rfl, -⟩, ⟨A3, n3, c3, rfl, -⟩⟩ := hf
  obtain rfl : n1 = 2048 := by have := r1.len; rw [List.length_map, hsz.y] at this; omega
  have R1 := Lib.hid r1.free
  have T1 := Lib.hid t1
  have fE := Lib.hid (mean_E hsz)
  have fY := Lib.hid (mean_Y hsz)
  have l0 : w.heap.size ≤ w1.heap.size := k1.size
  clear ht hk k0 r1 t1
  go_upto_region 3 with (refine wpList_store_blk rfl 24 (.tmp 4) (.tmp 19) rfl w1.heap.size 24 _ _ rfl rfl (Blk.new _ _ _) rfl (by kernel_rfl) (by simp [Value.oneCell']) ?_; intro w2 b2 k2 s2)
  go_frame
  have k12 : Keep none_ w1 w2 := ((Keep.refl none_ w1).alloc _).own k2 (Nat.le_refl _)
  clear s2 k2
  have gd := meanCalm_good w2
  have ne : Nonempty (meanCalm w2).Sub := ⟨⟨w2, 0, Nat.zero_le _, Keep.refl _ _⟩⟩
  refine wp_region_calm (meanCalm w2) [0, 1, 2, 3] [4] 172 (by kernel_rfl) (by kernel_rfl) rfl gd (Keep.refl _ _).drew ?_
  simp only [pairs, List.filterMap_cons, List.filterMap_nil, List.getElem?_toArray, List.getElem?_cons_succ, List.getElem?_cons_zero, Option.map_some]
  refine Calm.walk_eff rfl rfl (fun n w3 _ hR _ => ?_) ?_
  · unfold gives
    go_simp
    exact ⟨⟨w3.heap.size, hR.size, rfl, Blk.new _ _ _⟩, (Keep.refl _ _).alloc _, Keep.alloc hR _, fun b hb => by cases hb; simp⟩
  rintro v w3 ⟨bu, -, rfl, -⟩
  clear w3
  go_frame
  refine Calm.walk_eff rfl rfl (fun n w3 _ hR _ => ?_) ?_
  · unfold gives
    go_simp
    exact ⟨⟨w3.heap.size, hR.size, rfl, Blk.new _ _ _⟩, (Keep.refl _ _).alloc _, Keep.alloc hR _, fun b hb => by cases hb; simp⟩
  rintro v w3 ⟨bv, -, rfl, -⟩
  clear w3
  go_frame
  repeat (refine Calm.walk_quiet ne rfl rfl rfl (fun K hK => ?_); go_big_quiet_op; refine hK _ ?_; clear hK K)
  refine Calm.walk_eff rfl rfl (fun n w3 _ hR _ => ?_) ?_
  · unfold gives
    go_simp
    exact ⟨⟨w3.heap.size, hR.size, rfl, Blk.new _ _ _⟩, (Keep.refl _ _).alloc _, Keep.alloc hR _, fun b hb => by cases hb; simp⟩
  rintro v w3 ⟨gf, -, rfl, -⟩
  clear w3
  go_frame
  intro w3 hG hD
  have k23 : Keep none_ w2 w3 := hG
  have f0 := madeT.slice (hD.1 0 rfl _ rfl ⟨rfl, rfl⟩).1
  have f1 := madeT.slice (hD.1 1 rfl _ rfl ⟨rfl, rfl⟩).1
  have f3 := madeT.ptr (hD.1 3 rfl _ rfl ⟨rfl, rfl⟩).1
  have d1 : bu ≠ gf := fun e => hD.2 0 3 rfl rfl (by decide) _ _ rfl rfl ⟨rfl, rfl⟩ ⟨rfl, rfl⟩ bu rfl e
  have d2 : bv ≠ gf := fun e => hD.2 1 3 rfl rfl (by decide) _ _ rfl rfl ⟨rfl, rfl⟩ ⟨rfl, rfl⟩ bv rfl e
  clear hD hG ne gd
  simp only [pickOps, List.filterMap_cons, List.filterMap_nil, List.getElem?_toArray, List.getElem?_cons_succ, List.getElem?_cons_zero]
  refine wpList_store_blk rfl 24 (.tmp 5) (.tmp 22) rfl gf 24 _ _ rfl rfl f3.2 rfl (by kernel_rfl) (by simp [Value.oneCell']) ?_
  intro w4 b4 k34 s4
  go_frame
  have l1 := b2.lt
  have g1 : w1.heap.size ≠ gf := by have := f3.1; omega
  obtain ⟨S, hS⟩ : ∃ S : Nat → Prop, S = fun x => w4.heap.size ≤ x ∨ x = gf := ⟨_, rfl⟩
  have lg := b4.lt
  have S1 : ∀ x, x < w4.heap.size → x ≠ gf → ¬ S x := fun x h1 h2 e => by rw [hS] at e; rcases e with e | e <;> omega
  have S2 : ∀ x, S x → w1.heap.size ≤ x := fun x e => by rw [hS] at e; have := k12.size; have := k23.size; have := k34.size; have := f3.1; rcases e with e | e <;> omega
  have S3 : ∀ x, w4.heap.size ≤ x → S x := fun x e => by rw [hS]; exact .inl e
  have S4 : S gf := by rw [hS]; exact .inr rfl
  have K14 : Keep S w1 w4 := ((k12.trans k23).weak (S := S)).trans (k34.mono fun x e => by cases e; exact S4)
  have B2 := Lib.hid ((b2.keep k23 (fun e => e)).keep k34 (fun e => g1 e))
  have BU := Lib.hid ((ByteBlk.made _ _ _ f0.2).keep k34 (fun e => d1 e))
  have BV := Lib.hid ((ByteBlk.made _ _ _ f1.2).keep k34 (fun e => d2 e))
  have lu := BU.out.1.lt
  have lw := B2.out.lt
  have lv := BV.out.1.lt
  have R4 := Lib.hid ((R1.out.fresh (S := S) S2 (by decide)).keep K14)
  have HF4 := Lib.hid (show FrameOf w4 S _ f from by
    obtain ⟨y, u, x, e, ⟨A1, n1, c1, rfl, r1, t1⟩, ⟨A2, n2, c2, rfl, r2, t2⟩, ⟨A3, n3, c3, rfl, r3, t3⟩⟩ := HF.out
    exact ⟨_, _, _, e, ⟨_, _, _, rfl, (r1.fresh S2 (by decide)).keep K14, t1⟩, ⟨_, _, _, rfl, (r2.fresh S2 (by decide)).keep K14, t2⟩, ⟨_, _, _, rfl, (r3.fresh S2 (by decide)).keep K14, t3⟩⟩)
  have kw : Keep none_ w w4 := (k1.trans (k12.trans k23)).own k34 (by have := f3.1; have := k1.size; have := k12.size; omega)
  have own0 : w4.ownsRow w4.heap.size 5 1 (.slice none 0 0) 0 ((mir f.Y 0).map (Value.int .u8)) := ⟨rfl, .inl ⟨rfl, rfl⟩⟩
  have c42 := B2.out.cell 2
  simp only [List.getElem?_toArray, List.getElem?_cons_zero, List.getElem?_cons_succ] at c42
  clear R1 HF b2 f0 f1 f3 s4 k34 k23 k12 k1 hS
  go_upto_region 5 with (fail)
  go_loopw [26] (fun i wr => ∃ (k : Nat) (v : Value), k ≤ 2048 ∧ i = .int .i64 k ∧ wr.ownsRow w4.heap.size 5 1 v k ((mir f.Y k).map (Value.int .u8)) ∧ Blk wr gf 24 #[.int .i64 32, .int .i64 64, v, .slice (some ⟨bu, 0, none⟩) 512 512, .slice (some ⟨bv, 0, none⟩) 512 512] ∧ Keep S w4 wr) (fun i _ => 2048 - (intOf i).toNat)
  case atStart => exact ⟨0, _, by omega, rfl, own0, b4, Keep.refl _ _⟩
  case round =>
    clear own0 b4
    obtain ⟨k, v, hk, rfl, hown, hb, hkr⟩ := hrel
    by_cases hlt : k < 2048
    · have hlt' : (k : Int) < 2048 := by omega
      obtain ⟨ba, oa, hA1, hSa, hcell⟩ := R4.out.u8 (by omega)
      subst hA1
      obtain ⟨q, hq⟩ : ∃ q : Nat, mirAt k = q := ⟨_, rfl⟩
      have e8 : (k : Int) / 32 * 32 + 31 - (k : Int) % 32 = q := by rw [← hq]; unfold mirAt; omega
      have hqn : q < 2048 := by rw [← hq]; unfold mirAt; omega
      have HQ := Lib.hid hq
      clear hq
      have c1 := hkr.cell (hcell q hqn) hSa
      obtain ⟨z, hz⟩ : ∃ z, z = f.Y.getD q 0 := ⟨_, rfl⟩
      rw [← hz] at c1
      have HZ := Lib.hid hz
      clear hz hcell
      have c2 := hb.cell 2
      simp only [List.getElem?_toArray, List.getElem?_cons_zero, List.getElem?_cons_succ] at c2
      have c3 := hkr.cell c42 (S1 w1.heap.size lw g1)
      go_upto_region 7 with (fail)
      obtain ⟨X, hX⟩ : ∃ X : Value → World → Prop, X = fun v' w' => w'.ownsRow w4.heap.size 5 1 v' (k + 1) ((mir f.Y k).map (Value.int .u8) ++ [.int .u8 z]) := ⟨_, rfl⟩
      have gd := appCalm_good (wr := wr) (S := ofBlk v) (k1 := 13) (k2 := 14) (t := 5) (cs := #[.int .u8 z]) (X := X) (own_lt hown) (fun v w w' h k => by rw [hX] at *; exact own_keep h k (fun _ _ e => e))
      have HX := Lib.hid hX
      clear hX
      have ne := appCalm_some wr (ofBlk v) 13 14 5 #[.int .u8 z] X
      have o1 : ¬ ofBlk v ba := fun e => hSa (S3 _ (own_ge hown _ e))
      have o2 : ¬ ofBlk v gf := fun e => by have := own_ge hown _ e; omega
      have o3 : ¬ ofBlk v w1.heap.size := fun e => by have := own_ge hown _ e; omega
      have x1 := fun x => (appCalm_at (wr := wr) (S := ofBlk v) (k1 := 13) (k2 := 14) (t := 5) (cs := #[.int .u8 z]) (X := X) x).cell c1 o1
      have x2 := fun x => (appCalm_at (wr := wr) (S := ofBlk v) (k1 := 13) (k2 := 14) (t := 5) (cs := #[.int .u8 z]) (X := X) x).cell c2 o2
      have x3 := fun x => (appCalm_at (wr := wr) (S := ofBlk v) (k1 := 13) (k2 := 14) (t := 5) (cs := #[.int .u8 z]) (X := X) x).cell c3 o3
      refine wp_region_calm (appCalm wr (ofBlk v) 13 14 5 #[.int .u8 z] X) [0, 1, 2, 3, 4, 5, 6, 7, 8, 9, 10, 11, 12, 13, 14, 15] [16] 172 (by kernel_rfl) (by kernel_rfl) rfl gd ⟨(Keep.refl _ _).drew, fun _ => (Keep.refl _ _).drew⟩ ?_
      simp only [pairs, List.filterMap_cons, List.filterMap_nil, List.getElem?_toArray, List.getElem?_cons_succ, List.getElem?_cons_zero, Option.map_some]
      repeat (refine Calm.walk_quiet ne rfl rfl rfl (fun K hK => ?_); go_big_quiet_op; refine hK _ ?_; clear hK K)
      refine Calm.walk_eff rfl rfl (fun n w5 _ hR _ => ?_) ?_
      · unfold gives
        go_simp
        exact ⟨⟨w5.heap.size, hR.1.size, rfl, Blk.new _ _ _⟩, (Keep.refl _ _).alloc _, ⟨hR.1.alloc _, fun hn => (hR.2 (by omega)).alloc _⟩, fun b hb => hb.elim⟩
      rintro v5 w5 ⟨b5, -, rfl, -⟩
      clear w5
      go_frame
      refine Calm.walk_effn rfl rfl (fun n w5 h1 h2 hG hA => ?_) ?_
      · have h2' : n < 2 := h2
        have hk5 : Keep none_ wr w5 := hG.2 (by omega)
        have hb5 := madeT.slice (hA 13 (List.mem_cons_self ..) _ rfl ⟨rfl, rfl⟩).1
        refine gives_mono (gives_append1 (.tmp 30) (.tmp 42) 22 5 rfl w4.heap.size (.int .u8 0) 1 1 Try.underlying22 u8_info rfl (by omega) v k _ rfl (own_keep hown hk5 (fun _ _ e => e)) b5 #[.int .u8 z] rfl hb5.2 rfl (by simp [Value.oneCell']) (by omega) (Nat.le_trans hkr.size hk5.size)) fun v6 w6 h => ?_
        exact ⟨HX.out ▸ h.1, h.2.1, ⟨hk5.weak.trans h.2.1, fun hn => absurd hn (by have h1' : 1 ≤ n := h1; omega)⟩, fun b hb => hb.elim⟩
      rintro v6 w5 -
      clear w5
      go_frame
      repeat (refine Calm.walk_quiet ne rfl rfl rfl (fun K hK => ?_); go_big_quiet_op; refine hK _ ?_; clear hK K)
      intro w5 hG hD
      have hk5 : Keep (ofBlk v) wr w5 := hG.1
      have hown5 : X v6 w5 := (hD.1 14 rfl _ rfl ⟨rfl, rfl⟩).1
      rw [HX.out] at hown5
      obtain ⟨A6, c6, rfl, -⟩ := own_row (S := none_) hown5 (fun _ _ e => e)
      clear hD hG ne gd x1 x2 x3
      have hb5 := hb.keep hk5 o2
      have c5 := hb5.cell 2
      have f5 := hb5.frozen 2
      simp only [List.getElem?_toArray, List.getElem?_cons_zero, List.getElem?_cons_succ] at c5
      simp only [pickOps, List.filterMap_cons, List.filterMap_nil, List.getElem?_toArray, List.getElem?_cons_succ, List.getElem?_cons_zero]
      go_wp2
      go_roundw
      case rel =>
        have hkg : Keep (one gf) w5 (w5.setCell ⟨gf, 2, none⟩ (.slice A6 (k + 1) c6)) := (Keep.refl (one gf) _).setCell (p := ⟨gf, 2, none⟩) (.inl rfl) (.slice A6 (k + 1) c6)
        refine ⟨k + 1, .slice A6 (k + 1) c6, by omega, by go_num, ?_, ?_, (hkr.trans (hk5.mono fun x e => S3 _ (own_ge hown _ e))).setCell (p := ⟨gf, 2, none⟩) (.inl S4) _⟩
        · rw [mir_succ, List.map_append, HQ.out, List.map_cons, List.map_nil, ← HZ.out]
          exact own_keep hown5 hkg (fun x hx e => by cases e; have := own_ge hown5 _ hx; omega)
        · have := hb5.set_ 2 (.slice A6 (k + 1) c6)
          simpa using this
      case measure => simp [intOf]; omega
    · obtain rfl : k = 2048 := by omega
      obtain ⟨Ag, cg, rfl, rowg⟩ := own_row (S := none_) hown (fun _ _ e => e)
      have bf := B2.out.keep hkr (S1 w1.heap.size lw g1)
      obtain ⟨g, hg⟩ : ∃ g : Fr, g = ⟨32, 64, mir f.Y 2048, List.replicate 512 0, List.replicate 512 0⟩ := ⟨_, rfl⟩
      have gE := Lib.hid (show redE g = 0 by rw [hg]; exact mean_gE f.Y)
      have gY := Lib.hid (show (redF g).Y = redPlane (mir f.Y 2048) 32 by rw [hg]; exact mean_gY f.Y)
      have HG := Lib.hid (show FrameOf wr none_ (.agg #[.int .i64 32, .int .i64 64, .slice Ag 2048 cg, .slice (some ⟨bu, 0, none⟩) 512 512, .slice (some ⟨bv, 0, none⟩) 512 512]) g from by
        rw [hg]
        exact ⟨_, _, _, rfl, ⟨_, _, _, rfl, rowg, mir_u8 T1.out _⟩, (BU.out.keep hkr (S1 bu lu d1)).bytes 512 rfl (by decide), (BV.out.keep hkr (S1 bv lv d2)).bytes 512 rfl (by decide)⟩)
      clear hg
      have HF5 := Lib.hid (HF4.out.keep hkr).free
      have R5 := Lib.hid (R4.out.keep hkr).free
      have kwr : Keep none_ w wr := kw.then hkr (fun x e => by have := S2 x e; exact .inr (Nat.le_trans l0 this))
      clear HF4 R4 hown rowg BU BV kw S1 S2 S3 S4 K14 B2 c42 hkr
      go_wp2_with (refine wpList_load_blk rfl 24 (.tmp 4) rfl w1.heap.size 24 _ _ rfl bf Try.underlying24 rfl (by kernel_rfl) ?_)
      refine (reduceP_any f _ wr none_ HF5.out).mono ?_
      rintro e w5 ⟨va, rfl, ha, k5⟩
      rw [fE.out]
      obtain ⟨y, u, x, rfl, ⟨C1, o1, h1, rfl, ra, ta⟩, ⟨C2, o2, h2, rfl, -⟩, ⟨C3, o3, h3, rfl, -⟩⟩ := ha
      obtain rfl : o1 = 512 := by have := ra.len; rw [List.length_map, fY.out, redPlane_length] at this; rw [hsz.y] at this; omega
      have RA := Lib.hid ra
      clear ra ta
      go_upto_region 10 with (refine wpList_store_blk rfl 24 (.tmp 7) (.tmp 49) rfl w5.heap.size 24 _ _ rfl rfl (Blk.new _ _ _) rfl (by kernel_rfl) (by simp [Value.oneCell']) ?_; intro w6 b6 k6 s6)
      have k56 : Keep none_ w5 w6 := ((Keep.refl none_ w5).alloc _).own k6 (Nat.le_refl _)
      replace k56 := k5.trans k56
      replace RA := Lib.hid (RA.out.keep (((Keep.refl none_ w5).alloc _).own k6 (Nat.le_refl _)))
      have bg := hb.keep k56 (fun e => e)
      clear k5 k6 s6
      go_wp2_with (refine wpList_load_blk rfl 24 (.tmp 5) rfl gf 24 _ _ rfl bg Try.underlying24 rfl (by kernel_rfl) ?_)
      refine (reduceP_any g _ w6 none_ (HG.out.keep k56)).mono ?_
      rintro e w7 ⟨vb, rfl, hvb, k7⟩
      rw [gE.out]
      obtain ⟨y, u, x, rfl, ⟨D1, p1, q1, rfl, rb, tb⟩, ⟨D2, p2, q2, rfl, -⟩, ⟨D3, p3, q3, rfl, -⟩⟩ := hvb
      obtain rfl : p1 = 512 := by have := rb.len; rw [List.length_map, gY.out, redPlane_length, mir_length] at this; omega
      have RB := Lib.hid rb
      clear rb tb
      go_upto_region 11 with (refine wpList_store_blk rfl 24 (.tmp 9) (.tmp 54) rfl w7.heap.size 24 _ _ rfl rfl (Blk.new _ _ _) rfl (by kernel_rfl) (by simp [Value.oneCell']) ?_; intro w8 b8 k8 s8)
      have k78 : Keep none_ w7 w8 := ((Keep.refl none_ w7).alloc _).own k8 (Nat.le_refl _)
      replace RB := Lib.hid (RB.out.keep k78)
      replace RA := Lib.hid (RA.out.keep (k7.trans k78))
      replace R5 := Lib.hid (R5.out.keep (k56.trans (k7.trans k78)))
      replace b6 := b6.keep (k7.trans k78) (fun e => e)
      replace bf := bf.keep (k56.trans (k7.trans k78)) (fun e => e)
      have kw8 : Keep none_ w w8 := kwr.trans (k56.trans (k7.trans k78))
      clear k8 s8 k78 k7 k56 bg hb HF5 HG kwr
      have y6 := b6.cell 2
      have y8 := b8.cell 2
      have yf := bf.cell 2
      simp only [List.getElem?_toArray, List.getElem?_cons_zero, List.getElem?_cons_succ] at y6 y8 yf
      clear b6 b8 bf
      have RA' := Lib.hid (fY.out ▸ RA.out)
      have RB' := Lib.hid (gY.out ▸ RB.out)
      clear RA RB
      go_upto_region 14 with (fail)
      go_loopw [77] (fun i wr => ∃ k : Nat, k ≤ 512 ∧ i = .int .i64 k ∧ Keep none_ w8 wr) (fun i _ => 512 - (intOf i).toNat)
      case atStart => exact ⟨0, by omega, rfl, Keep.refl _ _⟩
      case round =>
        obtain ⟨k, hk, rfl, hkr⟩ := hrel
        by_cases hlt : k < 512
        · have hlt' : (k : Int) < 512 := by omega
          obtain ⟨q, hq⟩ : ∃ q : Nat, at4 32 k = q := ⟨_, rfl⟩
          have e12 : (k : Int) / 16 * 64 + (k : Int) % 16 * 2 = q := by rw [← hq]; unfold at4; omega
          have hqn : q + 33 < 2048 := by rw [← hq]; unfold at4; omega
          obtain ⟨r, hr⟩ : ∃ r : Nat, k / 16 * 16 + 15 - k % 16 = r := ⟨_, rfl⟩
          have e15 : (k : Int) / 16 * 16 + 15 - (k : Int) % 16 = r := by omega
          have hrn : r < 512 := by omega
          obtain ⟨bf, of, hAf, -, cf⟩ := R5.out.u8 (by omega)
          obtain ⟨ba, oa, hAa, -, ca⟩ := RA'.out.u8 (by omega)
          obtain ⟨bb, ob, hAb, -, cb⟩ := RB'.out.u8 (by omega)
          subst hAf hAa hAb
          have c1 := hkr.cell (cf q (by omega)) (fun e => e)
          have c2 := hkr.cell (cf (q + 1) (by omega)) (fun e => e)
          have c3 := hkr.cell (cf (q + 32) (by omega)) (fun e => e)
          have c4 := hkr.cell (cf (q + 33) (by omega)) (fun e => e)
          have c5 := hkr.cell (ca k hlt) (fun e => e)
          have c6 := hkr.cell (cb r hrn) (fun e => e)
          have y1 := hkr.cell y6 (fun e => e)
          have y2 := hkr.cell y8 (fun e => e)
          have y3 := hkr.cell yf (fun e => e)
          have z5 : (redPlane f.Y 32).getD k 0 = redAt f.Y 32 k := redPlane_get _ _ _ (by rw [hsz.y]; omega)
          have z6 : (redPlane (mir f.Y 2048) 32).getD r 0 = redAt f.Y 32 k := by rw [redPlane_get _ _ _ (by rw [mir_length]; omega), ← hr]; exact red_mir f.Y k hlt
          rw [z5] at c5
          rw [z6] at c6
          have hz : redAt f.Y 32 k = (f.Y.getD q 0 + f.Y.getD (q + 1) 0 + f.Y.getD (q + 32) 0 + f.Y.getD (q + 33) 0 + 2) / 4 := by rw [redAt, hq]
          generalize redAt f.Y 32 k = z at c5 c6 hz
          generalize f.Y.getD q 0 = z1 at c1 hz
          generalize f.Y.getD (q + 1) 0 = z2 at c2 hz
          generalize f.Y.getD (q + 32) 0 = z3 at c3 hz
          generalize f.Y.getD (q + 33) 0 = z4 at c4 hz
          obtain ⟨lo, l1, l2, l3, l4, hlo⟩ := min4 z1 z2 z3 z4
          obtain ⟨hi, h1, h2, h3, h4, hhi⟩ := max4 z1 z2 z3 z4
          have zl : decide (z < lo) = false := decide_eq_false (by omega)
          have zh : decide (hi < z) = false := decide_eq_false (by omega)
          clear hz z5 z6 cf ca cb hr hq y6 y8 yf l1 l2 l3 l4 h1 h2 h3 h4
          go_upto_region 17 with (fail)
          have gd := still_good (wr).drew
          have ne := still_some (wr).drew
          have hx := still_at (wr).drew
          refine wp_region_calm (stillCalm (wr).drew) [0, 1, 2, 3, 4, 5, 6, 7, 8, 9, 10, 11, 12, 13, 14, 15, 16, 17, 18, 19, 20, 21, 22, 23, 24] [] 172 (by kernel_rfl) (by kernel_rfl) rfl gd rfl ?_
          simp only [pairs, List.filterMap_cons, List.filterMap_nil, List.getElem?_toArray, List.getElem?_cons_succ, List.getElem?_cons_zero, Option.map_some]
          repeat (refine Calm.walk_quiet ne rfl rfl rfl (fun K hK => ?_); go_big_quiet_op; refine hK _ ?_; clear hK K)
          intro w' hR _
          obtain rfl : w' = (wr).drew := hR.symm
          simp only [pickOps, List.filterMap_nil]
          clear gd ne hx hR
          go_upto_region 18 with (fail)
          have gd := still_good (wr.drew).drew
          have ne := still_some (wr.drew).drew
          have hx := still_at (wr.drew).drew
          refine wp_region_calm (stillCalm (wr.drew).drew) [0, 1, 2, 3, 4, 5, 6, 7, 8, 9, 10, 11, 12, 13, 14, 15, 16, 17, 18, 19, 20, 21, 22, 23, 24] [] 172 (by kernel_rfl) (by kernel_rfl) rfl gd rfl ?_
          simp only [pairs, List.filterMap_cons, List.filterMap_nil, List.getElem?_toArray, List.getElem?_cons_succ, List.getElem?_cons_zero, Option.map_some]
          repeat (refine Calm.walk_quiet ne rfl rfl rfl (fun K hK => ?_); go_big_quiet_op; refine hK _ ?_; clear hK K)
          intro w' hR _
          obtain rfl : w' = (wr.drew).drew := hR.symm
          simp only [pickOps, List.filterMap_nil]
          clear gd ne hx hR
          go_upto_region 19 with (fail)
          have gd := still_good (wr.drew.drew).drew
          have ne := still_some (wr.drew.drew).drew
          have hx := still_at (wr.drew.drew).drew
          refine wp_region_calm (stillCalm (wr.drew.drew).drew) [0, 1, 2, 3, 4, 5, 6, 7, 8, 9, 10, 11, 12, 13, 14, 15, 16, 17, 18, 19, 20, 21, 22, 23, 24, 25, 26, 27, 28, 29, 30, 31, 32, 33, 34] [] 172 (by kernel_rfl) (by kernel_rfl) rfl gd rfl ?_
          simp only [pairs, List.filterMap_cons, List.filterMap_nil, List.getElem?_toArray, List.getElem?_cons_succ, List.getElem?_cons_zero, Option.map_some]
          repeat (refine Calm.walk_quiet ne rfl rfl rfl (fun K hK => ?_); go_big_quiet_op; refine hK _ ?_; clear hK K)
          intro w' hR _
          obtain rfl : w' = (wr.drew.drew).drew := hR.symm
          simp only [pickOps, List.filterMap_nil]
          clear gd ne hx hR
          go_wp2_with fail
          go_roundw
          case rel => exact ⟨k + 1, by omega, by go_num, hkr.drew.drew.drew⟩
          case measure => simp [intOf]; omega
        · obtain rfl : k = 512 := by omega
          go_wp2_with fail
          refine (awake_any wr).mono ?_
          rintro e w9 ⟨rfl, k9⟩
          go_wp2_with fail
          go_ret
          exact ⟨rfl, (kw8.trans hkr).trans k9⟩
end Go.Proofs.Ytnpkhbcbbbpjhaa
