/-
  events: the list of events that a tape makes.
-/
import Derived.Test.YtnefbeplgfdkkaaGreatDoorRu25
import Derived.Test.YtnefbeplgfdkkaaGreatDoorRu24
namespace Go.Proofs.YtnefbeplgfdkkaaGreatDoor
open Go.RowKit

def EvsPost (g m : Nat) (most : Nat) (w : World) (e : Ending) (w' : World) : Prop :=
  ∃ vl l css, e = .returned vl ∧ w'.ownsRow w.heap.size 78 6 vl l.length css.flatten ∧ All2 (EvOwn w' w.heap.size) css l ∧ l.length ≤ most ∧ (∀ e ∈ l, GenEv e) ∧ TapeAt w' g (m + 20 * (most + 1)) ∧ Keep (one g) w w'

set_option maxRecDepth 100000 in
set_option maxHeartbeats 1000000 in
theorem events_any (g m most : Nat) (w : World) (ht : TapeAt w g m) (hm : m ≤ 1048576) (hmost : most ≤ 64) :
    Calls Tryz.prog 16 #[.pointer (some ⟨g, 0, none⟩), .int .i64 most] w (EvsPost g m most w) := by
  have NX := Lib.hid (next_any g m (most + 1 : Int) w ht (by omega) (by omega))
  have hg := ht.lt
  clear ht
  have ze := zero_event
  go_enter Tryz.func16, Tryz.ntmps16
  have t1 : True := trivial
  go_upto_region 3 with (have _t := t1; go_at_call 8; refine NX.out.mono ?_; rintro e w1 ⟨r, rfl, h1, -, ht1, k1⟩; have HR := Lib.hid (h1 (by omega)); have T1 := Lib.hid ht1; have K1 := Lib.hid k1; clear h1 ht1 k1 _t t1)
  have hr := HR.out
  obtain ⟨N, rfl⟩ : ∃ N : Nat, r = N := ⟨r.toNat, by omega⟩
  have hN : N ≤ most := by omega
  clear HR hr NX
  go_loopw [5, 6] (fun o i wr => ∃ (q : Nat) (l : List Ev) (css : List (List Value)), i = .int .i64 q ∧ q + l.length = N ∧ wr.ownsRow w.heap.size 78 6 o l.length css.flatten ∧ All2 (EvOwn wr w.heap.size) css l ∧ (∀ e ∈ l, GenEv e) ∧ TapeAt wr g (m + 20 * (l.length + 1)) ∧ Keep (one g) w wr) (fun _ i _ => (intOf i).toNat)
  case atStart => exact ⟨N, [], [], rfl, by simp, ⟨rfl, .inl ⟨rfl, rfl⟩⟩, trivial, fun _ h => (by cases h), T1.out.mono (by simp only [List.length_nil]; omega), K1.out⟩
  case round =>
    obtain ⟨q, l, css, rfl, hq, ho, hE, hGe, htp, hkr⟩ := hrel
    obtain ⟨Ao, co, rfl, -⟩ := own_row (S := none_) ho (fun _ _ e => e)
    have HO := Lib.hid ho
    have HE := Lib.hid hE
    have HGe := Lib.hid hGe
    have HT := Lib.hid htp
    have HK := Lib.hid hkr
    clear ho hE hGe htp hkr
    by_cases hq0 : 0 < q
    · have hq0' : (0 : Int) < q := by omega
      have hll : l.length ≤ 64 := by omega
      have sz := HK.out.size
      obtain ⟨W1, hW1⟩ : ∃ W1, W1 = wr.alloc (.cells #[.int .i64 1, .int .i64 1, .int .i64 2, .int .i64 2, .int .i64 3, .int .i64 4, .int .i64 4, .int .i64 5, .int .i64 6, .int .i64 6, .int .i64 6, .int .i64 6, .int .i64 7, .int .i64 7, .int .i64 7, .int .i64 8, .int .i64 9] 3) := ⟨_, rfl⟩
      have k1 : Keep none_ wr W1 := hW1 ▸ (Keep.refl none_ wr).alloc _
      have b1 : Blk W1 wr.heap.size 3 #[.int .i64 1, .int .i64 1, .int .i64 2, .int .i64 2, .int .i64 3, .int .i64 4, .int .i64 4, .int .i64 5, .int .i64 6, .int .i64 6, .int .i64 6, .int .i64 6, .int .i64 7, .int .i64 7, .int .i64 7, .int .i64 8, .int .i64 9] := hW1 ▸ Blk.new _ _ _
      have N1 := next17 g (m + 20 * (l.length + 1)) wr.heap.size W1 (HT.out.far k1 (fun _ e => e.elim)) (by omega) b1 (by omega)
      rw [hW1] at N1
      have NX := Lib.hid N1
      have B1 := Lib.hid b1
      have KW1 := Lib.hid k1
      have HW1 := Lib.hid hW1
      clear hW1 k1 b1 N1
      have t1 : True := trivial
      have t2 : True := trivial
      go_upto_region 6 with (first | (have _t := t1; go_at_call 8; refine NX.out.mono ?_; rintro e w2 ⟨r3, K, rfl, hr3, hr3', f2, hK1, hK2, ht2, k2⟩; have T2 := Lib.hid ht2; have K2 := Lib.hid (KW1.out.weak.trans (by rw [HW1.out]; exact k2)); have HW2 := Lib.hid (show W1.heap.size ≤ w2.heap.size by rw [HW1.out]; exact k2.size); have HKm := Lib.hid (And.intro hK1 hK2); clear ht2 k2 hK1 hK2 _t t1) | (have _t := t2; refine wpList_store_blk rfl 78 (.tmp 7) (.tmp 24) rfl w2.heap.size 78 _ _ rfl rfl (Blk.new _ _ _) rfl (by kernel_rfl) (by simp [Value.oneCell']) ?_; intro w3 b3 k3 s3; go_frame; clear _t t2))
      have k23 : Keep none_ w2 w3 := ((Keep.refl none_ w2).alloc _).own k3 (Nat.le_refl _)
      obtain ⟨M, hM⟩ : ∃ M, M = m + 20 * (l.length + 1) + 1 := ⟨_, rfl⟩
      have T3 : TapeAt w3 g M := hM ▸ T2.out.far k23 (fun _ e => e.elim)
      have HM := Lib.hid hM
      have K3 := Lib.hid (K2.out.trans k23.weak)
      have B3 := Lib.hid b3
      have g3 : g < w3.heap.size := T3.lt
      have gd := nameCalm_good w3 g M g3
      have ne : Nonempty (nameCalm w3 g M).Sub := ⟨⟨w3, 0, Nat.zero_le _, Keep.refl _ _, T3⟩⟩
      have l2 := K2.out.size
      have WRW := Lib.hid (show wr.heap.size < w2.heap.size from Nat.lt_of_lt_of_le (by have := B1.out.lt; exact this) HW2.out)
      have MM : M ≤ 4503599627370000 := by rw [hM]; omega
      have gw2 : g ≠ w2.heap.size := by have := T2.out.lt; omega
      clear hM k3 s3 b3 k23 f2
      refine wp_region_calm (nameCalm w3 g M) [0, 1, 2, 3, 4, 5, 6, 7, 8, 9, 10, 11, 12, 13, 14, 15, 16, 17] [] 93 (by kernel_rfl) (by kernel_rfl) rfl gd ⟨(Keep.refl _ _).drew, (T3.far (Keep.refl none_ _).drew (fun _ e => e.elim))⟩ ?_
      simp only [pairs, List.filterMap_cons, List.filterMap_nil, List.getElem?_toArray, List.getElem?_cons_succ, List.getElem?_cons_zero, Option.map_some]
      refine Calm.walk_eff rfl rfl (fun n wy hn hG _ => ?_) ?_
      · unfold gives
        go_simp
        exact ⟨madeT.new hG.1 9 #[.string ⟨#[112, 97, 114, 116, 48]⟩, .string ⟨#[112, 97, 114, 116, 52]⟩, .string ⟨#[112, 97, 114, 116, 57]⟩] (fun a => .slice (some a) 3 3), (Keep.refl _ _).alloc _, ⟨hG.1.alloc _, (hG.2.far ((Keep.refl none_ _).alloc _) (fun _ e => e.elim)).mono (by omega)⟩, fun _ h => h.elim⟩
      intro vq wy hT
      obtain ⟨bj, hbj, rfl, -⟩ : ∃ b, w3.heap.size ≤ b ∧ vq = .slice (some ⟨b, 0, none⟩) 3 3 ∧ True := by
        obtain ⟨b, h1, h2, -⟩ := (id hT : madeT w3.heap.size 9 #[.string ⟨#[112, 97, 114, 116, 48]⟩, .string ⟨#[112, 97, 114, 116, 52]⟩, .string ⟨#[112, 97, 114, 116, 57]⟩] (fun a => .slice (some a) 3 3) vq wy)
        exact ⟨b, h1, h2, trivial⟩
      clear hT wy
      go_frame
      repeat (refine Calm.walk_quiet ne rfl rfl rfl (fun K hK => ?_); go_big_quiet_op; refine hK _ ?_; clear hK K)
      refine Calm.walk_eff rfl rfl (fun n wy hn hG _ => ?_) ?_
      · unfold gives
        go_simp
        refine (next_any g (M + n) 3 wy hG.2 (by decide) (by have : n < 9 := hn; omega)).mono ?_
        rintro e wz ⟨r, rfl, h1, -, ht, hk⟩
        have hr := h1 (by decide)
        exact ⟨_, rfl, ⟨r.toNat, by rw [Int.toNat_of_nonneg hr.1]; rfl, by omega⟩, hk, ⟨hG.1.trans hk, ht⟩, fun _ h => h.elim⟩
      intro vq wy hT
      obtain ⟨rj, rfl, hrj⟩ : ∃ r : Nat, vq = .int .i64 r ∧ r < 3 := hT
      clear wy
      have hrj' : (rj : Int) < 3 := by omega
      go_frame
      repeat (refine Calm.walk_quiet ne rfl rfl rfl (fun K hK => ?_); go_big_quiet_op; refine hK _ ?_; clear hK K)
      refine Calm.walk_eff rfl rfl (fun n wy hn hG hAF => ?_) ?_
      · have hm : madeT w3.heap.size 9 #[.string ⟨#[112, 97, 114, 116, 48]⟩, .string ⟨#[112, 97, 114, 116, 52]⟩, .string ⟨#[112, 97, 114, 116, 57]⟩] (fun a => .slice (some a) 3 3) (.slice (some ⟨bj, 0, none⟩) 3 3) wy := (hAF 0 List.mem_cons_self _ rfl ⟨rfl, rfl⟩).1
        have hbk := hm.slice.2
        obtain ⟨x, hx, hmem⟩ : ∃ x, (#[.string ⟨#[112, 97, 114, 116, 48]⟩, .string ⟨#[112, 97, 114, 116, 52]⟩, .string ⟨#[112, 97, 114, 116, 57]⟩] : Array Value)[rj]? = some (.string x) ∧ x ∈ jobs3 := by
          have : rj = 0 ∨ rj = 1 ∨ rj = 2 := by omega
          rcases this with rfl | rfl | rfl <;> exact ⟨_, rfl, by unfold jobs3; simp⟩
        have f1 : wy.cell? ⟨bj, rj, none⟩ = some (.string x) := by rw [hbk.cell]; exact hx
        clear hm hbk
        unfold gives
        go_simp
        exact ⟨⟨x, rfl, hmem⟩, Keep.refl _ _, ⟨hG.1, hG.2.mono (by omega)⟩, fun _ h => h.elim⟩
      intro vq wy hT
      obtain ⟨xj, rfl, hxj⟩ : ∃ x, vq = .string x ∧ x ∈ jobs3 := hT
      clear wy
      go_frame
      refine Calm.walk_eff rfl rfl (fun n wy hn hG _ => ?_) ?_
      · unfold gives
        go_simp
        exact ⟨madeT.new hG.1 9 #[.string ⟨#[109, 48]⟩, .string ⟨#[109, 49]⟩] (fun a => .slice (some a) 2 2), (Keep.refl _ _).alloc _, ⟨hG.1.alloc _, (hG.2.far ((Keep.refl none_ _).alloc _) (fun _ e => e.elim)).mono (by omega)⟩, fun _ h => h.elim⟩
      intro vq wy hT
      obtain ⟨bm, hbm, rfl, -⟩ : ∃ b, w3.heap.size ≤ b ∧ vq = .slice (some ⟨b, 0, none⟩) 2 2 ∧ True := by
        obtain ⟨b, h1, h2, -⟩ := (id hT : madeT w3.heap.size 9 #[.string ⟨#[109, 48]⟩, .string ⟨#[109, 49]⟩] (fun a => .slice (some a) 2 2) vq wy)
        exact ⟨b, h1, h2, trivial⟩
      clear hT wy
      go_frame
      repeat (refine Calm.walk_quiet ne rfl rfl rfl (fun K hK => ?_); go_big_quiet_op; refine hK _ ?_; clear hK K)
      refine Calm.walk_eff rfl rfl (fun n wy hn hG _ => ?_) ?_
      · unfold gives
        go_simp
        refine (next_any g (M + n) 2 wy hG.2 (by decide) (by have : n < 9 := hn; omega)).mono ?_
        rintro e wz ⟨r, rfl, h1, -, ht, hk⟩
        have hr := h1 (by decide)
        exact ⟨_, rfl, ⟨r.toNat, by rw [Int.toNat_of_nonneg hr.1]; rfl, by omega⟩, hk, ⟨hG.1.trans hk, ht⟩, fun _ h => h.elim⟩
      intro vq wy hT
      obtain ⟨rm, rfl, hrm⟩ : ∃ r : Nat, vq = .int .i64 r ∧ r < 2 := hT
      clear wy
      have hrm' : (rm : Int) < 2 := by omega
      go_frame
      repeat (refine Calm.walk_quiet ne rfl rfl rfl (fun K hK => ?_); go_big_quiet_op; refine hK _ ?_; clear hK K)
      refine Calm.walk_eff rfl rfl (fun n wy hn hG hAF => ?_) ?_
      · have hm : madeT w3.heap.size 9 #[.string ⟨#[109, 48]⟩, .string ⟨#[109, 49]⟩] (fun a => .slice (some a) 2 2) (.slice (some ⟨bm, 0, none⟩) 2 2) wy := (hAF 5 List.mem_cons_self _ rfl ⟨rfl, rfl⟩).1
        have hbk := hm.slice.2
        obtain ⟨x, hx, hmem⟩ : ∃ x, (#[.string ⟨#[109, 48]⟩, .string ⟨#[109, 49]⟩] : Array Value)[rm]? = some (.string x) ∧ x ∈ media2 := by
          have : rm = 0 ∨ rm = 1 := by omega
          rcases this with rfl | rfl <;> exact ⟨_, rfl, by unfold media2; simp⟩
        have f1 : wy.cell? ⟨bm, rm, none⟩ = some (.string x) := by rw [hbk.cell]; exact hx
        clear hm hbk
        unfold gives
        go_simp
        exact ⟨⟨x, rfl, hmem⟩, Keep.refl _ _, ⟨hG.1, hG.2.mono (by omega)⟩, fun _ h => h.elim⟩
      intro vq wy hT
      obtain ⟨xm, rfl, hxm⟩ : ∃ x, vq = .string x ∧ x ∈ media2 := hT
      clear wy
      go_frame
      refine Calm.walk_eff rfl rfl (fun n wy hn hG _ => ?_) ?_
      · unfold gives
        go_simp
        exact ⟨madeT.new hG.1 9 #[.string ⟨#[119, 48]⟩, .string ⟨#[119, 49]⟩, .string ⟨#[119, 50]⟩] (fun a => .slice (some a) 3 3), (Keep.refl _ _).alloc _, ⟨hG.1.alloc _, (hG.2.far ((Keep.refl none_ _).alloc _) (fun _ e => e.elim)).mono (by omega)⟩, fun _ h => h.elim⟩
      intro vq wy hT
      obtain ⟨bw, hbw, rfl, -⟩ : ∃ b, w3.heap.size ≤ b ∧ vq = .slice (some ⟨b, 0, none⟩) 3 3 ∧ True := by
        obtain ⟨b, h1, h2, -⟩ := (id hT : madeT w3.heap.size 9 #[.string ⟨#[119, 48]⟩, .string ⟨#[119, 49]⟩, .string ⟨#[119, 50]⟩] (fun a => .slice (some a) 3 3) vq wy)
        exact ⟨b, h1, h2, trivial⟩
      clear hT wy
      go_frame
      repeat (refine Calm.walk_quiet ne rfl rfl rfl (fun K hK => ?_); go_big_quiet_op; refine hK _ ?_; clear hK K)
      refine Calm.walk_eff rfl rfl (fun n wy hn hG _ => ?_) ?_
      · unfold gives
        go_simp
        refine (next_any g (M + n) 3 wy hG.2 (by decide) (by have : n < 9 := hn; omega)).mono ?_
        rintro e wz ⟨r, rfl, h1, -, ht, hk⟩
        have hr := h1 (by decide)
        exact ⟨_, rfl, ⟨r.toNat, by rw [Int.toNat_of_nonneg hr.1]; rfl, by omega⟩, hk, ⟨hG.1.trans hk, ht⟩, fun _ h => h.elim⟩
      intro vq wy hT
      obtain ⟨rw, rfl, hrw⟩ : ∃ r : Nat, vq = .int .i64 r ∧ r < 3 := hT
      clear wy
      have hrw' : (rw : Int) < 3 := by omega
      go_frame
      repeat (refine Calm.walk_quiet ne rfl rfl rfl (fun K hK => ?_); go_big_quiet_op; refine hK _ ?_; clear hK K)
      refine Calm.walk_eff rfl rfl (fun n wy hn hG hAF => ?_) ?_
      · have hm : madeT w3.heap.size 9 #[.string ⟨#[119, 48]⟩, .string ⟨#[119, 49]⟩, .string ⟨#[119, 50]⟩] (fun a => .slice (some a) 3 3) (.slice (some ⟨bw, 0, none⟩) 3 3) wy := (hAF 10 List.mem_cons_self _ rfl ⟨rfl, rfl⟩).1
        have hbk := hm.slice.2
        obtain ⟨x, hx, hmem⟩ : ∃ x, (#[.string ⟨#[119, 48]⟩, .string ⟨#[119, 49]⟩, .string ⟨#[119, 50]⟩] : Array Value)[rw]? = some (.string x) ∧ x ∈ wks3 := by
          have : rw = 0 ∨ rw = 1 ∨ rw = 2 := by omega
          rcases this with rfl | rfl | rfl <;> exact ⟨_, rfl, by unfold wks3; simp⟩
        have f1 : wy.cell? ⟨bw, rw, none⟩ = some (.string x) := by rw [hbk.cell]; exact hx
        clear hm hbk
        unfold gives
        go_simp
        exact ⟨⟨x, rfl, hmem⟩, Keep.refl _ _, ⟨hG.1, hG.2.mono (by omega)⟩, fun _ h => h.elim⟩
      intro vq wy hT
      obtain ⟨xw, rfl, hxw⟩ : ∃ x, vq = .string x ∧ x ∈ wks3 := hT
      clear wy
      go_frame
      repeat (refine Calm.walk_quiet ne rfl rfl rfl (fun K hK => ?_); go_big_quiet_op; refine hK _ ?_; clear hK K)
      intro w4 hG hD
      have k34 : Keep (one g) w3 w4 := hG.1
      have T4 : TapeAt w4 g (M + 9) := hG.2
      clear hG hD gd ne
      simp only [pickOps, List.filterMap_nil]
      have b4 := B3.out.keep k34 (fun e => by unfold one at e; omega)
      have K4 := Lib.hid (K3.out.trans k34)
      have T4' := Lib.hid T4
      have y0 := b4.cell 0
      have y1 := b4.cell 1
      have y2 := b4.cell 2
      have y4 := b4.cell 4
      have f1 := b4.frozen 1
      have f2 := b4.frozen 2
      have f4 := b4.frozen 4
      simp only [List.getElem?_toArray, List.getElem?_cons_zero, List.getElem?_cons_succ] at y0 y1 y2 y4
      have lw2 : w2.heap.size < w4.heap.size := b4.lt
      have hKm := HKm.out
      have kk : K = 1 ∨ K = 2 ∨ K = 3 ∨ K = 4 ∨ K = 5 ∨ K = 6 ∨ K = 7 ∨ K = 8 ∨ K = 9 := by omega
      have szw := K4.out.size
      clear HKm hKm T2 T3 K2 K3 k34 T4 NX B1 KW1 HW1 gw2
      have wrw2 : wr.heap.size ≤ w2.heap.size := Nat.le_of_lt WRW.out
      rcases kk with rfl | rfl | rfl | rfl | rfl | rfl | rfl | rfl | rfl
      · have B4 := Lib.hid b4
        have gd := subCalm_good w4 g (M + 9) w2.heap.size (.string xj) (by omega) (by omega) (by omega)
        have ne : Nonempty (subCalm w4 g (M + 9) w2.heap.size (.string xj)).Sub := ⟨⟨w4, 0, Nat.zero_le _, Keep.refl _ _, T4'.out, _, b4⟩⟩
        have y3 := b4.cell 3
        have f3 := b4.frozen 3
        simp only [List.getElem?_toArray, List.getElem?_cons_zero, List.getElem?_cons_succ] at y3
        clear b4 y2 y4 f2 f4
        go_upto_region 9 with (fail)
        refine wp_region_calm (subCalm w4 g (M + 9) w2.heap.size (.string xj)) [0, 1, 2, 3, 4, 5, 6, 7, 8, 9] [10, 11] 93 (by kernel_rfl) (by kernel_rfl) rfl gd ⟨(Keep.refl _ _).drew, (T4'.out.far (Keep.refl none_ _).drew (fun _ e => e.elim)), _, B4.out.drew⟩ ?_
        simp only [pairs, List.filterMap_cons, List.filterMap_nil, List.getElem?_toArray, List.getElem?_cons_succ, List.getElem?_cons_zero, Option.map_some]
        repeat (refine Calm.walk_quiet ne rfl rfl rfl (fun K hK => ?_); go_big_quiet_op; refine hK _ ?_; clear hK K)
        refine Calm.walk_eff rfl rfl (fun n wy hn hG _ => ?_) ?_
        · unfold gives
          go_simp
          exact ⟨madeT.new hG.1 9 #[.string ⟨#[109, 48]⟩] (fun a => .slice (some a) 1 1), ⟨(Keep.refl _ _).alloc _, fun _ => (Keep.refl _ _).alloc _⟩, ⟨hG.1.alloc _, (hG.2.1.far ((Keep.refl none_ _).alloc _) (fun _ e => e.elim)).mono (by omega), hG.2.2.choose, hG.2.2.choose_spec.alloc _⟩, fun _ h => h.elim⟩
        intro vq wy hT
        obtain ⟨ba, hba, rfl, -⟩ : ∃ b, w4.heap.size ≤ b ∧ vq = .slice (some ⟨b, 0, none⟩) 1 1 ∧ True := by
          obtain ⟨b, h1, h2, -⟩ := (id hT : madeT w4.heap.size 9 #[.string ⟨#[109, 48]⟩] (fun a => .slice (some a) 1 1) vq wy)
          exact ⟨b, h1, h2, trivial⟩
        clear hT wy
        go_frame
        repeat (refine Calm.walk_quiet ne rfl rfl rfl (fun K hK => ?_); go_big_quiet_op; refine hK _ ?_; clear hK K)
        refine Calm.walk_eff rfl rfl (fun n wy hn hG _ => ?_) ?_
        · unfold gives
          go_simp
          exact ⟨madeT.new hG.1 9 #[.string ⟨#[109, 48]⟩, .string ⟨#[109, 49]⟩] (fun a => .slice (some a) 2 2), ⟨(Keep.refl _ _).alloc _, fun _ => (Keep.refl _ _).alloc _⟩, ⟨hG.1.alloc _, (hG.2.1.far ((Keep.refl none_ _).alloc _) (fun _ e => e.elim)).mono (by omega), hG.2.2.choose, hG.2.2.choose_spec.alloc _⟩, fun _ h => h.elim⟩
        intro vq wy hT
        obtain ⟨bb, hbb, rfl, -⟩ : ∃ b, w4.heap.size ≤ b ∧ vq = .slice (some ⟨b, 0, none⟩) 2 2 ∧ True := by
          obtain ⟨b, h1, h2, -⟩ := (id hT : madeT w4.heap.size 9 #[.string ⟨#[109, 48]⟩, .string ⟨#[109, 49]⟩] (fun a => .slice (some a) 2 2) vq wy)
          exact ⟨b, h1, h2, trivial⟩
        clear hT wy
        go_frame
        repeat (refine Calm.walk_quiet ne rfl rfl rfl (fun K hK => ?_); go_big_quiet_op; refine hK _ ?_; clear hK K)
        refine Calm.walk_eff rfl rfl (fun n wy hn hG _ => ?_) ?_
        · unfold gives
          go_simp
          exact ⟨madeT.new hG.1 44 #[.slice none 0 0, .slice (some ⟨ba, 0, none⟩) 1 1, .slice (some ⟨bb, 0, none⟩) 2 2] (fun a => .slice (some a) 3 3), ⟨(Keep.refl _ _).alloc _, fun _ => (Keep.refl _ _).alloc _⟩, ⟨hG.1.alloc _, (hG.2.1.far ((Keep.refl none_ _).alloc _) (fun _ e => e.elim)).mono (by omega), hG.2.2.choose, hG.2.2.choose_spec.alloc _⟩, fun _ h => h.elim⟩
        intro vq wy hT
        obtain ⟨bc, hbc, rfl, -⟩ : ∃ b, w4.heap.size ≤ b ∧ vq = .slice (some ⟨b, 0, none⟩) 3 3 ∧ True := by
          obtain ⟨b, h1, h2, -⟩ := (id hT : madeT w4.heap.size 44 #[.slice none 0 0, .slice (some ⟨ba, 0, none⟩) 1 1, .slice (some ⟨bb, 0, none⟩) 2 2] (fun a => .slice (some a) 3 3) vq wy)
          exact ⟨b, h1, h2, trivial⟩
        clear hT wy
        go_frame
        repeat (refine Calm.walk_quiet ne rfl rfl rfl (fun K hK => ?_); go_big_quiet_op; refine hK _ ?_; clear hK K)
        refine Calm.walk_eff rfl rfl (fun n wy hn hG _ => ?_) ?_
        · unfold gives
          go_simp
          refine (nextN g (M + 9 + n) 3 wy hG.2.1 (by decide) (by decide) (by have : n < 6 := hn; omega)).mono ?_
          rintro e wz ⟨r, rfl, hr, ht, hk⟩
          exact ⟨_, rfl, ⟨r, rfl, hr⟩, ⟨hk.mono (fun _ e => .inl e), fun _ => hk⟩, ⟨hG.1.trans (hk.mono (fun _ e => .inl e)), ht, hG.2.2.choose, hG.2.2.choose_spec.keep hk (fun e => by unfold one at e; omega)⟩, fun _ h => h.elim⟩
        intro vq wy hT
        obtain ⟨rn, rfl, hrn⟩ : ∃ r : Nat, vq = .int .i64 r ∧ r < 3 := hT
        clear wy
        have hrn' : (rn : Int) < 3 := by omega
        go_frame
        repeat (refine Calm.walk_quiet ne rfl rfl rfl (fun K hK => ?_); go_big_quiet_op; refine hK _ ?_; clear hK K)
        refine Calm.walk_eff rfl rfl (fun n wy hn hG hAF => ?_) ?_
        · have m3 : madeT w4.heap.size 44 #[.slice none 0 0, .slice (some ⟨ba, 0, none⟩) 1 1, .slice (some ⟨bb, 0, none⟩) 2 2] (fun a => .slice (some a) 3 3) (.slice (some ⟨bc, 0, none⟩) 3 3) wy := (hAF 3 (by first | exact List.mem_cons_self | exact List.mem_cons_of_mem _ (List.mem_cons_of_mem _ List.mem_cons_self) | exact List.mem_cons_of_mem _ (List.mem_cons_of_mem _ (List.mem_cons_of_mem _ List.mem_cons_self))) _ rfl ⟨rfl, rfl⟩).1
          have m1 : madeT w4.heap.size 9 #[.string ⟨#[109, 48]⟩] (fun a => .slice (some a) 1 1) (.slice (some ⟨ba, 0, none⟩) 1 1) wy := (hAF 1 (by first | exact List.mem_cons_self | exact List.mem_cons_of_mem _ (List.mem_cons_of_mem _ List.mem_cons_self) | exact List.mem_cons_of_mem _ (List.mem_cons_of_mem _ (List.mem_cons_of_mem _ List.mem_cons_self))) _ rfl ⟨rfl, rfl⟩).1
          have m2 : madeT w4.heap.size 9 #[.string ⟨#[109, 48]⟩, .string ⟨#[109, 49]⟩] (fun a => .slice (some a) 2 2) (.slice (some ⟨bb, 0, none⟩) 2 2) wy := (hAF 2 (by first | exact List.mem_cons_self | exact List.mem_cons_of_mem _ (List.mem_cons_of_mem _ List.mem_cons_self) | exact List.mem_cons_of_mem _ (List.mem_cons_of_mem _ (List.mem_cons_of_mem _ List.mem_cons_self))) _ rfl ⟨rfl, rfl⟩).1
          have q1 := own_blk (lo := w4.heap.size) (n := 1) m1.slice.2 m1.slice.1 rfl (by decide)
          have q2 := own_blk (lo := w4.heap.size) (n := 2) m2.slice.2 m2.slice.1 rfl (by decide)
          obtain ⟨vv, hvv, ns, hns, hno⟩ : ∃ vv, (#[.slice none 0 0, .slice (some ⟨ba, 0, none⟩) 1 1, .slice (some ⟨bb, 0, none⟩) 2 2] : Array Value)[rn]? = some vv ∧ ∃ ns, ns ∈ needs3 ∧ wy.ownsRow w4.heap.size 9 1 vv ns.length (ns.map Value.string) := by
            have : rn = 0 ∨ rn = 1 ∨ rn = 2 := by omega
            rcases this with rfl | rfl | rfl
            · exact ⟨_, rfl, [], by simp [needs3], ⟨rfl, .inl ⟨rfl, rfl⟩⟩⟩
            · exact ⟨_, rfl, [⟨#[109, 48]⟩], by simp [needs3], q1⟩
            · exact ⟨_, rfl, [⟨#[109, 48]⟩, ⟨#[109, 49]⟩], by simp [needs3], q2⟩
          have f1 : wy.cell? ⟨bc, rn, none⟩ = some vv := by rw [m3.slice.2.cell]; exact hvv
          obtain ⟨Av, cv, rfl, -⟩ := own_row (S := none_) hno (fun _ _ e => e)
          clear m1 m2 m3 q1 q2
          unfold gives
          go_simp
          exact ⟨⟨ns, hns, hno⟩, ⟨Keep.refl _ _, fun _ => Keep.refl _ _⟩, ⟨hG.1, hG.2.1.mono (by omega), hG.2.2⟩, fun _ h => h.elim⟩
        intro vq wy hT
        obtain ⟨ns, hns, hno⟩ : ∃ ns, ns ∈ needs3 ∧ wy.ownsRow w4.heap.size 9 1 vq ns.length (ns.map Value.string) := hT
        obtain ⟨Av, cv, rfl, -⟩ := own_row (S := none_) hno (fun _ _ e => e)
        clear hno
        obtain ⟨nv, hnv⟩ : ∃ nv, nv = ns.length := ⟨_, rfl⟩
        rw [← hnv]
        clear wy
        go_frame
        repeat (refine Calm.walk_quiet ne rfl rfl rfl (fun K hK => ?_); go_big_quiet_op; refine hK _ ?_; clear hK K)
        refine Calm.walk_eff rfl rfl (fun n wy hn hG _ => ?_) ?_
        · obtain ⟨c1, hc1⟩ := hG.2.2
          have z1 := hc1.cell 1
          have zf := hc1.frozen 1
          simp only [evC, List.getElem?_toArray, List.getElem?_cons_zero, List.getElem?_cons_succ] at z1
          have kz : Keep (one w2.heap.size) wy (wy.setCell ⟨w2.heap.size, 1, none⟩ (.string xj)) := (Keep.refl (one w2.heap.size) wy).setCell (p := ⟨w2.heap.size, 1, none⟩) (.inl rfl) _
          have bz : Blk (wy.setCell ⟨w2.heap.size, 1, none⟩ (.string xj)) w2.heap.size 78 (evC (.string xj)) := hc1.set_ 1 (.string xj)
          unfold gives
          go_simp
          exact ⟨bz, ⟨kz.mono (fun _ e => .inr e), fun e => absurd rfl e⟩, ⟨hG.1.trans (kz.mono (fun _ e => .inr e)), (hG.2.1.far kz (fun b e => by unfold one at e; omega)).mono (by omega), _, bz⟩, fun _ h => h.elim⟩
        rintro vq wy -
        clear wy
        go_frame
        repeat (refine Calm.walk_quiet ne rfl rfl rfl (fun K hK => ?_); go_big_quiet_op; refine hK _ ?_; clear hK K)
        intro w6 hG hD
        have k46 : Keep (gbt g w2.heap.size) w4 w6 := hG.1
        have T6 : TapeAt w6 g (M + 9 + 6) := hG.2.1
        have b6 : Blk w6 w2.heap.size 78 (evC (.string xj)) := (hD.1 9 rfl _ rfl ⟨rfl, rfl⟩).1
        have o6 : ∃ ns, ns ∈ needs3 ∧ w6.ownsRow w4.heap.size 9 1 (.slice Av nv cv) ns.length (ns.map Value.string) := (hD.1 7 rfl _ rfl ⟨rfl, rfl⟩).1
        clear hG hD gd ne
        simp only [pickOps, List.filterMap_cons, List.filterMap_nil, List.getElem?_toArray, List.getElem?_cons_succ, List.getElem?_cons_zero]
        obtain ⟨ns6, hns6, ho6⟩ := o6
        have z3 := b6.cell 3
        have zf3 := b6.frozen 3
        simp only [evC, List.getElem?_toArray, List.getElem?_cons_zero, List.getElem?_cons_succ] at z3
        obtain ⟨w7, hw7⟩ : ∃ w7, w7 = w6.setCell ⟨w2.heap.size, 3, none⟩ (.slice Av nv cv) := ⟨_, rfl⟩
        have b7 : Blk w7 w2.heap.size 78 #[.int .i64 1, .string xj, .string ⟨#[]⟩, .slice Av nv cv, .int .i64 0, .slice none 0 0] := hw7 ▸ (b6.set_ 3 (.slice Av nv cv))
        have k67 : Keep (one w2.heap.size) w6 w7 := hw7 ▸ ((Keep.refl (one w2.heap.size) w6).setCell (p := ⟨w2.heap.size, 3, none⟩) (.inl rfl) (.slice Av nv cv))
        have B7 := Lib.hid b7
        have K7 := Lib.hid ((K4.out.then k46 (fun x e => e.elim (fun e => .inl e) (fun e => .inr (by rw [e]; exact wrw2)))).own k67 wrw2)
        have T7 := Lib.hid (T6.far k67 (fun b e => by unfold one at e; omega))
        have O7 := Lib.hid (own_base (own_keep ho6 k67 (fun b hb e => by unfold one at e; have := own_ge ho6 _ hb; omega)) (show w.heap.size ≤ w4.heap.size by omega))
        have HNS := Lib.hid hns6
        have HW7 := Lib.hid hw7
        clear hw7 b7 k67 b6 k46 T6 ho6 hns6 hns hnv
        go_upto_region 23 with (fail)
        rw [← HW7.out]
        clear z3 zf3 HW7 y0 y1 f1 y3 f3
        have EO := Lib.hid (show EvOwn w7 w.heap.size [.int .i64 1, .string xj, .string ⟨#[]⟩, .slice Av nv cv, .int .i64 0, .slice none 0 0] ⟨1, xj, ⟨#[]⟩, ns6, 0, []⟩ from ⟨_, _, [], rfl, O7.out, ⟨rfl, .inl ⟨rfl, rfl⟩⟩, ⟨rfl, fun i cs x h => by simp at h⟩, fun _ h => (by cases h)⟩)
        have GE := Lib.hid (show GenEv ⟨1, xj, ⟨#[]⟩, ns6, 0, []⟩ from gen_submit xj ns6 hxj HNS.out)
        have nog : ∀ b, one g b → w.heap.size ≤ b → False := fun b e h => by unfold one at e; omega
        have hoq := own_keep HO.out K7.out (fun b hb e => nog b e (own_ge HO.out b hb))
        have KAq : Keep none_ w7 (w7.alloc (.cells #[.int .i64 1, .string xj, .string ⟨#[]⟩, .slice Av nv cv, .int .i64 0, .slice none 0 0] 78)) := (Keep.refl none_ w7).alloc _
        have HOq := Lib.hid (own_keep hoq KAq (fun _ _ e => e))
        have HEq := Lib.hid (HE.out.imp (fun cs e h => (h.keep K7.out (fun b t cs e h _ => (nog b e h).elim)).keep KAq (fun b t cs e => e.elim)))
        have EOq := Lib.hid (EO.out.keep KAq (fun b t cs e => e.elim))
        have TAq := Lib.hid (T7.out.far KAq (fun _ e => e.elim))
        have KKq := Lib.hid ((HK.out.trans K7.out).trans KAq.weak)
        have szq := (K7.out.trans KAq.weak).size
        have wql := B7.out.lt
        clear hoq KAq EO nog
        have t8 : True := trivial
        have t9 : True := trivial
        go_wp2_with (first | (have _t := t8; refine wpList_load_part 78 (.tmp 7) rfl rfl w2.heap.size 0 rfl #[.int .i64 1, .string xj, .string ⟨#[]⟩, .slice Av nv cv, .int .i64 0, .slice none 0 0] _ B7.out.rangeAt Tryz.underlying78 rfl (by kernel_rfl) ?_; go_frame; clear _t t8) | (have _t := t9; refine wpList_append_blk (.tmp 88) (.tmp 90) 36 78 rfl rfl w.heap.size _ 6 96 Tryz.underlying36 ev_info rfl (by decide) (.slice Ao l.length co) l.length css.flatten rfl HOq.out w7.heap.size #[.int .i64 1, .string xj, .string ⟨#[]⟩, .slice Av nv cv, .int .i64 0, .slice none 0 0] rfl (Blk.new _ _ _) rfl (by simp [Value.oneCell']) (by omega) (by simp; omega) ?_; intro A9 c9 w9 o9 k9; have O9 := Lib.hid o9; have K9 := Lib.hid k9; clear o9 k9; go_frame; clear _t t9))
        go_roundw
        case rel =>
          have ty : ∀ b t cs, ofBlk (.slice Ao l.length co) b → w.heap.size ≤ b → Blk (w7.alloc (.cells #[.int .i64 1, .string xj, .string ⟨#[]⟩, .slice Av nv cv, .int .i64 0, .slice none 0 0] 78)) b t cs → t ≠ 9 ∧ t ≠ 72 := fun b t cs e _ hb => by rw [own_type HOq.out hb e]; decide
          refine ⟨q - 1, l ++ [⟨1, xj, ⟨#[]⟩, ns6, 0, []⟩], css ++ [[.int .i64 1, .string xj, .string ⟨#[]⟩, .slice Av nv cv, .int .i64 0, .slice none 0 0]], by go_num, by simp only [List.length_append, List.length_cons, List.length_nil]; omega, ?_, (HEq.out.imp (fun cs e h => h.keep K9.out ty)).snoc (EOq.out.keep K9.out ty), fun x hx => ?_, (TAq.out.far K9.out (fun b e => Nat.lt_of_lt_of_le hg (own_ge HOq.out b e))).mono ?_, KKq.out.then K9.out (fun x e => .inr (own_ge HOq.out x e))⟩
          · rw [List.flatten_append, List.length_append]
            exact O9.out
          · rcases List.mem_append.1 hx with hx | hx
            · exact HGe.out x hx
            · simp only [List.mem_cons, List.not_mem_nil, or_false] at hx; rw [hx]; exact GE.out
          · rw [HM.out]; simp only [List.length_append, List.length_cons, List.length_nil]; omega
        case measure => simp [intOf]; omega
      · obtain ⟨w5, hw5⟩ : ∃ w5, w5 = (w4.setCell ⟨w2.heap.size, 1, none⟩ (.string xm)) := ⟨_, rfl⟩
        have b5 : Blk w5 w2.heap.size 78 #[.int .i64 2, .string xm, .string ⟨#[]⟩, .slice none 0 0, .int .i64 0, .slice none 0 0] := hw5 ▸ (b4.set_ 1 (.string xm))
        have k45 : Keep (one w2.heap.size) w4 w5 := hw5 ▸ ((Keep.refl (one w2.heap.size) w4).setCell (p := ⟨w2.heap.size, 1, none⟩) (.inl rfl) (.string xm))
        have B5 := Lib.hid b5
        have K5 := Lib.hid (K4.out.own k45 wrw2)
        have T5 := Lib.hid (T4'.out.far k45 (fun b e => by unfold one at e; omega))
        have HW5 := Lib.hid hw5
        clear hw5 b5 k45 b4
        go_upto_region 23 with (fail)
        rw [← HW5.out]
        clear y0 y1 y2 y4 f1 f2 f4 HW5
        have EO := Lib.hid (show EvOwn w5 w.heap.size [.int .i64 2, .string xm, .string ⟨#[]⟩, .slice none 0 0, .int .i64 0, .slice none 0 0] ⟨2, xm, ⟨#[]⟩, [], 0, []⟩ from EvOwn.plain _ _ _ _ _ _)
        have GE := Lib.hid (show GenEv ⟨2, xm, ⟨#[]⟩, [], 0, []⟩ from gen_name 2 xm (by decide) hxm)
        have nog : ∀ b, one g b → w.heap.size ≤ b → False := fun b e h => by unfold one at e; omega
        have hoq := own_keep HO.out K5.out (fun b hb e => nog b e (own_ge HO.out b hb))
        have KAq : Keep none_ w5 (w5.alloc (.cells #[.int .i64 2, .string xm, .string ⟨#[]⟩, .slice none 0 0, .int .i64 0, .slice none 0 0] 78)) := (Keep.refl none_ w5).alloc _
        have HOq := Lib.hid (own_keep hoq KAq (fun _ _ e => e))
        have HEq := Lib.hid (HE.out.imp (fun cs e h => (h.keep K5.out (fun b t cs e h _ => (nog b e h).elim)).keep KAq (fun b t cs e => e.elim)))
        have EOq := Lib.hid (EO.out.keep KAq (fun b t cs e => e.elim))
        have TAq := Lib.hid (T5.out.far KAq (fun _ e => e.elim))
        have KKq := Lib.hid ((HK.out.trans K5.out).trans KAq.weak)
        have szq := (K5.out.trans KAq.weak).size
        have wql := B5.out.lt
        clear hoq KAq EO nog
        have t8 : True := trivial
        have t9 : True := trivial
        go_wp2_with (first | (have _t := t8; refine wpList_load_part 78 (.tmp 7) rfl rfl w2.heap.size 0 rfl #[.int .i64 2, .string xm, .string ⟨#[]⟩, .slice none 0 0, .int .i64 0, .slice none 0 0] _ B5.out.rangeAt Tryz.underlying78 rfl (by kernel_rfl) ?_; go_frame; clear _t t8) | (have _t := t9; refine wpList_append_blk (.tmp 88) (.tmp 90) 36 78 rfl rfl w.heap.size _ 6 96 Tryz.underlying36 ev_info rfl (by decide) (.slice Ao l.length co) l.length css.flatten rfl HOq.out w5.heap.size #[.int .i64 2, .string xm, .string ⟨#[]⟩, .slice none 0 0, .int .i64 0, .slice none 0 0] rfl (Blk.new _ _ _) rfl (by simp [Value.oneCell']) (by omega) (by simp; omega) ?_; intro A9 c9 w9 o9 k9; have O9 := Lib.hid o9; have K9 := Lib.hid k9; clear o9 k9; go_frame; clear _t t9))
        go_roundw
        case rel =>
          have ty : ∀ b t cs, ofBlk (.slice Ao l.length co) b → w.heap.size ≤ b → Blk (w5.alloc (.cells #[.int .i64 2, .string xm, .string ⟨#[]⟩, .slice none 0 0, .int .i64 0, .slice none 0 0] 78)) b t cs → t ≠ 9 ∧ t ≠ 72 := fun b t cs e _ hb => by rw [own_type HOq.out hb e]; decide
          refine ⟨q - 1, l ++ [⟨2, xm, ⟨#[]⟩, [], 0, []⟩], css ++ [[.int .i64 2, .string xm, .string ⟨#[]⟩, .slice none 0 0, .int .i64 0, .slice none 0 0]], by go_num, by simp only [List.length_append, List.length_cons, List.length_nil]; omega, ?_, (HEq.out.imp (fun cs e h => h.keep K9.out ty)).snoc (EOq.out.keep K9.out ty), fun x hx => ?_, (TAq.out.far K9.out (fun b e => Nat.lt_of_lt_of_le hg (own_ge HOq.out b e))).mono ?_, KKq.out.then K9.out (fun x e => .inr (own_ge HOq.out x e))⟩
          · rw [List.flatten_append, List.length_append]
            exact O9.out
          · rcases List.mem_append.1 hx with hx | hx
            · exact HGe.out x hx
            · simp only [List.mem_cons, List.not_mem_nil, or_false] at hx; rw [hx]; exact GE.out
          · rw [HM.out]; simp only [List.length_append, List.length_cons, List.length_nil]; omega
        case measure => simp [intOf]; omega
      · obtain ⟨w5, hw5⟩ : ∃ w5, w5 = (w4.setCell ⟨w2.heap.size, 1, none⟩ (.string xm)) := ⟨_, rfl⟩
        have b5 : Blk w5 w2.heap.size 78 #[.int .i64 3, .string xm, .string ⟨#[]⟩, .slice none 0 0, .int .i64 0, .slice none 0 0] := hw5 ▸ (b4.set_ 1 (.string xm))
        have k45 : Keep (one w2.heap.size) w4 w5 := hw5 ▸ ((Keep.refl (one w2.heap.size) w4).setCell (p := ⟨w2.heap.size, 1, none⟩) (.inl rfl) (.string xm))
        have B5 := Lib.hid b5
        have K5 := Lib.hid (K4.out.own k45 wrw2)
        have T5 := Lib.hid (T4'.out.far k45 (fun b e => by unfold one at e; omega))
        have HW5 := Lib.hid hw5
        clear hw5 b5 k45 b4
        go_upto_region 23 with (fail)
        rw [← HW5.out]
        clear y0 y1 y2 y4 f1 f2 f4 HW5
        have EO := Lib.hid (show EvOwn w5 w.heap.size [.int .i64 3, .string xm, .string ⟨#[]⟩, .slice none 0 0, .int .i64 0, .slice none 0 0] ⟨3, xm, ⟨#[]⟩, [], 0, []⟩ from EvOwn.plain _ _ _ _ _ _)
        have GE := Lib.hid (show GenEv ⟨3, xm, ⟨#[]⟩, [], 0, []⟩ from gen_name 3 xm (by decide) hxm)
        have nog : ∀ b, one g b → w.heap.size ≤ b → False := fun b e h => by unfold one at e; omega
        have hoq := own_keep HO.out K5.out (fun b hb e => nog b e (own_ge HO.out b hb))
        have KAq : Keep none_ w5 (w5.alloc (.cells #[.int .i64 3, .string xm, .string ⟨#[]⟩, .slice none 0 0, .int .i64 0, .slice none 0 0] 78)) := (Keep.refl none_ w5).alloc _
        have HOq := Lib.hid (own_keep hoq KAq (fun _ _ e => e))
        have HEq := Lib.hid (HE.out.imp (fun cs e h => (h.keep K5.out (fun b t cs e h _ => (nog b e h).elim)).keep KAq (fun b t cs e => e.elim)))
        have EOq := Lib.hid (EO.out.keep KAq (fun b t cs e => e.elim))
        have TAq := Lib.hid (T5.out.far KAq (fun _ e => e.elim))
        have KKq := Lib.hid ((HK.out.trans K5.out).trans KAq.weak)
        have szq := (K5.out.trans KAq.weak).size
        have wql := B5.out.lt
        clear hoq KAq EO nog
        have t8 : True := trivial
        have t9 : True := trivial
        go_wp2_with (first | (have _t := t8; refine wpList_load_part 78 (.tmp 7) rfl rfl w2.heap.size 0 rfl #[.int .i64 3, .string xm, .string ⟨#[]⟩, .slice none 0 0, .int .i64 0, .slice none 0 0] _ B5.out.rangeAt Tryz.underlying78 rfl (by kernel_rfl) ?_; go_frame; clear _t t8) | (have _t := t9; refine wpList_append_blk (.tmp 88) (.tmp 90) 36 78 rfl rfl w.heap.size _ 6 96 Tryz.underlying36 ev_info rfl (by decide) (.slice Ao l.length co) l.length css.flatten rfl HOq.out w5.heap.size #[.int .i64 3, .string xm, .string ⟨#[]⟩, .slice none 0 0, .int .i64 0, .slice none 0 0] rfl (Blk.new _ _ _) rfl (by simp [Value.oneCell']) (by omega) (by simp; omega) ?_; intro A9 c9 w9 o9 k9; have O9 := Lib.hid o9; have K9 := Lib.hid k9; clear o9 k9; go_frame; clear _t t9))
        go_roundw
        case rel =>
          have ty : ∀ b t cs, ofBlk (.slice Ao l.length co) b → w.heap.size ≤ b → Blk (w5.alloc (.cells #[.int .i64 3, .string xm, .string ⟨#[]⟩, .slice none 0 0, .int .i64 0, .slice none 0 0] 78)) b t cs → t ≠ 9 ∧ t ≠ 72 := fun b t cs e _ hb => by rw [own_type HOq.out hb e]; decide
          refine ⟨q - 1, l ++ [⟨3, xm, ⟨#[]⟩, [], 0, []⟩], css ++ [[.int .i64 3, .string xm, .string ⟨#[]⟩, .slice none 0 0, .int .i64 0, .slice none 0 0]], by go_num, by simp only [List.length_append, List.length_cons, List.length_nil]; omega, ?_, (HEq.out.imp (fun cs e h => h.keep K9.out ty)).snoc (EOq.out.keep K9.out ty), fun x hx => ?_, (TAq.out.far K9.out (fun b e => Nat.lt_of_lt_of_le hg (own_ge HOq.out b e))).mono ?_, KKq.out.then K9.out (fun x e => .inr (own_ge HOq.out x e))⟩
          · rw [List.flatten_append, List.length_append]
            exact O9.out
          · rcases List.mem_append.1 hx with hx | hx
            · exact HGe.out x hx
            · simp only [List.mem_cons, List.not_mem_nil, or_false] at hx; rw [hx]; exact GE.out
          · rw [HM.out]; simp only [List.length_append, List.length_cons, List.length_nil]; omega
        case measure => simp [intOf]; omega
      · obtain ⟨w5, hw5⟩ : ∃ w5, w5 = (w4.setCell ⟨w2.heap.size, 2, none⟩ (.string xw)) := ⟨_, rfl⟩
        have b5 : Blk w5 w2.heap.size 78 #[.int .i64 4, .string ⟨#[]⟩, .string xw, .slice none 0 0, .int .i64 0, .slice none 0 0] := hw5 ▸ (b4.set_ 2 (.string xw))
        have k45 : Keep (one w2.heap.size) w4 w5 := hw5 ▸ ((Keep.refl (one w2.heap.size) w4).setCell (p := ⟨w2.heap.size, 2, none⟩) (.inl rfl) (.string xw))
        have B5 := Lib.hid b5
        have K5 := Lib.hid (K4.out.own k45 wrw2)
        have T5 := Lib.hid (T4'.out.far k45 (fun b e => by unfold one at e; omega))
        have HW5 := Lib.hid hw5
        clear hw5 b5 k45 b4
        go_upto_region 23 with (fail)
        rw [← HW5.out]
        clear y0 y1 y2 y4 f1 f2 f4 HW5
        have EO := Lib.hid (show EvOwn w5 w.heap.size [.int .i64 4, .string ⟨#[]⟩, .string xw, .slice none 0 0, .int .i64 0, .slice none 0 0] ⟨4, ⟨#[]⟩, xw, [], 0, []⟩ from EvOwn.plain _ _ _ _ _ _)
        have GE := Lib.hid (show GenEv ⟨4, ⟨#[]⟩, xw, [], 0, []⟩ from gen_worker 4 xw (by decide) hxw)
        have nog : ∀ b, one g b → w.heap.size ≤ b → False := fun b e h => by unfold one at e; omega
        have hoq := own_keep HO.out K5.out (fun b hb e => nog b e (own_ge HO.out b hb))
        have KAq : Keep none_ w5 (w5.alloc (.cells #[.int .i64 4, .string ⟨#[]⟩, .string xw, .slice none 0 0, .int .i64 0, .slice none 0 0] 78)) := (Keep.refl none_ w5).alloc _
        have HOq := Lib.hid (own_keep hoq KAq (fun _ _ e => e))
        have HEq := Lib.hid (HE.out.imp (fun cs e h => (h.keep K5.out (fun b t cs e h _ => (nog b e h).elim)).keep KAq (fun b t cs e => e.elim)))
        have EOq := Lib.hid (EO.out.keep KAq (fun b t cs e => e.elim))
        have TAq := Lib.hid (T5.out.far KAq (fun _ e => e.elim))
        have KKq := Lib.hid ((HK.out.trans K5.out).trans KAq.weak)
        have szq := (K5.out.trans KAq.weak).size
        have wql := B5.out.lt
        clear hoq KAq EO nog
        have t8 : True := trivial
        have t9 : True := trivial
        go_wp2_with (first | (have _t := t8; refine wpList_load_part 78 (.tmp 7) rfl rfl w2.heap.size 0 rfl #[.int .i64 4, .string ⟨#[]⟩, .string xw, .slice none 0 0, .int .i64 0, .slice none 0 0] _ B5.out.rangeAt Tryz.underlying78 rfl (by kernel_rfl) ?_; go_frame; clear _t t8) | (have _t := t9; refine wpList_append_blk (.tmp 88) (.tmp 90) 36 78 rfl rfl w.heap.size _ 6 96 Tryz.underlying36 ev_info rfl (by decide) (.slice Ao l.length co) l.length css.flatten rfl HOq.out w5.heap.size #[.int .i64 4, .string ⟨#[]⟩, .string xw, .slice none 0 0, .int .i64 0, .slice none 0 0] rfl (Blk.new _ _ _) rfl (by simp [Value.oneCell']) (by omega) (by simp; omega) ?_; intro A9 c9 w9 o9 k9; have O9 := Lib.hid o9; have K9 := Lib.hid k9; clear o9 k9; go_frame; clear _t t9))
        go_roundw
        case rel =>
          have ty : ∀ b t cs, ofBlk (.slice Ao l.length co) b → w.heap.size ≤ b → Blk (w5.alloc (.cells #[.int .i64 4, .string ⟨#[]⟩, .string xw, .slice none 0 0, .int .i64 0, .slice none 0 0] 78)) b t cs → t ≠ 9 ∧ t ≠ 72 := fun b t cs e _ hb => by rw [own_type HOq.out hb e]; decide
          refine ⟨q - 1, l ++ [⟨4, ⟨#[]⟩, xw, [], 0, []⟩], css ++ [[.int .i64 4, .string ⟨#[]⟩, .string xw, .slice none 0 0, .int .i64 0, .slice none 0 0]], by go_num, by simp only [List.length_append, List.length_cons, List.length_nil]; omega, ?_, (HEq.out.imp (fun cs e h => h.keep K9.out ty)).snoc (EOq.out.keep K9.out ty), fun x hx => ?_, (TAq.out.far K9.out (fun b e => Nat.lt_of_lt_of_le hg (own_ge HOq.out b e))).mono ?_, KKq.out.then K9.out (fun x e => .inr (own_ge HOq.out x e))⟩
          · rw [List.flatten_append, List.length_append]
            exact O9.out
          · rcases List.mem_append.1 hx with hx | hx
            · exact HGe.out x hx
            · simp only [List.mem_cons, List.not_mem_nil, or_false] at hx; rw [hx]; exact GE.out
          · rw [HM.out]; simp only [List.length_append, List.length_cons, List.length_nil]; omega
        case measure => simp [intOf]; omega
      · obtain ⟨w5, hw5⟩ : ∃ w5, w5 = (w4.setCell ⟨w2.heap.size, 2, none⟩ (.string xw)) := ⟨_, rfl⟩
        have b5 : Blk w5 w2.heap.size 78 #[.int .i64 5, .string ⟨#[]⟩, .string xw, .slice none 0 0, .int .i64 0, .slice none 0 0] := hw5 ▸ (b4.set_ 2 (.string xw))
        have k45 : Keep (one w2.heap.size) w4 w5 := hw5 ▸ ((Keep.refl (one w2.heap.size) w4).setCell (p := ⟨w2.heap.size, 2, none⟩) (.inl rfl) (.string xw))
        have B5 := Lib.hid b5
        have K5 := Lib.hid (K4.out.own k45 wrw2)
        have T5 := Lib.hid (T4'.out.far k45 (fun b e => by unfold one at e; omega))
        have HW5 := Lib.hid hw5
        clear hw5 b5 k45 b4
        go_upto_region 23 with (fail)
        rw [← HW5.out]
        clear y0 y1 y2 y4 f1 f2 f4 HW5
        have EO := Lib.hid (show EvOwn w5 w.heap.size [.int .i64 5, .string ⟨#[]⟩, .string xw, .slice none 0 0, .int .i64 0, .slice none 0 0] ⟨5, ⟨#[]⟩, xw, [], 0, []⟩ from EvOwn.plain _ _ _ _ _ _)
        have GE := Lib.hid (show GenEv ⟨5, ⟨#[]⟩, xw, [], 0, []⟩ from gen_worker 5 xw (by decide) hxw)
        have nog : ∀ b, one g b → w.heap.size ≤ b → False := fun b e h => by unfold one at e; omega
        have hoq := own_keep HO.out K5.out (fun b hb e => nog b e (own_ge HO.out b hb))
        have KAq : Keep none_ w5 (w5.alloc (.cells #[.int .i64 5, .string ⟨#[]⟩, .string xw, .slice none 0 0, .int .i64 0, .slice none 0 0] 78)) := (Keep.refl none_ w5).alloc _
        have HOq := Lib.hid (own_keep hoq KAq (fun _ _ e => e))
        have HEq := Lib.hid (HE.out.imp (fun cs e h => (h.keep K5.out (fun b t cs e h _ => (nog b e h).elim)).keep KAq (fun b t cs e => e.elim)))
        have EOq := Lib.hid (EO.out.keep KAq (fun b t cs e => e.elim))
        have TAq := Lib.hid (T5.out.far KAq (fun _ e => e.elim))
        have KKq := Lib.hid ((HK.out.trans K5.out).trans KAq.weak)
        have szq := (K5.out.trans KAq.weak).size
        have wql := B5.out.lt
        clear hoq KAq EO nog
        have t8 : True := trivial
        have t9 : True := trivial
        go_wp2_with (first | (have _t := t8; refine wpList_load_part 78 (.tmp 7) rfl rfl w2.heap.size 0 rfl #[.int .i64 5, .string ⟨#[]⟩, .string xw, .slice none 0 0, .int .i64 0, .slice none 0 0] _ B5.out.rangeAt Tryz.underlying78 rfl (by kernel_rfl) ?_; go_frame; clear _t t8) | (have _t := t9; refine wpList_append_blk (.tmp 88) (.tmp 90) 36 78 rfl rfl w.heap.size _ 6 96 Tryz.underlying36 ev_info rfl (by decide) (.slice Ao l.length co) l.length css.flatten rfl HOq.out w5.heap.size #[.int .i64 5, .string ⟨#[]⟩, .string xw, .slice none 0 0, .int .i64 0, .slice none 0 0] rfl (Blk.new _ _ _) rfl (by simp [Value.oneCell']) (by omega) (by simp; omega) ?_; intro A9 c9 w9 o9 k9; have O9 := Lib.hid o9; have K9 := Lib.hid k9; clear o9 k9; go_frame; clear _t t9))
        go_roundw
        case rel =>
          have ty : ∀ b t cs, ofBlk (.slice Ao l.length co) b → w.heap.size ≤ b → Blk (w5.alloc (.cells #[.int .i64 5, .string ⟨#[]⟩, .string xw, .slice none 0 0, .int .i64 0, .slice none 0 0] 78)) b t cs → t ≠ 9 ∧ t ≠ 72 := fun b t cs e _ hb => by rw [own_type HOq.out hb e]; decide
          refine ⟨q - 1, l ++ [⟨5, ⟨#[]⟩, xw, [], 0, []⟩], css ++ [[.int .i64 5, .string ⟨#[]⟩, .string xw, .slice none 0 0, .int .i64 0, .slice none 0 0]], by go_num, by simp only [List.length_append, List.length_cons, List.length_nil]; omega, ?_, (HEq.out.imp (fun cs e h => h.keep K9.out ty)).snoc (EOq.out.keep K9.out ty), fun x hx => ?_, (TAq.out.far K9.out (fun b e => Nat.lt_of_lt_of_le hg (own_ge HOq.out b e))).mono ?_, KKq.out.then K9.out (fun x e => .inr (own_ge HOq.out x e))⟩
          · rw [List.flatten_append, List.length_append]
            exact O9.out
          · rcases List.mem_append.1 hx with hx | hx
            · exact HGe.out x hx
            · simp only [List.mem_cons, List.not_mem_nil, or_false] at hx; rw [hx]; exact GE.out
          · rw [HM.out]; simp only [List.length_append, List.length_cons, List.length_nil]; omega
        case measure => simp [intOf]; omega
      · obtain ⟨w5, hw5⟩ : ∃ w5, w5 = (w4.setCell ⟨w2.heap.size, 2, none⟩ (.string xw)) := ⟨_, rfl⟩
        have b5 : Blk w5 w2.heap.size 78 #[.int .i64 6, .string ⟨#[]⟩, .string xw, .slice none 0 0, .int .i64 0, .slice none 0 0] := hw5 ▸ (b4.set_ 2 (.string xw))
        have k45 : Keep (one w2.heap.size) w4 w5 := hw5 ▸ ((Keep.refl (one w2.heap.size) w4).setCell (p := ⟨w2.heap.size, 2, none⟩) (.inl rfl) (.string xw))
        have B5 := Lib.hid b5
        have K5 := Lib.hid (K4.out.own k45 wrw2)
        have T5 := Lib.hid (T4'.out.far k45 (fun b e => by unfold one at e; omega))
        have HW5 := Lib.hid hw5
        clear hw5 b5 k45 b4
        go_upto_region 23 with (fail)
        rw [← HW5.out]
        clear y0 y1 y2 y4 f1 f2 f4 HW5
        have EO := Lib.hid (show EvOwn w5 w.heap.size [.int .i64 6, .string ⟨#[]⟩, .string xw, .slice none 0 0, .int .i64 0, .slice none 0 0] ⟨6, ⟨#[]⟩, xw, [], 0, []⟩ from EvOwn.plain _ _ _ _ _ _)
        have GE := Lib.hid (show GenEv ⟨6, ⟨#[]⟩, xw, [], 0, []⟩ from gen_worker 6 xw (by decide) hxw)
        have nog : ∀ b, one g b → w.heap.size ≤ b → False := fun b e h => by unfold one at e; omega
        have hoq := own_keep HO.out K5.out (fun b hb e => nog b e (own_ge HO.out b hb))
        have KAq : Keep none_ w5 (w5.alloc (.cells #[.int .i64 6, .string ⟨#[]⟩, .string xw, .slice none 0 0, .int .i64 0, .slice none 0 0] 78)) := (Keep.refl none_ w5).alloc _
        have HOq := Lib.hid (own_keep hoq KAq (fun _ _ e => e))
        have HEq := Lib.hid (HE.out.imp (fun cs e h => (h.keep K5.out (fun b t cs e h _ => (nog b e h).elim)).keep KAq (fun b t cs e => e.elim)))
        have EOq := Lib.hid (EO.out.keep KAq (fun b t cs e => e.elim))
        have TAq := Lib.hid (T5.out.far KAq (fun _ e => e.elim))
        have KKq := Lib.hid ((HK.out.trans K5.out).trans KAq.weak)
        have szq := (K5.out.trans KAq.weak).size
        have wql := B5.out.lt
        clear hoq KAq EO nog
        have t8 : True := trivial
        have t9 : True := trivial
        go_wp2_with (first | (have _t := t8; refine wpList_load_part 78 (.tmp 7) rfl rfl w2.heap.size 0 rfl #[.int .i64 6, .string ⟨#[]⟩, .string xw, .slice none 0 0, .int .i64 0, .slice none 0 0] _ B5.out.rangeAt Tryz.underlying78 rfl (by kernel_rfl) ?_; go_frame; clear _t t8) | (have _t := t9; refine wpList_append_blk (.tmp 88) (.tmp 90) 36 78 rfl rfl w.heap.size _ 6 96 Tryz.underlying36 ev_info rfl (by decide) (.slice Ao l.length co) l.length css.flatten rfl HOq.out w5.heap.size #[.int .i64 6, .string ⟨#[]⟩, .string xw, .slice none 0 0, .int .i64 0, .slice none 0 0] rfl (Blk.new _ _ _) rfl (by simp [Value.oneCell']) (by omega) (by simp; omega) ?_; intro A9 c9 w9 o9 k9; have O9 := Lib.hid o9; have K9 := Lib.hid k9; clear o9 k9; go_frame; clear _t t9))
        go_roundw
        case rel =>
          have ty : ∀ b t cs, ofBlk (.slice Ao l.length co) b → w.heap.size ≤ b → Blk (w5.alloc (.cells #[.int .i64 6, .string ⟨#[]⟩, .string xw, .slice none 0 0, .int .i64 0, .slice none 0 0] 78)) b t cs → t ≠ 9 ∧ t ≠ 72 := fun b t cs e _ hb => by rw [own_type HOq.out hb e]; decide
          refine ⟨q - 1, l ++ [⟨6, ⟨#[]⟩, xw, [], 0, []⟩], css ++ [[.int .i64 6, .string ⟨#[]⟩, .string xw, .slice none 0 0, .int .i64 0, .slice none 0 0]], by go_num, by simp only [List.length_append, List.length_cons, List.length_nil]; omega, ?_, (HEq.out.imp (fun cs e h => h.keep K9.out ty)).snoc (EOq.out.keep K9.out ty), fun x hx => ?_, (TAq.out.far K9.out (fun b e => Nat.lt_of_lt_of_le hg (own_ge HOq.out b e))).mono ?_, KKq.out.then K9.out (fun x e => .inr (own_ge HOq.out x e))⟩
          · rw [List.flatten_append, List.length_append]
            exact O9.out
          · rcases List.mem_append.1 hx with hx | hx
            · exact HGe.out x hx
            · simp only [List.mem_cons, List.not_mem_nil, or_false] at hx; rw [hx]; exact GE.out
          · rw [HM.out]; simp only [List.length_append, List.length_cons, List.length_nil]; omega
        case measure => simp [intOf]; omega
      · have NX := Lib.hid (nextN g (M + 9) 9 w4 T4'.out (by decide) (by decide) (by omega))
        have B4 := Lib.hid b4
        have NG := Lib.hid (show ¬ one g w2.heap.size from fun e => by unfold one at e; omega)
        clear b4 y1 y2 y4 f1 f2 f4
        have t1 : True := trivial
        have t2 : True := trivial
        have t3 : True := trivial
        obtain ⟨ie, z, hie, hz, isz⟩ := itm_info
        have HIE := Lib.hid hie
        have HZ := Lib.hid hz
        have ISZ := Lib.hid isz
        clear hie hz isz
        go_upto_region 23 with (first | (have _t := t1; go_at_call 8; refine NX.out.mono ?_; rintro e w6 ⟨r, rfl, hr9, ht6, k6⟩; have b6 := B4.out.keep k6 NG.out; have B6 := Lib.hid b6; have T6 := Lib.hid ht6; have K6 := Lib.hid (K4.out.trans k6); obtain ⟨IC, hIC⟩ : ∃ IC, itmCells r = IC := ⟨_, rfl⟩; have HIC := Lib.hid hIC; have HBI := Lib.hid (hIC ▸ itm_built r : Tryz.prog.built 72 [(0, .int .i64 4), (4, .int .i64 r)] = some IC); have HSZ := Lib.hid (hIC ▸ itm_size r : IC.size = 148); clear ht6 k6 b6 hIC _t t1) | (have _t := t2; refine wpList_build_is 72 _ rfl rfl IC HBI.out ?_; go_frame; clear _t t2) | (have _t := t3; refine wpList_buildSlice_whole 55 72 1 _ rfl rfl Tryz.underlying55 HIE.out HZ.out (by rw [ISZ.out]; decide) (by rw [ISZ.out]; decide) [(0, .agg IC)] rfl (by simp only [Contig, Value.cells, ISZ.out, HSZ.out]; exact ⟨trivial, trivial⟩) (by simp [allCells, Value.cells, ISZ.out, HSZ.out]) ?_; intro w7 b7 k7; have b8 := B6.out.keep k7 (fun e => e); have z1 := b8.cell 1; have z2 := b8.cell 2; have z5 := b8.cell 5; have zf1 := b8.frozen 1; have zf2 := b8.frozen 2; have zf5 := b8.frozen 5; simp only [List.getElem?_toArray, List.getElem?_cons_zero, List.getElem?_cons_succ] at z1 z2 z5; have B8 := Lib.hid b8; have BI := Lib.hid b7; have K7 := Lib.hid k7; clear b7 k7 b8; go_frame; clear _t t3))
        obtain ⟨w8, hw8⟩ : ∃ w8, w8 = ((w7.setCell ⟨w2.heap.size, 1, none⟩ (.string xj)).setCell ⟨w2.heap.size, 2, none⟩ (.string xw)).setCell ⟨w2.heap.size, 5, none⟩ (.slice (some ⟨w6.heap.size, 0, none⟩) 1 1) := ⟨_, rfl⟩
        have b9 : Blk w8 w2.heap.size 78 #[.int .i64 7, .string xj, .string xw, .slice none 0 0, .int .i64 0, .slice (some ⟨w6.heap.size, 0, none⟩) 1 1] := hw8 ▸ (((B8.out.set_ 1 (.string xj)).set_ 2 (.string xw)).set_ 5 (.slice (some ⟨w6.heap.size, 0, none⟩) 1 1))
        have k78 : Keep (one w2.heap.size) w7 w8 := hw8 ▸ ((((Keep.refl (one w2.heap.size) w7).setCell (p := ⟨w2.heap.size, 1, none⟩) (.inl rfl) (.string xj)).setCell (p := ⟨w2.heap.size, 2, none⟩) (.inl rfl) (.string xw)).setCell (p := ⟨w2.heap.size, 5, none⟩) (.inl rfl) (.slice (some ⟨w6.heap.size, 0, none⟩) 1 1))
        have B9 := Lib.hid b9
        have K8 := Lib.hid ((K6.out.trans K7.out.weak).own k78 wrw2)
        have T8 := Lib.hid ((T6.out.far K7.out (fun _ e => e.elim)).far k78 (fun b e => by unfold one at e; omega))
        have sz46 : w2.heap.size < w6.heap.size := B6.out.lt
        have BI8 := Lib.hid (BI.out.keep k78 (fun e => by unfold one at e; omega))
        have BLO := Lib.hid (show w.heap.size ≤ w6.heap.size by omega)
        rw [← hw8]
        clear hw8 b9 k78 z1 z2 z5 zf1 zf2 zf5 BI K7 B8
        have EO := Lib.hid (show EvOwn w8 w.heap.size [.int .i64 7, .string xj, .string xw, .slice none 0 0, .int .i64 0, .slice (some ⟨w6.heap.size, 0, none⟩) 1 1] ⟨7, xj, xw, [], 0, [itmOf r]⟩ from itm_own BI8.out HIC.out BLO.out)
        have GE := Lib.hid (show GenEv ⟨7, xj, xw, [], 0, [itmOf r]⟩ from gen_finish xj xw (itmOf r) hxj hxw ⟨rfl, rfl⟩ itmFlat_0)
        have nog : ∀ b, one g b → w.heap.size ≤ b → False := fun b e h => by unfold one at e; omega
        have hoq := own_keep HO.out K8.out (fun b hb e => nog b e (own_ge HO.out b hb))
        have KAq : Keep none_ w8 (w8.alloc (.cells #[.int .i64 7, .string xj, .string xw, .slice none 0 0, .int .i64 0, .slice (some ⟨w6.heap.size, 0, none⟩) 1 1] 78)) := (Keep.refl none_ w8).alloc _
        have HOq := Lib.hid (own_keep hoq KAq (fun _ _ e => e))
        have HEq := Lib.hid (HE.out.imp (fun cs e h => (h.keep K8.out (fun b t cs e h _ => (nog b e h).elim)).keep KAq (fun b t cs e => e.elim)))
        have EOq := Lib.hid (EO.out.keep KAq (fun b t cs e => e.elim))
        have TAq := Lib.hid (T8.out.far KAq (fun _ e => e.elim))
        have KKq := Lib.hid ((HK.out.trans K8.out).trans KAq.weak)
        have szq := (K8.out.trans KAq.weak).size
        have wql := B9.out.lt
        clear hoq KAq EO nog
        have t8 : True := trivial
        have t9 : True := trivial
        go_wp2_with (first | (have _t := t8; refine wpList_load_part 78 (.tmp 7) rfl rfl w2.heap.size 0 rfl #[.int .i64 7, .string xj, .string xw, .slice none 0 0, .int .i64 0, .slice (some ⟨w6.heap.size, 0, none⟩) 1 1] _ B9.out.rangeAt Tryz.underlying78 rfl (by kernel_rfl) ?_; go_frame; clear _t t8) | (have _t := t9; refine wpList_append_blk (.tmp 88) (.tmp 90) 36 78 rfl rfl w.heap.size _ 6 96 Tryz.underlying36 ev_info rfl (by decide) (.slice Ao l.length co) l.length css.flatten rfl HOq.out w8.heap.size #[.int .i64 7, .string xj, .string xw, .slice none 0 0, .int .i64 0, .slice (some ⟨w6.heap.size, 0, none⟩) 1 1] rfl (Blk.new _ _ _) rfl (by simp [Value.oneCell']) (by omega) (by simp; omega) ?_; intro A9 c9 w9 o9 k9; have O9 := Lib.hid o9; have K9 := Lib.hid k9; clear o9 k9; go_frame; clear _t t9))
        go_roundw
        case rel =>
          have ty : ∀ b t cs, ofBlk (.slice Ao l.length co) b → w.heap.size ≤ b → Blk (w8.alloc (.cells #[.int .i64 7, .string xj, .string xw, .slice none 0 0, .int .i64 0, .slice (some ⟨w6.heap.size, 0, none⟩) 1 1] 78)) b t cs → t ≠ 9 ∧ t ≠ 72 := fun b t cs e _ hb => by rw [own_type HOq.out hb e]; decide
          refine ⟨q - 1, l ++ [⟨7, xj, xw, [], 0, [itmOf r]⟩], css ++ [[.int .i64 7, .string xj, .string xw, .slice none 0 0, .int .i64 0, .slice (some ⟨w6.heap.size, 0, none⟩) 1 1]], by go_num, by simp only [List.length_append, List.length_cons, List.length_nil]; omega, ?_, (HEq.out.imp (fun cs e h => h.keep K9.out ty)).snoc (EOq.out.keep K9.out ty), fun x hx => ?_, (TAq.out.far K9.out (fun b e => Nat.lt_of_lt_of_le hg (own_ge HOq.out b e))).mono ?_, KKq.out.then K9.out (fun x e => .inr (own_ge HOq.out x e))⟩
          · rw [List.flatten_append, List.length_append]
            exact O9.out
          · rcases List.mem_append.1 hx with hx | hx
            · exact HGe.out x hx
            · simp only [List.mem_cons, List.not_mem_nil, or_false] at hx; rw [hx]; exact GE.out
          · rw [HM.out]; simp only [List.length_append, List.length_cons, List.length_nil]; omega
        case measure => simp [intOf]; omega
      · obtain ⟨w5, hw5⟩ : ∃ w5, w5 = ((w4.setCell ⟨w2.heap.size, 1, none⟩ (.string xj)).setCell ⟨w2.heap.size, 2, none⟩ (.string xw)) := ⟨_, rfl⟩
        have b5 : Blk w5 w2.heap.size 78 #[.int .i64 8, .string xj, .string xw, .slice none 0 0, .int .i64 0, .slice none 0 0] := hw5 ▸ ((b4.set_ 1 (.string xj)).set_ 2 (.string xw))
        have k45 : Keep (one w2.heap.size) w4 w5 := hw5 ▸ (((Keep.refl (one w2.heap.size) w4).setCell (p := ⟨w2.heap.size, 1, none⟩) (.inl rfl) (.string xj)).setCell (p := ⟨w2.heap.size, 2, none⟩) (.inl rfl) (.string xw))
        have B5 := Lib.hid b5
        have K5 := Lib.hid (K4.out.own k45 wrw2)
        have T5 := Lib.hid (T4'.out.far k45 (fun b e => by unfold one at e; omega))
        have HW5 := Lib.hid hw5
        clear hw5 b5 k45 b4
        go_upto_region 23 with (fail)
        rw [← HW5.out]
        clear y0 y1 y2 y4 f1 f2 f4 HW5
        have EO := Lib.hid (show EvOwn w5 w.heap.size [.int .i64 8, .string xj, .string xw, .slice none 0 0, .int .i64 0, .slice none 0 0] ⟨8, xj, xw, [], 0, []⟩ from EvOwn.plain _ _ _ _ _ _)
        have GE := Lib.hid (show GenEv ⟨8, xj, xw, [], 0, []⟩ from gen_fail xj xw hxj hxw)
        have nog : ∀ b, one g b → w.heap.size ≤ b → False := fun b e h => by unfold one at e; omega
        have hoq := own_keep HO.out K5.out (fun b hb e => nog b e (own_ge HO.out b hb))
        have KAq : Keep none_ w5 (w5.alloc (.cells #[.int .i64 8, .string xj, .string xw, .slice none 0 0, .int .i64 0, .slice none 0 0] 78)) := (Keep.refl none_ w5).alloc _
        have HOq := Lib.hid (own_keep hoq KAq (fun _ _ e => e))
        have HEq := Lib.hid (HE.out.imp (fun cs e h => (h.keep K5.out (fun b t cs e h _ => (nog b e h).elim)).keep KAq (fun b t cs e => e.elim)))
        have EOq := Lib.hid (EO.out.keep KAq (fun b t cs e => e.elim))
        have TAq := Lib.hid (T5.out.far KAq (fun _ e => e.elim))
        have KKq := Lib.hid ((HK.out.trans K5.out).trans KAq.weak)
        have szq := (K5.out.trans KAq.weak).size
        have wql := B5.out.lt
        clear hoq KAq EO nog
        have t8 : True := trivial
        have t9 : True := trivial
        go_wp2_with (first | (have _t := t8; refine wpList_load_part 78 (.tmp 7) rfl rfl w2.heap.size 0 rfl #[.int .i64 8, .string xj, .string xw, .slice none 0 0, .int .i64 0, .slice none 0 0] _ B5.out.rangeAt Tryz.underlying78 rfl (by kernel_rfl) ?_; go_frame; clear _t t8) | (have _t := t9; refine wpList_append_blk (.tmp 88) (.tmp 90) 36 78 rfl rfl w.heap.size _ 6 96 Tryz.underlying36 ev_info rfl (by decide) (.slice Ao l.length co) l.length css.flatten rfl HOq.out w5.heap.size #[.int .i64 8, .string xj, .string xw, .slice none 0 0, .int .i64 0, .slice none 0 0] rfl (Blk.new _ _ _) rfl (by simp [Value.oneCell']) (by omega) (by simp; omega) ?_; intro A9 c9 w9 o9 k9; have O9 := Lib.hid o9; have K9 := Lib.hid k9; clear o9 k9; go_frame; clear _t t9))
        go_roundw
        case rel =>
          have ty : ∀ b t cs, ofBlk (.slice Ao l.length co) b → w.heap.size ≤ b → Blk (w5.alloc (.cells #[.int .i64 8, .string xj, .string xw, .slice none 0 0, .int .i64 0, .slice none 0 0] 78)) b t cs → t ≠ 9 ∧ t ≠ 72 := fun b t cs e _ hb => by rw [own_type HOq.out hb e]; decide
          refine ⟨q - 1, l ++ [⟨8, xj, xw, [], 0, []⟩], css ++ [[.int .i64 8, .string xj, .string xw, .slice none 0 0, .int .i64 0, .slice none 0 0]], by go_num, by simp only [List.length_append, List.length_cons, List.length_nil]; omega, ?_, (HEq.out.imp (fun cs e h => h.keep K9.out ty)).snoc (EOq.out.keep K9.out ty), fun x hx => ?_, (TAq.out.far K9.out (fun b e => Nat.lt_of_lt_of_le hg (own_ge HOq.out b e))).mono ?_, KKq.out.then K9.out (fun x e => .inr (own_ge HOq.out x e))⟩
          · rw [List.flatten_append, List.length_append]
            exact O9.out
          · rcases List.mem_append.1 hx with hx | hx
            · exact HGe.out x hx
            · simp only [List.mem_cons, List.not_mem_nil, or_false] at hx; rw [hx]; exact GE.out
          · rw [HM.out]; simp only [List.length_append, List.length_cons, List.length_nil]; omega
        case measure => simp [intOf]; omega
      · have NX := Lib.hid (nextN g (M + 9) 12 w4 T4'.out (by decide) (by decide) (by omega))
        have B4 := Lib.hid b4
        have NG := Lib.hid (show ¬ one g w2.heap.size from fun e => by unfold one at e; omega)
        clear b4 y1 y2 y4 f1 f2 f4
        have t1 : True := trivial
        go_upto_region 23 with (have _t := t1; go_at_call 8; refine NX.out.mono ?_; rintro e w6 ⟨r, rfl, hr12, ht6, k6⟩; have b6 := B4.out.keep k6 NG.out; have z4 := b6.cell 4; have zf := b6.frozen 4; simp only [List.getElem?_toArray, List.getElem?_cons_zero, List.getElem?_cons_succ] at z4; have B6 := Lib.hid b6; have T6 := Lib.hid ht6; have K6 := Lib.hid (K4.out.trans k6); clear ht6 k6 b6 _t t1)
        obtain ⟨w7, hw7⟩ : ∃ w7, w7 = w6.setCell ⟨w2.heap.size, 4, none⟩ (.int .i64 (1 + r)) := ⟨_, rfl⟩
        have b7 : Blk w7 w2.heap.size 78 #[.int .i64 9, .string ⟨#[]⟩, .string ⟨#[]⟩, .slice none 0 0, .int .i64 (1 + r), .slice none 0 0] := hw7 ▸ (B6.out.set_ 4 (.int .i64 (1 + r)))
        have k67 : Keep (one w2.heap.size) w6 w7 := hw7 ▸ ((Keep.refl (one w2.heap.size) w6).setCell (p := ⟨w2.heap.size, 4, none⟩) (.inl rfl) (.int .i64 (1 + r)))
        have B7 := Lib.hid b7
        have K7 := Lib.hid (K6.out.own k67 wrw2)
        have T7 := Lib.hid (T6.out.far k67 (fun b e => by unfold one at e; omega))
        rw [← hw7]
        clear hw7 b7 k67 z4 zf
        have EO := Lib.hid (show EvOwn w7 w.heap.size [.int .i64 9, .string ⟨#[]⟩, .string ⟨#[]⟩, .slice none 0 0, .int .i64 (1 + r), .slice none 0 0] ⟨9, ⟨#[]⟩, ⟨#[]⟩, [], 1 + r, []⟩ from EvOwn.plain _ _ _ _ _ _)
        have GE := Lib.hid (show GenEv ⟨9, ⟨#[]⟩, ⟨#[]⟩, [], 1 + r, []⟩ from gen_tick r hr12)
        have nog : ∀ b, one g b → w.heap.size ≤ b → False := fun b e h => by unfold one at e; omega
        have hoq := own_keep HO.out K7.out (fun b hb e => nog b e (own_ge HO.out b hb))
        have KAq : Keep none_ w7 (w7.alloc (.cells #[.int .i64 9, .string ⟨#[]⟩, .string ⟨#[]⟩, .slice none 0 0, .int .i64 (1 + r), .slice none 0 0] 78)) := (Keep.refl none_ w7).alloc _
        have HOq := Lib.hid (own_keep hoq KAq (fun _ _ e => e))
        have HEq := Lib.hid (HE.out.imp (fun cs e h => (h.keep K7.out (fun b t cs e h _ => (nog b e h).elim)).keep KAq (fun b t cs e => e.elim)))
        have EOq := Lib.hid (EO.out.keep KAq (fun b t cs e => e.elim))
        have TAq := Lib.hid (T7.out.far KAq (fun _ e => e.elim))
        have KKq := Lib.hid ((HK.out.trans K7.out).trans KAq.weak)
        have szq := (K7.out.trans KAq.weak).size
        have wql := B7.out.lt
        clear hoq KAq EO nog
        have t8 : True := trivial
        have t9 : True := trivial
        go_wp2_with (first | (have _t := t8; refine wpList_load_part 78 (.tmp 7) rfl rfl w2.heap.size 0 rfl #[.int .i64 9, .string ⟨#[]⟩, .string ⟨#[]⟩, .slice none 0 0, .int .i64 (1 + r), .slice none 0 0] _ B7.out.rangeAt Tryz.underlying78 rfl (by kernel_rfl) ?_; go_frame; clear _t t8) | (have _t := t9; refine wpList_append_blk (.tmp 88) (.tmp 90) 36 78 rfl rfl w.heap.size _ 6 96 Tryz.underlying36 ev_info rfl (by decide) (.slice Ao l.length co) l.length css.flatten rfl HOq.out w7.heap.size #[.int .i64 9, .string ⟨#[]⟩, .string ⟨#[]⟩, .slice none 0 0, .int .i64 (1 + r), .slice none 0 0] rfl (Blk.new _ _ _) rfl (by simp [Value.oneCell']) (by omega) (by simp; omega) ?_; intro A9 c9 w9 o9 k9; have O9 := Lib.hid o9; have K9 := Lib.hid k9; clear o9 k9; go_frame; clear _t t9))
        go_roundw
        case rel =>
          have ty : ∀ b t cs, ofBlk (.slice Ao l.length co) b → w.heap.size ≤ b → Blk (w7.alloc (.cells #[.int .i64 9, .string ⟨#[]⟩, .string ⟨#[]⟩, .slice none 0 0, .int .i64 (1 + r), .slice none 0 0] 78)) b t cs → t ≠ 9 ∧ t ≠ 72 := fun b t cs e _ hb => by rw [own_type HOq.out hb e]; decide
          refine ⟨q - 1, l ++ [⟨9, ⟨#[]⟩, ⟨#[]⟩, [], 1 + r, []⟩], css ++ [[.int .i64 9, .string ⟨#[]⟩, .string ⟨#[]⟩, .slice none 0 0, .int .i64 (1 + r), .slice none 0 0]], by go_num, by simp only [List.length_append, List.length_cons, List.length_nil]; omega, ?_, (HEq.out.imp (fun cs e h => h.keep K9.out ty)).snoc (EOq.out.keep K9.out ty), fun x hx => ?_, (TAq.out.far K9.out (fun b e => Nat.lt_of_lt_of_le hg (own_ge HOq.out b e))).mono ?_, KKq.out.then K9.out (fun x e => .inr (own_ge HOq.out x e))⟩
          · rw [List.flatten_append, List.length_append]
            exact O9.out
          · rcases List.mem_append.1 hx with hx | hx
            · exact HGe.out x hx
            · simp only [List.mem_cons, List.not_mem_nil, or_false] at hx; rw [hx]; exact GE.out
          · rw [HM.out]; simp only [List.length_append, List.length_cons, List.length_nil]; omega
        case measure => simp [intOf]; omega
    · obtain rfl : q = 0 := by omega
      have hll : l.length ≤ most := by omega
      go_wp2
      go_ret
      exact ⟨_, l, css, rfl, HO.out, HE.out, hll, HGe.out, HT.out.mono (by omega), HK.out⟩
end Go.Proofs.YtnefbeplgfdkkaaGreatDoor
