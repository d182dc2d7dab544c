/-
  FarmLate: the walk.
-/
import Derived.Test.YtnefbeplgfdkkaaDoorLateP
namespace Go.Proofs.YtnefbeplgfdkkaaDoor
open Go.RowKit

theorem ev_info : (Tryd.prog.info? 25).map (fun i => (i.zero, i.size, i.bytes)) = some (some (.agg #[.int .i64 0, .string ⟨#[]⟩, .string ⟨#[]⟩, .slice none 0 0, .int .i64 0, .slice none 0 0]), 6, 96) := by kernel_rfl
theorem Keep.then_none {a w w' : World} {S : Nat → Prop} (h : Keep none_ a w) (k : Keep S w w') (hS : ∀ x, S x → a.heap.size ≤ x) : Keep none_ a w' := h.then k (fun x e => .inr (hS x e))

theorem evsL_true (w3 : World) (base : Nat) (v : Value) (n : Int) (o3 : w3.ownsRow base 25 6 v 6 (((#[.int .i64 1, .string ⟨#[106, 111, 98]⟩, .string ⟨#[]⟩, .slice none 0 0, .int .i64 0, .slice none 0 0, .int .i64 4, .string ⟨#[]⟩, .string ⟨#[97]⟩, .slice none 0 0, .int .i64 0, .slice none 0 0, .int .i64 4, .string ⟨#[]⟩, .string ⟨#[98]⟩, .slice none 0 0, .int .i64 0, .slice none 0 0, .int .i64 6, .string ⟨#[]⟩, .string ⟨#[97]⟩, .slice none 0 0, .int .i64 0, .slice none 0 0] : Array Value).toList ++ (#[.int .i64 5, .string ⟨#[]⟩, .string ⟨#[97]⟩, .slice none 0 0, .int .i64 0, .slice none 0 0] : Array Value).toList) ++ (#[.int .i64 9, .string ⟨#[]⟩, .string ⟨#[]⟩, .slice none 0 0, .int .i64 n, .slice none 0 0] : Array Value).toList)) : EvsOf w3 none_ v (evsL true n) :=
  EvsOf.own (base := base) (css := [[.int .i64 1, .string ⟨#[106, 111, 98]⟩, .string ⟨#[]⟩, .slice none 0 0, .int .i64 0, .slice none 0 0], [.int .i64 4, .string ⟨#[]⟩, .string ⟨#[97]⟩, .slice none 0 0, .int .i64 0, .slice none 0 0], [.int .i64 4, .string ⟨#[]⟩, .string ⟨#[98]⟩, .slice none 0 0, .int .i64 0, .slice none 0 0], [.int .i64 6, .string ⟨#[]⟩, .string ⟨#[97]⟩, .slice none 0 0, .int .i64 0, .slice none 0 0], [.int .i64 5, .string ⟨#[]⟩, .string ⟨#[97]⟩, .slice none 0 0, .int .i64 0, .slice none 0 0], [.int .i64 9, .string ⟨#[]⟩, .string ⟨#[]⟩, .slice none 0 0, .int .i64 n, .slice none 0 0]]) (l := evsL true n) (show w3.ownsRow base 25 6 v 6 _ from o3) ⟨EvCs.plain _ _ _ _ _ _, EvCs.plain _ _ _ _ _ _, EvCs.plain _ _ _ _ _ _, EvCs.plain _ _ _ _ _ _, EvCs.plain _ _ _ _ _ _, EvCs.plain _ _ _ _ _ _, trivial⟩
theorem evsL_false (w3 : World) (base : Nat) (v : Value) (n : Int) (o3 : w3.ownsRow base 25 6 v 5 ((#[.int .i64 1, .string ⟨#[106, 111, 98]⟩, .string ⟨#[]⟩, .slice none 0 0, .int .i64 0, .slice none 0 0, .int .i64 4, .string ⟨#[]⟩, .string ⟨#[97]⟩, .slice none 0 0, .int .i64 0, .slice none 0 0, .int .i64 4, .string ⟨#[]⟩, .string ⟨#[98]⟩, .slice none 0 0, .int .i64 0, .slice none 0 0, .int .i64 6, .string ⟨#[]⟩, .string ⟨#[97]⟩, .slice none 0 0, .int .i64 0, .slice none 0 0] : Array Value).toList ++ (#[.int .i64 9, .string ⟨#[]⟩, .string ⟨#[]⟩, .slice none 0 0, .int .i64 n, .slice none 0 0] : Array Value).toList)) : EvsOf w3 none_ v (evsL false n) :=
  EvsOf.own (base := base) (css := [[.int .i64 1, .string ⟨#[106, 111, 98]⟩, .string ⟨#[]⟩, .slice none 0 0, .int .i64 0, .slice none 0 0], [.int .i64 4, .string ⟨#[]⟩, .string ⟨#[97]⟩, .slice none 0 0, .int .i64 0, .slice none 0 0], [.int .i64 4, .string ⟨#[]⟩, .string ⟨#[98]⟩, .slice none 0 0, .int .i64 0, .slice none 0 0], [.int .i64 6, .string ⟨#[]⟩, .string ⟨#[97]⟩, .slice none 0 0, .int .i64 0, .slice none 0 0], [.int .i64 9, .string ⟨#[]⟩, .string ⟨#[]⟩, .slice none 0 0, .int .i64 n, .slice none 0 0]]) (l := evsL false n) (show w3.ownsRow base 25 6 v 5 _ from o3) ⟨EvCs.plain _ _ _ _ _ _, EvCs.plain _ _ _ _ _ _, EvCs.plain _ _ _ _ _ _, EvCs.plain _ _ _ _ _ _, EvCs.plain _ _ _ _ _ _, trivial⟩

set_option maxRecDepth 100000 in
set_option maxHeartbeats 1000000 in
theorem late_any (t : Int) (h0 : 0 ≤ t) (h1 : t ≤ 255) (die : Bool) (w : World) :
    Calls Tryd.prog 3 #[.int .u8 t, .bool die] w fun e w' => e = .returned (.bool true) ∧ Keep none_ w w' := by
  have ze := zero_event
  have zs := zero_state
  obtain ⟨n, hn⟩ : ∃ n, n = t % 20 + 1 := ⟨_, rfl⟩
  have n1 : 1 ≤ n := by omega
  have n2 : n ≤ 20 := by omega
  obtain ⟨W1, hW1⟩ : ∃ W1, W1 = w.alloc (.cells #[.int .i64 1, .string ⟨#[106, 111, 98]⟩, .string ⟨#[]⟩, .slice none 0 0, .int .i64 0, .slice none 0 0, .int .i64 4, .string ⟨#[]⟩, .string ⟨#[97]⟩, .slice none 0 0, .int .i64 0, .slice none 0 0, .int .i64 4, .string ⟨#[]⟩, .string ⟨#[98]⟩, .slice none 0 0, .int .i64 0, .slice none 0 0, .int .i64 6, .string ⟨#[]⟩, .string ⟨#[97]⟩, .slice none 0 0, .int .i64 0, .slice none 0 0] 25) := ⟨_, rfl⟩
  have o1 : W1.ownsRow w.heap.size 25 6 (.slice (some ⟨w.heap.size, 0, none⟩) 4 4) 4 (#[.int .i64 1, .string ⟨#[106, 111, 98]⟩, .string ⟨#[]⟩, .slice none 0 0, .int .i64 0, .slice none 0 0, .int .i64 4, .string ⟨#[]⟩, .string ⟨#[97]⟩, .slice none 0 0, .int .i64 0, .slice none 0 0, .int .i64 4, .string ⟨#[]⟩, .string ⟨#[98]⟩, .slice none 0 0, .int .i64 0, .slice none 0 0, .int .i64 6, .string ⟨#[]⟩, .string ⟨#[97]⟩, .slice none 0 0, .int .i64 0, .slice none 0 0]).toList := hW1 ▸ own_events w w.heap.size 4 #[.int .i64 1, .string ⟨#[106, 111, 98]⟩, .string ⟨#[]⟩, .slice none 0 0, .int .i64 0, .slice none 0 0, .int .i64 4, .string ⟨#[]⟩, .string ⟨#[97]⟩, .slice none 0 0, .int .i64 0, .slice none 0 0, .int .i64 4, .string ⟨#[]⟩, .string ⟨#[98]⟩, .slice none 0 0, .int .i64 0, .slice none 0 0, .int .i64 6, .string ⟨#[]⟩, .string ⟨#[97]⟩, .slice none 0 0, .int .i64 0, .slice none 0 0] (Nat.le_refl _) (by decide) rfl
  have O1 := Lib.hid o1
  have KW1 := Lib.hid (show Keep none_ w W1 from hW1 ▸ (Keep.refl none_ w).alloc _)
  have lw1 : w.heap.size < W1.heap.size := by rw [hW1]; simp
  clear o1
  cases die with
  | true =>
    have E := late_facts n n1 n2 true
    have it0 := ItsOk.go ItsOk.zero (evsL true n) (evsL_items _ _)
    obtain ⟨s0, hs0⟩ : ∃ s0, goS zeroSt (evsL true n) = s0 := ⟨_, rfl⟩
    rw [hs0] at E it0
    have HS0 := Lib.hid hs0
    clear hs0
    obtain ⟨r1, hr1⟩ : ∃ r1, stepE s0 finA = r1 := ⟨_, rfl⟩
    obtain ⟨r2, hr2⟩ : ∃ r2, stepE s0 pollB = r2 := ⟨_, rfl⟩
    obtain ⟨s1, hs1⟩ : ∃ s1, stepS s0 pollB = s1 := ⟨_, rfl⟩
    have it1 := it0.step (e := pollB) ItOk.nil
    rw [hs1] at E it1
    obtain ⟨r3, hr3⟩ : ∃ r3, stepE s1 finB = r3 := ⟨_, rfl⟩
    rw [hr1, hr2, hr3] at E
    have LF1 := Lib.hid hr1
    have LF2 := Lib.hid hr2
    have LF3 := Lib.hid hr3
    have LS1 := Lib.hid hs1
    have IT1 := Lib.hid it0
    have IT2 := Lib.hid it0
    have IT3 := Lib.hid it1
    have EE := Lib.hid E
    clear E hr1 hr2 hr3 hs1 it0 it1
    go_enter Tryd.func3, Tryd.ntmps3
    go_upto_region 2 with (fail)
    rw [← hW1]
    clear hW1
    have KA : Keep none_ W1 (W1.alloc (.cells #[.int .i64 5, .string ⟨#[]⟩, .string ⟨#[97]⟩, .slice none 0 0, .int .i64 0, .slice none 0 0] 25)) := (Keep.refl none_ W1).alloc _
    have O1' := Lib.hid (own_keep O1.out KA (fun _ _ e => e))
    have KA' := Lib.hid KA
    clear KA
    have t1 : True := trivial
    go_upto_region 4 with (have _t := t1; refine wpList_append_blk (.tmp 25) (.tmp 27) 26 25 rfl rfl w.heap.size _ 6 96 Tryd.underlying26 ev_info rfl (by decide) (.slice (some ⟨w.heap.size, 0, none⟩) 4 4) 4 (#[.int .i64 1, .string ⟨#[106, 111, 98]⟩, .string ⟨#[]⟩, .slice none 0 0, .int .i64 0, .slice none 0 0, .int .i64 4, .string ⟨#[]⟩, .string ⟨#[97]⟩, .slice none 0 0, .int .i64 0, .slice none 0 0, .int .i64 4, .string ⟨#[]⟩, .string ⟨#[98]⟩, .slice none 0 0, .int .i64 0, .slice none 0 0, .int .i64 6, .string ⟨#[]⟩, .string ⟨#[97]⟩, .slice none 0 0, .int .i64 0, .slice none 0 0]).toList rfl O1'.out W1.heap.size #[.int .i64 5, .string ⟨#[]⟩, .string ⟨#[97]⟩, .slice none 0 0, .int .i64 0, .slice none 0 0] rfl (Blk.new _ _ _) rfl (by simp [Value.oneCell']) (by omega) (by simp; omega) ?_; intro A2 c2 w2 o2 k2; have O2 := Lib.hid o2; have K2 := Lib.hid ((KW1.out.trans KA'.out).then_none k2 (fun x e => own_ge O1'.out x e)); clear o2 k2; go_frame; clear _t t1)
    have lw2 := K2.out.size
    go_upto_region 5 with (fail)
    rw [← hn]
    clear hn
    have KT : Keep none_ w2 (w2.alloc (.cells #[.int .i64 9, .string ⟨#[]⟩, .string ⟨#[]⟩, .slice none 0 0, .int .i64 n, .slice none 0 0] 25)) := (Keep.refl none_ w2).alloc _
    have O2' := Lib.hid (own_keep O2.out KT (fun _ _ e => e))
    have KT' := Lib.hid KT
    clear KT
    have t2 : True := trivial
    have t3 : True := trivial
    have t4 : True := trivial
    go_upto_region 6 with (first | (have _t := t2; refine wpList_append_blk (.tmp 35) (.tmp 38) 26 25 rfl rfl w.heap.size _ 6 96 Tryd.underlying26 ev_info rfl (by decide) (.slice A2 (4 + 1) c2) (4 + 1) ((#[.int .i64 1, .string ⟨#[106, 111, 98]⟩, .string ⟨#[]⟩, .slice none 0 0, .int .i64 0, .slice none 0 0, .int .i64 4, .string ⟨#[]⟩, .string ⟨#[97]⟩, .slice none 0 0, .int .i64 0, .slice none 0 0, .int .i64 4, .string ⟨#[]⟩, .string ⟨#[98]⟩, .slice none 0 0, .int .i64 0, .slice none 0 0, .int .i64 6, .string ⟨#[]⟩, .string ⟨#[97]⟩, .slice none 0 0, .int .i64 0, .slice none 0 0]).toList ++ (#[.int .i64 5, .string ⟨#[]⟩, .string ⟨#[97]⟩, .slice none 0 0, .int .i64 0, .slice none 0 0] : Array Value).toList) rfl O2'.out w2.heap.size #[.int .i64 9, .string ⟨#[]⟩, .string ⟨#[]⟩, .slice none 0 0, .int .i64 n, .slice none 0 0] rfl (Blk.new _ _ _) rfl (by simp [Value.oneCell']) (by omega) (by simp; omega) ?_; intro A3 c3 w3 o3 k3; have K3 := Lib.hid (K2.out.trans (KT'.out.trans (Keep.refl none_ _))); have K3' := Lib.hid (K3.out.then_none k3 (fun x e => own_ge O2'.out x e)); have RN := Lib.hid (run_any zeroSt (evsL true n) _ _ none_ none_ w3 (zeroSt_of _ _) (evsL_true w3 w.heap.size _ n o3) V.zero ItsOk.zero (evsL_items _ _) (evsL_len _ _)); clear o3 k3; go_frame; clear _t t2) | (have _t := t3; go_at_call 7; refine RN.out.mono ?_; rintro e w4 ⟨v4, vo4, ve4, rfl, h4, o4, e4, k4⟩; rw [HS0.out] at h4; have K4 := Lib.hid (K3'.out.trans k4); have H4 := Lib.hid h4; obtain ⟨p6, j6, q6, rfl, g1, g2, g3⟩ := h4; obtain ⟨P1, P2, P3, rfl, -⟩ := g1; obtain ⟨P4, P5, P6, rfl, -⟩ := g2; obtain ⟨P7, P8, P9, rfl, -⟩ := g3; obtain ⟨O5, O6, rfl, -⟩ := o4; obtain ⟨X1, X2, rfl, -⟩ := e4; obtain ⟨no, hno⟩ : ∃ no, no = (goO zeroSt (evsL true n)).length := ⟨_, rfl⟩; rw [← hno]; obtain ⟨ne, hne⟩ : ∃ ne, ne = (goE zeroSt (evsL true n)).length := ⟨_, rfl⟩; rw [← hne]; clear hno hne; clear k4 RN _t t3) | (have _t := t4; refine wpList_store_blk rfl 30 (.tmp 7) (.tmp 41) rfl w4.heap.size 30 _ _ rfl rfl (Blk.new _ _ _) rfl (by kernel_rfl) (by simp [Value.oneCell']) ?_; intro w5 b5 k5 s5; go_frame; clear _t t4))
    have k45 : Keep none_ w4 w5 := ((Keep.refl none_ w4).alloc _).own k5 (Nat.le_refl _)
    have H5 := Lib.hid (H4.out.keep k45)
    have B5 := Lib.hid b5
    have K5 := Lib.hid (K4.out.trans k45)
    clear b5 k5 s5 k45 H4
    have ST1 := Lib.hid (step_any s0 finA (.agg #[.int .i64 s0.now, .slice P1 P2 P3, .slice P4 P5 P6, .slice P7 P8 P9]) (.agg #[.int .i64 7, .string ⟨#[106, 111, 98]⟩, .string ⟨#[97]⟩, .slice none 0 0, .int .i64 0, .slice none 0 0]) none_ none_ w5 H5.out ⟨_, _, rfl, StrsOf.nil _ _, ItemsOf.nil _ _⟩ IT1.out ItOk.nil)
    have u1 : True := trivial
    have u2 : True := trivial
    have u3 : True := trivial
    go_upto_region 7 with (first | (have _t := u1; refine wpList_load_part 30 (.tmp 7) rfl rfl w4.heap.size 0 rfl #[.int .i64 s0.now, .slice P1 P2 P3, .slice P4 P5 P6, .slice P7 P8 P9] _ B5.out.rangeAt Tryd.underlying30 rfl (by kernel_rfl) ?_; go_frame; clear _t u1) | (have _t := u2; go_at_call 8; refine ST1.out.mono ?_; rintro e w6 ⟨v1, vo1, rfl, h1, o1, k1⟩; have KS1 := Lib.hid k1; have HS1 := Lib.hid h1; have OS1 := Lib.hid o1; obtain ⟨p6, j6, q6, rfl, g1, g2, g3⟩ := h1; obtain ⟨a11, a21, a31, rfl, -⟩ := g1; obtain ⟨a41, a51, a61, rfl, -⟩ := g2; obtain ⟨a71, a81, a91, rfl, -⟩ := g3; obtain ⟨oa1, oc1, rfl, or1⟩ := o1; obtain ⟨q1, hq1⟩ : ∃ q, q = (stepO s0 finA).length := ⟨_, rfl⟩; rw [← hq1]; have HQ1 := Lib.hid hq1; have OR1 := Lib.hid or1; clear hq1 or1; rw [LF1.out]; clear k1 ST1 _t u2) | (have _t := u3; refine wpList_store_blk rfl 30 (.tmp 10) (.tmp 48) rfl w6.heap.size 30 _ _ rfl rfl (Blk.new _ _ _) rfl (by kernel_rfl) (by simp [Value.oneCell']) ?_; intro wz1 bz1 kz1 sz1; have BZ1 := Lib.hid bz1; have KY1 := Lib.hid (((Keep.refl none_ w6).alloc _).own kz1 (Nat.le_refl _)); have KZ1 := Lib.hid (KS1.out.trans KY1.out); clear bz1 kz1 sz1; go_frame; clear _t u3))
    have H7 := Lib.hid (H5.out.keep KZ1.out)
    have B7 := Lib.hid (B5.out.keep KZ1.out (fun e => e))
    have ST2 := Lib.hid (step_any s0 pollB (.agg #[.int .i64 s0.now, .slice P1 P2 P3, .slice P4 P5 P6, .slice P7 P8 P9]) (.agg #[.int .i64 6, .string ⟨#[]⟩, .string ⟨#[98]⟩, .slice none 0 0, .int .i64 0, .slice none 0 0]) none_ none_ wz1 H7.out ⟨_, _, rfl, StrsOf.nil _ _, ItemsOf.nil _ _⟩ IT2.out ItOk.nil)
    have u1 : True := trivial
    have u2 : True := trivial
    have u3 : True := trivial
    go_upto_region 8 with (first | (have _t := u1; refine wpList_load_part 30 (.tmp 7) rfl rfl w4.heap.size 0 rfl #[.int .i64 s0.now, .slice P1 P2 P3, .slice P4 P5 P6, .slice P7 P8 P9] _ B7.out.rangeAt Tryd.underlying30 rfl (by kernel_rfl) ?_; go_frame; clear _t u1) | (have _t := u2; go_at_call 8; refine ST2.out.mono ?_; rintro e w8 ⟨v2, vo2, rfl, h2, o2, k2⟩; have KS2 := Lib.hid k2; have HS2 := Lib.hid h2; have OS2 := Lib.hid o2; obtain ⟨p6, j6, q6, rfl, g1, g2, g3⟩ := h2; obtain ⟨a12, a22, a32, rfl, -⟩ := g1; obtain ⟨a42, a52, a62, rfl, -⟩ := g2; obtain ⟨a72, a82, a92, rfl, -⟩ := g3; obtain ⟨oa2, oc2, rfl, or2⟩ := o2; obtain ⟨q2, hq2⟩ : ∃ q, q = (stepO s0 pollB).length := ⟨_, rfl⟩; rw [← hq2]; have HQ2 := Lib.hid hq2; have OR2 := Lib.hid or2; clear hq2 or2; rw [LF2.out]; clear k2 ST2 _t u2) | (have _t := u3; refine wpList_store_blk rfl 30 (.tmp 13) (.tmp 55) rfl w8.heap.size 30 _ _ rfl rfl (Blk.new _ _ _) rfl (by kernel_rfl) (by simp [Value.oneCell']) ?_; intro wz2 bz2 kz2 sz2; have BZ2 := Lib.hid bz2; have KY2 := Lib.hid (((Keep.refl none_ w8).alloc _).own kz2 (Nat.le_refl _)); have KZ2 := Lib.hid (KS2.out.trans KY2.out); clear bz2 kz2 sz2; go_frame; clear _t u3))
    rw [LS1.out] at HS2
    rw [LS1.out] at BZ2
    have H9 := Lib.hid (HS2.out.keep KY2.out)
    have ST3 := Lib.hid (step_any s1 finB (.agg #[.int .i64 s1.now, .slice a12 a22 a32, .slice a42 a52 a62, .slice a72 a82 a92]) (.agg #[.int .i64 7, .string ⟨#[106, 111, 98]⟩, .string ⟨#[98]⟩, .slice none 0 0, .int .i64 0, .slice none 0 0]) none_ none_ wz2 H9.out ⟨_, _, rfl, StrsOf.nil _ _, ItemsOf.nil _ _⟩ IT3.out ItOk.nil)
    have u1 : True := trivial
    have u2 : True := trivial
    have u3 : True := trivial
    go_upto_region 9 with (first | (have _t := u1; refine wpList_load_part 30 (.tmp 13) rfl rfl w8.heap.size 0 rfl #[.int .i64 s1.now, .slice a12 a22 a32, .slice a42 a52 a62, .slice a72 a82 a92] _ BZ2.out.rangeAt Tryd.underlying30 rfl (by kernel_rfl) ?_; go_frame; clear _t u1) | (have _t := u2; go_at_call 8; refine ST3.out.mono ?_; rintro e w10 ⟨v3, vo3, rfl, h3, o3, k3⟩; have KS3 := Lib.hid k3; obtain ⟨p6, j6, q6, rfl, g1, g2, g3⟩ := h3; obtain ⟨b1, b2, b3, rfl, -⟩ := g1; obtain ⟨b4, b5, b6, rfl, -⟩ := g2; obtain ⟨b7, b8, b9, rfl, -⟩ := g3; obtain ⟨oa3, oc3, rfl, -⟩ := o3; obtain ⟨q3, hq3⟩ : ∃ q, q = (stepO s1 finB).length := ⟨_, rfl⟩; rw [← hq3]; clear hq3; obtain ⟨z3, hz3⟩ : ∃ z, z = stepS s1 finB := ⟨_, rfl⟩; rw [← hz3]; clear hz3; rw [LF3.out]; clear k3 ST3 _t u2) | (have _t := u3; refine wpList_store_blk rfl 30 (.tmp 16) (.tmp 62) rfl w10.heap.size 30 _ _ rfl rfl (Blk.new _ _ _) rfl (by kernel_rfl) (by simp [Value.oneCell']) ?_; intro wz3 bz3 kz3 sz3; have KZ3 := Lib.hid (KS3.out.trans (((Keep.refl none_ w10).alloc _).own kz3 (Nat.le_refl _))); clear bz3 kz3 sz3; go_frame; clear _t u3))
    have KF := Lib.hid (((K5.out.trans KZ1.out).trans KZ2.out).trans KZ3.out)
    have AW := Lib.hid (awake_any wz3)
    obtain ⟨x1, x2, x3, x4⟩ := EE.out
    have KO := Lib.hid (KY2.out.trans KZ3.out)
    clear H9 H7 H5 B7 B5 BZ1 BZ2 HS1 HS2 OS1 OS2 OR1 KS1 KS2 KS3 KY1 K3 K3' KT' EE IT1 IT2 IT3 O2 O2'
    by_cases hn10 : n < 10
    · have y1 : r1 = 14 := by simpa using x1
      have y3 : q2 = 0 := by rw [HQ2.out, x3, if_pos hn10]; rfl
      have y4 : r3 = 13 := by rw [x4, if_pos hn10]
      clear x1 x3 x4 HQ2
      subst y1 x2 y3 y4
      have t9 : True := trivial
      go_wp2_with (have _t := t9; go_at_call 9; refine AW.out.mono ?_; rintro e wa ⟨rfl, ka⟩; have KA9 := Lib.hid ka; clear ka _t t9)
      go_ret
      exact ⟨by rfl, KF.out.trans KA9.out⟩
    · have y1 : r1 = 14 := by simpa using x1
      have y3 : q2 = 1 := by rw [HQ2.out, x3, if_neg hn10]; rfl
      have y4 : r3 = 0 := by rw [x4, if_neg hn10]
      have hn10' : (10 : Int) ≤ n := by omega
      have orr := OR2.out
      rw [x3, if_neg hn10] at orr
      obtain ⟨bo, oo, rfl, -, hoo⟩ := orr.at_ (by decide)
      have co := KO.out.cell (hoo 2 (.string bB) rfl) (fun e => e)
      have co' : wz3.cell? ⟨bo, oo + 2, none⟩ = some (.string ⟨#[98]⟩) := co
      clear orr hoo co
      clear x1 x3 x4 HQ2
      subst y1 x2 y3 y4
      have t9 : True := trivial
      go_wp2_with (have _t := t9; go_at_call 9; refine AW.out.mono ?_; rintro e wa ⟨rfl, ka⟩; have KA9 := Lib.hid ka; clear ka _t t9)
      go_ret
      exact ⟨by rfl, KF.out.trans KA9.out⟩
  | false =>
    have E := late_facts n n1 n2 false
    have it0 := ItsOk.go ItsOk.zero (evsL false n) (evsL_items _ _)
    obtain ⟨s0, hs0⟩ : ∃ s0, goS zeroSt (evsL false n) = s0 := ⟨_, rfl⟩
    rw [hs0] at E it0
    have HS0 := Lib.hid hs0
    clear hs0
    obtain ⟨r1, hr1⟩ : ∃ r1, stepE s0 finA = r1 := ⟨_, rfl⟩
    obtain ⟨r2, hr2⟩ : ∃ r2, stepE s0 pollB = r2 := ⟨_, rfl⟩
    obtain ⟨s1, hs1⟩ : ∃ s1, stepS s0 pollB = s1 := ⟨_, rfl⟩
    have it1 := it0.step (e := pollB) ItOk.nil
    rw [hs1] at E it1
    obtain ⟨r3, hr3⟩ : ∃ r3, stepE s1 finB = r3 := ⟨_, rfl⟩
    rw [hr1, hr2, hr3] at E
    have LF1 := Lib.hid hr1
    have LF2 := Lib.hid hr2
    have LF3 := Lib.hid hr3
    have LS1 := Lib.hid hs1
    have IT1 := Lib.hid it0
    have IT2 := Lib.hid it0
    have IT3 := Lib.hid it1
    have EE := Lib.hid E
    clear E hr1 hr2 hr3 hs1 it0 it1
    go_enter Tryd.func3, Tryd.ntmps3
    go_upto_region 2 with (fail)
    rw [← hW1]
    clear hW1
    go_upto_region 4 with (fail)
    obtain ⟨w2, hw2⟩ : ∃ w2, w2 = W1 := ⟨_, rfl⟩
    have O2 := O1
    have K2 := KW1
    rw [← hw2] at O2 K2 ⊢
    clear hw2
    have lw2 := K2.out.size
    go_upto_region 5 with (fail)
    rw [← hn]
    clear hn
    have KT : Keep none_ w2 (w2.alloc (.cells #[.int .i64 9, .string ⟨#[]⟩, .string ⟨#[]⟩, .slice none 0 0, .int .i64 n, .slice none 0 0] 25)) := (Keep.refl none_ w2).alloc _
    have O2' := Lib.hid (own_keep O2.out KT (fun _ _ e => e))
    have KT' := Lib.hid KT
    clear KT
    have t2 : True := trivial
    have t3 : True := trivial
    have t4 : True := trivial
    go_upto_region 6 with (first | (have _t := t2; refine wpList_append_blk (.tmp 35) (.tmp 38) 26 25 rfl rfl w.heap.size _ 6 96 Tryd.underlying26 ev_info rfl (by decide) (.slice (some ⟨w.heap.size, 0, none⟩) 4 4) 4 (#[.int .i64 1, .string ⟨#[106, 111, 98]⟩, .string ⟨#[]⟩, .slice none 0 0, .int .i64 0, .slice none 0 0, .int .i64 4, .string ⟨#[]⟩, .string ⟨#[97]⟩, .slice none 0 0, .int .i64 0, .slice none 0 0, .int .i64 4, .string ⟨#[]⟩, .string ⟨#[98]⟩, .slice none 0 0, .int .i64 0, .slice none 0 0, .int .i64 6, .string ⟨#[]⟩, .string ⟨#[97]⟩, .slice none 0 0, .int .i64 0, .slice none 0 0]).toList rfl O2'.out w2.heap.size #[.int .i64 9, .string ⟨#[]⟩, .string ⟨#[]⟩, .slice none 0 0, .int .i64 n, .slice none 0 0] rfl (Blk.new _ _ _) rfl (by simp [Value.oneCell']) (by omega) (by simp; omega) ?_; intro A3 c3 w3 o3 k3; have K3 := Lib.hid (K2.out.trans (KT'.out.trans (Keep.refl none_ _))); have K3' := Lib.hid (K3.out.then_none k3 (fun x e => own_ge O2'.out x e)); have RN := Lib.hid (run_any zeroSt (evsL false n) _ _ none_ none_ w3 (zeroSt_of _ _) (evsL_false w3 w.heap.size _ n o3) V.zero ItsOk.zero (evsL_items _ _) (evsL_len _ _)); clear o3 k3; go_frame; clear _t t2) | (have _t := t3; go_at_call 7; refine RN.out.mono ?_; rintro e w4 ⟨v4, vo4, ve4, rfl, h4, o4, e4, k4⟩; rw [HS0.out] at h4; have K4 := Lib.hid (K3'.out.trans k4); have H4 := Lib.hid h4; obtain ⟨p6, j6, q6, rfl, g1, g2, g3⟩ := h4; obtain ⟨P1, P2, P3, rfl, -⟩ := g1; obtain ⟨P4, P5, P6, rfl, -⟩ := g2; obtain ⟨P7, P8, P9, rfl, -⟩ := g3; obtain ⟨O5, O6, rfl, -⟩ := o4; obtain ⟨X1, X2, rfl, -⟩ := e4; obtain ⟨no, hno⟩ : ∃ no, no = (goO zeroSt (evsL false n)).length := ⟨_, rfl⟩; rw [← hno]; obtain ⟨ne, hne⟩ : ∃ ne, ne = (goE zeroSt (evsL false n)).length := ⟨_, rfl⟩; rw [← hne]; clear hno hne; clear k4 RN _t t3) | (have _t := t4; refine wpList_store_blk rfl 30 (.tmp 7) (.tmp 41) rfl w4.heap.size 30 _ _ rfl rfl (Blk.new _ _ _) rfl (by kernel_rfl) (by simp [Value.oneCell']) ?_; intro w5 b5 k5 s5; go_frame; clear _t t4))
    have k45 : Keep none_ w4 w5 := ((Keep.refl none_ w4).alloc _).own k5 (Nat.le_refl _)
    have H5 := Lib.hid (H4.out.keep k45)
    have B5 := Lib.hid b5
    have K5 := Lib.hid (K4.out.trans k45)
    clear b5 k5 s5 k45 H4
    have ST1 := Lib.hid (step_any s0 finA (.agg #[.int .i64 s0.now, .slice P1 P2 P3, .slice P4 P5 P6, .slice P7 P8 P9]) (.agg #[.int .i64 7, .string ⟨#[106, 111, 98]⟩, .string ⟨#[97]⟩, .slice none 0 0, .int .i64 0, .slice none 0 0]) none_ none_ w5 H5.out ⟨_, _, rfl, StrsOf.nil _ _, ItemsOf.nil _ _⟩ IT1.out ItOk.nil)
    have u1 : True := trivial
    have u2 : True := trivial
    have u3 : True := trivial
    go_upto_region 7 with (first | (have _t := u1; refine wpList_load_part 30 (.tmp 7) rfl rfl w4.heap.size 0 rfl #[.int .i64 s0.now, .slice P1 P2 P3, .slice P4 P5 P6, .slice P7 P8 P9] _ B5.out.rangeAt Tryd.underlying30 rfl (by kernel_rfl) ?_; go_frame; clear _t u1) | (have _t := u2; go_at_call 8; refine ST1.out.mono ?_; rintro e w6 ⟨v1, vo1, rfl, h1, o1, k1⟩; have KS1 := Lib.hid k1; have HS1 := Lib.hid h1; have OS1 := Lib.hid o1; obtain ⟨p6, j6, q6, rfl, g1, g2, g3⟩ := h1; obtain ⟨a11, a21, a31, rfl, -⟩ := g1; obtain ⟨a41, a51, a61, rfl, -⟩ := g2; obtain ⟨a71, a81, a91, rfl, -⟩ := g3; obtain ⟨oa1, oc1, rfl, or1⟩ := o1; obtain ⟨q1, hq1⟩ : ∃ q, q = (stepO s0 finA).length := ⟨_, rfl⟩; rw [← hq1]; have HQ1 := Lib.hid hq1; have OR1 := Lib.hid or1; clear hq1 or1; rw [LF1.out]; clear k1 ST1 _t u2) | (have _t := u3; refine wpList_store_blk rfl 30 (.tmp 10) (.tmp 48) rfl w6.heap.size 30 _ _ rfl rfl (Blk.new _ _ _) rfl (by kernel_rfl) (by simp [Value.oneCell']) ?_; intro wz1 bz1 kz1 sz1; have BZ1 := Lib.hid bz1; have KY1 := Lib.hid (((Keep.refl none_ w6).alloc _).own kz1 (Nat.le_refl _)); have KZ1 := Lib.hid (KS1.out.trans KY1.out); clear bz1 kz1 sz1; go_frame; clear _t u3))
    have H7 := Lib.hid (H5.out.keep KZ1.out)
    have B7 := Lib.hid (B5.out.keep KZ1.out (fun e => e))
    have ST2 := Lib.hid (step_any s0 pollB (.agg #[.int .i64 s0.now, .slice P1 P2 P3, .slice P4 P5 P6, .slice P7 P8 P9]) (.agg #[.int .i64 6, .string ⟨#[]⟩, .string ⟨#[98]⟩, .slice none 0 0, .int .i64 0, .slice none 0 0]) none_ none_ wz1 H7.out ⟨_, _, rfl, StrsOf.nil _ _, ItemsOf.nil _ _⟩ IT2.out ItOk.nil)
    have u1 : True := trivial
    have u2 : True := trivial
    have u3 : True := trivial
    go_upto_region 8 with (first | (have _t := u1; refine wpList_load_part 30 (.tmp 7) rfl rfl w4.heap.size 0 rfl #[.int .i64 s0.now, .slice P1 P2 P3, .slice P4 P5 P6, .slice P7 P8 P9] _ B7.out.rangeAt Tryd.underlying30 rfl (by kernel_rfl) ?_; go_frame; clear _t u1) | (have _t := u2; go_at_call 8; refine ST2.out.mono ?_; rintro e w8 ⟨v2, vo2, rfl, h2, o2, k2⟩; have KS2 := Lib.hid k2; have HS2 := Lib.hid h2; have OS2 := Lib.hid o2; obtain ⟨p6, j6, q6, rfl, g1, g2, g3⟩ := h2; obtain ⟨a12, a22, a32, rfl, -⟩ := g1; obtain ⟨a42, a52, a62, rfl, -⟩ := g2; obtain ⟨a72, a82, a92, rfl, -⟩ := g3; obtain ⟨oa2, oc2, rfl, or2⟩ := o2; obtain ⟨q2, hq2⟩ : ∃ q, q = (stepO s0 pollB).length := ⟨_, rfl⟩; rw [← hq2]; have HQ2 := Lib.hid hq2; have OR2 := Lib.hid or2; clear hq2 or2; rw [LF2.out]; clear k2 ST2 _t u2) | (have _t := u3; refine wpList_store_blk rfl 30 (.tmp 13) (.tmp 55) rfl w8.heap.size 30 _ _ rfl rfl (Blk.new _ _ _) rfl (by kernel_rfl) (by simp [Value.oneCell']) ?_; intro wz2 bz2 kz2 sz2; have BZ2 := Lib.hid bz2; have KY2 := Lib.hid (((Keep.refl none_ w8).alloc _).own kz2 (Nat.le_refl _)); have KZ2 := Lib.hid (KS2.out.trans KY2.out); clear bz2 kz2 sz2; go_frame; clear _t u3))
    rw [LS1.out] at HS2
    rw [LS1.out] at BZ2
    have H9 := Lib.hid (HS2.out.keep KY2.out)
    have ST3 := Lib.hid (step_any s1 finB (.agg #[.int .i64 s1.now, .slice a12 a22 a32, .slice a42 a52 a62, .slice a72 a82 a92]) (.agg #[.int .i64 7, .string ⟨#[106, 111, 98]⟩, .string ⟨#[98]⟩, .slice none 0 0, .int .i64 0, .slice none 0 0]) none_ none_ wz2 H9.out ⟨_, _, rfl, StrsOf.nil _ _, ItemsOf.nil _ _⟩ IT3.out ItOk.nil)
    have u1 : True := trivial
    have u2 : True := trivial
    have u3 : True := trivial
    go_upto_region 9 with (first | (have _t := u1; refine wpList_load_part 30 (.tmp 13) rfl rfl w8.heap.size 0 rfl #[.int .i64 s1.now, .slice a12 a22 a32, .slice a42 a52 a62, .slice a72 a82 a92] _ BZ2.out.rangeAt Tryd.underlying30 rfl (by kernel_rfl) ?_; go_frame; clear _t u1) | (have _t := u2; go_at_call 8; refine ST3.out.mono ?_; rintro e w10 ⟨v3, vo3, rfl, h3, o3, k3⟩; have KS3 := Lib.hid k3; obtain ⟨p6, j6, q6, rfl, g1, g2, g3⟩ := h3; obtain ⟨b1, b2, b3, rfl, -⟩ := g1; obtain ⟨b4, b5, b6, rfl, -⟩ := g2; obtain ⟨b7, b8, b9, rfl, -⟩ := g3; obtain ⟨oa3, oc3, rfl, -⟩ := o3; obtain ⟨q3, hq3⟩ : ∃ q, q = (stepO s1 finB).length := ⟨_, rfl⟩; rw [← hq3]; clear hq3; obtain ⟨z3, hz3⟩ : ∃ z, z = stepS s1 finB := ⟨_, rfl⟩; rw [← hz3]; clear hz3; rw [LF3.out]; clear k3 ST3 _t u2) | (have _t := u3; refine wpList_store_blk rfl 30 (.tmp 16) (.tmp 62) rfl w10.heap.size 30 _ _ rfl rfl (Blk.new _ _ _) rfl (by kernel_rfl) (by simp [Value.oneCell']) ?_; intro wz3 bz3 kz3 sz3; have KZ3 := Lib.hid (KS3.out.trans (((Keep.refl none_ w10).alloc _).own kz3 (Nat.le_refl _))); clear bz3 kz3 sz3; go_frame; clear _t u3))
    have KF := Lib.hid (((K5.out.trans KZ1.out).trans KZ2.out).trans KZ3.out)
    have AW := Lib.hid (awake_any wz3)
    obtain ⟨x1, x2, x3, x4⟩ := EE.out
    have KO := Lib.hid (KY2.out.trans KZ3.out)
    clear H9 H7 H5 B7 B5 BZ1 BZ2 HS1 HS2 OS1 OS2 OR1 KS1 KS2 KS3 KY1 K3 K3' KT' EE IT1 IT2 IT3 O2 O2'
    by_cases hn10 : n < 10
    · have y1 : r1 = 0 := by simpa [hn10] using x1
      have y3 : q2 = 0 := by rw [HQ2.out, x3, if_pos hn10]; rfl
      have y4 : r3 = 13 := by rw [x4, if_pos hn10]
      clear x1 x3 x4 HQ2
      subst y1 x2 y3 y4
      have t9 : True := trivial
      go_wp2_with (have _t := t9; go_at_call 9; refine AW.out.mono ?_; rintro e wa ⟨rfl, ka⟩; have KA9 := Lib.hid ka; clear ka _t t9)
      go_ret
      exact ⟨by rfl, KF.out.trans KA9.out⟩
    · have y1 : r1 = 13 := by simpa [hn10] using x1
      have y3 : q2 = 1 := by rw [HQ2.out, x3, if_neg hn10]; rfl
      have y4 : r3 = 0 := by rw [x4, if_neg hn10]
      have hn10' : (10 : Int) ≤ n := by omega
      have orr := OR2.out
      rw [x3, if_neg hn10] at orr
      obtain ⟨bo, oo, rfl, -, hoo⟩ := orr.at_ (by decide)
      have co := KO.out.cell (hoo 2 (.string bB) rfl) (fun e => e)
      have co' : wz3.cell? ⟨bo, oo + 2, none⟩ = some (.string ⟨#[98]⟩) := co
      clear orr hoo co
      clear x1 x3 x4 HQ2
      subst y1 x2 y3 y4
      have t9 : True := trivial
      go_wp2_with (have _t := t9; go_at_call 9; refine AW.out.mono ?_; rintro e wa ⟨rfl, ka⟩; have KA9 := Lib.hid ka; clear ka _t t9)
      go_ret
      exact ⟨by rfl, KF.out.trans KA9.out⟩
end Go.Proofs.YtnefbeplgfdkkaaDoor
