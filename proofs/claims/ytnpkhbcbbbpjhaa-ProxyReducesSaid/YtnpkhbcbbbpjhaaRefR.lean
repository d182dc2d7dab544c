/-
  The reference's Reduce: the same frame, or the same error.
-/
import Derived.Test.YtnpkhbcbbbpjhaaRedu2
import Derived.Test.YtnpkhbcbbbpjhaaRedu3
namespace Go.Proofs.Ytnpkhbcbbbpjhaa
open Go.RowKit

theorem valid_bd {W H : Int} {n1 n2 n3 : Nat} (h : validF W H n1 n2 n3 = true) : 16 ≤ W ∧ W ≤ 64 ∧ 16 ≤ H ∧ H ≤ 64 := by
  simp [validF] at h
  omega

set_option maxRecDepth 100000 in
set_option maxHeartbeats 1000000 in
theorem refR_no (W H : Int) (A1 A2 A3 : Option Addr) (n1 c1 n2 c2 n3 c3 : Nat) (w : World) (hno : redOk W H n1 n2 n3 = false) :
    Calls Try.prog 8 #[.agg #[.int .i64 W, .int .i64 H, .slice A1 n1 c1, .slice A2 n2 c2, .slice A3 n3 c3]] w fun e w' => e = .returned (.tuple #[.agg zeroFrame, .int .i64 1]) ∧ Keep none_ w w' := by
  rw [redOk_valid] at hno
  cases hv : validF W H n1 n2 n3 with
  | false =>
    have HV := Lib.hid hv
    clear hno hv
    go_enter Try.func8, Try.ntmps8
    go_wp2_with fail
    refine (valid20_any W H A1 A2 A3 n1 c1 n2 c2 n3 c3 _).mono ?_
    rintro e w1 ⟨rfl, hk⟩
    rw [HV.out]
    obtain ⟨-, b1, kw⟩ := two hk
    clear hk
    go_wp2_with (first | (refine wpList_store_blk rfl 24 (.tmp 2) (.tmp 19) rfl (w.heap.size + 1) 24 _ zeroFrame rfl rfl b1 rfl (by kernel_rfl) (by simp [Value.oneCell', zeroFrame]) ?_; intro w2 b3 k2 s2))
    exact bodyPost_ret (v := .tuple #[.agg zeroFrame, .int .i64 1]) (results_cell_tmp' Try.results8 rfl (run_loadVar_blk b3 Try.underlying24 rfl (by kernel_rfl))) rfl ⟨rfl, kw.own k2 (by omega)⟩
  | true =>
    rw [hv] at hno
    obtain ⟨hb1, hb2, hb3, hb4⟩ := valid_bd hv
    have HV := Lib.hid hv
    clear hv
    cases h1 : (W % 32 == 0) with
    | false =>
      have h1' : (W % 32 != 0) = true := by simpa using h1
      clear h1 hno
      go_enter Try.func8, Try.ntmps8
      go_wp2_with fail
      refine (valid20_any W H A1 A2 A3 n1 c1 n2 c2 n3 c3 _).mono ?_
      rintro e w1 ⟨rfl, hk⟩
      rw [HV.out]
      obtain ⟨b0, b1, kw⟩ := two hk
      have x0 := b0.cell 0
      simp only [List.getElem?_toArray, List.getElem?_cons_zero] at x0
      clear hk
      go_wp2_with (first | (refine wpList_store_blk rfl 24 (.tmp 2) (.tmp 19) rfl (w.heap.size + 1) 24 _ zeroFrame rfl rfl b1 rfl (by kernel_rfl) (by simp [Value.oneCell', zeroFrame]) ?_; intro w2 b3 k2 s2))
      exact bodyPost_ret (v := .tuple #[.agg zeroFrame, .int .i64 1]) (results_cell_tmp' Try.results8 rfl (run_loadVar_blk b3 Try.underlying24 rfl (by kernel_rfl))) rfl ⟨rfl, kw.own k2 (by omega)⟩
    | true =>
      rw [h1] at hno
      have h1' : (W % 32 != 0) = false := by simpa using h1
      have h2' : (H % 32 != 0) = true := by simpa using hno
      clear h1 hno
      go_enter Try.func8, Try.ntmps8
      go_wp2_with fail
      refine (valid20_any W H A1 A2 A3 n1 c1 n2 c2 n3 c3 _).mono ?_
      rintro e w1 ⟨rfl, hk⟩
      rw [HV.out]
      obtain ⟨b0, b1, kw⟩ := two hk
      have x0 := b0.cell 0
      have x1 := b0.cell 1
      simp only [List.getElem?_toArray, List.getElem?_cons_zero, List.getElem?_cons_succ] at x0 x1
      clear hk
      go_wp2_with (first | (refine wpList_store_blk rfl 24 (.tmp 2) (.tmp 19) rfl (w.heap.size + 1) 24 _ zeroFrame rfl rfl b1 rfl (by kernel_rfl) (by simp [Value.oneCell', zeroFrame]) ?_; intro w2 b3 k2 s2))
      exact bodyPost_ret (v := .tuple #[.agg zeroFrame, .int .i64 1]) (results_cell_tmp' Try.results8 rfl (run_loadVar_blk b3 Try.underlying24 rfl (by kernel_rfl))) rfl ⟨rfl, kw.own k2 (by omega)⟩

set_option maxRecDepth 100000 in
set_option maxHeartbeats 2000000 in
theorem refR_32_32 (A1 A2 A3 : Option Addr) (c1 c2 c3 : Nat) (Y U V : List Int) (w : World)
    (r1 : Row w none_ 1 A1 1024 c1 (Y.map (Value.int .u8))) (r2 : Row w none_ 1 A2 256 c2 (U.map (Value.int .u8))) (r3 : Row w none_ 1 A3 256 c3 (V.map (Value.int .u8))) (u1 : U8s Y) (u2 : U8s U) (u3 : U8s V) :
    Calls Try.prog 8 #[.agg #[.int .i64 32, .int .i64 32, .slice A1 1024 c1, .slice A2 256 c2, .slice A3 256 c3]] w fun e w' => ∃ v, e = .returned (.tuple #[v, .int .i64 0]) ∧ FrameOf w' none_ v ⟨16, 16, redPlane Y 32, redPlane U 16, redPlane V 16⟩ ∧ Keep none_ w w' := by
  go_enter Try.func8, Try.ntmps8
  go_wp2_with fail
  refine (valid20_any 32 32 A1 A2 A3 1024 c1 256 c2 256 c3 _).mono ?_
  rintro e w1 ⟨rfl, hk⟩
  rw [show validF 32 32 1024 256 256 = true from by decide]
  obtain ⟨b0, b1, kw⟩ := two hk
  have z0 := b0.cell 0
  have z1 := b0.cell 1
  simp only [List.getElem?_toArray, List.getElem?_cons_zero, List.getElem?_cons_succ] at z0 z1
  clear hk
  go_wp2_with fail
  clear z0 z1
  have gd := redCalm_good w1 12 21 30 (redPlane Y 32) (redPlane U 16) (redPlane V 16)
  have ne : Nonempty (redCalm w1 12 21 30 (redPlane Y 32) (redPlane U 16) (redPlane V 16)).Sub := ⟨⟨w1, 0, Nat.zero_le _, Keep.refl _ _⟩⟩
  have x0 := fun x => (b0.keep (redCalm_at (e1 := 12) (e2 := 21) (e3 := 30) (p1 := redPlane Y 32) (p2 := redPlane U 16) (p3 := redPlane V 16) x) (fun e => e)).cell 0
  have x1 := fun x => (b0.keep (redCalm_at (e1 := 12) (e2 := 21) (e3 := 30) (p1 := redPlane Y 32) (p2 := redPlane U 16) (p3 := redPlane V 16) x) (fun e => e)).cell 1
  have x2 := fun x => (b0.keep (redCalm_at (e1 := 12) (e2 := 21) (e3 := 30) (p1 := redPlane Y 32) (p2 := redPlane U 16) (p3 := redPlane V 16) x) (fun e => e)).cell 2
  have x3 := fun x => (b0.keep (redCalm_at (e1 := 12) (e2 := 21) (e3 := 30) (p1 := redPlane Y 32) (p2 := redPlane U 16) (p3 := redPlane V 16) x) (fun e => e)).cell 3
  have x4 := fun x => (b0.keep (redCalm_at (e1 := 12) (e2 := 21) (e3 := 30) (p1 := redPlane Y 32) (p2 := redPlane U 16) (p3 := redPlane V 16) x) (fun e => e)).cell 4
  simp only [List.getElem?_toArray, List.getElem?_cons_zero, List.getElem?_cons_succ] at x0 x1 x2 x3 x4
  refine wp_region_calm (redCalm w1 12 21 30 (redPlane Y 32) (redPlane U 16) (redPlane V 16)) [0, 1, 2, 3, 4, 5, 6, 7, 8, 9, 10, 11, 12, 13, 14, 15, 16, 17, 18, 19, 20, 21, 22, 23, 24, 25, 26, 27, 28, 29, 30, 31] [32, 33] 52 (by kernel_rfl) (by kernel_rfl) rfl gd (Keep.refl _ _).drew ?_
  simp only [pairs, List.filterMap_cons, List.filterMap_nil, List.getElem?_toArray, List.getElem?_cons_succ, List.getElem?_cons_zero, Option.map_some]
  repeat (refine Calm.walk_quiet ne rfl rfl rfl (fun K hK => ?_); go_big_quiet_op; refine hK _ ?_; clear hK K)
  refine Calm.walk_eff rfl rfl (fun n w2 _ hG _ => ?_) ?_
  · unfold gives
    go_simp
    refine (reduced_32 A1 1024 c1 16 Y w2 (r1.keep (kw.trans hG)) u1 (by omega) (by omega) (by omega)).mono ?_
    rintro e w3 ⟨v, rfl, hv, hk⟩
    exact ⟨_, rfl, hv.sub (fun k e => Nat.lt_of_lt_of_le e (Keep.size (S := none_) hG)), hk, Keep.trans (S := none_) hG hk, fun _ h => h.elim⟩
  rintro v w2 ⟨B1, m1, d1, rfl, -, -⟩
  clear w2
  go_frame
  repeat (refine Calm.walk_quiet ne rfl rfl rfl (fun K hK => ?_); go_big_quiet_op; refine hK _ ?_; clear hK K)
  refine Calm.walk_eff rfl rfl (fun n w2 _ hG _ => ?_) ?_
  · unfold gives
    go_simp
    refine (reduced_16 A2 256 c2 8 U w2 (r2.keep (kw.trans hG)) u2 (by omega) (by omega) (by omega)).mono ?_
    rintro e w3 ⟨v, rfl, hv, hk⟩
    exact ⟨_, rfl, hv.sub (fun k e => Nat.lt_of_lt_of_le e (Keep.size (S := none_) hG)), hk, Keep.trans (S := none_) hG hk, fun _ h => h.elim⟩
  rintro v w2 ⟨B2, m2, d2, rfl, -, -⟩
  clear w2
  go_frame
  repeat (refine Calm.walk_quiet ne rfl rfl rfl (fun K hK => ?_); go_big_quiet_op; refine hK _ ?_; clear hK K)
  refine Calm.walk_eff rfl rfl (fun n w2 _ hG _ => ?_) ?_
  · unfold gives
    go_simp
    refine (reduced_16 A3 256 c3 8 V w2 (r3.keep (kw.trans hG)) u3 (by omega) (by omega) (by omega)).mono ?_
    rintro e w3 ⟨v, rfl, hv, hk⟩
    exact ⟨_, rfl, hv.sub (fun k e => Nat.lt_of_lt_of_le e (Keep.size (S := none_) hG)), hk, Keep.trans (S := none_) hG hk, fun _ h => h.elim⟩
  rintro v w2 ⟨B3, m3, d3, rfl, -, -⟩
  clear w2
  go_frame
  repeat (refine Calm.walk_quiet ne rfl rfl rfl (fun K hK => ?_); go_big_quiet_op; refine hK _ ?_; clear hK K)
  intro w2 hG hD
  have hk2 : Keep none_ w1 w2 := hG
  have f1 : BytesOf w2 (lt_ w1.heap.size) (.slice B1 m1 d1) (redPlane Y 32) := (hD.1 12 rfl _ rfl ⟨rfl, rfl⟩).1
  have f2 : BytesOf w2 (lt_ w1.heap.size) (.slice B2 m2 d2) (redPlane U 16) := (hD.1 21 rfl _ rfl ⟨rfl, rfl⟩).1
  have f3 : BytesOf w2 (lt_ w1.heap.size) (.slice B3 m3 d3) (redPlane V 16) := (hD.1 30 rfl _ rfl ⟨rfl, rfl⟩).1
  clear hD hG x0 x1 x2 x3 x4 ne gd
  simp only [pickOps, List.filterMap_cons, List.filterMap_nil, List.getElem?_toArray, List.getElem?_cons_succ, List.getElem?_cons_zero]
  refine wpList_store_blk rfl 24 (.tmp 2) (.tmp 51) rfl (w.heap.size + 1) 24 _ _ rfl rfl (b1.keep hk2 (fun e => e)) rfl (by kernel_rfl) (by simp [Value.oneCell']) ?_
  intro w3 b3 k3 s3
  go_frame
  go_wp2
  have hb1 := b1.lt
  have ky : Keep (lt_ w1.heap.size) w2 w3 := k3.mono fun k e => by cases e; exact hb1
  exact bodyPost_ret (results_cell_tmp' Try.results8 rfl (run_loadVar_blk b3 Try.underlying24 rfl (by kernel_rfl))) rfl ⟨_, rfl, ⟨_, _, _, rfl, (f1.keep ky).free, (f2.keep ky).free, (f3.keep ky).free⟩, (kw.trans hk2).own k3 (by omega)⟩
set_option maxRecDepth 100000 in
set_option maxHeartbeats 2000000 in
theorem refR_32_64 (A1 A2 A3 : Option Addr) (c1 c2 c3 : Nat) (Y U V : List Int) (w : World)
    (r1 : Row w none_ 1 A1 2048 c1 (Y.map (Value.int .u8))) (r2 : Row w none_ 1 A2 512 c2 (U.map (Value.int .u8))) (r3 : Row w none_ 1 A3 512 c3 (V.map (Value.int .u8))) (u1 : U8s Y) (u2 : U8s U) (u3 : U8s V) :
    Calls Try.prog 8 #[.agg #[.int .i64 32, .int .i64 64, .slice A1 2048 c1, .slice A2 512 c2, .slice A3 512 c3]] w fun e w' => ∃ v, e = .returned (.tuple #[v, .int .i64 0]) ∧ FrameOf w' none_ v ⟨16, 32, redPlane Y 32, redPlane U 16, redPlane V 16⟩ ∧ Keep none_ w w' := by
  go_enter Try.func8, Try.ntmps8
  go_wp2_with fail
  refine (valid20_any 32 64 A1 A2 A3 2048 c1 512 c2 512 c3 _).mono ?_
  rintro e w1 ⟨rfl, hk⟩
  rw [show validF 32 64 2048 512 512 = true from by decide]
  obtain ⟨b0, b1, kw⟩ := two hk
  have z0 := b0.cell 0
  have z1 := b0.cell 1
  simp only [List.getElem?_toArray, List.getElem?_cons_zero, List.getElem?_cons_succ] at z0 z1
  clear hk
  go_wp2_with fail
  clear z0 z1
  have gd := redCalm_good w1 12 21 30 (redPlane Y 32) (redPlane U 16) (redPlane V 16)
  have ne : Nonempty (redCalm w1 12 21 30 (redPlane Y 32) (redPlane U 16) (redPlane V 16)).Sub := ⟨⟨w1, 0, Nat.zero_le _, Keep.refl _ _⟩⟩
  have x0 := fun x => (b0.keep (redCalm_at (e1 := 12) (e2 := 21) (e3 := 30) (p1 := redPlane Y 32) (p2 := redPlane U 16) (p3 := redPlane V 16) x) (fun e => e)).cell 0
  have x1 := fun x => (b0.keep (redCalm_at (e1 := 12) (e2 := 21) (e3 := 30) (p1 := redPlane Y 32) (p2 := redPlane U 16) (p3 := redPlane V 16) x) (fun e => e)).cell 1
  have x2 := fun x => (b0.keep (redCalm_at (e1 := 12) (e2 := 21) (e3 := 30) (p1 := redPlane Y 32) (p2 := redPlane U 16) (p3 := redPlane V 16) x) (fun e => e)).cell 2
  have x3 := fun x => (b0.keep (redCalm_at (e1 := 12) (e2 := 21) (e3 := 30) (p1 := redPlane Y 32) (p2 := redPlane U 16) (p3 := redPlane V 16) x) (fun e => e)).cell 3
  have x4 := fun x => (b0.keep (redCalm_at (e1 := 12) (e2 := 21) (e3 := 30) (p1 := redPlane Y 32) (p2 := redPlane U 16) (p3 := redPlane V 16) x) (fun e => e)).cell 4
  simp only [List.getElem?_toArray, List.getElem?_cons_zero, List.getElem?_cons_succ] at x0 x1 x2 x3 x4
  refine wp_region_calm (redCalm w1 12 21 30 (redPlane Y 32) (redPlane U 16) (redPlane V 16)) [0, 1, 2, 3, 4, 5, 6, 7, 8, 9, 10, 11, 12, 13, 14, 15, 16, 17, 18, 19, 20, 21, 22, 23, 24, 25, 26, 27, 28, 29, 30, 31] [32, 33] 52 (by kernel_rfl) (by kernel_rfl) rfl gd (Keep.refl _ _).drew ?_
  simp only [pairs, List.filterMap_cons, List.filterMap_nil, List.getElem?_toArray, List.getElem?_cons_succ, List.getElem?_cons_zero, Option.map_some]
  repeat (refine Calm.walk_quiet ne rfl rfl rfl (fun K hK => ?_); go_big_quiet_op; refine hK _ ?_; clear hK K)
  refine Calm.walk_eff rfl rfl (fun n w2 _ hG _ => ?_) ?_
  · unfold gives
    go_simp
    refine (reduced_32 A1 2048 c1 32 Y w2 (r1.keep (kw.trans hG)) u1 (by omega) (by omega) (by omega)).mono ?_
    rintro e w3 ⟨v, rfl, hv, hk⟩
    exact ⟨_, rfl, hv.sub (fun k e => Nat.lt_of_lt_of_le e (Keep.size (S := none_) hG)), hk, Keep.trans (S := none_) hG hk, fun _ h => h.elim⟩
  rintro v w2 ⟨B1, m1, d1, rfl, -, -⟩
  clear w2
  go_frame
  repeat (refine Calm.walk_quiet ne rfl rfl rfl (fun K hK => ?_); go_big_quiet_op; refine hK _ ?_; clear hK K)
  refine Calm.walk_eff rfl rfl (fun n w2 _ hG _ => ?_) ?_
  · unfold gives
    go_simp
    refine (reduced_16 A2 512 c2 16 U w2 (r2.keep (kw.trans hG)) u2 (by omega) (by omega) (by omega)).mono ?_
    rintro e w3 ⟨v, rfl, hv, hk⟩
    exact ⟨_, rfl, hv.sub (fun k e => Nat.lt_of_lt_of_le e (Keep.size (S := none_) hG)), hk, Keep.trans (S := none_) hG hk, fun _ h => h.elim⟩
  rintro v w2 ⟨B2, m2, d2, rfl, -, -⟩
  clear w2
  go_frame
  repeat (refine Calm.walk_quiet ne rfl rfl rfl (fun K hK => ?_); go_big_quiet_op; refine hK _ ?_; clear hK K)
  refine Calm.walk_eff rfl rfl (fun n w2 _ hG _ => ?_) ?_
  · unfold gives
    go_simp
    refine (reduced_16 A3 512 c3 16 V w2 (r3.keep (kw.trans hG)) u3 (by omega) (by omega) (by omega)).mono ?_
    rintro e w3 ⟨v, rfl, hv, hk⟩
    exact ⟨_, rfl, hv.sub (fun k e => Nat.lt_of_lt_of_le e (Keep.size (S := none_) hG)), hk, Keep.trans (S := none_) hG hk, fun _ h => h.elim⟩
  rintro v w2 ⟨B3, m3, d3, rfl, -, -⟩
  clear w2
  go_frame
  repeat (refine Calm.walk_quiet ne rfl rfl rfl (fun K hK => ?_); go_big_quiet_op; refine hK _ ?_; clear hK K)
  intro w2 hG hD
  have hk2 : Keep none_ w1 w2 := hG
  have f1 : BytesOf w2 (lt_ w1.heap.size) (.slice B1 m1 d1) (redPlane Y 32) := (hD.1 12 rfl _ rfl ⟨rfl, rfl⟩).1
  have f2 : BytesOf w2 (lt_ w1.heap.size) (.slice B2 m2 d2) (redPlane U 16) := (hD.1 21 rfl _ rfl ⟨rfl, rfl⟩).1
  have f3 : BytesOf w2 (lt_ w1.heap.size) (.slice B3 m3 d3) (redPlane V 16) := (hD.1 30 rfl _ rfl ⟨rfl, rfl⟩).1
  clear hD hG x0 x1 x2 x3 x4 ne gd
  simp only [pickOps, List.filterMap_cons, List.filterMap_nil, List.getElem?_toArray, List.getElem?_cons_succ, List.getElem?_cons_zero]
  refine wpList_store_blk rfl 24 (.tmp 2) (.tmp 51) rfl (w.heap.size + 1) 24 _ _ rfl rfl (b1.keep hk2 (fun e => e)) rfl (by kernel_rfl) (by simp [Value.oneCell']) ?_
  intro w3 b3 k3 s3
  go_frame
  go_wp2
  have hb1 := b1.lt
  have ky : Keep (lt_ w1.heap.size) w2 w3 := k3.mono fun k e => by cases e; exact hb1
  exact bodyPost_ret (results_cell_tmp' Try.results8 rfl (run_loadVar_blk b3 Try.underlying24 rfl (by kernel_rfl))) rfl ⟨_, rfl, ⟨_, _, _, rfl, (f1.keep ky).free, (f2.keep ky).free, (f3.keep ky).free⟩, (kw.trans hk2).own k3 (by omega)⟩
set_option maxRecDepth 100000 in
set_option maxHeartbeats 2000000 in
theorem refR_64_32 (A1 A2 A3 : Option Addr) (c1 c2 c3 : Nat) (Y U V : List Int) (w : World)
    (r1 : Row w none_ 1 A1 2048 c1 (Y.map (Value.int .u8))) (r2 : Row w none_ 1 A2 512 c2 (U.map (Value.int .u8))) (r3 : Row w none_ 1 A3 512 c3 (V.map (Value.int .u8))) (u1 : U8s Y) (u2 : U8s U) (u3 : U8s V) :
    Calls Try.prog 8 #[.agg #[.int .i64 64, .int .i64 32, .slice A1 2048 c1, .slice A2 512 c2, .slice A3 512 c3]] w fun e w' => ∃ v, e = .returned (.tuple #[v, .int .i64 0]) ∧ FrameOf w' none_ v ⟨32, 16, redPlane Y 64, redPlane U 32, redPlane V 32⟩ ∧ Keep none_ w w' := by
  go_enter Try.func8, Try.ntmps8
  go_wp2_with fail
  refine (valid20_any 64 32 A1 A2 A3 2048 c1 512 c2 512 c3 _).mono ?_
  rintro e w1 ⟨rfl, hk⟩
  rw [show validF 64 32 2048 512 512 = true from by decide]
  obtain ⟨b0, b1, kw⟩ := two hk
  have z0 := b0.cell 0
  have z1 := b0.cell 1
  simp only [List.getElem?_toArray, List.getElem?_cons_zero, List.getElem?_cons_succ] at z0 z1
  clear hk
  go_wp2_with fail
  clear z0 z1
  have gd := redCalm_good w1 12 21 30 (redPlane Y 64) (redPlane U 32) (redPlane V 32)
  have ne : Nonempty (redCalm w1 12 21 30 (redPlane Y 64) (redPlane U 32) (redPlane V 32)).Sub := ⟨⟨w1, 0, Nat.zero_le _, Keep.refl _ _⟩⟩
  have x0 := fun x => (b0.keep (redCalm_at (e1 := 12) (e2 := 21) (e3 := 30) (p1 := redPlane Y 64) (p2 := redPlane U 32) (p3 := redPlane V 32) x) (fun e => e)).cell 0
  have x1 := fun x => (b0.keep (redCalm_at (e1 := 12) (e2 := 21) (e3 := 30) (p1 := redPlane Y 64) (p2 := redPlane U 32) (p3 := redPlane V 32) x) (fun e => e)).cell 1
  have x2 := fun x => (b0.keep (redCalm_at (e1 := 12) (e2 := 21) (e3 := 30) (p1 := redPlane Y 64) (p2 := redPlane U 32) (p3 := redPlane V 32) x) (fun e => e)).cell 2
  have x3 := fun x => (b0.keep (redCalm_at (e1 := 12) (e2 := 21) (e3 := 30) (p1 := redPlane Y 64) (p2 := redPlane U 32) (p3 := redPlane V 32) x) (fun e => e)).cell 3
  have x4 := fun x => (b0.keep (redCalm_at (e1 := 12) (e2 := 21) (e3 := 30) (p1 := redPlane Y 64) (p2 := redPlane U 32) (p3 := redPlane V 32) x) (fun e => e)).cell 4
  simp only [List.getElem?_toArray, List.getElem?_cons_zero, List.getElem?_cons_succ] at x0 x1 x2 x3 x4
  refine wp_region_calm (redCalm w1 12 21 30 (redPlane Y 64) (redPlane U 32) (redPlane V 32)) [0, 1, 2, 3, 4, 5, 6, 7, 8, 9, 10, 11, 12, 13, 14, 15, 16, 17, 18, 19, 20, 21, 22, 23, 24, 25, 26, 27, 28, 29, 30, 31] [32, 33] 52 (by kernel_rfl) (by kernel_rfl) rfl gd (Keep.refl _ _).drew ?_
  simp only [pairs, List.filterMap_cons, List.filterMap_nil, List.getElem?_toArray, List.getElem?_cons_succ, List.getElem?_cons_zero, Option.map_some]
  repeat (refine Calm.walk_quiet ne rfl rfl rfl (fun K hK => ?_); go_big_quiet_op; refine hK _ ?_; clear hK K)
  refine Calm.walk_eff rfl rfl (fun n w2 _ hG _ => ?_) ?_
  · unfold gives
    go_simp
    refine (reduced_64 A1 2048 c1 16 Y w2 (r1.keep (kw.trans hG)) u1 (by omega) (by omega) (by omega)).mono ?_
    rintro e w3 ⟨v, rfl, hv, hk⟩
    exact ⟨_, rfl, hv.sub (fun k e => Nat.lt_of_lt_of_le e (Keep.size (S := none_) hG)), hk, Keep.trans (S := none_) hG hk, fun _ h => h.elim⟩
  rintro v w2 ⟨B1, m1, d1, rfl, -, -⟩
  clear w2
  go_frame
  repeat (refine Calm.walk_quiet ne rfl rfl rfl (fun K hK => ?_); go_big_quiet_op; refine hK _ ?_; clear hK K)
  refine Calm.walk_eff rfl rfl (fun n w2 _ hG _ => ?_) ?_
  · unfold gives
    go_simp
    refine (reduced_32 A2 512 c2 8 U w2 (r2.keep (kw.trans hG)) u2 (by omega) (by omega) (by omega)).mono ?_
    rintro e w3 ⟨v, rfl, hv, hk⟩
    exact ⟨_, rfl, hv.sub (fun k e => Nat.lt_of_lt_of_le e (Keep.size (S := none_) hG)), hk, Keep.trans (S := none_) hG hk, fun _ h => h.elim⟩
  rintro v w2 ⟨B2, m2, d2, rfl, -, -⟩
  clear w2
  go_frame
  repeat (refine Calm.walk_quiet ne rfl rfl rfl (fun K hK => ?_); go_big_quiet_op; refine hK _ ?_; clear hK K)
  refine Calm.walk_eff rfl rfl (fun n w2 _ hG _ => ?_) ?_
  · unfold gives
    go_simp
    refine (reduced_32 A3 512 c3 8 V w2 (r3.keep (kw.trans hG)) u3 (by omega) (by omega) (by omega)).mono ?_
    rintro e w3 ⟨v, rfl, hv, hk⟩
    exact ⟨_, rfl, hv.sub (fun k e => Nat.lt_of_lt_of_le e (Keep.size (S := none_) hG)), hk, Keep.trans (S := none_) hG hk, fun _ h => h.elim⟩
  rintro v w2 ⟨B3, m3, d3, rfl, -, -⟩
  clear w2
  go_frame
  repeat (refine Calm.walk_quiet ne rfl rfl rfl (fun K hK => ?_); go_big_quiet_op; refine hK _ ?_; clear hK K)
  intro w2 hG hD
  have hk2 : Keep none_ w1 w2 := hG
  have f1 : BytesOf w2 (lt_ w1.heap.size) (.slice B1 m1 d1) (redPlane Y 64) := (hD.1 12 rfl _ rfl ⟨rfl, rfl⟩).1
  have f2 : BytesOf w2 (lt_ w1.heap.size) (.slice B2 m2 d2) (redPlane U 32) := (hD.1 21 rfl _ rfl ⟨rfl, rfl⟩).1
  have f3 : BytesOf w2 (lt_ w1.heap.size) (.slice B3 m3 d3) (redPlane V 32) := (hD.1 30 rfl _ rfl ⟨rfl, rfl⟩).1
  clear hD hG x0 x1 x2 x3 x4 ne gd
  simp only [pickOps, List.filterMap_cons, List.filterMap_nil, List.getElem?_toArray, List.getElem?_cons_succ, List.getElem?_cons_zero]
  refine wpList_store_blk rfl 24 (.tmp 2) (.tmp 51) rfl (w.heap.size + 1) 24 _ _ rfl rfl (b1.keep hk2 (fun e => e)) rfl (by kernel_rfl) (by simp [Value.oneCell']) ?_
  intro w3 b3 k3 s3
  go_frame
  go_wp2
  have hb1 := b1.lt
  have ky : Keep (lt_ w1.heap.size) w2 w3 := k3.mono fun k e => by cases e; exact hb1
  exact bodyPost_ret (results_cell_tmp' Try.results8 rfl (run_loadVar_blk b3 Try.underlying24 rfl (by kernel_rfl))) rfl ⟨_, rfl, ⟨_, _, _, rfl, (f1.keep ky).free, (f2.keep ky).free, (f3.keep ky).free⟩, (kw.trans hk2).own k3 (by omega)⟩
set_option maxRecDepth 100000 in
set_option maxHeartbeats 2000000 in
theorem refR_64_64 (A1 A2 A3 : Option Addr) (c1 c2 c3 : Nat) (Y U V : List Int) (w : World)
    (r1 : Row w none_ 1 A1 4096 c1 (Y.map (Value.int .u8))) (r2 : Row w none_ 1 A2 1024 c2 (U.map (Value.int .u8))) (r3 : Row w none_ 1 A3 1024 c3 (V.map (Value.int .u8))) (u1 : U8s Y) (u2 : U8s U) (u3 : U8s V) :
    Calls Try.prog 8 #[.agg #[.int .i64 64, .int .i64 64, .slice A1 4096 c1, .slice A2 1024 c2, .slice A3 1024 c3]] w fun e w' => ∃ v, e = .returned (.tuple #[v, .int .i64 0]) ∧ FrameOf w' none_ v ⟨32, 32, redPlane Y 64, redPlane U 32, redPlane V 32⟩ ∧ Keep none_ w w' := by
  go_enter Try.func8, Try.ntmps8
  go_wp2_with fail
  refine (valid20_any 64 64 A1 A2 A3 4096 c1 1024 c2 1024 c3 _).mono ?_
  rintro e w1 ⟨rfl, hk⟩
  rw [show validF 64 64 4096 1024 1024 = true from by decide]
  obtain ⟨b0, b1, kw⟩ := two hk
  have z0 := b0.cell 0
  have z1 := b0.cell 1
  simp only [List.getElem?_toArray, List.getElem?_cons_zero, List.getElem?_cons_succ] at z0 z1
  clear hk
  go_wp2_with fail
  clear z0 z1
  have gd := redCalm_good w1 12 21 30 (redPlane Y 64) (redPlane U 32) (redPlane V 32)
  have ne : Nonempty (redCalm w1 12 21 30 (redPlane Y 64) (redPlane U 32) (redPlane V 32)).Sub := ⟨⟨w1, 0, Nat.zero_le _, Keep.refl _ _⟩⟩
  have x0 := fun x => (b0.keep (redCalm_at (e1 := 12) (e2 := 21) (e3 := 30) (p1 := redPlane Y 64) (p2 := redPlane U 32) (p3 := redPlane V 32) x) (fun e => e)).cell 0
  have x1 := fun x => (b0.keep (redCalm_at (e1 := 12) (e2 := 21) (e3 := 30) (p1 := redPlane Y 64) (p2 := redPlane U 32) (p3 := redPlane V 32) x) (fun e => e)).cell 1
  have x2 := fun x => (b0.keep (redCalm_at (e1 := 12) (e2 := 21) (e3 := 30) (p1 := redPlane Y 64) (p2 := redPlane U 32) (p3 := redPlane V 32) x) (fun e => e)).cell 2
  have x3 := fun x => (b0.keep (redCalm_at (e1 := 12) (e2 := 21) (e3 := 30) (p1 := redPlane Y 64) (p2 := redPlane U 32) (p3 := redPlane V 32) x) (fun e => e)).cell 3
  have x4 := fun x => (b0.keep (redCalm_at (e1 := 12) (e2 := 21) (e3 := 30) (p1 := redPlane Y 64) (p2 := redPlane U 32) (p3 := redPlane V 32) x) (fun e => e)).cell 4
  simp only [List.getElem?_toArray, List.getElem?_cons_zero, List.getElem?_cons_succ] at x0 x1 x2 x3 x4
  refine wp_region_calm (redCalm w1 12 21 30 (redPlane Y 64) (redPlane U 32) (redPlane V 32)) [0, 1, 2, 3, 4, 5, 6, 7, 8, 9, 10, 11, 12, 13, 14, 15, 16, 17, 18, 19, 20, 21, 22, 23, 24, 25, 26, 27, 28, 29, 30, 31] [32, 33] 52 (by kernel_rfl) (by kernel_rfl) rfl gd (Keep.refl _ _).drew ?_
  simp only [pairs, List.filterMap_cons, List.filterMap_nil, List.getElem?_toArray, List.getElem?_cons_succ, List.getElem?_cons_zero, Option.map_some]
  repeat (refine Calm.walk_quiet ne rfl rfl rfl (fun K hK => ?_); go_big_quiet_op; refine hK _ ?_; clear hK K)
  refine Calm.walk_eff rfl rfl (fun n w2 _ hG _ => ?_) ?_
  · unfold gives
    go_simp
    refine (reduced_64 A1 4096 c1 32 Y w2 (r1.keep (kw.trans hG)) u1 (by omega) (by omega) (by omega)).mono ?_
    rintro e w3 ⟨v, rfl, hv, hk⟩
    exact ⟨_, rfl, hv.sub (fun k e => Nat.lt_of_lt_of_le e (Keep.size (S := none_) hG)), hk, Keep.trans (S := none_) hG hk, fun _ h => h.elim⟩
  rintro v w2 ⟨B1, m1, d1, rfl, -, -⟩
  clear w2
  go_frame
  repeat (refine Calm.walk_quiet ne rfl rfl rfl (fun K hK => ?_); go_big_quiet_op; refine hK _ ?_; clear hK K)
  refine Calm.walk_eff rfl rfl (fun n w2 _ hG _ => ?_) ?_
  · unfold gives
    go_simp
    refine (reduced_32 A2 1024 c2 16 U w2 (r2.keep (kw.trans hG)) u2 (by omega) (by omega) (by omega)).mono ?_
    rintro e w3 ⟨v, rfl, hv, hk⟩
    exact ⟨_, rfl, hv.sub (fun k e => Nat.lt_of_lt_of_le e (Keep.size (S := none_) hG)), hk, Keep.trans (S := none_) hG hk, fun _ h => h.elim⟩
  rintro v w2 ⟨B2, m2, d2, rfl, -, -⟩
  clear w2
  go_frame
  repeat (refine Calm.walk_quiet ne rfl rfl rfl (fun K hK => ?_); go_big_quiet_op; refine hK _ ?_; clear hK K)
  refine Calm.walk_eff rfl rfl (fun n w2 _ hG _ => ?_) ?_
  · unfold gives
    go_simp
    refine (reduced_32 A3 1024 c3 16 V w2 (r3.keep (kw.trans hG)) u3 (by omega) (by omega) (by omega)).mono ?_
    rintro e w3 ⟨v, rfl, hv, hk⟩
    exact ⟨_, rfl, hv.sub (fun k e => Nat.lt_of_lt_of_le e (Keep.size (S := none_) hG)), hk, Keep.trans (S := none_) hG hk, fun _ h => h.elim⟩
  rintro v w2 ⟨B3, m3, d3, rfl, -, -⟩
  clear w2
  go_frame
  repeat (refine Calm.walk_quiet ne rfl rfl rfl (fun K hK => ?_); go_big_quiet_op; refine hK _ ?_; clear hK K)
  intro w2 hG hD
  have hk2 : Keep none_ w1 w2 := hG
  have f1 : BytesOf w2 (lt_ w1.heap.size) (.slice B1 m1 d1) (redPlane Y 64) := (hD.1 12 rfl _ rfl ⟨rfl, rfl⟩).1
  have f2 : BytesOf w2 (lt_ w1.heap.size) (.slice B2 m2 d2) (redPlane U 32) := (hD.1 21 rfl _ rfl ⟨rfl, rfl⟩).1
  have f3 : BytesOf w2 (lt_ w1.heap.size) (.slice B3 m3 d3) (redPlane V 32) := (hD.1 30 rfl _ rfl ⟨rfl, rfl⟩).1
  clear hD hG x0 x1 x2 x3 x4 ne gd
  simp only [pickOps, List.filterMap_cons, List.filterMap_nil, List.getElem?_toArray, List.getElem?_cons_succ, List.getElem?_cons_zero]
  refine wpList_store_blk rfl 24 (.tmp 2) (.tmp 51) rfl (w.heap.size + 1) 24 _ _ rfl rfl (b1.keep hk2 (fun e => e)) rfl (by kernel_rfl) (by simp [Value.oneCell']) ?_
  intro w3 b3 k3 s3
  go_frame
  go_wp2
  have hb1 := b1.lt
  have ky : Keep (lt_ w1.heap.size) w2 w3 := k3.mono fun k e => by cases e; exact hb1
  exact bodyPost_ret (results_cell_tmp' Try.results8 rfl (run_loadVar_blk b3 Try.underlying24 rfl (by kernel_rfl))) rfl ⟨_, rfl, ⟨_, _, _, rfl, (f1.keep ky).free, (f2.keep ky).free, (f3.keep ky).free⟩, (kw.trans hk2).own k3 (by omega)⟩
end Go.Proofs.Ytnpkhbcbbbpjhaa
