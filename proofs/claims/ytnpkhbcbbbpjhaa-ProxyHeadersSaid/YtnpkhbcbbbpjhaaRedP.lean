/-
  proxy.Reduce: it hands back the reduced frame, or an empty one with ErrArg.
-/
import Derived.Test.YtnpkhbcbbbpjhaaReduce
import Derived.Test.YtnpkhbcbbbpjhaaRedu2
namespace Go.Proofs.Ytnpkhbcbbbpjhaa
open Go.RowKit

/-- The deferred function finds no panic. -/
theorem idle_any (p q : Addr) (w : World) :
    CallsD Try.prog 18 #[.pointer (some p), .pointer (some q)] .returning w fun e u' w' => e = .returned (.tuple #[]) ∧ u' = .returning ∧ w = w' := by
  refine callsD_of_wpS Try.func18 rfl fun c₀ cs hu => ?_
  apply wpS_seq
  apply wpS_region
  simp [wpOpsS, go_sem, recoverD, hu, Try.ntmps18, Exit.thenS]
  refine wpS_cond (t := false) (by simp [Act.eval, Array.replicate]) ?_
  simp only [Bool.false_eq_true, if_false]
  refine wpS_of_wp (wp_skip ?_)
  cases c₀
  simp_all [bodyPostS, results, Try.results18]


set_option maxRecDepth 100000 in
set_option maxHeartbeats 1000000 in
theorem reduceP_no (W H : Int) (A1 A2 A3 : Option Addr) (n1 c1 n2 c2 n3 c3 : Nat) (w : World) (hno : redOk W H n1 n2 n3 = false) :
    Calls Try.prog 7 #[.agg #[.int .i64 W, .int .i64 H, .slice A1 n1 c1, .slice A2 n2 c2, .slice A3 n3 c3]] w fun e w' => e = .returned (.tuple #[.agg zeroFrame, .int .i64 1]) ∧ Keep none_ w w' := by
  have hmf : ∀ (fn : Fn) (first cap : Array Value) (w : World), (Instr.makeFunc fn first cap).run Try.prog w = .ok (.func fn first cap) w := fun _ _ _ _ => rfl
  have HNO := Lib.hid hno
  clear hno
  go_enter_defers Try.func7, Try.ntmps7
  go_wp2_with fail
  refine (reducible_any W H A1 A2 A3 n1 c1 n2 c2 n3 c3 _).mono ?_
  rintro e w1 ⟨rfl, hk⟩
  rw [HNO.out]
  obtain ⟨-, b1, b2, kw⟩ := three hk
  clear hk
  go_wp2_with (first | (refine wpList_store_blk rfl 24 (.tmp 2) (.tmp 9) rfl (w.heap.size + 1) 24 _ zeroFrame rfl rfl b1 rfl (by kernel_rfl) (by simp [Value.oneCell', zeroFrame]) ?_; intro w2 b3 k2 s2; have b4 := b2.keep k2 (fun e => by unfold one at e; omega); have c4 := b4.cell 0; have f4 := b4.frozen 0; simp only [List.getElem?_toArray, List.getElem?_cons_zero] at c4))
  have b5 : Blk (w2.setCell ⟨w.heap.size + 1 + 1, 0, none⟩ (.int .i64 1)) (w.heap.size + 1 + 1) 31 #[.int .i64 1] := b4.set_ 0 _
  have b6 := b3.far (p := ⟨w.heap.size + 1 + 1, 0, none⟩) (by simp) (.int .i64 1)
  have k6 : Keep none_ w (w2.setCell ⟨w.heap.size + 1 + 1, 0, none⟩ (.int .i64 1)) := (kw.own k2 (by omega)).setCell (.inr (by simp; omega)) _
  refine leaves_cons (f := 18) (args := #[.pointer (some ⟨w.heap.size + 1, 0, none⟩), .pointer (some ⟨w.heap.size + 1 + 1, 0, none⟩)]) (by simp) (by simp [go_sem]) ?_
  refine (idle_any ⟨w.heap.size + 1, 0, none⟩ ⟨w.heap.size + 1 + 1, 0, none⟩ _).mono ?_
  rintro e u' w'' ⟨rfl, rfl, rfl⟩
  exact ⟨_, results_cells Try.results7 rfl rfl (run_loadVar_blk b6 Try.underlying24 rfl (by kernel_rfl)) (run_loadVar_one (v := .int .i64 1) (by rw [b5.cell]; rfl) Try.underlying31 rfl), rfl, k6⟩

set_option maxRecDepth 100000 in
set_option maxHeartbeats 2000000 in
theorem reduceP_32_32 (A1 A2 A3 : Option Addr) (c1 c2 c3 : Nat) (Y U V : List Int) (w : World)
    (r1 : Row w none_ 1 A1 1024 c1 (Y.map (Value.int .u8))) (r2 : Row w none_ 1 A2 256 c2 (U.map (Value.int .u8))) (r3 : Row w none_ 1 A3 256 c3 (V.map (Value.int .u8))) (u1 : U8s Y) (u2 : U8s U) (u3 : U8s V) :
    Calls Try.prog 7 #[.agg #[.int .i64 32, .int .i64 32, .slice A1 1024 c1, .slice A2 256 c2, .slice A3 256 c3]] w fun e w' => ∃ v, e = .returned (.tuple #[v, .int .i64 0]) ∧ FrameOf w' none_ v ⟨16, 16, redPlane Y 32, redPlane U 16, redPlane V 16⟩ ∧ Keep none_ w w' := by
  have hmf : ∀ (fn : Fn) (first cap : Array Value) (w : World), (Instr.makeFunc fn first cap).run Try.prog w = .ok (.func fn first cap) w := fun _ _ _ _ => rfl
  go_enter_defers Try.func7, Try.ntmps7
  go_wp2_with fail
  refine (reducible_any 32 32 A1 A2 A3 1024 c1 256 c2 256 c3 _).mono ?_
  rintro e w1 ⟨rfl, hk⟩
  rw [show redOk 32 32 1024 256 256 = true from by decide]
  obtain ⟨b0, b1, b2, kw⟩ := three hk
  clear hk
  go_wp2_with fail
  have gd := redCalm_good w1 11 18 25 (redPlane Y 32) (redPlane U 16) (redPlane V 16)
  have ne : Nonempty (redCalm w1 11 18 25 (redPlane Y 32) (redPlane U 16) (redPlane V 16)).Sub := ⟨⟨w1, 0, Nat.zero_le _, Keep.refl _ _⟩⟩
  have x0 := fun x => (b0.keep (redCalm_at (e1 := 11) (e2 := 18) (e3 := 25) (p1 := redPlane Y 32) (p2 := redPlane U 16) (p3 := redPlane V 16) x) (fun e => e)).cell 0
  have x1 := fun x => (b0.keep (redCalm_at (e1 := 11) (e2 := 18) (e3 := 25) (p1 := redPlane Y 32) (p2 := redPlane U 16) (p3 := redPlane V 16) x) (fun e => e)).cell 1
  have x2 := fun x => (b0.keep (redCalm_at (e1 := 11) (e2 := 18) (e3 := 25) (p1 := redPlane Y 32) (p2 := redPlane U 16) (p3 := redPlane V 16) x) (fun e => e)).cell 2
  have x3 := fun x => (b0.keep (redCalm_at (e1 := 11) (e2 := 18) (e3 := 25) (p1 := redPlane Y 32) (p2 := redPlane U 16) (p3 := redPlane V 16) x) (fun e => e)).cell 3
  have x4 := fun x => (b0.keep (redCalm_at (e1 := 11) (e2 := 18) (e3 := 25) (p1 := redPlane Y 32) (p2 := redPlane U 16) (p3 := redPlane V 16) x) (fun e => e)).cell 4
  simp only [List.getElem?_toArray, List.getElem?_cons_zero, List.getElem?_cons_succ] at x0 x1 x2 x3 x4
  refine wp_region_calm (redCalm w1 11 18 25 (redPlane Y 32) (redPlane U 16) (redPlane V 16)) [0, 1, 2, 3, 4, 5, 6, 7, 8, 9, 10, 11, 12, 13, 14, 15, 16, 17, 18, 19, 20, 21, 22, 23, 24, 25, 26] [27, 28] 37 (by kernel_rfl) (by kernel_rfl) rfl gd (Keep.refl _ _).drew ?_
  simp only [pairs, List.filterMap_cons, List.filterMap_nil, List.getElem?_toArray, List.getElem?_cons_succ, List.getElem?_cons_zero, Option.map_some]
  repeat (refine Calm.walk_quiet ne rfl rfl rfl (fun K hK => ?_); go_big_quiet_op; refine hK _ ?_; clear hK K)
  refine Calm.walk_eff rfl rfl (fun n w2 _ hG _ => ?_) ?_
  · unfold gives
    go_simp
    refine (reduce2_32 A1 1024 c1 16 Y w2 (r1.keep (kw.trans hG)) u1 (by omega) (by omega) (by omega)).mono ?_
    rintro e w3 ⟨v, rfl, hv, hk⟩
    exact ⟨_, rfl, hv.sub (fun k e => Nat.lt_of_lt_of_le e (Keep.size (S := none_) hG)), hk, Keep.trans (S := none_) hG hk, fun _ h => h.elim⟩
  rintro v w2 ⟨B1, m1, d1, rfl, -, -⟩
  clear w2
  go_frame
  repeat (refine Calm.walk_quiet ne rfl rfl rfl (fun K hK => ?_); go_big_quiet_op; refine hK _ ?_; clear hK K)
  refine Calm.walk_eff rfl rfl (fun n w2 _ hG _ => ?_) ?_
  · unfold gives
    go_simp
    refine (reduce2_16 A2 256 c2 8 U w2 (r2.keep (kw.trans hG)) u2 (by omega) (by omega) (by omega)).mono ?_
    rintro e w3 ⟨v, rfl, hv, hk⟩
    exact ⟨_, rfl, hv.sub (fun k e => Nat.lt_of_lt_of_le e (Keep.size (S := none_) hG)), hk, Keep.trans (S := none_) hG hk, fun _ h => h.elim⟩
  rintro v w2 ⟨B2, m2, d2, rfl, -, -⟩
  clear w2
  go_frame
  repeat (refine Calm.walk_quiet ne rfl rfl rfl (fun K hK => ?_); go_big_quiet_op; refine hK _ ?_; clear hK K)
  refine Calm.walk_eff rfl rfl (fun n w2 _ hG _ => ?_) ?_
  · unfold gives
    go_simp
    refine (reduce2_16 A3 256 c3 8 V w2 (r3.keep (kw.trans hG)) u3 (by omega) (by omega) (by omega)).mono ?_
    rintro e w3 ⟨v, rfl, hv, hk⟩
    exact ⟨_, rfl, hv.sub (fun k e => Nat.lt_of_lt_of_le e (Keep.size (S := none_) hG)), hk, Keep.trans (S := none_) hG hk, fun _ h => h.elim⟩
  rintro v w2 ⟨B3, m3, d3, rfl, -, -⟩
  clear w2
  go_frame
  repeat (refine Calm.walk_quiet ne rfl rfl rfl (fun K hK => ?_); go_big_quiet_op; refine hK _ ?_; clear hK K)
  intro w2 hG hD
  have hk2 : Keep none_ w1 w2 := hG
  have f1 : BytesOf w2 (lt_ w1.heap.size) (.slice B1 m1 d1) (redPlane Y 32) := (hD.1 11 rfl _ rfl ⟨rfl, rfl⟩).1
  have f2 : BytesOf w2 (lt_ w1.heap.size) (.slice B2 m2 d2) (redPlane U 16) := (hD.1 18 rfl _ rfl ⟨rfl, rfl⟩).1
  have f3 : BytesOf w2 (lt_ w1.heap.size) (.slice B3 m3 d3) (redPlane V 16) := (hD.1 25 rfl _ rfl ⟨rfl, rfl⟩).1
  clear hD hG x0 x1 x2 x3 x4 ne gd
  simp only [pickOps, List.filterMap_cons, List.filterMap_nil, List.getElem?_toArray, List.getElem?_cons_succ, List.getElem?_cons_zero]
  refine wpList_store_blk rfl 24 (.tmp 2) (.tmp 36) rfl (w.heap.size + 1) 24 _ _ rfl rfl (b1.keep hk2 (fun e => e)) rfl (by kernel_rfl) (by simp [Value.oneCell']) ?_
  intro w3 b3 k3 s3
  have b4 := (b2.keep hk2 (fun e => e)).keep k3 (fun e => by unfold one at e; omega)
  have c4 := b4.cell 0
  have f4 := b4.frozen 0
  simp only [List.getElem?_toArray, List.getElem?_cons_zero] at c4
  go_frame
  go_wp2
  have b5 : Blk (w3.setCell ⟨w.heap.size + 1 + 1, 0, none⟩ (.int .i64 0)) (w.heap.size + 1 + 1) 31 #[.int .i64 0] := b4.set_ 0 _
  have b6 := b3.far (p := ⟨w.heap.size + 1 + 1, 0, none⟩) (by simp) (.int .i64 0)
  have hb2 := b2.lt
  have ky : Keep (lt_ w1.heap.size) w2 (w3.setCell ⟨w.heap.size + 1 + 1, 0, none⟩ (.int .i64 0)) := (k3.mono fun k e => by cases e; show _ < _; omega).setCell (.inl (by show _ < _; simpa using hb2)) _
  have kz : Keep (ge (w.heap.size + 1)) w2 (w3.setCell ⟨w.heap.size + 1 + 1, 0, none⟩ (.int .i64 0)) := (k3.mono fun k e => by cases e; exact Nat.le_refl _).setCell (.inl (by simp [ge])) _
  have k6 : Keep none_ w (w3.setCell ⟨w.heap.size + 1 + 1, 0, none⟩ (.int .i64 0)) := (kw.trans hk2).then kz fun k e => .inr (by unfold ge at e; omega)
  refine leaves_cons (f := 18) (args := #[.pointer (some ⟨w.heap.size + 1, 0, none⟩), .pointer (some ⟨w.heap.size + 1 + 1, 0, none⟩)]) (by simp) (by simp [go_sem]) ?_
  refine (idle_any ⟨w.heap.size + 1, 0, none⟩ ⟨w.heap.size + 1 + 1, 0, none⟩ _).mono ?_
  rintro e u' w'' ⟨rfl, rfl, rfl⟩
  refine ⟨_, results_cells Try.results7 rfl rfl (run_loadVar_blk b6 Try.underlying24 rfl (by kernel_rfl)) (run_loadVar_one (v := .int .i64 0) (by rw [b5.cell]; rfl) Try.underlying31 rfl), _, rfl, ⟨_, _, _, rfl, (f1.keep ky).free, (f2.keep ky).free, (f3.keep ky).free⟩, k6⟩
set_option maxRecDepth 100000 in
set_option maxHeartbeats 2000000 in
theorem reduceP_32_64 (A1 A2 A3 : Option Addr) (c1 c2 c3 : Nat) (Y U V : List Int) (w : World)
    (r1 : Row w none_ 1 A1 2048 c1 (Y.map (Value.int .u8))) (r2 : Row w none_ 1 A2 512 c2 (U.map (Value.int .u8))) (r3 : Row w none_ 1 A3 512 c3 (V.map (Value.int .u8))) (u1 : U8s Y) (u2 : U8s U) (u3 : U8s V) :
    Calls Try.prog 7 #[.agg #[.int .i64 32, .int .i64 64, .slice A1 2048 c1, .slice A2 512 c2, .slice A3 512 c3]] w fun e w' => ∃ v, e = .returned (.tuple #[v, .int .i64 0]) ∧ FrameOf w' none_ v ⟨16, 32, redPlane Y 32, redPlane U 16, redPlane V 16⟩ ∧ Keep none_ w w' := by
  have hmf : ∀ (fn : Fn) (first cap : Array Value) (w : World), (Instr.makeFunc fn first cap).run Try.prog w = .ok (.func fn first cap) w := fun _ _ _ _ => rfl
  go_enter_defers Try.func7, Try.ntmps7
  go_wp2_with fail
  refine (reducible_any 32 64 A1 A2 A3 2048 c1 512 c2 512 c3 _).mono ?_
  rintro e w1 ⟨rfl, hk⟩
  rw [show redOk 32 64 2048 512 512 = true from by decide]
  obtain ⟨b0, b1, b2, kw⟩ := three hk
  clear hk
  go_wp2_with fail
  have gd := redCalm_good w1 11 18 25 (redPlane Y 32) (redPlane U 16) (redPlane V 16)
  have ne : Nonempty (redCalm w1 11 18 25 (redPlane Y 32) (redPlane U 16) (redPlane V 16)).Sub := ⟨⟨w1, 0, Nat.zero_le _, Keep.refl _ _⟩⟩
  have x0 := fun x => (b0.keep (redCalm_at (e1 := 11) (e2 := 18) (e3 := 25) (p1 := redPlane Y 32) (p2 := redPlane U 16) (p3 := redPlane V 16) x) (fun e => e)).cell 0
  have x1 := fun x => (b0.keep (redCalm_at (e1 := 11) (e2 := 18) (e3 := 25) (p1 := redPlane Y 32) (p2 := redPlane U 16) (p3 := redPlane V 16) x) (fun e => e)).cell 1
  have x2 := fun x => (b0.keep (redCalm_at (e1 := 11) (e2 := 18) (e3 := 25) (p1 := redPlane Y 32) (p2 := redPlane U 16) (p3 := redPlane V 16) x) (fun e => e)).cell 2
  have x3 := fun x => (b0.keep (redCalm_at (e1 := 11) (e2 := 18) (e3 := 25) (p1 := redPlane Y 32) (p2 := redPlane U 16) (p3 := redPlane V 16) x) (fun e => e)).cell 3
  have x4 := fun x => (b0.keep (redCalm_at (e1 := 11) (e2 := 18) (e3 := 25) (p1 := redPlane Y 32) (p2 := redPlane U 16) (p3 := redPlane V 16) x) (fun e => e)).cell 4
  simp only [List.getElem?_toArray, List.getElem?_cons_zero, List.getElem?_cons_succ] at x0 x1 x2 x3 x4
  refine wp_region_calm (redCalm w1 11 18 25 (redPlane Y 32) (redPlane U 16) (redPlane V 16)) [0, 1, 2, 3, 4, 5, 6, 7, 8, 9, 10, 11, 12, 13, 14, 15, 16, 17, 18, 19, 20, 21, 22, 23, 24, 25, 26] [27, 28] 37 (by kernel_rfl) (by kernel_rfl) rfl gd (Keep.refl _ _).drew ?_
  simp only [pairs, List.filterMap_cons, List.filterMap_nil, List.getElem?_toArray, List.getElem?_cons_succ, List.getElem?_cons_zero, Option.map_some]
  repeat (refine Calm.walk_quiet ne rfl rfl rfl (fun K hK => ?_); go_big_quiet_op; refine hK _ ?_; clear hK K)
  refine Calm.walk_eff rfl rfl (fun n w2 _ hG _ => ?_) ?_
  · unfold gives
    go_simp
    refine (reduce2_32 A1 2048 c1 32 Y w2 (r1.keep (kw.trans hG)) u1 (by omega) (by omega) (by omega)).mono ?_
    rintro e w3 ⟨v, rfl, hv, hk⟩
    exact ⟨_, rfl, hv.sub (fun k e => Nat.lt_of_lt_of_le e (Keep.size (S := none_) hG)), hk, Keep.trans (S := none_) hG hk, fun _ h => h.elim⟩
  rintro v w2 ⟨B1, m1, d1, rfl, -, -⟩
  clear w2
  go_frame
  repeat (refine Calm.walk_quiet ne rfl rfl rfl (fun K hK => ?_); go_big_quiet_op; refine hK _ ?_; clear hK K)
  refine Calm.walk_eff rfl rfl (fun n w2 _ hG _ => ?_) ?_
  · unfold gives
    go_simp
    refine (reduce2_16 A2 512 c2 16 U w2 (r2.keep (kw.trans hG)) u2 (by omega) (by omega) (by omega)).mono ?_
    rintro e w3 ⟨v, rfl, hv, hk⟩
    exact ⟨_, rfl, hv.sub (fun k e => Nat.lt_of_lt_of_le e (Keep.size (S := none_) hG)), hk, Keep.trans (S := none_) hG hk, fun _ h => h.elim⟩
  rintro v w2 ⟨B2, m2, d2, rfl, -, -⟩
  clear w2
  go_frame
  repeat (refine Calm.walk_quiet ne rfl rfl rfl (fun K hK => ?_); go_big_quiet_op; refine hK _ ?_; clear hK K)
  refine Calm.walk_eff rfl rfl (fun n w2 _ hG _ => ?_) ?_
  · unfold gives
    go_simp
    refine (reduce2_16 A3 512 c3 16 V w2 (r3.keep (kw.trans hG)) u3 (by omega) (by omega) (by omega)).mono ?_
    rintro e w3 ⟨v, rfl, hv, hk⟩
    exact ⟨_, rfl, hv.sub (fun k e => Nat.lt_of_lt_of_le e (Keep.size (S := none_) hG)), hk, Keep.trans (S := none_) hG hk, fun _ h => h.elim⟩
  rintro v w2 ⟨B3, m3, d3, rfl, -, -⟩
  clear w2
  go_frame
  repeat (refine Calm.walk_quiet ne rfl rfl rfl (fun K hK => ?_); go_big_quiet_op; refine hK _ ?_; clear hK K)
  intro w2 hG hD
  have hk2 : Keep none_ w1 w2 := hG
  have f1 : BytesOf w2 (lt_ w1.heap.size) (.slice B1 m1 d1) (redPlane Y 32) := (hD.1 11 rfl _ rfl ⟨rfl, rfl⟩).1
  have f2 : BytesOf w2 (lt_ w1.heap.size) (.slice B2 m2 d2) (redPlane U 16) := (hD.1 18 rfl _ rfl ⟨rfl, rfl⟩).1
  have f3 : BytesOf w2 (lt_ w1.heap.size) (.slice B3 m3 d3) (redPlane V 16) := (hD.1 25 rfl _ rfl ⟨rfl, rfl⟩).1
  clear hD hG x0 x1 x2 x3 x4 ne gd
  simp only [pickOps, List.filterMap_cons, List.filterMap_nil, List.getElem?_toArray, List.getElem?_cons_succ, List.getElem?_cons_zero]
  refine wpList_store_blk rfl 24 (.tmp 2) (.tmp 36) rfl (w.heap.size + 1) 24 _ _ rfl rfl (b1.keep hk2 (fun e => e)) rfl (by kernel_rfl) (by simp [Value.oneCell']) ?_
  intro w3 b3 k3 s3
  have b4 := (b2.keep hk2 (fun e => e)).keep k3 (fun e => by unfold one at e; omega)
  have c4 := b4.cell 0
  have f4 := b4.frozen 0
  simp only [List.getElem?_toArray, List.getElem?_cons_zero] at c4
  go_frame
  go_wp2
  have b5 : Blk (w3.setCell ⟨w.heap.size + 1 + 1, 0, none⟩ (.int .i64 0)) (w.heap.size + 1 + 1) 31 #[.int .i64 0] := b4.set_ 0 _
  have b6 := b3.far (p := ⟨w.heap.size + 1 + 1, 0, none⟩) (by simp) (.int .i64 0)
  have hb2 := b2.lt
  have ky : Keep (lt_ w1.heap.size) w2 (w3.setCell ⟨w.heap.size + 1 + 1, 0, none⟩ (.int .i64 0)) := (k3.mono fun k e => by cases e; show _ < _; omega).setCell (.inl (by show _ < _; simpa using hb2)) _
  have kz : Keep (ge (w.heap.size + 1)) w2 (w3.setCell ⟨w.heap.size + 1 + 1, 0, none⟩ (.int .i64 0)) := (k3.mono fun k e => by cases e; exact Nat.le_refl _).setCell (.inl (by simp [ge])) _
  have k6 : Keep none_ w (w3.setCell ⟨w.heap.size + 1 + 1, 0, none⟩ (.int .i64 0)) := (kw.trans hk2).then kz fun k e => .inr (by unfold ge at e; omega)
  refine leaves_cons (f := 18) (args := #[.pointer (some ⟨w.heap.size + 1, 0, none⟩), .pointer (some ⟨w.heap.size + 1 + 1, 0, none⟩)]) (by simp) (by simp [go_sem]) ?_
  refine (idle_any ⟨w.heap.size + 1, 0, none⟩ ⟨w.heap.size + 1 + 1, 0, none⟩ _).mono ?_
  rintro e u' w'' ⟨rfl, rfl, rfl⟩
  refine ⟨_, results_cells Try.results7 rfl rfl (run_loadVar_blk b6 Try.underlying24 rfl (by kernel_rfl)) (run_loadVar_one (v := .int .i64 0) (by rw [b5.cell]; rfl) Try.underlying31 rfl), _, rfl, ⟨_, _, _, rfl, (f1.keep ky).free, (f2.keep ky).free, (f3.keep ky).free⟩, k6⟩
set_option maxRecDepth 100000 in
set_option maxHeartbeats 2000000 in
theorem reduceP_64_32 (A1 A2 A3 : Option Addr) (c1 c2 c3 : Nat) (Y U V : List Int) (w : World)
    (r1 : Row w none_ 1 A1 2048 c1 (Y.map (Value.int .u8))) (r2 : Row w none_ 1 A2 512 c2 (U.map (Value.int .u8))) (r3 : Row w none_ 1 A3 512 c3 (V.map (Value.int .u8))) (u1 : U8s Y) (u2 : U8s U) (u3 : U8s V) :
    Calls Try.prog 7 #[.agg #[.int .i64 64, .int .i64 32, .slice A1 2048 c1, .slice A2 512 c2, .slice A3 512 c3]] w fun e w' => ∃ v, e = .returned (.tuple #[v, .int .i64 0]) ∧ FrameOf w' none_ v ⟨32, 16, redPlane Y 64, redPlane U 32, redPlane V 32⟩ ∧ Keep none_ w w' := by
  have hmf : ∀ (fn : Fn) (first cap : Array Value) (w : World), (Instr.makeFunc fn first cap).run Try.prog w = .ok (.func fn first cap) w := fun _ _ _ _ => rfl
  go_enter_defers Try.func7, Try.ntmps7
  go_wp2_with fail
  refine (reducible_any 64 32 A1 A2 A3 2048 c1 512 c2 512 c3 _).mono ?_
  rintro e w1 ⟨rfl, hk⟩
  rw [show redOk 64 32 2048 512 512 = true from by decide]
  obtain ⟨b0, b1, b2, kw⟩ := three hk
  clear hk
  go_wp2_with fail
  have gd := redCalm_good w1 11 18 25 (redPlane Y 64) (redPlane U 32) (redPlane V 32)
  have ne : Nonempty (redCalm w1 11 18 25 (redPlane Y 64) (redPlane U 32) (redPlane V 32)).Sub := ⟨⟨w1, 0, Nat.zero_le _, Keep.refl _ _⟩⟩
  have x0 := fun x => (b0.keep (redCalm_at (e1 := 11) (e2 := 18) (e3 := 25) (p1 := redPlane Y 64) (p2 := redPlane U 32) (p3 := redPlane V 32) x) (fun e => e)).cell 0
  have x1 := fun x => (b0.keep (redCalm_at (e1 := 11) (e2 := 18) (e3 := 25) (p1 := redPlane Y 64) (p2 := redPlane U 32) (p3 := redPlane V 32) x) (fun e => e)).cell 1
  have x2 := fun x => (b0.keep (redCalm_at (e1 := 11) (e2 := 18) (e3 := 25) (p1 := redPlane Y 64) (p2 := redPlane U 32) (p3 := redPlane V 32) x) (fun e => e)).cell 2
  have x3 := fun x => (b0.keep (redCalm_at (e1 := 11) (e2 := 18) (e3 := 25) (p1 := redPlane Y 64) (p2 := redPlane U 32) (p3 := redPlane V 32) x) (fun e => e)).cell 3
  have x4 := fun x => (b0.keep (redCalm_at (e1 := 11) (e2 := 18) (e3 := 25) (p1 := redPlane Y 64) (p2 := redPlane U 32) (p3 := redPlane V 32) x) (fun e => e)).cell 4
  simp only [List.getElem?_toArray, List.getElem?_cons_zero, List.getElem?_cons_succ] at x0 x1 x2 x3 x4
  refine wp_region_calm (redCalm w1 11 18 25 (redPlane Y 64) (redPlane U 32) (redPlane V 32)) [0, 1, 2, 3, 4, 5, 6, 7, 8, 9, 10, 11, 12, 13, 14, 15, 16, 17, 18, 19, 20, 21, 22, 23, 24, 25, 26] [27, 28] 37 (by kernel_rfl) (by kernel_rfl) rfl gd (Keep.refl _ _).drew ?_
  simp only [pairs, List.filterMap_cons, List.filterMap_nil, List.getElem?_toArray, List.getElem?_cons_succ, List.getElem?_cons_zero, Option.map_some]
  repeat (refine Calm.walk_quiet ne rfl rfl rfl (fun K hK => ?_); go_big_quiet_op; refine hK _ ?_; clear hK K)
  refine Calm.walk_eff rfl rfl (fun n w2 _ hG _ => ?_) ?_
  · unfold gives
    go_simp
    refine (reduce2_64 A1 2048 c1 16 Y w2 (r1.keep (kw.trans hG)) u1 (by omega) (by omega) (by omega)).mono ?_
    rintro e w3 ⟨v, rfl, hv, hk⟩
    exact ⟨_, rfl, hv.sub (fun k e => Nat.lt_of_lt_of_le e (Keep.size (S := none_) hG)), hk, Keep.trans (S := none_) hG hk, fun _ h => h.elim⟩
  rintro v w2 ⟨B1, m1, d1, rfl, -, -⟩
  clear w2
  go_frame
  repeat (refine Calm.walk_quiet ne rfl rfl rfl (fun K hK => ?_); go_big_quiet_op; refine hK _ ?_; clear hK K)
  refine Calm.walk_eff rfl rfl (fun n w2 _ hG _ => ?_) ?_
  · unfold gives
    go_simp
    refine (reduce2_32 A2 512 c2 8 U w2 (r2.keep (kw.trans hG)) u2 (by omega) (by omega) (by omega)).mono ?_
    rintro e w3 ⟨v, rfl, hv, hk⟩
    exact ⟨_, rfl, hv.sub (fun k e => Nat.lt_of_lt_of_le e (Keep.size (S := none_) hG)), hk, Keep.trans (S := none_) hG hk, fun _ h => h.elim⟩
  rintro v w2 ⟨B2, m2, d2, rfl, -, -⟩
  clear w2
  go_frame
  repeat (refine Calm.walk_quiet ne rfl rfl rfl (fun K hK => ?_); go_big_quiet_op; refine hK _ ?_; clear hK K)
  refine Calm.walk_eff rfl rfl (fun n w2 _ hG _ => ?_) ?_
  · unfold gives
    go_simp
    refine (reduce2_32 A3 512 c3 8 V w2 (r3.keep (kw.trans hG)) u3 (by omega) (by omega) (by omega)).mono ?_
    rintro e w3 ⟨v, rfl, hv, hk⟩
    exact ⟨_, rfl, hv.sub (fun k e => Nat.lt_of_lt_of_le e (Keep.size (S := none_) hG)), hk, Keep.trans (S := none_) hG hk, fun _ h => h.elim⟩
  rintro v w2 ⟨B3, m3, d3, rfl, -, -⟩
  clear w2
  go_frame
  repeat (refine Calm.walk_quiet ne rfl rfl rfl (fun K hK => ?_); go_big_quiet_op; refine hK _ ?_; clear hK K)
  intro w2 hG hD
  have hk2 : Keep none_ w1 w2 := hG
  have f1 : BytesOf w2 (lt_ w1.heap.size) (.slice B1 m1 d1) (redPlane Y 64) := (hD.1 11 rfl _ rfl ⟨rfl, rfl⟩).1
  have f2 : BytesOf w2 (lt_ w1.heap.size) (.slice B2 m2 d2) (redPlane U 32) := (hD.1 18 rfl _ rfl ⟨rfl, rfl⟩).1
  have f3 : BytesOf w2 (lt_ w1.heap.size) (.slice B3 m3 d3) (redPlane V 32) := (hD.1 25 rfl _ rfl ⟨rfl, rfl⟩).1
  clear hD hG x0 x1 x2 x3 x4 ne gd
  simp only [pickOps, List.filterMap_cons, List.filterMap_nil, List.getElem?_toArray, List.getElem?_cons_succ, List.getElem?_cons_zero]
  refine wpList_store_blk rfl 24 (.tmp 2) (.tmp 36) rfl (w.heap.size + 1) 24 _ _ rfl rfl (b1.keep hk2 (fun e => e)) rfl (by kernel_rfl) (by simp [Value.oneCell']) ?_
  intro w3 b3 k3 s3
  have b4 := (b2.keep hk2 (fun e => e)).keep k3 (fun e => by unfold one at e; omega)
  have c4 := b4.cell 0
  have f4 := b4.frozen 0
  simp only [List.getElem?_toArray, List.getElem?_cons_zero] at c4
  go_frame
  go_wp2
  have b5 : Blk (w3.setCell ⟨w.heap.size + 1 + 1, 0, none⟩ (.int .i64 0)) (w.heap.size + 1 + 1) 31 #[.int .i64 0] := b4.set_ 0 _
  have b6 := b3.far (p := ⟨w.heap.size + 1 + 1, 0, none⟩) (by simp) (.int .i64 0)
  have hb2 := b2.lt
  have ky : Keep (lt_ w1.heap.size) w2 (w3.setCell ⟨w.heap.size + 1 + 1, 0, none⟩ (.int .i64 0)) := (k3.mono fun k e => by cases e; show _ < _; omega).setCell (.inl (by show _ < _; simpa using hb2)) _
  have kz : Keep (ge (w.heap.size + 1)) w2 (w3.setCell ⟨w.heap.size + 1 + 1, 0, none⟩ (.int .i64 0)) := (k3.mono fun k e => by cases e; exact Nat.le_refl _).setCell (.inl (by simp [ge])) _
  have k6 : Keep none_ w (w3.setCell ⟨w.heap.size + 1 + 1, 0, none⟩ (.int .i64 0)) := (kw.trans hk2).then kz fun k e => .inr (by unfold ge at e; omega)
  refine leaves_cons (f := 18) (args := #[.pointer (some ⟨w.heap.size + 1, 0, none⟩), .pointer (some ⟨w.heap.size + 1 + 1, 0, none⟩)]) (by simp) (by simp [go_sem]) ?_
  refine (idle_any ⟨w.heap.size + 1, 0, none⟩ ⟨w.heap.size + 1 + 1, 0, none⟩ _).mono ?_
  rintro e u' w'' ⟨rfl, rfl, rfl⟩
  refine ⟨_, results_cells Try.results7 rfl rfl (run_loadVar_blk b6 Try.underlying24 rfl (by kernel_rfl)) (run_loadVar_one (v := .int .i64 0) (by rw [b5.cell]; rfl) Try.underlying31 rfl), _, rfl, ⟨_, _, _, rfl, (f1.keep ky).free, (f2.keep ky).free, (f3.keep ky).free⟩, k6⟩
set_option maxRecDepth 100000 in
set_option maxHeartbeats 2000000 in
theorem reduceP_64_64 (A1 A2 A3 : Option Addr) (c1 c2 c3 : Nat) (Y U V : List Int) (w : World)
    (r1 : Row w none_ 1 A1 4096 c1 (Y.map (Value.int .u8))) (r2 : Row w none_ 1 A2 1024 c2 (U.map (Value.int .u8))) (r3 : Row w none_ 1 A3 1024 c3 (V.map (Value.int .u8))) (u1 : U8s Y) (u2 : U8s U) (u3 : U8s V) :
    Calls Try.prog 7 #[.agg #[.int .i64 64, .int .i64 64, .slice A1 4096 c1, .slice A2 1024 c2, .slice A3 1024 c3]] w fun e w' => ∃ v, e = .returned (.tuple #[v, .int .i64 0]) ∧ FrameOf w' none_ v ⟨32, 32, redPlane Y 64, redPlane U 32, redPlane V 32⟩ ∧ Keep none_ w w' := by
  have hmf : ∀ (fn : Fn) (first cap : Array Value) (w : World), (Instr.makeFunc fn first cap).run Try.prog w = .ok (.func fn first cap) w := fun _ _ _ _ => rfl
  go_enter_defers Try.func7, Try.ntmps7
  go_wp2_with fail
  refine (reducible_any 64 64 A1 A2 A3 4096 c1 1024 c2 1024 c3 _).mono ?_
  rintro e w1 ⟨rfl, hk⟩
  rw [show redOk 64 64 4096 1024 1024 = true from by decide]
  obtain ⟨b0, b1, b2, kw⟩ := three hk
  clear hk
  go_wp2_with fail
  have gd := redCalm_good w1 11 18 25 (redPlane Y 64) (redPlane U 32) (redPlane V 32)
  have ne : Nonempty (redCalm w1 11 18 25 (redPlane Y 64) (redPlane U 32) (redPlane V 32)).Sub := ⟨⟨w1, 0, Nat.zero_le _, Keep.refl _ _⟩⟩
  have x0 := fun x => (b0.keep (redCalm_at (e1 := 11) (e2 := 18) (e3 := 25) (p1 := redPlane Y 64) (p2 := redPlane U 32) (p3 := redPlane V 32) x) (fun e => e)).cell 0
  have x1 := fun x => (b0.keep (redCalm_at (e1 := 11) (e2 := 18) (e3 := 25) (p1 := redPlane Y 64) (p2 := redPlane U 32) (p3 := redPlane V 32) x) (fun e => e)).cell 1
  have x2 := fun x => (b0.keep (redCalm_at (e1 := 11) (e2 := 18) (e3 := 25) (p1 := redPlane Y 64) (p2 := redPlane U 32) (p3 := redPlane V 32) x) (fun e => e)).cell 2
  have x3 := fun x => (b0.keep (redCalm_at (e1 := 11) (e2 := 18) (e3 := 25) (p1 := redPlane Y 64) (p2 := redPlane U 32) (p3 := redPlane V 32) x) (fun e => e)).cell 3
  have x4 := fun x => (b0.keep (redCalm_at (e1 := 11) (e2 := 18) (e3 := 25) (p1 := redPlane Y 64) (p2 := redPlane U 32) (p3 := redPlane V 32) x) (fun e => e)).cell 4
  simp only [List.getElem?_toArray, List.getElem?_cons_zero, List.getElem?_cons_succ] at x0 x1 x2 x3 x4
  refine wp_region_calm (redCalm w1 11 18 25 (redPlane Y 64) (redPlane U 32) (redPlane V 32)) [0, 1, 2, 3, 4, 5, 6, 7, 8, 9, 10, 11, 12, 13, 14, 15, 16, 17, 18, 19, 20, 21, 22, 23, 24, 25, 26] [27, 28] 37 (by kernel_rfl) (by kernel_rfl) rfl gd (Keep.refl _ _).drew ?_
  simp only [pairs, List.filterMap_cons, List.filterMap_nil, List.getElem?_toArray, List.getElem?_cons_succ, List.getElem?_cons_zero, Option.map_some]
  repeat (refine Calm.walk_quiet ne rfl rfl rfl (fun K hK => ?_); go_big_quiet_op; refine hK _ ?_; clear hK K)
  refine Calm.walk_eff rfl rfl (fun n w2 _ hG _ => ?_) ?_
  · unfold gives
    go_simp
    refine (reduce2_64 A1 4096 c1 32 Y w2 (r1.keep (kw.trans hG)) u1 (by omega) (by omega) (by omega)).mono ?_
    rintro e w3 ⟨v, rfl, hv, hk⟩
    exact ⟨_, rfl, hv.sub (fun k e => Nat.lt_of_lt_of_le e (Keep.size (S := none_) hG)), hk, Keep.trans (S := none_) hG hk, fun _ h => h.elim⟩
  rintro v w2 ⟨B1, m1, d1, rfl, -, -⟩
  clear w2
  go_frame
  repeat (refine Calm.walk_quiet ne rfl rfl rfl (fun K hK => ?_); go_big_quiet_op; refine hK _ ?_; clear hK K)
  refine Calm.walk_eff rfl rfl (fun n w2 _ hG _ => ?_) ?_
  · unfold gives
    go_simp
    refine (reduce2_32 A2 1024 c2 16 U w2 (r2.keep (kw.trans hG)) u2 (by omega) (by omega) (by omega)).mono ?_
    rintro e w3 ⟨v, rfl, hv, hk⟩
    exact ⟨_, rfl, hv.sub (fun k e => Nat.lt_of_lt_of_le e (Keep.size (S := none_) hG)), hk, Keep.trans (S := none_) hG hk, fun _ h => h.elim⟩
  rintro v w2 ⟨B2, m2, d2, rfl, -, -⟩
  clear w2
  go_frame
  repeat (refine Calm.walk_quiet ne rfl rfl rfl (fun K hK => ?_); go_big_quiet_op; refine hK _ ?_; clear hK K)
  refine Calm.walk_eff rfl rfl (fun n w2 _ hG _ => ?_) ?_
  · unfold gives
    go_simp
    refine (reduce2_32 A3 1024 c3 16 V w2 (r3.keep (kw.trans hG)) u3 (by omega) (by omega) (by omega)).mono ?_
    rintro e w3 ⟨v, rfl, hv, hk⟩
    exact ⟨_, rfl, hv.sub (fun k e => Nat.lt_of_lt_of_le e (Keep.size (S := none_) hG)), hk, Keep.trans (S := none_) hG hk, fun _ h => h.elim⟩
  rintro v w2 ⟨B3, m3, d3, rfl, -, -⟩
  clear w2
  go_frame
  repeat (refine Calm.walk_quiet ne rfl rfl rfl (fun K hK => ?_); go_big_quiet_op; refine hK _ ?_; clear hK K)
  intro w2 hG hD
  have hk2 : Keep none_ w1 w2 := hG
  have f1 : BytesOf w2 (lt_ w1.heap.size) (.slice B1 m1 d1) (redPlane Y 64) := (hD.1 11 rfl _ rfl ⟨rfl, rfl⟩).1
  have f2 : BytesOf w2 (lt_ w1.heap.size) (.slice B2 m2 d2) (redPlane U 32) := (hD.1 18 rfl _ rfl ⟨rfl, rfl⟩).1
  have f3 : BytesOf w2 (lt_ w1.heap.size) (.slice B3 m3 d3) (redPlane V 32) := (hD.1 25 rfl _ rfl ⟨rfl, rfl⟩).1
  clear hD hG x0 x1 x2 x3 x4 ne gd
  simp only [pickOps, List.filterMap_cons, List.filterMap_nil, List.getElem?_toArray, List.getElem?_cons_succ, List.getElem?_cons_zero]
  refine wpList_store_blk rfl 24 (.tmp 2) (.tmp 36) rfl (w.heap.size + 1) 24 _ _ rfl rfl (b1.keep hk2 (fun e => e)) rfl (by kernel_rfl) (by simp [Value.oneCell']) ?_
  intro w3 b3 k3 s3
  have b4 := (b2.keep hk2 (fun e => e)).keep k3 (fun e => by unfold one at e; omega)
  have c4 := b4.cell 0
  have f4 := b4.frozen 0
  simp only [List.getElem?_toArray, List.getElem?_cons_zero] at c4
  go_frame
  go_wp2
  have b5 : Blk (w3.setCell ⟨w.heap.size + 1 + 1, 0, none⟩ (.int .i64 0)) (w.heap.size + 1 + 1) 31 #[.int .i64 0] := b4.set_ 0 _
  have b6 := b3.far (p := ⟨w.heap.size + 1 + 1, 0, none⟩) (by simp) (.int .i64 0)
  have hb2 := b2.lt
  have ky : Keep (lt_ w1.heap.size) w2 (w3.setCell ⟨w.heap.size + 1 + 1, 0, none⟩ (.int .i64 0)) := (k3.mono fun k e => by cases e; show _ < _; omega).setCell (.inl (by show _ < _; simpa using hb2)) _
  have kz : Keep (ge (w.heap.size + 1)) w2 (w3.setCell ⟨w.heap.size + 1 + 1, 0, none⟩ (.int .i64 0)) := (k3.mono fun k e => by cases e; exact Nat.le_refl _).setCell (.inl (by simp [ge])) _
  have k6 : Keep none_ w (w3.setCell ⟨w.heap.size + 1 + 1, 0, none⟩ (.int .i64 0)) := (kw.trans hk2).then kz fun k e => .inr (by unfold ge at e; omega)
  refine leaves_cons (f := 18) (args := #[.pointer (some ⟨w.heap.size + 1, 0, none⟩), .pointer (some ⟨w.heap.size + 1 + 1, 0, none⟩)]) (by simp) (by simp [go_sem]) ?_
  refine (idle_any ⟨w.heap.size + 1, 0, none⟩ ⟨w.heap.size + 1 + 1, 0, none⟩ _).mono ?_
  rintro e u' w'' ⟨rfl, rfl, rfl⟩
  refine ⟨_, results_cells Try.results7 rfl rfl (run_loadVar_blk b6 Try.underlying24 rfl (by kernel_rfl)) (run_loadVar_one (v := .int .i64 0) (by rw [b5.cell]; rfl) Try.underlying31 rfl), _, rfl, ⟨_, _, _, rfl, (f1.keep ky).free, (f2.keep ky).free, (f3.keep ky).free⟩, k6⟩

end Go.Proofs.Ytnpkhbcbbbpjhaa
