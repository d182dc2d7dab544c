/-
  encoder.newCoder.
-/
import Derived.Test.YtebdgoikmclflaaGreatDoorEb43
import Derived.Defers
import Derived.Recover
import Derived.Laws.BytesArg
namespace Go.Proofs.YtebdgoikmclflaaGreatDoor
open Go.RowKit
theorem NewV.boxed {lo : Nat} {t : TypeId} {cs0 : Array Value} {b : Nat} {w : World} (h : ∃ cs, some (Value.agg cs0) = some (.agg cs) ∧ NewV lo t cs (.pointer (some ⟨b, 0, none⟩)) w) : lo ≤ b ∧ Blk w b t cs0 := by
  obtain ⟨cs, e, n⟩ := h
  simp only [Option.some.injEq, Value.agg.injEq] at e
  subst e
  exact n.out_
def NewCoderPost (A1 A2 A3 : Option Addr) (c1 c2 c3 : Nat) (w : World) (e : Ending) (w' : World) : Prop := ∃ gc r1 r2 r3, e = .returned (.pointer (some ⟨gc, 0, none⟩)) ∧ w.heap.size ≤ gc ∧ Blk w' gc 67 (cdV (srV A1 A2 A3 c1 c2 c3) (frV r1 r2 r3).toList) ∧ NewFr w' w.heap.size 0 r1 r2 r3 ∧ Keep none_ w w'
set_option maxRecDepth 100000 in
set_option maxHeartbeats 8000000 in
theorem newCoder_any (A1 A2 A3 : Option Addr) (c1 c2 c3 : Nat) (w : World) : Calls Tryz.prog 22 #[.agg plV, .agg plP, .bool false, .agg (srV A1 A2 A3 c1 c2 c3).toArray, .agg rfV, .int .i64 8] w (NewCoderPost A1 A2 A3 c1 c2 c3 w) := by
  obtain ⟨Wa, hWa⟩ : ∃ Wa, Wa = (w.alloc (.cells plV 26)).alloc (.cells plP 35) := ⟨_, rfl⟩
  obtain ⟨W0, hW0⟩ : ∃ W0, W0 = (Wa.alloc (.cells (srV A1 A2 A3 c1 c2 c3).toArray 32)).alloc (.cells rfV 45) := ⟨_, rfl⟩
  obtain ⟨s0, p0, ka⟩ := two (Keep.eq_ hWa)
  obtain ⟨f0, r0, kb⟩ := two (Keep.eq_ hW0)
  have sz : Wa.heap.size = w.heap.size + 1 + 1 := by rw [hWa]; simp
  rw [sz] at f0 r0
  have S0 := Lib.hid (s0.keep kb (fun e => e))
  have P0 := Lib.hid (p0.keep kb (fun e => e))
  have F0 := Lib.hid f0
  have R0 := Lib.hid r0
  have K0 := Lib.hid (ka.trans kb)
  rw [hWa] at hW0
  clear s0 p0 f0 r0 ka kb sz hWa
  go_enter Tryz.func22, Tryz.ntmps22
  go_upto_region 1 with (fail)
  rw [← hW0]
  clear hW0
  obtain ⟨X17, S17, H17⟩ : ∃ X : List Value → Value → World → Prop, (∀ vs v w w', X vs v w → Keep none_ w w' → X vs v w') ∧ ∀ vs v w, X vs v w ↔ (FrE W0.heap.size 0 v w) := ⟨fun vs v w => FrE W0.heap.size 0 v w, fun vs v w w' h k => by first | exact h | exact FrE.keep h k, fun _ _ _ => Iff.rfl⟩
  obtain ⟨X20, S20, H20⟩ : ∃ X : List Value → Value → World → Prop, (∀ vs v w w', X vs v w → Keep none_ w w' → X vs v w') ∧ ∀ vs v w, X vs v w ↔ (vs[0]? = some v) := ⟨fun vs v w => vs[0]? = some v, fun vs v w w' h k => by first | exact h | exact h, fun _ _ _ => Iff.rfl⟩
  obtain ⟨X22, S22, H22⟩ : ∃ X : List Value → Value → World → Prop, (∀ vs v w w', X vs v w → Keep none_ w w' → X vs v w') ∧ ∀ vs v w, X vs v w ↔ (∃ cs, vs[0]? = some (.agg cs) ∧ NewV (W0).heap.size 67 cs v w) := ⟨fun vs v w => ∃ cs, vs[0]? = some (.agg cs) ∧ NewV (W0).heap.size 67 cs v w, fun vs v w w' h k => by first | exact h | exact (by obtain ⟨cs, e, n⟩ := h; exact ⟨cs, e, n.keep k⟩), fun _ _ _ => Iff.rfl⟩
  have gd := pureCalm_good (W0) [⟨17, X17, S17⟩, ⟨20, X20, S20⟩, ⟨22, X22, S22⟩]
  have ne := pureCalm_some (W0) [⟨17, X17, S17⟩, ⟨20, X20, S20⟩, ⟨22, X22, S22⟩]
  have x0 : ∀ y : (pureCalm (W0) [⟨17, X17, S17⟩, ⟨20, X20, S20⟩, ⟨22, X22, S22⟩]).Sub, ((pureCalm (W0) [⟨17, X17, S17⟩, ⟨20, X20, S20⟩, ⟨22, X22, S22⟩]).at_ y).cell? ⟨w.heap.size + 1, 0, none⟩ = some (.int .i64 1) := fun y => by have k := pureCalm_at y; exact ((P0.out.keep k (fun e => e)).cell 0).trans (by kernel_rfl)
  have x1 : ∀ y : (pureCalm (W0) [⟨17, X17, S17⟩, ⟨20, X20, S20⟩, ⟨22, X22, S22⟩]).Sub, ((pureCalm (W0) [⟨17, X17, S17⟩, ⟨20, X20, S20⟩, ⟨22, X22, S22⟩]).at_ y).cell? ⟨w.heap.size + 1, 1, none⟩ = some (.int .i64 3) := fun y => by have k := pureCalm_at y; exact ((P0.out.keep k (fun e => e)).cell 1).trans (by kernel_rfl)
  have x2 : ∀ y : (pureCalm (W0) [⟨17, X17, S17⟩, ⟨20, X20, S20⟩, ⟨22, X22, S22⟩]).Sub, ((pureCalm (W0) [⟨17, X17, S17⟩, ⟨20, X20, S20⟩, ⟨22, X22, S22⟩]).at_ y).cell? ⟨w.heap.size, 4, none⟩ = some (.bool false) := fun y => by have k := pureCalm_at y; exact ((S0.out.keep k (fun e => e)).cell 4).trans (by kernel_rfl)
  have x3 : ∀ y : (pureCalm (W0) [⟨17, X17, S17⟩, ⟨20, X20, S20⟩, ⟨22, X22, S22⟩]).Sub, ((pureCalm (W0) [⟨17, X17, S17⟩, ⟨20, X20, S20⟩, ⟨22, X22, S22⟩]).at_ y).cell? ⟨w.heap.size + 1 + 1, 0, none⟩ = some (.int .i64 16) := fun y => by have k := pureCalm_at y; exact ((F0.out.keep k (fun e => e)).cell 0).trans (by kernel_rfl)
  have x4 : ∀ y : (pureCalm (W0) [⟨17, X17, S17⟩, ⟨20, X20, S20⟩, ⟨22, X22, S22⟩]).Sub, ((pureCalm (W0) [⟨17, X17, S17⟩, ⟨20, X20, S20⟩, ⟨22, X22, S22⟩]).at_ y).cell? ⟨w.heap.size + 1 + 1, 1, none⟩ = some (.int .i64 16) := fun y => by have k := pureCalm_at y; exact ((F0.out.keep k (fun e => e)).cell 1).trans (by kernel_rfl)
  refine wp_region_calm (pureCalm (W0) [⟨17, X17, S17⟩, ⟨20, X20, S20⟩, ⟨22, X22, S22⟩]) [0, 1, 2, 3, 4, 5, 6, 7, 8, 9, 10, 11, 12, 13, 14, 15, 16, 17, 18, 19, 20, 21, 22] [23] 102 (by kernel_rfl) (by kernel_rfl) rfl gd (Keep.refl _ _).drew ?_
  simp only [pairs, List.filterMap_cons, List.filterMap_nil, List.getElem?_toArray, List.getElem?_cons_succ, List.getElem?_cons_zero, Option.map_some]
  repeat (refine Calm.walk_quiet ne rfl rfl rfl (fun K hK => ?_); go_big_quiet_op; refine hK _ ?_; clear hK K)
  refine Calm.walk_load 26 (.tmp 6) rfl ne rfl rfl (w.heap.size) (0) rfl (plV) _ (fun y => by have k_ := pureCalm_at y; exact (S0.out.keep k_ (fun e => e)).rangeAt) Tryz.underlying26 rfl (by rw [plV_size]; kernel_rfl) ?_
  go_frame
  refine Calm.walk_load 35 (.tmp 7) rfl ne rfl rfl (w.heap.size + 1) (0) rfl (plP) _ (fun y => by have k_ := pureCalm_at y; exact (P0.out.keep k_ (fun e => e)).rangeAt) Tryz.underlying35 rfl (by kernel_rfl) ?_
  go_frame
  repeat (refine Calm.walk_quiet ne rfl rfl rfl (fun K hK => ?_); go_big_quiet_op; refine hK _ ?_; clear hK K)
  refine Calm.walk_load 32 (.tmp 9) rfl ne rfl rfl (w.heap.size + 1 + 1) (0) rfl ((srV A1 A2 A3 c1 c2 c3).toArray) _ (fun y => by have k_ := pureCalm_at y; exact (F0.out.keep k_ (fun e => e)).rangeAt) Tryz.underlying32 rfl (by kernel_rfl) ?_
  go_frame
  refine Calm.walk_load 45 (.tmp 10) rfl ne rfl rfl (w.heap.size + 1 + 1 + 1) (0) rfl (rfV) _ (fun y => by have k_ := pureCalm_at y; exact (R0.out.keep k_ (fun e => e)).rangeAt) Tryz.underlying45 rfl (by kernel_rfl) ?_
  go_frame
  repeat (refine Calm.walk_quiet ne rfl rfl rfl (fun K hK => ?_); go_big_quiet_op; refine hK _ ?_; clear hK K)
  refine Calm.walk_eff rfl rfl (fun n wy _ hR hA => ?_) ?_
  · have kR : Keep none_ (W0) wy := hR
    unfold gives
    go_simp
    refine (pflat_any 0 (by decide) wy).mono ?_
    rintro e wz ⟨d1, d2, d3, rfl, hn, hk⟩
    exact ⟨_, rfl, (H17 _ _ _).2 (⟨d1, d2, d3, rfl, hn.low kR.size⟩), hk, kR.trans hk, fun _ h => h.elim⟩
  intro v wy hv
  obtain ⟨d1, d2, d3, rfl, -⟩ : FrE W0.heap.size 0 v wy := (H17 _ _ _).1 hv
  clear hv
  clear wy
  go_frame
  repeat (refine Calm.walk_quiet ne rfl rfl rfl (fun K hK => ?_); go_big_quiet_op; refine hK _ ?_; clear hK K)
  refine Calm.walk_eff rfl rfl (fun n wy _ hR hA => ?_) ?_
  · have kR : Keep none_ (W0) wy := hR
    unfold gives
    go_simp
    refine (mustFr (frV d1 d2 d3) rfl (by kernel_rfl) wy).mono ?_
    rintro e wz ⟨rfl, hk⟩
    exact ⟨_, rfl, (H20 _ _ _).2 (rfl), hk, kR.trans hk, fun _ h => h.elim⟩
  intro v wy hv
  obtain rfl : v = .agg (frV d1 d2 d3) := (Option.some.inj (show some (.agg (frV d1 d2 d3)) = some v from (H20 _ _ _).1 hv)).symm
  clear hv
  clear wy
  go_frame
  refine Calm.walk_build 67 _ rfl ne rfl rfl (cdV (srV A1 A2 A3 c1 c2 c3) (frV d1 d2 d3).toList) (by kernel_rfl) ?_
  go_frame
  refine Calm.walk_eff rfl rfl (fun n wy _ hR _ => ?_) ?_
  · have kR : Keep none_ (W0) wy := hR
    refine gives_mono (X := fun v w' => v = .pointer (some ⟨wy.heap.size, 0, none⟩) ∧ w' = wy.alloc (.cells (cdV (srV A1 A2 A3 c1 c2 c3) (frV d1 d2 d3).toList) 67)) ?_ ?_
    · unfold gives
      go_simp
      try rfl
    · rintro _ _ ⟨rfl, rfl⟩
      exact ⟨(H22 _ _ _).2 ⟨_, rfl, _, rfl, kR.size, Blk.new _ _ _⟩, (Keep.refl _ _).alloc _, kR.alloc _, fun _ h => h.elim⟩
  intro v wy hv
  obtain ⟨_, -, gc, rfl, -, -⟩ := (H22 _ _ _).1 hv
  clear hv
  clear wy
  go_frame
  intro w2 hG hD
  have K2 := Lib.hid (show Keep none_ (W0) w2 from hG)
  have T17 := Lib.hid ((H17 _ _ _).1 (show X17 _ _ w2 from (hD.1 17 rfl _ rfl ⟨rfl, rfl⟩).1))
  have T22 := Lib.hid ((H22 _ _ _).1 (show X22 _ _ w2 from (hD.1 22 rfl _ rfl ⟨rfl, rfl⟩).1))
  clear hG hD gd ne x0 x1 x2 x3 x4
  clear H17 H20 H22
  clear S17 S20 S22
  clear X17 X20 X22
  simp only [pickOps, List.filterMap_cons, List.filterMap_nil, List.getElem?_toArray, List.getElem?_cons_succ, List.getElem?_cons_zero]
  have N2 := Lib.hid (FrE.out_ (show FrE W0.heap.size 0 (.tuple #[.agg (frV d1 d2 d3), .int .i64 0]) w2 from T17.out))
  have G2 := Lib.hid (NewV.boxed (show ∃ cs, some (Value.agg (cdV (srV A1 A2 A3 c1 c2 c3) (frV d1 d2 d3).toList)) = some (.agg cs) ∧ NewV W0.heap.size 67 cs (.pointer (some ⟨gc, 0, none⟩)) w2 from T22.out))
  clear T17 T22
  have tk1 : True := trivial
  go_wp2_with ((have _t := tk1; go_at_call 52; refine (directions_any gc A1 A2 A3 c1 c2 c3 _ w2 G2.out.2).mono ?_; rintro e w3 ⟨rfl, rfl⟩; clear _t tk1))
  go_loopw [42] (fun i wr => i = .int .i64 0 ∧ wr = w2) (fun i _ => 0)
  case atStart => exact ⟨rfl, rfl⟩
  case round =>
    obtain ⟨rfl, rfl⟩ := hrel
    go_wp2
    go_ret
    exact ⟨gc, d1, d2, d3, rfl, Nat.le_trans K0.out.size G2.out.1, G2.out.2, N2.out.low K0.out.size, K0.out.trans K2.out⟩
end Go.Proofs.YtebdgoikmclflaaGreatDoor
/-
  What encoder.Picture defers; sequences of equal bytes.
-/
namespace Go.Proofs.YtebdgoikmclflaaGreatDoor
open Go.RowKit
set_option maxRecDepth 100000 in
theorem deferred_any (p q r : Value) (w : World) : CallsD Tryz.prog 17 #[p, q, r] .returning w fun e u' w' => e = .returned (.tuple #[]) ∧ u' = .returning ∧ w' = w := by
  refine callsD_of_wpS Tryz.func17 rfl fun c₀ cs hu => ?_
  apply wpS_seq
  apply wpS_region
  simp [wpOpsS, go_sem, recoverD, hu, Tryz.ntmps17, Exit.thenS]
  refine wpS_cond (t := false) (by simp [Act.eval, Array.replicate]) ?_
  simp only [Bool.false_eq_true, if_false]
  refine wpS_of_wp (wp_skip ?_)
  cases c₀
  simp_all [bodyPostS, results, Tryz.results17]
theorem row_conv {w : World} {S : Nat → Prop} {A : Option Addr} {n c : Nat} {zs : List Int} (hr : Row w S 1 A n c (zs.map (Value.int .u8))) : (convert 30 9 (.slice A n c)).run Tryz.prog w = .ok (.string (strOfNums zs)) w := by
  have hl := hr.len
  rw [List.length_map, Nat.mul_one] at hl
  cases A with
  | none =>
    have h0 : n = 0 := by
      rcases Nat.eq_zero_or_pos n with h | h
      · exact h
      · obtain ⟨b, o, e, -⟩ := hr.at_ h; cases e
    subst h0
    have : zs = [] := List.eq_nil_of_length_eq_zero hl
    subst this
    exact run_convert_bytes_nil w _ _ Tryz.underlying30 Tryz.underlying5 0 c _ Tryz.underlying9
  | some a =>
    have hd : (loadCells a n).run Tryz.prog w = .ok (zs.map (Value.int .u8)).toArray w := by
      have := run_loadCells_list (P := Tryz.prog) w a (zs.map (Value.int .u8)) (fun j u hj => by
        have hn : 0 < n := by
          have := (List.getElem?_eq_some_iff.1 hj).1
          rw [List.length_map] at this
          omega
        obtain ⟨b, o, e, -, hc⟩ := hr.at_ hn
        cases e
        rw [Addr.add_mid]
        exact hc j u hj)
      simpa [hl] using this
    rw [run_convert_bytes_string w _ _ _ _ n c Tryz.underlying30 Tryz.underlying5 Tryz.underlying9, run_bytesToString w a n c zs hd, foldl_push_bytes]
    simp [strOfNums, ByteArray.empty, ByteArray.emptyWithCapacity]
    rfl
set_option maxRecDepth 100000 in
theorem sameConst {N c c' : Nat} {z : Int} {A A' : Option Addr} (w : World) (h : CstS w none_ N z A c) (h' : CstS w none_ N z A' c') : Calls Tryz.prog 24 #[.slice A N c, .slice A' N c'] w fun e w' => e = .returned (.bool true) ∧ w = w' := by
  have c1 := row_conv h.1
  have c2 := row_conv h'.1
  clear h h'
  go_enter Tryz.func24, Tryz.ntmps24
  go_wp2
  go_ret
  exact ⟨rfl, rfl⟩
set_option maxRecDepth 100000 in
set_option maxHeartbeats 4000000 in
theorem equal_any (z : Int) (A1 A2 A3 B1 B2 B3 : Option Addr) (c1 c2 c3 e1 e2 e3 : Nat) (w : World) (hf : FrC w z A1 A2 A3 c1 c2 c3) (hg : FrC w z B1 B2 B3 e1 e2 e3) : Calls Tryz.prog 10 #[.agg #[.int .i64 16, .int .i64 16, .slice A1 256 c1, .slice A2 64 c2, .slice A3 64 c3], .agg #[.int .i64 16, .int .i64 16, .slice B1 256 e1, .slice B2 64 e2, .slice B3 64 e3]] w fun e w' => e = .returned (.bool true) ∧ Keep none_ w w' := by
  obtain ⟨W0, hW0⟩ : ∃ W0, W0 = (w.alloc (.cells #[.int .i64 16, .int .i64 16, .slice A1 256 c1, .slice A2 64 c2, .slice A3 64 c3] 32)).alloc (.cells #[.int .i64 16, .int .i64 16, .slice B1 256 e1, .slice B2 64 e2, .slice B3 64 e3] 32) := ⟨_, rfl⟩
  obtain ⟨f0, g0, k0⟩ := two (Keep.eq_ hW0)
  have HF := Lib.hid (hf.keep k0)
  have HG := Lib.hid (hg.keep k0)
  have x0 := f0.cell 0
  have x1 := f0.cell 1
  have x2 := f0.cell 2
  have x3 := f0.cell 3
  have x4 := f0.cell 4
  have y0 := g0.cell 0
  have y1 := g0.cell 1
  have y2 := g0.cell 2
  have y3 := g0.cell 3
  have y4 := g0.cell 4
  simp only [List.getElem?_toArray, List.getElem?_cons_zero, List.getElem?_cons_succ] at x0 x1 x2 x3 x4 y0 y1 y2 y3 y4
  clear f0 g0 hf hg
  go_enter Tryz.func10, Tryz.ntmps10
  go_upto_region 1 with (fail)
  rw [← hW0]
  clear hW0
  have tk1 : True := trivial
  have tk2 : True := trivial
  have tk3 : True := trivial
  go_wp2_with (first | (have _t := tk1; go_at_call 24; refine (sameConst W0 HF.out.y HG.out.y).mono ?_; rintro e w' ⟨rfl, rfl⟩; clear _t tk1) | (have _t := tk2; go_at_call 24; refine (sameConst W0 HF.out.u HG.out.u).mono ?_; rintro e w' ⟨rfl, rfl⟩; clear _t tk2) | (have _t := tk3; go_at_call 24; refine (sameConst W0 HF.out.v HG.out.v).mono ?_; rintro e w' ⟨rfl, rfl⟩; clear _t tk3))
  go_ret
  exact ⟨rfl, k0⟩
end Go.Proofs.YtebdgoikmclflaaGreatDoor
/-
  Regions that draw their order, in which one operation writes some blocks.
-/
namespace Go.Proofs.YtebdgoikmclflaaGreatDoor
open Go.RowKit

structure PfM (S : Nat → Prop) (m : Nat) where
  k : Nat
  X : List Value → Value → World → Prop
  st : ∀ vs v w w', X vs v w → Keep none_ w w' → X vs v w'
  st2 : k ≠ m → ∀ vs v w w', X vs v w → Keep S w w' → X vs v w'
def pfmAt {S : Nat → Prop} {m : Nat} : List (PfM S m) → Nat → List Value → Value → World → Prop
  | [], _ => fun _ _ _ => True
  | p :: r, k => if p.k = k then p.X else pfmAt r k
theorem pfmAt_keep {S : Nat → Prop} {m : Nat} : ∀ (L : List (PfM S m)) (k : Nat) (vs : List Value) (v : Value) (w w' : World), pfmAt L k vs v w → Keep none_ w w' → pfmAt L k vs v w'
  | [], _, _, _, _, _, _, _ => trivial
  | p :: r, k, vs, v, w, w', h, hk => by
    unfold pfmAt at h ⊢
    split at h
    · rename_i e; rw [if_pos e]; exact p.st _ _ _ _ h hk
    · rename_i e; rw [if_neg e]; exact pfmAt_keep r k vs v w w' h hk
theorem pfmAt_keepS {S : Nat → Prop} {m : Nat} : ∀ (L : List (PfM S m)) (k : Nat) (_ : k ≠ m) (vs : List Value) (v : Value) (w w' : World), pfmAt L k vs v w → Keep S w w' → pfmAt L k vs v w'
  | [], _, _, _, _, _, _, _, _ => trivial
  | p :: r, k, hm, vs, v, w, w', h, hk => by
    unfold pfmAt at h ⊢
    split at h
    · rename_i e; rw [if_pos e]; exact p.st2 (fun e' => hm (e.symm.trans e')) _ _ _ _ h hk
    · rename_i e; rw [if_neg e]; exact pfmAt_keepS r k hm vs v w w' h hk
/-- Operation m alone writes blocks of S. -/
def muCalm (wr : World) (S : Nat → Prop) (F : World → Prop) (m : Nat) (A : Nat → List Nat) (L : List (PfM S m)) : Calm where
  R := fun i w w' => if i = m then Keep S w w' else Keep none_ w w'
  G := fun _ w => Keep S wr w ∧ F w
  eff := L.map (·.k)
  T := fun k vs v w => pfmAt L k vs v w
  anc := A
  own := fun _ _ _ => False
section
variable {wr : World} {S : Nat → Prop} {F : World → Prop} {m : Nat} {A : Nat → List Nat} {L : List (PfM S m)}
theorem muCalm_good : (muCalm wr S F m A L).Good where
  mono := fun _ _ h => h
  size := fun i _ _ h => by
    simp only [muCalm] at h
    split at h
    · exact h.size
    · exact h.size
  stable := fun i k vs v w w' _ hne h hR => by
    simp only [muCalm] at h hR ⊢
    split at hR
    · rename_i e
      exact pfmAt_keepS _ _ (fun e' => hne (e.trans e'.symm)) _ _ _ _ h hR
    · exact pfmAt_keep _ _ _ _ _ _ h hR
theorem muCalm_at (x : (muCalm wr S F m A L).Sub) : Keep S wr ((muCalm wr S F m A L).at_ x) := by
  obtain ⟨x, n, _, h⟩ := x
  exact h.1
theorem muCalm_F (x : (muCalm wr S F m A L).Sub) : F ((muCalm wr S F m A L).at_ x) := by
  obtain ⟨x, n, _, h⟩ := x
  exact h.2
theorem muCalm_some (h : F wr) : Nonempty (muCalm wr S F m A L).Sub := ⟨⟨wr, 0, Nat.zero_le _, Keep.refl _ _, h⟩⟩
/-- The step of an operation that is not m. -/
theorem mu_R {i : Nat} (hi : i ≠ m) {w w' : World} (k : Keep none_ w w') : (muCalm wr S F m A L).R i w w' := by
  simp only [muCalm]
  rw [if_neg hi]
  exact k
theorem mu_Rm {w w' : World} (k : Keep S w w') : (muCalm wr S F m A L).R m w w' := by
  simp only [muCalm]
  rw [if_pos trivial]
  exact k
end
end Go.Proofs.YtebdgoikmclflaaGreatDoor
