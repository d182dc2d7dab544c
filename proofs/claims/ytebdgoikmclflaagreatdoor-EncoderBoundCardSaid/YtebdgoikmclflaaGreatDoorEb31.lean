/-
  macroblock: the Intra macroblock without levels other than 0 is formed.
-/
import Derived.Test.YtebdgoikmclflaaGreatDoorEb30
namespace Go.Proofs.YtebdgoikmclflaaGreatDoor
open Go.RowKit

section
variable {P : Program} {c : Calm} {ops : Array Oper} {k : Nat} {o : Oper} {a : Act} {rest : List (Nat × Oper)} {listed : Array Bool} {L : Array Bool → Act → Prop}
theorem Calm.walk_eql (t : TypeId) (x y : Operand) (u : TypeId) (ho : o.op = .binOp .eql t x y u) (ne : Nonempty c.Sub) (he : c.eff.contains k = false) (hw : Region.wanted o (yielded ops a.tmps) = true) (xs ys : Array Value) (hx : a.eval x = .agg xs) (hy : a.eval y = .agg ys)
    (hm : P.eqGuardType P.depth t = false) (b : Bool) (hb : ∀ w, (Op.equalIn 10000 t (.agg xs) (.agg ys)).run P w = .ok b w)
    (h : c.walkP P ops L rest (listed.setIfInBounds k true) (a.put o.dst (.bool b))) : c.walkP P ops L ((k, o) :: rest) listed a :=
  Calm.walk_is (.bool b) ne he (by rw [ho]; rfl) hw (fun w => by
    unfold execOp
    simp only [ho, hx, hy, Sem.run_bind, run_eqGuard_agg _ _ _ _ _ _ _ hm, run_eql_struct, hb, Result.andThen_ok, Sem.run_pure]) h
end
theorem run_index_3 (cs : Array Value) (k : Nat) (u : Value) (hk : k < 3) (hc : cs[k]? = some u) (w : World) : (Instr.index 111 (.agg cs) (.int .i64 (k : Int))).run Tryz.prog w = .ok u w := by
  have hs : (sizeOf 3).run Tryz.prog w = .ok 1 w := by kernel_rfl
  simp [Instr.index, run_underlying Tryz.underlying111, asIntOf, go_sem, part, hs, hc]
  omega
theorem run_index_6 (cs : Array Value) (k : Nat) (u : Value) (hk : k < 6) (hc : cs[k]? = some u) (w : World) : (Instr.index 98 (.agg cs) (.int .i64 (k : Int))).run Tryz.prog w = .ok u w := by
  have hs : (sizeOf 4).run Tryz.prog w = .ok 1 w := by kernel_rfl
  simp [Instr.index, run_underlying Tryz.underlying98, asIntOf, go_sem, part, hs, hc]
  omega
/-- A part of a block. -/
theorem Blk.sub {w : World} {b : Nat} {t : TypeId} {cs : Array Value} (h : Blk w b t cs) (o : Nat) (xs : List Value) (hx : (cs.toList.drop o).take xs.length = xs) : w.rangeAt b o xs := fun j u hj => by
  rw [h.cell]
  have hj' : j < xs.length := by
    rcases Nat.lt_or_ge j xs.length with h | h
    · exact h
    · rw [List.getElem?_eq_none h] at hj; cases hj
  rw [← hx, List.getElem?_take, if_pos hj', List.getElem?_drop, Array.getElem?_toList] at hj
  exact hj
/-- The Intra macroblock without levels other than 0. -/
def mbV : Array Value := (([.int .i64 1, .bool false, .bool false, .bool false, .bool false, .int .i64 0, .int .i64 0, .int .i64 0, .int .i64 0, .int .i64 0, .int .i64 0, .int .i64 0, .int .i64 0, .int .i64 0, .int .i64 0, .int .i64 0, .int .i64 0, .int .i64 0, .bool true, .bool true, .bool true, .bool true, .bool true, .bool true] : List Value) ++ List.replicate 384 (Value.int .i64 0)).toArray
def six : Array Value := #[.bool true, .bool true, .bool true, .bool true, .bool true, .bool true]
theorem mbV_size : mbV.size = 408 := by kernel_rfl
theorem mbV_lev (n : Nat) (hn : n < 6) : (mbV.toList.drop (24 + n * 64)).take (A64 0).toList.length = (A64 0).toList := by
  rcases (show n = 0 ∨ n = 1 ∨ n = 2 ∨ n = 3 ∨ n = 4 ∨ n = 5 by omega) with rfl | rfl | rfl | rfl | rfl | rfl <;> kernel_rfl
set_option maxRecDepth 100000 in
theorem within0 (m : Int) (h0 : 0 ≤ m) (h1 : m ≤ 5000) (w : World) : Calls Tryz.prog 141 #[.int .i64 0, .int .i64 m] w fun e w' => e = .returned (.bool true) ∧ w = w' := by
  go_enter Tryz.func141, Tryz.ntmps141
  go_wp2
  go_ret
  exact ⟨rfl, rfl⟩
set_option maxRecDepth 100000 in
theorem hasLevels_any (bm : Nat) (w : World) (hm : Blk w bm 102 mbV) : Calls Tryz.prog 153 #[.pointer (some ⟨bm, 0, none⟩)] w fun e w' => e = .returned (.bool true) ∧ w = w' := by
  have x0 : w.cell? ⟨bm, 0, none⟩ = some (.int .i64 1) := hm.cell 0
  clear hm
  go_enter Tryz.func153, Tryz.ntmps153
  go_wp2
  go_ret
  exact ⟨rfl, rfl⟩
set_option maxRecDepth 100000 in
theorem bothKinds_any (w : World) : Calls Tryz.prog 145 #[.agg #[.int .i64 1, .int .i64 3, .bool false, .bool false]] w fun e w' => e = .returned (.bool false) ∧ Keep none_ w w' := by
  have k0 : Keep none_ w (w.alloc (.cells #[.int .i64 1, .int .i64 3, .bool false, .bool false] 63)) := (Keep.refl _ _).alloc _
  go_enter Tryz.func145, Tryz.ntmps145
  go_wp2
  go_ret
  exact ⟨rfl, k0⟩
set_option maxRecDepth 100000 in
theorem vcontext_any (w : World) : Calls Tryz.prog 98 #[.agg #[.int .i64 1, .int .i64 3, .bool false, .bool false]] w fun e w' => e = .returned (.bool true) ∧ Keep none_ w w' := by
  have k0 : Keep none_ w (w.alloc (.cells #[.int .i64 1, .int .i64 3, .bool false, .bool false] 63)) := (Keep.refl _ _).alloc _
  go_enter Tryz.func98, Tryz.ntmps98
  go_wp2
  go_ret
  exact ⟨rfl, k0⟩
set_option maxRecDepth 100000 in
theorem allBlocks_any (w : World) : Calls Tryz.prog 106 #[] w fun e w' => e = .returned (.agg six) ∧ Keep none_ w w' := by
  have ze : ∀ w, (zeroValue 98).run Tryz.prog w = .ok (.agg #[.bool false, .bool false, .bool false, .bool false, .bool false, .bool false]) w := fun w => by kernel_rfl
  have t1 : True := trivial
  have t2 : True := trivial
  go_enter Tryz.func106, Tryz.ntmps106
  go_wp2_with (first | (have _t := t1; refine wpList_build_is 98 _ rfl rfl six (by kernel_rfl) ?_; go_frame; clear _t t1) | (have _t := t2; refine wpList_store_blk rfl 98 (.tmp 0) (.tmp 1) rfl w.heap.size 98 _ six rfl rfl (Blk.new _ _ _) rfl (by kernel_rfl) (by kernel_rfl) ?_; intro w3 h5 k5 s5; have B3 := Lib.hid h5; have KX3 := Lib.hid (show Keep none_ w w3 from ((Keep.refl none_ w).alloc _).own k5 (Nat.le_refl _)); clear h5 k5 s5; go_frame; clear _t t2))
  refine bodyPost_ret (results_cell Tryz.results106 rfl (run_loadVar_blk B3.out Tryz.underlying98 rfl (by kernel_rfl))) rfl ⟨rfl, KX3.out⟩
set_option maxRecDepth 100000 in
theorem formedChange_any (bm : Nat) (w : World) (hm : Blk w bm 102 mbV) : Calls Tryz.prog 107 #[.agg #[.int .i64 1, .int .i64 3, .bool false, .bool false], .pointer (some ⟨bm, 0, none⟩)] w fun e w' => e = .returned (.bool true) ∧ Keep none_ w w' := by
  obtain ⟨W0, hW0⟩ : ∃ W0, W0 = w.alloc (.cells #[.int .i64 1, .int .i64 3, .bool false, .bool false] 63) := ⟨_, rfl⟩
  have k0 : Keep none_ w W0 := hW0 ▸ (Keep.refl _ _).alloc _
  have C0 := Lib.hid (show Blk W0 w.heap.size 63 #[.int .i64 1, .int .i64 3, .bool false, .bool false] from hW0 ▸ Blk.new _ _ _)
  have K0 := Lib.hid k0
  have HM := Lib.hid (hm.keep k0 (fun e => e))
  clear k0 hm
  have t1 : True := trivial
  have t2 : True := trivial
  have t3 : True := trivial
  have t4 : True := trivial
  go_enter Tryz.func107, Tryz.ntmps107
  go_upto_region 1 with (fail)
  rw [← hW0]
  clear hW0
  go_wp2_with (first | (have _t := t1; go_at_call 153; refine (hasLevels_any bm W0 HM.out).mono ?_; rintro e w' ⟨rfl, rfl⟩; clear _t t1) | (have _t := t2; refine wpList_load_part 63 (.tmp 2) rfl rfl w.heap.size 0 rfl #[.int .i64 1, .int .i64 3, .bool false, .bool false] _ C0.out.rangeAt Tryz.underlying63 rfl (by kernel_rfl) ?_; go_frame; clear _t t2) | (have _t := t3; go_at_call 145; refine (bothKinds_any W0).mono ?_; rintro e w2 ⟨rfl, k2⟩; have K2 := Lib.hid (K0.out.trans k2); have x3 : w2.cell? ⟨bm, 4, none⟩ = some (.bool false) := (HM.out.keep k2 (fun e => e)).cell 4; have x6 : w2.cell? ⟨bm, 17, none⟩ = some (.int .i64 0) := (HM.out.keep k2 (fun e => e)).cell 17; clear k2 _t t3) | (have _t := t4; go_at_call 141; refine (within0 30 (by decide) (by decide) _).mono ?_; rintro e w' ⟨rfl, rfl⟩; clear _t t4))
  go_ret
  exact ⟨rfl, K2.out⟩
set_option maxRecDepth 100000 in
set_option maxHeartbeats 1000000 in
theorem levelsInRange_any (bm : Nat) (w : World) (hm : Blk w bm 102 mbV) : Calls Tryz.prog 108 #[.pointer (some ⟨bm, 0, none⟩)] w fun e w' => e = .returned (.bool true) ∧ w = w' := by
  have HM := Lib.hid hm
  have LV := Lib.hid mbV_lev
  have SZ := Lib.hid (A64_size 0)
  have GZ := Lib.hid (A64_get 0)
  clear hm
  generalize A64 0 = zc at *
  go_enter Tryz.func108, Tryz.ntmps108
  go_wp2_with (fail)
  go_loopw [6] (fun i wr => ∃ k : Nat, k ≤ 6 ∧ i = .int .i64 k ∧ w = wr) (fun i _ => 6 - (intOf i).toNat)
  case atStart => exact ⟨0, by decide, rfl, by trivial⟩
  case round =>
    obtain ⟨k, hk, rfl, rfl⟩ := hrel
    by_cases hlt : k < 6
    · have hlt' : (k : Int) < 6 := by omega
      have t1 : True := trivial
      go_wp2_with (have _t := t1; refine wpList_load_part 99 (.tmp 13) rfl rfl bm (24 + k * 64) rfl zc _ (HM.out.sub _ _ (LV.out k hlt)) Tryz.underlying99 rfl (by rw [SZ.out]; kernel_rfl) ?_; go_frame; clear _t t1)
      go_loopw [15] (fun i wr => ∃ k : Nat, k ≤ 64 ∧ i = .int .i64 k ∧ w = wr) (fun i _ => 64 - (intOf i).toNat)
      case atStart => exact ⟨0, by decide, rfl, by trivial⟩
      case round =>
        obtain ⟨j, hj, rfl, rfl⟩ := hrel
        by_cases hjt : j < 64
        · have hjt' : (j : Int) < 64 := by omega
          have hc := run_index_i64a zc j _ hjt (GZ.out j hjt)
          have t2 : True := trivial
          go_wp2_with (have _t := t2; go_at_call 141; refine (within0 4095 (by decide) (by decide) _).mono ?_; rintro e w' ⟨rfl, rfl⟩; clear _t t2)
          go_roundw
          case rel => exact ⟨j + 1, hjt, by go_num, by trivial⟩
          case measure => simp [intOf]; omega
        · obtain rfl : j = 64 := by omega
          go_wp2
          go_roundw
          case rel => exact ⟨k + 1, hlt, by go_num, by trivial⟩
          case measure => simp [intOf]; omega
    · obtain rfl : k = 6 := by omega
      go_wp2
      go_ret
      exact ⟨rfl, by trivial⟩
set_option maxRecDepth 100000 in
theorem vecRange_any (w : World) : Calls Tryz.prog 142 #[.agg #[.int .i64 0, .int .i64 0]] w fun e w' => e = .returned (.bool true) ∧ Keep none_ w w' := by
  have k0 : Keep none_ w (w.alloc (.cells #[.int .i64 0, .int .i64 0] 93)) := (Keep.refl _ _).alloc _
  go_enter Tryz.func142, Tryz.ntmps142
  go_wp2_with (go_at_call 141; refine (within0 63 (by decide) (by decide) _).mono ?_; rintro e w' ⟨rfl, rfl⟩)
  go_ret
  exact ⟨rfl, k0⟩
/-- The state at the beginning of a slice. -/
def stV : Array Value := #[.int .i64 8, .int .i64 0, .int .i64 0, .int .i64 0, .int .i64 0, .int .i64 0, .int .i64 0, .int .i64 0]
set_option maxRecDepth 100000 in
set_option maxHeartbeats 1000000 in
theorem svalid_any (w : World) : Calls Tryz.prog 99 #[.agg stV] w fun e w' => e = .returned (.bool true) ∧ Keep none_ w w' := by
  obtain ⟨W0, hW0⟩ : ∃ W0, W0 = w.alloc (.cells stV 113) := ⟨_, rfl⟩
  have k0 : Keep none_ w W0 := hW0 ▸ (Keep.refl _ _).alloc _
  have B0 := Lib.hid (show Blk W0 w.heap.size 113 stV from hW0 ▸ Blk.new _ _ _)
  have K0 := Lib.hid k0
  have y0 : W0.cell? ⟨w.heap.size, 0, none⟩ = some (.int .i64 8) := B0.out.cell 0
  clear k0
  have t1 : True := trivial
  go_enter Tryz.func99, Tryz.ntmps99
  go_upto_region 1 with (fail)
  rw [← hW0]
  clear hW0
  go_wp2_with (have _t := t1; refine wpList_load_part 111 (.tmp 5) rfl rfl w.heap.size 1 rfl #[.int .i64 0, .int .i64 0, .int .i64 0] _ (B0.out.sub _ _ (by kernel_rfl)) Tryz.underlying111 rfl (by kernel_rfl) ?_; go_frame; clear _t t1)
  go_loopw [7] (fun i wr => ∃ k : Nat, k ≤ 3 ∧ i = .int .i64 k ∧ W0 = wr) (fun i _ => 3 - (intOf i).toNat)
  case atStart => exact ⟨0, by decide, rfl, by trivial⟩
  case round =>
    obtain ⟨k, hk, rfl, rfl⟩ := hrel
    by_cases hlt : k < 3
    · have hlt' : (k : Int) < 3 := by omega
      have hc := run_index_3 #[.int .i64 0, .int .i64 0, .int .i64 0] k (.int .i64 0) hlt (by rcases (show k = 0 ∨ k = 1 ∨ k = 2 by omega) with rfl | rfl | rfl <;> rfl)
      have t2 : True := trivial
      go_wp2_with (have _t := t2; go_at_call 141; refine (within0 4095 (by decide) (by decide) _).mono ?_; rintro e w' ⟨rfl, rfl⟩; clear _t t2)
      go_roundw
      case rel => exact ⟨k + 1, hlt, by go_num, by trivial⟩
      case measure => simp [intOf]; omega
    · obtain rfl : k = 3 := by omega
      have t3 : True := trivial
      have t4 : True := trivial
      have t5 : True := trivial
      have t6 : True := trivial
      have t7 : True := trivial
      go_wp2_with (first | (have _t := t3; go_at_call 76; refine (vqM 8 _).mono ?_; rintro e w' ⟨rfl, rfl⟩; clear _t t3) | (have _t := t4; refine wpList_load_part 93 (.tmp 19) rfl rfl w.heap.size 4 rfl #[.int .i64 0, .int .i64 0] _ (B0.out.sub _ _ (by kernel_rfl)) Tryz.underlying93 rfl (by kernel_rfl) ?_; go_frame; clear _t t4) | (have _t := t5; go_at_call 142; refine (vecRange_any W0).mono ?_; rintro e w2 ⟨rfl, k2⟩; have B2 := Lib.hid (B0.out.keep k2 (fun e => e)); have K2 := Lib.hid (K0.out.trans k2); clear k2 _t t5) | (have _t := t6; refine wpList_load_part 93 (.tmp 25) rfl rfl w.heap.size 6 rfl #[.int .i64 0, .int .i64 0] _ (B2.out.sub _ _ (by kernel_rfl)) Tryz.underlying93 rfl (by kernel_rfl) ?_; go_frame; clear _t t6) | (have _t := t7; go_at_call 142; refine (vecRange_any w2).mono ?_; rintro e w3 ⟨rfl, k3⟩; have K3 := Lib.hid (K2.out.trans k3); clear k3 _t t7))
      go_ret
      exact ⟨rfl, K3.out⟩
end Go.Proofs.YtebdgoikmclflaaGreatDoor
