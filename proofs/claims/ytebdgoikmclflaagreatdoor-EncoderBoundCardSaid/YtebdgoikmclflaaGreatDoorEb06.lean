/-
  Sequence headers: which are valid.
-/
import Derived.Test.YtebdgoikmclflaaGreatDoorEb05
namespace Go.Proofs.YtebdgoikmclflaaGreatDoor
open Go.RowKit

def mbOk (n most : Int) : Bool := decide (16 ≤ n) && decide (n ≤ most) && (n % 16 == 0)

theorem mb_any (n most : Int) (w : World) : Calls Tryz.prog 25 #[.int .i64 n, .int .i64 most] w fun e w' => e = .returned (.bool (mbOk n most)) ∧ Keep none_ w w' := by
  by_cases h1 : 16 ≤ n
  · by_cases h2 : n ≤ most
    · have ans : mbOk n most = (n % 16 == 0) := by simp [mbOk, h1, h2]
      have h0 : 0 ≤ n := by omega
      rw [ans]
      go_enter Tryz.func25, Tryz.ntmps25
      go_wp2
      go_ret
      exact ⟨rfl, Keep.refl _ _⟩
    · have ans : mbOk n most = false := by simp [mbOk, h2]
      rw [ans]
      go_enter Tryz.func25, Tryz.ntmps25
      go_wp2
      go_ret
      exact ⟨rfl, Keep.refl _ _⟩
  · have ans : mbOk n most = false := by simp [mbOk, h1]
    rw [ans]
    go_enter Tryz.func25, Tryz.ntmps25
    go_wp2
    go_ret
    exact ⟨rfl, Keep.refl _ _⟩

/-- Every entry is at least 8. -/
def ge8 (zs : List Int) : Bool := zs.all fun z => decide (8 ≤ z)
theorem ge8_take {zs : List Int} {k : Nat} (hk : k < zs.length) (h : ge8 (zs.take k) = true) : ge8 (zs.take (k + 1)) = decide (8 ≤ zs[k]) := by
  unfold ge8 at *
  rw [List.take_succ_eq_append_getElem hk, List.all_append, h]
  simp
theorem ge8_part {zs : List Int} {k : Nat} (h : ge8 (zs.take k) = false) : ge8 zs = false := by
  unfold ge8 at *
  rw [← List.take_append_drop k zs, List.all_append, h]
  rfl

/-- One entry of an array that is a value. -/
theorem run_index_u8 (cs : Array Value) (k : Nat) (u : Value) (hk : k < 64) (hc : cs[k]? = some u) (w : World) : (Instr.index 24 (.agg cs) (.int .i64 (k : Int))).run Tryz.prog w = .ok u w := by
  have hs : (sizeOf 5).run Tryz.prog w = .ok 1 w := by kernel_rfl
  simp [Instr.index, run_underlying Tryz.underlying24, asIntOf, go_sem, part, hs, hc]
  omega

set_option maxRecDepth 100000 in
theorem quant_any (zs : List Int) (w : World) (hl : zs.length = 64) : Calls Tryz.prog 27 #[.agg (zs.map (Value.int .u8)).toArray] w fun e w' => e = .returned (.bool (ge8 zs)) ∧ Keep none_ w w' := by
  obtain ⟨cs, hcs⟩ : ∃ cs, cs = (zs.map (Value.int .u8)).toArray := ⟨_, rfl⟩
  have hsz : cs.size = 64 := by rw [hcs]; simp [hl]
  have hget : ∀ k (hk : k < 64), cs[k]? = some (.int .u8 zs[k]) := fun k hk => by rw [hcs]; simp [hl, hk]
  rw [← hcs]
  clear hcs
  obtain ⟨W0, hW0⟩ : ∃ W0, W0 = w.alloc (.cells cs 24) := ⟨_, rfl⟩
  have k0 : Keep none_ w W0 := hW0 ▸ (Keep.refl _ _).alloc _
  have b0 : Blk W0 w.heap.size 24 cs := hW0 ▸ Blk.new _ _ _
  go_enter Tryz.func27, Tryz.ntmps27
  go_upto_region 1 with (fail)
  rw [← hW0]
  clear hW0
  go_upto_region 2 with (refine wpList_load_blk rfl 24 (.tmp 1) rfl w.heap.size 24 _ _ rfl b0 Tryz.underlying24 rfl (by rw [hsz]; kernel_rfl) ?_)
  go_loopw [6] (fun i wr => ∃ k : Nat, k ≤ 64 ∧ i = .int .i64 k ∧ ge8 (zs.take k) = true ∧ wr = W0) (fun i _ => 64 - (intOf i).toNat)
  case atStart => exact ⟨0, by omega, rfl, rfl, rfl⟩
  case round =>
    obtain ⟨k, hk, rfl, hg, rfl⟩ := hrel
    by_cases hlt : k < 64
    · have hlt' : (k : Int) < 64 := by omega
      have hc := run_index_u8 cs k _ hlt (hget k hlt)
      have ht := ge8_take (zs := zs) (k := k) (by omega) hg
      generalize zs[k] = z at hc ht
      by_cases h8 : z < 8
      · go_wp2_with fail
        go_ret
        refine ⟨?_, k0⟩
        rw [ge8_part (zs := zs) (k := k + 1) (by rw [ht]; simp; omega)]
        rfl
      · go_wp2_with fail
        go_roundw
        case rel => exact ⟨k + 1, by omega, by go_num, by rw [ht]; simp; omega, trivial⟩
        case measure => simp [intOf]; omega
    · obtain rfl : k = 64 := by omega
      go_wp2_with fail
      go_ret
      refine ⟨?_, k0⟩
      rw [List.take_of_length_le (by omega)] at hg
      rw [hg]
      rfl

set_option maxRecDepth 100000 in
theorem quantR_any (zs : List Int) (w : World) (hl : zs.length = 64) : Calls Tryz.prog 33 #[.agg (zs.map (Value.int .u8)).toArray] w fun e w' => e = .returned (.bool (ge8 zs)) ∧ Keep none_ w w' := by
  obtain ⟨cs, hcs⟩ : ∃ cs, cs = (zs.map (Value.int .u8)).toArray := ⟨_, rfl⟩
  have hget : ∀ k (hk : k < 64), cs[k]? = some (.int .u8 zs[k]) := fun k hk => by rw [hcs]; simp [hl, hk]
  rw [← hcs]
  clear hcs
  obtain ⟨W0, hW0⟩ : ∃ W0, W0 = w.alloc (.cells cs 24) := ⟨_, rfl⟩
  have k0 : Keep none_ w W0 := hW0 ▸ (Keep.refl _ _).alloc _
  have b0 : Blk W0 w.heap.size 24 cs := hW0 ▸ Blk.new _ _ _
  go_enter Tryz.func33, Tryz.ntmps33
  go_upto_region 1 with (fail)
  rw [← hW0]
  clear hW0
  go_upto_region 2 with (fail)
  go_loopw [3] (fun i wr => ∃ k : Nat, k ≤ 64 ∧ i = .int .i64 k ∧ ge8 (zs.take k) = true ∧ wr = W0) (fun i _ => 64 - (intOf i).toNat)
  case atStart => exact ⟨0, by omega, rfl, rfl, rfl⟩
  case round =>
    obtain ⟨k, hk, rfl, hg, rfl⟩ := hrel
    by_cases hlt : k < 64
    · have hlt' : (k : Int) < 64 := by omega
      have hc := (b0.cell k).trans (hget k hlt)
      have ht := ge8_take (zs := zs) (k := k) (by omega) hg
      generalize zs[k] = z at hc ht
      by_cases h8 : z < 8
      · go_wp2_with fail
        go_ret
        refine ⟨?_, k0⟩
        rw [ge8_part (zs := zs) (k := k + 1) (by rw [ht]; simp; omega)]
        rfl
      · go_wp2_with fail
        go_roundw
        case rel => exact ⟨k + 1, by omega, by go_num, by rw [ht]; simp; omega, trivial⟩
        case measure => simp [intOf]; omega
    · obtain rfl : k = 64 := by omega
      go_wp2_with fail
      go_ret
      refine ⟨?_, k0⟩
      rw [List.take_of_length_le (by omega)] at hg
      rw [hg]
      rfl

/-- A sequence header. -/
structure Sq where
  W : Int
  H : Int
  Num : Int
  Den : Int
  I : Bool
  BR : Int
  Buf : Int
  ia : List Int
  ie : List Int
def Sq.seven (s : Sq) : List Value := [.int .i64 s.W, .int .i64 s.H, .int .i64 s.Num, .int .i64 s.Den, .bool s.I, .int .i64 s.BR, .int .i64 s.Buf]
def Sq.cells (s : Sq) : Array Value := (s.seven ++ s.ia.map (Value.int .u8) ++ s.ie.map (Value.int .u8)).toArray
/-- Its numbers are of their types. -/
structure Sq.Ok (s : Sq) : Prop where
  ia : s.ia.length = 64
  ie : s.ie.length = 64
  n1 : -9223372036854775808 ≤ s.Num
  n2 : s.Num ≤ 9223372036854775807
  d2 : s.Den ≤ 9223372036854775807
def rate (s : Sq) : Bool := ratOk s.Num s.Den && decide (1 ≤ s.Num) && decide (s.Num ≤ 1048576) && decide (s.Den ≤ 65536)
def bits (s : Sq) : Bool := decide (1 ≤ s.BR) && decide (s.BR ≤ 16777216) && decide (1 ≤ s.Buf) && decide (s.Buf ≤ 8388608)
def size_ (s : Sq) : Bool := mbOk s.W 64 && mbOk s.H 64 && !(s.I && (s.H % 32 != 0))
/-- 11.1: which sequence headers are valid. -/
def seqOk (s : Sq) : Bool := size_ s && rate s && bits s && !decide (2 * s.Num * s.Buf < 3 * s.Den * s.BR + 32 * s.Num) && ge8 s.ia && ge8 s.ie
theorem Sq.cells_size (s : Sq) (h : s.Ok) : s.cells.size = 135 := by simp [Sq.cells, Sq.seven, h.ia, h.ie]

end Go.Proofs.YtebdgoikmclflaaGreatDoor
/-
  The transform's norms and matrix; the steps of a quantiser.
-/
namespace Go.Proofs.YtebdgoikmclflaaGreatDoor
open Go.RowKit

def normL : List Int := [512, 578, 320, 578, 512, 578, 320, 578]
def normsV : Array Value := (normL.map (Value.int .i64)).toArray
def basL : List Int := [8, 8, 8, 8, 8, 8, 8, 8, 12, 10, 6, 3, -3, -6, -10, -12, 8, 4, -4, -8, -8, -4, 4, 8, 10, -3, -12, -6, 6, 12, 3, -10, 8, -8, -8, 8, 8, -8, -8, 8, 6, -12, 3, 10, -10, -3, 12, -6, 4, -8, 8, -4, -4, 8, -8, 4, 3, -6, 10, -12, 12, -10, 6, -3]
def basV : Array Value := (basL.map (Value.int .i64)).toArray

set_option maxRecDepth 100000 in
set_option maxHeartbeats 1000000 in
theorem norms_any (w : World) : Calls Tryz.prog 64 #[] w fun e w' => e = .returned (.agg normsV) ∧ Keep none_ w w' := by
  obtain ⟨W0, hW0⟩ : ∃ W0, W0 = w.alloc (.cells #[.int .i64 0, .int .i64 0, .int .i64 0, .int .i64 0, .int .i64 0, .int .i64 0, .int .i64 0, .int .i64 0] 74) := ⟨_, rfl⟩
  have k0 : Keep none_ w W0 := hW0 ▸ (Keep.refl _ _).alloc _
  have b0 : Blk W0 w.heap.size 74 #[.int .i64 0, .int .i64 0, .int .i64 0, .int .i64 0, .int .i64 0, .int .i64 0, .int .i64 0, .int .i64 0] := hW0 ▸ Blk.new _ _ _
  have B0 := Lib.hid b0
  have K0 := Lib.hid k0
  have ze : ∀ w, (zeroValue 74).run Tryz.prog w = .ok (.agg #[.int .i64 0, .int .i64 0, .int .i64 0, .int .i64 0, .int .i64 0, .int .i64 0, .int .i64 0, .int .i64 0]) w := fun w => by kernel_rfl
  clear k0 b0
  go_enter Tryz.func64, Tryz.ntmps64
  go_upto_region 1 with (fail)
  rw [← hW0]
  clear hW0
  have t1 : True := trivial
  go_wp2_with (have _t := t1; refine wpList_store_blk rfl 74 (.tmp 0) (.tmp 1) rfl w.heap.size 74 _ normsV rfl rfl B0.out rfl (by kernel_rfl) (by kernel_rfl) ?_; intro wz bz kz sz; have BZ := Lib.hid bz; have KZ := Lib.hid kz; clear bz kz sz; go_frame; clear _t t1)
  try simp only [Exit.inBlock, Exit.then]
  refine bodyPost_ret (v := .agg normsV) (results_cell Tryz.results64 rfl (run_loadVar_blk BZ.out Tryz.underlying74 rfl (by kernel_rfl))) rfl ?_
  exact ⟨rfl, K0.out.own KZ.out (Nat.le_refl _)⟩

def rowV (k : Nat) : Array Value := (((basL.drop (8 * k)).take 8).map (Value.int .i64)).toArray
def zero64 : Array Value := Array.replicate 64 (.int .i64 0)
set_option maxRecDepth 100000 in
set_option maxHeartbeats 1000000 in
theorem matrix_any (w : World) : Calls Tryz.prog 63 #[] w fun e w' => e = .returned (.agg basV) ∧ Keep none_ w w' := by
  have ze : ∀ w, (zeroValue 75).run Tryz.prog w = .ok (.agg zero64) w := fun w => by kernel_rfl
  obtain ⟨zc, hzc⟩ : ∃ zc, zc = zero64 := ⟨_, rfl⟩
  rw [← hzc] at ze
  obtain ⟨W0, hW0⟩ : ∃ W0, W0 = w.alloc (.cells zc 75) := ⟨_, rfl⟩
  have k0 : Keep none_ w W0 := hW0 ▸ (Keep.refl _ _).alloc _
  have b0 : Blk W0 w.heap.size 75 zc := hW0 ▸ Blk.new _ _ _
  have B0 := Lib.hid b0
  have K0 := Lib.hid k0
  have Z0 := Lib.hid (show zc.size = 64 by rw [hzc]; rfl)
  clear k0 b0 hzc
  go_enter Tryz.func63, Tryz.ntmps63
  go_upto_region 1 with (fail)
  rw [← hW0]
  clear hW0
  refine wp_region_lit ?_
  refine wpList_build_is 74 _ rfl rfl (rowV 0) (by kernel_rfl) ?_
  go_frame
  refine wpList_build_is 74 _ rfl rfl (rowV 1) (by kernel_rfl) ?_
  go_frame
  refine wpList_build_is 74 _ rfl rfl (rowV 2) (by kernel_rfl) ?_
  go_frame
  refine wpList_build_is 74 _ rfl rfl (rowV 3) (by kernel_rfl) ?_
  go_frame
  refine wpList_build_is 74 _ rfl rfl (rowV 4) (by kernel_rfl) ?_
  go_frame
  refine wpList_build_is 74 _ rfl rfl (rowV 5) (by kernel_rfl) ?_
  go_frame
  refine wpList_build_is 74 _ rfl rfl (rowV 6) (by kernel_rfl) ?_
  go_frame
  refine wpList_build_is 74 _ rfl rfl (rowV 7) (by kernel_rfl) ?_
  go_frame
  refine wpList_build_is 75 _ rfl rfl basV (by kernel_rfl) ?_
  go_frame
  refine wpList_store_blk rfl 75 (.tmp 0) (.tmp 9) rfl w.heap.size 75 _ basV rfl rfl B0.out (by rw [Z0.out]; rfl) (by kernel_rfl) (by kernel_rfl) ?_
  intro wz bz kz sz
  have BZ := Lib.hid bz
  have KZ := Lib.hid kz
  clear bz kz sz
  go_frame
  go_wp2
  try simp only [Exit.inBlock, Exit.then]
  refine bodyPost_ret (v := .agg basV) (results_cell Tryz.results63 rfl (run_loadVar_blk BZ.out Tryz.underlying75 rfl (by kernel_rfl))) rfl ?_
  exact ⟨rfl, K0.out.own KZ.out (Nat.le_refl _)⟩
def normOf (i : Nat) : Int := normL.getD i 0
def basOf (i k : Nat) : Int := basL.getD (8 * i + k) 0
theorem run_index_norms (i : Nat) (hi : i < 8) (w : World) : (Instr.index 74 (.agg normsV) (.int .i64 (i : Int))).run Tryz.prog w = .ok (.int .i64 (normOf i)) w := by
  have hc : normsV[i]? = some (.int .i64 (normOf i)) := by
    have : ∀ i : Fin 8, normsV[i.1]? = some (.int .i64 (normOf i.1)) := by intro i; match i with | ⟨0, _⟩ | ⟨1, _⟩ | ⟨2, _⟩ | ⟨3, _⟩ | ⟨4, _⟩ | ⟨5, _⟩ | ⟨6, _⟩ | ⟨7, _⟩ => rfl
    exact this ⟨i, hi⟩
  have hs : Tryz.prog.info? 3 = Tryz.prog.info? 3 := rfl
  have hsz : (Tryz.prog.info? 3).map (fun i => i.size) = some 1 := by kernel_rfl
  obtain ⟨ii, hi1⟩ : ∃ ii, Tryz.prog.info? 3 = some ii := by cases h : Tryz.prog.info? 3 with | none => rw [h] at hsz; cases hsz | some ii => exact ⟨ii, rfl⟩
  have hu : Tryz.prog.underlying 3 = some (.int .i64) := Tryz.underlying3
  simp [Instr.index, run_underlying Tryz.underlying74, asIntOf, go_sem, part, hi, hc]
set_option maxRecDepth 100000 in
set_option maxHeartbeats 4000000 in
theorem norm_any (i : Nat) (hi : i < 8) (w : World) : Calls Tryz.prog 31 #[.int .i64 i] w fun e w' => e = .returned (.int .i64 (normOf i)) ∧ Keep none_ w w' := by
  have h0 : ¬ (i : Int) < 0 := by omega
  have h8 : ¬ (8 : Int) ≤ i := by omega
  have hx := fun w => run_index_norms i hi w
  go_enter Tryz.func31, Tryz.ntmps31
  go_wp2_with (go_at_call 64; refine (norms_any w).mono ?_; rintro e w2 ⟨rfl, k2⟩; have K2 := Lib.hid k2; clear k2)
  go_ret
  exact ⟨rfl, K2.out⟩
end Go.Proofs.YtebdgoikmclflaaGreatDoor
