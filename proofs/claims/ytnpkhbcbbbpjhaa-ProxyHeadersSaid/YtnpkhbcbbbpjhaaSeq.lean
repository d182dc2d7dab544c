/-
  Sequence headers: which are valid.
-/
import Derived.Test.YtnpkhbcbbbpjhaaRat
namespace Go.Proofs.Ytnpkhbcbbbpjhaa
open Go.RowKit

def mbOk (n most : Int) : Bool := decide (16 ≤ n) && decide (n ≤ most) && (n % 16 == 0)

theorem mb_any (n most : Int) (w : World) : Calls Try.prog 27 #[.int .i64 n, .int .i64 most] w fun e w' => e = .returned (.bool (mbOk n most)) ∧ Keep none_ w w' := by
  by_cases h1 : 16 ≤ n
  · by_cases h2 : n ≤ most
    · have ans : mbOk n most = (n % 16 == 0) := by simp [mbOk, h1, h2]
      have h0 : 0 ≤ n := by omega
      rw [ans]
      go_enter Try.func27, Try.ntmps27
      go_wp2
      go_ret
      exact ⟨rfl, Keep.refl _ _⟩
    · have ans : mbOk n most = false := by simp [mbOk, h2]
      rw [ans]
      go_enter Try.func27, Try.ntmps27
      go_wp2
      go_ret
      exact ⟨rfl, Keep.refl _ _⟩
  · have ans : mbOk n most = false := by simp [mbOk, h1]
    rw [ans]
    go_enter Try.func27, Try.ntmps27
    go_wp2
    go_ret
    exact ⟨rfl, Keep.refl _ _⟩

/-- Every entry is at least 8. -/
def ge8 (zs : List Int) : Bool := zs.all fun z => decide (8 ≤ z)
theorem ge8_take {zs : List Int} {k : Nat} (hk : k < zs.length) (h : ge8 (zs.take k) = true) : ge8 (zs.take (k + 1)) = decide (8 ≤ zs[k]) := by
  unfold ge8 at *
  rw [List.take_succ_eq_append_getElem hk, List.all_append, h]
  simp
theorem ge8_part {zs : List Int} {k : Nat} (h : ge8 (zs.take k) = false) : ge8 zs = false := by
  unfold ge8 at *
  rw [← List.take_append_drop k zs, List.all_append, h]
  rfl

/-- One entry of an array that is a value. -/
theorem run_index_u8 (cs : Array Value) (k : Nat) (u : Value) (hk : k < 64) (hc : cs[k]? = some u) (w : World) : (Instr.index 40 (.agg cs) (.int .i64 (k : Int))).run Try.prog w = .ok u w := by
  have hs : (sizeOf 5).run Try.prog w = .ok 1 w := by kernel_rfl
  simp [Instr.index, run_underlying Try.underlying40, asIntOf, go_sem, part, hs, hc]
  omega

set_option maxRecDepth 100000 in
theorem quant_any (zs : List Int) (w : World) (hl : zs.length = 64) : Calls Try.prog 29 #[.agg (zs.map (Value.int .u8)).toArray] w fun e w' => e = .returned (.bool (ge8 zs)) ∧ Keep none_ w w' := by
  obtain ⟨cs, hcs⟩ : ∃ cs, cs = (zs.map (Value.int .u8)).toArray := ⟨_, rfl⟩
  have hsz : cs.size = 64 := by rw [hcs]; simp [hl]
  have hget : ∀ k (hk : k < 64), cs[k]? = some (.int .u8 zs[k]) := fun k hk => by rw [hcs]; simp [hl, hk]
  rw [← hcs]
  clear hcs
  obtain ⟨W0, hW0⟩ : ∃ W0, W0 = w.alloc (.cells cs 40) := ⟨_, rfl⟩
  have k0 : Keep none_ w W0 := hW0 ▸ (Keep.refl _ _).alloc _
  have b0 : Blk W0 w.heap.size 40 cs := hW0 ▸ Blk.new _ _ _
  go_enter Try.func29, Try.ntmps29
  go_upto_region 1 with (fail)
  rw [← hW0]
  clear hW0
  go_upto_region 2 with (refine wpList_load_blk rfl 40 (.tmp 1) rfl w.heap.size 40 _ _ rfl b0 Try.underlying40 rfl (by rw [hsz]; kernel_rfl) ?_)
  go_loopw [6] (fun i wr => ∃ k : Nat, k ≤ 64 ∧ i = .int .i64 k ∧ ge8 (zs.take k) = true ∧ wr = W0) (fun i _ => 64 - (intOf i).toNat)
  case atStart => exact ⟨0, by omega, rfl, rfl, rfl⟩
  case round =>
    obtain ⟨k, hk, rfl, hg, rfl⟩ := hrel
    by_cases hlt : k < 64
    · have hlt' : (k : Int) < 64 := by omega
      have hc := run_index_u8 cs k _ hlt (hget k hlt)
      have ht := ge8_take (zs := zs) (k := k) (by omega) hg
      generalize zs[k] = z at hc ht
      by_cases h8 : z < 8
      · go_wp2_with fail
        go_ret
        refine ⟨?_, k0⟩
        rw [ge8_part (zs := zs) (k := k + 1) (by rw [ht]; simp; omega)]
        rfl
      · go_wp2_with fail
        go_roundw
        case rel => exact ⟨k + 1, by omega, by go_num, by rw [ht]; simp; omega, trivial⟩
        case measure => simp [intOf]; omega
    · obtain rfl : k = 64 := by omega
      go_wp2_with fail
      go_ret
      refine ⟨?_, k0⟩
      rw [List.take_of_length_le (by omega)] at hg
      rw [hg]
      rfl

set_option maxRecDepth 100000 in
theorem quantR_any (zs : List Int) (w : World) (hl : zs.length = 64) : Calls Try.prog 31 #[.agg (zs.map (Value.int .u8)).toArray] w fun e w' => e = .returned (.bool (ge8 zs)) ∧ Keep none_ w w' := by
  obtain ⟨cs, hcs⟩ : ∃ cs, cs = (zs.map (Value.int .u8)).toArray := ⟨_, rfl⟩
  have hget : ∀ k (hk : k < 64), cs[k]? = some (.int .u8 zs[k]) := fun k hk => by rw [hcs]; simp [hl, hk]
  rw [← hcs]
  clear hcs
  obtain ⟨W0, hW0⟩ : ∃ W0, W0 = w.alloc (.cells cs 40) := ⟨_, rfl⟩
  have k0 : Keep none_ w W0 := hW0 ▸ (Keep.refl _ _).alloc _
  have b0 : Blk W0 w.heap.size 40 cs := hW0 ▸ Blk.new _ _ _
  go_enter Try.func31, Try.ntmps31
  go_upto_region 1 with (fail)
  rw [← hW0]
  clear hW0
  go_upto_region 2 with (fail)
  go_loopw [3] (fun i wr => ∃ k : Nat, k ≤ 64 ∧ i = .int .i64 k ∧ ge8 (zs.take k) = true ∧ wr = W0) (fun i _ => 64 - (intOf i).toNat)
  case atStart => exact ⟨0, by omega, rfl, rfl, rfl⟩
  case round =>
    obtain ⟨k, hk, rfl, hg, rfl⟩ := hrel
    by_cases hlt : k < 64
    · have hlt' : (k : Int) < 64 := by omega
      have hc := (b0.cell k).trans (hget k hlt)
      have ht := ge8_take (zs := zs) (k := k) (by omega) hg
      generalize zs[k] = z at hc ht
      by_cases h8 : z < 8
      · go_wp2_with fail
        go_ret
        refine ⟨?_, k0⟩
        rw [ge8_part (zs := zs) (k := k + 1) (by rw [ht]; simp; omega)]
        rfl
      · go_wp2_with fail
        go_roundw
        case rel => exact ⟨k + 1, by omega, by go_num, by rw [ht]; simp; omega, trivial⟩
        case measure => simp [intOf]; omega
    · obtain rfl : k = 64 := by omega
      go_wp2_with fail
      go_ret
      refine ⟨?_, k0⟩
      rw [List.take_of_length_le (by omega)] at hg
      rw [hg]
      rfl

/-- A sequence header. -/
structure Sq where
  W : Int
  H : Int
  Num : Int
  Den : Int
  I : Bool
  BR : Int
  Buf : Int
  ia : List Int
  ie : List Int
def Sq.seven (s : Sq) : List Value := [.int .i64 s.W, .int .i64 s.H, .int .i64 s.Num, .int .i64 s.Den, .bool s.I, .int .i64 s.BR, .int .i64 s.Buf]
def Sq.cells (s : Sq) : Array Value := (s.seven ++ s.ia.map (Value.int .u8) ++ s.ie.map (Value.int .u8)).toArray
/-- Its numbers are of their types. -/
structure Sq.Ok (s : Sq) : Prop where
  ia : s.ia.length = 64
  ie : s.ie.length = 64
  n1 : -9223372036854775808 ≤ s.Num
  n2 : s.Num ≤ 9223372036854775807
  d2 : s.Den ≤ 9223372036854775807
def rate (s : Sq) : Bool := ratOk s.Num s.Den && decide (1 ≤ s.Num) && decide (s.Num ≤ 1048576) && decide (s.Den ≤ 65536)
def bits (s : Sq) : Bool := decide (1 ≤ s.BR) && decide (s.BR ≤ 16777216) && decide (1 ≤ s.Buf) && decide (s.Buf ≤ 8388608)
def size_ (s : Sq) : Bool := mbOk s.W 64 && mbOk s.H 64 && !(s.I && (s.H % 32 != 0))
/-- 11.1: which sequence headers are valid. -/
def seqOk (s : Sq) : Bool := size_ s && rate s && bits s && !decide (2 * s.Num * s.Buf < 3 * s.Den * s.BR + 32 * s.Num) && ge8 s.ia && ge8 s.ie
theorem Sq.cells_size (s : Sq) (h : s.Ok) : s.cells.size = 135 := by simp [Sq.cells, Sq.seven, h.ia, h.ie]

end Go.Proofs.Ytnpkhbcbbbpjhaa
