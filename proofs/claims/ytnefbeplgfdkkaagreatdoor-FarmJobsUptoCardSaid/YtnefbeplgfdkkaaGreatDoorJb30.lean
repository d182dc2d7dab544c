/-
  The reference's job, worker, busy.
-/
import Derived.Test.YtnefbeplgfdkkaaGreatDoorJb14
namespace Go.Proofs.YtnefbeplgfdkkaaGreatDoor
open Go.RowKit

theorem StateOf.lists {w : World} {S : Nat → Prop} {v : Value} {s : St} (h : StateOf w S v s) : ∃ P1 P2 P3 P4 P5 P6 P7 P8 P9, v = .agg #[.int .i64 s.now, .slice P1 P2 P3, .slice P4 P5 P6, .slice P7 P8 P9] ∧ StrsOf w S (.slice P1 P2 P3) s.present ∧ JobsOf w S (.slice P4 P5 P6) s.jobs ∧ WorkersOf w S (.slice P7 P8 P9) s.workers := by
  obtain ⟨p6, j6, q6, rfl, g1, g2, g3⟩ := h
  have g1' := g1
  have g2' := g2
  have g3' := g3
  obtain ⟨P1, P2, P3, rfl, -⟩ := g1
  obtain ⟨P4, P5, P6, rfl, -⟩ := g2
  obtain ⟨P7, P8, P9, rfl, -⟩ := g3
  exact ⟨_, _, _, _, _, _, _, _, _, rfl, g1', g2', g3'⟩
/-- The first job that is given to a worker. -/
def bsIdx (js : List Jb) (x : ByteArray) : Int := idxOf (fun y : Jb => strEq y.worker x) js 0

set_option maxHeartbeats 1000000 in
theorem rjob_any (s : St) (v : Value) (S : Nat → Prop) (x : ByteArray) (w : World) (h : StateOf w S v s) :
    Calls Tryz.prog 47 #[v, .string x] w fun e w' => e = .returned (.int .i64 (jbIdx s.jobs x)) ∧ Keep none_ w w' := by
  obtain ⟨P1, P2, P3, P4, P5, P6, P7, P8, P9, rfl, -, gj, gw⟩ := h.lists
  obtain ⟨W1, hW1⟩ : ∃ W1, W1 = w.alloc (.cells #[.int .i64 s.now, .slice P1 P2 P3, .slice P4 P5 P6, .slice P7 P8 P9] 48) := ⟨_, rfl⟩
  have k1 : Keep none_ w W1 := hW1 ▸ (Keep.refl none_ w).alloc _
  have b1 : Blk W1 w.heap.size 48 #[.int .i64 s.now, .slice P1 P2 P3, .slice P4 P5 P6, .slice P7 P8 P9] := hW1 ▸ Blk.new _ _ _
  have y2 : W1.cell? ⟨w.heap.size, 2, none⟩ = some (.slice P4 P5 P6) := b1.cell 2
  obtain ⟨hl, h1, h2⟩ := ElemsOf.facts gj
  unfold maxLen at h2
  have HL := Lib.hid hl
  have HJ := Lib.hid (gj.keep k1.weak)
  have K1 := Lib.hid k1
  have ANS := Lib.hid (show jbIdx s.jobs x = idxOf (fun y : Jb => strEq y.name x) s.jobs 0 from rfl)
  clear hl gj gw h k1 b1
  go_enter Tryz.func47, Tryz.ntmps47
  go_upto_region 1 with (fail)
  rw [← hW1]
  clear hW1
  go_wp2
  go_loop [5] (fun i => ∃ k : Nat, k ≤ P5 ∧ i = .int .i64 k ∧ (s.jobs.take k).all (fun y : Jb => !strEq y.name x) = true) (fun i => P5 - (intOf i).toNat)
  case atStart => exact ⟨0, Nat.zero_le _, rfl, rfl⟩
  case round =>
    obtain ⟨k, hk, rfl, hall⟩ := hrel
    have ALL := Lib.hid hall
    clear hall
    by_cases hlt : k < P5
    · have hlt' : (k : Int) < P5 := by omega
      obtain ⟨b, o, rfl, -, hkl, cs, -, hrg, hcs⟩ := ElemsOf.elem HJ.out k hlt
      have A1 := Lib.hid (idxOf_at (fun y : Jb => strEq y.name x) s.jobs k hkl ALL.out)
      have A2 := Lib.hid (take_all_succ (fun y : Jb => !strEq y.name x) s.jobs k hkl)
      generalize s.jobs[k] = y at hcs A1 A2
      obtain ⟨vn, vi, rfl, -, -⟩ := hcs
      have c0 : W1.cell? ⟨b, o + k * 7 + 0, none⟩ = some (.string y.name) := hrg 0 _ rfl
      rw [Nat.add_zero] at c0
      clear hrg hkl
      cases hs : strEq y.name x with
      | true =>
        have hs' : (y.name.toList == x.toList) = true := hs
        have AT := Lib.hid (A1.out hs)
        clear hs
        go_wp2
        go_ret
        exact ⟨ret_int (by rw [ANS.out]; exact AT.out.symm), K1.out⟩
      | false =>
        have hs' : (y.name.toList == x.toList) = false := hs
        have AT := Lib.hid (show (s.jobs.take (k + 1)).all (fun y : Jb => !strEq y.name x) = true by rw [A2.out, ALL.out, hs]; rfl)
        clear hs
        go_wp2
        go_round
        case rel => exact ⟨k + 1, hlt, by go_num, AT.out⟩
        case measure => simp [intOf]; omega
    · obtain rfl : k = P5 := by omega
      go_wp2
      go_ret
      exact ⟨ret_int (by rw [ANS.out, idxOf_none _ _ (by have := ALL.out; rw [List.take_of_length_le (by rw [HL.out]; omega)] at this; exact this)]), K1.out⟩
set_option maxHeartbeats 1000000 in
theorem rbusy_any (s : St) (v : Value) (S : Nat → Prop) (x : ByteArray) (w : World) (h : StateOf w S v s) :
    Calls Tryz.prog 48 #[v, .string x] w fun e w' => e = .returned (.int .i64 (bsIdx s.jobs x)) ∧ Keep none_ w w' := by
  obtain ⟨P1, P2, P3, P4, P5, P6, P7, P8, P9, rfl, -, gj, gw⟩ := h.lists
  obtain ⟨W1, hW1⟩ : ∃ W1, W1 = w.alloc (.cells #[.int .i64 s.now, .slice P1 P2 P3, .slice P4 P5 P6, .slice P7 P8 P9] 48) := ⟨_, rfl⟩
  have k1 : Keep none_ w W1 := hW1 ▸ (Keep.refl none_ w).alloc _
  have b1 : Blk W1 w.heap.size 48 #[.int .i64 s.now, .slice P1 P2 P3, .slice P4 P5 P6, .slice P7 P8 P9] := hW1 ▸ Blk.new _ _ _
  have y2 : W1.cell? ⟨w.heap.size, 2, none⟩ = some (.slice P4 P5 P6) := b1.cell 2
  obtain ⟨hl, h1, h2⟩ := ElemsOf.facts gj
  unfold maxLen at h2
  have HL := Lib.hid hl
  have HJ := Lib.hid (gj.keep k1.weak)
  have K1 := Lib.hid k1
  have ANS := Lib.hid (show bsIdx s.jobs x = idxOf (fun y : Jb => strEq y.worker x) s.jobs 0 from rfl)
  clear hl gj gw h k1 b1
  go_enter Tryz.func48, Tryz.ntmps48
  go_upto_region 1 with (fail)
  rw [← hW1]
  clear hW1
  go_wp2
  go_loop [5] (fun i => ∃ k : Nat, k ≤ P5 ∧ i = .int .i64 k ∧ (s.jobs.take k).all (fun y : Jb => !strEq y.worker x) = true) (fun i => P5 - (intOf i).toNat)
  case atStart => exact ⟨0, Nat.zero_le _, rfl, rfl⟩
  case round =>
    obtain ⟨k, hk, rfl, hall⟩ := hrel
    have ALL := Lib.hid hall
    clear hall
    by_cases hlt : k < P5
    · have hlt' : (k : Int) < P5 := by omega
      obtain ⟨b, o, rfl, -, hkl, cs, -, hrg, hcs⟩ := ElemsOf.elem HJ.out k hlt
      have A1 := Lib.hid (idxOf_at (fun y : Jb => strEq y.worker x) s.jobs k hkl ALL.out)
      have A2 := Lib.hid (take_all_succ (fun y : Jb => !strEq y.worker x) s.jobs k hkl)
      generalize s.jobs[k] = y at hcs A1 A2
      obtain ⟨vn, vi, rfl, -, -⟩ := hcs
      have c0 : W1.cell? ⟨b, o + k * 7 + 2, none⟩ = some (.string y.worker) := hrg 2 _ rfl
      rw [Nat.add_zero] at c0
      clear hrg hkl
      cases hs : strEq y.worker x with
      | true =>
        have hs' : (y.worker.toList == x.toList) = true := hs
        have AT := Lib.hid (A1.out hs)
        clear hs
        go_wp2
        go_ret
        exact ⟨ret_int (by rw [ANS.out]; exact AT.out.symm), K1.out⟩
      | false =>
        have hs' : (y.worker.toList == x.toList) = false := hs
        have AT := Lib.hid (show (s.jobs.take (k + 1)).all (fun y : Jb => !strEq y.worker x) = true by rw [A2.out, ALL.out, hs]; rfl)
        clear hs
        go_wp2
        go_round
        case rel => exact ⟨k + 1, hlt, by go_num, AT.out⟩
        case measure => simp [intOf]; omega
    · obtain rfl : k = P5 := by omega
      go_wp2
      go_ret
      exact ⟨ret_int (by rw [ANS.out, idxOf_none _ _ (by have := ALL.out; rw [List.take_of_length_le (by rw [HL.out]; omega)] at this; exact this)]), K1.out⟩
set_option maxHeartbeats 1000000 in
theorem rworker_any (s : St) (v : Value) (S : Nat → Prop) (x : ByteArray) (w : World) (h : StateOf w S v s) :
    Calls Tryz.prog 46 #[v, .string x] w fun e w' => e = .returned (.int .i64 (wkIdx s.workers x)) ∧ Keep none_ w w' := by
  obtain ⟨P1, P2, P3, P4, P5, P6, P7, P8, P9, rfl, -, gj, gw⟩ := h.lists
  obtain ⟨W1, hW1⟩ : ∃ W1, W1 = w.alloc (.cells #[.int .i64 s.now, .slice P1 P2 P3, .slice P4 P5 P6, .slice P7 P8 P9] 48) := ⟨_, rfl⟩
  have k1 : Keep none_ w W1 := hW1 ▸ (Keep.refl none_ w).alloc _
  have b1 : Blk W1 w.heap.size 48 #[.int .i64 s.now, .slice P1 P2 P3, .slice P4 P5 P6, .slice P7 P8 P9] := hW1 ▸ Blk.new _ _ _
  have y2 : W1.cell? ⟨w.heap.size, 3, none⟩ = some (.slice P7 P8 P9) := b1.cell 3
  obtain ⟨hl, h1, h2⟩ := ElemsOf.facts gw
  unfold maxLen at h2
  have HL := Lib.hid hl
  have HJ := Lib.hid (gw.keep k1.weak)
  have K1 := Lib.hid k1
  have ANS := Lib.hid (show wkIdx s.workers x = idxOf (fun y : Wk => strEq y.name x) s.workers 0 from rfl)
  clear hl gj gw h k1 b1
  go_enter Tryz.func46, Tryz.ntmps46
  go_upto_region 1 with (fail)
  rw [← hW1]
  clear hW1
  go_wp2
  go_loop [5] (fun i => ∃ k : Nat, k ≤ P8 ∧ i = .int .i64 k ∧ (s.workers.take k).all (fun y : Wk => !strEq y.name x) = true) (fun i => P8 - (intOf i).toNat)
  case atStart => exact ⟨0, Nat.zero_le _, rfl, rfl⟩
  case round =>
    obtain ⟨k, hk, rfl, hall⟩ := hrel
    have ALL := Lib.hid hall
    clear hall
    by_cases hlt : k < P8
    · have hlt' : (k : Int) < P8 := by omega
      obtain ⟨b, o, rfl, -, hkl, cs, -, hrg, hcs⟩ := ElemsOf.elem HJ.out k hlt
      have A1 := Lib.hid (idxOf_at (fun y : Wk => strEq y.name x) s.workers k hkl ALL.out)
      have A2 := Lib.hid (take_all_succ (fun y : Wk => !strEq y.name x) s.workers k hkl)
      generalize s.workers[k] = y at hcs A1 A2
      obtain rfl := (show cs = [.string y.name, .bool y.dead] from hcs)
      have c0 : W1.cell? ⟨b, o + k * 2 + 0, none⟩ = some (.string y.name) := hrg 0 _ rfl
      rw [Nat.add_zero] at c0
      clear hrg hkl
      cases hs : strEq y.name x with
      | true =>
        have hs' : (y.name.toList == x.toList) = true := hs
        have AT := Lib.hid (A1.out hs)
        clear hs
        go_wp2
        go_ret
        exact ⟨ret_int (by rw [ANS.out]; exact AT.out.symm), K1.out⟩
      | false =>
        have hs' : (y.name.toList == x.toList) = false := hs
        have AT := Lib.hid (show (s.workers.take (k + 1)).all (fun y : Wk => !strEq y.name x) = true by rw [A2.out, ALL.out, hs]; rfl)
        clear hs
        go_wp2
        go_round
        case rel => exact ⟨k + 1, hlt, by go_num, AT.out⟩
        case measure => simp [intOf]; omega
    · obtain rfl : k = P8 := by omega
      go_wp2
      go_ret
      exact ⟨ret_int (by rw [ANS.out, idxOf_none _ _ (by have := ALL.out; rw [List.take_of_length_le (by rw [HL.out]; omega)] at this; exact this)]), K1.out⟩
end Go.Proofs.YtnefbeplgfdkkaaGreatDoor
