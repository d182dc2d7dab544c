/-
  proxy.Reduce and the reference's Reduce: what both compute.
-/
import Derived.Test.YtnpkhbcbbbpjhaaSpec
namespace Go.Proofs.Ytnpkhbcbbbpjhaa
open Go.RowKit


set_option maxRecDepth 100000 in
set_option maxHeartbeats 1000000 in
theorem reduce2_16 (A : Option Addr) (n c h : Nat) (p : List Int) (w : World) (hr : Row w none_ 1 A n c (p.map (Value.int .u8))) (hp : U8s p) (hn : n = 32 * h) (hh : 0 < h) (hh2 : h ≤ 32) :
    Calls Try.prog 20 #[.slice A n c, .int .i64 16] w (RedPost p 16 w) := by
  have hlen : p.length = n := by have := hr.len; simpa using this
  obtain ⟨b, o, rfl, -, hcell⟩ := hr.u8 (by omega)
  have HC := Lib.hid hcell
  have HL := Lib.hid hlen
  have HN := Lib.hid hn
  have hn0 : 32 ≤ n := by omega
  have hn1 : n ≤ 4096 := by omega
  clear hcell hlen hn
  obtain ⟨M, hM⟩ : ∃ M : Nat, n / 4 = M := ⟨_, rfl⟩
  have hMM : (n : Int) / 4 = M := by omega
  have mkM := mk_u8 M (by omega)
  have HM := Lib.hid hM
  have hM0 : 0 < M := by omega
  clear hM
  go_enter Try.func20, Try.ntmps20
  go_wp2
  go_loopw [18] (fun i wr => ∃ (k : Nat) (zs : List Int), k ≤ M ∧ i = .int .i64 k ∧ Keep none_ w wr ∧ ByteBlk wr w.heap.size zs ∧ zs.length = M ∧ ∀ j, j < k → zs[j]? = some (redAt p 16 j)) (fun i _ => M - (intOf i).toNat)
  case atStart => exact ⟨0, _, Nat.zero_le _, rfl, (Keep.refl _ _).alloc _, ByteBlk.made _ _ _ (Blk.new _ _ _), by simp, fun j hj => by omega⟩
  case round =>
    obtain ⟨k, zs, hk, rfl, hkeep, hblk, hzl, hz⟩ := hrel
    have HZ := Lib.hid hz
    have HZL := Lib.hid hzl
    clear hz hzl
    by_cases hlt : k < M
    · have hki : (0 : Int) ≤ (k : Int) := by omega
      have hkn : (k : Int) < M := by omega
      obtain ⟨q, hq⟩ : ∃ q : Nat, at4 16 k = q := ⟨_, rfl⟩
      have e8 : (k : Int) / 8 * 2 * 16 + (k : Int) % 8 * 2 = q := by unfold at4 at hq; omega
      have hqn : q + 16 + 1 < n := by have := HN.out; have := HM.out; unfold at4 at hq; omega
      have HQ := Lib.hid hq
      clear hq
      have c1 := hkeep.cell (HC.out q (by omega)) (fun e => e)
      have c2 := hkeep.cell (HC.out (q + 1) (by omega)) (fun e => e)
      have c3 := hkeep.cell (HC.out (q + 16) (by omega)) (fun e => e)
      have c4 := hkeep.cell (HC.out (q + 16 + 1) (by omega)) (fun e => e)
      obtain ⟨z1, hz1⟩ : ∃ z, z = p.getD q 0 := ⟨_, rfl⟩
      obtain ⟨z2, hz2⟩ : ∃ z, z = p.getD (q + 1) 0 := ⟨_, rfl⟩
      obtain ⟨z3, hz3⟩ : ∃ z, z = p.getD (q + 16) 0 := ⟨_, rfl⟩
      obtain ⟨z4, hz4⟩ : ∃ z, z = p.getD (q + 16 + 1) 0 := ⟨_, rfl⟩
      have b1 := getD_u8 hp q
      have b2 := getD_u8 hp (q + 1)
      have b3 := getD_u8 hp (q + 16)
      have b4 := getD_u8 hp (q + 16 + 1)
      rw [← hz1] at c1 b1
      rw [← hz2] at c2 b2
      rw [← hz3] at c3 b3
      rw [← hz4] at c4 b4
      have hval : (z1 + z2 + z3 + z4 + 2) / 4 = redAt p 16 k := by unfold redAt; rw [HQ.out, hz1, hz2, hz3, hz4]
      have HV := Lib.hid hval
      clear hz1 hz2 hz3 hz4 hval
      obtain ⟨b1, b1'⟩ := b1
      obtain ⟨b2, b2'⟩ := b2
      obtain ⟨b3, b3'⟩ := b3
      obtain ⟨b4, b4'⟩ := b4
      have c5 := hblk.cell (k := k) (by rw [HZL.out]; exact hlt)
      have f5 := hblk.1.frozen k
      go_wp2
      go_quiet (fail)
      go_wp2
      go_quiet (fail)
      go_wp2
      go_roundw
      case rel =>
        refine ⟨k + 1, zs.set k (redAt p 16 k), by omega, by go_num, (hkeep.drewN _).setCell (.inr (Nat.le_refl _)) _, ?_, by rw [List.length_set]; exact HZL.out, fun j hj => ?_⟩
        · rw [HV.out]
          exact ByteBlk.set_ (w := wr.drewN _) hblk k (redAt_u8 hp _ _)
        · by_cases hjk : j = k
          · subst hjk
            rw [List.getElem?_set_self (by rw [HZL.out]; exact hlt)]
          · rw [List.getElem?_set_ne (fun e => hjk e.symm)]
            exact HZ.out j (by omega)
      case measure => simp [intOf]; omega
    · go_wp2
      go_ret
      obtain rfl : zs = redPlane p 16 := by
        apply List.ext_getElem?
        intro j
        by_cases hj : j < M
        · rw [HZ.out j (by omega)]
          simp [redPlane, HL.out, HM.out, hj]
        · rw [List.getElem?_eq_none (by rw [HZL.out]; omega), List.getElem?_eq_none (by simp [redPlane, HL.out, HM.out]; omega)]
      refine ⟨_, rfl, ⟨_, _, _, rfl, ?_, hblk.2⟩, hkeep⟩
      have hrow := hblk.1.row (S := lt_ w.heap.size) (size := 1) (n := M) (c := M) (by simp [HZL.out]) (Nat.le_refl _) (by unfold maxLen; omega) (Nat.lt_irrefl _)
      rw [List.take_of_length_le (by simp [HZL.out])] at hrow
      simpa using hrow
set_option maxRecDepth 100000 in
set_option maxHeartbeats 1000000 in
theorem reduce2_32 (A : Option Addr) (n c h : Nat) (p : List Int) (w : World) (hr : Row w none_ 1 A n c (p.map (Value.int .u8))) (hp : U8s p) (hn : n = 64 * h) (hh : 0 < h) (hh2 : h ≤ 32) :
    Calls Try.prog 20 #[.slice A n c, .int .i64 32] w (RedPost p 32 w) := by
  have hlen : p.length = n := by have := hr.len; simpa using this
  obtain ⟨b, o, rfl, -, hcell⟩ := hr.u8 (by omega)
  have HC := Lib.hid hcell
  have HL := Lib.hid hlen
  have HN := Lib.hid hn
  have hn0 : 64 ≤ n := by omega
  have hn1 : n ≤ 4096 := by omega
  clear hcell hlen hn
  obtain ⟨M, hM⟩ : ∃ M : Nat, n / 4 = M := ⟨_, rfl⟩
  have hMM : (n : Int) / 4 = M := by omega
  have mkM := mk_u8 M (by omega)
  have HM := Lib.hid hM
  have hM0 : 0 < M := by omega
  clear hM
  go_enter Try.func20, Try.ntmps20
  go_wp2
  go_loopw [18] (fun i wr => ∃ (k : Nat) (zs : List Int), k ≤ M ∧ i = .int .i64 k ∧ Keep none_ w wr ∧ ByteBlk wr w.heap.size zs ∧ zs.length = M ∧ ∀ j, j < k → zs[j]? = some (redAt p 32 j)) (fun i _ => M - (intOf i).toNat)
  case atStart => exact ⟨0, _, Nat.zero_le _, rfl, (Keep.refl _ _).alloc _, ByteBlk.made _ _ _ (Blk.new _ _ _), by simp, fun j hj => by omega⟩
  case round =>
    obtain ⟨k, zs, hk, rfl, hkeep, hblk, hzl, hz⟩ := hrel
    have HZ := Lib.hid hz
    have HZL := Lib.hid hzl
    clear hz hzl
    by_cases hlt : k < M
    · have hki : (0 : Int) ≤ (k : Int) := by omega
      have hkn : (k : Int) < M := by omega
      obtain ⟨q, hq⟩ : ∃ q : Nat, at4 32 k = q := ⟨_, rfl⟩
      have e8 : (k : Int) / 16 * 2 * 32 + (k : Int) % 16 * 2 = q := by unfold at4 at hq; omega
      have hqn : q + 32 + 1 < n := by have := HN.out; have := HM.out; unfold at4 at hq; omega
      have HQ := Lib.hid hq
      clear hq
      have c1 := hkeep.cell (HC.out q (by omega)) (fun e => e)
      have c2 := hkeep.cell (HC.out (q + 1) (by omega)) (fun e => e)
      have c3 := hkeep.cell (HC.out (q + 32) (by omega)) (fun e => e)
      have c4 := hkeep.cell (HC.out (q + 32 + 1) (by omega)) (fun e => e)
      obtain ⟨z1, hz1⟩ : ∃ z, z = p.getD q 0 := ⟨_, rfl⟩
      obtain ⟨z2, hz2⟩ : ∃ z, z = p.getD (q + 1) 0 := ⟨_, rfl⟩
      obtain ⟨z3, hz3⟩ : ∃ z, z = p.getD (q + 32) 0 := ⟨_, rfl⟩
      obtain ⟨z4, hz4⟩ : ∃ z, z = p.getD (q + 32 + 1) 0 := ⟨_, rfl⟩
      have b1 := getD_u8 hp q
      have b2 := getD_u8 hp (q + 1)
      have b3 := getD_u8 hp (q + 32)
      have b4 := getD_u8 hp (q + 32 + 1)
      rw [← hz1] at c1 b1
      rw [← hz2] at c2 b2
      rw [← hz3] at c3 b3
      rw [← hz4] at c4 b4
      have hval : (z1 + z2 + z3 + z4 + 2) / 4 = redAt p 32 k := by unfold redAt; rw [HQ.out, hz1, hz2, hz3, hz4]
      have HV := Lib.hid hval
      clear hz1 hz2 hz3 hz4 hval
      obtain ⟨b1, b1'⟩ := b1
      obtain ⟨b2, b2'⟩ := b2
      obtain ⟨b3, b3'⟩ := b3
      obtain ⟨b4, b4'⟩ := b4
      have c5 := hblk.cell (k := k) (by rw [HZL.out]; exact hlt)
      have f5 := hblk.1.frozen k
      go_wp2
      go_quiet (fail)
      go_wp2
      go_quiet (fail)
      go_wp2
      go_roundw
      case rel =>
        refine ⟨k + 1, zs.set k (redAt p 32 k), by omega, by go_num, (hkeep.drewN _).setCell (.inr (Nat.le_refl _)) _, ?_, by rw [List.length_set]; exact HZL.out, fun j hj => ?_⟩
        · rw [HV.out]
          exact ByteBlk.set_ (w := wr.drewN _) hblk k (redAt_u8 hp _ _)
        · by_cases hjk : j = k
          · subst hjk
            rw [List.getElem?_set_self (by rw [HZL.out]; exact hlt)]
          · rw [List.getElem?_set_ne (fun e => hjk e.symm)]
            exact HZ.out j (by omega)
      case measure => simp [intOf]; omega
    · go_wp2
      go_ret
      obtain rfl : zs = redPlane p 32 := by
        apply List.ext_getElem?
        intro j
        by_cases hj : j < M
        · rw [HZ.out j (by omega)]
          simp [redPlane, HL.out, HM.out, hj]
        · rw [List.getElem?_eq_none (by rw [HZL.out]; omega), List.getElem?_eq_none (by simp [redPlane, HL.out, HM.out]; omega)]
      refine ⟨_, rfl, ⟨_, _, _, rfl, ?_, hblk.2⟩, hkeep⟩
      have hrow := hblk.1.row (S := lt_ w.heap.size) (size := 1) (n := M) (c := M) (by simp [HZL.out]) (Nat.le_refl _) (by unfold maxLen; omega) (Nat.lt_irrefl _)
      rw [List.take_of_length_le (by simp [HZL.out])] at hrow
      simpa using hrow
set_option maxRecDepth 100000 in
set_option maxHeartbeats 1000000 in
theorem reduce2_64 (A : Option Addr) (n c h : Nat) (p : List Int) (w : World) (hr : Row w none_ 1 A n c (p.map (Value.int .u8))) (hp : U8s p) (hn : n = 128 * h) (hh : 0 < h) (hh2 : h ≤ 32) :
    Calls Try.prog 20 #[.slice A n c, .int .i64 64] w (RedPost p 64 w) := by
  have hlen : p.length = n := by have := hr.len; simpa using this
  obtain ⟨b, o, rfl, -, hcell⟩ := hr.u8 (by omega)
  have HC := Lib.hid hcell
  have HL := Lib.hid hlen
  have HN := Lib.hid hn
  have hn0 : 128 ≤ n := by omega
  have hn1 : n ≤ 4096 := by omega
  clear hcell hlen hn
  obtain ⟨M, hM⟩ : ∃ M : Nat, n / 4 = M := ⟨_, rfl⟩
  have hMM : (n : Int) / 4 = M := by omega
  have mkM := mk_u8 M (by omega)
  have HM := Lib.hid hM
  have hM0 : 0 < M := by omega
  clear hM
  go_enter Try.func20, Try.ntmps20
  go_wp2
  go_loopw [18] (fun i wr => ∃ (k : Nat) (zs : List Int), k ≤ M ∧ i = .int .i64 k ∧ Keep none_ w wr ∧ ByteBlk wr w.heap.size zs ∧ zs.length = M ∧ ∀ j, j < k → zs[j]? = some (redAt p 64 j)) (fun i _ => M - (intOf i).toNat)
  case atStart => exact ⟨0, _, Nat.zero_le _, rfl, (Keep.refl _ _).alloc _, ByteBlk.made _ _ _ (Blk.new _ _ _), by simp, fun j hj => by omega⟩
  case round =>
    obtain ⟨k, zs, hk, rfl, hkeep, hblk, hzl, hz⟩ := hrel
    have HZ := Lib.hid hz
    have HZL := Lib.hid hzl
    clear hz hzl
    by_cases hlt : k < M
    · have hki : (0 : Int) ≤ (k : Int) := by omega
      have hkn : (k : Int) < M := by omega
      obtain ⟨q, hq⟩ : ∃ q : Nat, at4 64 k = q := ⟨_, rfl⟩
      have e8 : (k : Int) / 32 * 2 * 64 + (k : Int) % 32 * 2 = q := by unfold at4 at hq; omega
      have hqn : q + 64 + 1 < n := by have := HN.out; have := HM.out; unfold at4 at hq; omega
      have HQ := Lib.hid hq
      clear hq
      have c1 := hkeep.cell (HC.out q (by omega)) (fun e => e)
      have c2 := hkeep.cell (HC.out (q + 1) (by omega)) (fun e => e)
      have c3 := hkeep.cell (HC.out (q + 64) (by omega)) (fun e => e)
      have c4 := hkeep.cell (HC.out (q + 64 + 1) (by omega)) (fun e => e)
      obtain ⟨z1, hz1⟩ : ∃ z, z = p.getD q 0 := ⟨_, rfl⟩
      obtain ⟨z2, hz2⟩ : ∃ z, z = p.getD (q + 1) 0 := ⟨_, rfl⟩
      obtain ⟨z3, hz3⟩ : ∃ z, z = p.getD (q + 64) 0 := ⟨_, rfl⟩
      obtain ⟨z4, hz4⟩ : ∃ z, z = p.getD (q + 64 + 1) 0 := ⟨_, rfl⟩
      have b1 := getD_u8 hp q
      have b2 := getD_u8 hp (q + 1)
      have b3 := getD_u8 hp (q + 64)
      have b4 := getD_u8 hp (q + 64 + 1)
      rw [← hz1] at c1 b1
      rw [← hz2] at c2 b2
      rw [← hz3] at c3 b3
      rw [← hz4] at c4 b4
      have hval : (z1 + z2 + z3 + z4 + 2) / 4 = redAt p 64 k := by unfold redAt; rw [HQ.out, hz1, hz2, hz3, hz4]
      have HV := Lib.hid hval
      clear hz1 hz2 hz3 hz4 hval
      obtain ⟨b1, b1'⟩ := b1
      obtain ⟨b2, b2'⟩ := b2
      obtain ⟨b3, b3'⟩ := b3
      obtain ⟨b4, b4'⟩ := b4
      have c5 := hblk.cell (k := k) (by rw [HZL.out]; exact hlt)
      have f5 := hblk.1.frozen k
      go_wp2
      go_quiet (fail)
      go_wp2
      go_quiet (fail)
      go_wp2
      go_roundw
      case rel =>
        refine ⟨k + 1, zs.set k (redAt p 64 k), by omega, by go_num, (hkeep.drewN _).setCell (.inr (Nat.le_refl _)) _, ?_, by rw [List.length_set]; exact HZL.out, fun j hj => ?_⟩
        · rw [HV.out]
          exact ByteBlk.set_ (w := wr.drewN _) hblk k (redAt_u8 hp _ _)
        · by_cases hjk : j = k
          · subst hjk
            rw [List.getElem?_set_self (by rw [HZL.out]; exact hlt)]
          · rw [List.getElem?_set_ne (fun e => hjk e.symm)]
            exact HZ.out j (by omega)
      case measure => simp [intOf]; omega
    · go_wp2
      go_ret
      obtain rfl : zs = redPlane p 64 := by
        apply List.ext_getElem?
        intro j
        by_cases hj : j < M
        · rw [HZ.out j (by omega)]
          simp [redPlane, HL.out, HM.out, hj]
        · rw [List.getElem?_eq_none (by rw [HZL.out]; omega), List.getElem?_eq_none (by simp [redPlane, HL.out, HM.out]; omega)]
      refine ⟨_, rfl, ⟨_, _, _, rfl, ?_, hblk.2⟩, hkeep⟩
      have hrow := hblk.1.row (S := lt_ w.heap.size) (size := 1) (n := M) (c := M) (by simp [HZL.out]) (Nat.le_refl _) (by unfold maxLen; omega) (Nat.lt_irrefl _)
      rw [List.take_of_length_le (by simp [HZL.out])] at hrow
      simpa using hrow
end Go.Proofs.Ytnpkhbcbbbpjhaa
