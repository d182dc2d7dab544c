/-
  The reference's reduced plane.
-/
import Derived.Test.YtnpkhbcbbbpjhaaSpec
namespace Go.Proofs.Ytnpkhbcbbbpjhaa
open Go.RowKit

/-- The first k samples of a reduced plane. -/
def redTo (p : List Int) (W k : Nat) : List Int := (List.range k).map (redAt p W)
theorem redTo_succ (p : List Int) (W k : Nat) : redTo p W (k + 1) = redTo p W k ++ [redAt p W k] := by simp [redTo, List.range_succ]
theorem redTo_len (p : List Int) (W k : Nat) : (redTo p W k).length = k := by simp [redTo]

set_option maxRecDepth 100000 in
set_option maxHeartbeats 2000000 in
theorem reduced_16 (A : Option Addr) (n c h : Nat) (p : List Int) (w : World) (hr : Row w none_ 1 A n c (p.map (Value.int .u8))) (hp : U8s p) (hn : n = 32 * h) (hh : 0 < h) (hh2 : h ≤ 32) :
    Calls Try.prog 22 #[.slice A n c, .int .i64 16, .int .i64 (2 * h : Nat)] w (RedPost p 16 w) := by
  have hlen : p.length = n := by have := hr.len; simpa using this
  obtain ⟨b, o, rfl, -, hcell⟩ := hr.u8 (by omega)
  have HC := Lib.hid hcell
  have HL := Lib.hid hlen
  have HN := Lib.hid hn
  have hn1 : n ≤ 4096 := by omega
  clear hcell hlen hn
  obtain ⟨h2, hh2'⟩ : ∃ h2 : Nat, 2 * h = h2 := ⟨_, rfl⟩
  rw [hh2']
  have HH := Lib.hid hh2'
  have hh3 : h2 ≤ 64 := by omega
  clear hh2'
  go_enter Try.func22, Try.ntmps22
  go_wp2
  go_loopw [7, 8] (fun v y wr => ∃ i : Nat, i ≤ h ∧ y = .int .i64 (2 * i : Nat) ∧ Keep none_ w wr ∧ wr.ownsRow w.heap.size 5 1 v (i * 8) ((redTo p 16 (i * 8)).map (Value.int .u8))) (fun _ y _ => h2 - (intOf y).toNat)
  case atStart => exact ⟨0, Nat.zero_le _, rfl, Keep.refl _ _, World.ownsRow_nil _ _ _ _⟩
  case round =>
    obtain ⟨i, hi, rfl, hkeep, hown⟩ := hrel
    by_cases hlt : i < h
    · have hl1 : ((2 * i : Nat) : Int) < h2 := by have := HH.out; omega
      go_wp2
      obtain ⟨wo, rfl⟩ : ∃ wo : World, wo = wr := ⟨_, rfl⟩
      go_loopw [7, 9] (fun v x wr => ∃ j : Nat, j ≤ 8 ∧ x = .int .i64 (2 * j : Nat) ∧ Keep none_ w wr ∧ wr.ownsRow w.heap.size 5 1 v (i * 8 + j) ((redTo p 16 (i * 8 + j)).map (Value.int .u8))) (fun _ x _ => 16 - (intOf x).toNat)
      case atStart => exact ⟨0, Nat.zero_le _, rfl, hkeep, hown⟩
      case round =>
        clear hkeep hown
        obtain ⟨j, hj, rfl, hkeep, hown⟩ := hrel
        by_cases hlt2 : j < 8
        · have hl2 : ((2 * j : Nat) : Int) < 16 := by omega
          obtain ⟨q, hq⟩ : ∃ q : Nat, at4 16 (i * 8 + j) = q := ⟨_, rfl⟩
          have hq' : i * 32 + j * 2 = q := by rw [← hq]; unfold at4; omega
          have e8 : 2 * (i : Int) * 16 + 2 * (j : Int) = q := by omega
          have hqn : q + 16 + 1 < n := by have := HN.out; omega
          have HQ := Lib.hid hq
          clear hq hq'
          have c1 := hkeep.cell (HC.out q (by omega)) (fun e => e)
          have c2 := hkeep.cell (HC.out (q + 1) (by omega)) (fun e => e)
          have c3 := hkeep.cell (HC.out (q + 16) (by omega)) (fun e => e)
          have c4 := hkeep.cell (HC.out (q + 16 + 1) (by omega)) (fun e => e)
          obtain ⟨z1, hz1⟩ : ∃ z, z = p.getD q 0 := ⟨_, rfl⟩
          obtain ⟨z2, hz2⟩ : ∃ z, z = p.getD (q + 1) 0 := ⟨_, rfl⟩
          obtain ⟨z3, hz3⟩ : ∃ z, z = p.getD (q + 16) 0 := ⟨_, rfl⟩
          obtain ⟨z4, hz4⟩ : ∃ z, z = p.getD (q + 16 + 1) 0 := ⟨_, rfl⟩
          have b1 := getD_u8 hp q
          have b2 := getD_u8 hp (q + 1)
          have b3 := getD_u8 hp (q + 16)
          have b4 := getD_u8 hp (q + 16 + 1)
          rw [← hz1] at c1 b1
          rw [← hz2] at c2 b2
          rw [← hz3] at c3 b3
          rw [← hz4] at c4 b4
          have hval : (z1 + z2 + z3 + z4 + 2) / 4 = redAt p 16 (i * 8 + j) := by unfold redAt; rw [HQ.out, hz1, hz2, hz3, hz4]
          have HV := Lib.hid hval
          clear hz1 hz2 hz3 hz4 hval
          obtain ⟨b1, b1'⟩ := b1
          obtain ⟨b2, b2'⟩ := b2
          obtain ⟨b3, b3'⟩ := b3
          obtain ⟨b4, b4'⟩ := b4
          go_wp2
          have gd := oneCalm_good w.heap.size wr 33 5 #[.int .u8 ((z1 + z2 + z3 + z4 + 2) / 4)]
          have ne : Nonempty (oneCalm w.heap.size wr 33 5 #[.int .u8 ((z1 + z2 + z3 + z4 + 2) / 4)]).Sub := ⟨⟨wr, 0, Nat.zero_le _, Keep.refl _ _⟩⟩
          have x1 := fun x => (oneCalm_at (n0 := w.heap.size) (k := 33) (t := 5) (cs := #[.int .u8 ((z1 + z2 + z3 + z4 + 2) / 4)]) x).cell c1 (fun e => e)
          have x2 := fun x => (oneCalm_at (n0 := w.heap.size) (k := 33) (t := 5) (cs := #[.int .u8 ((z1 + z2 + z3 + z4 + 2) / 4)]) x).cell c2 (fun e => e)
          have x3 := fun x => (oneCalm_at (n0 := w.heap.size) (k := 33) (t := 5) (cs := #[.int .u8 ((z1 + z2 + z3 + z4 + 2) / 4)]) x).cell c3 (fun e => e)
          have x4 := fun x => (oneCalm_at (n0 := w.heap.size) (k := 33) (t := 5) (cs := #[.int .u8 ((z1 + z2 + z3 + z4 + 2) / 4)]) x).cell c4 (fun e => e)
          refine wp_region_calm (oneCalm w.heap.size wr 33 5 #[.int .u8 ((z1 + z2 + z3 + z4 + 2) / 4)]) [0, 1, 2, 3, 4, 5, 6, 7, 8, 9, 10, 11, 12, 13, 14, 15, 16, 17, 18, 19, 20, 21, 22, 23, 24, 25, 26, 27, 28, 29, 30, 31, 32, 33] [34, 35] 62 (by kernel_rfl) (by kernel_rfl) rfl gd (Keep.refl _ _).drew ?_
          simp only [pairs, List.filterMap_cons, List.filterMap_nil, List.getElem?_toArray, List.getElem?_cons_succ, List.getElem?_cons_zero, Option.map_some]
          repeat (refine Calm.walk_quiet ne rfl rfl rfl (fun K hK => ?_); go_big_quiet_op; refine hK _ ?_; clear hK K)
          refine Calm.walk_eff rfl rfl (fun n1 w1 _ hG _ => ?_) ?_
          · unfold gives
            go_simp
            exact ⟨⟨w1.heap.size, Nat.le_trans hkeep.size (Keep.size (S := none_) hG), rfl, Blk.new _ _ _⟩, (Keep.refl _ _).alloc _, Keep.alloc (S := none_) hG _, fun b hb => by cases hb; simp⟩
          rintro v w1 ⟨b5, -, rfl, -⟩
          clear w1
          go_frame
          intro w2 hG hD
          have hk2 : Keep none_ wr w2 := hG
          have f33 := madeT.slice (hD.1 33 rfl _ rfl ⟨rfl, rfl⟩).1
          clear hD x1 x2 x3 x4 gd ne hG
          simp only [pickOps, List.filterMap_cons, List.filterMap_nil, List.getElem?_toArray, List.getElem?_cons_succ, List.getElem?_cons_zero]
          refine wpList_append1 rfl (.tmp 26) (.tmp 59) 22 5 rfl w.heap.size (.int .u8 0) 1 1 Try.underlying22 u8_info rfl (by omega) _ (i * 8 + j) _ rfl (own_keep hown hk2 (fun _ _ e => e)) b5 _ rfl f33.2 rfl (by simp [Value.oneCell']) (by omega) (Nat.le_trans hkeep.size hk2.size) ?_
          intro v' w3 hown3 hk3
          go_frame
          go_wp2
          go_roundw
          case rel =>
            refine ⟨j + 1, by omega, by go_num, (hkeep.trans hk2).then hk3 (fun k hk => .inr hk), ?_⟩
            rw [HV.out] at hown3
            rw [← Nat.add_assoc, redTo_succ, List.map_append]
            exact hown3
          case measure => simp [intOf]; omega
        · obtain rfl : j = 8 := by omega
          go_wp2
          go_roundw
          case rel => exact ⟨i + 1, by omega, by go_num, hkeep, by rw [show (i + 1) * 8 = i * 8 + 8 by omega]; exact hown⟩
          case measure => simp [intOf]; omega
    · have hl1 : ¬ 2 * (i : Int) < h2 := by have := HH.out; omega
      go_wp2
      go_ret
      obtain rfl : i = h := by omega
      have e : redTo p 16 (i * 8) = redPlane p 16 := by rw [redTo, redPlane, HL.out, HN.out, show 32 * i / 4 = i * 8 by omega]
      rw [e] at hown
      obtain ⟨A, c', rfl, hrow⟩ := own_row (S := lt_ w.heap.size) hown (fun _ h e => Nat.lt_irrefl _ (Nat.lt_of_lt_of_le e h))
      exact ⟨_, rfl, ⟨_, _, _, rfl, hrow, fun z hz => by
        obtain ⟨k, _, rfl⟩ := List.mem_map.1 hz
        exact redAt_u8 hp _ _⟩, hkeep⟩
set_option maxRecDepth 100000 in
set_option maxHeartbeats 2000000 in
theorem reduced_32 (A : Option Addr) (n c h : Nat) (p : List Int) (w : World) (hr : Row w none_ 1 A n c (p.map (Value.int .u8))) (hp : U8s p) (hn : n = 64 * h) (hh : 0 < h) (hh2 : h ≤ 32) :
    Calls Try.prog 22 #[.slice A n c, .int .i64 32, .int .i64 (2 * h : Nat)] w (RedPost p 32 w) := by
  have hlen : p.length = n := by have := hr.len; simpa using this
  obtain ⟨b, o, rfl, -, hcell⟩ := hr.u8 (by omega)
  have HC := Lib.hid hcell
  have HL := Lib.hid hlen
  have HN := Lib.hid hn
  have hn1 : n ≤ 4096 := by omega
  clear hcell hlen hn
  obtain ⟨h2, hh2'⟩ : ∃ h2 : Nat, 2 * h = h2 := ⟨_, rfl⟩
  rw [hh2']
  have HH := Lib.hid hh2'
  have hh3 : h2 ≤ 64 := by omega
  clear hh2'
  go_enter Try.func22, Try.ntmps22
  go_wp2
  go_loopw [7, 8] (fun v y wr => ∃ i : Nat, i ≤ h ∧ y = .int .i64 (2 * i : Nat) ∧ Keep none_ w wr ∧ wr.ownsRow w.heap.size 5 1 v (i * 16) ((redTo p 32 (i * 16)).map (Value.int .u8))) (fun _ y _ => h2 - (intOf y).toNat)
  case atStart => exact ⟨0, Nat.zero_le _, rfl, Keep.refl _ _, World.ownsRow_nil _ _ _ _⟩
  case round =>
    obtain ⟨i, hi, rfl, hkeep, hown⟩ := hrel
    by_cases hlt : i < h
    · have hl1 : ((2 * i : Nat) : Int) < h2 := by have := HH.out; omega
      go_wp2
      obtain ⟨wo, rfl⟩ : ∃ wo : World, wo = wr := ⟨_, rfl⟩
      go_loopw [7, 9] (fun v x wr => ∃ j : Nat, j ≤ 16 ∧ x = .int .i64 (2 * j : Nat) ∧ Keep none_ w wr ∧ wr.ownsRow w.heap.size 5 1 v (i * 16 + j) ((redTo p 32 (i * 16 + j)).map (Value.int .u8))) (fun _ x _ => 32 - (intOf x).toNat)
      case atStart => exact ⟨0, Nat.zero_le _, rfl, hkeep, hown⟩
      case round =>
        clear hkeep hown
        obtain ⟨j, hj, rfl, hkeep, hown⟩ := hrel
        by_cases hlt2 : j < 16
        · have hl2 : ((2 * j : Nat) : Int) < 32 := by omega
          obtain ⟨q, hq⟩ : ∃ q : Nat, at4 32 (i * 16 + j) = q := ⟨_, rfl⟩
          have hq' : i * 64 + j * 2 = q := by rw [← hq]; unfold at4; omega
          have e8 : 2 * (i : Int) * 32 + 2 * (j : Int) = q := by omega
          have hqn : q + 32 + 1 < n := by have := HN.out; omega
          have HQ := Lib.hid hq
          clear hq hq'
          have c1 := hkeep.cell (HC.out q (by omega)) (fun e => e)
          have c2 := hkeep.cell (HC.out (q + 1) (by omega)) (fun e => e)
          have c3 := hkeep.cell (HC.out (q + 32) (by omega)) (fun e => e)
          have c4 := hkeep.cell (HC.out (q + 32 + 1) (by omega)) (fun e => e)
          obtain ⟨z1, hz1⟩ : ∃ z, z = p.getD q 0 := ⟨_, rfl⟩
          obtain ⟨z2, hz2⟩ : ∃ z, z = p.getD (q + 1) 0 := ⟨_, rfl⟩
          obtain ⟨z3, hz3⟩ : ∃ z, z = p.getD (q + 32) 0 := ⟨_, rfl⟩
          obtain ⟨z4, hz4⟩ : ∃ z, z = p.getD (q + 32 + 1) 0 := ⟨_, rfl⟩
          have b1 := getD_u8 hp q
          have b2 := getD_u8 hp (q + 1)
          have b3 := getD_u8 hp (q + 32)
          have b4 := getD_u8 hp (q + 32 + 1)
          rw [← hz1] at c1 b1
          rw [← hz2] at c2 b2
          rw [← hz3] at c3 b3
          rw [← hz4] at c4 b4
          have hval : (z1 + z2 + z3 + z4 + 2) / 4 = redAt p 32 (i * 16 + j) := by unfold redAt; rw [HQ.out, hz1, hz2, hz3, hz4]
          have HV := Lib.hid hval
          clear hz1 hz2 hz3 hz4 hval
          obtain ⟨b1, b1'⟩ := b1
          obtain ⟨b2, b2'⟩ := b2
          obtain ⟨b3, b3'⟩ := b3
          obtain ⟨b4, b4'⟩ := b4
          go_wp2
          have gd := oneCalm_good w.heap.size wr 33 5 #[.int .u8 ((z1 + z2 + z3 + z4 + 2) / 4)]
          have ne : Nonempty (oneCalm w.heap.size wr 33 5 #[.int .u8 ((z1 + z2 + z3 + z4 + 2) / 4)]).Sub := ⟨⟨wr, 0, Nat.zero_le _, Keep.refl _ _⟩⟩
          have x1 := fun x => (oneCalm_at (n0 := w.heap.size) (k := 33) (t := 5) (cs := #[.int .u8 ((z1 + z2 + z3 + z4 + 2) / 4)]) x).cell c1 (fun e => e)
          have x2 := fun x => (oneCalm_at (n0 := w.heap.size) (k := 33) (t := 5) (cs := #[.int .u8 ((z1 + z2 + z3 + z4 + 2) / 4)]) x).cell c2 (fun e => e)
          have x3 := fun x => (oneCalm_at (n0 := w.heap.size) (k := 33) (t := 5) (cs := #[.int .u8 ((z1 + z2 + z3 + z4 + 2) / 4)]) x).cell c3 (fun e => e)
          have x4 := fun x => (oneCalm_at (n0 := w.heap.size) (k := 33) (t := 5) (cs := #[.int .u8 ((z1 + z2 + z3 + z4 + 2) / 4)]) x).cell c4 (fun e => e)
          refine wp_region_calm (oneCalm w.heap.size wr 33 5 #[.int .u8 ((z1 + z2 + z3 + z4 + 2) / 4)]) [0, 1, 2, 3, 4, 5, 6, 7, 8, 9, 10, 11, 12, 13, 14, 15, 16, 17, 18, 19, 20, 21, 22, 23, 24, 25, 26, 27, 28, 29, 30, 31, 32, 33] [34, 35] 62 (by kernel_rfl) (by kernel_rfl) rfl gd (Keep.refl _ _).drew ?_
          simp only [pairs, List.filterMap_cons, List.filterMap_nil, List.getElem?_toArray, List.getElem?_cons_succ, List.getElem?_cons_zero, Option.map_some]
          repeat (refine Calm.walk_quiet ne rfl rfl rfl (fun K hK => ?_); go_big_quiet_op; refine hK _ ?_; clear hK K)
          refine Calm.walk_eff rfl rfl (fun n1 w1 _ hG _ => ?_) ?_
          · unfold gives
            go_simp
            exact ⟨⟨w1.heap.size, Nat.le_trans hkeep.size (Keep.size (S := none_) hG), rfl, Blk.new _ _ _⟩, (Keep.refl _ _).alloc _, Keep.alloc (S := none_) hG _, fun b hb => by cases hb; simp⟩
          rintro v w1 ⟨b5, -, rfl, -⟩
          clear w1
          go_frame
          intro w2 hG hD
          have hk2 : Keep none_ wr w2 := hG
          have f33 := madeT.slice (hD.1 33 rfl _ rfl ⟨rfl, rfl⟩).1
          clear hD x1 x2 x3 x4 gd ne hG
          simp only [pickOps, List.filterMap_cons, List.filterMap_nil, List.getElem?_toArray, List.getElem?_cons_succ, List.getElem?_cons_zero]
          refine wpList_append1 rfl (.tmp 26) (.tmp 59) 22 5 rfl w.heap.size (.int .u8 0) 1 1 Try.underlying22 u8_info rfl (by omega) _ (i * 16 + j) _ rfl (own_keep hown hk2 (fun _ _ e => e)) b5 _ rfl f33.2 rfl (by simp [Value.oneCell']) (by omega) (Nat.le_trans hkeep.size hk2.size) ?_
          intro v' w3 hown3 hk3
          go_frame
          go_wp2
          go_roundw
          case rel =>
            refine ⟨j + 1, by omega, by go_num, (hkeep.trans hk2).then hk3 (fun k hk => .inr hk), ?_⟩
            rw [HV.out] at hown3
            rw [← Nat.add_assoc, redTo_succ, List.map_append]
            exact hown3
          case measure => simp [intOf]; omega
        · obtain rfl : j = 16 := by omega
          go_wp2
          go_roundw
          case rel => exact ⟨i + 1, by omega, by go_num, hkeep, by rw [show (i + 1) * 16 = i * 16 + 16 by omega]; exact hown⟩
          case measure => simp [intOf]; omega
    · have hl1 : ¬ 2 * (i : Int) < h2 := by have := HH.out; omega
      go_wp2
      go_ret
      obtain rfl : i = h := by omega
      have e : redTo p 32 (i * 16) = redPlane p 32 := by rw [redTo, redPlane, HL.out, HN.out, show 64 * i / 4 = i * 16 by omega]
      rw [e] at hown
      obtain ⟨A, c', rfl, hrow⟩ := own_row (S := lt_ w.heap.size) hown (fun _ h e => Nat.lt_irrefl _ (Nat.lt_of_lt_of_le e h))
      exact ⟨_, rfl, ⟨_, _, _, rfl, hrow, fun z hz => by
        obtain ⟨k, _, rfl⟩ := List.mem_map.1 hz
        exact redAt_u8 hp _ _⟩, hkeep⟩
set_option maxRecDepth 100000 in
set_option maxHeartbeats 2000000 in
theorem reduced_64 (A : Option Addr) (n c h : Nat) (p : List Int) (w : World) (hr : Row w none_ 1 A n c (p.map (Value.int .u8))) (hp : U8s p) (hn : n = 128 * h) (hh : 0 < h) (hh2 : h ≤ 32) :
    Calls Try.prog 22 #[.slice A n c, .int .i64 64, .int .i64 (2 * h : Nat)] w (RedPost p 64 w) := by
  have hlen : p.length = n := by have := hr.len; simpa using this
  obtain ⟨b, o, rfl, -, hcell⟩ := hr.u8 (by omega)
  have HC := Lib.hid hcell
  have HL := Lib.hid hlen
  have HN := Lib.hid hn
  have hn1 : n ≤ 4096 := by omega
  clear hcell hlen hn
  obtain ⟨h2, hh2'⟩ : ∃ h2 : Nat, 2 * h = h2 := ⟨_, rfl⟩
  rw [hh2']
  have HH := Lib.hid hh2'
  have hh3 : h2 ≤ 64 := by omega
  clear hh2'
  go_enter Try.func22, Try.ntmps22
  go_wp2
  go_loopw [7, 8] (fun v y wr => ∃ i : Nat, i ≤ h ∧ y = .int .i64 (2 * i : Nat) ∧ Keep none_ w wr ∧ wr.ownsRow w.heap.size 5 1 v (i * 32) ((redTo p 64 (i * 32)).map (Value.int .u8))) (fun _ y _ => h2 - (intOf y).toNat)
  case atStart => exact ⟨0, Nat.zero_le _, rfl, Keep.refl _ _, World.ownsRow_nil _ _ _ _⟩
  case round =>
    obtain ⟨i, hi, rfl, hkeep, hown⟩ := hrel
    by_cases hlt : i < h
    · have hl1 : ((2 * i : Nat) : Int) < h2 := by have := HH.out; omega
      go_wp2
      obtain ⟨wo, rfl⟩ : ∃ wo : World, wo = wr := ⟨_, rfl⟩
      go_loopw [7, 9] (fun v x wr => ∃ j : Nat, j ≤ 32 ∧ x = .int .i64 (2 * j : Nat) ∧ Keep none_ w wr ∧ wr.ownsRow w.heap.size 5 1 v (i * 32 + j) ((redTo p 64 (i * 32 + j)).map (Value.int .u8))) (fun _ x _ => 64 - (intOf x).toNat)
      case atStart => exact ⟨0, Nat.zero_le _, rfl, hkeep, hown⟩
      case round =>
        clear hkeep hown
        obtain ⟨j, hj, rfl, hkeep, hown⟩ := hrel
        by_cases hlt2 : j < 32
        · have hl2 : ((2 * j : Nat) : Int) < 64 := by omega
          obtain ⟨q, hq⟩ : ∃ q : Nat, at4 64 (i * 32 + j) = q := ⟨_, rfl⟩
          have hq' : i * 128 + j * 2 = q := by rw [← hq]; unfold at4; omega
          have e8 : 2 * (i : Int) * 64 + 2 * (j : Int) = q := by omega
          have hqn : q + 64 + 1 < n := by have := HN.out; omega
          have HQ := Lib.hid hq
          clear hq hq'
          have c1 := hkeep.cell (HC.out q (by omega)) (fun e => e)
          have c2 := hkeep.cell (HC.out (q + 1) (by omega)) (fun e => e)
          have c3 := hkeep.cell (HC.out (q + 64) (by omega)) (fun e => e)
          have c4 := hkeep.cell (HC.out (q + 64 + 1) (by omega)) (fun e => e)
          obtain ⟨z1, hz1⟩ : ∃ z, z = p.getD q 0 := ⟨_, rfl⟩
          obtain ⟨z2, hz2⟩ : ∃ z, z = p.getD (q + 1) 0 := ⟨_, rfl⟩
          obtain ⟨z3, hz3⟩ : ∃ z, z = p.getD (q + 64) 0 := ⟨_, rfl⟩
          obtain ⟨z4, hz4⟩ : ∃ z, z = p.getD (q + 64 + 1) 0 := ⟨_, rfl⟩
          have b1 := getD_u8 hp q
          have b2 := getD_u8 hp (q + 1)
          have b3 := getD_u8 hp (q + 64)
          have b4 := getD_u8 hp (q + 64 + 1)
          rw [← hz1] at c1 b1
          rw [← hz2] at c2 b2
          rw [← hz3] at c3 b3
          rw [← hz4] at c4 b4
          have hval : (z1 + z2 + z3 + z4 + 2) / 4 = redAt p 64 (i * 32 + j) := by unfold redAt; rw [HQ.out, hz1, hz2, hz3, hz4]
          have HV := Lib.hid hval
          clear hz1 hz2 hz3 hz4 hval
          obtain ⟨b1, b1'⟩ := b1
          obtain ⟨b2, b2'⟩ := b2
          obtain ⟨b3, b3'⟩ := b3
          obtain ⟨b4, b4'⟩ := b4
          go_wp2
          have gd := oneCalm_good w.heap.size wr 33 5 #[.int .u8 ((z1 + z2 + z3 + z4 + 2) / 4)]
          have ne : Nonempty (oneCalm w.heap.size wr 33 5 #[.int .u8 ((z1 + z2 + z3 + z4 + 2) / 4)]).Sub := ⟨⟨wr, 0, Nat.zero_le _, Keep.refl _ _⟩⟩
          have x1 := fun x => (oneCalm_at (n0 := w.heap.size) (k := 33) (t := 5) (cs := #[.int .u8 ((z1 + z2 + z3 + z4 + 2) / 4)]) x).cell c1 (fun e => e)
          have x2 := fun x => (oneCalm_at (n0 := w.heap.size) (k := 33) (t := 5) (cs := #[.int .u8 ((z1 + z2 + z3 + z4 + 2) / 4)]) x).cell c2 (fun e => e)
          have x3 := fun x => (oneCalm_at (n0 := w.heap.size) (k := 33) (t := 5) (cs := #[.int .u8 ((z1 + z2 + z3 + z4 + 2) / 4)]) x).cell c3 (fun e => e)
          have x4 := fun x => (oneCalm_at (n0 := w.heap.size) (k := 33) (t := 5) (cs := #[.int .u8 ((z1 + z2 + z3 + z4 + 2) / 4)]) x).cell c4 (fun e => e)
          refine wp_region_calm (oneCalm w.heap.size wr 33 5 #[.int .u8 ((z1 + z2 + z3 + z4 + 2) / 4)]) [0, 1, 2, 3, 4, 5, 6, 7, 8, 9, 10, 11, 12, 13, 14, 15, 16, 17, 18, 19, 20, 21, 22, 23, 24, 25, 26, 27, 28, 29, 30, 31, 32, 33] [34, 35] 62 (by kernel_rfl) (by kernel_rfl) rfl gd (Keep.refl _ _).drew ?_
          simp only [pairs, List.filterMap_cons, List.filterMap_nil, List.getElem?_toArray, List.getElem?_cons_succ, List.getElem?_cons_zero, Option.map_some]
          repeat (refine Calm.walk_quiet ne rfl rfl rfl (fun K hK => ?_); go_big_quiet_op; refine hK _ ?_; clear hK K)
          refine Calm.walk_eff rfl rfl (fun n1 w1 _ hG _ => ?_) ?_
          · unfold gives
            go_simp
            exact ⟨⟨w1.heap.size, Nat.le_trans hkeep.size (Keep.size (S := none_) hG), rfl, Blk.new _ _ _⟩, (Keep.refl _ _).alloc _, Keep.alloc (S := none_) hG _, fun b hb => by cases hb; simp⟩
          rintro v w1 ⟨b5, -, rfl, -⟩
          clear w1
          go_frame
          intro w2 hG hD
          have hk2 : Keep none_ wr w2 := hG
          have f33 := madeT.slice (hD.1 33 rfl _ rfl ⟨rfl, rfl⟩).1
          clear hD x1 x2 x3 x4 gd ne hG
          simp only [pickOps, List.filterMap_cons, List.filterMap_nil, List.getElem?_toArray, List.getElem?_cons_succ, List.getElem?_cons_zero]
          refine wpList_append1 rfl (.tmp 26) (.tmp 59) 22 5 rfl w.heap.size (.int .u8 0) 1 1 Try.underlying22 u8_info rfl (by omega) _ (i * 32 + j) _ rfl (own_keep hown hk2 (fun _ _ e => e)) b5 _ rfl f33.2 rfl (by simp [Value.oneCell']) (by omega) (Nat.le_trans hkeep.size hk2.size) ?_
          intro v' w3 hown3 hk3
          go_frame
          go_wp2
          go_roundw
          case rel =>
            refine ⟨j + 1, by omega, by go_num, (hkeep.trans hk2).then hk3 (fun k hk => .inr hk), ?_⟩
            rw [HV.out] at hown3
            rw [← Nat.add_assoc, redTo_succ, List.map_append]
            exact hown3
          case measure => simp [intOf]; omega
        · obtain rfl : j = 32 := by omega
          go_wp2
          go_roundw
          case rel => exact ⟨i + 1, by omega, by go_num, hkeep, by rw [show (i + 1) * 32 = i * 32 + 32 by omega]; exact hown⟩
          case measure => simp [intOf]; omega
    · have hl1 : ¬ 2 * (i : Int) < h2 := by have := HH.out; omega
      go_wp2
      go_ret
      obtain rfl : i = h := by omega
      have e : redTo p 64 (i * 32) = redPlane p 64 := by rw [redTo, redPlane, HL.out, HN.out, show 128 * i / 4 = i * 32 by omega]
      rw [e] at hown
      obtain ⟨A, c', rfl, hrow⟩ := own_row (S := lt_ w.heap.size) hown (fun _ h e => Nat.lt_irrefl _ (Nat.lt_of_lt_of_le e h))
      exact ⟨_, rfl, ⟨_, _, _, rfl, hrow, fun z hz => by
        obtain ⟨k, _, rfl⟩ := List.mem_map.1 hz
        exact redAt_u8 hp _ _⟩, hkeep⟩
end Go.Proofs.Ytnpkhbcbbbpjhaa
