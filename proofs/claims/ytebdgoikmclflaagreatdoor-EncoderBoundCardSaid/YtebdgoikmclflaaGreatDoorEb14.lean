/-
  Frames of 16 by 16 samples: where blocks lie.
-/
import Derived.Test.YtebdgoikmclflaaGreatDoorEb13
import Derived.Laws.CopyRow
namespace Go.Proofs.YtebdgoikmclflaaGreatDoor
open Go.RowKit

set_option maxRecDepth 100000 in
set_option maxHeartbeats 1000000 in
theorem has_any (A1 A2 A3 : Option Addr) (c1 c2 c3 : Nat) (w : World) : Calls Tryz.prog 80 #[.agg #[.int .i64 16, .int .i64 16, .slice A1 256 c1, .slice A2 64 c2, .slice A3 64 c3], .int .i64 0, .int .i64 0] w fun e w' => e = .returned (.bool true) ∧ Keep none_ w w' := by
  obtain ⟨W0, hW0⟩ : ∃ W0, W0 = w.alloc (.cells #[.int .i64 16, .int .i64 16, .slice A1 256 c1, .slice A2 64 c2, .slice A3 64 c3] 32) := ⟨_, rfl⟩
  have k0 : Keep none_ w W0 := hW0 ▸ (Keep.refl _ _).alloc _
  have b0 : Blk W0 w.heap.size 32 #[.int .i64 16, .int .i64 16, .slice A1 256 c1, .slice A2 64 c2, .slice A3 64 c3] := hW0 ▸ Blk.new _ _ _
  have B0 := Lib.hid b0
  have K0 := Lib.hid k0
  clear k0 b0
  have t1 : True := trivial
  have t2 : True := trivial
  go_enter Tryz.func80, Tryz.ntmps80
  go_upto_region 1 with (fail)
  rw [← hW0]
  clear hW0
  go_wp2_with (first | (have _t := t1; refine wpList_load_blk rfl 32 (.tmp 3) rfl w.heap.size 32 _ _ rfl B0.out Tryz.underlying32 rfl (by kernel_rfl) ?_; go_frame; clear _t t1) | (have _t := t2; go_at_call 122; refine (pvalid_any A1 A2 A3 c1 c2 c3 W0).mono ?_; rintro e w2 ⟨rfl, k2⟩; have y0 := (B0.out.keep k2 (fun e => e)).cell 0; have y1 := (B0.out.keep k2 (fun e => e)).cell 1; simp only [List.getElem?_toArray, List.getElem?_cons_zero, List.getElem?_cons_succ] at y0 y1; have K2 := Lib.hid (K0.out.trans k2); clear k2 _t t2))
  go_ret
  exact ⟨rfl, K2.out⟩
set_option maxRecDepth 100000 in
set_option maxHeartbeats 1000000 in
theorem sized_any (A1 A2 A3 : Option Addr) (c1 c2 c3 : Nat) (w : World) : Calls Tryz.prog 20 #[.agg #[.int .i64 16, .int .i64 16, .slice A1 256 c1, .slice A2 64 c2, .slice A3 64 c3], .int .i64 16, .int .i64 16] w fun e w' => e = .returned (.bool true) ∧ Keep none_ w w' := by
  obtain ⟨W0, hW0⟩ : ∃ W0, W0 = w.alloc (.cells #[.int .i64 16, .int .i64 16, .slice A1 256 c1, .slice A2 64 c2, .slice A3 64 c3] 32) := ⟨_, rfl⟩
  have k0 : Keep none_ w W0 := hW0 ▸ (Keep.refl _ _).alloc _
  have b0 : Blk W0 w.heap.size 32 #[.int .i64 16, .int .i64 16, .slice A1 256 c1, .slice A2 64 c2, .slice A3 64 c3] := hW0 ▸ Blk.new _ _ _
  have B0 := Lib.hid b0
  have K0 := Lib.hid k0
  clear k0 b0
  have t1 : True := trivial
  have t2 : True := trivial
  go_enter Tryz.func20, Tryz.ntmps20
  go_upto_region 1 with (fail)
  rw [← hW0]
  clear hW0
  go_wp2_with (first | (have _t := t1; refine wpList_load_blk rfl 32 (.tmp 3) rfl w.heap.size 32 _ _ rfl B0.out Tryz.underlying32 rfl (by kernel_rfl) ?_; go_frame; clear _t t1) | (have _t := t2; go_at_call 41; refine (formed_any A1 A2 A3 c1 c2 c3 W0).mono ?_; rintro e w2 ⟨rfl, k2⟩; have y0 := (B0.out.keep k2 (fun e => e)).cell 0; have y1 := (B0.out.keep k2 (fun e => e)).cell 1; simp only [List.getElem?_toArray, List.getElem?_cons_zero, List.getElem?_cons_succ] at y0 y1; have K2 := Lib.hid (K0.out.trans k2); clear k2 _t t2))
  go_ret
  exact ⟨rfl, K2.out⟩
set_option maxRecDepth 100000 in
set_option maxHeartbeats 1000000 in
theorem mblock_any (w : World) : Calls Tryz.prog 82 #[.int .i64 16, .int .i64 0, .int .i64 0] w fun e w' => e = .returned (.tuple #[.agg #[.int .i64 0, .int .i64 16, .int .i64 16, .int .i64 16], .agg #[.int .i64 0, .int .i64 8, .int .i64 8, .int .i64 8]]) ∧ Keep none_ w w' := by
  have ze : ∀ w, (zeroValue 145).run Tryz.prog w = .ok (.agg #[.int .i64 0, .int .i64 0, .int .i64 0, .int .i64 0]) w := fun w => by kernel_rfl
  obtain ⟨W0, hW0⟩ : ∃ W0, W0 = (w.alloc (.cells #[.int .i64 0, .int .i64 0, .int .i64 0, .int .i64 0] 145)).alloc (.cells #[.int .i64 0, .int .i64 0, .int .i64 0, .int .i64 0] 145) := ⟨_, rfl⟩
  obtain ⟨b0, b1, k0⟩ := two (w := w) (t0 := 145) (c0 := #[.int .i64 0, .int .i64 0, .int .i64 0, .int .i64 0]) (t1 := 145) (c1 := #[.int .i64 0, .int .i64 0, .int .i64 0, .int .i64 0]) (w1 := W0) (hW0 ▸ Keep.refl none_ W0)
  have B0 := Lib.hid b0
  have B1 := Lib.hid b1
  have K0 := Lib.hid k0
  clear k0 b0 b1
  have t1 : True := trivial
  have t2 : True := trivial
  go_enter Tryz.func82, Tryz.ntmps82
  go_upto_region 1 with (fail)
  rw [← hW0]
  clear hW0
  go_upto_region 3 with (first | (have _t := t1; refine wpList_store_blk rfl 145 (.tmp 6) (.tmp 16) rfl w.heap.size 145 _ #[.int .i64 0, .int .i64 16, .int .i64 16, .int .i64 16] rfl rfl B0.out rfl (by kernel_rfl) (by simp [Value.oneCell']) ?_; intro w1 b1 k1 s1; have C0 := Lib.hid b1; have D1 := Lib.hid (B1.out.keep k1 (fun e => by unfold one at e; omega)); have K1 := Lib.hid (K0.out.own k1 (Nat.le_refl _)); clear b1 k1 s1; go_frame; clear _t t1) | (have _t := t2; refine wpList_store_blk rfl 145 (.tmp 7) (.tmp 27) rfl (w.heap.size + 1) 145 _ #[.int .i64 0, .int .i64 8, .int .i64 8, .int .i64 8] rfl rfl D1.out rfl (by kernel_rfl) (by simp [Value.oneCell']) ?_; intro w2 b2 k2 s2; have C1 := Lib.hid b2; have C2 := Lib.hid (C0.out.keep k2 (fun e => by unfold one at e; omega)); have K2 := Lib.hid (K1.out.own k2 (Nat.le_succ _)); clear b2 k2 s2; go_frame; clear _t t2))
  obtain ⟨it, hit⟩ : ∃ it : Nat → ResI, it = fun k => if k = 2 then ⟨w.heap.size, 145, #[.int .i64 0, .int .i64 16, .int .i64 16, .int .i64 16], #[.int .i64 0, .int .i64 16, .int .i64 16, .int .i64 16]⟩ else ⟨w.heap.size + 1, 145, #[.int .i64 0, .int .i64 8, .int .i64 8, .int .i64 8], #[.int .i64 0, .int .i64 8, .int .i64 8, .int .i64 8]⟩ := ⟨_, rfl⟩
  have i2 : it 2 = ⟨w.heap.size, 145, #[.int .i64 0, .int .i64 16, .int .i64 16, .int .i64 16], #[.int .i64 0, .int .i64 16, .int .i64 16, .int .i64 16]⟩ := by rw [hit]; rfl
  have i3 : it 3 = ⟨w.heap.size + 1, 145, #[.int .i64 0, .int .i64 8, .int .i64 8, .int .i64 8], #[.int .i64 0, .int .i64 8, .int .i64 8, .int .i64 8]⟩ := by rw [hit]; rfl
  clear hit
  have hd : ∀ i k, i ∈ [2, 3] → k ∈ [2, 3] → i ≠ k → (it i).b ≠ (it k).b := fun i k hi hk hne => by
    simp only [List.mem_cons, List.not_mem_nil, or_false] at hi hk
    rcases hi with rfl | rfl <;> rcases hk with rfl | rfl
    · exact absurd rfl hne
    · rw [i2, i3]; exact fun e => by simp at e
    · rw [i2, i3]; exact fun e => by simp at e
    · exact absurd rfl hne
  have hst : (resCalm w2 [2, 3] it).G 0 w2.drew := res_start (fun k hk => by
    simp only [List.mem_cons, List.not_mem_nil, or_false] at hk
    rcases hk with rfl | rfl
    · rw [i2]; exact C2.out
    · rw [i3]; exact C1.out)
  have gd := resCalm_good w2 [2, 3] it hd
  have ne : Nonempty (resCalm w2 [2, 3] it).Sub := ⟨⟨w2.drew, 0, Nat.zero_le _, hst⟩⟩
  have x1 : ∀ x : (resCalm w2 [2, 3] it).Sub, ((resCalm w2 [2, 3] it).at_ x).rangeAt w.heap.size 0 #[.int .i64 0, .int .i64 16, .int .i64 16, .int .i64 16].toList := fun x => by have h := res_same x 2 (by simp) (by rw [i2]); rw [i2] at h; exact h.rangeAt
  have x2 : ∀ x : (resCalm w2 [2, 3] it).Sub, ((resCalm w2 [2, 3] it).at_ x).rangeAt (w.heap.size + 1) 0 #[.int .i64 0, .int .i64 8, .int .i64 8, .int .i64 8].toList := fun x => by have h := res_same x 3 (by simp) (by rw [i3]); rw [i3] at h; exact h.rangeAt
  refine wp_region_calm (resCalm w2 [2, 3] it) [0, 1, 2, 3] [] 30 (by kernel_rfl) (by kernel_rfl) rfl gd hst ?_
  simp only [pairs, List.filterMap_cons, List.filterMap_nil, List.getElem?_toArray, List.getElem?_cons_succ, List.getElem?_cons_zero, Option.map_some]
  refine Calm.walk_load 145 (.tmp 6) rfl ne rfl rfl w.heap.size 0 rfl #[.int .i64 0, .int .i64 16, .int .i64 16, .int .i64 16] _ x1 Tryz.underlying145 rfl (by kernel_rfl) ?_
  go_frame
  refine Calm.walk_load 145 (.tmp 7) rfl ne rfl rfl (w.heap.size + 1) 0 rfl #[.int .i64 0, .int .i64 8, .int .i64 8, .int .i64 8] _ x2 Tryz.underlying145 rfl (by kernel_rfl) ?_
  go_frame
  refine Calm.walk_eff rfl rfl (fun n wy hn hG _ => gives_mono (res_step hd (k := 2) (by simp) hG 145 (.tmp 6) (.tmp 28) rfl (by rw [i2]; rfl) (by rw [i2]; rfl) (by rw [i2]) (by rw [i2]; kernel_rfl) (by rw [i2]; simp [Value.oneCell']) [] undef) (fun _ _ h => h)) ?_
  rintro vq wy -
  clear wy
  go_frame
  refine Calm.walk_eff rfl rfl (fun n wy hn hG _ => gives_mono (res_step hd (k := 3) (by simp) hG 145 (.tmp 7) (.tmp 29) rfl (by rw [i3]; rfl) (by rw [i3]; rfl) (by rw [i3]) (by rw [i3]; kernel_rfl) (by rw [i3]; simp [Value.oneCell']) [] undef) (fun _ _ h => h)) ?_
  rintro vq wy -
  clear wy
  go_frame
  intro w4 hG hD
  have E0 := Lib.hid (show Blk w4 w.heap.size 145 #[.int .i64 0, .int .i64 16, .int .i64 16, .int .i64 16] from by have h : Blk w4 (it 2).b (it 2).t (it 2).cs := (hD.1 2 rfl _ rfl ⟨rfl, rfl⟩).1; rw [i2] at h; exact h)
  have E1 := Lib.hid (show Blk w4 (w.heap.size + 1) 145 #[.int .i64 0, .int .i64 8, .int .i64 8, .int .i64 8] from by have h : Blk w4 (it 3).b (it 3).t (it 3).cs := (hD.1 3 rfl _ rfl ⟨rfl, rfl⟩).1; rw [i3] at h; exact h)
  have K4 := Lib.hid (show Keep none_ w w4 from K2.out.then hG.1 (fun x e => by
    obtain ⟨k, hk, e⟩ := e
    simp only [List.mem_cons, List.not_mem_nil, or_false] at hk
    rcases hk with rfl | rfl
    · rw [i2] at e; exact .inr (Nat.le_of_eq e)
    · rw [i3] at e; exact .inr (Nat.le_trans (Nat.le_succ _) (Nat.le_of_eq e))))
  clear hG hD gd ne x1 x2 hd hst
  simp only [pickOps, List.filterMap_nil]
  go_wp2
  refine bodyPost_ret (results_cells Tryz.results82 rfl rfl (run_loadVar_blk E0.out Tryz.underlying145 rfl (by kernel_rfl)) (run_loadVar_blk E1.out Tryz.underlying145 rfl (by kernel_rfl))) rfl ?_
  exact ⟨rfl, K4.out⟩
/-- Where block n of the macroblock lies: the first sample, the step, the columns, the rows. -/
def placeV (n : Nat) : Array Value := #[.int .i64 (if n < 4 then (n % 2 * 8 + n / 2 * 128 : Nat) else 0), .int .i64 (if n < 4 then 16 else 8), .int .i64 8, .int .i64 8]
set_option maxRecDepth 100000 in
set_option maxHeartbeats 4000000 in
theorem place_any (n : Nat) (hn : n < 6) (w : World) : Calls Tryz.prog 157 #[.int .i64 16, .int .i64 0, .int .i64 0, .int .i64 n, .bool false] w fun e w' => e = .returned (.agg (placeV n)) ∧ Keep none_ w w' := by
  have ze : ∀ w, (zeroValue 145).run Tryz.prog w = .ok (.agg #[.int .i64 0, .int .i64 0, .int .i64 0, .int .i64 0]) w := fun w => by kernel_rfl
  obtain ⟨W0, hW0⟩ : ∃ W0, W0 = w.alloc (.cells #[.int .i64 0, .int .i64 0, .int .i64 0, .int .i64 0] 145) := ⟨_, rfl⟩
  have k0 : Keep none_ w W0 := hW0 ▸ (Keep.refl _ _).alloc _
  have b0 : Blk W0 w.heap.size 145 #[.int .i64 0, .int .i64 0, .int .i64 0, .int .i64 0] := hW0 ▸ Blk.new _ _ _
  have B0 := Lib.hid b0
  have K0 := Lib.hid k0
  clear k0 b0
  rcases (show n = 0 ∨ n = 1 ∨ n = 2 ∨ n = 3 ∨ n = 4 ∨ n = 5 by omega) with rfl | rfl | rfl | rfl | rfl | rfl
  all_goals
    have t1 : True := trivial
    have t2 : True := trivial
    have t3 : True := trivial
    have t4 : True := trivial
    go_enter Tryz.func157, Tryz.ntmps157
    go_upto_region 1 with (fail)
    rw [← hW0]
    clear hW0
    go_upto_region 2 with (first | (have _t := t1; go_at_call 82; refine (mblock_any W0).mono ?_; rintro e w2 ⟨rfl, k2⟩; have B2 := Lib.hid (B0.out.keep k2 (fun e => e)); have K2 := Lib.hid (K0.out.trans k2); have L2 := Lib.hid k2.size; clear k2 _t t1) | (have _t := t2; refine wpList_store_blk rfl 145 (.tmp 11) (.tmp 20) rfl w2.heap.size 145 _ #[.int .i64 0, .int .i64 16, .int .i64 16, .int .i64 16] rfl rfl ((Blk.new _ _ _).alloc _) rfl (by kernel_rfl) (by simp [Value.oneCell']) ?_; intro w3 b3 k3 s3; have KB3 := Lib.hid (show Keep none_ w2 w3 from (((Keep.refl none_ w2).alloc _).alloc _).own k3 (Nat.le_refl _)); have D3 := Lib.hid (show Blk w3 (w2.heap.size + 1) 145 #[.int .i64 0, .int .i64 0, .int .i64 0, .int .i64 0] from Blk.keep (by have := Blk.new (w2.alloc (.cells #[.int .i64 0, .int .i64 0, .int .i64 0, .int .i64 0] 145)) 145 #[.int .i64 0, .int .i64 0, .int .i64 0, .int .i64 0]; simpa using this) k3 (fun e => by unfold one at e; omega)); have C3 := Lib.hid b3; clear b3 k3 s3; go_frame; clear _t t2) | (have _t := t3; refine wpList_store_blk rfl 145 (.tmp 12) (.tmp 21) rfl (w2.heap.size + 1) 145 _ #[.int .i64 0, .int .i64 8, .int .i64 8, .int .i64 8] rfl rfl D3.out rfl (by kernel_rfl) (by simp [Value.oneCell']) ?_; intro w4 b4 k4 s4; have KB4 := Lib.hid (show Keep none_ w2 w4 from KB3.out.own k4 (Nat.le_succ _)); have C4 := Lib.hid (C3.out.keep k4 (fun e => by unfold one at e; omega)); have D4 := Lib.hid b4; clear b4 k4 s4; go_frame; clear _t t3))
    have B4 := Lib.hid (B2.out.keep KB4.out (fun e => e))
    have K4 := Lib.hid (K2.out.trans KB4.out)
    have y0 : w4.cell? ⟨w2.heap.size, 0, none⟩ = some (.int .i64 0) := C4.out.cell 0
    have t5 : True := trivial
    have t6 : True := trivial
    go_wp2_with (first | (have _t := t5; refine wpList_load_blk rfl 145 (.tmp 12) rfl (w2.heap.size + 1) 145 _ _ rfl D4.out Tryz.underlying145 rfl (by kernel_rfl) ?_; go_frame; clear _t t5) | (have _t := t6; refine wpList_store_blk rfl 145 (.tmp 10) (.tmp 24) rfl w.heap.size 145 _ (placeV 4) rfl rfl B4.out rfl (by kernel_rfl) (by kernel_rfl) ?_; intro w5 b5 k5 s5; have E5 := Lib.hid b5; have K5 := Lib.hid (K4.out.own k5 (Nat.le_refl _)); clear b5 k5 s5; go_frame; clear _t t6) | (have _t := t6; refine wpList_store_blk rfl 145 (.tmp 10) (.tmp 52) rfl w.heap.size 145 _ _ rfl rfl B4.out rfl (by kernel_rfl) (by simp [Value.oneCell']) ?_; intro w5 b5 k5 s5; have E5 := Lib.hid b5; have K5 := Lib.hid (K4.out.own k5 (Nat.le_refl _)); clear b5 k5 s5; go_frame; clear _t t6))
    try simp only [Exit.inBlock, Exit.then]
    refine bodyPost_ret (results_cell Tryz.results157 rfl (run_loadVar_blk E5.out Tryz.underlying145 rfl (by kernel_rfl))) rfl ?_
    exact ⟨by first | rfl | kernel_rfl, K5.out⟩
set_option maxRecDepth 100000 in
set_option maxHeartbeats 1000000 in
theorem component_any (n : Nat) (hn : n < 6) (A1 A2 A3 : Option Addr) (c1 c2 c3 : Nat) (w : World) : Calls Tryz.prog 156 #[.agg #[.int .i64 16, .int .i64 16, .slice A1 256 c1, .slice A2 64 c2, .slice A3 64 c3], .int .i64 n] w fun e w' => e = .returned (if n < 4 then .slice A1 256 c1 else if n = 4 then .slice A2 64 c2 else .slice A3 64 c3) ∧ Keep none_ w w' := by
  have k0 : Keep none_ w (w.alloc (.cells #[.int .i64 16, .int .i64 16, .slice A1 256 c1, .slice A2 64 c2, .slice A3 64 c3] 32)) := (Keep.refl _ _).alloc _
  rcases (show n = 0 ∨ n = 1 ∨ n = 2 ∨ n = 3 ∨ n = 4 ∨ n = 5 by omega) with rfl | rfl | rfl | rfl | rfl | rfl
  all_goals
    go_enter Tryz.func156, Tryz.ntmps156
    go_wp2
    go_ret
    exact ⟨rfl, k0⟩
end Go.Proofs.YtebdgoikmclflaaGreatDoor
/-
  Planes of one number: parts cut out of them.
-/
namespace Go.Proofs.YtebdgoikmclflaaGreatDoor
open Go.RowKit

theorem Keep.setRow {w : World} {g : Nat} (cs : Array Value) : Keep (one g) w (w.setRow g cs) := ⟨rfl, rfl, rfl, by simp [World.setRow], fun k _ hk => setRow_other w g k cs hk⟩
/-- copy of n bytes z into a block of bytes. -/
theorem copy_blk {w : World} {g o dLen dCap sb so sLen sCap n : Nat} {cur : List Int} {z : Int} (ty : TypeId) (hb : ByteBlk w g cur) (hn : n = Nat.min sLen dLen) (hz : 0 ≤ z ∧ z ≤ 255) (hsrc : ∀ j, j < n → w.cell? ⟨sb, so + j, none⟩ = some (.int .u8 z)) (hfit : o + n ≤ cur.length) :
    ∃ w', (Builtin.copy_ #[30, 30] ty #[.slice (some ⟨g, o, none⟩) dLen dCap, .slice (some ⟨sb, so, none⟩) sLen sCap]).run Tryz.prog w = .ok (.int .i64 n) w' ∧ ByteBlk w' g (cur.take o ++ List.replicate n z ++ cur.drop (o + n)) ∧ Keep (one g) w w' := by
  have h := run_copy_row (P := Tryz.prog) w 30 30 ty 5 g o dLen dCap ⟨sb, so, none⟩ sLen sCap _ 5 (List.replicate n (Value.int .u8 z)) Tryz.underlying30 (by kernel_rfl) hb.1 (by simpa using hn)
    (fun j v hj => by
      rw [List.getElem?_replicate] at hj
      split at hj
      · rw [Addr.add_mid, hsrc j (by assumption), ← hj]
      · cases hj) (by simpa using hfit) (fun v hv => by rw [List.eq_of_mem_replicate hv]; rfl)
  rw [List.length_replicate] at h
  refine ⟨_, h, ⟨?_, fun x hx => ?_⟩, Keep.setRow _⟩
  · have := setRow_heap w g _ (((cur.map (Value.int .u8)).toArray.toList.take o ++ List.replicate n (Value.int .u8 z) ++ (cur.map (Value.int .u8)).toArray.toList.drop (o + n)).toArray) _ _ hb.1
    refine (show Blk _ _ _ _ from this).trans ?_
    simp [List.map_take, List.map_drop]
  · rcases List.mem_append.1 hx with hx | hx
    · rcases List.mem_append.1 hx with hx | hx
      · exact hb.2 x (List.mem_of_mem_take hx)
      · rw [List.eq_of_mem_replicate hx]; exact hz
    · exact hb.2 x (List.mem_of_mem_drop hx)
/-- A list whose first a entries are y, the others x. -/
def mixL (N a : Nat) (x y : Int) : List Int := List.replicate a y ++ List.replicate (N - a) x
theorem mixL_length {N a : Nat} {x y : Int} (h : a ≤ N) : (mixL N a x y).length = N := by unfold mixL; simp; omega
theorem mixL_more {N a n : Nat} {x y : Int} (h : a + n ≤ N) : (mixL N a x y).take a ++ List.replicate n y ++ (mixL N a x y).drop (a + n) = mixL N (a + n) x y := by
  unfold mixL
  rw [List.take_left' (by simp), List.drop_append, List.drop_eq_nil_of_le (by simp), List.nil_append, List.length_replicate, List.drop_replicate, List.append_assoc, ← List.append_assoc (List.replicate a y), List.replicate_append_replicate]
  congr 2
  omega
theorem mixL_zero (N : Nat) (x y : Int) : mixL N 0 x y = List.replicate N x := by unfold mixL; simp
theorem mixL_all (N : Nat) (x y : Int) : mixL N N x y = List.replicate N y := by unfold mixL; simp
/-- A part of a list of one number, written again. -/
theorem rep_same {N o n : Nat} {z : Int} (h : o + n ≤ N) : (List.replicate N z).take o ++ List.replicate n z ++ (List.replicate N z).drop (o + n) = List.replicate N z := by
  rw [List.take_replicate, List.drop_replicate, List.replicate_append_replicate, List.replicate_append_replicate]
  congr 1
  omega
/-- A slice of N bytes z. -/
def CstS (w : World) (S : Nat → Prop) (N : Nat) (z : Int) (A : Option Addr) (C : Nat) : Prop := Row w S 1 A N C ((List.replicate N z).map (Value.int .u8)) ∧ 0 ≤ z ∧ z ≤ 255
theorem CstS.keep {w w' : World} {S : Nat → Prop} {N C : Nat} {z : Int} {A : Option Addr} (h : CstS w S N z A C) (k : Keep S w w') : CstS w' S N z A C := ⟨h.1.keep k, h.2⟩
theorem CstS.at_ {w : World} {S : Nat → Prop} {N C : Nat} {z : Int} {A : Option Addr} (h : CstS w S N z A C) (hN : 0 < N) : ∃ b o, A = some ⟨b, o, none⟩ ∧ ¬ S b ∧ ∀ j, j < N → w.cell? ⟨b, o + j, none⟩ = some (.int .u8 z) := by
  obtain ⟨b, o, e, hb, hc⟩ := h.1.at_ hN
  exact ⟨b, o, e, hb, fun j hj => hc j _ (by simp [hj])⟩
theorem CstS.of_blk {w : World} {S : Nat → Prop} {N b : Nat} {z : Int} (h : ByteBlk w b (List.replicate N z)) (hz : 0 ≤ z ∧ z ≤ 255) (hN : N ≤ maxLen) (hS : ¬ S b) : CstS w S N z (some ⟨b, 0, none⟩) N := by
  refine ⟨⟨by simp, Nat.le_refl _, hN, fun _ => ⟨b, 0, rfl, hS, fun j u hj => ?_⟩⟩, hz⟩
  rw [h.1.cell, List.getElem?_toArray, Nat.zero_add]
  exact hj
end Go.Proofs.YtebdgoikmclflaaGreatDoor
