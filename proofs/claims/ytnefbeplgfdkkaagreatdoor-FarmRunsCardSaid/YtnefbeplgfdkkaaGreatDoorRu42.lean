/-
  cutroomref37.change: events 2 to 8.
-/
import Derived.Test.YtnefbeplgfdkkaaGreatDoorRu37
import Derived.Test.YtnefbeplgfdkkaaGreatDoorRu40
import Derived.Test.YtnefbeplgfdkkaaGreatDoorRu41
import Derived.Test.YtnefbeplgfdkkaaGreatDoorRu21
namespace Go.Proofs.YtnefbeplgfdkkaaGreatDoor
open Go.RowKit

set_option maxRecDepth 100000 in
set_option maxHeartbeats 2000000 in
theorem rchange_join (X : XP) (s : St) (vp vj vw v : Value) (base g : Nat) (S : Nat → Prop) (e : Ev) (w : World) (hk : e.kind = 4) (h : RAft X w base (orr S base) g vp vj vw s) (he : EvOf w (orr S base) v e) (hv : V s) :
    Calls Tryz.prog 57 #[.pointer (some ⟨g, 0, none⟩), v] w (RMeth3 X base S g (perE s e) (perO s e) (perS s e) w) := by
  have HE := Lib.hid he
  obtain ⟨vn, vi, rfl, hns, his⟩ := he
  have HNS := Lib.hid hns
  obtain ⟨An, nn, cn, rfl, hnr⟩ := hns
  obtain ⟨Ai, ni, ci, rfl, -⟩ := his
  obtain ⟨W0, hW0⟩ : ∃ W0, W0 = w.alloc (.cells #[.int .i64 e.kind, .string e.name, .string e.worker, .slice An nn cn, .int .i64 e.ticks, .slice Ai ni ci] 78) := ⟨_, rfl⟩
  have k0 : Keep none_ w W0 := hW0 ▸ (Keep.refl none_ w).alloc _
  have b0 : Blk W0 w.heap.size 78 #[.int .i64 e.kind, .string e.name, .string e.worker, .slice An nn cn, .int .i64 e.ticks, .slice Ai ni ci] := hW0 ▸ Blk.new _ _ _
  have a0 := h.keep k0
  have d0 : W0.cell? ⟨w.heap.size, 0, none⟩ = some (.int .i64 e.kind) := b0.cell 0
  have HA := Lib.hid a0
  have HB := Lib.hid b0
  have K0 := Lib.hid k0
  have HE0 := Lib.hid (HE.out.keep k0.weak)
  clear h b0 k0
  have CA := Lib.hid (rwork_join X s vp vj vw _ base g S (orr S base) e W0 hk a0 HE0.out hv.wl)
  rw [hk] at d0
  clear hk a0
  go_enter Tryz.func57, Tryz.ntmps57
  go_upto_region 1 with (fail)
  rw [← hW0]
  clear hW0
  have t1 : True := trivial
  go_wp2_with (first | (have _t := t1; refine wpList_load_part 78 (.tmp 3) rfl rfl w.heap.size 0 rfl #[.int .i64 e.kind, .string e.name, .string e.worker, .slice An nn cn, .int .i64 e.ticks, .slice Ai ni ci] _ HB.out.rangeAt Tryz.underlying78 rfl (by kernel_rfl) ?_; go_frame; clear _t t1) | (go_at_call 85; refine CA.out.mono ?_; rintro e5 w5 ⟨vo5, vp5, vj5, vw5, rfl, o5, a5, k5⟩))
  go_ret2
  exact ⟨_, _, _, _, rfl, o5, a5.fin, K0.out.weak.trans k5⟩

set_option maxRecDepth 100000 in
set_option maxHeartbeats 2000000 in
theorem rchange_die (X : XP) (s : St) (vp vj vw v : Value) (base g : Nat) (S : Nat → Prop) (e : Ev) (w : World) (hk : e.kind = 5) (h : RAft X w base (orr S base) g vp vj vw s) (he : EvOf w (orr S base) v e) :
    Calls Tryz.prog 57 #[.pointer (some ⟨g, 0, none⟩), v] w (RMeth3 X base S g (perE s e) (perO s e) (perS s e) w) := by
  have HE := Lib.hid he
  obtain ⟨vn, vi, rfl, hns, his⟩ := he
  have HNS := Lib.hid hns
  obtain ⟨An, nn, cn, rfl, hnr⟩ := hns
  obtain ⟨Ai, ni, ci, rfl, -⟩ := his
  obtain ⟨W0, hW0⟩ : ∃ W0, W0 = w.alloc (.cells #[.int .i64 e.kind, .string e.name, .string e.worker, .slice An nn cn, .int .i64 e.ticks, .slice Ai ni ci] 78) := ⟨_, rfl⟩
  have k0 : Keep none_ w W0 := hW0 ▸ (Keep.refl none_ w).alloc _
  have b0 : Blk W0 w.heap.size 78 #[.int .i64 e.kind, .string e.name, .string e.worker, .slice An nn cn, .int .i64 e.ticks, .slice Ai ni ci] := hW0 ▸ Blk.new _ _ _
  have a0 := h.keep k0
  have d0 : W0.cell? ⟨w.heap.size, 0, none⟩ = some (.int .i64 e.kind) := b0.cell 0
  have HA := Lib.hid a0
  have HB := Lib.hid b0
  have K0 := Lib.hid k0
  have HE0 := Lib.hid (HE.out.keep k0.weak)
  clear h b0 k0
  have CA := Lib.hid (rwork_die X s vp vj vw _ base g S (orr S base) e W0 hk a0 HE0.out)
  rw [hk] at d0
  clear hk a0
  go_enter Tryz.func57, Tryz.ntmps57
  go_upto_region 1 with (fail)
  rw [← hW0]
  clear hW0
  have t1 : True := trivial
  go_wp2_with (first | (have _t := t1; refine wpList_load_part 78 (.tmp 3) rfl rfl w.heap.size 0 rfl #[.int .i64 e.kind, .string e.name, .string e.worker, .slice An nn cn, .int .i64 e.ticks, .slice Ai ni ci] _ HB.out.rangeAt Tryz.underlying78 rfl (by kernel_rfl) ?_; go_frame; clear _t t1) | (go_at_call 85; refine CA.out.mono ?_; rintro e5 w5 ⟨vo5, vp5, vj5, vw5, rfl, o5, a5, k5⟩))
  go_ret2
  exact ⟨_, _, _, _, rfl, o5, a5.fin, K0.out.weak.trans k5⟩

set_option maxRecDepth 100000 in
set_option maxHeartbeats 2000000 in
theorem rchange_poll (X : XP) (s : St) (vp vj vw v : Value) (base g : Nat) (S : Nat → Prop) (e : Ev) (w : World) (hk : e.kind = 6) (h : RAft X w base (orr S base) g vp vj vw s) (he : EvOf w (orr S base) v e) (hv : V s) :
    Calls Tryz.prog 57 #[.pointer (some ⟨g, 0, none⟩), v] w (RMeth3 X base S g (perE s e) (perO s e) (perS s e) w) := by
  have HE := Lib.hid he
  obtain ⟨vn, vi, rfl, hns, his⟩ := he
  have HNS := Lib.hid hns
  obtain ⟨An, nn, cn, rfl, hnr⟩ := hns
  obtain ⟨Ai, ni, ci, rfl, -⟩ := his
  obtain ⟨W0, hW0⟩ : ∃ W0, W0 = w.alloc (.cells #[.int .i64 e.kind, .string e.name, .string e.worker, .slice An nn cn, .int .i64 e.ticks, .slice Ai ni ci] 78) := ⟨_, rfl⟩
  have k0 : Keep none_ w W0 := hW0 ▸ (Keep.refl none_ w).alloc _
  have b0 : Blk W0 w.heap.size 78 #[.int .i64 e.kind, .string e.name, .string e.worker, .slice An nn cn, .int .i64 e.ticks, .slice Ai ni ci] := hW0 ▸ Blk.new _ _ _
  have a0 := h.keep k0
  have d0 : W0.cell? ⟨w.heap.size, 0, none⟩ = some (.int .i64 e.kind) := b0.cell 0
  have HA := Lib.hid a0
  have HB := Lib.hid b0
  have K0 := Lib.hid k0
  have HE0 := Lib.hid (HE.out.keep k0.weak)
  clear h b0 k0
  have CA := Lib.hid (rwork_poll X s vp vj vw _ base g S (orr S base) e W0 hk a0 HE0.out hv.n0 hv.n1)
  rw [hk] at d0
  clear hk a0
  go_enter Tryz.func57, Tryz.ntmps57
  go_upto_region 1 with (fail)
  rw [← hW0]
  clear hW0
  have t1 : True := trivial
  go_wp2_with (first | (have _t := t1; refine wpList_load_part 78 (.tmp 3) rfl rfl w.heap.size 0 rfl #[.int .i64 e.kind, .string e.name, .string e.worker, .slice An nn cn, .int .i64 e.ticks, .slice Ai ni ci] _ HB.out.rangeAt Tryz.underlying78 rfl (by kernel_rfl) ?_; go_frame; clear _t t1) | (go_at_call 85; refine CA.out.mono ?_; rintro e5 w5 ⟨vo5, vp5, vj5, vw5, rfl, o5, a5, k5⟩))
  go_ret2
  exact ⟨_, _, _, _, rfl, o5, a5.fin, K0.out.weak.trans k5⟩

set_option maxRecDepth 100000 in
set_option maxHeartbeats 2000000 in
theorem rchange_fail (X : XP) (s : St) (vp vj vw v : Value) (base g : Nat) (S : Nat → Prop) (e : Ev) (w : World) (hk : e.kind = 8) (h : RAft X w base (orr S base) g vp vj vw s) (he : EvOf w (orr S base) v e) (hv : V s) :
    Calls Tryz.prog 57 #[.pointer (some ⟨g, 0, none⟩), v] w (RMeth3 X base S g (perE s e) (perO s e) (perS s e) w) := by
  have HE := Lib.hid he
  obtain ⟨vn, vi, rfl, hns, his⟩ := he
  have HNS := Lib.hid hns
  obtain ⟨An, nn, cn, rfl, hnr⟩ := hns
  obtain ⟨Ai, ni, ci, rfl, -⟩ := his
  obtain ⟨W0, hW0⟩ : ∃ W0, W0 = w.alloc (.cells #[.int .i64 e.kind, .string e.name, .string e.worker, .slice An nn cn, .int .i64 e.ticks, .slice Ai ni ci] 78) := ⟨_, rfl⟩
  have k0 : Keep none_ w W0 := hW0 ▸ (Keep.refl none_ w).alloc _
  have b0 : Blk W0 w.heap.size 78 #[.int .i64 e.kind, .string e.name, .string e.worker, .slice An nn cn, .int .i64 e.ticks, .slice Ai ni ci] := hW0 ▸ Blk.new _ _ _
  have a0 := h.keep k0
  have d0 : W0.cell? ⟨w.heap.size, 0, none⟩ = some (.int .i64 e.kind) := b0.cell 0
  have HA := Lib.hid a0
  have HB := Lib.hid b0
  have K0 := Lib.hid k0
  have HE0 := Lib.hid (HE.out.keep k0.weak)
  clear h b0 k0
  have CA := Lib.hid (rwork_fail X s vp vj vw _ base g S e W0 hk a0 HE0.out (fun j hj => by have := hv.jb j hj; exact ⟨by have := this.2.2.2.1; omega, this.2.2.1⟩))
  rw [hk] at d0
  clear hk a0
  go_enter Tryz.func57, Tryz.ntmps57
  go_upto_region 1 with (fail)
  rw [← hW0]
  clear hW0
  have t1 : True := trivial
  go_wp2_with (first | (have _t := t1; refine wpList_load_part 78 (.tmp 3) rfl rfl w.heap.size 0 rfl #[.int .i64 e.kind, .string e.name, .string e.worker, .slice An nn cn, .int .i64 e.ticks, .slice Ai ni ci] _ HB.out.rangeAt Tryz.underlying78 rfl (by kernel_rfl) ?_; go_frame; clear _t t1) | (go_at_call 85; refine CA.out.mono ?_; rintro e5 w5 ⟨vo5, vp5, vj5, vw5, rfl, o5, a5, k5⟩))
  go_ret2
  exact ⟨_, _, _, _, rfl, o5, a5, K0.out.weak.trans k5⟩

set_option maxRecDepth 100000 in
set_option maxHeartbeats 2000000 in
theorem rchange_fin (X : XP) (s : St) (vp vj vw v : Value) (base g : Nat) (S : Nat → Prop) (e : Ev) (w : World) (hk : e.kind = 7) (h : RAft X w base (orr S base) g vp vj vw s) (he : EvOf w (orr S base) v e) (hv : V s) (hin : e.items.length * 296 ≤ 140737488355328) (hX : ∀ (S2 : Nat → Prop) (w1 : World) (v1 : Value) (xs cs : List Value), w1.ownsRow base 72 148 v1 e.items.length xs → (∀ b, v1.ownBlock = some b → ¬ S2 b) → X.p S2 w1 cs → X.p S2 w1 (cs.set 6 v1)) (hS : ∀ b, S b → b < base) :
    Calls Tryz.prog 57 #[.pointer (some ⟨g, 0, none⟩), v] w (RMeth3 X base S g (perE s e) (perO s e) (perS s e) w) := by
  have HE := Lib.hid he
  obtain ⟨vn, vi, rfl, hns, his⟩ := he
  have HNS := Lib.hid hns
  obtain ⟨An, nn, cn, rfl, hnr⟩ := hns
  obtain ⟨Ai, ni, ci, rfl, -⟩ := his
  obtain ⟨W0, hW0⟩ : ∃ W0, W0 = w.alloc (.cells #[.int .i64 e.kind, .string e.name, .string e.worker, .slice An nn cn, .int .i64 e.ticks, .slice Ai ni ci] 78) := ⟨_, rfl⟩
  have k0 : Keep none_ w W0 := hW0 ▸ (Keep.refl none_ w).alloc _
  have b0 : Blk W0 w.heap.size 78 #[.int .i64 e.kind, .string e.name, .string e.worker, .slice An nn cn, .int .i64 e.ticks, .slice Ai ni ci] := hW0 ▸ Blk.new _ _ _
  have a0 := h.keep k0
  have d0 : W0.cell? ⟨w.heap.size, 0, none⟩ = some (.int .i64 e.kind) := b0.cell 0
  have HA := Lib.hid a0
  have HB := Lib.hid b0
  have K0 := Lib.hid k0
  have HE0 := Lib.hid (HE.out.keep k0.weak)
  clear h b0 k0
  have CA := Lib.hid (rwork_fin X s vp vj vw _ base g S e W0 hk a0 HE0.out (fun j hj => by have := hv.jb j hj; exact ⟨by have := this.2.2.2.1; omega, this.2.2.1⟩) hin hX hS)
  rw [hk] at d0
  clear hk a0
  go_enter Tryz.func57, Tryz.ntmps57
  go_upto_region 1 with (fail)
  rw [← hW0]
  clear hW0
  have t1 : True := trivial
  go_wp2_with (first | (have _t := t1; refine wpList_load_part 78 (.tmp 3) rfl rfl w.heap.size 0 rfl #[.int .i64 e.kind, .string e.name, .string e.worker, .slice An nn cn, .int .i64 e.ticks, .slice Ai ni ci] _ HB.out.rangeAt Tryz.underlying78 rfl (by kernel_rfl) ?_; go_frame; clear _t t1) | (go_at_call 85; refine CA.out.mono ?_; rintro e5 w5 ⟨vo5, vp5, vj5, vw5, rfl, o5, a5, k5⟩))
  go_ret2
  exact ⟨_, _, _, _, rfl, o5, a5, K0.out.weak.trans k5⟩

set_option maxRecDepth 100000 in
set_option maxHeartbeats 2000000 in
theorem rchange_pre2 (X : XP) (s : St) (vp vj vw v : Value) (base g : Nat) (S : Nat → Prop) (e : Ev) (w : World) (hk : e.kind = 2) (h : RAft X w base (orr S base) g vp vj vw s) (he : EvOf w (orr S base) v e) (hv : V s) :
    Calls Tryz.prog 57 #[.pointer (some ⟨g, 0, none⟩), v] w (RMeth3 X base S g (perE s e) (perO s e) (perS s e) w) := by
  have HE := Lib.hid he
  obtain ⟨vn, vi, rfl, hns, his⟩ := he
  have HNS := Lib.hid hns
  obtain ⟨An, nn, cn, rfl, hnr⟩ := hns
  obtain ⟨Ai, ni, ci, rfl, -⟩ := his
  obtain ⟨W0, hW0⟩ : ∃ W0, W0 = w.alloc (.cells #[.int .i64 e.kind, .string e.name, .string e.worker, .slice An nn cn, .int .i64 e.ticks, .slice Ai ni ci] 78) := ⟨_, rfl⟩
  have k0 : Keep none_ w W0 := hW0 ▸ (Keep.refl none_ w).alloc _
  have b0 : Blk W0 w.heap.size 78 #[.int .i64 e.kind, .string e.name, .string e.worker, .slice An nn cn, .int .i64 e.ticks, .slice Ai ni ci] := hW0 ▸ Blk.new _ _ _
  have a0 := h.keep k0
  have d0 : W0.cell? ⟨w.heap.size, 0, none⟩ = some (.int .i64 e.kind) := b0.cell 0
  have HA := Lib.hid a0
  have HB := Lib.hid b0
  have K0 := Lib.hid k0
  have HE0 := Lib.hid (HE.out.keep k0.weak)
  clear h b0 k0
  have E3 := Lib.hid (show perO s e = [] by unfold perO; simp [hk])
  have CA := Lib.hid (rpresent_any X s vp vj vw _ base g S (orr S base) e W0 (by simp [hk]) a0 HE0.out ((namesOk_iff _).1 hv.pr).2.1 ((namesOk_iff _).1 hv.pr).2.2)
  rw [hk] at d0
  clear hk a0
  go_enter Tryz.func57, Tryz.ntmps57
  go_upto_region 1 with (fail)
  rw [← hW0]
  clear hW0
  have t1 : True := trivial
  go_wp2_with (first | (have _t := t1; refine wpList_load_part 78 (.tmp 3) rfl rfl w.heap.size 0 rfl #[.int .i64 e.kind, .string e.name, .string e.worker, .slice An nn cn, .int .i64 e.ticks, .slice Ai ni ci] _ HB.out.rangeAt Tryz.underlying78 rfl (by kernel_rfl) ?_; go_frame; clear _t t1) | (go_at_call 84; refine CA.out.mono ?_; rintro e5 w5 ⟨vp5, vj5, vw5, rfl, a5, k5⟩))
  go_ret2
  exact ⟨_, _, _, _, rfl, by rw [E3.out]; exact ⟨rfl, .inl ⟨rfl, rfl⟩⟩, a5.fin, K0.out.weak.trans k5⟩

set_option maxRecDepth 100000 in
set_option maxHeartbeats 2000000 in
theorem rchange_pre3 (X : XP) (s : St) (vp vj vw v : Value) (base g : Nat) (S : Nat → Prop) (e : Ev) (w : World) (hk : e.kind = 3) (h : RAft X w base (orr S base) g vp vj vw s) (he : EvOf w (orr S base) v e) (hv : V s) :
    Calls Tryz.prog 57 #[.pointer (some ⟨g, 0, none⟩), v] w (RMeth3 X base S g (perE s e) (perO s e) (perS s e) w) := by
  have HE := Lib.hid he
  obtain ⟨vn, vi, rfl, hns, his⟩ := he
  have HNS := Lib.hid hns
  obtain ⟨An, nn, cn, rfl, hnr⟩ := hns
  obtain ⟨Ai, ni, ci, rfl, -⟩ := his
  obtain ⟨W0, hW0⟩ : ∃ W0, W0 = w.alloc (.cells #[.int .i64 e.kind, .string e.name, .string e.worker, .slice An nn cn, .int .i64 e.ticks, .slice Ai ni ci] 78) := ⟨_, rfl⟩
  have k0 : Keep none_ w W0 := hW0 ▸ (Keep.refl none_ w).alloc _
  have b0 : Blk W0 w.heap.size 78 #[.int .i64 e.kind, .string e.name, .string e.worker, .slice An nn cn, .int .i64 e.ticks, .slice Ai ni ci] := hW0 ▸ Blk.new _ _ _
  have a0 := h.keep k0
  have d0 : W0.cell? ⟨w.heap.size, 0, none⟩ = some (.int .i64 e.kind) := b0.cell 0
  have HA := Lib.hid a0
  have HB := Lib.hid b0
  have K0 := Lib.hid k0
  have HE0 := Lib.hid (HE.out.keep k0.weak)
  clear h b0 k0
  have E3 := Lib.hid (show perO s e = [] by unfold perO; simp [hk])
  have CA := Lib.hid (rpresent_any X s vp vj vw _ base g S (orr S base) e W0 (by simp [hk]) a0 HE0.out ((namesOk_iff _).1 hv.pr).2.1 ((namesOk_iff _).1 hv.pr).2.2)
  rw [hk] at d0
  clear hk a0
  go_enter Tryz.func57, Tryz.ntmps57
  go_upto_region 1 with (fail)
  rw [← hW0]
  clear hW0
  have t1 : True := trivial
  go_wp2_with (first | (have _t := t1; refine wpList_load_part 78 (.tmp 3) rfl rfl w.heap.size 0 rfl #[.int .i64 e.kind, .string e.name, .string e.worker, .slice An nn cn, .int .i64 e.ticks, .slice Ai ni ci] _ HB.out.rangeAt Tryz.underlying78 rfl (by kernel_rfl) ?_; go_frame; clear _t t1) | (go_at_call 84; refine CA.out.mono ?_; rintro e5 w5 ⟨vp5, vj5, vw5, rfl, a5, k5⟩))
  go_ret2
  exact ⟨_, _, _, _, rfl, by rw [E3.out]; exact ⟨rfl, .inl ⟨rfl, rfl⟩⟩, a5.fin, K0.out.weak.trans k5⟩
end Go.Proofs.YtnefbeplgfdkkaaGreatDoor
