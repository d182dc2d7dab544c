/-
  (*State).perform.
-/
import Derived.Test.YtnefbeplgfdkkaaGreatDoorJb21
import Derived.Test.YtnefbeplgfdkkaaGreatDoorJb13
namespace Go.Proofs.YtnefbeplgfdkkaaGreatDoor
open Go.RowKit

theorem V.asc {s : St} (h : V s) : Asc s.present := ((namesOk_iff _).1 h.pr).2.1
theorem V.p64 {s : St} (h : V s) : s.present.length ≤ 64 := by have := ((namesOk_iff _).1 h.pr).2.2; omega
section
variable (s : St) (vp vj vw vn vi : Value) (base : Bs) (g : Nat) (e : Ev) (w : World)
set_option maxRecDepth 100000 in
set_option maxHeartbeats 400000 in
theorem perform_1 (hK : e.kind = 1) (h : Aft w base g vp vj vw s) (_hn : StrsOf w (inn base) vn e.needs) (_hi : ItemsOf w (inn base) vi e.items) (_hv : V s) :
    Calls Tryz.prog 53 #[.pointer (some ⟨g, 0, none⟩), .agg #[.int .i64 e.kind, .string e.name, .string e.worker, vn, .int .i64 e.ticks, vi]] w (MethPost2 base g (perE s e) (perO s e) (perS s e) w) := by
  obtain ⟨W1, hW1⟩ : ∃ W1, W1 = w.alloc (.cells #[.int .i64 e.kind, .string e.name, .string e.worker, vn, .int .i64 e.ticks, vi] 78) := ⟨_, rfl⟩
  have k1 : Keep none_ w W1 := hW1 ▸ (Keep.refl none_ w).alloc _
  have b1 : Blk W1 w.heap.size 78 #[.int .i64 e.kind, .string e.name, .string e.worker, vn, .int .i64 e.ticks, vi] := hW1 ▸ Blk.new _ _ _
  have CA := Lib.hid (submit_any s vp vj vw vn base g e.name e.needs W1 (h.keep k1) (_hn.keep k1.weak))
  have y0 := b1.cell 0
  have y1 := b1.cell 1
  have y3 := b1.cell 3
  simp only [List.getElem?_toArray, List.getElem?_cons_zero, List.getElem?_cons_succ] at y0 y1 y3
  rw [hK] at y0
  obtain ⟨An, nn, cn, rfl, -⟩ : ∃ An nn cn, vn = .slice An nn cn ∧ True := by obtain ⟨A, n, c, e, -⟩ := _hn; exact ⟨A, n, c, e, trivial⟩
  have E1 := Lib.hid (show perE s e = submitE s e.name by unfold perE; simp [hK])
  have E2 := Lib.hid (show perS s e = submitS s e.name e.needs by unfold perS; simp [hK])
  have E3 := Lib.hid (show perO s e = [] by unfold perO; simp [hK])
  have K1 := Lib.hid k1
  clear h _hn _hi _hv k1 b1
  clear hK
  go_enter Tryz.func53, Tryz.ntmps53
  go_upto_region 1 with (fail)
  rw [← hW1]
  clear hW1
  go_wp2_with (go_at_call 74; refine CA.out.mono ?_; rintro e5 w5 ⟨vp5, vj5, vw5, rfl, a5, k5⟩)
  go_ret2
  exact ⟨_, _, _, _, by rw [E1.out]; rfl, by rw [E3.out]; exact ⟨rfl, .inl ⟨rfl, rfl⟩⟩, by rw [E2.out]; exact a5, K1.out.weak.trans k5⟩
set_option maxRecDepth 100000 in
set_option maxHeartbeats 400000 in
theorem perform_2 (hK : e.kind = 2) (h : Aft w base g vp vj vw s) (_hn : StrsOf w (inn base) vn e.needs) (_hi : ItemsOf w (inn base) vi e.items) (_hv : V s) :
    Calls Tryz.prog 53 #[.pointer (some ⟨g, 0, none⟩), .agg #[.int .i64 e.kind, .string e.name, .string e.worker, vn, .int .i64 e.ticks, vi]] w (MethPost2 base g (perE s e) (perO s e) (perS s e) w) := by
  obtain ⟨W1, hW1⟩ : ∃ W1, W1 = w.alloc (.cells #[.int .i64 e.kind, .string e.name, .string e.worker, vn, .int .i64 e.ticks, vi] 78) := ⟨_, rfl⟩
  have k1 : Keep none_ w W1 := hW1 ▸ (Keep.refl none_ w).alloc _
  have b1 : Blk W1 w.heap.size 78 #[.int .i64 e.kind, .string e.name, .string e.worker, vn, .int .i64 e.ticks, vi] := hW1 ▸ Blk.new _ _ _
  have CA := Lib.hid (arrive_any s vp vj vw base g e.name W1 (h.keep k1) (V.asc _hv) (V.p64 _hv))
  have y0 := b1.cell 0
  have y1 := b1.cell 1
  have y3 := b1.cell 3
  simp only [List.getElem?_toArray, List.getElem?_cons_zero, List.getElem?_cons_succ] at y0 y1 y3
  rw [hK] at y0
  obtain ⟨An, nn, cn, rfl, -⟩ : ∃ An nn cn, vn = .slice An nn cn ∧ True := by obtain ⟨A, n, c, e, -⟩ := _hn; exact ⟨A, n, c, e, trivial⟩
  have E1 := Lib.hid (show perE s e = arriveE s e.name by unfold perE; simp [hK])
  have E2 := Lib.hid (show perS s e = arriveS s e.name by unfold perS; simp [hK])
  have E3 := Lib.hid (show perO s e = [] by unfold perO; simp [hK])
  have K1 := Lib.hid k1
  clear h _hn _hi _hv k1 b1
  clear hK
  go_enter Tryz.func53, Tryz.ntmps53
  go_upto_region 1 with (fail)
  rw [← hW1]
  clear hW1
  go_wp2_with (go_at_call 75; refine CA.out.mono ?_; rintro e5 w5 ⟨vp5, vj5, vw5, rfl, a5, k5⟩)
  go_ret2
  exact ⟨_, _, _, _, by rw [E1.out]; rfl, by rw [E3.out]; exact ⟨rfl, .inl ⟨rfl, rfl⟩⟩, by rw [E2.out]; exact a5, K1.out.weak.trans k5⟩
set_option maxRecDepth 100000 in
set_option maxHeartbeats 400000 in
theorem perform_3 (hK : e.kind = 3) (h : Aft w base g vp vj vw s) (_hn : StrsOf w (inn base) vn e.needs) (_hi : ItemsOf w (inn base) vi e.items) (_hv : V s) :
    Calls Tryz.prog 53 #[.pointer (some ⟨g, 0, none⟩), .agg #[.int .i64 e.kind, .string e.name, .string e.worker, vn, .int .i64 e.ticks, vi]] w (MethPost2 base g (perE s e) (perO s e) (perS s e) w) := by
  obtain ⟨W1, hW1⟩ : ∃ W1, W1 = w.alloc (.cells #[.int .i64 e.kind, .string e.name, .string e.worker, vn, .int .i64 e.ticks, vi] 78) := ⟨_, rfl⟩
  have k1 : Keep none_ w W1 := hW1 ▸ (Keep.refl none_ w).alloc _
  have b1 : Blk W1 w.heap.size 78 #[.int .i64 e.kind, .string e.name, .string e.worker, vn, .int .i64 e.ticks, vi] := hW1 ▸ Blk.new _ _ _
  have CA := Lib.hid (leave_any s vp vj vw base g e.name W1 (h.keep k1) (V.asc _hv) (V.p64 _hv))
  have y0 := b1.cell 0
  have y1 := b1.cell 1
  have y3 := b1.cell 3
  simp only [List.getElem?_toArray, List.getElem?_cons_zero, List.getElem?_cons_succ] at y0 y1 y3
  rw [hK] at y0
  obtain ⟨An, nn, cn, rfl, -⟩ : ∃ An nn cn, vn = .slice An nn cn ∧ True := by obtain ⟨A, n, c, e, -⟩ := _hn; exact ⟨A, n, c, e, trivial⟩
  have E1 := Lib.hid (show perE s e = leaveE s e.name by unfold perE; simp [hK])
  have E2 := Lib.hid (show perS s e = leaveS s e.name by unfold perS; simp [hK])
  have E3 := Lib.hid (show perO s e = [] by unfold perO; simp [hK])
  have K1 := Lib.hid k1
  clear h _hn _hi _hv k1 b1
  clear hK
  go_enter Tryz.func53, Tryz.ntmps53
  go_upto_region 1 with (fail)
  rw [← hW1]
  clear hW1
  go_wp2_with (go_at_call 76; refine CA.out.mono ?_; rintro e5 w5 ⟨vp5, vj5, vw5, rfl, a5, k5⟩)
  go_ret2
  exact ⟨_, _, _, _, by rw [E1.out]; rfl, by rw [E3.out]; exact ⟨rfl, .inl ⟨rfl, rfl⟩⟩, by rw [E2.out]; exact a5, K1.out.weak.trans k5⟩
set_option maxRecDepth 100000 in
set_option maxHeartbeats 400000 in
theorem perform_4 (hK : e.kind = 4) (h : Aft w base g vp vj vw s) (_hn : StrsOf w (inn base) vn e.needs) (_hi : ItemsOf w (inn base) vi e.items) (_hv : V s) :
    Calls Tryz.prog 53 #[.pointer (some ⟨g, 0, none⟩), .agg #[.int .i64 e.kind, .string e.name, .string e.worker, vn, .int .i64 e.ticks, vi]] w (MethPost2 base g (perE s e) (perO s e) (perS s e) w) := by
  obtain ⟨W1, hW1⟩ : ∃ W1, W1 = w.alloc (.cells #[.int .i64 e.kind, .string e.name, .string e.worker, vn, .int .i64 e.ticks, vi] 78) := ⟨_, rfl⟩
  have k1 : Keep none_ w W1 := hW1 ▸ (Keep.refl none_ w).alloc _
  have b1 : Blk W1 w.heap.size 78 #[.int .i64 e.kind, .string e.name, .string e.worker, vn, .int .i64 e.ticks, vi] := hW1 ▸ Blk.new _ _ _
  have CA := Lib.hid (join_any s vp vj vw base g e.worker W1 (h.keep k1))
  have y0 := b1.cell 0
  have y1 := b1.cell 2
  have y3 := b1.cell 3
  simp only [List.getElem?_toArray, List.getElem?_cons_zero, List.getElem?_cons_succ] at y0 y1 y3
  rw [hK] at y0
  obtain ⟨An, nn, cn, rfl, -⟩ : ∃ An nn cn, vn = .slice An nn cn ∧ True := by obtain ⟨A, n, c, e, -⟩ := _hn; exact ⟨A, n, c, e, trivial⟩
  have E1 := Lib.hid (show perE s e = joinE s e.worker by unfold perE; simp [hK])
  have E2 := Lib.hid (show perS s e = joinS s e.worker by unfold perS; simp [hK])
  have E3 := Lib.hid (show perO s e = [] by unfold perO; simp [hK])
  have K1 := Lib.hid k1
  clear h _hn _hi _hv k1 b1
  clear hK
  go_enter Tryz.func53, Tryz.ntmps53
  go_upto_region 1 with (fail)
  rw [← hW1]
  clear hW1
  go_wp2_with (go_at_call 77; refine CA.out.mono ?_; rintro e5 w5 ⟨vp5, vj5, vw5, rfl, a5, k5⟩)
  go_ret2
  exact ⟨_, _, _, _, by rw [E1.out]; rfl, by rw [E3.out]; exact ⟨rfl, .inl ⟨rfl, rfl⟩⟩, by rw [E2.out]; exact a5, K1.out.weak.trans k5⟩
set_option maxRecDepth 100000 in
set_option maxHeartbeats 400000 in
theorem perform_5 (hK : e.kind = 5) (h : Aft w base g vp vj vw s) (_hn : StrsOf w (inn base) vn e.needs) (_hi : ItemsOf w (inn base) vi e.items) (_hv : V s) :
    Calls Tryz.prog 53 #[.pointer (some ⟨g, 0, none⟩), .agg #[.int .i64 e.kind, .string e.name, .string e.worker, vn, .int .i64 e.ticks, vi]] w (MethPost2 base g (perE s e) (perO s e) (perS s e) w) := by
  obtain ⟨W1, hW1⟩ : ∃ W1, W1 = w.alloc (.cells #[.int .i64 e.kind, .string e.name, .string e.worker, vn, .int .i64 e.ticks, vi] 78) := ⟨_, rfl⟩
  have k1 : Keep none_ w W1 := hW1 ▸ (Keep.refl none_ w).alloc _
  have b1 : Blk W1 w.heap.size 78 #[.int .i64 e.kind, .string e.name, .string e.worker, vn, .int .i64 e.ticks, vi] := hW1 ▸ Blk.new _ _ _
  have CA := Lib.hid (die_any s vp vj vw base g e.worker W1 (h.keep k1))
  have y0 := b1.cell 0
  have y1 := b1.cell 2
  have y3 := b1.cell 3
  simp only [List.getElem?_toArray, List.getElem?_cons_zero, List.getElem?_cons_succ] at y0 y1 y3
  rw [hK] at y0
  obtain ⟨An, nn, cn, rfl, -⟩ : ∃ An nn cn, vn = .slice An nn cn ∧ True := by obtain ⟨A, n, c, e, -⟩ := _hn; exact ⟨A, n, c, e, trivial⟩
  have E1 := Lib.hid (show perE s e = aliveE s.workers e.worker by unfold perE; simp [hK])
  have E2 := Lib.hid (show perS s e = dieS s e.worker by unfold perS; simp [hK])
  have E3 := Lib.hid (show perO s e = [] by unfold perO; simp [hK])
  have K1 := Lib.hid k1
  clear h _hn _hi _hv k1 b1
  clear hK
  go_enter Tryz.func53, Tryz.ntmps53
  go_upto_region 1 with (fail)
  rw [← hW1]
  clear hW1
  go_wp2_with (go_at_call 78; refine CA.out.mono ?_; rintro e5 w5 ⟨vp5, vj5, vw5, rfl, a5, k5⟩)
  go_ret2
  exact ⟨_, _, _, _, by rw [E1.out]; rfl, by rw [E3.out]; exact ⟨rfl, .inl ⟨rfl, rfl⟩⟩, by rw [E2.out]; exact a5, K1.out.weak.trans k5⟩
set_option maxRecDepth 100000 in
set_option maxHeartbeats 400000 in
theorem perform_6 (hK : e.kind = 6) (_he : evOk e = true) (h : Aft w base g vp vj vw s) (_hn : StrsOf w (inn base) vn e.needs) (_hi : ItemsOf w (inn base) vi e.items) (_hv : V s) :
    Calls Tryz.prog 53 #[.pointer (some ⟨g, 0, none⟩), .agg #[.int .i64 e.kind, .string e.name, .string e.worker, vn, .int .i64 e.ticks, vi]] w (MethPost2 base g (perE s e) (perO s e) (perS s e) w) := by
  obtain ⟨W1, hW1⟩ : ∃ W1, W1 = w.alloc (.cells #[.int .i64 e.kind, .string e.name, .string e.worker, vn, .int .i64 e.ticks, vi] 78) := ⟨_, rfl⟩
  have k1 : Keep none_ w W1 := hW1 ▸ (Keep.refl none_ w).alloc _
  have b1 : Blk W1 w.heap.size 78 #[.int .i64 e.kind, .string e.name, .string e.worker, vn, .int .i64 e.ticks, vi] := hW1 ▸ Blk.new _ _ _
  have CA := Lib.hid (poll_any s vp vj vw base g e.worker W1 (h.keep k1) (V.asc _hv) (V.p64 _hv) _hv.jl _hv.n0 _hv.n1)
  have y0 := b1.cell 0
  have y1 := b1.cell 2
  simp only [List.getElem?_toArray, List.getElem?_cons_zero, List.getElem?_cons_succ] at y0 y1
  rw [hK] at y0
  have E1 := Lib.hid (show perE s e = pollE s e.worker by unfold perE; simp [hK])
  have E2 := Lib.hid (show perS s e = pollS s e.worker by unfold perS; simp [hK])
  have E3 := Lib.hid (show perO s e = pollO s e.worker by unfold perO; simp [hK])
  have K1 := Lib.hid k1
  clear h _hn _hi _hv k1 b1 _he
  clear hK
  go_enter Tryz.func53, Tryz.ntmps53
  go_upto_region 1 with (fail)
  rw [← hW1]
  clear hW1
  go_wp2_with (go_at_call 79; refine CA.out.mono ?_; rintro e5 w5 ⟨vo5, vp5, vj5, vw5, rfl, o5, a5, k5⟩)
  go_ret2
  exact ⟨_, _, _, _, by rw [E1.out]; rfl, by rw [E3.out]; exact o5, by rw [E2.out]; exact a5, K1.out.weak.trans k5⟩
set_option maxRecDepth 100000 in
set_option maxHeartbeats 400000 in
theorem perform_9 (hK : e.kind = 9) (_he : evOk e = true) (h : Aft w base g vp vj vw s) (_hn : StrsOf w (inn base) vn e.needs) (_hi : ItemsOf w (inn base) vi e.items) (_hv : V s) :
    Calls Tryz.prog 53 #[.pointer (some ⟨g, 0, none⟩), .agg #[.int .i64 e.kind, .string e.name, .string e.worker, vn, .int .i64 e.ticks, vi]] w (MethPost2 base g (perE s e) (perO s e) (perS s e) w) := by
  obtain ⟨W1, hW1⟩ : ∃ W1, W1 = w.alloc (.cells #[.int .i64 e.kind, .string e.name, .string e.worker, vn, .int .i64 e.ticks, vi] 78) := ⟨_, rfl⟩
  have k1 : Keep none_ w W1 := hW1 ▸ (Keep.refl none_ w).alloc _
  have b1 : Blk W1 w.heap.size 78 #[.int .i64 e.kind, .string e.name, .string e.worker, vn, .int .i64 e.ticks, vi] := hW1 ▸ Blk.new _ _ _
  have CA := Lib.hid (tick_any s vp vj vw base g e.ticks W1 (h.keep k1) _hv.n0 _hv.n1 (evOk_ticks _he hK).1 (evOk_ticks _he hK).2 _hv.jl)
  have y0 := b1.cell 0
  have y1 := b1.cell 4
  simp only [List.getElem?_toArray, List.getElem?_cons_zero, List.getElem?_cons_succ] at y0 y1
  rw [hK] at y0
  have E1 := Lib.hid (show perE s e = tickE s e.ticks by unfold perE; simp [hK])
  have E2 := Lib.hid (show perS s e = tickS s e.ticks by unfold perS; simp [hK])
  have E3 := Lib.hid (show perO s e = tickO s e.ticks by unfold perO; simp [hK])
  have K1 := Lib.hid k1
  clear h _hn _hi _hv k1 b1 _he
  clear hK
  go_enter Tryz.func53, Tryz.ntmps53
  go_upto_region 1 with (fail)
  rw [← hW1]
  clear hW1
  go_wp2_with (go_at_call 81; refine CA.out.mono ?_; rintro e5 w5 ⟨vo5, vp5, vj5, vw5, rfl, o5, a5, k5⟩)
  go_ret2
  exact ⟨_, _, _, _, by rw [E1.out]; rfl, by rw [E3.out]; exact o5, by rw [E2.out]; exact a5, K1.out.weak.trans k5⟩
set_option maxRecDepth 100000 in
set_option maxHeartbeats 400000 in
theorem perform_7 (hK : e.kind = 7) (h : Aft w base g vp vj vw s) (_hn : StrsOf w (inn base) vn e.needs) (_hi : ItemsOf w (inn base) vi e.items) (_hv : V s) :
    Calls Tryz.prog 53 #[.pointer (some ⟨g, 0, none⟩), .agg #[.int .i64 e.kind, .string e.name, .string e.worker, vn, .int .i64 e.ticks, vi]] w (MethPost2 base g (perE s e) (perO s e) (perS s e) w) := by
  obtain ⟨W1, hW1⟩ : ∃ W1, W1 = w.alloc (.cells #[.int .i64 e.kind, .string e.name, .string e.worker, vn, .int .i64 e.ticks, vi] 78) := ⟨_, rfl⟩
  have k1 : Keep none_ w W1 := hW1 ▸ (Keep.refl none_ w).alloc _
  have b1 : Blk W1 w.heap.size 78 #[.int .i64 e.kind, .string e.name, .string e.worker, vn, .int .i64 e.ticks, vi] := hW1 ▸ Blk.new _ _ _
  have CA := Lib.hid (end_any s vp vj vw (.agg #[.int .i64 e.kind, .string e.name, .string e.worker, vn, .int .i64 e.ticks, vi]) base g e W1 (h.keep k1) ⟨vn, vi, rfl, _hn.keep k1.weak, _hi.keep k1.weak⟩ (fun j hj => by have := _hv.jb j hj; exact ⟨by have := this.2.2.2.1; omega, this.2.2.1⟩))
  have y0 := b1.cell 0
  simp only [List.getElem?_toArray, List.getElem?_cons_zero] at y0
  rw [hK] at y0
  obtain ⟨An, nn, cn, rfl, -⟩ : ∃ An nn cn, vn = .slice An nn cn ∧ True := by obtain ⟨A, n, c, e, -⟩ := _hn; exact ⟨A, n, c, e, trivial⟩
  obtain ⟨Ai, ni, ci, rfl, -⟩ : ∃ Ai ni ci, vi = .slice Ai ni ci ∧ True := by obtain ⟨A, n, c, e, -⟩ := _hi; exact ⟨A, n, c, e, trivial⟩
  have E1 := Lib.hid (show perE s e = endE s e by unfold perE; rw [hK]; simp)
  have E2 := Lib.hid (show perS s e = endS s e by unfold perS; simp [hK])
  have E3 := Lib.hid (show perO s e = endO s e by unfold perO; simp [hK])
  have K1 := Lib.hid k1
  have B1 := Lib.hid b1
  clear h _hn _hi _hv k1 b1
  clear hK
  go_enter Tryz.func53, Tryz.ntmps53
  go_upto_region 1 with (fail)
  rw [← hW1]
  clear hW1
  have t1 : True := trivial
  go_wp2_with (first | (have _t := t1; refine wpList_load_part 78 (.tmp 3) rfl rfl w.heap.size 0 rfl #[.int .i64 e.kind, .string e.name, .string e.worker, .slice An nn cn, .int .i64 e.ticks, .slice Ai ni ci] _ B1.out.rangeAt Tryz.underlying78 rfl (by kernel_rfl) ?_; go_frame; clear _t t1) | (go_at_call 80; refine CA.out.mono ?_; rintro e5 w5 ⟨vo5, vp5, vj5, vw5, rfl, o5, a5, k5⟩))
  go_ret2
  exact ⟨_, _, _, _, by rw [E1.out]; rfl, by rw [E3.out]; exact o5, by rw [E2.out]; exact a5, K1.out.weak.trans k5⟩
set_option maxRecDepth 100000 in
set_option maxHeartbeats 400000 in
theorem perform_8 (hK : e.kind = 8) (h : Aft w base g vp vj vw s) (_hn : StrsOf w (inn base) vn e.needs) (_hi : ItemsOf w (inn base) vi e.items) (_hv : V s) :
    Calls Tryz.prog 53 #[.pointer (some ⟨g, 0, none⟩), .agg #[.int .i64 e.kind, .string e.name, .string e.worker, vn, .int .i64 e.ticks, vi]] w (MethPost2 base g (perE s e) (perO s e) (perS s e) w) := by
  obtain ⟨W1, hW1⟩ : ∃ W1, W1 = w.alloc (.cells #[.int .i64 e.kind, .string e.name, .string e.worker, vn, .int .i64 e.ticks, vi] 78) := ⟨_, rfl⟩
  have k1 : Keep none_ w W1 := hW1 ▸ (Keep.refl none_ w).alloc _
  have b1 : Blk W1 w.heap.size 78 #[.int .i64 e.kind, .string e.name, .string e.worker, vn, .int .i64 e.ticks, vi] := hW1 ▸ Blk.new _ _ _
  have CA := Lib.hid (end_any s vp vj vw (.agg #[.int .i64 e.kind, .string e.name, .string e.worker, vn, .int .i64 e.ticks, vi]) base g e W1 (h.keep k1) ⟨vn, vi, rfl, _hn.keep k1.weak, _hi.keep k1.weak⟩ (fun j hj => by have := _hv.jb j hj; exact ⟨by have := this.2.2.2.1; omega, this.2.2.1⟩))
  have y0 := b1.cell 0
  simp only [List.getElem?_toArray, List.getElem?_cons_zero] at y0
  rw [hK] at y0
  obtain ⟨An, nn, cn, rfl, -⟩ : ∃ An nn cn, vn = .slice An nn cn ∧ True := by obtain ⟨A, n, c, e, -⟩ := _hn; exact ⟨A, n, c, e, trivial⟩
  obtain ⟨Ai, ni, ci, rfl, -⟩ : ∃ Ai ni ci, vi = .slice Ai ni ci ∧ True := by obtain ⟨A, n, c, e, -⟩ := _hi; exact ⟨A, n, c, e, trivial⟩
  have E1 := Lib.hid (show perE s e = endE s e by unfold perE; rw [hK]; simp)
  have E2 := Lib.hid (show perS s e = endS s e by unfold perS; simp [hK])
  have E3 := Lib.hid (show perO s e = endO s e by unfold perO; simp [hK])
  have K1 := Lib.hid k1
  have B1 := Lib.hid b1
  clear h _hn _hi _hv k1 b1
  clear hK
  go_enter Tryz.func53, Tryz.ntmps53
  go_upto_region 1 with (fail)
  rw [← hW1]
  clear hW1
  have t1 : True := trivial
  go_wp2_with (first | (have _t := t1; refine wpList_load_part 78 (.tmp 3) rfl rfl w.heap.size 0 rfl #[.int .i64 e.kind, .string e.name, .string e.worker, .slice An nn cn, .int .i64 e.ticks, .slice Ai ni ci] _ B1.out.rangeAt Tryz.underlying78 rfl (by kernel_rfl) ?_; go_frame; clear _t t1) | (go_at_call 80; refine CA.out.mono ?_; rintro e5 w5 ⟨vo5, vp5, vj5, vw5, rfl, o5, a5, k5⟩))
  go_ret2
  exact ⟨_, _, _, _, by rw [E1.out]; rfl, by rw [E3.out]; exact o5, by rw [E2.out]; exact a5, K1.out.weak.trans k5⟩
end
theorem perform_any (s : St) (vp vj vw v : Value) (base : Bs) (g : Nat) (e : Ev) (w : World) (h : Aft w base g vp vj vw s) (hev : EvOf w (inn base) v e) (he : evOk e = true) (hv : V s) :
    Calls Tryz.prog 53 #[.pointer (some ⟨g, 0, none⟩), v] w (MethPost2 base g (perE s e) (perO s e) (perS s e) w) := by
  obtain ⟨vn, vi, rfl, hn, hi⟩ := hev
  have hk := evOk_kind he
  have : e.kind = 1 ∨ e.kind = 2 ∨ e.kind = 3 ∨ e.kind = 4 ∨ e.kind = 5 ∨ e.kind = 6 ∨ e.kind = 7 ∨ e.kind = 8 ∨ e.kind = 9 := by omega
  rcases this with h1 | h1 | h1 | h1 | h1 | h1 | h1 | h1 | h1
  · exact perform_1 s vp vj vw vn vi base g e w h1 h hn hi hv
  · exact perform_2 s vp vj vw vn vi base g e w h1 h hn hi hv
  · exact perform_3 s vp vj vw vn vi base g e w h1 h hn hi hv
  · exact perform_4 s vp vj vw vn vi base g e w h1 h hn hi hv
  · exact perform_5 s vp vj vw vn vi base g e w h1 h hn hi hv
  · exact perform_6 s vp vj vw vn vi base g e w h1 he h hn hi hv
  · exact perform_7 s vp vj vw vn vi base g e w h1 h hn hi hv
  · exact perform_8 s vp vj vw vn vi base g e w h1 h hn hi hv
  · exact perform_9 s vp vj vw vn vi base g e w h1 he h hn hi hv
end Go.Proofs.YtnefbeplgfdkkaaGreatDoor
