/-
  proxy.Header and the reference's.
-/
import Derived.Test.YtnpkhbcbbbpjhaaSeqR
namespace Go.Proofs.Ytnpkhbcbbbpjhaa
open Go.RowKit

def zeroSq : Sq := ⟨0, 0, 0, 0, false, 0, 0, List.replicate 64 0, List.replicate 64 0⟩
def hdrOk (s : Sq) : Bool := seqOk s && (s.W % 32 == 0) && (s.H % 32 == 0)
/-- 22.2: the header of the proxy. -/
def hdr (s : Sq) : Sq := if hdrOk s then { s with W := s.W / 2, H := s.H / 2, I := false } else zeroSq
def hdrE (s : Sq) : Int := if hdrOk s then 0 else 1
def HeadPost (s : Sq) (w : World) (e : Ending) (w' : World) : Prop := e = .returned (.tuple #[.agg (hdr s).cells, .int .i64 (hdrE s)]) ∧ Keep none_ w w'

theorem zeroSq_size : zeroSq.cells.size = 135 := by kernel_rfl
theorem zero_seq (w : World) : (zeroValue 42).run Try.prog w = .ok (.agg zeroSq.cells) w := by kernel_rfl
theorem seq_info : (Try.prog.info? 42).map (·.size) = some 135 := by kernel_rfl
theorem Sq.plain (s : Sq) : s.cells.all (·.oneCell') = true := by
  simp [Sq.cells, Sq.seven, Value.oneCell']
theorem Sq.set3 (s : Sq) (a b : Int) (i : Bool) : ((s.cells.setIfInBounds 0 (.int .i64 a)).setIfInBounds 1 (.int .i64 b)).setIfInBounds 4 (.bool i) = ({ s with W := a, H := b, I := i } : Sq).cells := by
  simp [Sq.cells, Sq.seven]

theorem seq_pos {s : Sq} (h : seqOk s = true) : (0 ≤ s.W ∧ s.W ≤ 64) ∧ 0 ≤ s.H ∧ s.H ≤ 64 := by
  simp [seqOk, size_, mbOk] at h
  omega

set_option maxRecDepth 100000 in
set_option maxHeartbeats 400000 in
theorem header_any (s : Sq) (w : World) (ok : s.Ok) : Calls Try.prog 13 #[.agg s.cells] w (HeadPost s w) := by
  obtain ⟨cs, hcs⟩ : ∃ cs, cs = s.cells := ⟨_, rfl⟩
  obtain ⟨zs, hzs⟩ : ∃ zs, zs = zeroSq.cells := ⟨_, rfl⟩
  have hz : ∀ w, (zeroValue 42).run Try.prog w = .ok (.agg zs) w := hzs ▸ zero_seq
  have HC := Lib.hid hcs
  have HZ := Lib.hid hzs
  rw [← hcs]
  clear hcs hzs
  go_enter Try.func13, Try.ntmps13
  go_upto_region 1 with (fail)
  obtain ⟨W0, hW0⟩ : ∃ W0, W0 = (w.alloc (.cells cs 42)).alloc (.cells zs 42) := ⟨_, rfl⟩
  obtain ⟨b0, b1, k0⟩ := two (w := w) (t0 := 42) (c0 := cs) (t1 := 42) (c1 := zs) (hW0 ▸ Keep.refl none_ W0 : Keep none_ ((w.alloc (.cells cs 42)).alloc (.cells zs 42)) W0)
  rw [← hW0]
  clear hW0
  have hsz : cs.size = 135 := by rw [HC.out]; exact s.cells_size ok
  have hszz : zs.size = 135 := by rw [HZ.out]; exact zeroSq_size
  go_wp2_with (refine wpList_load_blk rfl 42 (.tmp 1) rfl w.heap.size 42 _ _ rfl b0 Try.underlying42 rfl (by rw [hsz]; exact seq_info) ?_)
  refine Calls.mono (show Calls Try.prog 24 #[.agg cs] W0 _ from HC.out ▸ validSeq_any s W0 ok) ?_
  rintro e w1 ⟨rfl, hk1⟩
  replace b0 := b0.keep hk1 (fun e => e)
  replace b1 := b1.keep hk1 (fun e => e)
  replace k0 := k0.trans hk1
  clear hk1
  have bs : Blk w1 w.heap.size 42 s.cells := HC.out ▸ b0
  obtain ⟨⟨c0, c1, -, -, c4, -⟩, -, -⟩ := s.parts ok bs
  have f0 := b0.frozen 0
  have f1 := b0.frozen 1
  have f4 := b0.frozen 4
  clear bs
  have bad : hdrOk s = false → ∀ w2 : World, Blk w2 (w.heap.size + 1) 42 zs → Keep (one (w.heap.size + 1)) w1 w2 → HeadPost s w (.returned (.tuple #[.agg zs, .int .i64 1])) w2 := by
    intro h w2 _ hk
    refine ⟨?_, k0.own hk (by omega)⟩
    rw [HZ.out]
    simp [hdr, hdrE, h]
  cases hv : seqOk s with
  | false =>
    have hno : hdrOk s = false := by simp [hdrOk, hv]
    have BAD := Lib.hid (bad hno)
    clear bad hno hv
    go_wp2_with (refine wpList_store_blk rfl 42 (.tmp 2) (.tmp 19) rfl (w.heap.size + 1) 42 _ _ rfl rfl b1 rfl (by rw [hszz]; exact seq_info) (by rw [HZ.out]; exact Sq.plain _) ?_; intro w2 b2 hk2 _)
    refine bodyPost_ret (v := .tuple #[.agg zs, .int .i64 1]) ?_ rfl (BAD.out _ b2 hk2)
    exact results_cell_tmp' Try.results13 rfl (run_loadVar_blk b2 Try.underlying42 rfl (by rw [hszz]; exact seq_info))
  | true =>
    have hp := seq_pos hv
    obtain ⟨⟨hW0, hW1⟩, hH0, hH1⟩ := hp
    have HV := Lib.hid hv
    clear hv
    by_cases hw : s.W % 32 = 0
    · by_cases hh : s.H % 32 = 0
      · clear bad
        have good : hdrOk s = true := by simp [hdrOk, HV.out, hw, hh]
        have GOOD := Lib.hid good
        clear good
        have bS : Blk (((w1.setCell ⟨w.heap.size, 0, none⟩ (.int .i64 (s.W / 2))).setCell ⟨w.heap.size, 1, none⟩ (.int .i64 (s.H / 2))).setCell ⟨w.heap.size, 4, none⟩ (.bool false)) w.heap.size 42 (hdr s).cells := by
          have := ((b0.set_ 0 (.int .i64 (s.W / 2))).set_ 1 (.int .i64 (s.H / 2))).set_ 4 (.bool false)
          rw [HC.out, Sq.set3] at this
          simpa [hdr, GOOD.out] using this
        obtain ⟨ds, hds⟩ : ∃ ds, ds = (hdr s).cells := ⟨_, rfl⟩
        have hszd : ds.size = 135 := by
          rw [hds, hdr, GOOD.out]
          exact Sq.cells_size _ ⟨ok.ia, ok.ie, ok.n1, ok.n2, ok.d2⟩
        have HD := Lib.hid hds
        rw [← hds] at bS
        clear hds
        have b1' : Blk (((w1.setCell ⟨w.heap.size, 0, none⟩ (.int .i64 (s.W / 2))).setCell ⟨w.heap.size, 1, none⟩ (.int .i64 (s.H / 2))).setCell ⟨w.heap.size, 4, none⟩ (.bool false)) (w.heap.size + 1) 42 zs :=
          ((b1.far (p := ⟨w.heap.size, 0, none⟩) (by simp) _).far (p := ⟨w.heap.size, 1, none⟩) (by simp) _).far (p := ⟨w.heap.size, 4, none⟩) (by simp) _
        have kS : Keep none_ w (((w1.setCell ⟨w.heap.size, 0, none⟩ (.int .i64 (s.W / 2))).setCell ⟨w.heap.size, 1, none⟩ (.int .i64 (s.H / 2))).setCell ⟨w.heap.size, 4, none⟩ (.bool false)) :=
          ((k0.setCell (p := ⟨w.heap.size, 0, none⟩) (.inr (Nat.le_refl _)) _).setCell (p := ⟨w.heap.size, 1, none⟩) (.inr (Nat.le_refl _)) _).setCell (p := ⟨w.heap.size, 4, none⟩) (.inr (Nat.le_refl _)) _
        have BS := Lib.hid bS
        have B1 := Lib.hid b1'
        have KS := Lib.hid kS
        clear bS b1' kS b0 b1 k0
        go_upto_region 6 with (fail)
        have i1 : (Try.prog.info? 42).map (·.size) = some ds.size := by rw [hszd]; exact seq_info
        have i2 : zs.size = ds.size := hszz.trans hszd.symm
        have i3 : ds.all (·.oneCell') = true := by rw [HD.out]; exact Sq.plain _
        have I1 := Lib.hid i1
        have I2 := Lib.hid i2
        have I3 := Lib.hid i3
        clear i1 i2 i3 hszd hszz hsz
        go_wp2_with (first | (refine wpList_load_blk rfl 42 (.tmp 1) rfl w.heap.size 42 ds _ rfl BS.out Try.underlying42 rfl I1.out ?_) | (refine wpList_store_blk rfl 42 (.tmp 2) (.tmp 29) rfl (w.heap.size + 1) 42 zs ds rfl rfl B1.out I2.out I1.out I3.out ?_; intro w2 b2 hk2 _))
        refine bodyPost_ret (v := .tuple #[.agg ds, .int .i64 0]) ?_ rfl ⟨?_, KS.out.own hk2 (by omega)⟩
        · exact results_cell_tmp' Try.results13 rfl (run_loadVar_blk b2 Try.underlying42 rfl I1.out)
        · rw [HD.out, hdrE, GOOD.out]
          rfl
      · have BAD := Lib.hid (bad (by simp [hdrOk, hh]))
        clear bad
        go_wp2_with (refine wpList_store_blk rfl 42 (.tmp 2) (.tmp 19) rfl (w.heap.size + 1) 42 _ _ rfl rfl b1 rfl (by rw [hszz]; exact seq_info) (by rw [HZ.out]; exact Sq.plain _) ?_; intro w2 b2 hk2 _)
        refine bodyPost_ret (v := .tuple #[.agg zs, .int .i64 1]) ?_ rfl (BAD.out _ b2 hk2)
        exact results_cell_tmp' Try.results13 rfl (run_loadVar_blk b2 Try.underlying42 rfl (by rw [hszz]; exact seq_info))
    · have BAD := Lib.hid (bad (by simp [hdrOk, hw]))
      clear bad
      go_wp2_with (refine wpList_store_blk rfl 42 (.tmp 2) (.tmp 19) rfl (w.heap.size + 1) 42 _ _ rfl rfl b1 rfl (by rw [hszz]; exact seq_info) (by rw [HZ.out]; exact Sq.plain _) ?_; intro w2 b2 hk2 _)
      refine bodyPost_ret (v := .tuple #[.agg zs, .int .i64 1]) ?_ rfl (BAD.out _ b2 hk2)
      exact results_cell_tmp' Try.results13 rfl (run_loadVar_blk b2 Try.underlying42 rfl (by rw [hszz]; exact seq_info))
set_option maxRecDepth 100000 in
set_option maxHeartbeats 400000 in
theorem headerR_any (s : Sq) (w : World) (ok : s.Ok) : Calls Try.prog 14 #[.agg s.cells] w (HeadPost s w) := by
  obtain ⟨cs, hcs⟩ : ∃ cs, cs = s.cells := ⟨_, rfl⟩
  obtain ⟨zs, hzs⟩ : ∃ zs, zs = zeroSq.cells := ⟨_, rfl⟩
  have hz : ∀ w, (zeroValue 42).run Try.prog w = .ok (.agg zs) w := hzs ▸ zero_seq
  have HC := Lib.hid hcs
  have HZ := Lib.hid hzs
  rw [← hcs]
  clear hcs hzs
  go_enter Try.func14, Try.ntmps14
  go_upto_region 1 with (fail)
  obtain ⟨W0, hW0⟩ : ∃ W0, W0 = (w.alloc (.cells cs 42)).alloc (.cells zs 42) := ⟨_, rfl⟩
  obtain ⟨b0, b1, k0⟩ := two (w := w) (t0 := 42) (c0 := cs) (t1 := 42) (c1 := zs) (hW0 ▸ Keep.refl none_ W0 : Keep none_ ((w.alloc (.cells cs 42)).alloc (.cells zs 42)) W0)
  rw [← hW0]
  clear hW0
  have hsz : cs.size = 135 := by rw [HC.out]; exact s.cells_size ok
  have hszz : zs.size = 135 := by rw [HZ.out]; exact zeroSq_size
  go_wp2_with (refine wpList_load_blk rfl 42 (.tmp 1) rfl w.heap.size 42 _ _ rfl b0 Try.underlying42 rfl (by rw [hsz]; exact seq_info) ?_)
  refine Calls.mono (show Calls Try.prog 25 #[.agg cs] W0 _ from HC.out ▸ validSeqR_any s W0 ok) ?_
  rintro e w1 ⟨rfl, hk1⟩
  replace b0 := b0.keep hk1 (fun e => e)
  replace b1 := b1.keep hk1 (fun e => e)
  replace k0 := k0.trans hk1
  clear hk1
  have bs : Blk w1 w.heap.size 42 s.cells := HC.out ▸ b0
  obtain ⟨⟨c0, c1, -, -, c4, -⟩, -, -⟩ := s.parts ok bs
  have f0 := b0.frozen 0
  have f1 := b0.frozen 1
  have f4 := b0.frozen 4
  clear bs
  have bad : hdrOk s = false → ∀ w2 : World, Blk w2 (w.heap.size + 1) 42 zs → Keep (one (w.heap.size + 1)) w1 w2 → HeadPost s w (.returned (.tuple #[.agg zs, .int .i64 1])) w2 := by
    intro h w2 _ hk
    refine ⟨?_, k0.own hk (by omega)⟩
    rw [HZ.out]
    simp [hdr, hdrE, h]
  cases hv : seqOk s with
  | false =>
    have hno : hdrOk s = false := by simp [hdrOk, hv]
    have BAD := Lib.hid (bad hno)
    clear bad hno hv
    go_wp2_with (refine wpList_store_blk rfl 42 (.tmp 2) (.tmp 19) rfl (w.heap.size + 1) 42 _ _ rfl rfl b1 rfl (by rw [hszz]; exact seq_info) (by rw [HZ.out]; exact Sq.plain _) ?_; intro w2 b2 hk2 _)
    refine bodyPost_ret (v := .tuple #[.agg zs, .int .i64 1]) ?_ rfl (BAD.out _ b2 hk2)
    exact results_cell_tmp' Try.results14 rfl (run_loadVar_blk b2 Try.underlying42 rfl (by rw [hszz]; exact seq_info))
  | true =>
    have hp := seq_pos hv
    obtain ⟨⟨hW0, hW1⟩, hH0, hH1⟩ := hp
    have HV := Lib.hid hv
    clear hv
    by_cases hw : s.W % 32 = 0
    · by_cases hh : s.H % 32 = 0
      · clear bad
        have good : hdrOk s = true := by simp [hdrOk, HV.out, hw, hh]
        have GOOD := Lib.hid good
        clear good
        have bS : Blk (((w1.setCell ⟨w.heap.size, 0, none⟩ (.int .i64 (s.W / 2))).setCell ⟨w.heap.size, 1, none⟩ (.int .i64 (s.H / 2))).setCell ⟨w.heap.size, 4, none⟩ (.bool false)) w.heap.size 42 (hdr s).cells := by
          have := ((b0.set_ 0 (.int .i64 (s.W / 2))).set_ 1 (.int .i64 (s.H / 2))).set_ 4 (.bool false)
          rw [HC.out, Sq.set3] at this
          simpa [hdr, GOOD.out] using this
        obtain ⟨ds, hds⟩ : ∃ ds, ds = (hdr s).cells := ⟨_, rfl⟩
        have hszd : ds.size = 135 := by
          rw [hds, hdr, GOOD.out]
          exact Sq.cells_size _ ⟨ok.ia, ok.ie, ok.n1, ok.n2, ok.d2⟩
        have HD := Lib.hid hds
        rw [← hds] at bS
        clear hds
        have b1' : Blk (((w1.setCell ⟨w.heap.size, 0, none⟩ (.int .i64 (s.W / 2))).setCell ⟨w.heap.size, 1, none⟩ (.int .i64 (s.H / 2))).setCell ⟨w.heap.size, 4, none⟩ (.bool false)) (w.heap.size + 1) 42 zs :=
          ((b1.far (p := ⟨w.heap.size, 0, none⟩) (by simp) _).far (p := ⟨w.heap.size, 1, none⟩) (by simp) _).far (p := ⟨w.heap.size, 4, none⟩) (by simp) _
        have kS : Keep none_ w (((w1.setCell ⟨w.heap.size, 0, none⟩ (.int .i64 (s.W / 2))).setCell ⟨w.heap.size, 1, none⟩ (.int .i64 (s.H / 2))).setCell ⟨w.heap.size, 4, none⟩ (.bool false)) :=
          ((k0.setCell (p := ⟨w.heap.size, 0, none⟩) (.inr (Nat.le_refl _)) _).setCell (p := ⟨w.heap.size, 1, none⟩) (.inr (Nat.le_refl _)) _).setCell (p := ⟨w.heap.size, 4, none⟩) (.inr (Nat.le_refl _)) _
        have BS := Lib.hid bS
        have B1 := Lib.hid b1'
        have KS := Lib.hid kS
        clear bS b1' kS b0 b1 k0
        go_upto_region 4 with (fail)
        have i1 : (Try.prog.info? 42).map (·.size) = some ds.size := by rw [hszd]; exact seq_info
        have i2 : zs.size = ds.size := hszz.trans hszd.symm
        have i3 : ds.all (·.oneCell') = true := by rw [HD.out]; exact Sq.plain _
        have I1 := Lib.hid i1
        have I2 := Lib.hid i2
        have I3 := Lib.hid i3
        clear i1 i2 i3 hszd hszz hsz
        go_wp2_with (first | (refine wpList_load_blk rfl 42 (.tmp 1) rfl w.heap.size 42 ds _ rfl BS.out Try.underlying42 rfl I1.out ?_) | (refine wpList_store_blk rfl 42 (.tmp 2) (.tmp 29) rfl (w.heap.size + 1) 42 zs ds rfl rfl B1.out I2.out I1.out I3.out ?_; intro w2 b2 hk2 _))
        refine bodyPost_ret (v := .tuple #[.agg ds, .int .i64 0]) ?_ rfl ⟨?_, KS.out.own hk2 (by omega)⟩
        · exact results_cell_tmp' Try.results14 rfl (run_loadVar_blk b2 Try.underlying42 rfl I1.out)
        · rw [HD.out, hdrE, GOOD.out]
          rfl
      · have BAD := Lib.hid (bad (by simp [hdrOk, hh]))
        clear bad
        go_wp2_with (refine wpList_store_blk rfl 42 (.tmp 2) (.tmp 19) rfl (w.heap.size + 1) 42 _ _ rfl rfl b1 rfl (by rw [hszz]; exact seq_info) (by rw [HZ.out]; exact Sq.plain _) ?_; intro w2 b2 hk2 _)
        refine bodyPost_ret (v := .tuple #[.agg zs, .int .i64 1]) ?_ rfl (BAD.out _ b2 hk2)
        exact results_cell_tmp' Try.results14 rfl (run_loadVar_blk b2 Try.underlying42 rfl (by rw [hszz]; exact seq_info))
    · have BAD := Lib.hid (bad (by simp [hdrOk, hw]))
      clear bad
      go_wp2_with (refine wpList_store_blk rfl 42 (.tmp 2) (.tmp 19) rfl (w.heap.size + 1) 42 _ _ rfl rfl b1 rfl (by rw [hszz]; exact seq_info) (by rw [HZ.out]; exact Sq.plain _) ?_; intro w2 b2 hk2 _)
      refine bodyPost_ret (v := .tuple #[.agg zs, .int .i64 1]) ?_ rfl (BAD.out _ b2 hk2)
      exact results_cell_tmp' Try.results14 rfl (run_loadVar_blk b2 Try.underlying42 rfl (by rw [hszz]; exact seq_info))
end Go.Proofs.Ytnpkhbcbbbpjhaa
