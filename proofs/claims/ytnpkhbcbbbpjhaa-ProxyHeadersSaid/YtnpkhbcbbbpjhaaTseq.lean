/-
  The headers that a tape gives: Tape.Seq and large.
-/
import Derived.Test.YtnpkhbcbbbpjhaaFits
namespace Go.Proofs.Ytnpkhbcbbbpjhaa
open Go.RowKit

theorem Sq.setW (s : Sq) (a : Int) : s.cells.setIfInBounds 0 (.int .i64 a) = ({ s with W := a } : Sq).cells := by simp [Sq.cells, Sq.seven]
theorem Sq.setH (s : Sq) (a : Int) : s.cells.setIfInBounds 1 (.int .i64 a) = ({ s with H := a } : Sq).cells := by simp [Sq.cells, Sq.seven]
theorem Sq.setI (s : Sq) (a : Bool) : s.cells.setIfInBounds 4 (.bool a) = ({ s with I := a } : Sq).cells := by simp [Sq.cells, Sq.seven]
theorem Sq.setIa (s : Sq) (h : s.Ok) (k : Nat) (hk : k < 64) (z : Int) : s.cells.setIfInBounds (7 + k) (.int .u8 z) = ({ s with ia := s.ia.set k z } : Sq).cells := by
  apply Array.toList_inj.1
  simp only [Sq.cells, List.setIfInBounds_toArray, List.append_assoc, List.map_set]
  rw [List.set_append_right _ _ (by simp [Sq.seven]), List.set_append_left _ _ (by simp [Sq.seven, h.ia]; omega)]
  simp [Sq.seven]
theorem Sq.setIe (s : Sq) (h : s.Ok) (k : Nat) (z : Int) : s.cells.setIfInBounds (71 + k) (.int .u8 z) = ({ s with ie := s.ie.set k z } : Sq).cells := by
  apply Array.toList_inj.1
  simp only [Sq.cells, List.setIfInBounds_toArray, List.map_set]
  rw [List.set_append_right _ _ (by simp [Sq.seven, h.ia])]
  simp [Sq.seven, h.ia]
theorem Sq.Ok.whi {s : Sq} (h : s.Ok) (a b : Int) (i : Bool) : ({ s with W := a, H := b, I := i } : Sq).Ok := ⟨h.ia, h.ie, h.n1, h.n2, h.d2⟩
theorem Sq.Ok.rows {s : Sq} (h : s.Ok) (k : Nat) (y z : Int) : ({ s with ia := s.ia.set k y, ie := s.ie.set k z } : Sq).Ok := ⟨by simp [h.ia], by simp [h.ie], h.n1, h.n2, h.d2⟩

def s0 : Sq := { zeroSq with W := 16, H := 16, Num := 25, Den := 1, BR := 400000, Buf := 100000 }
theorem s0_ok : s0.Ok := ⟨rfl, rfl, by decide, by decide, by decide⟩
theorem s0_built : Try.prog.built 42 [(0, .int .i64 16), (1, .int .i64 16), (2, .agg #[.int .i64 25, .int .i64 1]), (4, .int .i64 400000), (5, .int .i64 100000)] = some s0.cells := by kernel_rfl

/-- A header that came off a tape. -/
def SqPost (g m : Nat) (w : World) (e : Ending) (w' : World) : Prop := ∃ s : Sq, e = .returned (.agg s.cells) ∧ s.Ok ∧ TapeAt w' g m ∧ Keep (one g) w w'

theorem sq_info {s : Sq} (h : s.Ok) : (Try.prog.info? 42).map (·.size) = some s.cells.size := by rw [s.cells_size h]; exact seq_info

section
variable {P : Program} {ops : Array Oper} {rest : List Oper} {op : Oper} {a : Act} {w : World} {Q : Exit → Act → World → Prop}
/-- A composite literal whose cells are known. -/
theorem wpList_build_is (t : TypeId) (parts : Array (Nat × Operand)) (ho : op.op = .build t parts) (hgd : op.guard = none) (cs : Array Value) (hb : P.built t (parts.toList.map fun p => (p.1, a.eval p.2)) = some cs)
    (h : wpList P ops Q rest (a.put op.dst (.agg cs)) w) : wpList P ops Q (op :: rest) a w := by
  rw [← Array.toList_map] at hb
  exact wpList_plain hgd fun _ hK => wp_build t parts ho (by rw [hb]; rfl) (hK _ _ (by rw [hb]; exact h))
end

set_option maxRecDepth 100000 in
set_option maxHeartbeats 400000 in
theorem tseq_any (g m : Nat) (w : World) (ht : TapeAt w g m) (hm : m ≤ 4503599627370000) : Calls Try.prog 12 #[.pointer (some ⟨g, 0, none⟩)] w (SqPost g (m + 1) w) := by
  have lg := ht.lt
  obtain ⟨zs, hzs⟩ : ∃ zs, zs = zeroSq.cells := ⟨_, rfl⟩
  obtain ⟨ds, hds⟩ : ∃ ds, ds = s0.cells := ⟨_, rfl⟩
  have hz : ∀ w, (zeroValue 42).run Try.prog w = .ok (.agg zs) w := hzs ▸ zero_seq
  have HB := Lib.hid (show Try.prog.built 42 [(0, .int .i64 16), (1, .int .i64 16), (2, .agg #[.int .i64 25, .int .i64 1]), (4, .int .i64 400000), (5, .int .i64 100000)] = some ds by rw [hds]; exact s0_built)
  have i1 := Lib.hid (show (Try.prog.info? 42).map (·.size) = some ds.size by rw [hds]; exact sq_info s0_ok)
  have i2 := Lib.hid (show zs.size = ds.size by rw [hds, hzs, Sq.cells_size _ s0_ok]; exact zeroSq_size)
  have i3 := Lib.hid (show ds.all (·.oneCell') = true by rw [hds]; exact Sq.plain _)
  have HZ := Lib.hid hzs
  have HD := Lib.hid hds
  clear hzs hds
  have tok : True := trivial
  go_enter Try.func12, Try.ntmps12
  go_upto_region 2 with (have _t := tok; first | (refine wpList_build_is 42 _ rfl rfl ds HB.out ?_) | (refine wpList_store_blk rfl 42 (.tmp 3) (.tmp 6) rfl (w.heap.size + 1) 42 zs ds rfl rfl (by have := Blk.new (w.alloc (.cells zs 42)) 42 zs; simpa using this) i2.out i1.out i3.out ?_; intro w1 b1 k1 s1; clear _t tok))
  go_frame
  have kz : Keep none_ w ((w.alloc (.cells zs 42)).alloc (.cells zs 42)) := ((Keep.refl _ _).alloc _).alloc _
  have k01 : Keep none_ w w1 := kz.own k1 (by omega)
  have bz : Blk w1 w.heap.size 42 zs := ((Blk.new w 42 zs).alloc _).keep k1 (fun e => by unfold one at e; omega)
  have ht1 : TapeAt w1 g m := ht.far k01 (fun _ e => e.elim)
  have l1 := b1.lt
  clear kz k1 s1 ht hz
  go_upto_if 9 with (go_at_call 15; refine (next_any g m 4 w1 ht1 (by omega) (by omega)).mono ?_; rintro e w2 ⟨r, rfl, hr, -, ht2, k2⟩)
  replace bz := bz.keep k2 (fun e => by unfold one at e; omega)
  replace b1 := b1.keep k2 (fun e => by unfold one at e; omega)
  have k02 : Keep (one g) w w2 := k01.weak.trans k2
  clear k01 ht1 k2 hr
  go_cut [4] (fun _ wx => ∃ s : Sq, s.Ok ∧ Blk wx (w.heap.size + 1) 42 s.cells ∧ Blk wx w.heap.size 42 zs ∧ TapeAt wx g (m + 1) ∧ Keep (one g) w wx)
  case first =>
    by_cases hr0 : r = 0
    · subst hr0
      rw [HD.out] at b1
      have c0 := b1.cell 0
      have c1 := b1.cell 1
      have c4 := b1.cell 4
      have f0 := b1.frozen 0
      have f1 := b1.frozen 1
      have f4 := b1.frozen 4
      rw [show s0.cells[0]? = some (.int .i64 16) from rfl] at c0
      rw [show s0.cells[1]? = some (.int .i64 16) from rfl] at c1
      rw [show s0.cells[4]? = some (.bool false) from rfl] at c4
      have B1 := Lib.hid b1
      clear b1
      go_wp2
      go_meet
      refine ⟨{ s0 with W := 16, H := 32, I := true }, s0_ok.whi _ _ _, ?_, ?_, ?_, ?_⟩
      · have := ((B1.out.set_ 0 (.int .i64 16)).set_ 1 (.int .i64 32)).set_ 4 (.bool true)
        rw [Sq.setW, Sq.setH, Sq.setI] at this
        exact this
      · exact ((bz.far (p := ⟨w.heap.size + 1, 0, none⟩) (by simp) _).far (p := ⟨w.heap.size + 1, 1, none⟩) (by simp) _).far (p := ⟨w.heap.size + 1, 4, none⟩) (by simp) _
      · refine ht2.far (S := one (w.heap.size + 1)) ((((Keep.refl (one (w.heap.size + 1)) _).setCell (p := ⟨w.heap.size + 1, 0, none⟩) (.inl rfl) _).setCell (p := ⟨w.heap.size + 1, 1, none⟩) (.inl rfl) _).setCell (p := ⟨w.heap.size + 1, 4, none⟩) (.inl rfl) _) (fun b e => by unfold one at e; omega)
      · exact ((k02.setCell (p := ⟨w.heap.size + 1, 0, none⟩) (.inr (by simp)) _).setCell (p := ⟨w.heap.size + 1, 1, none⟩) (.inr (by simp)) _).setCell (p := ⟨w.heap.size + 1, 4, none⟩) (.inr (by simp)) _
    · have hr1 : (r == 0) = false := by simpa using hr0
      go_wp2
      go_meet
      exact ⟨s0, s0_ok, HD.out ▸ b1, bz, ht2, k02⟩
  case rest =>
    clear b1 bz ht2 k02
    obtain ⟨s, ok, b1, bz, ht2, k02⟩ := hcut
    go_upto_region 5 with (fail)
    go_loopw [4] (fun i wr => ∃ (k : Nat) (s : Sq), k ≤ 64 ∧ i = .int .i64 k ∧ s.Ok ∧ Blk wr (w.heap.size + 1) 42 s.cells ∧ Blk wr w.heap.size 42 zs ∧ TapeAt wr g (m + 1) ∧ Keep (one g) w wr) (fun i _ => 64 - (intOf i).toNat)
    case atStart => exact ⟨0, s, by omega, rfl, ok, b1, bz, ht2, k02⟩
    case round =>
      clear b1 bz ht2 k02 ok
      obtain ⟨k, t, hk, rfl, ok, b1, bz, ht2, k02⟩ := hrel
      by_cases hlt : k < 64
      · have hlt' : (k : Int) < 64 := by omega
        have c1 : wr.cell? ⟨w.heap.size + 1, 7 + k, none⟩ = some (.int .u8 (t.ia.getD k 0)) := (t.parts ok b1).2.1 k _ (by simp [ok.ia, hlt])
        have f1 := b1.frozen (7 + k)
        have b2 := b1.set_ (7 + k) (.int .u8 16)
        rw [t.setIa ok k hlt] at b2
        have ok2 : ({ t with ia := t.ia.set k 16 } : Sq).Ok := ⟨by simp [ok.ia], ok.ie, ok.n1, ok.n2, ok.d2⟩
        have c2 : (wr.setCell ⟨w.heap.size + 1, 7 + k, none⟩ (.int .u8 16)).cell? ⟨w.heap.size + 1, 71 + k, none⟩ = some (.int .u8 (t.ie.getD k 0)) := (Sq.parts _ ok2 b2).2.2 k _ (by simp [ok.ie, hlt])
        have f2 := b2.frozen (71 + k)
        have b3 := b2.set_ (71 + k) (.int .u8 16)
        rw [Sq.setIe _ ok2 k] at b3
        have B3 := Lib.hid b3
        clear b1 b2 b3
        go_wp2
        go_roundw
        case rel =>
          refine ⟨k + 1, _, by omega, by go_num, ok.rows k 16 16, B3.out, ?_, ?_, ?_⟩
          · exact (bz.far (p := ⟨w.heap.size + 1, 7 + k, none⟩) (by simp) _).far (p := ⟨w.heap.size + 1, 71 + k, none⟩) (by simp) _
          · exact ht2.far (S := one (w.heap.size + 1)) (((Keep.refl (one (w.heap.size + 1)) _).setCell (p := ⟨w.heap.size + 1, 7 + k, none⟩) (.inl rfl) _).setCell (p := ⟨w.heap.size + 1, 71 + k, none⟩) (.inl rfl) _) (fun b e => by unfold one at e; omega)
          · exact (k02.setCell (p := ⟨w.heap.size + 1, 7 + k, none⟩) (.inr (by simp)) _).setCell (p := ⟨w.heap.size + 1, 71 + k, none⟩) (.inr (by simp)) _
        case measure => simp [intOf]; omega
      · obtain rfl : k = 64 := by omega
        obtain ⟨ts, hts⟩ : ∃ ts, ts = t.cells := ⟨_, rfl⟩
        have j1 := Lib.hid (show (Try.prog.info? 42).map (·.size) = some ts.size by rw [hts]; exact sq_info ok)
        have j2 := Lib.hid (show zs.size = ts.size by rw [hts, HZ.out, Sq.cells_size _ ok]; exact zeroSq_size)
        have j3 := Lib.hid (show ts.all (·.oneCell') = true by rw [hts]; exact Sq.plain _)
        have B1 := Lib.hid b1
        rw [← hts] at B1
        have HT := Lib.hid hts
        have BZ := Lib.hid bz
        clear hts b1 bz
        have tok : True := trivial
        go_wp2_with (have _t := tok; refine wpList_load_blk rfl 42 (.tmp 3) rfl (w.heap.size + 1) 42 ts _ rfl B1.out Try.underlying42 rfl j1.out ?_; go_frame; refine wpList_store_blk rfl 42 (.tmp 2) (.tmp 23) rfl w.heap.size 42 zs ts rfl rfl BZ.out j2.out j1.out j3.out ?_; intro w5 b5 k5 s5; go_frame; clear _t tok)
        refine bodyPost_ret (v := .agg ts) (results_cell Try.results12 rfl (run_loadVar_blk b5 Try.underlying42 rfl j1.out)) rfl ⟨t, by rw [HT.out], ok, ht2.far k5 (fun b e => by unfold one at e; omega), k02.own k5 (Nat.le_refl _)⟩

set_option maxRecDepth 100000 in
set_option maxHeartbeats 400000 in
theorem large_any (g m : Nat) (w : World) (ht : TapeAt w g m) (hm : m ≤ 4503599627370000) : Calls Try.prog 11 #[.pointer (some ⟨g, 0, none⟩)] w (SqPost g (m + 1 + 1) w) := by
  have lg := ht.lt
  obtain ⟨zs, hzs⟩ : ∃ zs, zs = zeroSq.cells := ⟨_, rfl⟩
  have hz : ∀ w, (zeroValue 42).run Try.prog w = .ok (.agg zs) w := hzs ▸ zero_seq
  have HZ := Lib.hid hzs
  clear hzs
  have tok : True := trivial
  obtain ⟨W0, hW0⟩ : ∃ W0, W0 = w.alloc (.cells zs 42) := ⟨_, rfl⟩
  have k0 : Keep none_ w W0 := hW0 ▸ (Keep.refl _ _).alloc _
  have bz : Blk W0 w.heap.size 42 zs := hW0 ▸ Blk.new _ _ _
  have ht0 : TapeAt W0 g m := ht.far k0 (fun _ e => e.elim)
  go_enter Try.func11, Try.ntmps11
  go_upto_region 1 with (fail)
  rw [← hW0]
  clear hW0
  go_wp2_with fail
  refine (tseq_any g m W0 ht0 hm).mono ?_
  rintro e w1 ⟨s, rfl, ok, ht1, k1⟩
  replace bz := bz.keep k1 (fun e => by unfold one at e; omega)
  have k01 : Keep (one g) w w1 := k0.weak.trans k1
  clear k0 k1 ht0 ht
  obtain ⟨ds, hds⟩ : ∃ ds, ds = s.cells := ⟨_, rfl⟩
  have i1 := Lib.hid (show (Try.prog.info? 42).map (·.size) = some ds.size by rw [hds]; exact sq_info ok)
  have i2 := Lib.hid (show zs.size = ds.size by rw [hds, HZ.out, Sq.cells_size _ ok]; exact zeroSq_size)
  have i3 := Lib.hid (show ds.all (·.oneCell') = true by rw [hds]; exact Sq.plain _)
  have HD := Lib.hid hds
  rw [← hds]
  clear hds
  go_upto_region 2 with (have _t := tok; refine wpList_store_blk rfl 42 (.tmp 3) (.tmp 5) rfl w1.heap.size 42 zs ds rfl rfl (Blk.new _ _ _) i2.out i1.out i3.out ?_; intro w2 b2 k2 s2; go_frame; clear _t tok)
  have lz := bz.lt
  have l1 := ht1.lt
  have k12 : Keep none_ w1 w2 := ((Keep.refl none_ w1).alloc _).own k2 (Nat.le_refl _)
  replace bz := bz.keep k12 (fun e => e)
  have ht2 : TapeAt w2 g (m + 1) := ht1.far k12 (fun _ e => e.elim)
  have k02 : Keep (one g) w w2 := k01.trans k12.weak
  clear k12 k01 k2 s2 ht1
  go_wp2_with fail
  refine (next_any g (m + 1) 3 w2 ht2 (by omega) (by omega)).mono ?_
  rintro e w3 ⟨r, rfl, -, -, ht3, k3⟩
  replace bz := bz.keep k3 (fun e => by unfold one at e; omega)
  replace b2 := b2.keep k3 (fun e => by unfold one at e; omega)
  have k03 : Keep (one g) w w3 := k02.trans k3
  clear k02 k3 ht2
  have lw : w.heap.size ≤ w1.heap.size := by omega
  rw [HD.out] at b2
  obtain ⟨⟨c0, c1, -, -, c4, -⟩, -, -⟩ := s.parts ok b2
  have f0 := b2.frozen 0
  have f1 := b2.frozen 1
  have f4 := b2.frozen 4
  have b5 := ((b2.set_ 0 (.int .i64 32)).set_ 1 (.int .i64 32)).set_ 4 (.bool (r == 0))
  rw [Sq.setW, Sq.setH, Sq.setI] at b5
  obtain ⟨es, hes⟩ : ∃ es, es = ({ s with W := 32, H := 32, I := (r == 0) } : Sq).cells := ⟨_, rfl⟩
  have j1 := Lib.hid (show (Try.prog.info? 42).map (·.size) = some es.size by rw [hes]; exact sq_info (ok.whi _ _ _))
  have j2 := Lib.hid (show zs.size = es.size by rw [hes, HZ.out, Sq.cells_size _ (ok.whi _ _ _)]; exact zeroSq_size)
  have j3 := Lib.hid (show es.all (·.oneCell') = true by rw [hes]; exact Sq.plain _)
  have HE := Lib.hid hes
  rw [← hes] at b5
  have B5 := Lib.hid b5
  have BZ := Lib.hid (((bz.far (p := ⟨w1.heap.size, 0, none⟩) (by simp; omega) (.int .i64 32)).far (p := ⟨w1.heap.size, 1, none⟩) (by simp; omega) (.int .i64 32)).far (p := ⟨w1.heap.size, 4, none⟩) (by simp; omega) (.bool (r == 0)))
  have K5 := Lib.hid (((k03.setCell (p := ⟨w1.heap.size, 0, none⟩) (.inr lw) (.int .i64 32)).setCell (p := ⟨w1.heap.size, 1, none⟩) (.inr lw) (.int .i64 32)).setCell (p := ⟨w1.heap.size, 4, none⟩) (.inr lw) (.bool (r == 0)))
  have T5 := Lib.hid (ht3.far (S := one w1.heap.size) ((((Keep.refl (one w1.heap.size) _).setCell (p := ⟨w1.heap.size, 0, none⟩) (.inl rfl) (.int .i64 32)).setCell (p := ⟨w1.heap.size, 1, none⟩) (.inl rfl) (.int .i64 32)).setCell (p := ⟨w1.heap.size, 4, none⟩) (.inl rfl) (.bool (r == 0))) (fun b e => by unfold one at e; omega))
  clear hes b5 bz b2 k03 ht3
  go_upto_region 3 with (fail)
  have tok : True := trivial
  go_wp2_with (have _t := tok; refine wpList_load_blk rfl 42 (.tmp 3) rfl w1.heap.size 42 es _ rfl B5.out Try.underlying42 rfl j1.out ?_; go_frame; refine wpList_store_blk rfl 42 (.tmp 2) (.tmp 12) rfl w.heap.size 42 zs es rfl rfl BZ.out j2.out j1.out j3.out ?_; intro w6 b6 k6 s6; go_frame; clear _t tok)
  refine bodyPost_ret (v := .agg es) (results_cell Try.results11 rfl (run_loadVar_blk b6 Try.underlying42 rfl j1.out)) rfl ⟨_, by rw [HE.out], ok.whi 32 32 (r == 0), T5.out.far k6 (fun b e => by unfold one at e; omega), K5.out.own k6 (Nat.le_refl _)⟩
end Go.Proofs.Ytnpkhbcbbbpjhaa
