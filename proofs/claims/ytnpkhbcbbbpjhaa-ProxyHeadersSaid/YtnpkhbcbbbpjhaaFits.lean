/-
  proxy.Fits and the reference's; the headers that a tape gives.
-/
import Derived.Test.YtnpkhbcbbbpjhaaSqEq
import Derived.Test.YtnpkhbcbbbpjhaaTape
namespace Go.Proofs.Ytnpkhbcbbbpjhaa
open Go.RowKit

theorem Sq.rat (s : Sq) : s.cells.extract 2 (2 + 2) = #[.int .i64 s.Num, .int .i64 s.Den] := by
  apply Array.toList_inj.1
  simp [Sq.cells, Sq.seven]
theorem Sq.intra (s : Sq) (h : s.Ok) : s.cells.extract 7 (7 + 64) = (s.ia.map (Value.int .u8)).toArray := by
  apply Array.toList_inj.1
  simp [Sq.cells, Sq.seven, h.ia]
theorem Sq.inter (s : Sq) (h : s.Ok) : s.cells.extract 71 (71 + 64) = (s.ie.map (Value.int .u8)).toArray := by
  apply Array.toList_inj.1
  simp [Sq.cells, Sq.seven, h.ia]
  exact List.take_of_length_le (by simp [h.ie])
theorem cells_inj {xs ys : Array Value} {i : Nat} {a b : Value} (h1 : xs[i]? = some a) (h2 : ys[i]? = some b) (e : xs = ys) : a = b := by
  subst e
  exact Option.some.inj (h1.symm.trans h2)
theorem eqOk_row (d : Nat) (a b : List Int) (ha : a.length = 64) (hb : b.length = 64) : EqOk Try.prog (d + 1 + 1) 40 (.agg (a.map (Value.int .u8)).toArray) (.agg (b.map (Value.int .u8)).toArray) := by
  refine eqOk_array _ _ Try.underlying40 (fun w => by kernel_rfl) fun i hi => ?_
  have h1 : (a.map (Value.int .u8)).toArray[i]? = some (.int .u8 (a.getD i 0)) := by simp [show i < a.length by omega]
  have h2 : (b.map (Value.int .u8)).toArray[i]? = some (.int .u8 (b.getD i 0)) := by simp [show i < b.length by omega]
  exact ⟨_, _, PartIs.one Try.underlying5 rfl h1, PartIs.one Try.underlying5 rfl h2, cells_inj h1 h2, eqOk_int _ _ Try.underlying5⟩
theorem eqOk_rat (d : Nat) (a b c e : Int) : EqOk Try.prog (d + 1 + 1) 39 (.agg #[.int .i64 a, .int .i64 b]) (.agg #[.int .i64 c, .int .i64 e]) := by
  refine eqOk_struct _ _ Try.underlying39 (by kernel_rfl) fun f hf => ?_
  simp only [List.mem_cons, List.not_mem_nil, or_false] at hf
  rcases hf with rfl | rfl
  · exact ⟨.int .i64 a, .int .i64 c, PartIs.one Try.underlying2 rfl rfl, PartIs.one Try.underlying2 rfl rfl, cells_inj (i := 0) rfl rfl, eqOk_int _ _ Try.underlying2⟩
  · exact ⟨.int .i64 b, .int .i64 e, PartIs.one Try.underlying2 rfl rfl, PartIs.one Try.underlying2 rfl rfl, cells_inj (i := 1) rfl rfl, eqOk_int _ _ Try.underlying2⟩
theorem seq_eq (x y : Sq) (hx : x.Ok) (hy : y.Ok) : EqOk Try.prog 10000 42 (.agg x.cells) (.agg y.cells) := by
  have c0 : ∀ s : Sq, s.cells[0]? = some (.int .i64 s.W) := fun s => by simp [Sq.cells, Sq.seven]
  have c1 : ∀ s : Sq, s.cells[1]? = some (.int .i64 s.H) := fun s => by simp [Sq.cells, Sq.seven]
  have c4 : ∀ s : Sq, s.cells[4]? = some (.bool s.I) := fun s => by simp [Sq.cells, Sq.seven]
  have c5 : ∀ s : Sq, s.cells[5]? = some (.int .i64 s.BR) := fun s => by simp [Sq.cells, Sq.seven]
  have c6 : ∀ s : Sq, s.cells[6]? = some (.int .i64 s.Buf) := fun s => by simp [Sq.cells, Sq.seven]
  refine eqOk_struct (d := 9999) _ _ Try.underlying42 (by kernel_rfl) fun f hf => ?_
  simp only [List.mem_cons, List.not_mem_nil, or_false] at hf
  rcases hf with rfl | rfl | rfl | rfl | rfl | rfl | rfl | rfl
  · exact ⟨_, _, PartIs.one Try.underlying3 rfl (c0 x), PartIs.one Try.underlying3 rfl (c0 y), cells_inj (c0 x) (c0 y), eqOk_int _ _ Try.underlying3⟩
  · exact ⟨_, _, PartIs.one Try.underlying3 rfl (c1 x), PartIs.one Try.underlying3 rfl (c1 y), cells_inj (c1 x) (c1 y), eqOk_int _ _ Try.underlying3⟩
  · refine ⟨_, _, PartIs.many (n := 2) Try.underlying39 rfl (fun w => by kernel_rfl), PartIs.many (n := 2) Try.underlying39 rfl (fun w => by kernel_rfl), fun e => by rw [e], ?_⟩
    show EqOk Try.prog 9999 39 (.agg (x.cells.extract 2 (2 + 2))) (.agg (y.cells.extract 2 (2 + 2)))
    rw [x.rat, y.rat]
    exact eqOk_rat 9997 _ _ _ _
  · exact ⟨_, _, PartIs.one Try.underlying4 rfl (c4 x), PartIs.one Try.underlying4 rfl (c4 y), cells_inj (c4 x) (c4 y), eqOk_bool _ _ Try.underlying4⟩
  · exact ⟨_, _, PartIs.one Try.underlying3 rfl (c5 x), PartIs.one Try.underlying3 rfl (c5 y), cells_inj (c5 x) (c5 y), eqOk_int _ _ Try.underlying3⟩
  · exact ⟨_, _, PartIs.one Try.underlying3 rfl (c6 x), PartIs.one Try.underlying3 rfl (c6 y), cells_inj (c6 x) (c6 y), eqOk_int _ _ Try.underlying3⟩
  · refine ⟨_, _, PartIs.many (n := 64) Try.underlying40 rfl (fun w => by kernel_rfl), PartIs.many (n := 64) Try.underlying40 rfl (fun w => by kernel_rfl), fun e => by rw [e], ?_⟩
    show EqOk Try.prog 9999 40 (.agg (x.cells.extract 7 (7 + 64))) (.agg (y.cells.extract 7 (7 + 64)))
    rw [x.intra hx, y.intra hy]
    exact eqOk_row 9997 _ _ hx.ia hy.ia
  · refine ⟨_, _, PartIs.many (n := 64) Try.underlying40 rfl (fun w => by kernel_rfl), PartIs.many (n := 64) Try.underlying40 rfl (fun w => by kernel_rfl), fun e => by rw [e], ?_⟩
    show EqOk Try.prog 9999 40 (.agg (x.cells.extract 71 (71 + 64))) (.agg (y.cells.extract 71 (71 + 64)))
    rw [x.inter hx, y.inter hy]
    exact eqOk_row 9997 _ _ hx.ie hy.ie

theorem hdr_ok {s : Sq} (h : s.Ok) : (hdr s).Ok := by
  unfold hdr
  split
  · exact ⟨h.ia, h.ie, h.n1, h.n2, h.d2⟩
  · exact ⟨rfl, rfl, by decide, by decide, by decide⟩

section
variable {P : Program} {ops : Array Oper} {rest : List Oper} {op : Oper} {a : Act} {w : World} {Q : Exit → Act → World → Prop}
/-- 'x == y' and 'x != y' on structs, also where they are guarded. -/
theorem wpList_eql_agg (t : TypeId) (x y : Operand) (u : TypeId) (ho : op.op = .binOp .eql t x y u) (hgd : Region.wanted op (yielded ops a.tmps) = true) (xs ys : Array Value) (hx : a.eval x = .agg xs) (hy : a.eval y = .agg ys)
    (hm : P.eqGuardType P.depth t = false) (b : Bool) (hb : ∀ w, (Op.equalIn 10000 t (.agg xs) (.agg ys)).run P w = .ok b w) (h : wpList P ops Q rest (a.put op.dst (.bool b)) w) : wpList P ops Q (op :: rest) a w :=
  wpList_step fun K hK => by
    rw [if_pos hgd]
    unfold Oper.wp execOp
    simp only [ho, hx, hy, Sem.run_bind, run_eqGuard_agg _ _ _ _ _ _ _ hm, run_eql_struct, hb, Result.andThen_ok, Sem.run_pure]
    exact hK _ _ h
theorem wpList_neq_agg (t : TypeId) (x y : Operand) (u : TypeId) (ho : op.op = .binOp .neq t x y u) (hgd : Region.wanted op (yielded ops a.tmps) = true) (xs ys : Array Value) (hx : a.eval x = .agg xs) (hy : a.eval y = .agg ys)
    (hm : P.eqGuardType P.depth t = false) (b : Bool) (hb : ∀ w, (Op.equalIn 10000 t (.agg xs) (.agg ys)).run P w = .ok b w) (h : wpList P ops Q rest (a.put op.dst (.bool (!b))) w) : wpList P ops Q (op :: rest) a w :=
  wpList_step fun K hK => by
    rw [if_pos hgd]
    unfold Oper.wp execOp
    simp only [ho, hx, hy, Sem.run_bind, run_eqGuard_agg _ _ _ _ _ _ _ hm, run_neq_struct, hb, Result.andThen_ok, Sem.run_pure]
    exact hK _ _ h
end

/-- An index: its name, header, and list of entries. -/
structure Ix where
  name : ByteArray
  s : Sq
  A : Option Addr
  n : Nat
  c : Nat
def Ix.cells (x : Ix) : Array Value := (Value.string x.name :: (x.s.cells.toList ++ [.slice x.A x.n x.c])).toArray
theorem Ix.size (x : Ix) (h : x.s.Ok) : x.cells.size = 137 := by
  have := x.s.cells_size h
  simp [Ix.cells, this]
theorem Ix.seq {w : World} {b o : Nat} (x : Ix) (h : w.rangeAt b o x.cells.toList) : w.rangeAt b (o + 1) x.s.cells.toList := fun j v hv => by
  have := h (j + 1) v (by
    have hj : j < x.s.cells.toList.length := (List.getElem?_eq_some_iff.1 hv).1
    simp only [Ix.cells, List.getElem?_cons_succ]
    rw [List.getElem?_append_left hj]
    exact hv)
  rw [show o + 1 + j = o + (j + 1) by omega]
  exact this
theorem Ix.frames {w : World} {b o : Nat} (x : Ix) (ok : x.s.Ok) (h : w.rangeAt b o x.cells.toList) : w.cell? ⟨b, o + 136, none⟩ = some (.slice x.A x.n x.c) := by
  have hs := x.s.cells_size ok
  refine h 136 _ ?_
  simp only [Ix.cells, List.getElem?_cons_succ]
  rw [List.getElem?_append_right (by simp [hs])]
  simp [hs]

/-- A part of a block is read, also where the load is guarded. -/
theorem wpList_load_part {P : Program} {ops : Array Oper} {rest : List Oper} {op : Oper} {a : Act} {w : World} {Q : Exit → Act → World → Prop} (ty : TypeId) (x : Operand) (ho : op.op = .load ty x) (hgd : Region.wanted op (yielded ops a.tmps) = true)
    (b o : Nat) (hx : a.eval x = .pointer (some ⟨b, o, none⟩)) (cs : Array Value) (d : TypeDesc) (hc : w.rangeAt b o cs.toList)
    (hu : P.underlying ty = some d) (hd : d.isRow = true) (hi : (P.info? ty).map (·.size) = some cs.size)
    (h : wpList P ops Q rest (a.put op.dst (.agg cs)) w) : wpList P ops Q (op :: rest) a w :=
  wpList_load_mid_on hgd ty x ho b o hx cs.toList d hc hu hd (by simpa using hi) (by simpa using h)
theorem rangeAt_keep {w w' : World} {S : Nat → Prop} {b o : Nat} {xs : List Value} (h : w.rangeAt b o xs) (k : Keep S w w') (hS : ¬ S b) : w'.rangeAt b o xs := fun j v hv => k.cell (h j v hv) hS

def fitsF (a b : Ix) (r : Bool) : Bool := hdrOk a.s && r && (a.n == b.n)

set_option maxRecDepth 100000 in
set_option maxHeartbeats 400000 in
theorem fits_any (a b : Ix) (r : Bool) (w : World) (oka : a.s.Ok) (okb : b.s.Ok) (hr : ∀ w, (Op.equalIn 10000 42 (.agg b.s.cells) (.agg (hdr a.s).cells)).run Try.prog w = .ok r w) :
    Calls Try.prog 16 #[.agg a.cells, .agg b.cells] w fun e w' => e = .returned (.bool (fitsF a b r)) ∧ Keep none_ w w' := by
  obtain ⟨ca, hca⟩ : ∃ ca, ca = a.cells := ⟨_, rfl⟩
  obtain ⟨cb, hcb⟩ : ∃ cb, cb = b.cells := ⟨_, rfl⟩
  obtain ⟨sa, hsa⟩ : ∃ sa, sa = a.s.cells := ⟨_, rfl⟩
  obtain ⟨sb, hsb⟩ : ∃ sb, sb = b.s.cells := ⟨_, rfl⟩
  obtain ⟨ds, hds⟩ : ∃ ds, ds = (hdr a.s).cells := ⟨_, rfl⟩
  obtain ⟨zs, hzs⟩ : ∃ zs, zs = zeroSq.cells := ⟨_, rfl⟩
  have hz : ∀ w, (zeroValue 42).run Try.prog w = .ok (.agg zs) w := hzs ▸ zero_seq
  have i1 := Lib.hid (show (Try.prog.info? 42).map (·.size) = some ds.size by rw [hds, Sq.cells_size _ (hdr_ok oka)]; exact seq_info)
  have i2 := Lib.hid (show zs.size = ds.size by rw [hds, hzs, Sq.cells_size _ (hdr_ok oka)]; exact zeroSq_size)
  have i3 := Lib.hid (show ds.all (·.oneCell') = true by rw [hds]; exact Sq.plain _)
  have i4 := Lib.hid (show (Try.prog.info? 42).map (·.size) = some sa.size by rw [hsa, Sq.cells_size _ oka]; exact seq_info)
  have i5 := Lib.hid (show (Try.prog.info? 42).map (·.size) = some sb.size by rw [hsb, Sq.cells_size _ okb]; exact seq_info)
  have hc := Lib.hid (show ∀ w, Calls Try.prog 13 #[.agg sa] w (fun e w' => e = .returned (.tuple #[.agg ds, .int .i64 (hdrE a.s)]) ∧ Keep none_ w w') from fun w => by rw [hsa, hds]; exact header_any a.s w oka)
  rw [← hsb, ← hds] at hr
  have HR := Lib.hid hr
  have p1 : ∀ {w : World} {g : Nat}, Blk w g 45 ca → w.rangeAt g 1 sa.toList ∧ w.cell? ⟨g, 136, none⟩ = some (.slice a.A a.n a.c) := fun h => by
    rw [hca] at h
    rw [hsa]
    have := h.rangeAt
    exact ⟨by simpa using a.seq this, by simpa using a.frames oka this⟩
  have p2 : ∀ {w : World} {g : Nat}, Blk w g 45 cb → w.rangeAt g 1 sb.toList ∧ w.cell? ⟨g, 136, none⟩ = some (.slice b.A b.n b.c) := fun h => by
    rw [hcb] at h
    rw [hsb]
    have := h.rangeAt
    exact ⟨by simpa using b.seq this, by simpa using b.frames okb this⟩
  rw [← hca, ← hcb]
  clear hca hcb hsa hsb hds hzs hr
  go_enter Try.func16, Try.ntmps16
  go_upto_region 1 with (fail)
  obtain ⟨W0, hW0⟩ : ∃ W0, W0 = (w.alloc (.cells ca 45)).alloc (.cells cb 45) := ⟨_, rfl⟩
  obtain ⟨b0, b1, k0⟩ := two (w := w) (t0 := 45) (c0 := ca) (t1 := 45) (c1 := cb) (hW0 ▸ Keep.refl none_ W0 : Keep none_ ((w.alloc (.cells ca 45)).alloc (.cells cb 45)) W0)
  rw [← hW0]
  clear hW0
  have P1 := Lib.hid (p1 b0)
  go_wp2_with (refine wpList_load_part 42 (.tmp 8) rfl rfl w.heap.size 1 rfl sa _ P1.out.1 Try.underlying42 rfl i4.out ?_)
  refine (hc.out W0).mono ?_
  rintro e w1 ⟨rfl, k1⟩
  replace b0 := b0.keep k1 (fun e => e)
  replace b1 := b1.keep k1 (fun e => e)
  replace k0 := k0.trans k1
  clear P1 k1
  go_upto_region 2 with (refine wpList_store_blk rfl 42 (.tmp 5) (.tmp 11) rfl w1.heap.size 42 zs ds rfl rfl (Blk.new _ _ _) i2.out i1.out i3.out ?_; intro w2 b2 k2 s2)
  have l1 := b1.lt
  have k12 : Keep none_ w1 w2 := ((Keep.refl none_ w1).alloc _).own k2 (Nat.le_refl _)
  obtain ⟨-, cA⟩ := p1 (b0.keep k12 (fun e => e))
  obtain ⟨rB, cB⟩ := p2 (b1.keep k12 (fun e => e))
  replace k0 := k0.trans k12
  have RB := Lib.hid rB
  have B2 := Lib.hid b2
  have I2 := Lib.hid hz
  clear rB b2 s2 k2 k12 l1 b0 b1 hz p1 p2
  have ans : fitsF a b r = (hdrOk a.s && r && (a.n == b.n)) := rfl
  cases hv : hdrOk a.s with
  | false =>
    rw [hv] at ans
    have he : hdrE a.s = 1 := by simp [hdrE, hv]
    rw [he]
    have ANS := Lib.hid ans
    clear he ans hv
    go_wp2_with fail
    go_ret
    exact ⟨ret_bool (by rw [ANS.out]; rfl), k0⟩
  | true =>
    have he : hdrE a.s = 0 := by simp [hdrE, hv]
    rw [hv] at ans
    rw [he]
    have ANS := Lib.hid ans
    clear he ans hv
    cases r with
    | false =>
      have tok : True := trivial
      go_wp2_with (have _t := tok; refine wpList_load_part 42 (.tmp 16) rfl rfl (w.heap.size + 1) 1 rfl sb _ RB.out Try.underlying42 rfl i5.out ?_; go_frame; refine wpList_load_part 42 (.tmp 5) rfl rfl w1.heap.size 0 rfl ds _ B2.out.rangeAt Try.underlying42 rfl i1.out ?_; go_frame; refine wpList_eql_agg 42 (.tmp 17) (.tmp 18) _ rfl rfl sb ds rfl rfl (by kernel_rfl) false HR.out ?_; go_frame; clear _t tok)
      go_ret
      exact ⟨ret_bool (by rw [ANS.out]; rfl), k0⟩
    | true =>
      have tok : True := trivial
      go_wp2_with (have _t := tok; refine wpList_load_part 42 (.tmp 16) rfl rfl (w.heap.size + 1) 1 rfl sb _ RB.out Try.underlying42 rfl i5.out ?_; go_frame; refine wpList_load_part 42 (.tmp 5) rfl rfl w1.heap.size 0 rfl ds _ B2.out.rangeAt Try.underlying42 rfl i1.out ?_; go_frame; refine wpList_eql_agg 42 (.tmp 17) (.tmp 18) _ rfl rfl sb ds rfl rfl (by kernel_rfl) true HR.out ?_; go_frame; clear _t tok)
      go_ret
      exact ⟨ret_bool (by rw [ANS.out]; rw [Bool.eq_iff_iff]; simp; omega), k0⟩
set_option maxRecDepth 100000 in
set_option maxHeartbeats 400000 in
theorem fitsR_any (a b : Ix) (r : Bool) (w : World) (oka : a.s.Ok) (okb : b.s.Ok) (hr : ∀ w, (Op.equalIn 10000 42 (.agg b.s.cells) (.agg (hdr a.s).cells)).run Try.prog w = .ok r w) :
    Calls Try.prog 17 #[.agg a.cells, .agg b.cells] w fun e w' => e = .returned (.bool (fitsF a b r)) ∧ Keep none_ w w' := by
  obtain ⟨ca, hca⟩ : ∃ ca, ca = a.cells := ⟨_, rfl⟩
  obtain ⟨cb, hcb⟩ : ∃ cb, cb = b.cells := ⟨_, rfl⟩
  obtain ⟨sa, hsa⟩ : ∃ sa, sa = a.s.cells := ⟨_, rfl⟩
  obtain ⟨sb, hsb⟩ : ∃ sb, sb = b.s.cells := ⟨_, rfl⟩
  obtain ⟨ds, hds⟩ : ∃ ds, ds = (hdr a.s).cells := ⟨_, rfl⟩
  obtain ⟨zs, hzs⟩ : ∃ zs, zs = zeroSq.cells := ⟨_, rfl⟩
  have hz : ∀ w, (zeroValue 42).run Try.prog w = .ok (.agg zs) w := hzs ▸ zero_seq
  have i1 := Lib.hid (show (Try.prog.info? 42).map (·.size) = some ds.size by rw [hds, Sq.cells_size _ (hdr_ok oka)]; exact seq_info)
  have i2 := Lib.hid (show zs.size = ds.size by rw [hds, hzs, Sq.cells_size _ (hdr_ok oka)]; exact zeroSq_size)
  have i3 := Lib.hid (show ds.all (·.oneCell') = true by rw [hds]; exact Sq.plain _)
  have i4 := Lib.hid (show (Try.prog.info? 42).map (·.size) = some sa.size by rw [hsa, Sq.cells_size _ oka]; exact seq_info)
  have i5 := Lib.hid (show (Try.prog.info? 42).map (·.size) = some sb.size by rw [hsb, Sq.cells_size _ okb]; exact seq_info)
  have hc := Lib.hid (show ∀ w, Calls Try.prog 14 #[.agg sa] w (fun e w' => e = .returned (.tuple #[.agg ds, .int .i64 (hdrE a.s)]) ∧ Keep none_ w w') from fun w => by rw [hsa, hds]; exact headerR_any a.s w oka)
  rw [← hsb, ← hds] at hr
  have HR := Lib.hid hr
  have p1 : ∀ {w : World} {g : Nat}, Blk w g 45 ca → w.rangeAt g 1 sa.toList ∧ w.cell? ⟨g, 136, none⟩ = some (.slice a.A a.n a.c) := fun h => by
    rw [hca] at h
    rw [hsa]
    have := h.rangeAt
    exact ⟨by simpa using a.seq this, by simpa using a.frames oka this⟩
  have p2 : ∀ {w : World} {g : Nat}, Blk w g 45 cb → w.rangeAt g 1 sb.toList ∧ w.cell? ⟨g, 136, none⟩ = some (.slice b.A b.n b.c) := fun h => by
    rw [hcb] at h
    rw [hsb]
    have := h.rangeAt
    exact ⟨by simpa using b.seq this, by simpa using b.frames okb this⟩
  rw [← hca, ← hcb]
  clear hca hcb hsa hsb hds hzs hr
  go_enter Try.func17, Try.ntmps17
  go_upto_region 1 with (fail)
  obtain ⟨W0, hW0⟩ : ∃ W0, W0 = (w.alloc (.cells ca 45)).alloc (.cells cb 45) := ⟨_, rfl⟩
  obtain ⟨b0, b1, k0⟩ := two (w := w) (t0 := 45) (c0 := ca) (t1 := 45) (c1 := cb) (hW0 ▸ Keep.refl none_ W0 : Keep none_ ((w.alloc (.cells ca 45)).alloc (.cells cb 45)) W0)
  rw [← hW0]
  clear hW0
  have P1 := Lib.hid (p1 b0)
  go_wp2_with (refine wpList_load_part 42 (.tmp 8) rfl rfl w.heap.size 1 rfl sa _ P1.out.1 Try.underlying42 rfl i4.out ?_)
  refine (hc.out W0).mono ?_
  rintro e w1 ⟨rfl, k1⟩
  replace b0 := b0.keep k1 (fun e => e)
  replace b1 := b1.keep k1 (fun e => e)
  replace k0 := k0.trans k1
  clear P1 k1
  go_upto_region 2 with (refine wpList_store_blk rfl 42 (.tmp 5) (.tmp 11) rfl w1.heap.size 42 zs ds rfl rfl (Blk.new _ _ _) i2.out i1.out i3.out ?_; intro w2 b2 k2 s2)
  have l1 := b1.lt
  have k12 : Keep none_ w1 w2 := ((Keep.refl none_ w1).alloc _).own k2 (Nat.le_refl _)
  obtain ⟨-, cA⟩ := p1 (b0.keep k12 (fun e => e))
  obtain ⟨rB, cB⟩ := p2 (b1.keep k12 (fun e => e))
  replace k0 := k0.trans k12
  have RB := Lib.hid rB
  have B2 := Lib.hid b2
  have I2 := Lib.hid hz
  clear rB b2 s2 k2 k12 l1 b0 b1 hz p1 p2
  have ans : fitsF a b r = (hdrOk a.s && r && (a.n == b.n)) := rfl
  cases hv : hdrOk a.s with
  | false =>
    rw [hv] at ans
    have he : hdrE a.s = 1 := by simp [hdrE, hv]
    rw [he]
    have ANS := Lib.hid ans
    clear he ans hv
    go_wp2_with fail
    go_ret
    exact ⟨ret_bool (by rw [ANS.out]; rfl), k0⟩
  | true =>
    have he : hdrE a.s = 0 := by simp [hdrE, hv]
    rw [hv] at ans
    rw [he]
    have ANS := Lib.hid ans
    clear he ans hv
    cases r with
    | false =>
      have tok : True := trivial
      go_wp2_with (have _t := tok; refine wpList_load_part 42 (.tmp 16) rfl rfl (w.heap.size + 1) 1 rfl sb _ RB.out Try.underlying42 rfl i5.out ?_; go_frame; refine wpList_load_part 42 (.tmp 5) rfl rfl w1.heap.size 0 rfl ds _ B2.out.rangeAt Try.underlying42 rfl i1.out ?_; go_frame; refine wpList_eql_agg 42 (.tmp 17) (.tmp 18) _ rfl rfl sb ds rfl rfl (by kernel_rfl) false HR.out ?_; go_frame; clear _t tok)
      go_ret
      exact ⟨ret_bool (by rw [ANS.out]; rfl), k0⟩
    | true =>
      have tok : True := trivial
      go_wp2_with (have _t := tok; refine wpList_load_part 42 (.tmp 16) rfl rfl (w.heap.size + 1) 1 rfl sb _ RB.out Try.underlying42 rfl i5.out ?_; go_frame; refine wpList_load_part 42 (.tmp 5) rfl rfl w1.heap.size 0 rfl ds _ B2.out.rangeAt Try.underlying42 rfl i1.out ?_; go_frame; refine wpList_eql_agg 42 (.tmp 17) (.tmp 18) _ rfl rfl sb ds rfl rfl (by kernel_rfl) true HR.out ?_; go_frame; clear _t tok)
      go_ret
      exact ⟨ret_bool (by rw [ANS.out]; rw [Bool.eq_iff_iff]; simp; omega), k0⟩
end Go.Proofs.Ytnpkhbcbbbpjhaa
