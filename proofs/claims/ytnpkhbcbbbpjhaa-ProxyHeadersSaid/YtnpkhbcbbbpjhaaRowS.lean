/-
  The row's words: sequence headers and indexes that came in.
-/
import Derived.Test.YtnpkhbcbbbpjhaaRow
import Derived.Test.YtnpkhbcbbbpjhaaFits
namespace Go.Proofs.Ytnpkhbcbbbpjhaa
open Go.ChangeShapes Go.WideShapes Go.ChangeAt Go.RowKit Go.Joins Go.Deep

theorem seg (l : List Value) (a n : Nat) : l.drop a = (l.drop a).take n ++ l.drop (a + n) := by
  rw [← List.drop_drop, List.take_append_drop]
section
variable {H : Type} {enc : TypeId × Value → H} {w : World} {base : Nat} {held : Bool} {spare : Nat → Bool}
theorem u8s_of {fuel : Nat} {cs : List Value} {x : DataW H × List MemPlace} (h : DataW.trod enc Try.prog w base spare held fuel 40 cs = some x) : ∃ zs : List Int, zs.length = 64 ∧ cs = zs.map (Value.int .u8) := by
  obtain ⟨xs, m, -, -, hl, hx, hg⟩ := DataW.trod_array Try.underlying40 h
  have hl' : cs.length = 64 := hl.trans (by kernel_rfl)
  have hc : Try.prog.cellsOf 5 = 1 := by kernel_rfl
  have key : ∀ i, i < 64 → ∃ z, cs[i]? = some (.int .u8 z) := by
    intro i hi
    have := hg i hi
    rw [List.getElem?_eq_getElem (by omega), hc, Nat.mul_one] at this
    obtain ⟨z, hz, -⟩ := DataW.trod_int Try.underlying5 this
    refine ⟨z, ?_⟩
    have h0 := congrArg (·[0]?) hz
    simpa [List.getElem?_take, List.getElem?_drop] using h0
  refine ⟨cs.map (fun v => match v with | .int _ z => z | _ => 0), by simp [hl'], ?_⟩
  apply List.ext_getElem?
  intro i
  rw [List.map_map, List.getElem?_map]
  by_cases hi : i < 64
  · obtain ⟨z, hz⟩ := key i hi
    rw [hz]
    rfl
  · rw [List.getElem?_eq_none (by omega)]
    rfl
theorem seq_of_cells {fuel : Nat} {cs : List Value} {x : DataW H × List MemPlace} (h : DataW.trod enc Try.prog w base spare held fuel 42 cs = some x) : ∃ s : Sq, s.Ok ∧ cs = s.cells.toList := by
  obtain ⟨xs, m, -, -, hl, hx, hg⟩ := DataW.trod_struct Try.underlying42 h
  have hl' : cs.length = 135 := hl.trans (by kernel_rfl)
  have hc3 : Try.prog.cellsOf 3 = 1 := by kernel_rfl
  have hcb : Try.prog.cellsOf 4 = 1 := by kernel_rfl
  have hcr : Try.prog.cellsOf 39 = 2 := by kernel_rfl
  have hca : Try.prog.cellsOf 40 = 64 := by kernel_rfl
  have hc2 : Try.prog.cellsOf 2 = 1 := by kernel_rfl
  have hx' : xs.length = 8 := hx
  have h0 : DataW.trod enc Try.prog w base spare held m 3 ((cs.drop 0).take (Try.prog.cellsOf 3)) = xs[0]? := hg 0 _ rfl
  have h1 : DataW.trod enc Try.prog w base spare held m 3 ((cs.drop 1).take (Try.prog.cellsOf 3)) = xs[1]? := hg 1 _ rfl
  have h2 : DataW.trod enc Try.prog w base spare held m 39 ((cs.drop 2).take (Try.prog.cellsOf 39)) = xs[2]? := hg 2 _ rfl
  have h3 : DataW.trod enc Try.prog w base spare held m 4 ((cs.drop 4).take (Try.prog.cellsOf 4)) = xs[3]? := hg 3 _ rfl
  have h4 : DataW.trod enc Try.prog w base spare held m 3 ((cs.drop 5).take (Try.prog.cellsOf 3)) = xs[4]? := hg 4 _ rfl
  have h5 : DataW.trod enc Try.prog w base spare held m 3 ((cs.drop 6).take (Try.prog.cellsOf 3)) = xs[5]? := hg 5 _ rfl
  have h6 : DataW.trod enc Try.prog w base spare held m 40 ((cs.drop 7).take (Try.prog.cellsOf 40)) = xs[6]? := hg 6 _ rfl
  have h7 : DataW.trod enc Try.prog w base spare held m 40 ((cs.drop 71).take (Try.prog.cellsOf 40)) = xs[7]? := hg 7 _ rfl
  rw [List.getElem?_eq_getElem (by omega)] at h0 h1 h2 h3 h4 h5 h6 h7
  simp only [hc3, hcb, hcr, hca] at h0 h1 h2 h3 h4 h5 h6 h7
  obtain ⟨W, e0, -, -⟩ := DataW.trod_int Try.underlying3 h0
  obtain ⟨Hh, e1, -, -⟩ := DataW.trod_int Try.underlying3 h1
  obtain ⟨I, e3, -⟩ := DataW.trod_bool Try.underlying4 h3
  obtain ⟨BR, e4, -, -⟩ := DataW.trod_int Try.underlying3 h4
  obtain ⟨Buf, e5, -, -⟩ := DataW.trod_int Try.underlying3 h5
  obtain ⟨ia, li, e6⟩ := u8s_of h6
  obtain ⟨ie, le, e7⟩ := u8s_of h7
  obtain ⟨ys, m2, -, -, hl2, hx2, hg2⟩ := DataW.trod_struct Try.underlying39 h2
  have hx2' : ys.length = 2 := hx2
  have r0 : DataW.trod enc Try.prog w base spare held m2 2 ((((cs.drop 2).take 2).drop 0).take (Try.prog.cellsOf 2)) = ys[0]? := hg2 0 _ rfl
  have r1 : DataW.trod enc Try.prog w base spare held m2 2 ((((cs.drop 2).take 2).drop 1).take (Try.prog.cellsOf 2)) = ys[1]? := hg2 1 _ rfl
  rw [List.getElem?_eq_getElem (by omega)] at r0 r1
  simp only [hc2] at r0 r1
  obtain ⟨Num, f0, -, wn⟩ := DataW.trod_int Try.underlying2 r0
  obtain ⟨Den, f1, -, wd⟩ := DataW.trod_int Try.underlying2 r1
  have bn := bounds_i64 wn
  have bd := bounds_i64 wd
  have e2 : (cs.drop 2).take 2 = [.int .i64 Num, .int .i64 Den] := by
    have a0 := congrArg (·[0]?) f0
    have a1 := congrArg (·[0]?) f1
    have ll : ((cs.drop 2).take 2).length = 2 := by simp; omega
    apply List.ext_getElem?
    intro i
    match i with
    | 0 => simpa [List.getElem?_take, List.getElem?_drop] using a0
    | 1 => simpa [List.getElem?_take, List.getElem?_drop] using a1
    | i + 2 => rw [List.getElem?_eq_none (by omega)]; rfl
  refine ⟨⟨W, Hh, Num, Den, I, BR, Buf, ia, ie⟩, ⟨li, le, bn.1, bn.2, bd.2⟩, ?_⟩
  have hcs : cs = (cs.drop 0).take 1 ++ ((cs.drop 1).take 1 ++ ((cs.drop 2).take 2 ++ ((cs.drop 4).take 1 ++ ((cs.drop 5).take 1 ++ ((cs.drop 6).take 1 ++ ((cs.drop 7).take 64 ++ (cs.drop 71).take 64)))))) := by
    have s8 : (cs.drop 71).take 64 = cs.drop 71 := List.take_of_length_le (by simp; omega)
    rw [s8, ← seg cs 7 64, ← seg cs 6 1, ← seg cs 5 1, ← seg cs 4 1, ← seg cs 2 2, ← seg cs 1 1, ← seg cs 0 1]
    rfl
  rw [hcs]
  rw [e0, e1, e2, e3, e4, e5, e6, e7]
  simp [Sq.cells, Sq.seven]
theorem seq_of {r : Reach} {b0 : Nat} {v : Value} {d : DataW H} {p : List MemPlace} (hv : Value.okWide Try.prog w r b0 42 v) (h : DataW.Trod enc Try.prog w base spare held 42 v d p) : ∃ s : Sq, s.Ok ∧ v = .agg s.cells := by
  obtain ⟨cs, rfl, -⟩ := okWide_struct Try.underlying42 hv
  obtain ⟨fuel, hf⟩ := h
  obtain ⟨s, ok, e⟩ := seq_of_cells hf
  have e' : cs.toList = s.cells.toList := e
  exact ⟨s, ok, by rw [Array.toList_inj.1 e']⟩
theorem ix_of {r : Reach} {b0 : Nat} {v : Value} {d : DataW H} {p : List MemPlace} (hv : Value.okWide Try.prog w r b0 45 v) (h : DataW.Trod enc Try.prog w base spare held 45 v d p) : ∃ x : Ix, x.s.Ok ∧ v = .agg x.cells := by
  obtain ⟨cs, rfl, -⟩ := okWide_struct Try.underlying45 hv
  obtain ⟨fuel, hf⟩ := h
  obtain ⟨xs, m, -, -, hl, hx, hg⟩ := DataW.trod_struct Try.underlying45 hf
  have hl' : (Value.agg cs).cells.toList.length = 137 := hl.trans (by kernel_rfl)
  have hcs' : Try.prog.cellsOf 9 = 1 := by kernel_rfl
  have hcq : Try.prog.cellsOf 42 = 135 := by kernel_rfl
  have hce : Try.prog.cellsOf 43 = 1 := by kernel_rfl
  have hx' : xs.length = 3 := hx
  have h0 : DataW.trod enc Try.prog w base spare held m 9 (((Value.agg cs).cells.toList.drop 0).take (Try.prog.cellsOf 9)) = xs[0]? := hg 0 _ rfl
  have h1 : DataW.trod enc Try.prog w base spare held m 42 (((Value.agg cs).cells.toList.drop 1).take (Try.prog.cellsOf 42)) = xs[1]? := hg 1 _ rfl
  have h2 : DataW.trod enc Try.prog w base spare held m 43 (((Value.agg cs).cells.toList.drop 136).take (Try.prog.cellsOf 43)) = xs[2]? := hg 2 _ rfl
  rw [List.getElem?_eq_getElem (by omega)] at h0 h1 h2
  simp only [hcs', hcq, hce] at h0 h1 h2
  obtain ⟨name, e0, -, -⟩ := DataW.trod_string Try.underlying9 h0
  obtain ⟨s, ok, e1⟩ := seq_of_cells h1
  obtain ⟨A, n, c, e2⟩ : ∃ A n c, ((Value.agg cs).cells.toList.drop 136).take 1 = [.slice A n c] := by
    rcases DataW.trod_slice Try.underlying43 h2 with ⟨e, -⟩ | ⟨a, len, cap, _, _, _, -, e, -⟩
    · exact ⟨_, _, _, e⟩
    · exact ⟨_, _, _, e⟩
  refine ⟨⟨name, s, A, n, c⟩, ok, ?_⟩
  have hcc : (Value.agg cs).cells.toList = ((Value.agg cs).cells.toList.drop 0).take 1 ++ (((Value.agg cs).cells.toList.drop 1).take 135 ++ ((Value.agg cs).cells.toList.drop 136).take 1) := by
    have s8 : ((Value.agg cs).cells.toList.drop 136).take 1 = (Value.agg cs).cells.toList.drop 136 := List.take_of_length_le (by simp only [List.length_drop, hl']; omega)
    rw [s8, ← seg _ 1 135, ← seg _ 0 1]
    rfl
  have : cs.toList = ((⟨name, s, A, n, c⟩ : Ix).cells).toList := by
    show (Value.agg cs).cells.toList = _
    rw [hcc]
    rw [e0, e1, e2]
    simp [Ix.cells]
  rw [Array.toList_inj.1 this]
end
end Go.Proofs.Ytnpkhbcbbbpjhaa
