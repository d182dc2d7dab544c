/-
  The item that a finished job delivers in the statements.
-/
import Derived.Test.YtnefbeplgfdkkaaGreatDoorEvsP
namespace Go.Proofs.YtnefbeplgfdkkaaGreatDoor
open Go.RowKit

noncomputable def itmZero : Array Value := ((((Tryz.prog.info? 72).bind (fun i => i.zero)).getD undef)).cells
noncomputable def itmCells (r : Int) : Array Value := (itmZero.setIfInBounds 0 (.int .i64 4)).setIfInBounds 147 (.int .i64 r)
noncomputable def itmFlat : List Value := (itmZero.toList.set 0 (.int .i64 4)).take 145
theorem itm_built (r : Int) : Tryz.prog.built 72 [(0, .int .i64 4), (4, .int .i64 r)] = some (itmCells r) := by kernel_rfl
theorem itm_list (r : Int) : (itmCells r).toList = itmFlat ++ [.slice none 0 0, .slice none 0 0, .int .i64 r] := by kernel_rfl
theorem itmFlat_len : itmFlat.length = 145 := by kernel_rfl
theorem itmFlat_0 : itmFlat[0]? = some (.int .i64 4) := by kernel_rfl
theorem itmFlat_one : (itmFlat.all fun v => v.oneCell') = true := by kernel_rfl
theorem itm_size (r : Int) : (itmCells r).size = 148 := by kernel_rfl
noncomputable def itmOf (r : Int) : Itm := ⟨itmFlat, [], [], r⟩
set_option maxRecDepth 100000 in
theorem itm_flat (r : Int) : FlatOf (itmCells r).toList (itmOf r) := ⟨none, 0, none, 0, itm_list r, Nat.zero_le _, Nat.zero_le _, itmFlat_len, fun v hv => List.all_eq_true.1 itmFlat_one v hv⟩
theorem itm_info : ∃ ie z, Tryz.prog.info? 72 = some ie ∧ ie.zero = some z ∧ ie.size = 148 := by
  obtain ⟨ie, z, h1, h2, h3, -⟩ := info_all (P := Tryz.prog) (t := 72) (n := 148) (b := 296) (by kernel_rfl)
  exact ⟨ie, z, h1, h2, h3⟩
theorem itm_row {w : World} {lo b : Nat} {r : Int} {IC : Array Value} (hb : Blk w b 72 (allCells [(0, .agg IC)]).toArray) (hIC : itmCells r = IC) (hlo : lo ≤ b) : w.ownsRow lo 72 148 (.slice (some ⟨b, 0, none⟩) 1 1) 1 [(itmCells r).toList].flatten := by
  have e : (allCells [(0, .agg IC)]) = (itmCells r).toList := by rw [hIC]; simp [allCells, Value.cells]
  rw [e] at hb
  have hl : (itmCells r).toList.length = 148 := itm_size r
  have e2 : [(itmCells r).toList].flatten = (itmCells r).toList := by simp
  rw [e2]
  exact ⟨by rw [hl], .inr ⟨b, 1, _, rfl, hlo, hb, Nat.le_refl _, by unfold maxLen; omega, by simp [itm_size], by rw [List.take_of_length_le (by simp [itm_size])]⟩⟩
theorem flat_one {cs : List Value} {x : Itm} (h : FlatOf cs x) : Flats [cs] [x] := ⟨rfl, fun i c y h1 h2 => by
  rcases i with _ | i
  · simp only [List.getElem?_cons_zero, Option.some.injEq] at h1 h2
    subst h1; subst h2; exact h
  · simp at h1⟩
theorem plain_one {x : Itm} (h1 : x.user = []) (h2 : x.slices = []) : PlainI [x] := fun z hz => by
  simp only [List.mem_cons, List.not_mem_nil, or_false] at hz; rw [hz]; exact ⟨h1, h2⟩
theorem ev_own_one {w : World} {lo : Nat} {k : Int} {x y : ByteArray} {vi : Value} {cs : List Value} {it : Itm} (h : w.ownsRow lo 72 148 vi 1 [cs].flatten) (hf : FlatOf cs it) (h1 : it.user = []) (h2 : it.slices = []) : EvOwn w lo [.int .i64 k, .string x, .string y, .slice none 0 0, .int .i64 0, vi] ⟨k, x, y, [], 0, [it]⟩ :=
  ⟨_, _, [cs], rfl, ⟨rfl, .inl ⟨rfl, rfl⟩⟩, h, flat_one hf, plain_one h1 h2⟩
theorem itm_own {w : World} {lo b : Nat} {r : Int} {IC : Array Value} {x y : ByteArray} (hb : Blk w b 72 (allCells [(0, .agg IC)]).toArray) (hIC : itmCells r = IC) (hlo : lo ≤ b) : EvOwn w lo [.int .i64 7, .string x, .string y, .slice none 0 0, .int .i64 0, .slice (some ⟨b, 0, none⟩) 1 1] ⟨7, x, y, [], 0, [itmOf r]⟩ :=
  ev_own_one (itm_row hb hIC hlo) (itm_flat r) rfl rfl
end Go.Proofs.YtnefbeplgfdkkaaGreatDoor
