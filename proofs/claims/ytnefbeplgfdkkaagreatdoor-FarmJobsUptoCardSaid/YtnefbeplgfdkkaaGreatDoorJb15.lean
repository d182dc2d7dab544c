/-
  farm.validEvent. Written by gen_ev.py.
-/
import Derived.Test.YtnefbeplgfdkkaaGreatDoorJb13
namespace Go.Proofs.YtnefbeplgfdkkaaGreatDoor
open Go.RowKit

/-- 37.3: which fields an event's kind uses. -/
def fieldOk (used : Bool) (s : ByteArray) : Bool := if used then nameOk s else strEq s ⟨#[]⟩
def ticksOk (used : Bool) (t : Int) : Bool := if used then decide (1 ≤ t) && decide (t ≤ 1000) else decide (t = 0)
def restOk (one_ seven : Bool) (e : Ev) : Bool := (one_ || decide (e.needs.length = 0)) && namesOk e.needs && (seven || decide (e.items.length = 0))
def evOk (e : Ev) : Bool :=
  if e.kind = 1 then fieldOk true e.name && fieldOk false e.worker && ticksOk false e.ticks && restOk true false e
  else if e.kind = 2 ∨ e.kind = 3 then fieldOk true e.name && fieldOk false e.worker && ticksOk false e.ticks && restOk false false e
  else if e.kind = 4 ∨ e.kind = 5 ∨ e.kind = 6 then fieldOk false e.name && fieldOk true e.worker && ticksOk false e.ticks && restOk false false e
  else if e.kind = 7 then fieldOk true e.name && fieldOk true e.worker && ticksOk false e.ticks && restOk false true e
  else if e.kind = 8 then fieldOk true e.name && fieldOk true e.worker && ticksOk false e.ticks && restOk false false e
  else if e.kind = 9 then fieldOk false e.name && fieldOk false e.worker && ticksOk true e.ticks && restOk false false e
  else false
theorem empty_no {x : ByteArray} (h : strEq x ⟨#[]⟩ = false) : (x.toList == []) = false ∧ x.toList.isEmpty = false := by
  have ne0 : x.toList ≠ [] := fun h' => by
    have : strEq x ⟨#[]⟩ = true := by unfold strEq; rw [h', ByteArray.toList_eq]; rfl
    rw [h] at this
    cases this
  exact ⟨by simpa using ne0, by simpa using ne0⟩

set_option maxRecDepth 100000 in
set_option maxHeartbeats 1000000 in
theorem validEv1 (e : Ev) (v : Value) (S : Nat → Prop) (w : World) (h : EvOf w S v e) (hK : e.kind = 1) : Calls Tryz.prog 51 #[v] w fun en w' => en = .returned (.bool (evOk e)) ∧ Keep none_ w w' := by
  obtain ⟨vn, vi, rfl, hvn, hvi⟩ := h
  have HVN := Lib.hid hvn
  obtain ⟨An, nn, cn, rfl, rn⟩ := hvn
  obtain ⟨Ai, ni, ci, rfl, -, -, il, -⟩ := (id hvi : ItemsOf _ _ _ _)
  have nl : e.needs.length = nn := by have := rn.len; simp at this; omega
  have ANS := Lib.hid (show evOk e = (fieldOk true e.name && fieldOk false e.worker && ticksOk false e.ticks && restOk true false e) by unfold evOk; rw [hK]; rfl)
  have AR := Lib.hid (show restOk true false e = ((true || decide (nn = 0)) && namesOk e.needs && (false || decide (ni = 0))) by unfold restOk; rw [nl, il])
  obtain ⟨W0, hW0⟩ : ∃ W0, W0 = w.alloc (.cells #[.int .i64 1, .string e.name, .string e.worker, .slice An nn cn, .int .i64 e.ticks, .slice Ai ni ci] 78) := ⟨_, rfl⟩
  have k0 : Keep none_ w W0 := hW0 ▸ (Keep.refl _ _).alloc _
  have b0 : Blk W0 w.heap.size 78 #[.int .i64 1, .string e.name, .string e.worker, .slice An nn cn, .int .i64 e.ticks, .slice Ai ni ci] := hW0 ▸ Blk.new _ _ _
  have d0 := b0.cell 0
  have d1 := b0.cell 1
  have d2 := b0.cell 2
  have d3 := b0.cell 3
  have d4 := b0.cell 4
  have d5 := b0.cell 5
  simp only [List.getElem?_toArray, List.getElem?_cons_zero, List.getElem?_cons_succ] at d0 d1 d2 d3 d4 d5
  have NM1 := Lib.hid (validName_any e.name W0)
  have NM2 := Lib.hid (validName_any e.worker W0)
  have NS := Lib.hid (validNames_any e.needs (.slice An nn cn) S W0 (HVN.out.keep k0.weak))
  rw [hK]
  clear nl il hvi rn hK b0 HVN
  go_enter Tryz.func51, Tryz.ntmps51
  go_upto_region 1 with (fail)
  rw [← hW0]
  clear hW0
  go_upto_region 17 with (fail)
  go_cut [36] (fun x wx => x = .bool (!fieldOk true e.name) ∧ W0 = wx)
  case first =>
    cases hf : nameOk e.name with
    | false =>
      rw [hf] at NM1
      have A := Lib.hid (show fieldOk true e.name = false by unfold fieldOk; rw [hf]; rfl)
      clear hf
      go_wp2_with (go_at_call 42; refine NM1.out.mono ?_; rintro e w' ⟨rfl, rfl⟩)
      go_meet
      exact ⟨by rw [A.out]; rfl, rfl⟩
    | true =>
      rw [hf] at NM1
      have A := Lib.hid (show fieldOk true e.name = true by unfold fieldOk; rw [hf]; rfl)
      clear hf
      go_wp2_with (go_at_call 42; refine NM1.out.mono ?_; rintro e w' ⟨rfl, rfl⟩)
      go_meet
      exact ⟨by rw [A.out]; rfl, rfl⟩
  case rest =>
    obtain ⟨rfl, rfl⟩ := hcut
    cases hc17 : fieldOk true e.name with
    | false =>
      have VF := Lib.hid (show evOk e = false by rw [ANS.out, hc17]; simp)
      clear hc17
      go_wp2
      go_ret
      exact ⟨ret_bool VF.out.symm, k0⟩
    | true =>
      have C17 := Lib.hid hc17
      clear hc17
      go_upto_region 19 with (fail)
      go_cut [52] (fun x wx => x = .bool (!fieldOk false e.worker) ∧ W0 = wx)
      case first =>
        cases hf : strEq e.worker ⟨#[]⟩ with
        | false =>
          obtain ⟨n1, n2⟩ := empty_no hf
          have A := Lib.hid (show fieldOk false e.worker = false by unfold fieldOk; rw [hf]; rfl)
          clear hf
          go_wp2
          go_meet
          exact ⟨by rw [A.out]; rfl, rfl⟩
        | true =>
          have A := Lib.hid (show fieldOk false e.worker = true by unfold fieldOk; rw [hf]; rfl)
          have q := strEq_iff.1 hf
          rw [q] at d2
          clear hf q
          go_wp2
          go_meet
          exact ⟨by rw [A.out]; rfl, rfl⟩
      case rest =>
        obtain ⟨rfl, rfl⟩ := hcut
        cases hc19 : fieldOk false e.worker with
        | false =>
          have VF := Lib.hid (show evOk e = false by rw [ANS.out, hc19]; simp)
          clear hc19
          go_wp2
          go_ret
          exact ⟨ret_bool VF.out.symm, k0⟩
        | true =>
          have C19 := Lib.hid hc19
          clear hc19
          go_upto_region 21 with (fail)
          go_cut [72] (fun x wx => x = .bool (!ticksOk false e.ticks) ∧ W0 = wx)
          case first =>
            by_cases ht : e.ticks = 0
            · have A := Lib.hid (show ticksOk false e.ticks = true by unfold ticksOk; simp [ht])
              rw [ht] at d4
              clear ht
              go_wp2
              go_meet
              exact ⟨by rw [A.out]; rfl, rfl⟩
            · have ht' : (e.ticks != 0) = true := by simpa using ht
              have A := Lib.hid (show ticksOk false e.ticks = false by unfold ticksOk; simp [ht])
              go_wp2
              go_meet
              exact ⟨by rw [A.out]; rfl, rfl⟩
          case rest =>
            obtain ⟨rfl, rfl⟩ := hcut
            cases hc21 : ticksOk false e.ticks with
            | false =>
              have VF := Lib.hid (show evOk e = false by rw [ANS.out, hc21]; simp)
              clear hc21
              go_wp2
              go_ret
              exact ⟨ret_bool VF.out.symm, k0⟩
            | true =>
              have C21 := Lib.hid hc21
              clear hc21
              cases hs : namesOk e.needs with
              | false =>
                rw [hs] at NS AR
                clear hs
                go_wp2_with (go_at_call 41; refine NS.out.mono ?_; rintro e w' ⟨rfl, rfl⟩)
                go_ret
                exact ⟨ret_bool (by rw [ANS.out, C17.out, C19.out, C21.out, AR.out]; simp), k0⟩
              | true =>
                rw [hs] at NS AR
                clear hs
                by_cases hi : ni = 0
                · subst hi
                  go_wp2_with (go_at_call 41; refine NS.out.mono ?_; rintro e w' ⟨rfl, rfl⟩)
                  go_ret
                  exact ⟨ret_bool (by rw [ANS.out, C17.out, C19.out, C21.out, AR.out]; simp), k0⟩
                · have hi' : ((ni : Int) == 0) = false := by simpa using hi
                  go_wp2_with (go_at_call 41; refine NS.out.mono ?_; rintro e w' ⟨rfl, rfl⟩)
                  go_ret
                  exact ⟨ret_bool (by rw [ANS.out, C17.out, C19.out, C21.out, AR.out]; simp [hi]), k0⟩

set_option maxRecDepth 100000 in
set_option maxHeartbeats 1000000 in
theorem validEv2 (e : Ev) (v : Value) (S : Nat → Prop) (w : World) (h : EvOf w S v e) (hK : e.kind = 2) : Calls Tryz.prog 51 #[v] w fun en w' => en = .returned (.bool (evOk e)) ∧ Keep none_ w w' := by
  obtain ⟨vn, vi, rfl, hvn, hvi⟩ := h
  have HVN := Lib.hid hvn
  obtain ⟨An, nn, cn, rfl, rn⟩ := hvn
  obtain ⟨Ai, ni, ci, rfl, -, -, il, -⟩ := (id hvi : ItemsOf _ _ _ _)
  have nl : e.needs.length = nn := by have := rn.len; simp at this; omega
  have ANS := Lib.hid (show evOk e = (fieldOk true e.name && fieldOk false e.worker && ticksOk false e.ticks && restOk false false e) by unfold evOk; rw [hK]; rfl)
  have AR := Lib.hid (show restOk false false e = ((false || decide (nn = 0)) && namesOk e.needs && (false || decide (ni = 0))) by unfold restOk; rw [nl, il])
  obtain ⟨W0, hW0⟩ : ∃ W0, W0 = w.alloc (.cells #[.int .i64 2, .string e.name, .string e.worker, .slice An nn cn, .int .i64 e.ticks, .slice Ai ni ci] 78) := ⟨_, rfl⟩
  have k0 : Keep none_ w W0 := hW0 ▸ (Keep.refl _ _).alloc _
  have b0 : Blk W0 w.heap.size 78 #[.int .i64 2, .string e.name, .string e.worker, .slice An nn cn, .int .i64 e.ticks, .slice Ai ni ci] := hW0 ▸ Blk.new _ _ _
  have d0 := b0.cell 0
  have d1 := b0.cell 1
  have d2 := b0.cell 2
  have d3 := b0.cell 3
  have d4 := b0.cell 4
  have d5 := b0.cell 5
  simp only [List.getElem?_toArray, List.getElem?_cons_zero, List.getElem?_cons_succ] at d0 d1 d2 d3 d4 d5
  have NM1 := Lib.hid (validName_any e.name W0)
  have NM2 := Lib.hid (validName_any e.worker W0)
  have NS := Lib.hid (validNames_any e.needs (.slice An nn cn) S W0 (HVN.out.keep k0.weak))
  rw [hK]
  clear nl il hvi rn hK b0 HVN
  go_enter Tryz.func51, Tryz.ntmps51
  go_upto_region 1 with (fail)
  rw [← hW0]
  clear hW0
  go_upto_region 17 with (fail)
  go_cut [36] (fun x wx => x = .bool (!fieldOk true e.name) ∧ W0 = wx)
  case first =>
    cases hf : nameOk e.name with
    | false =>
      rw [hf] at NM1
      have A := Lib.hid (show fieldOk true e.name = false by unfold fieldOk; rw [hf]; rfl)
      clear hf
      go_wp2_with (go_at_call 42; refine NM1.out.mono ?_; rintro e w' ⟨rfl, rfl⟩)
      go_meet
      exact ⟨by rw [A.out]; rfl, rfl⟩
    | true =>
      rw [hf] at NM1
      have A := Lib.hid (show fieldOk true e.name = true by unfold fieldOk; rw [hf]; rfl)
      clear hf
      go_wp2_with (go_at_call 42; refine NM1.out.mono ?_; rintro e w' ⟨rfl, rfl⟩)
      go_meet
      exact ⟨by rw [A.out]; rfl, rfl⟩
  case rest =>
    obtain ⟨rfl, rfl⟩ := hcut
    cases hc17 : fieldOk true e.name with
    | false =>
      have VF := Lib.hid (show evOk e = false by rw [ANS.out, hc17]; simp)
      clear hc17
      go_wp2
      go_ret
      exact ⟨ret_bool VF.out.symm, k0⟩
    | true =>
      have C17 := Lib.hid hc17
      clear hc17
      go_upto_region 19 with (fail)
      go_cut [52] (fun x wx => x = .bool (!fieldOk false e.worker) ∧ W0 = wx)
      case first =>
        cases hf : strEq e.worker ⟨#[]⟩ with
        | false =>
          obtain ⟨n1, n2⟩ := empty_no hf
          have A := Lib.hid (show fieldOk false e.worker = false by unfold fieldOk; rw [hf]; rfl)
          clear hf
          go_wp2
          go_meet
          exact ⟨by rw [A.out]; rfl, rfl⟩
        | true =>
          have A := Lib.hid (show fieldOk false e.worker = true by unfold fieldOk; rw [hf]; rfl)
          have q := strEq_iff.1 hf
          rw [q] at d2
          clear hf q
          go_wp2
          go_meet
          exact ⟨by rw [A.out]; rfl, rfl⟩
      case rest =>
        obtain ⟨rfl, rfl⟩ := hcut
        cases hc19 : fieldOk false e.worker with
        | false =>
          have VF := Lib.hid (show evOk e = false by rw [ANS.out, hc19]; simp)
          clear hc19
          go_wp2
          go_ret
          exact ⟨ret_bool VF.out.symm, k0⟩
        | true =>
          have C19 := Lib.hid hc19
          clear hc19
          go_upto_region 21 with (fail)
          go_cut [72] (fun x wx => x = .bool (!ticksOk false e.ticks) ∧ W0 = wx)
          case first =>
            by_cases ht : e.ticks = 0
            · have A := Lib.hid (show ticksOk false e.ticks = true by unfold ticksOk; simp [ht])
              rw [ht] at d4
              clear ht
              go_wp2
              go_meet
              exact ⟨by rw [A.out]; rfl, rfl⟩
            · have ht' : (e.ticks != 0) = true := by simpa using ht
              have A := Lib.hid (show ticksOk false e.ticks = false by unfold ticksOk; simp [ht])
              go_wp2
              go_meet
              exact ⟨by rw [A.out]; rfl, rfl⟩
          case rest =>
            obtain ⟨rfl, rfl⟩ := hcut
            cases hc21 : ticksOk false e.ticks with
            | false =>
              have VF := Lib.hid (show evOk e = false by rw [ANS.out, hc21]; simp)
              clear hc21
              go_wp2
              go_ret
              exact ⟨ret_bool VF.out.symm, k0⟩
            | true =>
              have C21 := Lib.hid hc21
              clear hc21
              by_cases hn : nn = 0
              · subst hn
                cases hs : namesOk e.needs with
                | false =>
                  rw [hs] at NS AR
                  clear hs
                  go_wp2_with (go_at_call 41; refine NS.out.mono ?_; rintro e w' ⟨rfl, rfl⟩)
                  go_ret
                  exact ⟨ret_bool (by rw [ANS.out, C17.out, C19.out, C21.out, AR.out]; simp), k0⟩
                | true =>
                  rw [hs] at NS AR
                  clear hs
                  by_cases hi : ni = 0
                  · subst hi
                    go_wp2_with (go_at_call 41; refine NS.out.mono ?_; rintro e w' ⟨rfl, rfl⟩)
                    go_ret
                    exact ⟨ret_bool (by rw [ANS.out, C17.out, C19.out, C21.out, AR.out]; simp), k0⟩
                  · have hi' : ((ni : Int) == 0) = false := by simpa using hi
                    go_wp2_with (go_at_call 41; refine NS.out.mono ?_; rintro e w' ⟨rfl, rfl⟩)
                    go_ret
                    exact ⟨ret_bool (by rw [ANS.out, C17.out, C19.out, C21.out, AR.out]; simp [hi]), k0⟩
              · have hn' : ((nn : Int) == 0) = false := by simpa using hn
                go_wp2_with (go_at_call 41; refine NS.out.mono ?_; rintro e w' ⟨rfl, rfl⟩)
                go_ret
                exact ⟨ret_bool (by rw [ANS.out, C17.out, C19.out, C21.out, AR.out]; simp [hn]), k0⟩

set_option maxRecDepth 100000 in
set_option maxHeartbeats 1000000 in
theorem validEv3 (e : Ev) (v : Value) (S : Nat → Prop) (w : World) (h : EvOf w S v e) (hK : e.kind = 3) : Calls Tryz.prog 51 #[v] w fun en w' => en = .returned (.bool (evOk e)) ∧ Keep none_ w w' := by
  obtain ⟨vn, vi, rfl, hvn, hvi⟩ := h
  have HVN := Lib.hid hvn
  obtain ⟨An, nn, cn, rfl, rn⟩ := hvn
  obtain ⟨Ai, ni, ci, rfl, -, -, il, -⟩ := (id hvi : ItemsOf _ _ _ _)
  have nl : e.needs.length = nn := by have := rn.len; simp at this; omega
  have ANS := Lib.hid (show evOk e = (fieldOk true e.name && fieldOk false e.worker && ticksOk false e.ticks && restOk false false e) by unfold evOk; rw [hK]; rfl)
  have AR := Lib.hid (show restOk false false e = ((false || decide (nn = 0)) && namesOk e.needs && (false || decide (ni = 0))) by unfold restOk; rw [nl, il])
  obtain ⟨W0, hW0⟩ : ∃ W0, W0 = w.alloc (.cells #[.int .i64 3, .string e.name, .string e.worker, .slice An nn cn, .int .i64 e.ticks, .slice Ai ni ci] 78) := ⟨_, rfl⟩
  have k0 : Keep none_ w W0 := hW0 ▸ (Keep.refl _ _).alloc _
  have b0 : Blk W0 w.heap.size 78 #[.int .i64 3, .string e.name, .string e.worker, .slice An nn cn, .int .i64 e.ticks, .slice Ai ni ci] := hW0 ▸ Blk.new _ _ _
  have d0 := b0.cell 0
  have d1 := b0.cell 1
  have d2 := b0.cell 2
  have d3 := b0.cell 3
  have d4 := b0.cell 4
  have d5 := b0.cell 5
  simp only [List.getElem?_toArray, List.getElem?_cons_zero, List.getElem?_cons_succ] at d0 d1 d2 d3 d4 d5
  have NM1 := Lib.hid (validName_any e.name W0)
  have NM2 := Lib.hid (validName_any e.worker W0)
  have NS := Lib.hid (validNames_any e.needs (.slice An nn cn) S W0 (HVN.out.keep k0.weak))
  rw [hK]
  clear nl il hvi rn hK b0 HVN
  go_enter Tryz.func51, Tryz.ntmps51
  go_upto_region 1 with (fail)
  rw [← hW0]
  clear hW0
  go_upto_region 17 with (fail)
  go_cut [36] (fun x wx => x = .bool (!fieldOk true e.name) ∧ W0 = wx)
  case first =>
    cases hf : nameOk e.name with
    | false =>
      rw [hf] at NM1
      have A := Lib.hid (show fieldOk true e.name = false by unfold fieldOk; rw [hf]; rfl)
      clear hf
      go_wp2_with (go_at_call 42; refine NM1.out.mono ?_; rintro e w' ⟨rfl, rfl⟩)
      go_meet
      exact ⟨by rw [A.out]; rfl, rfl⟩
    | true =>
      rw [hf] at NM1
      have A := Lib.hid (show fieldOk true e.name = true by unfold fieldOk; rw [hf]; rfl)
      clear hf
      go_wp2_with (go_at_call 42; refine NM1.out.mono ?_; rintro e w' ⟨rfl, rfl⟩)
      go_meet
      exact ⟨by rw [A.out]; rfl, rfl⟩
  case rest =>
    obtain ⟨rfl, rfl⟩ := hcut
    cases hc17 : fieldOk true e.name with
    | false =>
      have VF := Lib.hid (show evOk e = false by rw [ANS.out, hc17]; simp)
      clear hc17
      go_wp2
      go_ret
      exact ⟨ret_bool VF.out.symm, k0⟩
    | true =>
      have C17 := Lib.hid hc17
      clear hc17
      go_upto_region 19 with (fail)
      go_cut [52] (fun x wx => x = .bool (!fieldOk false e.worker) ∧ W0 = wx)
      case first =>
        cases hf : strEq e.worker ⟨#[]⟩ with
        | false =>
          obtain ⟨n1, n2⟩ := empty_no hf
          have A := Lib.hid (show fieldOk false e.worker = false by unfold fieldOk; rw [hf]; rfl)
          clear hf
          go_wp2
          go_meet
          exact ⟨by rw [A.out]; rfl, rfl⟩
        | true =>
          have A := Lib.hid (show fieldOk false e.worker = true by unfold fieldOk; rw [hf]; rfl)
          have q := strEq_iff.1 hf
          rw [q] at d2
          clear hf q
          go_wp2
          go_meet
          exact ⟨by rw [A.out]; rfl, rfl⟩
      case rest =>
        obtain ⟨rfl, rfl⟩ := hcut
        cases hc19 : fieldOk false e.worker with
        | false =>
          have VF := Lib.hid (show evOk e = false by rw [ANS.out, hc19]; simp)
          clear hc19
          go_wp2
          go_ret
          exact ⟨ret_bool VF.out.symm, k0⟩
        | true =>
          have C19 := Lib.hid hc19
          clear hc19
          go_upto_region 21 with (fail)
          go_cut [72] (fun x wx => x = .bool (!ticksOk false e.ticks) ∧ W0 = wx)
          case first =>
            by_cases ht : e.ticks = 0
            · have A := Lib.hid (show ticksOk false e.ticks = true by unfold ticksOk; simp [ht])
              rw [ht] at d4
              clear ht
              go_wp2
              go_meet
              exact ⟨by rw [A.out]; rfl, rfl⟩
            · have ht' : (e.ticks != 0) = true := by simpa using ht
              have A := Lib.hid (show ticksOk false e.ticks = false by unfold ticksOk; simp [ht])
              go_wp2
              go_meet
              exact ⟨by rw [A.out]; rfl, rfl⟩
          case rest =>
            obtain ⟨rfl, rfl⟩ := hcut
            cases hc21 : ticksOk false e.ticks with
            | false =>
              have VF := Lib.hid (show evOk e = false by rw [ANS.out, hc21]; simp)
              clear hc21
              go_wp2
              go_ret
              exact ⟨ret_bool VF.out.symm, k0⟩
            | true =>
              have C21 := Lib.hid hc21
              clear hc21
              by_cases hn : nn = 0
              · subst hn
                cases hs : namesOk e.needs with
                | false =>
                  rw [hs] at NS AR
                  clear hs
                  go_wp2_with (go_at_call 41; refine NS.out.mono ?_; rintro e w' ⟨rfl, rfl⟩)
                  go_ret
                  exact ⟨ret_bool (by rw [ANS.out, C17.out, C19.out, C21.out, AR.out]; simp), k0⟩
                | true =>
                  rw [hs] at NS AR
                  clear hs
                  by_cases hi : ni = 0
                  · subst hi
                    go_wp2_with (go_at_call 41; refine NS.out.mono ?_; rintro e w' ⟨rfl, rfl⟩)
                    go_ret
                    exact ⟨ret_bool (by rw [ANS.out, C17.out, C19.out, C21.out, AR.out]; simp), k0⟩
                  · have hi' : ((ni : Int) == 0) = false := by simpa using hi
                    go_wp2_with (go_at_call 41; refine NS.out.mono ?_; rintro e w' ⟨rfl, rfl⟩)
                    go_ret
                    exact ⟨ret_bool (by rw [ANS.out, C17.out, C19.out, C21.out, AR.out]; simp [hi]), k0⟩
              · have hn' : ((nn : Int) == 0) = false := by simpa using hn
                go_wp2_with (go_at_call 41; refine NS.out.mono ?_; rintro e w' ⟨rfl, rfl⟩)
                go_ret
                exact ⟨ret_bool (by rw [ANS.out, C17.out, C19.out, C21.out, AR.out]; simp [hn]), k0⟩

set_option maxRecDepth 100000 in
set_option maxHeartbeats 1000000 in
theorem validEv4 (e : Ev) (v : Value) (S : Nat → Prop) (w : World) (h : EvOf w S v e) (hK : e.kind = 4) : Calls Tryz.prog 51 #[v] w fun en w' => en = .returned (.bool (evOk e)) ∧ Keep none_ w w' := by
  obtain ⟨vn, vi, rfl, hvn, hvi⟩ := h
  have HVN := Lib.hid hvn
  obtain ⟨An, nn, cn, rfl, rn⟩ := hvn
  obtain ⟨Ai, ni, ci, rfl, -, -, il, -⟩ := (id hvi : ItemsOf _ _ _ _)
  have nl : e.needs.length = nn := by have := rn.len; simp at this; omega
  have ANS := Lib.hid (show evOk e = (fieldOk false e.name && fieldOk true e.worker && ticksOk false e.ticks && restOk false false e) by unfold evOk; rw [hK]; rfl)
  have AR := Lib.hid (show restOk false false e = ((false || decide (nn = 0)) && namesOk e.needs && (false || decide (ni = 0))) by unfold restOk; rw [nl, il])
  obtain ⟨W0, hW0⟩ : ∃ W0, W0 = w.alloc (.cells #[.int .i64 4, .string e.name, .string e.worker, .slice An nn cn, .int .i64 e.ticks, .slice Ai ni ci] 78) := ⟨_, rfl⟩
  have k0 : Keep none_ w W0 := hW0 ▸ (Keep.refl _ _).alloc _
  have b0 : Blk W0 w.heap.size 78 #[.int .i64 4, .string e.name, .string e.worker, .slice An nn cn, .int .i64 e.ticks, .slice Ai ni ci] := hW0 ▸ Blk.new _ _ _
  have d0 := b0.cell 0
  have d1 := b0.cell 1
  have d2 := b0.cell 2
  have d3 := b0.cell 3
  have d4 := b0.cell 4
  have d5 := b0.cell 5
  simp only [List.getElem?_toArray, List.getElem?_cons_zero, List.getElem?_cons_succ] at d0 d1 d2 d3 d4 d5
  have NM1 := Lib.hid (validName_any e.name W0)
  have NM2 := Lib.hid (validName_any e.worker W0)
  have NS := Lib.hid (validNames_any e.needs (.slice An nn cn) S W0 (HVN.out.keep k0.weak))
  rw [hK]
  clear nl il hvi rn hK b0 HVN
  go_enter Tryz.func51, Tryz.ntmps51
  go_upto_region 1 with (fail)
  rw [← hW0]
  clear hW0
  go_upto_region 17 with (fail)
  go_cut [36] (fun x wx => x = .bool (!fieldOk false e.name) ∧ W0 = wx)
  case first =>
    cases hf : strEq e.name ⟨#[]⟩ with
    | false =>
      obtain ⟨n1, n2⟩ := empty_no hf
      have A := Lib.hid (show fieldOk false e.name = false by unfold fieldOk; rw [hf]; rfl)
      clear hf
      go_wp2
      go_meet
      exact ⟨by rw [A.out]; rfl, rfl⟩
    | true =>
      have A := Lib.hid (show fieldOk false e.name = true by unfold fieldOk; rw [hf]; rfl)
      have q := strEq_iff.1 hf
      rw [q] at d1
      clear hf q
      go_wp2
      go_meet
      exact ⟨by rw [A.out]; rfl, rfl⟩
  case rest =>
    obtain ⟨rfl, rfl⟩ := hcut
    cases hc17 : fieldOk false e.name with
    | false =>
      have VF := Lib.hid (show evOk e = false by rw [ANS.out, hc17]; simp)
      clear hc17
      go_wp2
      go_ret
      exact ⟨ret_bool VF.out.symm, k0⟩
    | true =>
      have C17 := Lib.hid hc17
      clear hc17
      go_upto_region 19 with (fail)
      go_cut [52] (fun x wx => x = .bool (!fieldOk true e.worker) ∧ W0 = wx)
      case first =>
        cases hf : nameOk e.worker with
        | false =>
          rw [hf] at NM2
          have A := Lib.hid (show fieldOk true e.worker = false by unfold fieldOk; rw [hf]; rfl)
          clear hf
          go_wp2_with (go_at_call 42; refine NM2.out.mono ?_; rintro e w' ⟨rfl, rfl⟩)
          go_meet
          exact ⟨by rw [A.out]; rfl, rfl⟩
        | true =>
          rw [hf] at NM2
          have A := Lib.hid (show fieldOk true e.worker = true by unfold fieldOk; rw [hf]; rfl)
          clear hf
          go_wp2_with (go_at_call 42; refine NM2.out.mono ?_; rintro e w' ⟨rfl, rfl⟩)
          go_meet
          exact ⟨by rw [A.out]; rfl, rfl⟩
      case rest =>
        obtain ⟨rfl, rfl⟩ := hcut
        cases hc19 : fieldOk true e.worker with
        | false =>
          have VF := Lib.hid (show evOk e = false by rw [ANS.out, hc19]; simp)
          clear hc19
          go_wp2
          go_ret
          exact ⟨ret_bool VF.out.symm, k0⟩
        | true =>
          have C19 := Lib.hid hc19
          clear hc19
          go_upto_region 21 with (fail)
          go_cut [72] (fun x wx => x = .bool (!ticksOk false e.ticks) ∧ W0 = wx)
          case first =>
            by_cases ht : e.ticks = 0
            · have A := Lib.hid (show ticksOk false e.ticks = true by unfold ticksOk; simp [ht])
              rw [ht] at d4
              clear ht
              go_wp2
              go_meet
              exact ⟨by rw [A.out]; rfl, rfl⟩
            · have ht' : (e.ticks != 0) = true := by simpa using ht
              have A := Lib.hid (show ticksOk false e.ticks = false by unfold ticksOk; simp [ht])
              go_wp2
              go_meet
              exact ⟨by rw [A.out]; rfl, rfl⟩
          case rest =>
            obtain ⟨rfl, rfl⟩ := hcut
            cases hc21 : ticksOk false e.ticks with
            | false =>
              have VF := Lib.hid (show evOk e = false by rw [ANS.out, hc21]; simp)
              clear hc21
              go_wp2
              go_ret
              exact ⟨ret_bool VF.out.symm, k0⟩
            | true =>
              have C21 := Lib.hid hc21
              clear hc21
              by_cases hn : nn = 0
              · subst hn
                cases hs : namesOk e.needs with
                | false =>
                  rw [hs] at NS AR
                  clear hs
                  go_wp2_with (go_at_call 41; refine NS.out.mono ?_; rintro e w' ⟨rfl, rfl⟩)
                  go_ret
                  exact ⟨ret_bool (by rw [ANS.out, C17.out, C19.out, C21.out, AR.out]; simp), k0⟩
                | true =>
                  rw [hs] at NS AR
                  clear hs
                  by_cases hi : ni = 0
                  · subst hi
                    go_wp2_with (go_at_call 41; refine NS.out.mono ?_; rintro e w' ⟨rfl, rfl⟩)
                    go_ret
                    exact ⟨ret_bool (by rw [ANS.out, C17.out, C19.out, C21.out, AR.out]; simp), k0⟩
                  · have hi' : ((ni : Int) == 0) = false := by simpa using hi
                    go_wp2_with (go_at_call 41; refine NS.out.mono ?_; rintro e w' ⟨rfl, rfl⟩)
                    go_ret
                    exact ⟨ret_bool (by rw [ANS.out, C17.out, C19.out, C21.out, AR.out]; simp [hi]), k0⟩
              · have hn' : ((nn : Int) == 0) = false := by simpa using hn
                go_wp2_with (go_at_call 41; refine NS.out.mono ?_; rintro e w' ⟨rfl, rfl⟩)
                go_ret
                exact ⟨ret_bool (by rw [ANS.out, C17.out, C19.out, C21.out, AR.out]; simp [hn]), k0⟩

set_option maxRecDepth 100000 in
set_option maxHeartbeats 1000000 in
theorem validEv5 (e : Ev) (v : Value) (S : Nat → Prop) (w : World) (h : EvOf w S v e) (hK : e.kind = 5) : Calls Tryz.prog 51 #[v] w fun en w' => en = .returned (.bool (evOk e)) ∧ Keep none_ w w' := by
  obtain ⟨vn, vi, rfl, hvn, hvi⟩ := h
  have HVN := Lib.hid hvn
  obtain ⟨An, nn, cn, rfl, rn⟩ := hvn
  obtain ⟨Ai, ni, ci, rfl, -, -, il, -⟩ := (id hvi : ItemsOf _ _ _ _)
  have nl : e.needs.length = nn := by have := rn.len; simp at this; omega
  have ANS := Lib.hid (show evOk e = (fieldOk false e.name && fieldOk true e.worker && ticksOk false e.ticks && restOk false false e) by unfold evOk; rw [hK]; rfl)
  have AR := Lib.hid (show restOk false false e = ((false || decide (nn = 0)) && namesOk e.needs && (false || decide (ni = 0))) by unfold restOk; rw [nl, il])
  obtain ⟨W0, hW0⟩ : ∃ W0, W0 = w.alloc (.cells #[.int .i64 5, .string e.name, .string e.worker, .slice An nn cn, .int .i64 e.ticks, .slice Ai ni ci] 78) := ⟨_, rfl⟩
  have k0 : Keep none_ w W0 := hW0 ▸ (Keep.refl _ _).alloc _
  have b0 : Blk W0 w.heap.size 78 #[.int .i64 5, .string e.name, .string e.worker, .slice An nn cn, .int .i64 e.ticks, .slice Ai ni ci] := hW0 ▸ Blk.new _ _ _
  have d0 := b0.cell 0
  have d1 := b0.cell 1
  have d2 := b0.cell 2
  have d3 := b0.cell 3
  have d4 := b0.cell 4
  have d5 := b0.cell 5
  simp only [List.getElem?_toArray, List.getElem?_cons_zero, List.getElem?_cons_succ] at d0 d1 d2 d3 d4 d5
  have NM1 := Lib.hid (validName_any e.name W0)
  have NM2 := Lib.hid (validName_any e.worker W0)
  have NS := Lib.hid (validNames_any e.needs (.slice An nn cn) S W0 (HVN.out.keep k0.weak))
  rw [hK]
  clear nl il hvi rn hK b0 HVN
  go_enter Tryz.func51, Tryz.ntmps51
  go_upto_region 1 with (fail)
  rw [← hW0]
  clear hW0
  go_upto_region 17 with (fail)
  go_cut [36] (fun x wx => x = .bool (!fieldOk false e.name) ∧ W0 = wx)
  case first =>
    cases hf : strEq e.name ⟨#[]⟩ with
    | false =>
      obtain ⟨n1, n2⟩ := empty_no hf
      have A := Lib.hid (show fieldOk false e.name = false by unfold fieldOk; rw [hf]; rfl)
      clear hf
      go_wp2
      go_meet
      exact ⟨by rw [A.out]; rfl, rfl⟩
    | true =>
      have A := Lib.hid (show fieldOk false e.name = true by unfold fieldOk; rw [hf]; rfl)
      have q := strEq_iff.1 hf
      rw [q] at d1
      clear hf q
      go_wp2
      go_meet
      exact ⟨by rw [A.out]; rfl, rfl⟩
  case rest =>
    obtain ⟨rfl, rfl⟩ := hcut
    cases hc17 : fieldOk false e.name with
    | false =>
      have VF := Lib.hid (show evOk e = false by rw [ANS.out, hc17]; simp)
      clear hc17
      go_wp2
      go_ret
      exact ⟨ret_bool VF.out.symm, k0⟩
    | true =>
      have C17 := Lib.hid hc17
      clear hc17
      go_upto_region 19 with (fail)
      go_cut [52] (fun x wx => x = .bool (!fieldOk true e.worker) ∧ W0 = wx)
      case first =>
        cases hf : nameOk e.worker with
        | false =>
          rw [hf] at NM2
          have A := Lib.hid (show fieldOk true e.worker = false by unfold fieldOk; rw [hf]; rfl)
          clear hf
          go_wp2_with (go_at_call 42; refine NM2.out.mono ?_; rintro e w' ⟨rfl, rfl⟩)
          go_meet
          exact ⟨by rw [A.out]; rfl, rfl⟩
        | true =>
          rw [hf] at NM2
          have A := Lib.hid (show fieldOk true e.worker = true by unfold fieldOk; rw [hf]; rfl)
          clear hf
          go_wp2_with (go_at_call 42; refine NM2.out.mono ?_; rintro e w' ⟨rfl, rfl⟩)
          go_meet
          exact ⟨by rw [A.out]; rfl, rfl⟩
      case rest =>
        obtain ⟨rfl, rfl⟩ := hcut
        cases hc19 : fieldOk true e.worker with
        | false =>
          have VF := Lib.hid (show evOk e = false by rw [ANS.out, hc19]; simp)
          clear hc19
          go_wp2
          go_ret
          exact ⟨ret_bool VF.out.symm, k0⟩
        | true =>
          have C19 := Lib.hid hc19
          clear hc19
          go_upto_region 21 with (fail)
          go_cut [72] (fun x wx => x = .bool (!ticksOk false e.ticks) ∧ W0 = wx)
          case first =>
            by_cases ht : e.ticks = 0
            · have A := Lib.hid (show ticksOk false e.ticks = true by unfold ticksOk; simp [ht])
              rw [ht] at d4
              clear ht
              go_wp2
              go_meet
              exact ⟨by rw [A.out]; rfl, rfl⟩
            · have ht' : (e.ticks != 0) = true := by simpa using ht
              have A := Lib.hid (show ticksOk false e.ticks = false by unfold ticksOk; simp [ht])
              go_wp2
              go_meet
              exact ⟨by rw [A.out]; rfl, rfl⟩
          case rest =>
            obtain ⟨rfl, rfl⟩ := hcut
            cases hc21 : ticksOk false e.ticks with
            | false =>
              have VF := Lib.hid (show evOk e = false by rw [ANS.out, hc21]; simp)
              clear hc21
              go_wp2
              go_ret
              exact ⟨ret_bool VF.out.symm, k0⟩
            | true =>
              have C21 := Lib.hid hc21
              clear hc21
              by_cases hn : nn = 0
              · subst hn
                cases hs : namesOk e.needs with
                | false =>
                  rw [hs] at NS AR
                  clear hs
                  go_wp2_with (go_at_call 41; refine NS.out.mono ?_; rintro e w' ⟨rfl, rfl⟩)
                  go_ret
                  exact ⟨ret_bool (by rw [ANS.out, C17.out, C19.out, C21.out, AR.out]; simp), k0⟩
                | true =>
                  rw [hs] at NS AR
                  clear hs
                  by_cases hi : ni = 0
                  · subst hi
                    go_wp2_with (go_at_call 41; refine NS.out.mono ?_; rintro e w' ⟨rfl, rfl⟩)
                    go_ret
                    exact ⟨ret_bool (by rw [ANS.out, C17.out, C19.out, C21.out, AR.out]; simp), k0⟩
                  · have hi' : ((ni : Int) == 0) = false := by simpa using hi
                    go_wp2_with (go_at_call 41; refine NS.out.mono ?_; rintro e w' ⟨rfl, rfl⟩)
                    go_ret
                    exact ⟨ret_bool (by rw [ANS.out, C17.out, C19.out, C21.out, AR.out]; simp [hi]), k0⟩
              · have hn' : ((nn : Int) == 0) = false := by simpa using hn
                go_wp2_with (go_at_call 41; refine NS.out.mono ?_; rintro e w' ⟨rfl, rfl⟩)
                go_ret
                exact ⟨ret_bool (by rw [ANS.out, C17.out, C19.out, C21.out, AR.out]; simp [hn]), k0⟩

set_option maxRecDepth 100000 in
set_option maxHeartbeats 1000000 in
theorem validEv6 (e : Ev) (v : Value) (S : Nat → Prop) (w : World) (h : EvOf w S v e) (hK : e.kind = 6) : Calls Tryz.prog 51 #[v] w fun en w' => en = .returned (.bool (evOk e)) ∧ Keep none_ w w' := by
  obtain ⟨vn, vi, rfl, hvn, hvi⟩ := h
  have HVN := Lib.hid hvn
  obtain ⟨An, nn, cn, rfl, rn⟩ := hvn
  obtain ⟨Ai, ni, ci, rfl, -, -, il, -⟩ := (id hvi : ItemsOf _ _ _ _)
  have nl : e.needs.length = nn := by have := rn.len; simp at this; omega
  have ANS := Lib.hid (show evOk e = (fieldOk false e.name && fieldOk true e.worker && ticksOk false e.ticks && restOk false false e) by unfold evOk; rw [hK]; rfl)
  have AR := Lib.hid (show restOk false false e = ((false || decide (nn = 0)) && namesOk e.needs && (false || decide (ni = 0))) by unfold restOk; rw [nl, il])
  obtain ⟨W0, hW0⟩ : ∃ W0, W0 = w.alloc (.cells #[.int .i64 6, .string e.name, .string e.worker, .slice An nn cn, .int .i64 e.ticks, .slice Ai ni ci] 78) := ⟨_, rfl⟩
  have k0 : Keep none_ w W0 := hW0 ▸ (Keep.refl _ _).alloc _
  have b0 : Blk W0 w.heap.size 78 #[.int .i64 6, .string e.name, .string e.worker, .slice An nn cn, .int .i64 e.ticks, .slice Ai ni ci] := hW0 ▸ Blk.new _ _ _
  have d0 := b0.cell 0
  have d1 := b0.cell 1
  have d2 := b0.cell 2
  have d3 := b0.cell 3
  have d4 := b0.cell 4
  have d5 := b0.cell 5
  simp only [List.getElem?_toArray, List.getElem?_cons_zero, List.getElem?_cons_succ] at d0 d1 d2 d3 d4 d5
  have NM1 := Lib.hid (validName_any e.name W0)
  have NM2 := Lib.hid (validName_any e.worker W0)
  have NS := Lib.hid (validNames_any e.needs (.slice An nn cn) S W0 (HVN.out.keep k0.weak))
  rw [hK]
  clear nl il hvi rn hK b0 HVN
  go_enter Tryz.func51, Tryz.ntmps51
  go_upto_region 1 with (fail)
  rw [← hW0]
  clear hW0
  go_upto_region 17 with (fail)
  go_cut [36] (fun x wx => x = .bool (!fieldOk false e.name) ∧ W0 = wx)
  case first =>
    cases hf : strEq e.name ⟨#[]⟩ with
    | false =>
      obtain ⟨n1, n2⟩ := empty_no hf
      have A := Lib.hid (show fieldOk false e.name = false by unfold fieldOk; rw [hf]; rfl)
      clear hf
      go_wp2
      go_meet
      exact ⟨by rw [A.out]; rfl, rfl⟩
    | true =>
      have A := Lib.hid (show fieldOk false e.name = true by unfold fieldOk; rw [hf]; rfl)
      have q := strEq_iff.1 hf
      rw [q] at d1
      clear hf q
      go_wp2
      go_meet
      exact ⟨by rw [A.out]; rfl, rfl⟩
  case rest =>
    obtain ⟨rfl, rfl⟩ := hcut
    cases hc17 : fieldOk false e.name with
    | false =>
      have VF := Lib.hid (show evOk e = false by rw [ANS.out, hc17]; simp)
      clear hc17
      go_wp2
      go_ret
      exact ⟨ret_bool VF.out.symm, k0⟩
    | true =>
      have C17 := Lib.hid hc17
      clear hc17
      go_upto_region 19 with (fail)
      go_cut [52] (fun x wx => x = .bool (!fieldOk true e.worker) ∧ W0 = wx)
      case first =>
        cases hf : nameOk e.worker with
        | false =>
          rw [hf] at NM2
          have A := Lib.hid (show fieldOk true e.worker = false by unfold fieldOk; rw [hf]; rfl)
          clear hf
          go_wp2_with (go_at_call 42; refine NM2.out.mono ?_; rintro e w' ⟨rfl, rfl⟩)
          go_meet
          exact ⟨by rw [A.out]; rfl, rfl⟩
        | true =>
          rw [hf] at NM2
          have A := Lib.hid (show fieldOk true e.worker = true by unfold fieldOk; rw [hf]; rfl)
          clear hf
          go_wp2_with (go_at_call 42; refine NM2.out.mono ?_; rintro e w' ⟨rfl, rfl⟩)
          go_meet
          exact ⟨by rw [A.out]; rfl, rfl⟩
      case rest =>
        obtain ⟨rfl, rfl⟩ := hcut
        cases hc19 : fieldOk true e.worker with
        | false =>
          have VF := Lib.hid (show evOk e = false by rw [ANS.out, hc19]; simp)
          clear hc19
          go_wp2
          go_ret
          exact ⟨ret_bool VF.out.symm, k0⟩
        | true =>
          have C19 := Lib.hid hc19
          clear hc19
          go_upto_region 21 with (fail)
          go_cut [72] (fun x wx => x = .bool (!ticksOk false e.ticks) ∧ W0 = wx)
          case first =>
            by_cases ht : e.ticks = 0
            · have A := Lib.hid (show ticksOk false e.ticks = true by unfold ticksOk; simp [ht])
              rw [ht] at d4
              clear ht
              go_wp2
              go_meet
              exact ⟨by rw [A.out]; rfl, rfl⟩
            · have ht' : (e.ticks != 0) = true := by simpa using ht
              have A := Lib.hid (show ticksOk false e.ticks = false by unfold ticksOk; simp [ht])
              go_wp2
              go_meet
              exact ⟨by rw [A.out]; rfl, rfl⟩
          case rest =>
            obtain ⟨rfl, rfl⟩ := hcut
            cases hc21 : ticksOk false e.ticks with
            | false =>
              have VF := Lib.hid (show evOk e = false by rw [ANS.out, hc21]; simp)
              clear hc21
              go_wp2
              go_ret
              exact ⟨ret_bool VF.out.symm, k0⟩
            | true =>
              have C21 := Lib.hid hc21
              clear hc21
              by_cases hn : nn = 0
              · subst hn
                cases hs : namesOk e.needs with
                | false =>
                  rw [hs] at NS AR
                  clear hs
                  go_wp2_with (go_at_call 41; refine NS.out.mono ?_; rintro e w' ⟨rfl, rfl⟩)
                  go_ret
                  exact ⟨ret_bool (by rw [ANS.out, C17.out, C19.out, C21.out, AR.out]; simp), k0⟩
                | true =>
                  rw [hs] at NS AR
                  clear hs
                  by_cases hi : ni = 0
                  · subst hi
                    go_wp2_with (go_at_call 41; refine NS.out.mono ?_; rintro e w' ⟨rfl, rfl⟩)
                    go_ret
                    exact ⟨ret_bool (by rw [ANS.out, C17.out, C19.out, C21.out, AR.out]; simp), k0⟩
                  · have hi' : ((ni : Int) == 0) = false := by simpa using hi
                    go_wp2_with (go_at_call 41; refine NS.out.mono ?_; rintro e w' ⟨rfl, rfl⟩)
                    go_ret
                    exact ⟨ret_bool (by rw [ANS.out, C17.out, C19.out, C21.out, AR.out]; simp [hi]), k0⟩
              · have hn' : ((nn : Int) == 0) = false := by simpa using hn
                go_wp2_with (go_at_call 41; refine NS.out.mono ?_; rintro e w' ⟨rfl, rfl⟩)
                go_ret
                exact ⟨ret_bool (by rw [ANS.out, C17.out, C19.out, C21.out, AR.out]; simp [hn]), k0⟩

set_option maxRecDepth 100000 in
set_option maxHeartbeats 1000000 in
theorem validEv7 (e : Ev) (v : Value) (S : Nat → Prop) (w : World) (h : EvOf w S v e) (hK : e.kind = 7) : Calls Tryz.prog 51 #[v] w fun en w' => en = .returned (.bool (evOk e)) ∧ Keep none_ w w' := by
  obtain ⟨vn, vi, rfl, hvn, hvi⟩ := h
  have HVN := Lib.hid hvn
  obtain ⟨An, nn, cn, rfl, rn⟩ := hvn
  obtain ⟨Ai, ni, ci, rfl, -, -, il, -⟩ := (id hvi : ItemsOf _ _ _ _)
  have nl : e.needs.length = nn := by have := rn.len; simp at this; omega
  have ANS := Lib.hid (show evOk e = (fieldOk true e.name && fieldOk true e.worker && ticksOk false e.ticks && restOk false true e) by unfold evOk; rw [hK]; rfl)
  have AR := Lib.hid (show restOk false true e = ((false || decide (nn = 0)) && namesOk e.needs && (true || decide (ni = 0))) by unfold restOk; rw [nl, il])
  obtain ⟨W0, hW0⟩ : ∃ W0, W0 = w.alloc (.cells #[.int .i64 7, .string e.name, .string e.worker, .slice An nn cn, .int .i64 e.ticks, .slice Ai ni ci] 78) := ⟨_, rfl⟩
  have k0 : Keep none_ w W0 := hW0 ▸ (Keep.refl _ _).alloc _
  have b0 : Blk W0 w.heap.size 78 #[.int .i64 7, .string e.name, .string e.worker, .slice An nn cn, .int .i64 e.ticks, .slice Ai ni ci] := hW0 ▸ Blk.new _ _ _
  have d0 := b0.cell 0
  have d1 := b0.cell 1
  have d2 := b0.cell 2
  have d3 := b0.cell 3
  have d4 := b0.cell 4
  have d5 := b0.cell 5
  simp only [List.getElem?_toArray, List.getElem?_cons_zero, List.getElem?_cons_succ] at d0 d1 d2 d3 d4 d5
  have NM1 := Lib.hid (validName_any e.name W0)
  have NM2 := Lib.hid (validName_any e.worker W0)
  have NS := Lib.hid (validNames_any e.needs (.slice An nn cn) S W0 (HVN.out.keep k0.weak))
  rw [hK]
  clear nl il hvi rn hK b0 HVN
  go_enter Tryz.func51, Tryz.ntmps51
  go_upto_region 1 with (fail)
  rw [← hW0]
  clear hW0
  go_upto_region 17 with (fail)
  go_cut [36] (fun x wx => x = .bool (!fieldOk true e.name) ∧ W0 = wx)
  case first =>
    cases hf : nameOk e.name with
    | false =>
      rw [hf] at NM1
      have A := Lib.hid (show fieldOk true e.name = false by unfold fieldOk; rw [hf]; rfl)
      clear hf
      go_wp2_with (go_at_call 42; refine NM1.out.mono ?_; rintro e w' ⟨rfl, rfl⟩)
      go_meet
      exact ⟨by rw [A.out]; rfl, rfl⟩
    | true =>
      rw [hf] at NM1
      have A := Lib.hid (show fieldOk true e.name = true by unfold fieldOk; rw [hf]; rfl)
      clear hf
      go_wp2_with (go_at_call 42; refine NM1.out.mono ?_; rintro e w' ⟨rfl, rfl⟩)
      go_meet
      exact ⟨by rw [A.out]; rfl, rfl⟩
  case rest =>
    obtain ⟨rfl, rfl⟩ := hcut
    cases hc17 : fieldOk true e.name with
    | false =>
      have VF := Lib.hid (show evOk e = false by rw [ANS.out, hc17]; simp)
      clear hc17
      go_wp2
      go_ret
      exact ⟨ret_bool VF.out.symm, k0⟩
    | true =>
      have C17 := Lib.hid hc17
      clear hc17
      go_upto_region 19 with (fail)
      go_cut [52] (fun x wx => x = .bool (!fieldOk true e.worker) ∧ W0 = wx)
      case first =>
        cases hf : nameOk e.worker with
        | false =>
          rw [hf] at NM2
          have A := Lib.hid (show fieldOk true e.worker = false by unfold fieldOk; rw [hf]; rfl)
          clear hf
          go_wp2_with (go_at_call 42; refine NM2.out.mono ?_; rintro e w' ⟨rfl, rfl⟩)
          go_meet
          exact ⟨by rw [A.out]; rfl, rfl⟩
        | true =>
          rw [hf] at NM2
          have A := Lib.hid (show fieldOk true e.worker = true by unfold fieldOk; rw [hf]; rfl)
          clear hf
          go_wp2_with (go_at_call 42; refine NM2.out.mono ?_; rintro e w' ⟨rfl, rfl⟩)
          go_meet
          exact ⟨by rw [A.out]; rfl, rfl⟩
      case rest =>
        obtain ⟨rfl, rfl⟩ := hcut
        cases hc19 : fieldOk true e.worker with
        | false =>
          have VF := Lib.hid (show evOk e = false by rw [ANS.out, hc19]; simp)
          clear hc19
          go_wp2
          go_ret
          exact ⟨ret_bool VF.out.symm, k0⟩
        | true =>
          have C19 := Lib.hid hc19
          clear hc19
          go_upto_region 21 with (fail)
          go_cut [72] (fun x wx => x = .bool (!ticksOk false e.ticks) ∧ W0 = wx)
          case first =>
            by_cases ht : e.ticks = 0
            · have A := Lib.hid (show ticksOk false e.ticks = true by unfold ticksOk; simp [ht])
              rw [ht] at d4
              clear ht
              go_wp2
              go_meet
              exact ⟨by rw [A.out]; rfl, rfl⟩
            · have ht' : (e.ticks != 0) = true := by simpa using ht
              have A := Lib.hid (show ticksOk false e.ticks = false by unfold ticksOk; simp [ht])
              go_wp2
              go_meet
              exact ⟨by rw [A.out]; rfl, rfl⟩
          case rest =>
            obtain ⟨rfl, rfl⟩ := hcut
            cases hc21 : ticksOk false e.ticks with
            | false =>
              have VF := Lib.hid (show evOk e = false by rw [ANS.out, hc21]; simp)
              clear hc21
              go_wp2
              go_ret
              exact ⟨ret_bool VF.out.symm, k0⟩
            | true =>
              have C21 := Lib.hid hc21
              clear hc21
              by_cases hn : nn = 0
              · subst hn
                cases hs : namesOk e.needs with
                | false =>
                  rw [hs] at NS AR
                  clear hs
                  go_wp2_with (go_at_call 41; refine NS.out.mono ?_; rintro e w' ⟨rfl, rfl⟩)
                  go_ret
                  exact ⟨ret_bool (by rw [ANS.out, C17.out, C19.out, C21.out, AR.out]; simp), k0⟩
                | true =>
                  rw [hs] at NS AR
                  clear hs
                  go_wp2_with (go_at_call 41; refine NS.out.mono ?_; rintro e w' ⟨rfl, rfl⟩)
                  go_ret
                  exact ⟨ret_bool (by rw [ANS.out, C17.out, C19.out, C21.out, AR.out]; simp), k0⟩
              · have hn' : ((nn : Int) == 0) = false := by simpa using hn
                go_wp2_with (go_at_call 41; refine NS.out.mono ?_; rintro e w' ⟨rfl, rfl⟩)
                go_ret
                exact ⟨ret_bool (by rw [ANS.out, C17.out, C19.out, C21.out, AR.out]; simp [hn]), k0⟩

set_option maxRecDepth 100000 in
set_option maxHeartbeats 1000000 in
theorem validEv8 (e : Ev) (v : Value) (S : Nat → Prop) (w : World) (h : EvOf w S v e) (hK : e.kind = 8) : Calls Tryz.prog 51 #[v] w fun en w' => en = .returned (.bool (evOk e)) ∧ Keep none_ w w' := by
  obtain ⟨vn, vi, rfl, hvn, hvi⟩ := h
  have HVN := Lib.hid hvn
  obtain ⟨An, nn, cn, rfl, rn⟩ := hvn
  obtain ⟨Ai, ni, ci, rfl, -, -, il, -⟩ := (id hvi : ItemsOf _ _ _ _)
  have nl : e.needs.length = nn := by have := rn.len; simp at this; omega
  have ANS := Lib.hid (show evOk e = (fieldOk true e.name && fieldOk true e.worker && ticksOk false e.ticks && restOk false false e) by unfold evOk; rw [hK]; rfl)
  have AR := Lib.hid (show restOk false false e = ((false || decide (nn = 0)) && namesOk e.needs && (false || decide (ni = 0))) by unfold restOk; rw [nl, il])
  obtain ⟨W0, hW0⟩ : ∃ W0, W0 = w.alloc (.cells #[.int .i64 8, .string e.name, .string e.worker, .slice An nn cn, .int .i64 e.ticks, .slice Ai ni ci] 78) := ⟨_, rfl⟩
  have k0 : Keep none_ w W0 := hW0 ▸ (Keep.refl _ _).alloc _
  have b0 : Blk W0 w.heap.size 78 #[.int .i64 8, .string e.name, .string e.worker, .slice An nn cn, .int .i64 e.ticks, .slice Ai ni ci] := hW0 ▸ Blk.new _ _ _
  have d0 := b0.cell 0
  have d1 := b0.cell 1
  have d2 := b0.cell 2
  have d3 := b0.cell 3
  have d4 := b0.cell 4
  have d5 := b0.cell 5
  simp only [List.getElem?_toArray, List.getElem?_cons_zero, List.getElem?_cons_succ] at d0 d1 d2 d3 d4 d5
  have NM1 := Lib.hid (validName_any e.name W0)
  have NM2 := Lib.hid (validName_any e.worker W0)
  have NS := Lib.hid (validNames_any e.needs (.slice An nn cn) S W0 (HVN.out.keep k0.weak))
  rw [hK]
  clear nl il hvi rn hK b0 HVN
  go_enter Tryz.func51, Tryz.ntmps51
  go_upto_region 1 with (fail)
  rw [← hW0]
  clear hW0
  go_upto_region 17 with (fail)
  go_cut [36] (fun x wx => x = .bool (!fieldOk true e.name) ∧ W0 = wx)
  case first =>
    cases hf : nameOk e.name with
    | false =>
      rw [hf] at NM1
      have A := Lib.hid (show fieldOk true e.name = false by unfold fieldOk; rw [hf]; rfl)
      clear hf
      go_wp2_with (go_at_call 42; refine NM1.out.mono ?_; rintro e w' ⟨rfl, rfl⟩)
      go_meet
      exact ⟨by rw [A.out]; rfl, rfl⟩
    | true =>
      rw [hf] at NM1
      have A := Lib.hid (show fieldOk true e.name = true by unfold fieldOk; rw [hf]; rfl)
      clear hf
      go_wp2_with (go_at_call 42; refine NM1.out.mono ?_; rintro e w' ⟨rfl, rfl⟩)
      go_meet
      exact ⟨by rw [A.out]; rfl, rfl⟩
  case rest =>
    obtain ⟨rfl, rfl⟩ := hcut
    cases hc17 : fieldOk true e.name with
    | false =>
      have VF := Lib.hid (show evOk e = false by rw [ANS.out, hc17]; simp)
      clear hc17
      go_wp2
      go_ret
      exact ⟨ret_bool VF.out.symm, k0⟩
    | true =>
      have C17 := Lib.hid hc17
      clear hc17
      go_upto_region 19 with (fail)
      go_cut [52] (fun x wx => x = .bool (!fieldOk true e.worker) ∧ W0 = wx)
      case first =>
        cases hf : nameOk e.worker with
        | false =>
          rw [hf] at NM2
          have A := Lib.hid (show fieldOk true e.worker = false by unfold fieldOk; rw [hf]; rfl)
          clear hf
          go_wp2_with (go_at_call 42; refine NM2.out.mono ?_; rintro e w' ⟨rfl, rfl⟩)
          go_meet
          exact ⟨by rw [A.out]; rfl, rfl⟩
        | true =>
          rw [hf] at NM2
          have A := Lib.hid (show fieldOk true e.worker = true by unfold fieldOk; rw [hf]; rfl)
          clear hf
          go_wp2_with (go_at_call 42; refine NM2.out.mono ?_; rintro e w' ⟨rfl, rfl⟩)
          go_meet
          exact ⟨by rw [A.out]; rfl, rfl⟩
      case rest =>
        obtain ⟨rfl, rfl⟩ := hcut
        cases hc19 : fieldOk true e.worker with
        | false =>
          have VF := Lib.hid (show evOk e = false by rw [ANS.out, hc19]; simp)
          clear hc19
          go_wp2
          go_ret
          exact ⟨ret_bool VF.out.symm, k0⟩
        | true =>
          have C19 := Lib.hid hc19
          clear hc19
          go_upto_region 21 with (fail)
          go_cut [72] (fun x wx => x = .bool (!ticksOk false e.ticks) ∧ W0 = wx)
          case first =>
            by_cases ht : e.ticks = 0
            · have A := Lib.hid (show ticksOk false e.ticks = true by unfold ticksOk; simp [ht])
              rw [ht] at d4
              clear ht
              go_wp2
              go_meet
              exact ⟨by rw [A.out]; rfl, rfl⟩
            · have ht' : (e.ticks != 0) = true := by simpa using ht
              have A := Lib.hid (show ticksOk false e.ticks = false by unfold ticksOk; simp [ht])
              go_wp2
              go_meet
              exact ⟨by rw [A.out]; rfl, rfl⟩
          case rest =>
            obtain ⟨rfl, rfl⟩ := hcut
            cases hc21 : ticksOk false e.ticks with
            | false =>
              have VF := Lib.hid (show evOk e = false by rw [ANS.out, hc21]; simp)
              clear hc21
              go_wp2
              go_ret
              exact ⟨ret_bool VF.out.symm, k0⟩
            | true =>
              have C21 := Lib.hid hc21
              clear hc21
              by_cases hn : nn = 0
              · subst hn
                cases hs : namesOk e.needs with
                | false =>
                  rw [hs] at NS AR
                  clear hs
                  go_wp2_with (go_at_call 41; refine NS.out.mono ?_; rintro e w' ⟨rfl, rfl⟩)
                  go_ret
                  exact ⟨ret_bool (by rw [ANS.out, C17.out, C19.out, C21.out, AR.out]; simp), k0⟩
                | true =>
                  rw [hs] at NS AR
                  clear hs
                  by_cases hi : ni = 0
                  · subst hi
                    go_wp2_with (go_at_call 41; refine NS.out.mono ?_; rintro e w' ⟨rfl, rfl⟩)
                    go_ret
                    exact ⟨ret_bool (by rw [ANS.out, C17.out, C19.out, C21.out, AR.out]; simp), k0⟩
                  · have hi' : ((ni : Int) == 0) = false := by simpa using hi
                    go_wp2_with (go_at_call 41; refine NS.out.mono ?_; rintro e w' ⟨rfl, rfl⟩)
                    go_ret
                    exact ⟨ret_bool (by rw [ANS.out, C17.out, C19.out, C21.out, AR.out]; simp [hi]), k0⟩
              · have hn' : ((nn : Int) == 0) = false := by simpa using hn
                go_wp2_with (go_at_call 41; refine NS.out.mono ?_; rintro e w' ⟨rfl, rfl⟩)
                go_ret
                exact ⟨ret_bool (by rw [ANS.out, C17.out, C19.out, C21.out, AR.out]; simp [hn]), k0⟩

set_option maxRecDepth 100000 in
set_option maxHeartbeats 1000000 in
theorem validEv9 (e : Ev) (v : Value) (S : Nat → Prop) (w : World) (h : EvOf w S v e) (hK : e.kind = 9) : Calls Tryz.prog 51 #[v] w fun en w' => en = .returned (.bool (evOk e)) ∧ Keep none_ w w' := by
  obtain ⟨vn, vi, rfl, hvn, hvi⟩ := h
  have HVN := Lib.hid hvn
  obtain ⟨An, nn, cn, rfl, rn⟩ := hvn
  obtain ⟨Ai, ni, ci, rfl, -, -, il, -⟩ := (id hvi : ItemsOf _ _ _ _)
  have nl : e.needs.length = nn := by have := rn.len; simp at this; omega
  have ANS := Lib.hid (show evOk e = (fieldOk false e.name && fieldOk false e.worker && ticksOk true e.ticks && restOk false false e) by unfold evOk; rw [hK]; rfl)
  have AR := Lib.hid (show restOk false false e = ((false || decide (nn = 0)) && namesOk e.needs && (false || decide (ni = 0))) by unfold restOk; rw [nl, il])
  obtain ⟨W0, hW0⟩ : ∃ W0, W0 = w.alloc (.cells #[.int .i64 9, .string e.name, .string e.worker, .slice An nn cn, .int .i64 e.ticks, .slice Ai ni ci] 78) := ⟨_, rfl⟩
  have k0 : Keep none_ w W0 := hW0 ▸ (Keep.refl _ _).alloc _
  have b0 : Blk W0 w.heap.size 78 #[.int .i64 9, .string e.name, .string e.worker, .slice An nn cn, .int .i64 e.ticks, .slice Ai ni ci] := hW0 ▸ Blk.new _ _ _
  have d0 := b0.cell 0
  have d1 := b0.cell 1
  have d2 := b0.cell 2
  have d3 := b0.cell 3
  have d4 := b0.cell 4
  have d5 := b0.cell 5
  simp only [List.getElem?_toArray, List.getElem?_cons_zero, List.getElem?_cons_succ] at d0 d1 d2 d3 d4 d5
  have NM1 := Lib.hid (validName_any e.name W0)
  have NM2 := Lib.hid (validName_any e.worker W0)
  have NS := Lib.hid (validNames_any e.needs (.slice An nn cn) S W0 (HVN.out.keep k0.weak))
  rw [hK]
  clear nl il hvi rn hK b0 HVN
  go_enter Tryz.func51, Tryz.ntmps51
  go_upto_region 1 with (fail)
  rw [← hW0]
  clear hW0
  go_upto_region 17 with (fail)
  go_cut [36] (fun x wx => x = .bool (!fieldOk false e.name) ∧ W0 = wx)
  case first =>
    cases hf : strEq e.name ⟨#[]⟩ with
    | false =>
      obtain ⟨n1, n2⟩ := empty_no hf
      have A := Lib.hid (show fieldOk false e.name = false by unfold fieldOk; rw [hf]; rfl)
      clear hf
      go_wp2
      go_meet
      exact ⟨by rw [A.out]; rfl, rfl⟩
    | true =>
      have A := Lib.hid (show fieldOk false e.name = true by unfold fieldOk; rw [hf]; rfl)
      have q := strEq_iff.1 hf
      rw [q] at d1
      clear hf q
      go_wp2
      go_meet
      exact ⟨by rw [A.out]; rfl, rfl⟩
  case rest =>
    obtain ⟨rfl, rfl⟩ := hcut
    cases hc17 : fieldOk false e.name with
    | false =>
      have VF := Lib.hid (show evOk e = false by rw [ANS.out, hc17]; simp)
      clear hc17
      go_wp2
      go_ret
      exact ⟨ret_bool VF.out.symm, k0⟩
    | true =>
      have C17 := Lib.hid hc17
      clear hc17
      go_upto_region 19 with (fail)
      go_cut [52] (fun x wx => x = .bool (!fieldOk false e.worker) ∧ W0 = wx)
      case first =>
        cases hf : strEq e.worker ⟨#[]⟩ with
        | false =>
          obtain ⟨n1, n2⟩ := empty_no hf
          have A := Lib.hid (show fieldOk false e.worker = false by unfold fieldOk; rw [hf]; rfl)
          clear hf
          go_wp2
          go_meet
          exact ⟨by rw [A.out]; rfl, rfl⟩
        | true =>
          have A := Lib.hid (show fieldOk false e.worker = true by unfold fieldOk; rw [hf]; rfl)
          have q := strEq_iff.1 hf
          rw [q] at d2
          clear hf q
          go_wp2
          go_meet
          exact ⟨by rw [A.out]; rfl, rfl⟩
      case rest =>
        obtain ⟨rfl, rfl⟩ := hcut
        cases hc19 : fieldOk false e.worker with
        | false =>
          have VF := Lib.hid (show evOk e = false by rw [ANS.out, hc19]; simp)
          clear hc19
          go_wp2
          go_ret
          exact ⟨ret_bool VF.out.symm, k0⟩
        | true =>
          have C19 := Lib.hid hc19
          clear hc19
          go_upto_region 21 with (fail)
          go_cut [72] (fun x wx => x = .bool (!ticksOk true e.ticks) ∧ W0 = wx)
          case first =>
            by_cases ht : 1 ≤ e.ticks
            · have ht' : decide (e.ticks < 1) = false := decide_eq_false (by omega)
              by_cases hu : e.ticks ≤ 1000
              · have hu' : decide (1000 < e.ticks) = false := decide_eq_false (by omega)
                have A := Lib.hid (show ticksOk true e.ticks = true by unfold ticksOk; simp [ht, hu])
                go_wp2
                go_meet
                exact ⟨by rw [A.out]; rfl, rfl⟩
              · have hu' : decide (1000 < e.ticks) = true := decide_eq_true (by omega)
                have A := Lib.hid (show ticksOk true e.ticks = false by unfold ticksOk; simp [hu])
                go_wp2
                go_meet
                exact ⟨by rw [A.out]; rfl, rfl⟩
            · have ht' : decide (e.ticks < 1) = true := decide_eq_true (by omega)
              have A := Lib.hid (show ticksOk true e.ticks = false by unfold ticksOk; simp [ht])
              go_wp2
              go_meet
              exact ⟨by rw [A.out]; rfl, rfl⟩
          case rest =>
            obtain ⟨rfl, rfl⟩ := hcut
            cases hc21 : ticksOk true e.ticks with
            | false =>
              have VF := Lib.hid (show evOk e = false by rw [ANS.out, hc21]; simp)
              clear hc21
              go_wp2
              go_ret
              exact ⟨ret_bool VF.out.symm, k0⟩
            | true =>
              have C21 := Lib.hid hc21
              clear hc21
              by_cases hn : nn = 0
              · subst hn
                cases hs : namesOk e.needs with
                | false =>
                  rw [hs] at NS AR
                  clear hs
                  go_wp2_with (go_at_call 41; refine NS.out.mono ?_; rintro e w' ⟨rfl, rfl⟩)
                  go_ret
                  exact ⟨ret_bool (by rw [ANS.out, C17.out, C19.out, C21.out, AR.out]; simp), k0⟩
                | true =>
                  rw [hs] at NS AR
                  clear hs
                  by_cases hi : ni = 0
                  · subst hi
                    go_wp2_with (go_at_call 41; refine NS.out.mono ?_; rintro e w' ⟨rfl, rfl⟩)
                    go_ret
                    exact ⟨ret_bool (by rw [ANS.out, C17.out, C19.out, C21.out, AR.out]; simp), k0⟩
                  · have hi' : ((ni : Int) == 0) = false := by simpa using hi
                    go_wp2_with (go_at_call 41; refine NS.out.mono ?_; rintro e w' ⟨rfl, rfl⟩)
                    go_ret
                    exact ⟨ret_bool (by rw [ANS.out, C17.out, C19.out, C21.out, AR.out]; simp [hi]), k0⟩
              · have hn' : ((nn : Int) == 0) = false := by simpa using hn
                go_wp2_with (go_at_call 41; refine NS.out.mono ?_; rintro e w' ⟨rfl, rfl⟩)
                go_ret
                exact ⟨ret_bool (by rw [ANS.out, C17.out, C19.out, C21.out, AR.out]; simp [hn]), k0⟩

set_option maxRecDepth 100000 in
set_option maxHeartbeats 400000 in
theorem validEvent_any (e : Ev) (v : Value) (S : Nat → Prop) (w : World) (h : EvOf w S v e) : Calls Tryz.prog 51 #[v] w fun en w' => en = .returned (.bool (evOk e)) ∧ Keep none_ w w' := by
  by_cases h1 : e.kind = 1
  · exact validEv1 e v S w h h1
  by_cases h2 : e.kind = 2
  · exact validEv2 e v S w h h2
  by_cases h3 : e.kind = 3
  · exact validEv3 e v S w h h3
  by_cases h4 : e.kind = 4
  · exact validEv4 e v S w h h4
  by_cases h5 : e.kind = 5
  · exact validEv5 e v S w h h5
  by_cases h6 : e.kind = 6
  · exact validEv6 e v S w h h6
  by_cases h7 : e.kind = 7
  · exact validEv7 e v S w h h7
  by_cases h8 : e.kind = 8
  · exact validEv8 e v S w h h8
  by_cases h9 : e.kind = 9
  · exact validEv9 e v S w h h9
  obtain ⟨vn, vi, rfl, hvn, hvi⟩ := h
  have VF := Lib.hid (show evOk e = false by unfold evOk; simp [h1, h2, h3, h4, h5, h6, h7, h8, h9])
  have k0 : Keep none_ w (w.alloc (.cells #[.int .i64 e.kind, .string e.name, .string e.worker, vn, .int .i64 e.ticks, vi] 78)) := (Keep.refl _ _).alloc _
  have g1 : (e.kind == 1) = false := by simpa using h1
  have g2 : (e.kind == 2) = false := by simpa using h2
  have g3 : (e.kind == 3) = false := by simpa using h3
  have g4 : (e.kind == 4) = false := by simpa using h4
  have g5 : (e.kind == 5) = false := by simpa using h5
  have g6 : (e.kind == 6) = false := by simpa using h6
  have g7 : (e.kind == 7) = false := by simpa using h7
  have g8 : (e.kind == 8) = false := by simpa using h8
  have g9 : (e.kind == 9) = false := by simpa using h9
  clear hvn hvi
  go_enter Tryz.func51, Tryz.ntmps51
  go_wp2
  go_ret
  exact ⟨ret_bool VF.out.symm, k0⟩
end Go.Proofs.YtnefbeplgfdkkaaGreatDoor
