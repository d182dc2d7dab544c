/-
  cutroomref25.bare. Written by gen_jr.py.
-/
import Derived.Test.YtnefbeplgfdkkaaGreatDoorJb29
namespace Go.Proofs.YtnefbeplgfdkkaaGreatDoor
open Go.RowKit

def bareOk (op : Int) (md : ByteArray) (fr num den pr : Int) (tx : ByteArray) : Bool :=
  (decide (op = 1) || noSrc md fr) && (decide (op = 2) || decide (op = 3) || noShr num den) && (decide (op = 3) || decide (op = 4) || noPar pr) && (decide (op = 5) || noTxt tx)

set_option maxRecDepth 100000 in
set_option maxHeartbeats 1000000 in
theorem bare0 (md : ByteArray) (fr num den pr : Int) (tx : ByteArray) (A : Option Addr) (na c : Nat) (w : World) : Calls Tryz.prog 66 #[.agg #[.int .i64 0, .string md, .int .i64 fr, .int .i64 num, .int .i64 den, .int .i64 pr, .string tx, .slice A na c]] w fun e w' => e = .returned (.bool (bareOk 0 md fr num den pr tx)) ∧ Keep none_ w w' := by
  obtain ⟨W0, hW0⟩ : ∃ W0, W0 = w.alloc (.cells #[.int .i64 0, .string md, .int .i64 fr, .int .i64 num, .int .i64 den, .int .i64 pr, .string tx, .slice A na c] 89) := ⟨_, rfl⟩
  have k0 : Keep none_ w W0 := hW0 ▸ (Keep.refl _ _).alloc _
  have b0 : Blk W0 w.heap.size 89 #[.int .i64 0, .string md, .int .i64 fr, .int .i64 num, .int .i64 den, .int .i64 pr, .string tx, .slice A na c] := hW0 ▸ Blk.new _ _ _
  have d0 := b0.cell 0
  have d1 := b0.cell 1
  have d2 := b0.cell 2
  have d3 := b0.cell 3
  have d4 := b0.cell 4
  have d5 := b0.cell 5
  have d6 := b0.cell 6
  have d7 := b0.cell 7
  simp only [List.getElem?_toArray, List.getElem?_cons_zero, List.getElem?_cons_succ] at d0 d1 d2 d3 d4 d5 d6 d7
  have B0 := Lib.hid b0
  have K0 := Lib.hid k0
  clear b0 k0
  have KD := Lib.hid ((Keep.refl none_ W0).drew)
  go_enter Tryz.func66, Tryz.ntmps66
  go_upto_region 1 with (fail)
  rw [← hW0]
  clear hW0
  have gd := still_good (W0).drew
  have ne := still_some (W0).drew
  have hx := still_at (W0).drew
  refine wp_region_calm (stillCalm (W0).drew) [0, 1, 2, 3, 4, 5, 6, 7, 8, 9, 10, 11, 12] [] 65 (by kernel_rfl) (by kernel_rfl) rfl gd rfl ?_
  simp only [pairs, List.filterMap_cons, List.filterMap_nil, List.getElem?_toArray, List.getElem?_cons_succ, List.getElem?_cons_zero, Option.map_some]
  repeat (first | (refine Calm.walk_skip rfl ?_; go_frame) | (refine Calm.walk_quiet ne rfl rfl rfl (fun K hK => ?_); go_big_quiet_op; refine hK _ ?_; clear hK K))
  intro w' hR _
  obtain rfl : w' = (W0).drew := hR.symm
  simp only [pickOps, List.filterMap_nil]
  clear gd ne hx hR
  have d0 := KD.out.cell d0 (fun e => e)
  have d1 := KD.out.cell d1 (fun e => e)
  have d2 := KD.out.cell d2 (fun e => e)
  have d3 := KD.out.cell d3 (fun e => e)
  have d4 := KD.out.cell d4 (fun e => e)
  have d5 := KD.out.cell d5 (fun e => e)
  have d6 := KD.out.cell d6 (fun e => e)
  have d7 := KD.out.cell d7 (fun e => e)
  cases hmd : strEq md ⟨#[]⟩ with
  | false =>
    obtain ⟨n1, n2⟩ := empty_no hmd
    have Q := Lib.hid (show bareOk 0 md fr num den pr tx = false by simp [bareOk, noSrc, noShr, noPar, noTxt, hmd])
    clear hmd
    go_wp2
    go_ret
    exact ⟨ret_bool Q.out.symm, K0.out.trans KD.out⟩
  | true =>
    have qmd := strEq_iff.1 hmd
    rw [qmd] at d1
    by_cases hfr : fr = 0
    · have efr := hfr
      rw [efr] at d2
      by_cases hnum : num = 0
      · have enum := hnum
        rw [enum] at d3
        by_cases hden : den = 0
        · have eden := hden
          rw [eden] at d4
          by_cases hpr : pr = 0
          · have epr := hpr
            rw [epr] at d5
            cases htx : strEq tx ⟨#[]⟩ with
            | false =>
              obtain ⟨n1, n2⟩ := empty_no htx
              have Q := Lib.hid (show bareOk 0 md fr num den pr tx = false by simp [bareOk, noSrc, noShr, noPar, noTxt, hmd, hfr, hnum, hden, hpr, htx])
              clear hmd qmd hfr efr hnum enum hden eden hpr epr htx
              go_wp2
              go_ret
              exact ⟨ret_bool Q.out.symm, K0.out.trans KD.out⟩
            | true =>
              have qtx := strEq_iff.1 htx
              rw [qtx] at d6
              have Q := Lib.hid (show bareOk 0 md fr num den pr tx = true by simp [bareOk, noSrc, noShr, noPar, noTxt, hmd, hfr, hnum, hden, hpr, htx])
              clear hmd qmd hfr efr hnum enum hden eden hpr epr htx qtx
              go_wp2
              go_ret
              exact ⟨ret_bool Q.out.symm, K0.out.trans KD.out⟩
          · have hpr' : (pr == 0) = false := by simpa using hpr
            have Q := Lib.hid (show bareOk 0 md fr num den pr tx = false by simp [bareOk, noSrc, noShr, noPar, noTxt, hmd, hfr, hnum, hden, hpr])
            clear hmd qmd hfr efr hnum enum hden eden hpr
            go_wp2
            go_ret
            exact ⟨ret_bool Q.out.symm, K0.out.trans KD.out⟩
        · have hden' : (den != 0) = true := by simpa using hden
          have Q := Lib.hid (show bareOk 0 md fr num den pr tx = false by simp [bareOk, noSrc, noShr, noPar, noTxt, hmd, hfr, hnum, hden])
          clear hmd qmd hfr efr hnum enum hden
          go_wp2
          go_ret
          exact ⟨ret_bool Q.out.symm, K0.out.trans KD.out⟩
      · have hnum' : (num != 0) = true := by simpa using hnum
        have Q := Lib.hid (show bareOk 0 md fr num den pr tx = false by simp [bareOk, noSrc, noShr, noPar, noTxt, hmd, hfr, hnum])
        clear hmd qmd hfr efr hnum
        go_wp2
        go_ret
        exact ⟨ret_bool Q.out.symm, K0.out.trans KD.out⟩
    · have hfr' : (fr != 0) = true := by simpa using hfr
      have Q := Lib.hid (show bareOk 0 md fr num den pr tx = false by simp [bareOk, noSrc, noShr, noPar, noTxt, hmd, hfr])
      clear hmd qmd hfr
      go_wp2
      go_ret
      exact ⟨ret_bool Q.out.symm, K0.out.trans KD.out⟩

set_option maxRecDepth 100000 in
set_option maxHeartbeats 1000000 in
theorem bare1 (md : ByteArray) (fr num den pr : Int) (tx : ByteArray) (A : Option Addr) (na c : Nat) (w : World) : Calls Tryz.prog 66 #[.agg #[.int .i64 1, .string md, .int .i64 fr, .int .i64 num, .int .i64 den, .int .i64 pr, .string tx, .slice A na c]] w fun e w' => e = .returned (.bool (bareOk 1 md fr num den pr tx)) ∧ Keep none_ w w' := by
  obtain ⟨W0, hW0⟩ : ∃ W0, W0 = w.alloc (.cells #[.int .i64 1, .string md, .int .i64 fr, .int .i64 num, .int .i64 den, .int .i64 pr, .string tx, .slice A na c] 89) := ⟨_, rfl⟩
  have k0 : Keep none_ w W0 := hW0 ▸ (Keep.refl _ _).alloc _
  have b0 : Blk W0 w.heap.size 89 #[.int .i64 1, .string md, .int .i64 fr, .int .i64 num, .int .i64 den, .int .i64 pr, .string tx, .slice A na c] := hW0 ▸ Blk.new _ _ _
  have d0 := b0.cell 0
  have d1 := b0.cell 1
  have d2 := b0.cell 2
  have d3 := b0.cell 3
  have d4 := b0.cell 4
  have d5 := b0.cell 5
  have d6 := b0.cell 6
  have d7 := b0.cell 7
  simp only [List.getElem?_toArray, List.getElem?_cons_zero, List.getElem?_cons_succ] at d0 d1 d2 d3 d4 d5 d6 d7
  have B0 := Lib.hid b0
  have K0 := Lib.hid k0
  clear b0 k0
  have KD := Lib.hid ((Keep.refl none_ W0).drew)
  go_enter Tryz.func66, Tryz.ntmps66
  go_upto_region 1 with (fail)
  rw [← hW0]
  clear hW0
  have gd := still_good (W0).drew
  have ne := still_some (W0).drew
  have hx := still_at (W0).drew
  refine wp_region_calm (stillCalm (W0).drew) [0, 1, 2, 3, 4, 5, 6, 7, 8, 9, 10, 11, 12] [] 65 (by kernel_rfl) (by kernel_rfl) rfl gd rfl ?_
  simp only [pairs, List.filterMap_cons, List.filterMap_nil, List.getElem?_toArray, List.getElem?_cons_succ, List.getElem?_cons_zero, Option.map_some]
  repeat (first | (refine Calm.walk_skip rfl ?_; go_frame) | (refine Calm.walk_quiet ne rfl rfl rfl (fun K hK => ?_); go_big_quiet_op; refine hK _ ?_; clear hK K))
  intro w' hR _
  obtain rfl : w' = (W0).drew := hR.symm
  simp only [pickOps, List.filterMap_nil]
  clear gd ne hx hR
  have d0 := KD.out.cell d0 (fun e => e)
  have d1 := KD.out.cell d1 (fun e => e)
  have d2 := KD.out.cell d2 (fun e => e)
  have d3 := KD.out.cell d3 (fun e => e)
  have d4 := KD.out.cell d4 (fun e => e)
  have d5 := KD.out.cell d5 (fun e => e)
  have d6 := KD.out.cell d6 (fun e => e)
  have d7 := KD.out.cell d7 (fun e => e)
  by_cases hnum : num = 0
  · have enum := hnum
    rw [enum] at d3
    by_cases hden : den = 0
    · have eden := hden
      rw [eden] at d4
      by_cases hpr : pr = 0
      · have epr := hpr
        rw [epr] at d5
        cases htx : strEq tx ⟨#[]⟩ with
        | false =>
          obtain ⟨n1, n2⟩ := empty_no htx
          have Q := Lib.hid (show bareOk 1 md fr num den pr tx = false by simp [bareOk, noSrc, noShr, noPar, noTxt, hnum, hden, hpr, htx])
          clear hnum enum hden eden hpr epr htx
          go_wp2
          go_ret
          exact ⟨ret_bool Q.out.symm, K0.out.trans KD.out⟩
        | true =>
          have qtx := strEq_iff.1 htx
          rw [qtx] at d6
          have Q := Lib.hid (show bareOk 1 md fr num den pr tx = true by simp [bareOk, noSrc, noShr, noPar, noTxt, hnum, hden, hpr, htx])
          clear hnum enum hden eden hpr epr htx qtx
          go_wp2
          go_ret
          exact ⟨ret_bool Q.out.symm, K0.out.trans KD.out⟩
      · have hpr' : (pr == 0) = false := by simpa using hpr
        have Q := Lib.hid (show bareOk 1 md fr num den pr tx = false by simp [bareOk, noSrc, noShr, noPar, noTxt, hnum, hden, hpr])
        clear hnum enum hden eden hpr
        go_wp2
        go_ret
        exact ⟨ret_bool Q.out.symm, K0.out.trans KD.out⟩
    · have hden' : (den != 0) = true := by simpa using hden
      have Q := Lib.hid (show bareOk 1 md fr num den pr tx = false by simp [bareOk, noSrc, noShr, noPar, noTxt, hnum, hden])
      clear hnum enum hden
      go_wp2
      go_ret
      exact ⟨ret_bool Q.out.symm, K0.out.trans KD.out⟩
  · have hnum' : (num != 0) = true := by simpa using hnum
    have Q := Lib.hid (show bareOk 1 md fr num den pr tx = false by simp [bareOk, noSrc, noShr, noPar, noTxt, hnum])
    clear hnum
    go_wp2
    go_ret
    exact ⟨ret_bool Q.out.symm, K0.out.trans KD.out⟩

set_option maxRecDepth 100000 in
set_option maxHeartbeats 1000000 in
theorem bare2 (md : ByteArray) (fr num den pr : Int) (tx : ByteArray) (A : Option Addr) (na c : Nat) (w : World) : Calls Tryz.prog 66 #[.agg #[.int .i64 2, .string md, .int .i64 fr, .int .i64 num, .int .i64 den, .int .i64 pr, .string tx, .slice A na c]] w fun e w' => e = .returned (.bool (bareOk 2 md fr num den pr tx)) ∧ Keep none_ w w' := by
  obtain ⟨W0, hW0⟩ : ∃ W0, W0 = w.alloc (.cells #[.int .i64 2, .string md, .int .i64 fr, .int .i64 num, .int .i64 den, .int .i64 pr, .string tx, .slice A na c] 89) := ⟨_, rfl⟩
  have k0 : Keep none_ w W0 := hW0 ▸ (Keep.refl _ _).alloc _
  have b0 : Blk W0 w.heap.size 89 #[.int .i64 2, .string md, .int .i64 fr, .int .i64 num, .int .i64 den, .int .i64 pr, .string tx, .slice A na c] := hW0 ▸ Blk.new _ _ _
  have d0 := b0.cell 0
  have d1 := b0.cell 1
  have d2 := b0.cell 2
  have d3 := b0.cell 3
  have d4 := b0.cell 4
  have d5 := b0.cell 5
  have d6 := b0.cell 6
  have d7 := b0.cell 7
  simp only [List.getElem?_toArray, List.getElem?_cons_zero, List.getElem?_cons_succ] at d0 d1 d2 d3 d4 d5 d6 d7
  have B0 := Lib.hid b0
  have K0 := Lib.hid k0
  clear b0 k0
  have KD := Lib.hid ((Keep.refl none_ W0).drew)
  go_enter Tryz.func66, Tryz.ntmps66
  go_upto_region 1 with (fail)
  rw [← hW0]
  clear hW0
  have gd := still_good (W0).drew
  have ne := still_some (W0).drew
  have hx := still_at (W0).drew
  refine wp_region_calm (stillCalm (W0).drew) [0, 1, 2, 3, 4, 5, 6, 7, 8, 9, 10, 11, 12] [] 65 (by kernel_rfl) (by kernel_rfl) rfl gd rfl ?_
  simp only [pairs, List.filterMap_cons, List.filterMap_nil, List.getElem?_toArray, List.getElem?_cons_succ, List.getElem?_cons_zero, Option.map_some]
  repeat (first | (refine Calm.walk_skip rfl ?_; go_frame) | (refine Calm.walk_quiet ne rfl rfl rfl (fun K hK => ?_); go_big_quiet_op; refine hK _ ?_; clear hK K))
  intro w' hR _
  obtain rfl : w' = (W0).drew := hR.symm
  simp only [pickOps, List.filterMap_nil]
  clear gd ne hx hR
  have d0 := KD.out.cell d0 (fun e => e)
  have d1 := KD.out.cell d1 (fun e => e)
  have d2 := KD.out.cell d2 (fun e => e)
  have d3 := KD.out.cell d3 (fun e => e)
  have d4 := KD.out.cell d4 (fun e => e)
  have d5 := KD.out.cell d5 (fun e => e)
  have d6 := KD.out.cell d6 (fun e => e)
  have d7 := KD.out.cell d7 (fun e => e)
  cases hmd : strEq md ⟨#[]⟩ with
  | false =>
    obtain ⟨n1, n2⟩ := empty_no hmd
    have Q := Lib.hid (show bareOk 2 md fr num den pr tx = false by simp [bareOk, noSrc, noShr, noPar, noTxt, hmd])
    clear hmd
    go_wp2
    go_ret
    exact ⟨ret_bool Q.out.symm, K0.out.trans KD.out⟩
  | true =>
    have qmd := strEq_iff.1 hmd
    rw [qmd] at d1
    by_cases hfr : fr = 0
    · have efr := hfr
      rw [efr] at d2
      by_cases hpr : pr = 0
      · have epr := hpr
        rw [epr] at d5
        cases htx : strEq tx ⟨#[]⟩ with
        | false =>
          obtain ⟨n1, n2⟩ := empty_no htx
          have Q := Lib.hid (show bareOk 2 md fr num den pr tx = false by simp [bareOk, noSrc, noShr, noPar, noTxt, hmd, hfr, hpr, htx])
          clear hmd qmd hfr efr hpr epr htx
          go_wp2
          go_ret
          exact ⟨ret_bool Q.out.symm, K0.out.trans KD.out⟩
        | true =>
          have qtx := strEq_iff.1 htx
          rw [qtx] at d6
          have Q := Lib.hid (show bareOk 2 md fr num den pr tx = true by simp [bareOk, noSrc, noShr, noPar, noTxt, hmd, hfr, hpr, htx])
          clear hmd qmd hfr efr hpr epr htx qtx
          go_wp2
          go_ret
          exact ⟨ret_bool Q.out.symm, K0.out.trans KD.out⟩
      · have hpr' : (pr == 0) = false := by simpa using hpr
        have Q := Lib.hid (show bareOk 2 md fr num den pr tx = false by simp [bareOk, noSrc, noShr, noPar, noTxt, hmd, hfr, hpr])
        clear hmd qmd hfr efr hpr
        go_wp2
        go_ret
        exact ⟨ret_bool Q.out.symm, K0.out.trans KD.out⟩
    · have hfr' : (fr != 0) = true := by simpa using hfr
      have Q := Lib.hid (show bareOk 2 md fr num den pr tx = false by simp [bareOk, noSrc, noShr, noPar, noTxt, hmd, hfr])
      clear hmd qmd hfr
      go_wp2
      go_ret
      exact ⟨ret_bool Q.out.symm, K0.out.trans KD.out⟩

set_option maxRecDepth 100000 in
set_option maxHeartbeats 1000000 in
theorem bare3 (md : ByteArray) (fr num den pr : Int) (tx : ByteArray) (A : Option Addr) (na c : Nat) (w : World) : Calls Tryz.prog 66 #[.agg #[.int .i64 3, .string md, .int .i64 fr, .int .i64 num, .int .i64 den, .int .i64 pr, .string tx, .slice A na c]] w fun e w' => e = .returned (.bool (bareOk 3 md fr num den pr tx)) ∧ Keep none_ w w' := by
  obtain ⟨W0, hW0⟩ : ∃ W0, W0 = w.alloc (.cells #[.int .i64 3, .string md, .int .i64 fr, .int .i64 num, .int .i64 den, .int .i64 pr, .string tx, .slice A na c] 89) := ⟨_, rfl⟩
  have k0 : Keep none_ w W0 := hW0 ▸ (Keep.refl _ _).alloc _
  have b0 : Blk W0 w.heap.size 89 #[.int .i64 3, .string md, .int .i64 fr, .int .i64 num, .int .i64 den, .int .i64 pr, .string tx, .slice A na c] := hW0 ▸ Blk.new _ _ _
  have d0 := b0.cell 0
  have d1 := b0.cell 1
  have d2 := b0.cell 2
  have d3 := b0.cell 3
  have d4 := b0.cell 4
  have d5 := b0.cell 5
  have d6 := b0.cell 6
  have d7 := b0.cell 7
  simp only [List.getElem?_toArray, List.getElem?_cons_zero, List.getElem?_cons_succ] at d0 d1 d2 d3 d4 d5 d6 d7
  have B0 := Lib.hid b0
  have K0 := Lib.hid k0
  clear b0 k0
  have KD := Lib.hid ((Keep.refl none_ W0).drew)
  go_enter Tryz.func66, Tryz.ntmps66
  go_upto_region 1 with (fail)
  rw [← hW0]
  clear hW0
  have gd := still_good (W0).drew
  have ne := still_some (W0).drew
  have hx := still_at (W0).drew
  refine wp_region_calm (stillCalm (W0).drew) [0, 1, 2, 3, 4, 5, 6, 7, 8, 9, 10, 11, 12] [] 65 (by kernel_rfl) (by kernel_rfl) rfl gd rfl ?_
  simp only [pairs, List.filterMap_cons, List.filterMap_nil, List.getElem?_toArray, List.getElem?_cons_succ, List.getElem?_cons_zero, Option.map_some]
  repeat (first | (refine Calm.walk_skip rfl ?_; go_frame) | (refine Calm.walk_quiet ne rfl rfl rfl (fun K hK => ?_); go_big_quiet_op; refine hK _ ?_; clear hK K))
  intro w' hR _
  obtain rfl : w' = (W0).drew := hR.symm
  simp only [pickOps, List.filterMap_nil]
  clear gd ne hx hR
  have d0 := KD.out.cell d0 (fun e => e)
  have d1 := KD.out.cell d1 (fun e => e)
  have d2 := KD.out.cell d2 (fun e => e)
  have d3 := KD.out.cell d3 (fun e => e)
  have d4 := KD.out.cell d4 (fun e => e)
  have d5 := KD.out.cell d5 (fun e => e)
  have d6 := KD.out.cell d6 (fun e => e)
  have d7 := KD.out.cell d7 (fun e => e)
  cases hmd : strEq md ⟨#[]⟩ with
  | false =>
    obtain ⟨n1, n2⟩ := empty_no hmd
    have Q := Lib.hid (show bareOk 3 md fr num den pr tx = false by simp [bareOk, noSrc, noShr, noPar, noTxt, hmd])
    clear hmd
    go_wp2
    go_ret
    exact ⟨ret_bool Q.out.symm, K0.out.trans KD.out⟩
  | true =>
    have qmd := strEq_iff.1 hmd
    rw [qmd] at d1
    by_cases hfr : fr = 0
    · have efr := hfr
      rw [efr] at d2
      cases htx : strEq tx ⟨#[]⟩ with
      | false =>
        obtain ⟨n1, n2⟩ := empty_no htx
        have Q := Lib.hid (show bareOk 3 md fr num den pr tx = false by simp [bareOk, noSrc, noShr, noPar, noTxt, hmd, hfr, htx])
        clear hmd qmd hfr efr htx
        go_wp2
        go_ret
        exact ⟨ret_bool Q.out.symm, K0.out.trans KD.out⟩
      | true =>
        have qtx := strEq_iff.1 htx
        rw [qtx] at d6
        have Q := Lib.hid (show bareOk 3 md fr num den pr tx = true by simp [bareOk, noSrc, noShr, noPar, noTxt, hmd, hfr, htx])
        clear hmd qmd hfr efr htx qtx
        go_wp2
        go_ret
        exact ⟨ret_bool Q.out.symm, K0.out.trans KD.out⟩
    · have hfr' : (fr != 0) = true := by simpa using hfr
      have Q := Lib.hid (show bareOk 3 md fr num den pr tx = false by simp [bareOk, noSrc, noShr, noPar, noTxt, hmd, hfr])
      clear hmd qmd hfr
      go_wp2
      go_ret
      exact ⟨ret_bool Q.out.symm, K0.out.trans KD.out⟩

set_option maxRecDepth 100000 in
set_option maxHeartbeats 1000000 in
theorem bare4 (md : ByteArray) (fr num den pr : Int) (tx : ByteArray) (A : Option Addr) (na c : Nat) (w : World) : Calls Tryz.prog 66 #[.agg #[.int .i64 4, .string md, .int .i64 fr, .int .i64 num, .int .i64 den, .int .i64 pr, .string tx, .slice A na c]] w fun e w' => e = .returned (.bool (bareOk 4 md fr num den pr tx)) ∧ Keep none_ w w' := by
  obtain ⟨W0, hW0⟩ : ∃ W0, W0 = w.alloc (.cells #[.int .i64 4, .string md, .int .i64 fr, .int .i64 num, .int .i64 den, .int .i64 pr, .string tx, .slice A na c] 89) := ⟨_, rfl⟩
  have k0 : Keep none_ w W0 := hW0 ▸ (Keep.refl _ _).alloc _
  have b0 : Blk W0 w.heap.size 89 #[.int .i64 4, .string md, .int .i64 fr, .int .i64 num, .int .i64 den, .int .i64 pr, .string tx, .slice A na c] := hW0 ▸ Blk.new _ _ _
  have d0 := b0.cell 0
  have d1 := b0.cell 1
  have d2 := b0.cell 2
  have d3 := b0.cell 3
  have d4 := b0.cell 4
  have d5 := b0.cell 5
  have d6 := b0.cell 6
  have d7 := b0.cell 7
  simp only [List.getElem?_toArray, List.getElem?_cons_zero, List.getElem?_cons_succ] at d0 d1 d2 d3 d4 d5 d6 d7
  have B0 := Lib.hid b0
  have K0 := Lib.hid k0
  clear b0 k0
  have KD := Lib.hid ((Keep.refl none_ W0).drew)
  go_enter Tryz.func66, Tryz.ntmps66
  go_upto_region 1 with (fail)
  rw [← hW0]
  clear hW0
  have gd := still_good (W0).drew
  have ne := still_some (W0).drew
  have hx := still_at (W0).drew
  refine wp_region_calm (stillCalm (W0).drew) [0, 1, 2, 3, 4, 5, 6, 7, 8, 9, 10, 11, 12] [] 65 (by kernel_rfl) (by kernel_rfl) rfl gd rfl ?_
  simp only [pairs, List.filterMap_cons, List.filterMap_nil, List.getElem?_toArray, List.getElem?_cons_succ, List.getElem?_cons_zero, Option.map_some]
  repeat (first | (refine Calm.walk_skip rfl ?_; go_frame) | (refine Calm.walk_quiet ne rfl rfl rfl (fun K hK => ?_); go_big_quiet_op; refine hK _ ?_; clear hK K))
  intro w' hR _
  obtain rfl : w' = (W0).drew := hR.symm
  simp only [pickOps, List.filterMap_nil]
  clear gd ne hx hR
  have d0 := KD.out.cell d0 (fun e => e)
  have d1 := KD.out.cell d1 (fun e => e)
  have d2 := KD.out.cell d2 (fun e => e)
  have d3 := KD.out.cell d3 (fun e => e)
  have d4 := KD.out.cell d4 (fun e => e)
  have d5 := KD.out.cell d5 (fun e => e)
  have d6 := KD.out.cell d6 (fun e => e)
  have d7 := KD.out.cell d7 (fun e => e)
  cases hmd : strEq md ⟨#[]⟩ with
  | false =>
    obtain ⟨n1, n2⟩ := empty_no hmd
    have Q := Lib.hid (show bareOk 4 md fr num den pr tx = false by simp [bareOk, noSrc, noShr, noPar, noTxt, hmd])
    clear hmd
    go_wp2
    go_ret
    exact ⟨ret_bool Q.out.symm, K0.out.trans KD.out⟩
  | true =>
    have qmd := strEq_iff.1 hmd
    rw [qmd] at d1
    by_cases hfr : fr = 0
    · have efr := hfr
      rw [efr] at d2
      by_cases hnum : num = 0
      · have enum := hnum
        rw [enum] at d3
        by_cases hden : den = 0
        · have eden := hden
          rw [eden] at d4
          cases htx : strEq tx ⟨#[]⟩ with
          | false =>
            obtain ⟨n1, n2⟩ := empty_no htx
            have Q := Lib.hid (show bareOk 4 md fr num den pr tx = false by simp [bareOk, noSrc, noShr, noPar, noTxt, hmd, hfr, hnum, hden, htx])
            clear hmd qmd hfr efr hnum enum hden eden htx
            go_wp2
            go_ret
            exact ⟨ret_bool Q.out.symm, K0.out.trans KD.out⟩
          | true =>
            have qtx := strEq_iff.1 htx
            rw [qtx] at d6
            have Q := Lib.hid (show bareOk 4 md fr num den pr tx = true by simp [bareOk, noSrc, noShr, noPar, noTxt, hmd, hfr, hnum, hden, htx])
            clear hmd qmd hfr efr hnum enum hden eden htx qtx
            go_wp2
            go_ret
            exact ⟨ret_bool Q.out.symm, K0.out.trans KD.out⟩
        · have hden' : (den != 0) = true := by simpa using hden
          have Q := Lib.hid (show bareOk 4 md fr num den pr tx = false by simp [bareOk, noSrc, noShr, noPar, noTxt, hmd, hfr, hnum, hden])
          clear hmd qmd hfr efr hnum enum hden
          go_wp2
          go_ret
          exact ⟨ret_bool Q.out.symm, K0.out.trans KD.out⟩
      · have hnum' : (num != 0) = true := by simpa using hnum
        have Q := Lib.hid (show bareOk 4 md fr num den pr tx = false by simp [bareOk, noSrc, noShr, noPar, noTxt, hmd, hfr, hnum])
        clear hmd qmd hfr efr hnum
        go_wp2
        go_ret
        exact ⟨ret_bool Q.out.symm, K0.out.trans KD.out⟩
    · have hfr' : (fr != 0) = true := by simpa using hfr
      have Q := Lib.hid (show bareOk 4 md fr num den pr tx = false by simp [bareOk, noSrc, noShr, noPar, noTxt, hmd, hfr])
      clear hmd qmd hfr
      go_wp2
      go_ret
      exact ⟨ret_bool Q.out.symm, K0.out.trans KD.out⟩

set_option maxRecDepth 100000 in
set_option maxHeartbeats 1000000 in
theorem bare5 (md : ByteArray) (fr num den pr : Int) (tx : ByteArray) (A : Option Addr) (na c : Nat) (w : World) : Calls Tryz.prog 66 #[.agg #[.int .i64 5, .string md, .int .i64 fr, .int .i64 num, .int .i64 den, .int .i64 pr, .string tx, .slice A na c]] w fun e w' => e = .returned (.bool (bareOk 5 md fr num den pr tx)) ∧ Keep none_ w w' := by
  obtain ⟨W0, hW0⟩ : ∃ W0, W0 = w.alloc (.cells #[.int .i64 5, .string md, .int .i64 fr, .int .i64 num, .int .i64 den, .int .i64 pr, .string tx, .slice A na c] 89) := ⟨_, rfl⟩
  have k0 : Keep none_ w W0 := hW0 ▸ (Keep.refl _ _).alloc _
  have b0 : Blk W0 w.heap.size 89 #[.int .i64 5, .string md, .int .i64 fr, .int .i64 num, .int .i64 den, .int .i64 pr, .string tx, .slice A na c] := hW0 ▸ Blk.new _ _ _
  have d0 := b0.cell 0
  have d1 := b0.cell 1
  have d2 := b0.cell 2
  have d3 := b0.cell 3
  have d4 := b0.cell 4
  have d5 := b0.cell 5
  have d6 := b0.cell 6
  have d7 := b0.cell 7
  simp only [List.getElem?_toArray, List.getElem?_cons_zero, List.getElem?_cons_succ] at d0 d1 d2 d3 d4 d5 d6 d7
  have B0 := Lib.hid b0
  have K0 := Lib.hid k0
  clear b0 k0
  have KD := Lib.hid ((Keep.refl none_ W0).drew)
  go_enter Tryz.func66, Tryz.ntmps66
  go_upto_region 1 with (fail)
  rw [← hW0]
  clear hW0
  have gd := still_good (W0).drew
  have ne := still_some (W0).drew
  have hx := still_at (W0).drew
  refine wp_region_calm (stillCalm (W0).drew) [0, 1, 2, 3, 4, 5, 6, 7, 8, 9, 10, 11, 12] [] 65 (by kernel_rfl) (by kernel_rfl) rfl gd rfl ?_
  simp only [pairs, List.filterMap_cons, List.filterMap_nil, List.getElem?_toArray, List.getElem?_cons_succ, List.getElem?_cons_zero, Option.map_some]
  repeat (first | (refine Calm.walk_skip rfl ?_; go_frame) | (refine Calm.walk_quiet ne rfl rfl rfl (fun K hK => ?_); go_big_quiet_op; refine hK _ ?_; clear hK K))
  intro w' hR _
  obtain rfl : w' = (W0).drew := hR.symm
  simp only [pickOps, List.filterMap_nil]
  clear gd ne hx hR
  have d0 := KD.out.cell d0 (fun e => e)
  have d1 := KD.out.cell d1 (fun e => e)
  have d2 := KD.out.cell d2 (fun e => e)
  have d3 := KD.out.cell d3 (fun e => e)
  have d4 := KD.out.cell d4 (fun e => e)
  have d5 := KD.out.cell d5 (fun e => e)
  have d6 := KD.out.cell d6 (fun e => e)
  have d7 := KD.out.cell d7 (fun e => e)
  cases hmd : strEq md ⟨#[]⟩ with
  | false =>
    obtain ⟨n1, n2⟩ := empty_no hmd
    have Q := Lib.hid (show bareOk 5 md fr num den pr tx = false by simp [bareOk, noSrc, noShr, noPar, noTxt, hmd])
    clear hmd
    go_wp2
    go_ret
    exact ⟨ret_bool Q.out.symm, K0.out.trans KD.out⟩
  | true =>
    have qmd := strEq_iff.1 hmd
    rw [qmd] at d1
    by_cases hfr : fr = 0
    · have efr := hfr
      rw [efr] at d2
      by_cases hnum : num = 0
      · have enum := hnum
        rw [enum] at d3
        by_cases hden : den = 0
        · have eden := hden
          rw [eden] at d4
          by_cases hpr : pr = 0
          · have epr := hpr
            rw [epr] at d5
            have Q := Lib.hid (show bareOk 5 md fr num den pr tx = true by simp [bareOk, noSrc, noShr, noPar, noTxt, hmd, hfr, hnum, hden, hpr])
            clear hmd qmd hfr efr hnum enum hden eden hpr epr
            go_wp2
            go_ret
            exact ⟨ret_bool Q.out.symm, K0.out.trans KD.out⟩
          · have hpr' : (pr == 0) = false := by simpa using hpr
            have Q := Lib.hid (show bareOk 5 md fr num den pr tx = false by simp [bareOk, noSrc, noShr, noPar, noTxt, hmd, hfr, hnum, hden, hpr])
            clear hmd qmd hfr efr hnum enum hden eden hpr
            go_wp2
            go_ret
            exact ⟨ret_bool Q.out.symm, K0.out.trans KD.out⟩
        · have hden' : (den != 0) = true := by simpa using hden
          have Q := Lib.hid (show bareOk 5 md fr num den pr tx = false by simp [bareOk, noSrc, noShr, noPar, noTxt, hmd, hfr, hnum, hden])
          clear hmd qmd hfr efr hnum enum hden
          go_wp2
          go_ret
          exact ⟨ret_bool Q.out.symm, K0.out.trans KD.out⟩
      · have hnum' : (num != 0) = true := by simpa using hnum
        have Q := Lib.hid (show bareOk 5 md fr num den pr tx = false by simp [bareOk, noSrc, noShr, noPar, noTxt, hmd, hfr, hnum])
        clear hmd qmd hfr efr hnum
        go_wp2
        go_ret
        exact ⟨ret_bool Q.out.symm, K0.out.trans KD.out⟩
    · have hfr' : (fr != 0) = true := by simpa using hfr
      have Q := Lib.hid (show bareOk 5 md fr num den pr tx = false by simp [bareOk, noSrc, noShr, noPar, noTxt, hmd, hfr])
      clear hmd qmd hfr
      go_wp2
      go_ret
      exact ⟨ret_bool Q.out.symm, K0.out.trans KD.out⟩

theorem bare_any (op : Int) (md : ByteArray) (fr num den pr : Int) (tx : ByteArray) (A : Option Addr) (na c : Nat) (w : World) (h : 0 ≤ op) (h' : op ≤ 5) : Calls Tryz.prog 66 #[.agg #[.int .i64 op, .string md, .int .i64 fr, .int .i64 num, .int .i64 den, .int .i64 pr, .string tx, .slice A na c]] w fun e w' => e = .returned (.bool (bareOk op md fr num den pr tx)) ∧ Keep none_ w w' := by
  rcases (show op = 0 ∨ op = 1 ∨ op = 2 ∨ op = 3 ∨ op = 4 ∨ op = 5 by omega) with rfl | rfl | rfl | rfl | rfl | rfl
  · exact bare0 md fr num den pr tx A na c w
  · exact bare1 md fr num den pr tx A na c w
  · exact bare2 md fr num den pr tx A na c w
  · exact bare3 md fr num den pr tx A na c w
  · exact bare4 md fr num den pr tx A na c w
  · exact bare5 md fr num den pr tx A na c w
end Go.Proofs.YtnefbeplgfdkkaaGreatDoor
