/-
  denote.validFields. Written by gen_jv.py.
-/
import Derived.Test.YtnefbeplgfdkkaaGreatDoorJb28
import Derived.Test.YtnefbeplgfdkkaaGreatDoorJb15
namespace Go.Proofs.YtnefbeplgfdkkaaGreatDoor
open Go.RowKit

/-- 25.1: which fields an expression's kind uses. -/
def noSrc (md : ByteArray) (fr : Int) : Bool := strEq md ⟨#[]⟩ && decide (fr = 0)
def noShr (num den : Int) : Bool := decide (num = 0) && decide (den = 0)
def noPar (pr : Int) : Bool := decide (pr = 0)
def noTxt (tx : ByteArray) : Bool := strEq tx ⟨#[]⟩
def fOk (x : Ex) (na : Nat) : Bool :=
  if x.op = 0 then noSrc x.media x.frame && noShr x.num x.den && noPar x.param && noTxt x.text && decide (na = 0)
  else if x.op = 1 then nameOk x.media && decide (0 ≤ x.frame) && decide (x.frame ≤ 2147483646) && noShr x.num x.den && noPar x.param && noTxt x.text && decide (na = 0)
  else if x.op = 2 then noSrc x.media x.frame && shareOk x.num x.den && noPar x.param && noTxt x.text && decide (na = 2)
  else if x.op = 3 then noSrc x.media x.frame && shareOk x.num x.den && decide (0 ≤ x.param) && decide (x.param ≤ 3) && noTxt x.text && decide (na = 2)
  else if x.op = 4 then noSrc x.media x.frame && noShr x.num x.den && decide (0 ≤ x.param) && decide (x.param ≤ 255) && noTxt x.text && decide (na = 2)
  else if x.op = 5 then noSrc x.media x.frame && noShr x.num x.den && noPar x.param && textOk x.text && decide (na = 1)
  else false

set_option maxRecDepth 100000 in
set_option maxHeartbeats 1000000 in
theorem vfields0 (md : ByteArray) (fr num den pr : Int) (tx : ByteArray) (xs : List Ex) (A : Option Addr) (na c : Nat) (w : World) : Calls Tryz.prog 60 #[.agg #[.int .i64 0, .string md, .int .i64 fr, .int .i64 num, .int .i64 den, .int .i64 pr, .string tx, .slice A na c]] w fun e w' => e = .returned (.bool (fOk (.mk 0 md fr num den pr tx xs) na)) ∧ Keep none_ w w' := by
  obtain ⟨W0, hW0⟩ : ∃ W0, W0 = w.alloc (.cells #[.int .i64 0, .string md, .int .i64 fr, .int .i64 num, .int .i64 den, .int .i64 pr, .string tx, .slice A na c] 89) := ⟨_, rfl⟩
  have k0 : Keep none_ w W0 := hW0 ▸ (Keep.refl _ _).alloc _
  have b0 : Blk W0 w.heap.size 89 #[.int .i64 0, .string md, .int .i64 fr, .int .i64 num, .int .i64 den, .int .i64 pr, .string tx, .slice A na c] := hW0 ▸ Blk.new _ _ _
  have d0 := b0.cell 0
  have d1 := b0.cell 1
  have d2 := b0.cell 2
  have d3 := b0.cell 3
  have d4 := b0.cell 4
  have d5 := b0.cell 5
  have d6 := b0.cell 6
  have d7 := b0.cell 7
  simp only [List.getElem?_toArray, List.getElem?_cons_zero, List.getElem?_cons_succ] at d0 d1 d2 d3 d4 d5 d6 d7
  have B0 := Lib.hid b0
  have K0 := Lib.hid k0
  clear b0 k0
  obtain ⟨bS, hbS⟩ : ∃ b, b = noSrc md fr := ⟨_, rfl⟩
  obtain ⟨bH, hbH⟩ : ∃ b, b = noShr num den := ⟨_, rfl⟩
  obtain ⟨bP, hbP⟩ : ∃ b, b = noPar pr := ⟨_, rfl⟩
  obtain ⟨bT, hbT⟩ : ∃ b, b = noTxt tx := ⟨_, rfl⟩
  have ANS := Lib.hid (show fOk (.mk 0 md fr num den pr tx xs) na = (bS && bH && bP && bT && decide (na = 0)) by simp only [hbS, hbH, hbP, hbT]; rfl)
  have HbS := Lib.hid hbS
  have HbH := Lib.hid hbH
  have HbP := Lib.hid hbP
  have HbT := Lib.hid hbT
  clear hbS hbH hbP hbT
  go_enter Tryz.func60, Tryz.ntmps60
  go_upto_region 1 with (fail)
  rw [← hW0]
  clear hW0
  go_cut [3] (fun x wx => x = .bool bS ∧ W0 = wx)
  case first =>
    cases hs : strEq md ⟨#[]⟩ with
    | false =>
      obtain ⟨n1, n2⟩ := empty_no hs
      have Q := Lib.hid (show bS = false by rw [HbS.out, noSrc, hs]; rfl)
      clear hs
      go_wp2
      go_meet
      exact ⟨by rw [Q.out], rfl⟩
    | true =>
      have q := strEq_iff.1 hs
      rw [q] at d1
      by_cases hf : fr = 0
      · have Q := Lib.hid (show bS = true by rw [HbS.out, noSrc, hs, hf]; rfl)
        rw [hf] at d2
        clear hs q hf
        go_wp2
        go_meet
        exact ⟨by rw [Q.out], rfl⟩
      · have hf' : (fr == 0) = false := beq_eq_false_iff_ne.2 hf
        have Q := Lib.hid (show bS = false by rw [HbS.out, noSrc, hs, decide_eq_false hf]; rfl)
        clear hs q hf
        go_wp2
        go_meet
        exact ⟨by rw [Q.out], rfl⟩
  case rest =>
    obtain ⟨rfl, rfl⟩ := hcut
    go_upto_region 2 with (fail)
    go_cut [4] (fun x wx => x = .bool bH ∧ W0 = wx)
    case first =>
      by_cases hn : num = 0
      · by_cases hd : den = 0
        · have Q := Lib.hid (show bH = true by rw [HbH.out, noShr, hn, hd]; rfl)
          rw [hn] at d3
          rw [hd] at d4
          clear hn hd
          go_wp2
          go_meet
          exact ⟨by rw [Q.out], rfl⟩
        · have hd' : (den == 0) = false := beq_eq_false_iff_ne.2 hd
          have Q := Lib.hid (show bH = false by rw [HbH.out, noShr, hn, decide_eq_false hd]; rfl)
          rw [hn] at d3
          clear hn hd
          go_wp2
          go_meet
          exact ⟨by rw [Q.out], rfl⟩
      · have hn' : (num == 0) = false := beq_eq_false_iff_ne.2 hn
        have Q := Lib.hid (show bH = false by rw [HbH.out, noShr, decide_eq_false hn]; rfl)
        clear hn
        go_wp2
        go_meet
        exact ⟨by rw [Q.out], rfl⟩
    case rest =>
      obtain ⟨rfl, rfl⟩ := hcut
      go_upto_region 3 with (fail)
      go_cut [5, 6] (fun x y wx => x = .bool bP ∧ y = .bool bT ∧ Keep none_ W0 wx)
      case first =>
        have KD := Lib.hid ((Keep.refl none_ W0).drew)
        by_cases hp : pr = 0
        · have Q := Lib.hid (show bP = true by rw [HbP.out, noPar, hp]; rfl)
          rw [hp] at d5
          clear hp
          cases hs : strEq tx ⟨#[]⟩ with
          | false =>
            obtain ⟨n1, n2⟩ := empty_no hs
            have Q2 := Lib.hid (show bT = false by rw [HbT.out, noTxt, hs])
            clear hs
            have gd := still_good (W0).drew
            have ne := still_some (W0).drew
            have hx := still_at (W0).drew
            refine wp_region_calm (stillCalm (W0).drew) [0, 1, 2, 3, 4, 5, 6, 7] [] 169 (by kernel_rfl) (by kernel_rfl) rfl gd rfl ?_
            simp only [pairs, List.filterMap_cons, List.filterMap_nil, List.getElem?_toArray, List.getElem?_cons_succ, List.getElem?_cons_zero, Option.map_some]
            repeat (refine Calm.walk_quiet ne rfl rfl rfl (fun K hK => ?_); go_big_quiet_op; refine hK _ ?_; clear hK K)
            intro w' hR _
            obtain rfl : w' = (W0).drew := hR.symm
            simp only [pickOps, List.filterMap_nil]
            clear gd ne hx hR
            go_wp2
            go_meet
            exact ⟨by rw [Q.out], by rw [Q2.out], KD.out⟩
          | true =>
            have q := strEq_iff.1 hs
            have Q2 := Lib.hid (show bT = true by rw [HbT.out, noTxt, hs])
            rw [q] at d6
            clear hs q
            have gd := still_good (W0).drew
            have ne := still_some (W0).drew
            have hx := still_at (W0).drew
            refine wp_region_calm (stillCalm (W0).drew) [0, 1, 2, 3, 4, 5, 6, 7] [] 169 (by kernel_rfl) (by kernel_rfl) rfl gd rfl ?_
            simp only [pairs, List.filterMap_cons, List.filterMap_nil, List.getElem?_toArray, List.getElem?_cons_succ, List.getElem?_cons_zero, Option.map_some]
            repeat (refine Calm.walk_quiet ne rfl rfl rfl (fun K hK => ?_); go_big_quiet_op; refine hK _ ?_; clear hK K)
            intro w' hR _
            obtain rfl : w' = (W0).drew := hR.symm
            simp only [pickOps, List.filterMap_nil]
            clear gd ne hx hR
            go_wp2
            go_meet
            exact ⟨by rw [Q.out], by rw [Q2.out], KD.out⟩
        · have hp' : (pr == 0) = false := beq_eq_false_iff_ne.2 hp
          have Q := Lib.hid (show bP = false by rw [HbP.out, noPar, decide_eq_false hp])
          clear hp
          cases hs : strEq tx ⟨#[]⟩ with
          | false =>
            obtain ⟨n1, n2⟩ := empty_no hs
            have Q2 := Lib.hid (show bT = false by rw [HbT.out, noTxt, hs])
            clear hs
            have gd := still_good (W0).drew
            have ne := still_some (W0).drew
            have hx := still_at (W0).drew
            refine wp_region_calm (stillCalm (W0).drew) [0, 1, 2, 3, 4, 5, 6, 7] [] 169 (by kernel_rfl) (by kernel_rfl) rfl gd rfl ?_
            simp only [pairs, List.filterMap_cons, List.filterMap_nil, List.getElem?_toArray, List.getElem?_cons_succ, List.getElem?_cons_zero, Option.map_some]
            repeat (refine Calm.walk_quiet ne rfl rfl rfl (fun K hK => ?_); go_big_quiet_op; refine hK _ ?_; clear hK K)
            intro w' hR _
            obtain rfl : w' = (W0).drew := hR.symm
            simp only [pickOps, List.filterMap_nil]
            clear gd ne hx hR
            go_wp2
            go_meet
            exact ⟨by rw [Q.out], by rw [Q2.out], KD.out⟩
          | true =>
            have q := strEq_iff.1 hs
            have Q2 := Lib.hid (show bT = true by rw [HbT.out, noTxt, hs])
            rw [q] at d6
            clear hs q
            have gd := still_good (W0).drew
            have ne := still_some (W0).drew
            have hx := still_at (W0).drew
            refine wp_region_calm (stillCalm (W0).drew) [0, 1, 2, 3, 4, 5, 6, 7] [] 169 (by kernel_rfl) (by kernel_rfl) rfl gd rfl ?_
            simp only [pairs, List.filterMap_cons, List.filterMap_nil, List.getElem?_toArray, List.getElem?_cons_succ, List.getElem?_cons_zero, Option.map_some]
            repeat (refine Calm.walk_quiet ne rfl rfl rfl (fun K hK => ?_); go_big_quiet_op; refine hK _ ?_; clear hK K)
            intro w' hR _
            obtain rfl : w' = (W0).drew := hR.symm
            simp only [pickOps, List.filterMap_nil]
            clear gd ne hx hR
            go_wp2
            go_meet
            exact ⟨by rw [Q.out], by rw [Q2.out], KD.out⟩
      case rest =>
        obtain ⟨rfl, rfl, hk1⟩ := hcut
        have K1 := Lib.hid hk1
        have d0 := hk1.cell d0 (fun e => e)
        have d1 := hk1.cell d1 (fun e => e)
        have d2 := hk1.cell d2 (fun e => e)
        have d3 := hk1.cell d3 (fun e => e)
        have d4 := hk1.cell d4 (fun e => e)
        have d5 := hk1.cell d5 (fun e => e)
        have d6 := hk1.cell d6 (fun e => e)
        have d7 := hk1.cell d7 (fun e => e)
        have B1 := Lib.hid (B0.out.keep hk1 (fun e => e))
        clear HbS HbH HbP HbT hk1
        cases bS with
        | false =>
          go_wp2
          go_ret
          exact ⟨ret_bool (by rw [ANS.out]; simp), K0.out.trans K1.out⟩
        | true =>
          cases bH with
          | false =>
            go_wp2
            go_ret
            exact ⟨ret_bool (by rw [ANS.out]; simp), K0.out.trans K1.out⟩
          | true =>
            cases bP with
            | false =>
              go_wp2
              go_ret
              exact ⟨ret_bool (by rw [ANS.out]; simp), K0.out.trans K1.out⟩
            | true =>
              cases bT with
              | false =>
                go_wp2
                go_ret
                exact ⟨ret_bool (by rw [ANS.out]; simp), K0.out.trans K1.out⟩
              | true =>
                by_cases hna : na = 0
                · subst hna
                  go_wp2
                  go_ret
                  exact ⟨ret_bool (by rw [ANS.out]; simp), K0.out.trans K1.out⟩
                · have hna' : ((na : Int) == 0) = false := by rw [beq_eq_false_iff_ne]; omega
                  have hnd : decide (na = 0) = false := decide_eq_false hna
                  rw [hnd] at ANS
                  clear hna hnd
                  go_wp2
                  go_ret
                  exact ⟨ret_bool (by rw [ANS.out]; simp), K0.out.trans K1.out⟩

set_option maxRecDepth 100000 in
set_option maxHeartbeats 1000000 in
theorem vfields1 (md : ByteArray) (fr num den pr : Int) (tx : ByteArray) (xs : List Ex) (A : Option Addr) (na c : Nat) (w : World) : Calls Tryz.prog 60 #[.agg #[.int .i64 1, .string md, .int .i64 fr, .int .i64 num, .int .i64 den, .int .i64 pr, .string tx, .slice A na c]] w fun e w' => e = .returned (.bool (fOk (.mk 1 md fr num den pr tx xs) na)) ∧ Keep none_ w w' := by
  obtain ⟨W0, hW0⟩ : ∃ W0, W0 = w.alloc (.cells #[.int .i64 1, .string md, .int .i64 fr, .int .i64 num, .int .i64 den, .int .i64 pr, .string tx, .slice A na c] 89) := ⟨_, rfl⟩
  have k0 : Keep none_ w W0 := hW0 ▸ (Keep.refl _ _).alloc _
  have b0 : Blk W0 w.heap.size 89 #[.int .i64 1, .string md, .int .i64 fr, .int .i64 num, .int .i64 den, .int .i64 pr, .string tx, .slice A na c] := hW0 ▸ Blk.new _ _ _
  have d0 := b0.cell 0
  have d1 := b0.cell 1
  have d2 := b0.cell 2
  have d3 := b0.cell 3
  have d4 := b0.cell 4
  have d5 := b0.cell 5
  have d6 := b0.cell 6
  have d7 := b0.cell 7
  simp only [List.getElem?_toArray, List.getElem?_cons_zero, List.getElem?_cons_succ] at d0 d1 d2 d3 d4 d5 d6 d7
  have B0 := Lib.hid b0
  have K0 := Lib.hid k0
  clear b0 k0
  obtain ⟨bS, hbS⟩ : ∃ b, b = noSrc md fr := ⟨_, rfl⟩
  obtain ⟨bH, hbH⟩ : ∃ b, b = noShr num den := ⟨_, rfl⟩
  obtain ⟨bP, hbP⟩ : ∃ b, b = noPar pr := ⟨_, rfl⟩
  obtain ⟨bT, hbT⟩ : ∃ b, b = noTxt tx := ⟨_, rfl⟩
  have ANS := Lib.hid (show fOk (.mk 1 md fr num den pr tx xs) na = (nameOk md && decide (0 ≤ fr) && decide (fr ≤ 2147483646) && bH && bP && bT && decide (na = 0)) by simp only [hbH, hbP, hbT]; rfl)
  have HbS := Lib.hid hbS
  have HbH := Lib.hid hbH
  have HbP := Lib.hid hbP
  have HbT := Lib.hid hbT
  clear hbS hbH hbP hbT
  go_enter Tryz.func60, Tryz.ntmps60
  go_upto_region 1 with (fail)
  rw [← hW0]
  clear hW0
  go_cut [3] (fun x wx => x = .bool bS ∧ W0 = wx)
  case first =>
    cases hs : strEq md ⟨#[]⟩ with
    | false =>
      obtain ⟨n1, n2⟩ := empty_no hs
      have Q := Lib.hid (show bS = false by rw [HbS.out, noSrc, hs]; rfl)
      clear hs
      go_wp2
      go_meet
      exact ⟨by rw [Q.out], rfl⟩
    | true =>
      have q := strEq_iff.1 hs
      rw [q] at d1
      by_cases hf : fr = 0
      · have Q := Lib.hid (show bS = true by rw [HbS.out, noSrc, hs, hf]; rfl)
        rw [hf] at d2
        clear hs q hf
        go_wp2
        go_meet
        exact ⟨by rw [Q.out], rfl⟩
      · have hf' : (fr == 0) = false := beq_eq_false_iff_ne.2 hf
        have Q := Lib.hid (show bS = false by rw [HbS.out, noSrc, hs, decide_eq_false hf]; rfl)
        clear hs q hf
        go_wp2
        go_meet
        exact ⟨by rw [Q.out], rfl⟩
  case rest =>
    obtain ⟨rfl, rfl⟩ := hcut
    go_upto_region 2 with (fail)
    go_cut [4] (fun x wx => x = .bool bH ∧ W0 = wx)
    case first =>
      by_cases hn : num = 0
      · by_cases hd : den = 0
        · have Q := Lib.hid (show bH = true by rw [HbH.out, noShr, hn, hd]; rfl)
          rw [hn] at d3
          rw [hd] at d4
          clear hn hd
          go_wp2
          go_meet
          exact ⟨by rw [Q.out], rfl⟩
        · have hd' : (den == 0) = false := beq_eq_false_iff_ne.2 hd
          have Q := Lib.hid (show bH = false by rw [HbH.out, noShr, hn, decide_eq_false hd]; rfl)
          rw [hn] at d3
          clear hn hd
          go_wp2
          go_meet
          exact ⟨by rw [Q.out], rfl⟩
      · have hn' : (num == 0) = false := beq_eq_false_iff_ne.2 hn
        have Q := Lib.hid (show bH = false by rw [HbH.out, noShr, decide_eq_false hn]; rfl)
        clear hn
        go_wp2
        go_meet
        exact ⟨by rw [Q.out], rfl⟩
    case rest =>
      obtain ⟨rfl, rfl⟩ := hcut
      go_upto_region 3 with (fail)
      go_cut [5, 6] (fun x y wx => x = .bool bP ∧ y = .bool bT ∧ Keep none_ W0 wx)
      case first =>
        have KD := Lib.hid ((Keep.refl none_ W0).drew)
        by_cases hp : pr = 0
        · have Q := Lib.hid (show bP = true by rw [HbP.out, noPar, hp]; rfl)
          rw [hp] at d5
          clear hp
          cases hs : strEq tx ⟨#[]⟩ with
          | false =>
            obtain ⟨n1, n2⟩ := empty_no hs
            have Q2 := Lib.hid (show bT = false by rw [HbT.out, noTxt, hs])
            clear hs
            have gd := still_good (W0).drew
            have ne := still_some (W0).drew
            have hx := still_at (W0).drew
            refine wp_region_calm (stillCalm (W0).drew) [0, 1, 2, 3, 4, 5, 6, 7] [] 169 (by kernel_rfl) (by kernel_rfl) rfl gd rfl ?_
            simp only [pairs, List.filterMap_cons, List.filterMap_nil, List.getElem?_toArray, List.getElem?_cons_succ, List.getElem?_cons_zero, Option.map_some]
            repeat (refine Calm.walk_quiet ne rfl rfl rfl (fun K hK => ?_); go_big_quiet_op; refine hK _ ?_; clear hK K)
            intro w' hR _
            obtain rfl : w' = (W0).drew := hR.symm
            simp only [pickOps, List.filterMap_nil]
            clear gd ne hx hR
            go_wp2
            go_meet
            exact ⟨by rw [Q.out], by rw [Q2.out], KD.out⟩
          | true =>
            have q := strEq_iff.1 hs
            have Q2 := Lib.hid (show bT = true by rw [HbT.out, noTxt, hs])
            rw [q] at d6
            clear hs q
            have gd := still_good (W0).drew
            have ne := still_some (W0).drew
            have hx := still_at (W0).drew
            refine wp_region_calm (stillCalm (W0).drew) [0, 1, 2, 3, 4, 5, 6, 7] [] 169 (by kernel_rfl) (by kernel_rfl) rfl gd rfl ?_
            simp only [pairs, List.filterMap_cons, List.filterMap_nil, List.getElem?_toArray, List.getElem?_cons_succ, List.getElem?_cons_zero, Option.map_some]
            repeat (refine Calm.walk_quiet ne rfl rfl rfl (fun K hK => ?_); go_big_quiet_op; refine hK _ ?_; clear hK K)
            intro w' hR _
            obtain rfl : w' = (W0).drew := hR.symm
            simp only [pickOps, List.filterMap_nil]
            clear gd ne hx hR
            go_wp2
            go_meet
            exact ⟨by rw [Q.out], by rw [Q2.out], KD.out⟩
        · have hp' : (pr == 0) = false := beq_eq_false_iff_ne.2 hp
          have Q := Lib.hid (show bP = false by rw [HbP.out, noPar, decide_eq_false hp])
          clear hp
          cases hs : strEq tx ⟨#[]⟩ with
          | false =>
            obtain ⟨n1, n2⟩ := empty_no hs
            have Q2 := Lib.hid (show bT = false by rw [HbT.out, noTxt, hs])
            clear hs
            have gd := still_good (W0).drew
            have ne := still_some (W0).drew
            have hx := still_at (W0).drew
            refine wp_region_calm (stillCalm (W0).drew) [0, 1, 2, 3, 4, 5, 6, 7] [] 169 (by kernel_rfl) (by kernel_rfl) rfl gd rfl ?_
            simp only [pairs, List.filterMap_cons, List.filterMap_nil, List.getElem?_toArray, List.getElem?_cons_succ, List.getElem?_cons_zero, Option.map_some]
            repeat (refine Calm.walk_quiet ne rfl rfl rfl (fun K hK => ?_); go_big_quiet_op; refine hK _ ?_; clear hK K)
            intro w' hR _
            obtain rfl : w' = (W0).drew := hR.symm
            simp only [pickOps, List.filterMap_nil]
            clear gd ne hx hR
            go_wp2
            go_meet
            exact ⟨by rw [Q.out], by rw [Q2.out], KD.out⟩
          | true =>
            have q := strEq_iff.1 hs
            have Q2 := Lib.hid (show bT = true by rw [HbT.out, noTxt, hs])
            rw [q] at d6
            clear hs q
            have gd := still_good (W0).drew
            have ne := still_some (W0).drew
            have hx := still_at (W0).drew
            refine wp_region_calm (stillCalm (W0).drew) [0, 1, 2, 3, 4, 5, 6, 7] [] 169 (by kernel_rfl) (by kernel_rfl) rfl gd rfl ?_
            simp only [pairs, List.filterMap_cons, List.filterMap_nil, List.getElem?_toArray, List.getElem?_cons_succ, List.getElem?_cons_zero, Option.map_some]
            repeat (refine Calm.walk_quiet ne rfl rfl rfl (fun K hK => ?_); go_big_quiet_op; refine hK _ ?_; clear hK K)
            intro w' hR _
            obtain rfl : w' = (W0).drew := hR.symm
            simp only [pickOps, List.filterMap_nil]
            clear gd ne hx hR
            go_wp2
            go_meet
            exact ⟨by rw [Q.out], by rw [Q2.out], KD.out⟩
      case rest =>
        obtain ⟨rfl, rfl, hk1⟩ := hcut
        have K1 := Lib.hid hk1
        have d0 := hk1.cell d0 (fun e => e)
        have d1 := hk1.cell d1 (fun e => e)
        have d2 := hk1.cell d2 (fun e => e)
        have d3 := hk1.cell d3 (fun e => e)
        have d4 := hk1.cell d4 (fun e => e)
        have d5 := hk1.cell d5 (fun e => e)
        have d6 := hk1.cell d6 (fun e => e)
        have d7 := hk1.cell d7 (fun e => e)
        have B1 := Lib.hid (B0.out.keep hk1 (fun e => e))
        clear HbS HbH HbP HbT hk1
        have NM := Lib.hid (validName_any md wc)
        cases hname : nameOk md with
        | false =>
          rw [hname] at NM ANS
          clear hname
          go_wp2_with (first | (go_at_call 42; refine NM.out.mono ?_; rintro e w' ⟨rfl, rfl⟩))
          go_ret
          exact ⟨ret_bool (by rw [ANS.out]; simp), K0.out.trans K1.out⟩
        | true =>
          rw [hname] at NM ANS
          clear hname
          by_cases hfr0 : 0 ≤ fr
          · have hfr0' : decide (0 ≤ fr) = true := decide_eq_true hfr0
            rw [hfr0'] at ANS
            by_cases hfrm : fr ≤ 2147483646
            · have hfrm' : decide (fr ≤ 2147483646) = true := decide_eq_true hfrm
              rw [hfrm'] at ANS
              cases bH with
              | false =>
                go_wp2_with (first | (go_at_call 42; refine NM.out.mono ?_; rintro e w' ⟨rfl, rfl⟩))
                go_ret
                exact ⟨ret_bool (by rw [ANS.out]; simp), K0.out.trans K1.out⟩
              | true =>
                cases bP with
                | false =>
                  go_wp2_with (first | (go_at_call 42; refine NM.out.mono ?_; rintro e w' ⟨rfl, rfl⟩))
                  go_ret
                  exact ⟨ret_bool (by rw [ANS.out]; simp), K0.out.trans K1.out⟩
                | true =>
                  cases bT with
                  | false =>
                    go_wp2_with (first | (go_at_call 42; refine NM.out.mono ?_; rintro e w' ⟨rfl, rfl⟩))
                    go_ret
                    exact ⟨ret_bool (by rw [ANS.out]; simp), K0.out.trans K1.out⟩
                  | true =>
                    by_cases hna : na = 0
                    · subst hna
                      go_wp2_with (first | (go_at_call 42; refine NM.out.mono ?_; rintro e w' ⟨rfl, rfl⟩))
                      go_ret
                      exact ⟨ret_bool (by rw [ANS.out]; simp), K0.out.trans K1.out⟩
                    · have hna' : ((na : Int) == 0) = false := by rw [beq_eq_false_iff_ne]; omega
                      have hnd : decide (na = 0) = false := decide_eq_false hna
                      rw [hnd] at ANS
                      clear hna hnd
                      go_wp2_with (first | (go_at_call 42; refine NM.out.mono ?_; rintro e w' ⟨rfl, rfl⟩))
                      go_ret
                      exact ⟨ret_bool (by rw [ANS.out]; simp), K0.out.trans K1.out⟩
            · have hfrm' : decide (fr ≤ 2147483646) = false := decide_eq_false hfrm
              rw [hfrm'] at ANS
              go_wp2_with (first | (go_at_call 42; refine NM.out.mono ?_; rintro e w' ⟨rfl, rfl⟩))
              go_ret
              exact ⟨ret_bool (by rw [ANS.out]; simp), K0.out.trans K1.out⟩
          · have hfr0' : decide (0 ≤ fr) = false := decide_eq_false hfr0
            rw [hfr0'] at ANS
            go_wp2_with (first | (go_at_call 42; refine NM.out.mono ?_; rintro e w' ⟨rfl, rfl⟩))
            go_ret
            exact ⟨ret_bool (by rw [ANS.out]; simp), K0.out.trans K1.out⟩

set_option maxRecDepth 100000 in
set_option maxHeartbeats 1000000 in
theorem vfields2 (md : ByteArray) (fr num den pr : Int) (tx : ByteArray) (xs : List Ex) (A : Option Addr) (na c : Nat) (w : World) : Calls Tryz.prog 60 #[.agg #[.int .i64 2, .string md, .int .i64 fr, .int .i64 num, .int .i64 den, .int .i64 pr, .string tx, .slice A na c]] w fun e w' => e = .returned (.bool (fOk (.mk 2 md fr num den pr tx xs) na)) ∧ Keep none_ w w' := by
  obtain ⟨W0, hW0⟩ : ∃ W0, W0 = w.alloc (.cells #[.int .i64 2, .string md, .int .i64 fr, .int .i64 num, .int .i64 den, .int .i64 pr, .string tx, .slice A na c] 89) := ⟨_, rfl⟩
  have k0 : Keep none_ w W0 := hW0 ▸ (Keep.refl _ _).alloc _
  have b0 : Blk W0 w.heap.size 89 #[.int .i64 2, .string md, .int .i64 fr, .int .i64 num, .int .i64 den, .int .i64 pr, .string tx, .slice A na c] := hW0 ▸ Blk.new _ _ _
  have d0 := b0.cell 0
  have d1 := b0.cell 1
  have d2 := b0.cell 2
  have d3 := b0.cell 3
  have d4 := b0.cell 4
  have d5 := b0.cell 5
  have d6 := b0.cell 6
  have d7 := b0.cell 7
  simp only [List.getElem?_toArray, List.getElem?_cons_zero, List.getElem?_cons_succ] at d0 d1 d2 d3 d4 d5 d6 d7
  have B0 := Lib.hid b0
  have K0 := Lib.hid k0
  clear b0 k0
  obtain ⟨bS, hbS⟩ : ∃ b, b = noSrc md fr := ⟨_, rfl⟩
  obtain ⟨bH, hbH⟩ : ∃ b, b = noShr num den := ⟨_, rfl⟩
  obtain ⟨bP, hbP⟩ : ∃ b, b = noPar pr := ⟨_, rfl⟩
  obtain ⟨bT, hbT⟩ : ∃ b, b = noTxt tx := ⟨_, rfl⟩
  have ANS := Lib.hid (show fOk (.mk 2 md fr num den pr tx xs) na = (bS && shareOk num den && bP && bT && decide (na = 2)) by simp only [hbS, hbP, hbT]; rfl)
  have HbS := Lib.hid hbS
  have HbH := Lib.hid hbH
  have HbP := Lib.hid hbP
  have HbT := Lib.hid hbT
  clear hbS hbH hbP hbT
  go_enter Tryz.func60, Tryz.ntmps60
  go_upto_region 1 with (fail)
  rw [← hW0]
  clear hW0
  go_cut [3] (fun x wx => x = .bool bS ∧ W0 = wx)
  case first =>
    cases hs : strEq md ⟨#[]⟩ with
    | false =>
      obtain ⟨n1, n2⟩ := empty_no hs
      have Q := Lib.hid (show bS = false by rw [HbS.out, noSrc, hs]; rfl)
      clear hs
      go_wp2
      go_meet
      exact ⟨by rw [Q.out], rfl⟩
    | true =>
      have q := strEq_iff.1 hs
      rw [q] at d1
      by_cases hf : fr = 0
      · have Q := Lib.hid (show bS = true by rw [HbS.out, noSrc, hs, hf]; rfl)
        rw [hf] at d2
        clear hs q hf
        go_wp2
        go_meet
        exact ⟨by rw [Q.out], rfl⟩
      · have hf' : (fr == 0) = false := beq_eq_false_iff_ne.2 hf
        have Q := Lib.hid (show bS = false by rw [HbS.out, noSrc, hs, decide_eq_false hf]; rfl)
        clear hs q hf
        go_wp2
        go_meet
        exact ⟨by rw [Q.out], rfl⟩
  case rest =>
    obtain ⟨rfl, rfl⟩ := hcut
    go_upto_region 2 with (fail)
    go_cut [4] (fun x wx => x = .bool bH ∧ W0 = wx)
    case first =>
      by_cases hn : num = 0
      · by_cases hd : den = 0
        · have Q := Lib.hid (show bH = true by rw [HbH.out, noShr, hn, hd]; rfl)
          rw [hn] at d3
          rw [hd] at d4
          clear hn hd
          go_wp2
          go_meet
          exact ⟨by rw [Q.out], rfl⟩
        · have hd' : (den == 0) = false := beq_eq_false_iff_ne.2 hd
          have Q := Lib.hid (show bH = false by rw [HbH.out, noShr, hn, decide_eq_false hd]; rfl)
          rw [hn] at d3
          clear hn hd
          go_wp2
          go_meet
          exact ⟨by rw [Q.out], rfl⟩
      · have hn' : (num == 0) = false := beq_eq_false_iff_ne.2 hn
        have Q := Lib.hid (show bH = false by rw [HbH.out, noShr, decide_eq_false hn]; rfl)
        clear hn
        go_wp2
        go_meet
        exact ⟨by rw [Q.out], rfl⟩
    case rest =>
      obtain ⟨rfl, rfl⟩ := hcut
      go_upto_region 3 with (fail)
      go_cut [5, 6] (fun x y wx => x = .bool bP ∧ y = .bool bT ∧ Keep none_ W0 wx)
      case first =>
        have KD := Lib.hid ((Keep.refl none_ W0).drew)
        by_cases hp : pr = 0
        · have Q := Lib.hid (show bP = true by rw [HbP.out, noPar, hp]; rfl)
          rw [hp] at d5
          clear hp
          cases hs : strEq tx ⟨#[]⟩ with
          | false =>
            obtain ⟨n1, n2⟩ := empty_no hs
            have Q2 := Lib.hid (show bT = false by rw [HbT.out, noTxt, hs])
            clear hs
            have gd := still_good (W0).drew
            have ne := still_some (W0).drew
            have hx := still_at (W0).drew
            refine wp_region_calm (stillCalm (W0).drew) [0, 1, 2, 3, 4, 5, 6, 7] [] 169 (by kernel_rfl) (by kernel_rfl) rfl gd rfl ?_
            simp only [pairs, List.filterMap_cons, List.filterMap_nil, List.getElem?_toArray, List.getElem?_cons_succ, List.getElem?_cons_zero, Option.map_some]
            repeat (refine Calm.walk_quiet ne rfl rfl rfl (fun K hK => ?_); go_big_quiet_op; refine hK _ ?_; clear hK K)
            intro w' hR _
            obtain rfl : w' = (W0).drew := hR.symm
            simp only [pickOps, List.filterMap_nil]
            clear gd ne hx hR
            go_wp2
            go_meet
            exact ⟨by rw [Q.out], by rw [Q2.out], KD.out⟩
          | true =>
            have q := strEq_iff.1 hs
            have Q2 := Lib.hid (show bT = true by rw [HbT.out, noTxt, hs])
            rw [q] at d6
            clear hs q
            have gd := still_good (W0).drew
            have ne := still_some (W0).drew
            have hx := still_at (W0).drew
            refine wp_region_calm (stillCalm (W0).drew) [0, 1, 2, 3, 4, 5, 6, 7] [] 169 (by kernel_rfl) (by kernel_rfl) rfl gd rfl ?_
            simp only [pairs, List.filterMap_cons, List.filterMap_nil, List.getElem?_toArray, List.getElem?_cons_succ, List.getElem?_cons_zero, Option.map_some]
            repeat (refine Calm.walk_quiet ne rfl rfl rfl (fun K hK => ?_); go_big_quiet_op; refine hK _ ?_; clear hK K)
            intro w' hR _
            obtain rfl : w' = (W0).drew := hR.symm
            simp only [pickOps, List.filterMap_nil]
            clear gd ne hx hR
            go_wp2
            go_meet
            exact ⟨by rw [Q.out], by rw [Q2.out], KD.out⟩
        · have hp' : (pr == 0) = false := beq_eq_false_iff_ne.2 hp
          have Q := Lib.hid (show bP = false by rw [HbP.out, noPar, decide_eq_false hp])
          clear hp
          cases hs : strEq tx ⟨#[]⟩ with
          | false =>
            obtain ⟨n1, n2⟩ := empty_no hs
            have Q2 := Lib.hid (show bT = false by rw [HbT.out, noTxt, hs])
            clear hs
            have gd := still_good (W0).drew
            have ne := still_some (W0).drew
            have hx := still_at (W0).drew
            refine wp_region_calm (stillCalm (W0).drew) [0, 1, 2, 3, 4, 5, 6, 7] [] 169 (by kernel_rfl) (by kernel_rfl) rfl gd rfl ?_
            simp only [pairs, List.filterMap_cons, List.filterMap_nil, List.getElem?_toArray, List.getElem?_cons_succ, List.getElem?_cons_zero, Option.map_some]
            repeat (refine Calm.walk_quiet ne rfl rfl rfl (fun K hK => ?_); go_big_quiet_op; refine hK _ ?_; clear hK K)
            intro w' hR _
            obtain rfl : w' = (W0).drew := hR.symm
            simp only [pickOps, List.filterMap_nil]
            clear gd ne hx hR
            go_wp2
            go_meet
            exact ⟨by rw [Q.out], by rw [Q2.out], KD.out⟩
          | true =>
            have q := strEq_iff.1 hs
            have Q2 := Lib.hid (show bT = true by rw [HbT.out, noTxt, hs])
            rw [q] at d6
            clear hs q
            have gd := still_good (W0).drew
            have ne := still_some (W0).drew
            have hx := still_at (W0).drew
            refine wp_region_calm (stillCalm (W0).drew) [0, 1, 2, 3, 4, 5, 6, 7] [] 169 (by kernel_rfl) (by kernel_rfl) rfl gd rfl ?_
            simp only [pairs, List.filterMap_cons, List.filterMap_nil, List.getElem?_toArray, List.getElem?_cons_succ, List.getElem?_cons_zero, Option.map_some]
            repeat (refine Calm.walk_quiet ne rfl rfl rfl (fun K hK => ?_); go_big_quiet_op; refine hK _ ?_; clear hK K)
            intro w' hR _
            obtain rfl : w' = (W0).drew := hR.symm
            simp only [pickOps, List.filterMap_nil]
            clear gd ne hx hR
            go_wp2
            go_meet
            exact ⟨by rw [Q.out], by rw [Q2.out], KD.out⟩
      case rest =>
        obtain ⟨rfl, rfl, hk1⟩ := hcut
        have K1 := Lib.hid hk1
        have d0 := hk1.cell d0 (fun e => e)
        have d1 := hk1.cell d1 (fun e => e)
        have d2 := hk1.cell d2 (fun e => e)
        have d3 := hk1.cell d3 (fun e => e)
        have d4 := hk1.cell d4 (fun e => e)
        have d5 := hk1.cell d5 (fun e => e)
        have d6 := hk1.cell d6 (fun e => e)
        have d7 := hk1.cell d7 (fun e => e)
        have B1 := Lib.hid (B0.out.keep hk1 (fun e => e))
        clear HbS HbH HbP HbT hk1
        have VS := Lib.hid (vshare_any (.mk 2 md fr num den pr tx xs) (.slice A na c) wc)
        simp only [Ex.op, Ex.media, Ex.frame, Ex.num, Ex.den, Ex.param, Ex.text] at VS
        cases bS with
        | false =>
          have t1 : True := trivial
          go_wp2_with (first | (have _t := t1; refine wpList_load_part 89 (.tmp 1) rfl rfl w.heap.size 0 rfl #[.int .i64 2, .string md, .int .i64 fr, .int .i64 num, .int .i64 den, .int .i64 pr, .string tx, .slice A na c] _ B1.out.rangeAt Tryz.underlying89 rfl (by kernel_rfl) ?_; go_frame; clear _t t1) | (go_at_call 86; refine VS.out.mono ?_; rintro e w2 ⟨rfl, k2⟩; have K1 := Lib.hid (K1.out.trans k2); have d5 := k2.cell d5 (fun e => e); have d7 := k2.cell d7 (fun e => e); clear k2))
          go_ret
          exact ⟨ret_bool (by rw [ANS.out]; simp), K0.out.trans K1.out⟩
        | true =>
          cases hshare : shareOk num den with
          | false =>
            rw [hshare] at VS ANS
            clear hshare
            have t1 : True := trivial
            go_wp2_with (first | (have _t := t1; refine wpList_load_part 89 (.tmp 1) rfl rfl w.heap.size 0 rfl #[.int .i64 2, .string md, .int .i64 fr, .int .i64 num, .int .i64 den, .int .i64 pr, .string tx, .slice A na c] _ B1.out.rangeAt Tryz.underlying89 rfl (by kernel_rfl) ?_; go_frame; clear _t t1) | (go_at_call 86; refine VS.out.mono ?_; rintro e w2 ⟨rfl, k2⟩; have K1 := Lib.hid (K1.out.trans k2); have d5 := k2.cell d5 (fun e => e); have d7 := k2.cell d7 (fun e => e); clear k2))
            go_ret
            exact ⟨ret_bool (by rw [ANS.out]; simp), K0.out.trans K1.out⟩
          | true =>
            rw [hshare] at VS ANS
            clear hshare
            cases bP with
            | false =>
              have t1 : True := trivial
              go_wp2_with (first | (have _t := t1; refine wpList_load_part 89 (.tmp 1) rfl rfl w.heap.size 0 rfl #[.int .i64 2, .string md, .int .i64 fr, .int .i64 num, .int .i64 den, .int .i64 pr, .string tx, .slice A na c] _ B1.out.rangeAt Tryz.underlying89 rfl (by kernel_rfl) ?_; go_frame; clear _t t1) | (go_at_call 86; refine VS.out.mono ?_; rintro e w2 ⟨rfl, k2⟩; have K1 := Lib.hid (K1.out.trans k2); have d5 := k2.cell d5 (fun e => e); have d7 := k2.cell d7 (fun e => e); clear k2))
              go_ret
              exact ⟨ret_bool (by rw [ANS.out]; simp), K0.out.trans K1.out⟩
            | true =>
              cases bT with
              | false =>
                have t1 : True := trivial
                go_wp2_with (first | (have _t := t1; refine wpList_load_part 89 (.tmp 1) rfl rfl w.heap.size 0 rfl #[.int .i64 2, .string md, .int .i64 fr, .int .i64 num, .int .i64 den, .int .i64 pr, .string tx, .slice A na c] _ B1.out.rangeAt Tryz.underlying89 rfl (by kernel_rfl) ?_; go_frame; clear _t t1) | (go_at_call 86; refine VS.out.mono ?_; rintro e w2 ⟨rfl, k2⟩; have K1 := Lib.hid (K1.out.trans k2); have d5 := k2.cell d5 (fun e => e); have d7 := k2.cell d7 (fun e => e); clear k2))
                go_ret
                exact ⟨ret_bool (by rw [ANS.out]; simp), K0.out.trans K1.out⟩
              | true =>
                by_cases hna : na = 2
                · subst hna
                  have t1 : True := trivial
                  go_wp2_with (first | (have _t := t1; refine wpList_load_part 89 (.tmp 1) rfl rfl w.heap.size 0 rfl #[.int .i64 2, .string md, .int .i64 fr, .int .i64 num, .int .i64 den, .int .i64 pr, .string tx, .slice A na c] _ B1.out.rangeAt Tryz.underlying89 rfl (by kernel_rfl) ?_; go_frame; clear _t t1) | (go_at_call 86; refine VS.out.mono ?_; rintro e w2 ⟨rfl, k2⟩; have K1 := Lib.hid (K1.out.trans k2); have d5 := k2.cell d5 (fun e => e); have d7 := k2.cell d7 (fun e => e); clear k2))
                  go_ret
                  exact ⟨ret_bool (by rw [ANS.out]; simp), K0.out.trans K1.out⟩
                · have hna' : ((na : Int) == 2) = false := by rw [beq_eq_false_iff_ne]; omega
                  have hnd : decide (na = 2) = false := decide_eq_false hna
                  rw [hnd] at ANS
                  clear hna hnd
                  have t1 : True := trivial
                  go_wp2_with (first | (have _t := t1; refine wpList_load_part 89 (.tmp 1) rfl rfl w.heap.size 0 rfl #[.int .i64 2, .string md, .int .i64 fr, .int .i64 num, .int .i64 den, .int .i64 pr, .string tx, .slice A na c] _ B1.out.rangeAt Tryz.underlying89 rfl (by kernel_rfl) ?_; go_frame; clear _t t1) | (go_at_call 86; refine VS.out.mono ?_; rintro e w2 ⟨rfl, k2⟩; have K1 := Lib.hid (K1.out.trans k2); have d5 := k2.cell d5 (fun e => e); have d7 := k2.cell d7 (fun e => e); clear k2))
                  go_ret
                  exact ⟨ret_bool (by rw [ANS.out]; simp), K0.out.trans K1.out⟩

set_option maxRecDepth 100000 in
set_option maxHeartbeats 1000000 in
theorem vfields3 (md : ByteArray) (fr num den pr : Int) (tx : ByteArray) (xs : List Ex) (A : Option Addr) (na c : Nat) (w : World) : Calls Tryz.prog 60 #[.agg #[.int .i64 3, .string md, .int .i64 fr, .int .i64 num, .int .i64 den, .int .i64 pr, .string tx, .slice A na c]] w fun e w' => e = .returned (.bool (fOk (.mk 3 md fr num den pr tx xs) na)) ∧ Keep none_ w w' := by
  obtain ⟨W0, hW0⟩ : ∃ W0, W0 = w.alloc (.cells #[.int .i64 3, .string md, .int .i64 fr, .int .i64 num, .int .i64 den, .int .i64 pr, .string tx, .slice A na c] 89) := ⟨_, rfl⟩
  have k0 : Keep none_ w W0 := hW0 ▸ (Keep.refl _ _).alloc _
  have b0 : Blk W0 w.heap.size 89 #[.int .i64 3, .string md, .int .i64 fr, .int .i64 num, .int .i64 den, .int .i64 pr, .string tx, .slice A na c] := hW0 ▸ Blk.new _ _ _
  have d0 := b0.cell 0
  have d1 := b0.cell 1
  have d2 := b0.cell 2
  have d3 := b0.cell 3
  have d4 := b0.cell 4
  have d5 := b0.cell 5
  have d6 := b0.cell 6
  have d7 := b0.cell 7
  simp only [List.getElem?_toArray, List.getElem?_cons_zero, List.getElem?_cons_succ] at d0 d1 d2 d3 d4 d5 d6 d7
  have B0 := Lib.hid b0
  have K0 := Lib.hid k0
  clear b0 k0
  obtain ⟨bS, hbS⟩ : ∃ b, b = noSrc md fr := ⟨_, rfl⟩
  obtain ⟨bH, hbH⟩ : ∃ b, b = noShr num den := ⟨_, rfl⟩
  obtain ⟨bP, hbP⟩ : ∃ b, b = noPar pr := ⟨_, rfl⟩
  obtain ⟨bT, hbT⟩ : ∃ b, b = noTxt tx := ⟨_, rfl⟩
  have ANS := Lib.hid (show fOk (.mk 3 md fr num den pr tx xs) na = (bS && shareOk num den && decide (0 ≤ pr) && decide (pr ≤ 3) && bT && decide (na = 2)) by simp only [hbS, hbT]; rfl)
  have HbS := Lib.hid hbS
  have HbH := Lib.hid hbH
  have HbP := Lib.hid hbP
  have HbT := Lib.hid hbT
  clear hbS hbH hbP hbT
  go_enter Tryz.func60, Tryz.ntmps60
  go_upto_region 1 with (fail)
  rw [← hW0]
  clear hW0
  go_cut [3] (fun x wx => x = .bool bS ∧ W0 = wx)
  case first =>
    cases hs : strEq md ⟨#[]⟩ with
    | false =>
      obtain ⟨n1, n2⟩ := empty_no hs
      have Q := Lib.hid (show bS = false by rw [HbS.out, noSrc, hs]; rfl)
      clear hs
      go_wp2
      go_meet
      exact ⟨by rw [Q.out], rfl⟩
    | true =>
      have q := strEq_iff.1 hs
      rw [q] at d1
      by_cases hf : fr = 0
      · have Q := Lib.hid (show bS = true by rw [HbS.out, noSrc, hs, hf]; rfl)
        rw [hf] at d2
        clear hs q hf
        go_wp2
        go_meet
        exact ⟨by rw [Q.out], rfl⟩
      · have hf' : (fr == 0) = false := beq_eq_false_iff_ne.2 hf
        have Q := Lib.hid (show bS = false by rw [HbS.out, noSrc, hs, decide_eq_false hf]; rfl)
        clear hs q hf
        go_wp2
        go_meet
        exact ⟨by rw [Q.out], rfl⟩
  case rest =>
    obtain ⟨rfl, rfl⟩ := hcut
    go_upto_region 2 with (fail)
    go_cut [4] (fun x wx => x = .bool bH ∧ W0 = wx)
    case first =>
      by_cases hn : num = 0
      · by_cases hd : den = 0
        · have Q := Lib.hid (show bH = true by rw [HbH.out, noShr, hn, hd]; rfl)
          rw [hn] at d3
          rw [hd] at d4
          clear hn hd
          go_wp2
          go_meet
          exact ⟨by rw [Q.out], rfl⟩
        · have hd' : (den == 0) = false := beq_eq_false_iff_ne.2 hd
          have Q := Lib.hid (show bH = false by rw [HbH.out, noShr, hn, decide_eq_false hd]; rfl)
          rw [hn] at d3
          clear hn hd
          go_wp2
          go_meet
          exact ⟨by rw [Q.out], rfl⟩
      · have hn' : (num == 0) = false := beq_eq_false_iff_ne.2 hn
        have Q := Lib.hid (show bH = false by rw [HbH.out, noShr, decide_eq_false hn]; rfl)
        clear hn
        go_wp2
        go_meet
        exact ⟨by rw [Q.out], rfl⟩
    case rest =>
      obtain ⟨rfl, rfl⟩ := hcut
      go_upto_region 3 with (fail)
      go_cut [5, 6] (fun x y wx => x = .bool bP ∧ y = .bool bT ∧ Keep none_ W0 wx)
      case first =>
        have KD := Lib.hid ((Keep.refl none_ W0).drew)
        by_cases hp : pr = 0
        · have Q := Lib.hid (show bP = true by rw [HbP.out, noPar, hp]; rfl)
          rw [hp] at d5
          clear hp
          cases hs : strEq tx ⟨#[]⟩ with
          | false =>
            obtain ⟨n1, n2⟩ := empty_no hs
            have Q2 := Lib.hid (show bT = false by rw [HbT.out, noTxt, hs])
            clear hs
            have gd := still_good (W0).drew
            have ne := still_some (W0).drew
            have hx := still_at (W0).drew
            refine wp_region_calm (stillCalm (W0).drew) [0, 1, 2, 3, 4, 5, 6, 7] [] 169 (by kernel_rfl) (by kernel_rfl) rfl gd rfl ?_
            simp only [pairs, List.filterMap_cons, List.filterMap_nil, List.getElem?_toArray, List.getElem?_cons_succ, List.getElem?_cons_zero, Option.map_some]
            repeat (refine Calm.walk_quiet ne rfl rfl rfl (fun K hK => ?_); go_big_quiet_op; refine hK _ ?_; clear hK K)
            intro w' hR _
            obtain rfl : w' = (W0).drew := hR.symm
            simp only [pickOps, List.filterMap_nil]
            clear gd ne hx hR
            go_wp2
            go_meet
            exact ⟨by rw [Q.out], by rw [Q2.out], KD.out⟩
          | true =>
            have q := strEq_iff.1 hs
            have Q2 := Lib.hid (show bT = true by rw [HbT.out, noTxt, hs])
            rw [q] at d6
            clear hs q
            have gd := still_good (W0).drew
            have ne := still_some (W0).drew
            have hx := still_at (W0).drew
            refine wp_region_calm (stillCalm (W0).drew) [0, 1, 2, 3, 4, 5, 6, 7] [] 169 (by kernel_rfl) (by kernel_rfl) rfl gd rfl ?_
            simp only [pairs, List.filterMap_cons, List.filterMap_nil, List.getElem?_toArray, List.getElem?_cons_succ, List.getElem?_cons_zero, Option.map_some]
            repeat (refine Calm.walk_quiet ne rfl rfl rfl (fun K hK => ?_); go_big_quiet_op; refine hK _ ?_; clear hK K)
            intro w' hR _
            obtain rfl : w' = (W0).drew := hR.symm
            simp only [pickOps, List.filterMap_nil]
            clear gd ne hx hR
            go_wp2
            go_meet
            exact ⟨by rw [Q.out], by rw [Q2.out], KD.out⟩
        · have hp' : (pr == 0) = false := beq_eq_false_iff_ne.2 hp
          have Q := Lib.hid (show bP = false by rw [HbP.out, noPar, decide_eq_false hp])
          clear hp
          cases hs : strEq tx ⟨#[]⟩ with
          | false =>
            obtain ⟨n1, n2⟩ := empty_no hs
            have Q2 := Lib.hid (show bT = false by rw [HbT.out, noTxt, hs])
            clear hs
            have gd := still_good (W0).drew
            have ne := still_some (W0).drew
            have hx := still_at (W0).drew
            refine wp_region_calm (stillCalm (W0).drew) [0, 1, 2, 3, 4, 5, 6, 7] [] 169 (by kernel_rfl) (by kernel_rfl) rfl gd rfl ?_
            simp only [pairs, List.filterMap_cons, List.filterMap_nil, List.getElem?_toArray, List.getElem?_cons_succ, List.getElem?_cons_zero, Option.map_some]
            repeat (refine Calm.walk_quiet ne rfl rfl rfl (fun K hK => ?_); go_big_quiet_op; refine hK _ ?_; clear hK K)
            intro w' hR _
            obtain rfl : w' = (W0).drew := hR.symm
            simp only [pickOps, List.filterMap_nil]
            clear gd ne hx hR
            go_wp2
            go_meet
            exact ⟨by rw [Q.out], by rw [Q2.out], KD.out⟩
          | true =>
            have q := strEq_iff.1 hs
            have Q2 := Lib.hid (show bT = true by rw [HbT.out, noTxt, hs])
            rw [q] at d6
            clear hs q
            have gd := still_good (W0).drew
            have ne := still_some (W0).drew
            have hx := still_at (W0).drew
            refine wp_region_calm (stillCalm (W0).drew) [0, 1, 2, 3, 4, 5, 6, 7] [] 169 (by kernel_rfl) (by kernel_rfl) rfl gd rfl ?_
            simp only [pairs, List.filterMap_cons, List.filterMap_nil, List.getElem?_toArray, List.getElem?_cons_succ, List.getElem?_cons_zero, Option.map_some]
            repeat (refine Calm.walk_quiet ne rfl rfl rfl (fun K hK => ?_); go_big_quiet_op; refine hK _ ?_; clear hK K)
            intro w' hR _
            obtain rfl : w' = (W0).drew := hR.symm
            simp only [pickOps, List.filterMap_nil]
            clear gd ne hx hR
            go_wp2
            go_meet
            exact ⟨by rw [Q.out], by rw [Q2.out], KD.out⟩
      case rest =>
        obtain ⟨rfl, rfl, hk1⟩ := hcut
        have K1 := Lib.hid hk1
        have d0 := hk1.cell d0 (fun e => e)
        have d1 := hk1.cell d1 (fun e => e)
        have d2 := hk1.cell d2 (fun e => e)
        have d3 := hk1.cell d3 (fun e => e)
        have d4 := hk1.cell d4 (fun e => e)
        have d5 := hk1.cell d5 (fun e => e)
        have d6 := hk1.cell d6 (fun e => e)
        have d7 := hk1.cell d7 (fun e => e)
        have B1 := Lib.hid (B0.out.keep hk1 (fun e => e))
        clear HbS HbH HbP HbT hk1
        have VS := Lib.hid (vshare_any (.mk 3 md fr num den pr tx xs) (.slice A na c) wc)
        simp only [Ex.op, Ex.media, Ex.frame, Ex.num, Ex.den, Ex.param, Ex.text] at VS
        cases bS with
        | false =>
          have t1 : True := trivial
          go_wp2_with (first | (have _t := t1; refine wpList_load_part 89 (.tmp 1) rfl rfl w.heap.size 0 rfl #[.int .i64 3, .string md, .int .i64 fr, .int .i64 num, .int .i64 den, .int .i64 pr, .string tx, .slice A na c] _ B1.out.rangeAt Tryz.underlying89 rfl (by kernel_rfl) ?_; go_frame; clear _t t1) | (go_at_call 86; refine VS.out.mono ?_; rintro e w2 ⟨rfl, k2⟩; have K1 := Lib.hid (K1.out.trans k2); have d5 := k2.cell d5 (fun e => e); have d7 := k2.cell d7 (fun e => e); clear k2))
          go_ret
          exact ⟨ret_bool (by rw [ANS.out]; simp), K0.out.trans K1.out⟩
        | true =>
          cases hshare : shareOk num den with
          | false =>
            rw [hshare] at VS ANS
            clear hshare
            have t1 : True := trivial
            go_wp2_with (first | (have _t := t1; refine wpList_load_part 89 (.tmp 1) rfl rfl w.heap.size 0 rfl #[.int .i64 3, .string md, .int .i64 fr, .int .i64 num, .int .i64 den, .int .i64 pr, .string tx, .slice A na c] _ B1.out.rangeAt Tryz.underlying89 rfl (by kernel_rfl) ?_; go_frame; clear _t t1) | (go_at_call 86; refine VS.out.mono ?_; rintro e w2 ⟨rfl, k2⟩; have K1 := Lib.hid (K1.out.trans k2); have d5 := k2.cell d5 (fun e => e); have d7 := k2.cell d7 (fun e => e); clear k2))
            go_ret
            exact ⟨ret_bool (by rw [ANS.out]; simp), K0.out.trans K1.out⟩
          | true =>
            rw [hshare] at VS ANS
            clear hshare
            by_cases hpr0 : 0 ≤ pr
            · have hpr0' : decide (0 ≤ pr) = true := decide_eq_true hpr0
              rw [hpr0'] at ANS
              by_cases hpr3 : pr ≤ 3
              · have hpr3' : decide (pr ≤ 3) = true := decide_eq_true hpr3
                rw [hpr3'] at ANS
                cases bT with
                | false =>
                  have t1 : True := trivial
                  go_wp2_with (first | (have _t := t1; refine wpList_load_part 89 (.tmp 1) rfl rfl w.heap.size 0 rfl #[.int .i64 3, .string md, .int .i64 fr, .int .i64 num, .int .i64 den, .int .i64 pr, .string tx, .slice A na c] _ B1.out.rangeAt Tryz.underlying89 rfl (by kernel_rfl) ?_; go_frame; clear _t t1) | (go_at_call 86; refine VS.out.mono ?_; rintro e w2 ⟨rfl, k2⟩; have K1 := Lib.hid (K1.out.trans k2); have d5 := k2.cell d5 (fun e => e); have d7 := k2.cell d7 (fun e => e); clear k2))
                  go_ret
                  exact ⟨ret_bool (by rw [ANS.out]; simp), K0.out.trans K1.out⟩
                | true =>
                  by_cases hna : na = 2
                  · subst hna
                    have t1 : True := trivial
                    go_wp2_with (first | (have _t := t1; refine wpList_load_part 89 (.tmp 1) rfl rfl w.heap.size 0 rfl #[.int .i64 3, .string md, .int .i64 fr, .int .i64 num, .int .i64 den, .int .i64 pr, .string tx, .slice A na c] _ B1.out.rangeAt Tryz.underlying89 rfl (by kernel_rfl) ?_; go_frame; clear _t t1) | (go_at_call 86; refine VS.out.mono ?_; rintro e w2 ⟨rfl, k2⟩; have K1 := Lib.hid (K1.out.trans k2); have d5 := k2.cell d5 (fun e => e); have d7 := k2.cell d7 (fun e => e); clear k2))
                    go_ret
                    exact ⟨ret_bool (by rw [ANS.out]; simp), K0.out.trans K1.out⟩
                  · have hna' : ((na : Int) == 2) = false := by rw [beq_eq_false_iff_ne]; omega
                    have hnd : decide (na = 2) = false := decide_eq_false hna
                    rw [hnd] at ANS
                    clear hna hnd
                    have t1 : True := trivial
                    go_wp2_with (first | (have _t := t1; refine wpList_load_part 89 (.tmp 1) rfl rfl w.heap.size 0 rfl #[.int .i64 3, .string md, .int .i64 fr, .int .i64 num, .int .i64 den, .int .i64 pr, .string tx, .slice A na c] _ B1.out.rangeAt Tryz.underlying89 rfl (by kernel_rfl) ?_; go_frame; clear _t t1) | (go_at_call 86; refine VS.out.mono ?_; rintro e w2 ⟨rfl, k2⟩; have K1 := Lib.hid (K1.out.trans k2); have d5 := k2.cell d5 (fun e => e); have d7 := k2.cell d7 (fun e => e); clear k2))
                    go_ret
                    exact ⟨ret_bool (by rw [ANS.out]; simp), K0.out.trans K1.out⟩
              · have hpr3' : decide (pr ≤ 3) = false := decide_eq_false hpr3
                rw [hpr3'] at ANS
                have t1 : True := trivial
                go_wp2_with (first | (have _t := t1; refine wpList_load_part 89 (.tmp 1) rfl rfl w.heap.size 0 rfl #[.int .i64 3, .string md, .int .i64 fr, .int .i64 num, .int .i64 den, .int .i64 pr, .string tx, .slice A na c] _ B1.out.rangeAt Tryz.underlying89 rfl (by kernel_rfl) ?_; go_frame; clear _t t1) | (go_at_call 86; refine VS.out.mono ?_; rintro e w2 ⟨rfl, k2⟩; have K1 := Lib.hid (K1.out.trans k2); have d5 := k2.cell d5 (fun e => e); have d7 := k2.cell d7 (fun e => e); clear k2))
                go_ret
                exact ⟨ret_bool (by rw [ANS.out]; simp), K0.out.trans K1.out⟩
            · have hpr0' : decide (0 ≤ pr) = false := decide_eq_false hpr0
              rw [hpr0'] at ANS
              have t1 : True := trivial
              go_wp2_with (first | (have _t := t1; refine wpList_load_part 89 (.tmp 1) rfl rfl w.heap.size 0 rfl #[.int .i64 3, .string md, .int .i64 fr, .int .i64 num, .int .i64 den, .int .i64 pr, .string tx, .slice A na c] _ B1.out.rangeAt Tryz.underlying89 rfl (by kernel_rfl) ?_; go_frame; clear _t t1) | (go_at_call 86; refine VS.out.mono ?_; rintro e w2 ⟨rfl, k2⟩; have K1 := Lib.hid (K1.out.trans k2); have d5 := k2.cell d5 (fun e => e); have d7 := k2.cell d7 (fun e => e); clear k2))
              go_ret
              exact ⟨ret_bool (by rw [ANS.out]; simp), K0.out.trans K1.out⟩

set_option maxRecDepth 100000 in
set_option maxHeartbeats 1000000 in
theorem vfields4 (md : ByteArray) (fr num den pr : Int) (tx : ByteArray) (xs : List Ex) (A : Option Addr) (na c : Nat) (w : World) : Calls Tryz.prog 60 #[.agg #[.int .i64 4, .string md, .int .i64 fr, .int .i64 num, .int .i64 den, .int .i64 pr, .string tx, .slice A na c]] w fun e w' => e = .returned (.bool (fOk (.mk 4 md fr num den pr tx xs) na)) ∧ Keep none_ w w' := by
  obtain ⟨W0, hW0⟩ : ∃ W0, W0 = w.alloc (.cells #[.int .i64 4, .string md, .int .i64 fr, .int .i64 num, .int .i64 den, .int .i64 pr, .string tx, .slice A na c] 89) := ⟨_, rfl⟩
  have k0 : Keep none_ w W0 := hW0 ▸ (Keep.refl _ _).alloc _
  have b0 : Blk W0 w.heap.size 89 #[.int .i64 4, .string md, .int .i64 fr, .int .i64 num, .int .i64 den, .int .i64 pr, .string tx, .slice A na c] := hW0 ▸ Blk.new _ _ _
  have d0 := b0.cell 0
  have d1 := b0.cell 1
  have d2 := b0.cell 2
  have d3 := b0.cell 3
  have d4 := b0.cell 4
  have d5 := b0.cell 5
  have d6 := b0.cell 6
  have d7 := b0.cell 7
  simp only [List.getElem?_toArray, List.getElem?_cons_zero, List.getElem?_cons_succ] at d0 d1 d2 d3 d4 d5 d6 d7
  have B0 := Lib.hid b0
  have K0 := Lib.hid k0
  clear b0 k0
  obtain ⟨bS, hbS⟩ : ∃ b, b = noSrc md fr := ⟨_, rfl⟩
  obtain ⟨bH, hbH⟩ : ∃ b, b = noShr num den := ⟨_, rfl⟩
  obtain ⟨bP, hbP⟩ : ∃ b, b = noPar pr := ⟨_, rfl⟩
  obtain ⟨bT, hbT⟩ : ∃ b, b = noTxt tx := ⟨_, rfl⟩
  have ANS := Lib.hid (show fOk (.mk 4 md fr num den pr tx xs) na = (bS && bH && decide (0 ≤ pr) && decide (pr ≤ 255) && bT && decide (na = 2)) by simp only [hbS, hbH, hbT]; rfl)
  have HbS := Lib.hid hbS
  have HbH := Lib.hid hbH
  have HbP := Lib.hid hbP
  have HbT := Lib.hid hbT
  clear hbS hbH hbP hbT
  go_enter Tryz.func60, Tryz.ntmps60
  go_upto_region 1 with (fail)
  rw [← hW0]
  clear hW0
  go_cut [3] (fun x wx => x = .bool bS ∧ W0 = wx)
  case first =>
    cases hs : strEq md ⟨#[]⟩ with
    | false =>
      obtain ⟨n1, n2⟩ := empty_no hs
      have Q := Lib.hid (show bS = false by rw [HbS.out, noSrc, hs]; rfl)
      clear hs
      go_wp2
      go_meet
      exact ⟨by rw [Q.out], rfl⟩
    | true =>
      have q := strEq_iff.1 hs
      rw [q] at d1
      by_cases hf : fr = 0
      · have Q := Lib.hid (show bS = true by rw [HbS.out, noSrc, hs, hf]; rfl)
        rw [hf] at d2
        clear hs q hf
        go_wp2
        go_meet
        exact ⟨by rw [Q.out], rfl⟩
      · have hf' : (fr == 0) = false := beq_eq_false_iff_ne.2 hf
        have Q := Lib.hid (show bS = false by rw [HbS.out, noSrc, hs, decide_eq_false hf]; rfl)
        clear hs q hf
        go_wp2
        go_meet
        exact ⟨by rw [Q.out], rfl⟩
  case rest =>
    obtain ⟨rfl, rfl⟩ := hcut
    go_upto_region 2 with (fail)
    go_cut [4] (fun x wx => x = .bool bH ∧ W0 = wx)
    case first =>
      by_cases hn : num = 0
      · by_cases hd : den = 0
        · have Q := Lib.hid (show bH = true by rw [HbH.out, noShr, hn, hd]; rfl)
          rw [hn] at d3
          rw [hd] at d4
          clear hn hd
          go_wp2
          go_meet
          exact ⟨by rw [Q.out], rfl⟩
        · have hd' : (den == 0) = false := beq_eq_false_iff_ne.2 hd
          have Q := Lib.hid (show bH = false by rw [HbH.out, noShr, hn, decide_eq_false hd]; rfl)
          rw [hn] at d3
          clear hn hd
          go_wp2
          go_meet
          exact ⟨by rw [Q.out], rfl⟩
      · have hn' : (num == 0) = false := beq_eq_false_iff_ne.2 hn
        have Q := Lib.hid (show bH = false by rw [HbH.out, noShr, decide_eq_false hn]; rfl)
        clear hn
        go_wp2
        go_meet
        exact ⟨by rw [Q.out], rfl⟩
    case rest =>
      obtain ⟨rfl, rfl⟩ := hcut
      go_upto_region 3 with (fail)
      go_cut [5, 6] (fun x y wx => x = .bool bP ∧ y = .bool bT ∧ Keep none_ W0 wx)
      case first =>
        have KD := Lib.hid ((Keep.refl none_ W0).drew)
        by_cases hp : pr = 0
        · have Q := Lib.hid (show bP = true by rw [HbP.out, noPar, hp]; rfl)
          rw [hp] at d5
          clear hp
          cases hs : strEq tx ⟨#[]⟩ with
          | false =>
            obtain ⟨n1, n2⟩ := empty_no hs
            have Q2 := Lib.hid (show bT = false by rw [HbT.out, noTxt, hs])
            clear hs
            have gd := still_good (W0).drew
            have ne := still_some (W0).drew
            have hx := still_at (W0).drew
            refine wp_region_calm (stillCalm (W0).drew) [0, 1, 2, 3, 4, 5, 6, 7] [] 169 (by kernel_rfl) (by kernel_rfl) rfl gd rfl ?_
            simp only [pairs, List.filterMap_cons, List.filterMap_nil, List.getElem?_toArray, List.getElem?_cons_succ, List.getElem?_cons_zero, Option.map_some]
            repeat (refine Calm.walk_quiet ne rfl rfl rfl (fun K hK => ?_); go_big_quiet_op; refine hK _ ?_; clear hK K)
            intro w' hR _
            obtain rfl : w' = (W0).drew := hR.symm
            simp only [pickOps, List.filterMap_nil]
            clear gd ne hx hR
            go_wp2
            go_meet
            exact ⟨by rw [Q.out], by rw [Q2.out], KD.out⟩
          | true =>
            have q := strEq_iff.1 hs
            have Q2 := Lib.hid (show bT = true by rw [HbT.out, noTxt, hs])
            rw [q] at d6
            clear hs q
            have gd := still_good (W0).drew
            have ne := still_some (W0).drew
            have hx := still_at (W0).drew
            refine wp_region_calm (stillCalm (W0).drew) [0, 1, 2, 3, 4, 5, 6, 7] [] 169 (by kernel_rfl) (by kernel_rfl) rfl gd rfl ?_
            simp only [pairs, List.filterMap_cons, List.filterMap_nil, List.getElem?_toArray, List.getElem?_cons_succ, List.getElem?_cons_zero, Option.map_some]
            repeat (refine Calm.walk_quiet ne rfl rfl rfl (fun K hK => ?_); go_big_quiet_op; refine hK _ ?_; clear hK K)
            intro w' hR _
            obtain rfl : w' = (W0).drew := hR.symm
            simp only [pickOps, List.filterMap_nil]
            clear gd ne hx hR
            go_wp2
            go_meet
            exact ⟨by rw [Q.out], by rw [Q2.out], KD.out⟩
        · have hp' : (pr == 0) = false := beq_eq_false_iff_ne.2 hp
          have Q := Lib.hid (show bP = false by rw [HbP.out, noPar, decide_eq_false hp])
          clear hp
          cases hs : strEq tx ⟨#[]⟩ with
          | false =>
            obtain ⟨n1, n2⟩ := empty_no hs
            have Q2 := Lib.hid (show bT = false by rw [HbT.out, noTxt, hs])
            clear hs
            have gd := still_good (W0).drew
            have ne := still_some (W0).drew
            have hx := still_at (W0).drew
            refine wp_region_calm (stillCalm (W0).drew) [0, 1, 2, 3, 4, 5, 6, 7] [] 169 (by kernel_rfl) (by kernel_rfl) rfl gd rfl ?_
            simp only [pairs, List.filterMap_cons, List.filterMap_nil, List.getElem?_toArray, List.getElem?_cons_succ, List.getElem?_cons_zero, Option.map_some]
            repeat (refine Calm.walk_quiet ne rfl rfl rfl (fun K hK => ?_); go_big_quiet_op; refine hK _ ?_; clear hK K)
            intro w' hR _
            obtain rfl : w' = (W0).drew := hR.symm
            simp only [pickOps, List.filterMap_nil]
            clear gd ne hx hR
            go_wp2
            go_meet
            exact ⟨by rw [Q.out], by rw [Q2.out], KD.out⟩
          | true =>
            have q := strEq_iff.1 hs
            have Q2 := Lib.hid (show bT = true by rw [HbT.out, noTxt, hs])
            rw [q] at d6
            clear hs q
            have gd := still_good (W0).drew
            have ne := still_some (W0).drew
            have hx := still_at (W0).drew
            refine wp_region_calm (stillCalm (W0).drew) [0, 1, 2, 3, 4, 5, 6, 7] [] 169 (by kernel_rfl) (by kernel_rfl) rfl gd rfl ?_
            simp only [pairs, List.filterMap_cons, List.filterMap_nil, List.getElem?_toArray, List.getElem?_cons_succ, List.getElem?_cons_zero, Option.map_some]
            repeat (refine Calm.walk_quiet ne rfl rfl rfl (fun K hK => ?_); go_big_quiet_op; refine hK _ ?_; clear hK K)
            intro w' hR _
            obtain rfl : w' = (W0).drew := hR.symm
            simp only [pickOps, List.filterMap_nil]
            clear gd ne hx hR
            go_wp2
            go_meet
            exact ⟨by rw [Q.out], by rw [Q2.out], KD.out⟩
      case rest =>
        obtain ⟨rfl, rfl, hk1⟩ := hcut
        have K1 := Lib.hid hk1
        have d0 := hk1.cell d0 (fun e => e)
        have d1 := hk1.cell d1 (fun e => e)
        have d2 := hk1.cell d2 (fun e => e)
        have d3 := hk1.cell d3 (fun e => e)
        have d4 := hk1.cell d4 (fun e => e)
        have d5 := hk1.cell d5 (fun e => e)
        have d6 := hk1.cell d6 (fun e => e)
        have d7 := hk1.cell d7 (fun e => e)
        have B1 := Lib.hid (B0.out.keep hk1 (fun e => e))
        clear HbS HbH HbP HbT hk1
        cases bS with
        | false =>
          go_wp2
          go_ret
          exact ⟨ret_bool (by rw [ANS.out]; simp), K0.out.trans K1.out⟩
        | true =>
          cases bH with
          | false =>
            go_wp2
            go_ret
            exact ⟨ret_bool (by rw [ANS.out]; simp), K0.out.trans K1.out⟩
          | true =>
            by_cases hpr0 : 0 ≤ pr
            · have hpr0' : decide (0 ≤ pr) = true := decide_eq_true hpr0
              rw [hpr0'] at ANS
              by_cases hpr255 : pr ≤ 255
              · have hpr255' : decide (pr ≤ 255) = true := decide_eq_true hpr255
                rw [hpr255'] at ANS
                cases bT with
                | false =>
                  go_wp2
                  go_ret
                  exact ⟨ret_bool (by rw [ANS.out]; simp), K0.out.trans K1.out⟩
                | true =>
                  by_cases hna : na = 2
                  · subst hna
                    go_wp2
                    go_ret
                    exact ⟨ret_bool (by rw [ANS.out]; simp), K0.out.trans K1.out⟩
                  · have hna' : ((na : Int) == 2) = false := by rw [beq_eq_false_iff_ne]; omega
                    have hnd : decide (na = 2) = false := decide_eq_false hna
                    rw [hnd] at ANS
                    clear hna hnd
                    go_wp2
                    go_ret
                    exact ⟨ret_bool (by rw [ANS.out]; simp), K0.out.trans K1.out⟩
              · have hpr255' : decide (pr ≤ 255) = false := decide_eq_false hpr255
                rw [hpr255'] at ANS
                go_wp2
                go_ret
                exact ⟨ret_bool (by rw [ANS.out]; simp), K0.out.trans K1.out⟩
            · have hpr0' : decide (0 ≤ pr) = false := decide_eq_false hpr0
              rw [hpr0'] at ANS
              go_wp2
              go_ret
              exact ⟨ret_bool (by rw [ANS.out]; simp), K0.out.trans K1.out⟩

set_option maxRecDepth 100000 in
set_option maxHeartbeats 1000000 in
theorem vfields5 (md : ByteArray) (fr num den pr : Int) (tx : ByteArray) (xs : List Ex) (A : Option Addr) (na c : Nat) (w : World) (hz : Szd tx) : Calls Tryz.prog 60 #[.agg #[.int .i64 5, .string md, .int .i64 fr, .int .i64 num, .int .i64 den, .int .i64 pr, .string tx, .slice A na c]] w fun e w' => e = .returned (.bool (fOk (.mk 5 md fr num den pr tx xs) na)) ∧ Keep none_ w w' := by
  obtain ⟨W0, hW0⟩ : ∃ W0, W0 = w.alloc (.cells #[.int .i64 5, .string md, .int .i64 fr, .int .i64 num, .int .i64 den, .int .i64 pr, .string tx, .slice A na c] 89) := ⟨_, rfl⟩
  have k0 : Keep none_ w W0 := hW0 ▸ (Keep.refl _ _).alloc _
  have b0 : Blk W0 w.heap.size 89 #[.int .i64 5, .string md, .int .i64 fr, .int .i64 num, .int .i64 den, .int .i64 pr, .string tx, .slice A na c] := hW0 ▸ Blk.new _ _ _
  have d0 := b0.cell 0
  have d1 := b0.cell 1
  have d2 := b0.cell 2
  have d3 := b0.cell 3
  have d4 := b0.cell 4
  have d5 := b0.cell 5
  have d6 := b0.cell 6
  have d7 := b0.cell 7
  simp only [List.getElem?_toArray, List.getElem?_cons_zero, List.getElem?_cons_succ] at d0 d1 d2 d3 d4 d5 d6 d7
  have B0 := Lib.hid b0
  have K0 := Lib.hid k0
  clear b0 k0
  obtain ⟨bS, hbS⟩ : ∃ b, b = noSrc md fr := ⟨_, rfl⟩
  obtain ⟨bH, hbH⟩ : ∃ b, b = noShr num den := ⟨_, rfl⟩
  obtain ⟨bP, hbP⟩ : ∃ b, b = noPar pr := ⟨_, rfl⟩
  obtain ⟨bT, hbT⟩ : ∃ b, b = noTxt tx := ⟨_, rfl⟩
  have ANS := Lib.hid (show fOk (.mk 5 md fr num den pr tx xs) na = (bS && bH && bP && textOk tx && decide (na = 1)) by simp only [hbS, hbH, hbP]; rfl)
  have HbS := Lib.hid hbS
  have HbH := Lib.hid hbH
  have HbP := Lib.hid hbP
  have HbT := Lib.hid hbT
  clear hbS hbH hbP hbT
  go_enter Tryz.func60, Tryz.ntmps60
  go_upto_region 1 with (fail)
  rw [← hW0]
  clear hW0
  go_cut [3] (fun x wx => x = .bool bS ∧ W0 = wx)
  case first =>
    cases hs : strEq md ⟨#[]⟩ with
    | false =>
      obtain ⟨n1, n2⟩ := empty_no hs
      have Q := Lib.hid (show bS = false by rw [HbS.out, noSrc, hs]; rfl)
      clear hs
      go_wp2
      go_meet
      exact ⟨by rw [Q.out], rfl⟩
    | true =>
      have q := strEq_iff.1 hs
      rw [q] at d1
      by_cases hf : fr = 0
      · have Q := Lib.hid (show bS = true by rw [HbS.out, noSrc, hs, hf]; rfl)
        rw [hf] at d2
        clear hs q hf
        go_wp2
        go_meet
        exact ⟨by rw [Q.out], rfl⟩
      · have hf' : (fr == 0) = false := beq_eq_false_iff_ne.2 hf
        have Q := Lib.hid (show bS = false by rw [HbS.out, noSrc, hs, decide_eq_false hf]; rfl)
        clear hs q hf
        go_wp2
        go_meet
        exact ⟨by rw [Q.out], rfl⟩
  case rest =>
    obtain ⟨rfl, rfl⟩ := hcut
    go_upto_region 2 with (fail)
    go_cut [4] (fun x wx => x = .bool bH ∧ W0 = wx)
    case first =>
      by_cases hn : num = 0
      · by_cases hd : den = 0
        · have Q := Lib.hid (show bH = true by rw [HbH.out, noShr, hn, hd]; rfl)
          rw [hn] at d3
          rw [hd] at d4
          clear hn hd
          go_wp2
          go_meet
          exact ⟨by rw [Q.out], rfl⟩
        · have hd' : (den == 0) = false := beq_eq_false_iff_ne.2 hd
          have Q := Lib.hid (show bH = false by rw [HbH.out, noShr, hn, decide_eq_false hd]; rfl)
          rw [hn] at d3
          clear hn hd
          go_wp2
          go_meet
          exact ⟨by rw [Q.out], rfl⟩
      · have hn' : (num == 0) = false := beq_eq_false_iff_ne.2 hn
        have Q := Lib.hid (show bH = false by rw [HbH.out, noShr, decide_eq_false hn]; rfl)
        clear hn
        go_wp2
        go_meet
        exact ⟨by rw [Q.out], rfl⟩
    case rest =>
      obtain ⟨rfl, rfl⟩ := hcut
      go_upto_region 3 with (fail)
      go_cut [5, 6] (fun x y wx => x = .bool bP ∧ y = .bool bT ∧ Keep none_ W0 wx)
      case first =>
        have KD := Lib.hid ((Keep.refl none_ W0).drew)
        by_cases hp : pr = 0
        · have Q := Lib.hid (show bP = true by rw [HbP.out, noPar, hp]; rfl)
          rw [hp] at d5
          clear hp
          cases hs : strEq tx ⟨#[]⟩ with
          | false =>
            obtain ⟨n1, n2⟩ := empty_no hs
            have Q2 := Lib.hid (show bT = false by rw [HbT.out, noTxt, hs])
            clear hs
            have gd := still_good (W0).drew
            have ne := still_some (W0).drew
            have hx := still_at (W0).drew
            refine wp_region_calm (stillCalm (W0).drew) [0, 1, 2, 3, 4, 5, 6, 7] [] 169 (by kernel_rfl) (by kernel_rfl) rfl gd rfl ?_
            simp only [pairs, List.filterMap_cons, List.filterMap_nil, List.getElem?_toArray, List.getElem?_cons_succ, List.getElem?_cons_zero, Option.map_some]
            repeat (refine Calm.walk_quiet ne rfl rfl rfl (fun K hK => ?_); go_big_quiet_op; refine hK _ ?_; clear hK K)
            intro w' hR _
            obtain rfl : w' = (W0).drew := hR.symm
            simp only [pickOps, List.filterMap_nil]
            clear gd ne hx hR
            go_wp2
            go_meet
            exact ⟨by rw [Q.out], by rw [Q2.out], KD.out⟩
          | true =>
            have q := strEq_iff.1 hs
            have Q2 := Lib.hid (show bT = true by rw [HbT.out, noTxt, hs])
            rw [q] at d6
            clear hs q
            have gd := still_good (W0).drew
            have ne := still_some (W0).drew
            have hx := still_at (W0).drew
            refine wp_region_calm (stillCalm (W0).drew) [0, 1, 2, 3, 4, 5, 6, 7] [] 169 (by kernel_rfl) (by kernel_rfl) rfl gd rfl ?_
            simp only [pairs, List.filterMap_cons, List.filterMap_nil, List.getElem?_toArray, List.getElem?_cons_succ, List.getElem?_cons_zero, Option.map_some]
            repeat (refine Calm.walk_quiet ne rfl rfl rfl (fun K hK => ?_); go_big_quiet_op; refine hK _ ?_; clear hK K)
            intro w' hR _
            obtain rfl : w' = (W0).drew := hR.symm
            simp only [pickOps, List.filterMap_nil]
            clear gd ne hx hR
            go_wp2
            go_meet
            exact ⟨by rw [Q.out], by rw [Q2.out], KD.out⟩
        · have hp' : (pr == 0) = false := beq_eq_false_iff_ne.2 hp
          have Q := Lib.hid (show bP = false by rw [HbP.out, noPar, decide_eq_false hp])
          clear hp
          cases hs : strEq tx ⟨#[]⟩ with
          | false =>
            obtain ⟨n1, n2⟩ := empty_no hs
            have Q2 := Lib.hid (show bT = false by rw [HbT.out, noTxt, hs])
            clear hs
            have gd := still_good (W0).drew
            have ne := still_some (W0).drew
            have hx := still_at (W0).drew
            refine wp_region_calm (stillCalm (W0).drew) [0, 1, 2, 3, 4, 5, 6, 7] [] 169 (by kernel_rfl) (by kernel_rfl) rfl gd rfl ?_
            simp only [pairs, List.filterMap_cons, List.filterMap_nil, List.getElem?_toArray, List.getElem?_cons_succ, List.getElem?_cons_zero, Option.map_some]
            repeat (refine Calm.walk_quiet ne rfl rfl rfl (fun K hK => ?_); go_big_quiet_op; refine hK _ ?_; clear hK K)
            intro w' hR _
            obtain rfl : w' = (W0).drew := hR.symm
            simp only [pickOps, List.filterMap_nil]
            clear gd ne hx hR
            go_wp2
            go_meet
            exact ⟨by rw [Q.out], by rw [Q2.out], KD.out⟩
          | true =>
            have q := strEq_iff.1 hs
            have Q2 := Lib.hid (show bT = true by rw [HbT.out, noTxt, hs])
            rw [q] at d6
            clear hs q
            have gd := still_good (W0).drew
            have ne := still_some (W0).drew
            have hx := still_at (W0).drew
            refine wp_region_calm (stillCalm (W0).drew) [0, 1, 2, 3, 4, 5, 6, 7] [] 169 (by kernel_rfl) (by kernel_rfl) rfl gd rfl ?_
            simp only [pairs, List.filterMap_cons, List.filterMap_nil, List.getElem?_toArray, List.getElem?_cons_succ, List.getElem?_cons_zero, Option.map_some]
            repeat (refine Calm.walk_quiet ne rfl rfl rfl (fun K hK => ?_); go_big_quiet_op; refine hK _ ?_; clear hK K)
            intro w' hR _
            obtain rfl : w' = (W0).drew := hR.symm
            simp only [pickOps, List.filterMap_nil]
            clear gd ne hx hR
            go_wp2
            go_meet
            exact ⟨by rw [Q.out], by rw [Q2.out], KD.out⟩
      case rest =>
        obtain ⟨rfl, rfl, hk1⟩ := hcut
        have K1 := Lib.hid hk1
        have d0 := hk1.cell d0 (fun e => e)
        have d1 := hk1.cell d1 (fun e => e)
        have d2 := hk1.cell d2 (fun e => e)
        have d3 := hk1.cell d3 (fun e => e)
        have d4 := hk1.cell d4 (fun e => e)
        have d5 := hk1.cell d5 (fun e => e)
        have d6 := hk1.cell d6 (fun e => e)
        have d7 := hk1.cell d7 (fun e => e)
        have B1 := Lib.hid (B0.out.keep hk1 (fun e => e))
        clear HbS HbH HbP HbT hk1
        have TT := Lib.hid (vtext_any tx hz wc)
        cases bS with
        | false =>
          go_wp2_with (first | (go_at_call 87; refine TT.out.mono ?_; rintro e w' ⟨rfl, rfl⟩))
          go_ret
          exact ⟨ret_bool (by rw [ANS.out]; simp), K0.out.trans K1.out⟩
        | true =>
          cases bH with
          | false =>
            go_wp2_with (first | (go_at_call 87; refine TT.out.mono ?_; rintro e w' ⟨rfl, rfl⟩))
            go_ret
            exact ⟨ret_bool (by rw [ANS.out]; simp), K0.out.trans K1.out⟩
          | true =>
            cases bP with
            | false =>
              go_wp2_with (first | (go_at_call 87; refine TT.out.mono ?_; rintro e w' ⟨rfl, rfl⟩))
              go_ret
              exact ⟨ret_bool (by rw [ANS.out]; simp), K0.out.trans K1.out⟩
            | true =>
              cases htext : textOk tx with
              | false =>
                rw [htext] at TT ANS
                clear htext
                go_wp2_with (first | (go_at_call 87; refine TT.out.mono ?_; rintro e w' ⟨rfl, rfl⟩))
                go_ret
                exact ⟨ret_bool (by rw [ANS.out]; simp), K0.out.trans K1.out⟩
              | true =>
                rw [htext] at TT ANS
                clear htext
                by_cases hna : na = 1
                · subst hna
                  go_wp2_with (first | (go_at_call 87; refine TT.out.mono ?_; rintro e w' ⟨rfl, rfl⟩))
                  go_ret
                  exact ⟨ret_bool (by rw [ANS.out]; simp), K0.out.trans K1.out⟩
                · have hna' : ((na : Int) == 1) = false := by rw [beq_eq_false_iff_ne]; omega
                  have hnd : decide (na = 1) = false := decide_eq_false hna
                  rw [hnd] at ANS
                  clear hna hnd
                  go_wp2_with (first | (go_at_call 87; refine TT.out.mono ?_; rintro e w' ⟨rfl, rfl⟩))
                  go_ret
                  exact ⟨ret_bool (by rw [ANS.out]; simp), K0.out.trans K1.out⟩

set_option maxRecDepth 100000 in
set_option maxHeartbeats 1000000 in
theorem vfieldso (op : Int) (md : ByteArray) (fr num den pr : Int) (tx : ByteArray) (xs : List Ex) (A : Option Addr) (na c : Nat) (w : World) (h0 : op ≠ 0) (h1 : op ≠ 1) (h2 : op ≠ 2) (h3 : op ≠ 3) (h4 : op ≠ 4) (h5 : op ≠ 5) : Calls Tryz.prog 60 #[.agg #[.int .i64 op, .string md, .int .i64 fr, .int .i64 num, .int .i64 den, .int .i64 pr, .string tx, .slice A na c]] w fun e w' => e = .returned (.bool (fOk (.mk op md fr num den pr tx xs) na)) ∧ Keep none_ w w' := by
  obtain ⟨W0, hW0⟩ : ∃ W0, W0 = w.alloc (.cells #[.int .i64 op, .string md, .int .i64 fr, .int .i64 num, .int .i64 den, .int .i64 pr, .string tx, .slice A na c] 89) := ⟨_, rfl⟩
  have k0 : Keep none_ w W0 := hW0 ▸ (Keep.refl _ _).alloc _
  have b0 : Blk W0 w.heap.size 89 #[.int .i64 op, .string md, .int .i64 fr, .int .i64 num, .int .i64 den, .int .i64 pr, .string tx, .slice A na c] := hW0 ▸ Blk.new _ _ _
  have d0 := b0.cell 0
  have d1 := b0.cell 1
  have d2 := b0.cell 2
  have d3 := b0.cell 3
  have d4 := b0.cell 4
  have d5 := b0.cell 5
  have d6 := b0.cell 6
  have d7 := b0.cell 7
  simp only [List.getElem?_toArray, List.getElem?_cons_zero, List.getElem?_cons_succ] at d0 d1 d2 d3 d4 d5 d6 d7
  have B0 := Lib.hid b0
  have K0 := Lib.hid k0
  clear b0 k0
  obtain ⟨bS, hbS⟩ : ∃ b, b = noSrc md fr := ⟨_, rfl⟩
  obtain ⟨bH, hbH⟩ : ∃ b, b = noShr num den := ⟨_, rfl⟩
  obtain ⟨bP, hbP⟩ : ∃ b, b = noPar pr := ⟨_, rfl⟩
  obtain ⟨bT, hbT⟩ : ∃ b, b = noTxt tx := ⟨_, rfl⟩
  have ANS := Lib.hid (show fOk (.mk op md fr num den pr tx xs) na = false by unfold fOk; exact (if_neg h0).trans ((if_neg h1).trans ((if_neg h2).trans ((if_neg h3).trans ((if_neg h4).trans (if_neg h5))))))
  have g0 : (op == 0) = false := beq_eq_false_iff_ne.2 h0
  have g1 : (op == 1) = false := beq_eq_false_iff_ne.2 h1
  have g2 : (op == 2) = false := beq_eq_false_iff_ne.2 h2
  have g3 : (op == 3) = false := beq_eq_false_iff_ne.2 h3
  have g4 : (op == 4) = false := beq_eq_false_iff_ne.2 h4
  have g5 : (op == 5) = false := beq_eq_false_iff_ne.2 h5
  have HbS := Lib.hid hbS
  have HbH := Lib.hid hbH
  have HbP := Lib.hid hbP
  have HbT := Lib.hid hbT
  clear hbS hbH hbP hbT
  go_enter Tryz.func60, Tryz.ntmps60
  go_upto_region 1 with (fail)
  rw [← hW0]
  clear hW0
  go_cut [3] (fun x wx => x = .bool bS ∧ W0 = wx)
  case first =>
    cases hs : strEq md ⟨#[]⟩ with
    | false =>
      obtain ⟨n1, n2⟩ := empty_no hs
      have Q := Lib.hid (show bS = false by rw [HbS.out, noSrc, hs]; rfl)
      clear hs
      go_wp2
      go_meet
      exact ⟨by rw [Q.out], rfl⟩
    | true =>
      have q := strEq_iff.1 hs
      rw [q] at d1
      by_cases hf : fr = 0
      · have Q := Lib.hid (show bS = true by rw [HbS.out, noSrc, hs, hf]; rfl)
        rw [hf] at d2
        clear hs q hf
        go_wp2
        go_meet
        exact ⟨by rw [Q.out], rfl⟩
      · have hf' : (fr == 0) = false := beq_eq_false_iff_ne.2 hf
        have Q := Lib.hid (show bS = false by rw [HbS.out, noSrc, hs, decide_eq_false hf]; rfl)
        clear hs q hf
        go_wp2
        go_meet
        exact ⟨by rw [Q.out], rfl⟩
  case rest =>
    obtain ⟨rfl, rfl⟩ := hcut
    go_upto_region 2 with (fail)
    go_cut [4] (fun x wx => x = .bool bH ∧ W0 = wx)
    case first =>
      by_cases hn : num = 0
      · by_cases hd : den = 0
        · have Q := Lib.hid (show bH = true by rw [HbH.out, noShr, hn, hd]; rfl)
          rw [hn] at d3
          rw [hd] at d4
          clear hn hd
          go_wp2
          go_meet
          exact ⟨by rw [Q.out], rfl⟩
        · have hd' : (den == 0) = false := beq_eq_false_iff_ne.2 hd
          have Q := Lib.hid (show bH = false by rw [HbH.out, noShr, hn, decide_eq_false hd]; rfl)
          rw [hn] at d3
          clear hn hd
          go_wp2
          go_meet
          exact ⟨by rw [Q.out], rfl⟩
      · have hn' : (num == 0) = false := beq_eq_false_iff_ne.2 hn
        have Q := Lib.hid (show bH = false by rw [HbH.out, noShr, decide_eq_false hn]; rfl)
        clear hn
        go_wp2
        go_meet
        exact ⟨by rw [Q.out], rfl⟩
    case rest =>
      obtain ⟨rfl, rfl⟩ := hcut
      go_upto_region 3 with (fail)
      go_cut [5, 6] (fun x y wx => x = .bool bP ∧ y = .bool bT ∧ Keep none_ W0 wx)
      case first =>
        have KD := Lib.hid ((Keep.refl none_ W0).drew)
        by_cases hp : pr = 0
        · have Q := Lib.hid (show bP = true by rw [HbP.out, noPar, hp]; rfl)
          rw [hp] at d5
          clear hp
          cases hs : strEq tx ⟨#[]⟩ with
          | false =>
            obtain ⟨n1, n2⟩ := empty_no hs
            have Q2 := Lib.hid (show bT = false by rw [HbT.out, noTxt, hs])
            clear hs
            have gd := still_good (W0).drew
            have ne := still_some (W0).drew
            have hx := still_at (W0).drew
            refine wp_region_calm (stillCalm (W0).drew) [0, 1, 2, 3, 4, 5, 6, 7] [] 169 (by kernel_rfl) (by kernel_rfl) rfl gd rfl ?_
            simp only [pairs, List.filterMap_cons, List.filterMap_nil, List.getElem?_toArray, List.getElem?_cons_succ, List.getElem?_cons_zero, Option.map_some]
            repeat (refine Calm.walk_quiet ne rfl rfl rfl (fun K hK => ?_); go_big_quiet_op; refine hK _ ?_; clear hK K)
            intro w' hR _
            obtain rfl : w' = (W0).drew := hR.symm
            simp only [pickOps, List.filterMap_nil]
            clear gd ne hx hR
            go_wp2
            go_meet
            exact ⟨by rw [Q.out], by rw [Q2.out], KD.out⟩
          | true =>
            have q := strEq_iff.1 hs
            have Q2 := Lib.hid (show bT = true by rw [HbT.out, noTxt, hs])
            rw [q] at d6
            clear hs q
            have gd := still_good (W0).drew
            have ne := still_some (W0).drew
            have hx := still_at (W0).drew
            refine wp_region_calm (stillCalm (W0).drew) [0, 1, 2, 3, 4, 5, 6, 7] [] 169 (by kernel_rfl) (by kernel_rfl) rfl gd rfl ?_
            simp only [pairs, List.filterMap_cons, List.filterMap_nil, List.getElem?_toArray, List.getElem?_cons_succ, List.getElem?_cons_zero, Option.map_some]
            repeat (refine Calm.walk_quiet ne rfl rfl rfl (fun K hK => ?_); go_big_quiet_op; refine hK _ ?_; clear hK K)
            intro w' hR _
            obtain rfl : w' = (W0).drew := hR.symm
            simp only [pickOps, List.filterMap_nil]
            clear gd ne hx hR
            go_wp2
            go_meet
            exact ⟨by rw [Q.out], by rw [Q2.out], KD.out⟩
        · have hp' : (pr == 0) = false := beq_eq_false_iff_ne.2 hp
          have Q := Lib.hid (show bP = false by rw [HbP.out, noPar, decide_eq_false hp])
          clear hp
          cases hs : strEq tx ⟨#[]⟩ with
          | false =>
            obtain ⟨n1, n2⟩ := empty_no hs
            have Q2 := Lib.hid (show bT = false by rw [HbT.out, noTxt, hs])
            clear hs
            have gd := still_good (W0).drew
            have ne := still_some (W0).drew
            have hx := still_at (W0).drew
            refine wp_region_calm (stillCalm (W0).drew) [0, 1, 2, 3, 4, 5, 6, 7] [] 169 (by kernel_rfl) (by kernel_rfl) rfl gd rfl ?_
            simp only [pairs, List.filterMap_cons, List.filterMap_nil, List.getElem?_toArray, List.getElem?_cons_succ, List.getElem?_cons_zero, Option.map_some]
            repeat (refine Calm.walk_quiet ne rfl rfl rfl (fun K hK => ?_); go_big_quiet_op; refine hK _ ?_; clear hK K)
            intro w' hR _
            obtain rfl : w' = (W0).drew := hR.symm
            simp only [pickOps, List.filterMap_nil]
            clear gd ne hx hR
            go_wp2
            go_meet
            exact ⟨by rw [Q.out], by rw [Q2.out], KD.out⟩
          | true =>
            have q := strEq_iff.1 hs
            have Q2 := Lib.hid (show bT = true by rw [HbT.out, noTxt, hs])
            rw [q] at d6
            clear hs q
            have gd := still_good (W0).drew
            have ne := still_some (W0).drew
            have hx := still_at (W0).drew
            refine wp_region_calm (stillCalm (W0).drew) [0, 1, 2, 3, 4, 5, 6, 7] [] 169 (by kernel_rfl) (by kernel_rfl) rfl gd rfl ?_
            simp only [pairs, List.filterMap_cons, List.filterMap_nil, List.getElem?_toArray, List.getElem?_cons_succ, List.getElem?_cons_zero, Option.map_some]
            repeat (refine Calm.walk_quiet ne rfl rfl rfl (fun K hK => ?_); go_big_quiet_op; refine hK _ ?_; clear hK K)
            intro w' hR _
            obtain rfl : w' = (W0).drew := hR.symm
            simp only [pickOps, List.filterMap_nil]
            clear gd ne hx hR
            go_wp2
            go_meet
            exact ⟨by rw [Q.out], by rw [Q2.out], KD.out⟩
      case rest =>
        obtain ⟨rfl, rfl, hk1⟩ := hcut
        have K1 := Lib.hid hk1
        have d0 := hk1.cell d0 (fun e => e)
        have d1 := hk1.cell d1 (fun e => e)
        have d2 := hk1.cell d2 (fun e => e)
        have d3 := hk1.cell d3 (fun e => e)
        have d4 := hk1.cell d4 (fun e => e)
        have d5 := hk1.cell d5 (fun e => e)
        have d6 := hk1.cell d6 (fun e => e)
        have d7 := hk1.cell d7 (fun e => e)
        have B1 := Lib.hid (B0.out.keep hk1 (fun e => e))
        clear HbS HbH HbP HbT hk1
        go_wp2
        go_ret
        exact ⟨ret_bool (by rw [ANS.out]), K0.out.trans K1.out⟩

theorem vfields_any (x : Ex) (A : Option Addr) (na c : Nat) (w : World) (hz : Szd x.text) : Calls Tryz.prog 60 #[.agg #[.int .i64 x.op, .string x.media, .int .i64 x.frame, .int .i64 x.num, .int .i64 x.den, .int .i64 x.param, .string x.text, .slice A na c]] w fun e w' => e = .returned (.bool (fOk x na)) ∧ Keep none_ w w' := by
  obtain ⟨op, md, fr, num, den, pr, tx, xs⟩ := x
  simp only [Ex.op, Ex.media, Ex.frame, Ex.num, Ex.den, Ex.param, Ex.text] at hz ⊢
  by_cases h0 : op = 0
  · subst h0; exact vfields0 md fr num den pr tx xs A na c w
  by_cases h1 : op = 1
  · subst h1; exact vfields1 md fr num den pr tx xs A na c w
  by_cases h2 : op = 2
  · subst h2; exact vfields2 md fr num den pr tx xs A na c w
  by_cases h3 : op = 3
  · subst h3; exact vfields3 md fr num den pr tx xs A na c w
  by_cases h4 : op = 4
  · subst h4; exact vfields4 md fr num den pr tx xs A na c w
  by_cases h5 : op = 5
  · subst h5; exact vfields5 md fr num den pr tx xs A na c w hz
  exact vfieldso op md fr num den pr tx xs A na c w h0 h1 h2 h3 h4 h5
end Go.Proofs.YtnefbeplgfdkkaaGreatDoor
