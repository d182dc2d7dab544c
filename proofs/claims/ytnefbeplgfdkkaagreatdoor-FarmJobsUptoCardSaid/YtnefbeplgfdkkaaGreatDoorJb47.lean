/-
  cutroomref25.Valid. Written by gen_jr.py.
-/
import Derived.Test.YtnefbeplgfdkkaaGreatDoorJb34
import Derived.Test.YtnefbeplgfdkkaaGreatDoorJb46
namespace Go.Proofs.YtnefbeplgfdkkaaGreatDoor
open Go.RowKit

theorem fOk_r0 (md : ByteArray) (fr num den pr : Int) (tx : ByteArray) (xs : List Ex) (na : Nat) : fOk (.mk 0 md fr num den pr tx xs) na = (bareOk 0 md fr num den pr tx && decide (na = 0)) := by
  rw [Bool.eq_iff_iff]
  simp only [fOk, Ex.op, Ex.media, Ex.frame, Ex.num, Ex.den, Ex.param, Ex.text, bareOk, noPar]
  simp
  grind

theorem fOk_r1 (md : ByteArray) (fr num den pr : Int) (tx : ByteArray) (xs : List Ex) (na : Nat) : fOk (.mk 1 md fr num den pr tx xs) na = (nameOk md && decide (0 ≤ fr) && decide (fr ≤ 2147483646) && bareOk 1 md fr num den pr tx && decide (na = 0)) := by
  rw [Bool.eq_iff_iff]
  simp only [fOk, Ex.op, Ex.media, Ex.frame, Ex.num, Ex.den, Ex.param, Ex.text, bareOk, noPar]
  simp
  grind

theorem fOk_r2 (md : ByteArray) (fr num den pr : Int) (tx : ByteArray) (xs : List Ex) (na : Nat) : fOk (.mk 2 md fr num den pr tx xs) na = (shareOk num den && decide (0 ≤ pr) && decide (pr ≤ 3) && bareOk 2 md fr num den pr tx && decide (na = 2)) := by
  rw [Bool.eq_iff_iff]
  simp only [fOk, Ex.op, Ex.media, Ex.frame, Ex.num, Ex.den, Ex.param, Ex.text, bareOk, noPar]
  simp
  grind

theorem fOk_r3 (md : ByteArray) (fr num den pr : Int) (tx : ByteArray) (xs : List Ex) (na : Nat) : fOk (.mk 3 md fr num den pr tx xs) na = (shareOk num den && decide (0 ≤ pr) && decide (pr ≤ 3) && bareOk 3 md fr num den pr tx && decide (na = 2)) := by
  rw [Bool.eq_iff_iff]
  simp only [fOk, Ex.op, Ex.media, Ex.frame, Ex.num, Ex.den, Ex.param, Ex.text, bareOk, noPar]
  simp
  grind

theorem fOk_r4 (md : ByteArray) (fr num den pr : Int) (tx : ByteArray) (xs : List Ex) (na : Nat) : fOk (.mk 4 md fr num den pr tx xs) na = (decide (0 ≤ pr) && decide (pr ≤ 255) && bareOk 4 md fr num den pr tx && decide (na = 2)) := by
  rw [Bool.eq_iff_iff]
  simp only [fOk, Ex.op, Ex.media, Ex.frame, Ex.num, Ex.den, Ex.param, Ex.text, bareOk, noPar]
  simp
  grind

theorem fOk_r5 (md : ByteArray) (fr num den pr : Int) (tx : ByteArray) (xs : List Ex) (na : Nat) : fOk (.mk 5 md fr num den pr tx xs) na = (textOk tx && bareOk 5 md fr num den pr tx && decide (na = 1)) := by
  rw [Bool.eq_iff_iff]
  simp only [fOk, Ex.op, Ex.media, Ex.frame, Ex.num, Ex.den, Ex.param, Ex.text, bareOk, noPar]
  simp
  grind

set_option maxRecDepth 100000 in
set_option maxHeartbeats 1000000 in
theorem rex0 (d : Nat) (_IH : ∀ (x : Ex) (cs : Array Value) (S : Nat → Prop) (w : World), ExAt d w S cs.toList x → Calls Tryz.prog 36 #[.agg cs] w fun e w' => e = .returned (.bool (exOk x)) ∧ Keep none_ w w')
    (md : ByteArray) (fr num den pr : Int) (tx : ByteArray) (xs : List Ex) (A : Option Addr) (na c : Nat) (S : Nat → Prop) (w : World) (hm : Szd md) (ht : Szd tx) (ha : ExsAt d w S (.slice A na c) xs) :
    Calls Tryz.prog 36 #[.agg #[.int .i64 0, .string md, .int .i64 fr, .int .i64 num, .int .i64 den, .int .i64 pr, .string tx, .slice A na c]] w fun e w' => e = .returned (.bool (exOk (.mk 0 md fr num den pr tx xs))) ∧ Keep none_ w w' := by
  obtain ⟨hl, hc1, hc2⟩ := ElemsOf.facts ha
  unfold maxLen at hc2
  have ANS := Lib.hid (show exOk (.mk 0 md fr num den pr tx xs) = (bareOk 0 md fr num den pr tx && decide (na = 0) && xs.all exOk) by rw [exOk_eq, ← fOk_r0 md fr num den pr tx xs na, ← hl, exsOk_all]; rfl)
  obtain ⟨W0, hW0⟩ : ∃ W0, W0 = w.alloc (.cells #[.int .i64 0, .string md, .int .i64 fr, .int .i64 num, .int .i64 den, .int .i64 pr, .string tx, .slice A na c] 89) := ⟨_, rfl⟩
  have k0 : Keep none_ w W0 := hW0 ▸ (Keep.refl _ _).alloc _
  have b0 : Blk W0 w.heap.size 89 #[.int .i64 0, .string md, .int .i64 fr, .int .i64 num, .int .i64 den, .int .i64 pr, .string tx, .slice A na c] := hW0 ▸ Blk.new _ _ _
  have d0 := b0.cell 0
  have d1 := b0.cell 1
  have d2 := b0.cell 2
  have d3 := b0.cell 3
  have d4 := b0.cell 4
  have d5 := b0.cell 5
  have d6 := b0.cell 6
  have d7 := b0.cell 7
  simp only [List.getElem?_toArray, List.getElem?_cons_zero, List.getElem?_cons_succ] at d0 d1 d2 d3 d4 d5 d6 d7
  have B0 := Lib.hid b0
  have K0 := Lib.hid k0
  clear b0 k0
  have HA := Lib.hid (ExsAt.keep ha K0.out.weak)
  have NM := Lib.hid (vname_any md hm W0)
  have TT := Lib.hid (vline_any tx ht W0)
  have SH := Lib.hid (share_any (.mk 0 md fr num den pr tx xs) (.slice A na c) W0)
  simp only [Ex.op, Ex.media, Ex.frame, Ex.num, Ex.den, Ex.param, Ex.text] at SH
  have BA := Lib.hid (fun (wx : World) (_ : Keep none_ W0 wx) => bare_any 0 md fr num den pr tx A na c wx (by decide) (by decide))
  clear ha hm ht
  go_enter Tryz.func36, Tryz.ntmps36
  go_upto_region 1 with (fail)
  rw [← hW0]
  clear hW0
  cases hb : bareOk 0 md fr num den pr tx with
  | false =>
    rw [hb] at BA ANS
    clear hb
    have Q := Lib.hid (show exOk (.mk 0 md fr num den pr tx xs) = false by rw [ANS.out]; simp)
    have KZ := Lib.hid (Keep.refl none_ W0)
    have BR := Lib.hid (BA.out W0 KZ.out)
    have t2 : True := trivial
    go_wp2_with (first | (have _t := t2; refine wpList_load_part 89 (.tmp 1) rfl rfl w.heap.size 0 rfl #[.int .i64 0, .string md, .int .i64 fr, .int .i64 num, .int .i64 den, .int .i64 pr, .string tx, .slice A na c] _ B0.out.rangeAt Tryz.underlying89 rfl (by kernel_rfl) ?_; go_frame; clear _t t2) | (go_at_call 66; refine BR.out.mono ?_; rintro e w2 ⟨rfl, k2⟩; have B2 := Lib.hid (B0.out.keep k2 (fun e => e)); have c7 : w2.cell? ⟨w.heap.size, 7, none⟩ = some (.slice A na c) := B2.out.cell 7; have K2 := Lib.hid (KZ.out.trans k2); clear k2))
    go_ret
    exact ⟨ret_bool Q.out.symm, K0.out.trans K2.out⟩
  | true =>
    rw [hb] at BA ANS
    clear hb
    have KZ := Lib.hid (Keep.refl none_ W0)
    have BR := Lib.hid (BA.out W0 KZ.out)
    have t2 : True := trivial
    by_cases hna : na = 0
    · subst hna
      have AN2 := Lib.hid (show exOk (.mk 0 md fr num den pr tx xs) = xs.all exOk by rw [ANS.out]; simp)
      go_wp2_with (first | (have _t := t2; refine wpList_load_part 89 (.tmp 1) rfl rfl w.heap.size 0 rfl #[.int .i64 0, .string md, .int .i64 fr, .int .i64 num, .int .i64 den, .int .i64 pr, .string tx, .slice A 0 c] _ B0.out.rangeAt Tryz.underlying89 rfl (by kernel_rfl) ?_; go_frame; clear _t t2) | (go_at_call 66; refine BR.out.mono ?_; rintro e w2 ⟨rfl, k2⟩; have B2 := Lib.hid (B0.out.keep k2 (fun e => e)); have c7 : w2.cell? ⟨w.heap.size, 7, none⟩ = some (.slice A 0 c) := B2.out.cell 7; have K2 := Lib.hid (KZ.out.trans k2); clear k2))
      have HA2 := Lib.hid (HA.out.keep K2.out.weak)
      have KK := Lib.hid (K0.out.trans K2.out)
      go_loopw [4] (fun i wr => ∃ k : Nat, k ≤ 0 ∧ i = .int .i64 k ∧ (xs.take k).all exOk = true ∧ Keep none_ w2 wr) (fun i _ => 0 - (intOf i).toNat)
      case atStart => exact ⟨0, Nat.zero_le _, rfl, rfl, Keep.refl _ _⟩
      case round =>
        obtain ⟨k, hk, rfl, hall, hkr⟩ := hrel
        have HK := Lib.hid hkr
        have HAL := Lib.hid hall
        clear hall
        by_cases hlt : k < 0
        · exact absurd hlt (Nat.not_lt_zero _)
        · obtain rfl : k = 0 := by omega
          have Q := Lib.hid (show exOk (.mk 0 md fr num den pr tx xs) = true by rw [AN2.out]; have := HAL.out; rwa [List.take_of_length_le (by omega)] at this)
          clear hkr hlt
          go_wp2
          go_ret
          exact ⟨ret_bool Q.out.symm, KK.out.trans HK.out⟩
    · have hna' : ((na : Int) != 0) = true := by rw [bne_iff_ne]; omega
      have hnd : decide (na = 0) = false := decide_eq_false hna
      rw [hnd] at ANS
      have Q := Lib.hid (show exOk (.mk 0 md fr num den pr tx xs) = false by rw [ANS.out]; simp)
      clear hna hnd
      go_wp2_with (first | (have _t := t2; refine wpList_load_part 89 (.tmp 1) rfl rfl w.heap.size 0 rfl #[.int .i64 0, .string md, .int .i64 fr, .int .i64 num, .int .i64 den, .int .i64 pr, .string tx, .slice A na c] _ B0.out.rangeAt Tryz.underlying89 rfl (by kernel_rfl) ?_; go_frame; clear _t t2) | (go_at_call 66; refine BR.out.mono ?_; rintro e w2 ⟨rfl, k2⟩; have B2 := Lib.hid (B0.out.keep k2 (fun e => e)); have c7 : w2.cell? ⟨w.heap.size, 7, none⟩ = some (.slice A na c) := B2.out.cell 7; have K2 := Lib.hid (KZ.out.trans k2); clear k2))
      go_ret
      exact ⟨ret_bool Q.out.symm, K0.out.trans K2.out⟩

set_option maxRecDepth 100000 in
set_option maxHeartbeats 1000000 in
theorem rex1 (d : Nat) (_IH : ∀ (x : Ex) (cs : Array Value) (S : Nat → Prop) (w : World), ExAt d w S cs.toList x → Calls Tryz.prog 36 #[.agg cs] w fun e w' => e = .returned (.bool (exOk x)) ∧ Keep none_ w w')
    (md : ByteArray) (fr num den pr : Int) (tx : ByteArray) (xs : List Ex) (A : Option Addr) (na c : Nat) (S : Nat → Prop) (w : World) (hm : Szd md) (ht : Szd tx) (ha : ExsAt d w S (.slice A na c) xs) :
    Calls Tryz.prog 36 #[.agg #[.int .i64 1, .string md, .int .i64 fr, .int .i64 num, .int .i64 den, .int .i64 pr, .string tx, .slice A na c]] w fun e w' => e = .returned (.bool (exOk (.mk 1 md fr num den pr tx xs))) ∧ Keep none_ w w' := by
  obtain ⟨hl, hc1, hc2⟩ := ElemsOf.facts ha
  unfold maxLen at hc2
  have ANS := Lib.hid (show exOk (.mk 1 md fr num den pr tx xs) = (nameOk md && decide (0 ≤ fr) && decide (fr ≤ 2147483646) && bareOk 1 md fr num den pr tx && decide (na = 0) && xs.all exOk) by rw [exOk_eq, ← fOk_r1 md fr num den pr tx xs na, ← hl, exsOk_all]; rfl)
  obtain ⟨W0, hW0⟩ : ∃ W0, W0 = w.alloc (.cells #[.int .i64 1, .string md, .int .i64 fr, .int .i64 num, .int .i64 den, .int .i64 pr, .string tx, .slice A na c] 89) := ⟨_, rfl⟩
  have k0 : Keep none_ w W0 := hW0 ▸ (Keep.refl _ _).alloc _
  have b0 : Blk W0 w.heap.size 89 #[.int .i64 1, .string md, .int .i64 fr, .int .i64 num, .int .i64 den, .int .i64 pr, .string tx, .slice A na c] := hW0 ▸ Blk.new _ _ _
  have d0 := b0.cell 0
  have d1 := b0.cell 1
  have d2 := b0.cell 2
  have d3 := b0.cell 3
  have d4 := b0.cell 4
  have d5 := b0.cell 5
  have d6 := b0.cell 6
  have d7 := b0.cell 7
  simp only [List.getElem?_toArray, List.getElem?_cons_zero, List.getElem?_cons_succ] at d0 d1 d2 d3 d4 d5 d6 d7
  have B0 := Lib.hid b0
  have K0 := Lib.hid k0
  clear b0 k0
  have HA := Lib.hid (ExsAt.keep ha K0.out.weak)
  have NM := Lib.hid (vname_any md hm W0)
  have TT := Lib.hid (vline_any tx ht W0)
  have SH := Lib.hid (share_any (.mk 1 md fr num den pr tx xs) (.slice A na c) W0)
  simp only [Ex.op, Ex.media, Ex.frame, Ex.num, Ex.den, Ex.param, Ex.text] at SH
  have BA := Lib.hid (fun (wx : World) (_ : Keep none_ W0 wx) => bare_any 1 md fr num den pr tx A na c wx (by decide) (by decide))
  clear ha hm ht
  go_enter Tryz.func36, Tryz.ntmps36
  go_upto_region 1 with (fail)
  rw [← hW0]
  clear hW0
  cases hname : nameOk md with
  | false =>
    rw [hname] at NM ANS
    clear hname
    have Q := Lib.hid (show exOk (.mk 1 md fr num den pr tx xs) = false by rw [ANS.out]; simp)
    go_wp2_with (first | (go_at_call 45; refine NM.out.mono ?_; rintro e w' ⟨rfl, rfl⟩))
    go_ret
    exact ⟨ret_bool Q.out.symm, K0.out⟩
  | true =>
    rw [hname] at NM ANS
    clear hname
    by_cases hfr0 : 0 ≤ fr
    · rw [decide_eq_true hfr0] at ANS
      have hfr0' : decide (fr < 0) = false := decide_eq_false (by omega)
      by_cases hfrm : fr ≤ 2147483646
      · rw [decide_eq_true hfrm] at ANS
        have hfrm' : decide (2147483647 ≤ fr) = false := decide_eq_false (by omega)
        cases hb : bareOk 1 md fr num den pr tx with
        | false =>
          rw [hb] at BA ANS
          clear hb
          have Q := Lib.hid (show exOk (.mk 1 md fr num den pr tx xs) = false by rw [ANS.out]; simp)
          have KZ := Lib.hid (Keep.refl none_ W0)
          have BR := Lib.hid (BA.out W0 KZ.out)
          have t2 : True := trivial
          go_wp2_with (first | (go_at_call 45; refine NM.out.mono ?_; rintro e w' ⟨rfl, rfl⟩) | (have _t := t2; refine wpList_load_part 89 (.tmp 1) rfl rfl w.heap.size 0 rfl #[.int .i64 1, .string md, .int .i64 fr, .int .i64 num, .int .i64 den, .int .i64 pr, .string tx, .slice A na c] _ B0.out.rangeAt Tryz.underlying89 rfl (by kernel_rfl) ?_; go_frame; clear _t t2) | (go_at_call 66; refine BR.out.mono ?_; rintro e w2 ⟨rfl, k2⟩; have B2 := Lib.hid (B0.out.keep k2 (fun e => e)); have c7 : w2.cell? ⟨w.heap.size, 7, none⟩ = some (.slice A na c) := B2.out.cell 7; have K2 := Lib.hid (KZ.out.trans k2); clear k2))
          go_ret
          exact ⟨ret_bool Q.out.symm, K0.out.trans K2.out⟩
        | true =>
          rw [hb] at BA ANS
          clear hb
          have KZ := Lib.hid (Keep.refl none_ W0)
          have BR := Lib.hid (BA.out W0 KZ.out)
          have t2 : True := trivial
          by_cases hna : na = 0
          · subst hna
            have AN2 := Lib.hid (show exOk (.mk 1 md fr num den pr tx xs) = xs.all exOk by rw [ANS.out]; simp)
            go_wp2_with (first | (go_at_call 45; refine NM.out.mono ?_; rintro e w' ⟨rfl, rfl⟩) | (have _t := t2; refine wpList_load_part 89 (.tmp 1) rfl rfl w.heap.size 0 rfl #[.int .i64 1, .string md, .int .i64 fr, .int .i64 num, .int .i64 den, .int .i64 pr, .string tx, .slice A 0 c] _ B0.out.rangeAt Tryz.underlying89 rfl (by kernel_rfl) ?_; go_frame; clear _t t2) | (go_at_call 66; refine BR.out.mono ?_; rintro e w2 ⟨rfl, k2⟩; have B2 := Lib.hid (B0.out.keep k2 (fun e => e)); have c7 : w2.cell? ⟨w.heap.size, 7, none⟩ = some (.slice A 0 c) := B2.out.cell 7; have K2 := Lib.hid (KZ.out.trans k2); clear k2))
            have HA2 := Lib.hid (HA.out.keep K2.out.weak)
            have KK := Lib.hid (K0.out.trans K2.out)
            go_loopw [4] (fun i wr => ∃ k : Nat, k ≤ 0 ∧ i = .int .i64 k ∧ (xs.take k).all exOk = true ∧ Keep none_ w2 wr) (fun i _ => 0 - (intOf i).toNat)
            case atStart => exact ⟨0, Nat.zero_le _, rfl, rfl, Keep.refl _ _⟩
            case round =>
              obtain ⟨k, hk, rfl, hall, hkr⟩ := hrel
              have HK := Lib.hid hkr
              have HAL := Lib.hid hall
              clear hall
              by_cases hlt : k < 0
              · exact absurd hlt (Nat.not_lt_zero _)
              · obtain rfl : k = 0 := by omega
                have Q := Lib.hid (show exOk (.mk 1 md fr num den pr tx xs) = true by rw [AN2.out]; have := HAL.out; rwa [List.take_of_length_le (by omega)] at this)
                clear hkr hlt
                go_wp2
                go_ret
                exact ⟨ret_bool Q.out.symm, KK.out.trans HK.out⟩
          · have hna' : ((na : Int) != 0) = true := by rw [bne_iff_ne]; omega
            have hnd : decide (na = 0) = false := decide_eq_false hna
            rw [hnd] at ANS
            have Q := Lib.hid (show exOk (.mk 1 md fr num den pr tx xs) = false by rw [ANS.out]; simp)
            clear hna hnd
            go_wp2_with (first | (go_at_call 45; refine NM.out.mono ?_; rintro e w' ⟨rfl, rfl⟩) | (have _t := t2; refine wpList_load_part 89 (.tmp 1) rfl rfl w.heap.size 0 rfl #[.int .i64 1, .string md, .int .i64 fr, .int .i64 num, .int .i64 den, .int .i64 pr, .string tx, .slice A na c] _ B0.out.rangeAt Tryz.underlying89 rfl (by kernel_rfl) ?_; go_frame; clear _t t2) | (go_at_call 66; refine BR.out.mono ?_; rintro e w2 ⟨rfl, k2⟩; have B2 := Lib.hid (B0.out.keep k2 (fun e => e)); have c7 : w2.cell? ⟨w.heap.size, 7, none⟩ = some (.slice A na c) := B2.out.cell 7; have K2 := Lib.hid (KZ.out.trans k2); clear k2))
            go_ret
            exact ⟨ret_bool Q.out.symm, K0.out.trans K2.out⟩
      · rw [decide_eq_false hfrm] at ANS
        have hfrm' : decide (2147483647 ≤ fr) = true := decide_eq_true (by omega)
        have Q := Lib.hid (show exOk (.mk 1 md fr num den pr tx xs) = false by rw [ANS.out]; simp)
        go_wp2_with (first | (go_at_call 45; refine NM.out.mono ?_; rintro e w' ⟨rfl, rfl⟩))
        go_ret
        exact ⟨ret_bool Q.out.symm, K0.out⟩
    · rw [decide_eq_false hfr0] at ANS
      have hfr0' : decide (fr < 0) = true := decide_eq_true (by omega)
      have Q := Lib.hid (show exOk (.mk 1 md fr num den pr tx xs) = false by rw [ANS.out]; simp)
      go_wp2_with (first | (go_at_call 45; refine NM.out.mono ?_; rintro e w' ⟨rfl, rfl⟩))
      go_ret
      exact ⟨ret_bool Q.out.symm, K0.out⟩

set_option maxRecDepth 100000 in
set_option maxHeartbeats 1000000 in
theorem rex2 (d : Nat) (IH : ∀ (x : Ex) (cs : Array Value) (S : Nat → Prop) (w : World), ExAt d w S cs.toList x → Calls Tryz.prog 36 #[.agg cs] w fun e w' => e = .returned (.bool (exOk x)) ∧ Keep none_ w w')
    (md : ByteArray) (fr num den pr : Int) (tx : ByteArray) (xs : List Ex) (A : Option Addr) (na c : Nat) (S : Nat → Prop) (w : World) (hm : Szd md) (ht : Szd tx) (ha : ExsAt d w S (.slice A na c) xs) :
    Calls Tryz.prog 36 #[.agg #[.int .i64 2, .string md, .int .i64 fr, .int .i64 num, .int .i64 den, .int .i64 pr, .string tx, .slice A na c]] w fun e w' => e = .returned (.bool (exOk (.mk 2 md fr num den pr tx xs))) ∧ Keep none_ w w' := by
  obtain ⟨hl, hc1, hc2⟩ := ElemsOf.facts ha
  unfold maxLen at hc2
  have ANS := Lib.hid (show exOk (.mk 2 md fr num den pr tx xs) = (shareOk num den && decide (0 ≤ pr) && decide (pr ≤ 3) && bareOk 2 md fr num den pr tx && decide (na = 2) && xs.all exOk) by rw [exOk_eq, ← fOk_r2 md fr num den pr tx xs na, ← hl, exsOk_all]; rfl)
  obtain ⟨W0, hW0⟩ : ∃ W0, W0 = w.alloc (.cells #[.int .i64 2, .string md, .int .i64 fr, .int .i64 num, .int .i64 den, .int .i64 pr, .string tx, .slice A na c] 89) := ⟨_, rfl⟩
  have k0 : Keep none_ w W0 := hW0 ▸ (Keep.refl _ _).alloc _
  have b0 : Blk W0 w.heap.size 89 #[.int .i64 2, .string md, .int .i64 fr, .int .i64 num, .int .i64 den, .int .i64 pr, .string tx, .slice A na c] := hW0 ▸ Blk.new _ _ _
  have d0 := b0.cell 0
  have d1 := b0.cell 1
  have d2 := b0.cell 2
  have d3 := b0.cell 3
  have d4 := b0.cell 4
  have d5 := b0.cell 5
  have d6 := b0.cell 6
  have d7 := b0.cell 7
  simp only [List.getElem?_toArray, List.getElem?_cons_zero, List.getElem?_cons_succ] at d0 d1 d2 d3 d4 d5 d6 d7
  have B0 := Lib.hid b0
  have K0 := Lib.hid k0
  clear b0 k0
  have HA := Lib.hid (ExsAt.keep ha K0.out.weak)
  have NM := Lib.hid (vname_any md hm W0)
  have TT := Lib.hid (vline_any tx ht W0)
  have SH := Lib.hid (share_any (.mk 2 md fr num den pr tx xs) (.slice A na c) W0)
  simp only [Ex.op, Ex.media, Ex.frame, Ex.num, Ex.den, Ex.param, Ex.text] at SH
  have BA := Lib.hid (fun (wx : World) (_ : Keep none_ W0 wx) => bare_any 2 md fr num den pr tx A na c wx (by decide) (by decide))
  clear ha hm ht
  go_enter Tryz.func36, Tryz.ntmps36
  go_upto_region 1 with (fail)
  rw [← hW0]
  clear hW0
  cases hshare : shareOk num den with
  | false =>
    rw [hshare] at SH ANS
    clear hshare
    have t1 : True := trivial
    have Q := Lib.hid (show exOk (.mk 2 md fr num den pr tx xs) = false by rw [ANS.out]; simp)
    go_wp2_with (first | (have _t := t1; refine wpList_load_part 89 (.tmp 1) rfl rfl w.heap.size 0 rfl #[.int .i64 2, .string md, .int .i64 fr, .int .i64 num, .int .i64 den, .int .i64 pr, .string tx, .slice A na c] _ B0.out.rangeAt Tryz.underlying89 rfl (by kernel_rfl) ?_; go_frame; clear _t t1) | (go_at_call 64; refine SH.out.mono ?_; rintro e w1 ⟨rfl, k1⟩; have d5 := k1.cell d5 (fun e => e); have BB := Lib.hid (B0.out.keep k1 (fun e => e)); have KB := Lib.hid k1; have BR := Lib.hid (BA.out w1 k1); clear k1))
    go_ret
    exact ⟨ret_bool Q.out.symm, K0.out.trans KB.out⟩
  | true =>
    rw [hshare] at SH ANS
    clear hshare
    by_cases hpr0 : 0 ≤ pr
    · rw [decide_eq_true hpr0] at ANS
      have hpr0' : decide (pr < 0) = false := decide_eq_false (by omega)
      by_cases hpr3 : pr ≤ 3
      · rw [decide_eq_true hpr3] at ANS
        have hpr3' : decide (3 < pr) = false := decide_eq_false (by omega)
        cases hb : bareOk 2 md fr num den pr tx with
        | false =>
          rw [hb] at BA ANS
          clear hb
          have Q := Lib.hid (show exOk (.mk 2 md fr num den pr tx xs) = false by rw [ANS.out]; simp)
          have t1 : True := trivial
          have t2 : True := trivial
          go_wp2_with (first | (have _t := t1; refine wpList_load_part 89 (.tmp 1) rfl rfl w.heap.size 0 rfl #[.int .i64 2, .string md, .int .i64 fr, .int .i64 num, .int .i64 den, .int .i64 pr, .string tx, .slice A na c] _ B0.out.rangeAt Tryz.underlying89 rfl (by kernel_rfl) ?_; go_frame; clear _t t1) | (go_at_call 64; refine SH.out.mono ?_; rintro e w1 ⟨rfl, k1⟩; have d5 := k1.cell d5 (fun e => e); have BB := Lib.hid (B0.out.keep k1 (fun e => e)); have KB := Lib.hid k1; have BR := Lib.hid (BA.out w1 k1); clear k1) | (have _t := t2; refine wpList_load_part 89 (.tmp 1) rfl rfl w.heap.size 0 rfl #[.int .i64 2, .string md, .int .i64 fr, .int .i64 num, .int .i64 den, .int .i64 pr, .string tx, .slice A na c] _ BB.out.rangeAt Tryz.underlying89 rfl (by kernel_rfl) ?_; go_frame; clear _t t2) | (go_at_call 66; refine BR.out.mono ?_; rintro e w2 ⟨rfl, k2⟩; have B2 := Lib.hid (BB.out.keep k2 (fun e => e)); have c7 : w2.cell? ⟨w.heap.size, 7, none⟩ = some (.slice A na c) := B2.out.cell 7; have K2 := Lib.hid (KB.out.trans k2); clear k2))
          go_ret
          exact ⟨ret_bool Q.out.symm, K0.out.trans K2.out⟩
        | true =>
          rw [hb] at BA ANS
          clear hb
          have t1 : True := trivial
          have t2 : True := trivial
          by_cases hna : na = 2
          · subst hna
            have AN2 := Lib.hid (show exOk (.mk 2 md fr num den pr tx xs) = xs.all exOk by rw [ANS.out]; simp)
            go_wp2_with (first | (have _t := t1; refine wpList_load_part 89 (.tmp 1) rfl rfl w.heap.size 0 rfl #[.int .i64 2, .string md, .int .i64 fr, .int .i64 num, .int .i64 den, .int .i64 pr, .string tx, .slice A 2 c] _ B0.out.rangeAt Tryz.underlying89 rfl (by kernel_rfl) ?_; go_frame; clear _t t1) | (go_at_call 64; refine SH.out.mono ?_; rintro e w1 ⟨rfl, k1⟩; have d5 := k1.cell d5 (fun e => e); have BB := Lib.hid (B0.out.keep k1 (fun e => e)); have KB := Lib.hid k1; have BR := Lib.hid (BA.out w1 k1); clear k1) | (have _t := t2; refine wpList_load_part 89 (.tmp 1) rfl rfl w.heap.size 0 rfl #[.int .i64 2, .string md, .int .i64 fr, .int .i64 num, .int .i64 den, .int .i64 pr, .string tx, .slice A 2 c] _ BB.out.rangeAt Tryz.underlying89 rfl (by kernel_rfl) ?_; go_frame; clear _t t2) | (go_at_call 66; refine BR.out.mono ?_; rintro e w2 ⟨rfl, k2⟩; have B2 := Lib.hid (BB.out.keep k2 (fun e => e)); have c7 : w2.cell? ⟨w.heap.size, 7, none⟩ = some (.slice A 2 c) := B2.out.cell 7; have K2 := Lib.hid (KB.out.trans k2); clear k2))
            have HA2 := Lib.hid (HA.out.keep K2.out.weak)
            have KK := Lib.hid (K0.out.trans K2.out)
            go_loopw [4] (fun i wr => ∃ k : Nat, k ≤ 2 ∧ i = .int .i64 k ∧ (xs.take k).all exOk = true ∧ Keep none_ w2 wr) (fun i _ => 2 - (intOf i).toNat)
            case atStart => exact ⟨0, Nat.zero_le _, rfl, rfl, Keep.refl _ _⟩
            case round =>
              obtain ⟨k, hk, rfl, hall, hkr⟩ := hrel
              have HK := Lib.hid hkr
              have HAL := Lib.hid hall
              clear hall
              by_cases hlt : k < 2
              · have hlt' : (k : Int) < 2 := by omega
                obtain ⟨b, o, rfl, -, hkl, cs, hcl, hrg, he⟩ := ElemsOf.elem (HA2.out.keep hkr.weak) k hlt
                have SN := Lib.hid (exs_snoc hkl HAL.out)
                have c7 : wr.cell? ⟨w.heap.size, 7, none⟩ = some (.slice (some ⟨b, o, none⟩) 2 c) := (B2.out.keep hkr (fun e => e)).cell 7
                generalize xs[k] = y at he SN
                obtain ⟨ca, rfl⟩ : ∃ ca : Array Value, cs = ca.toList := ⟨cs.toArray, by simp⟩
                have SZ := Lib.hid (show ca.size = 8 by simpa using hcl)
                have RG := Lib.hid hrg
                have CL := Lib.hid (IH y ca S wr he)
                clear hcl hrg he hkr
                have t3 : True := trivial
                cases hy : exOk y with
                | false =>
                  have Q := Lib.hid (show exOk (.mk 2 md fr num den pr tx xs) = false by rw [AN2.out]; exact all_part exOk _ (k + 1) (by rw [SN.out, hy]))
                  rw [hy] at CL
                  clear hy
                  go_wp2_with (first | (have _t := t3; refine wpList_load_part 89 (.tmp 75) rfl rfl b (o + k * 8) (by first | rfl | simp) ca _ RG.out Tryz.underlying89 rfl (by rw [SZ.out]; kernel_rfl) ?_; go_frame; clear _t t3) | (go_at_call 36; refine CL.out.mono ?_; rintro e w4 ⟨rfl, k4⟩; have K4 := Lib.hid (HK.out.trans k4); clear k4))
                  go_ret
                  exact ⟨ret_bool Q.out.symm, KK.out.trans K4.out⟩
                | true =>
                  rw [hy] at CL SN
                  clear hy
                  go_wp2_with (first | (have _t := t3; refine wpList_load_part 89 (.tmp 75) rfl rfl b (o + k * 8) (by first | rfl | simp) ca _ RG.out Tryz.underlying89 rfl (by rw [SZ.out]; kernel_rfl) ?_; go_frame; clear _t t3) | (go_at_call 36; refine CL.out.mono ?_; rintro e w4 ⟨rfl, k4⟩; have K4 := Lib.hid (HK.out.trans k4); clear k4))
                  go_roundw
                  case rel => exact ⟨k + 1, hlt, by go_num, SN.out, K4.out⟩
                  case measure => simp [intOf]; omega
              · obtain rfl : k = 2 := by omega
                have Q := Lib.hid (show exOk (.mk 2 md fr num den pr tx xs) = true by rw [AN2.out]; have := HAL.out; rwa [List.take_of_length_le (by omega)] at this)
                clear hkr hlt
                go_wp2
                go_ret
                exact ⟨ret_bool Q.out.symm, KK.out.trans HK.out⟩
          · have hna' : ((na : Int) != 2) = true := by rw [bne_iff_ne]; omega
            have hnd : decide (na = 2) = false := decide_eq_false hna
            rw [hnd] at ANS
            have Q := Lib.hid (show exOk (.mk 2 md fr num den pr tx xs) = false by rw [ANS.out]; simp)
            clear hna hnd
            go_wp2_with (first | (have _t := t1; refine wpList_load_part 89 (.tmp 1) rfl rfl w.heap.size 0 rfl #[.int .i64 2, .string md, .int .i64 fr, .int .i64 num, .int .i64 den, .int .i64 pr, .string tx, .slice A na c] _ B0.out.rangeAt Tryz.underlying89 rfl (by kernel_rfl) ?_; go_frame; clear _t t1) | (go_at_call 64; refine SH.out.mono ?_; rintro e w1 ⟨rfl, k1⟩; have d5 := k1.cell d5 (fun e => e); have BB := Lib.hid (B0.out.keep k1 (fun e => e)); have KB := Lib.hid k1; have BR := Lib.hid (BA.out w1 k1); clear k1) | (have _t := t2; refine wpList_load_part 89 (.tmp 1) rfl rfl w.heap.size 0 rfl #[.int .i64 2, .string md, .int .i64 fr, .int .i64 num, .int .i64 den, .int .i64 pr, .string tx, .slice A na c] _ BB.out.rangeAt Tryz.underlying89 rfl (by kernel_rfl) ?_; go_frame; clear _t t2) | (go_at_call 66; refine BR.out.mono ?_; rintro e w2 ⟨rfl, k2⟩; have B2 := Lib.hid (BB.out.keep k2 (fun e => e)); have c7 : w2.cell? ⟨w.heap.size, 7, none⟩ = some (.slice A na c) := B2.out.cell 7; have K2 := Lib.hid (KB.out.trans k2); clear k2))
            go_ret
            exact ⟨ret_bool Q.out.symm, K0.out.trans K2.out⟩
      · rw [decide_eq_false hpr3] at ANS
        have hpr3' : decide (3 < pr) = true := decide_eq_true (by omega)
        have t1 : True := trivial
        have Q := Lib.hid (show exOk (.mk 2 md fr num den pr tx xs) = false by rw [ANS.out]; simp)
        go_wp2_with (first | (have _t := t1; refine wpList_load_part 89 (.tmp 1) rfl rfl w.heap.size 0 rfl #[.int .i64 2, .string md, .int .i64 fr, .int .i64 num, .int .i64 den, .int .i64 pr, .string tx, .slice A na c] _ B0.out.rangeAt Tryz.underlying89 rfl (by kernel_rfl) ?_; go_frame; clear _t t1) | (go_at_call 64; refine SH.out.mono ?_; rintro e w1 ⟨rfl, k1⟩; have d5 := k1.cell d5 (fun e => e); have BB := Lib.hid (B0.out.keep k1 (fun e => e)); have KB := Lib.hid k1; have BR := Lib.hid (BA.out w1 k1); clear k1))
        go_ret
        exact ⟨ret_bool Q.out.symm, K0.out.trans KB.out⟩
    · rw [decide_eq_false hpr0] at ANS
      have hpr0' : decide (pr < 0) = true := decide_eq_true (by omega)
      have t1 : True := trivial
      have Q := Lib.hid (show exOk (.mk 2 md fr num den pr tx xs) = false by rw [ANS.out]; simp)
      go_wp2_with (first | (have _t := t1; refine wpList_load_part 89 (.tmp 1) rfl rfl w.heap.size 0 rfl #[.int .i64 2, .string md, .int .i64 fr, .int .i64 num, .int .i64 den, .int .i64 pr, .string tx, .slice A na c] _ B0.out.rangeAt Tryz.underlying89 rfl (by kernel_rfl) ?_; go_frame; clear _t t1) | (go_at_call 64; refine SH.out.mono ?_; rintro e w1 ⟨rfl, k1⟩; have d5 := k1.cell d5 (fun e => e); have BB := Lib.hid (B0.out.keep k1 (fun e => e)); have KB := Lib.hid k1; have BR := Lib.hid (BA.out w1 k1); clear k1))
      go_ret
      exact ⟨ret_bool Q.out.symm, K0.out.trans KB.out⟩

set_option maxRecDepth 100000 in
set_option maxHeartbeats 1000000 in
theorem rex3 (d : Nat) (IH : ∀ (x : Ex) (cs : Array Value) (S : Nat → Prop) (w : World), ExAt d w S cs.toList x → Calls Tryz.prog 36 #[.agg cs] w fun e w' => e = .returned (.bool (exOk x)) ∧ Keep none_ w w')
    (md : ByteArray) (fr num den pr : Int) (tx : ByteArray) (xs : List Ex) (A : Option Addr) (na c : Nat) (S : Nat → Prop) (w : World) (hm : Szd md) (ht : Szd tx) (ha : ExsAt d w S (.slice A na c) xs) :
    Calls Tryz.prog 36 #[.agg #[.int .i64 3, .string md, .int .i64 fr, .int .i64 num, .int .i64 den, .int .i64 pr, .string tx, .slice A na c]] w fun e w' => e = .returned (.bool (exOk (.mk 3 md fr num den pr tx xs))) ∧ Keep none_ w w' := by
  obtain ⟨hl, hc1, hc2⟩ := ElemsOf.facts ha
  unfold maxLen at hc2
  have ANS := Lib.hid (show exOk (.mk 3 md fr num den pr tx xs) = (shareOk num den && decide (0 ≤ pr) && decide (pr ≤ 3) && bareOk 3 md fr num den pr tx && decide (na = 2) && xs.all exOk) by rw [exOk_eq, ← fOk_r3 md fr num den pr tx xs na, ← hl, exsOk_all]; rfl)
  obtain ⟨W0, hW0⟩ : ∃ W0, W0 = w.alloc (.cells #[.int .i64 3, .string md, .int .i64 fr, .int .i64 num, .int .i64 den, .int .i64 pr, .string tx, .slice A na c] 89) := ⟨_, rfl⟩
  have k0 : Keep none_ w W0 := hW0 ▸ (Keep.refl _ _).alloc _
  have b0 : Blk W0 w.heap.size 89 #[.int .i64 3, .string md, .int .i64 fr, .int .i64 num, .int .i64 den, .int .i64 pr, .string tx, .slice A na c] := hW0 ▸ Blk.new _ _ _
  have d0 := b0.cell 0
  have d1 := b0.cell 1
  have d2 := b0.cell 2
  have d3 := b0.cell 3
  have d4 := b0.cell 4
  have d5 := b0.cell 5
  have d6 := b0.cell 6
  have d7 := b0.cell 7
  simp only [List.getElem?_toArray, List.getElem?_cons_zero, List.getElem?_cons_succ] at d0 d1 d2 d3 d4 d5 d6 d7
  have B0 := Lib.hid b0
  have K0 := Lib.hid k0
  clear b0 k0
  have HA := Lib.hid (ExsAt.keep ha K0.out.weak)
  have NM := Lib.hid (vname_any md hm W0)
  have TT := Lib.hid (vline_any tx ht W0)
  have SH := Lib.hid (share_any (.mk 3 md fr num den pr tx xs) (.slice A na c) W0)
  simp only [Ex.op, Ex.media, Ex.frame, Ex.num, Ex.den, Ex.param, Ex.text] at SH
  have BA := Lib.hid (fun (wx : World) (_ : Keep none_ W0 wx) => bare_any 3 md fr num den pr tx A na c wx (by decide) (by decide))
  clear ha hm ht
  go_enter Tryz.func36, Tryz.ntmps36
  go_upto_region 1 with (fail)
  rw [← hW0]
  clear hW0
  cases hshare : shareOk num den with
  | false =>
    rw [hshare] at SH ANS
    clear hshare
    have t1 : True := trivial
    have Q := Lib.hid (show exOk (.mk 3 md fr num den pr tx xs) = false by rw [ANS.out]; simp)
    go_wp2_with (first | (have _t := t1; refine wpList_load_part 89 (.tmp 1) rfl rfl w.heap.size 0 rfl #[.int .i64 3, .string md, .int .i64 fr, .int .i64 num, .int .i64 den, .int .i64 pr, .string tx, .slice A na c] _ B0.out.rangeAt Tryz.underlying89 rfl (by kernel_rfl) ?_; go_frame; clear _t t1) | (go_at_call 64; refine SH.out.mono ?_; rintro e w1 ⟨rfl, k1⟩; have d5 := k1.cell d5 (fun e => e); have BB := Lib.hid (B0.out.keep k1 (fun e => e)); have KB := Lib.hid k1; have BR := Lib.hid (BA.out w1 k1); clear k1))
    go_ret
    exact ⟨ret_bool Q.out.symm, K0.out.trans KB.out⟩
  | true =>
    rw [hshare] at SH ANS
    clear hshare
    by_cases hpr0 : 0 ≤ pr
    · rw [decide_eq_true hpr0] at ANS
      have hpr0' : decide (pr < 0) = false := decide_eq_false (by omega)
      by_cases hpr3 : pr ≤ 3
      · rw [decide_eq_true hpr3] at ANS
        have hpr3' : decide (3 < pr) = false := decide_eq_false (by omega)
        cases hb : bareOk 3 md fr num den pr tx with
        | false =>
          rw [hb] at BA ANS
          clear hb
          have Q := Lib.hid (show exOk (.mk 3 md fr num den pr tx xs) = false by rw [ANS.out]; simp)
          have t1 : True := trivial
          have t2 : True := trivial
          go_wp2_with (first | (have _t := t1; refine wpList_load_part 89 (.tmp 1) rfl rfl w.heap.size 0 rfl #[.int .i64 3, .string md, .int .i64 fr, .int .i64 num, .int .i64 den, .int .i64 pr, .string tx, .slice A na c] _ B0.out.rangeAt Tryz.underlying89 rfl (by kernel_rfl) ?_; go_frame; clear _t t1) | (go_at_call 64; refine SH.out.mono ?_; rintro e w1 ⟨rfl, k1⟩; have d5 := k1.cell d5 (fun e => e); have BB := Lib.hid (B0.out.keep k1 (fun e => e)); have KB := Lib.hid k1; have BR := Lib.hid (BA.out w1 k1); clear k1) | (have _t := t2; refine wpList_load_part 89 (.tmp 1) rfl rfl w.heap.size 0 rfl #[.int .i64 3, .string md, .int .i64 fr, .int .i64 num, .int .i64 den, .int .i64 pr, .string tx, .slice A na c] _ BB.out.rangeAt Tryz.underlying89 rfl (by kernel_rfl) ?_; go_frame; clear _t t2) | (go_at_call 66; refine BR.out.mono ?_; rintro e w2 ⟨rfl, k2⟩; have B2 := Lib.hid (BB.out.keep k2 (fun e => e)); have c7 : w2.cell? ⟨w.heap.size, 7, none⟩ = some (.slice A na c) := B2.out.cell 7; have K2 := Lib.hid (KB.out.trans k2); clear k2))
          go_ret
          exact ⟨ret_bool Q.out.symm, K0.out.trans K2.out⟩
        | true =>
          rw [hb] at BA ANS
          clear hb
          have t1 : True := trivial
          have t2 : True := trivial
          by_cases hna : na = 2
          · subst hna
            have AN2 := Lib.hid (show exOk (.mk 3 md fr num den pr tx xs) = xs.all exOk by rw [ANS.out]; simp)
            go_wp2_with (first | (have _t := t1; refine wpList_load_part 89 (.tmp 1) rfl rfl w.heap.size 0 rfl #[.int .i64 3, .string md, .int .i64 fr, .int .i64 num, .int .i64 den, .int .i64 pr, .string tx, .slice A 2 c] _ B0.out.rangeAt Tryz.underlying89 rfl (by kernel_rfl) ?_; go_frame; clear _t t1) | (go_at_call 64; refine SH.out.mono ?_; rintro e w1 ⟨rfl, k1⟩; have d5 := k1.cell d5 (fun e => e); have BB := Lib.hid (B0.out.keep k1 (fun e => e)); have KB := Lib.hid k1; have BR := Lib.hid (BA.out w1 k1); clear k1) | (have _t := t2; refine wpList_load_part 89 (.tmp 1) rfl rfl w.heap.size 0 rfl #[.int .i64 3, .string md, .int .i64 fr, .int .i64 num, .int .i64 den, .int .i64 pr, .string tx, .slice A 2 c] _ BB.out.rangeAt Tryz.underlying89 rfl (by kernel_rfl) ?_; go_frame; clear _t t2) | (go_at_call 66; refine BR.out.mono ?_; rintro e w2 ⟨rfl, k2⟩; have B2 := Lib.hid (BB.out.keep k2 (fun e => e)); have c7 : w2.cell? ⟨w.heap.size, 7, none⟩ = some (.slice A 2 c) := B2.out.cell 7; have K2 := Lib.hid (KB.out.trans k2); clear k2))
            have HA2 := Lib.hid (HA.out.keep K2.out.weak)
            have KK := Lib.hid (K0.out.trans K2.out)
            go_loopw [4] (fun i wr => ∃ k : Nat, k ≤ 2 ∧ i = .int .i64 k ∧ (xs.take k).all exOk = true ∧ Keep none_ w2 wr) (fun i _ => 2 - (intOf i).toNat)
            case atStart => exact ⟨0, Nat.zero_le _, rfl, rfl, Keep.refl _ _⟩
            case round =>
              obtain ⟨k, hk, rfl, hall, hkr⟩ := hrel
              have HK := Lib.hid hkr
              have HAL := Lib.hid hall
              clear hall
              by_cases hlt : k < 2
              · have hlt' : (k : Int) < 2 := by omega
                obtain ⟨b, o, rfl, -, hkl, cs, hcl, hrg, he⟩ := ElemsOf.elem (HA2.out.keep hkr.weak) k hlt
                have SN := Lib.hid (exs_snoc hkl HAL.out)
                have c7 : wr.cell? ⟨w.heap.size, 7, none⟩ = some (.slice (some ⟨b, o, none⟩) 2 c) := (B2.out.keep hkr (fun e => e)).cell 7
                generalize xs[k] = y at he SN
                obtain ⟨ca, rfl⟩ : ∃ ca : Array Value, cs = ca.toList := ⟨cs.toArray, by simp⟩
                have SZ := Lib.hid (show ca.size = 8 by simpa using hcl)
                have RG := Lib.hid hrg
                have CL := Lib.hid (IH y ca S wr he)
                clear hcl hrg he hkr
                have t3 : True := trivial
                cases hy : exOk y with
                | false =>
                  have Q := Lib.hid (show exOk (.mk 3 md fr num den pr tx xs) = false by rw [AN2.out]; exact all_part exOk _ (k + 1) (by rw [SN.out, hy]))
                  rw [hy] at CL
                  clear hy
                  go_wp2_with (first | (have _t := t3; refine wpList_load_part 89 (.tmp 75) rfl rfl b (o + k * 8) (by first | rfl | simp) ca _ RG.out Tryz.underlying89 rfl (by rw [SZ.out]; kernel_rfl) ?_; go_frame; clear _t t3) | (go_at_call 36; refine CL.out.mono ?_; rintro e w4 ⟨rfl, k4⟩; have K4 := Lib.hid (HK.out.trans k4); clear k4))
                  go_ret
                  exact ⟨ret_bool Q.out.symm, KK.out.trans K4.out⟩
                | true =>
                  rw [hy] at CL SN
                  clear hy
                  go_wp2_with (first | (have _t := t3; refine wpList_load_part 89 (.tmp 75) rfl rfl b (o + k * 8) (by first | rfl | simp) ca _ RG.out Tryz.underlying89 rfl (by rw [SZ.out]; kernel_rfl) ?_; go_frame; clear _t t3) | (go_at_call 36; refine CL.out.mono ?_; rintro e w4 ⟨rfl, k4⟩; have K4 := Lib.hid (HK.out.trans k4); clear k4))
                  go_roundw
                  case rel => exact ⟨k + 1, hlt, by go_num, SN.out, K4.out⟩
                  case measure => simp [intOf]; omega
              · obtain rfl : k = 2 := by omega
                have Q := Lib.hid (show exOk (.mk 3 md fr num den pr tx xs) = true by rw [AN2.out]; have := HAL.out; rwa [List.take_of_length_le (by omega)] at this)
                clear hkr hlt
                go_wp2
                go_ret
                exact ⟨ret_bool Q.out.symm, KK.out.trans HK.out⟩
          · have hna' : ((na : Int) != 2) = true := by rw [bne_iff_ne]; omega
            have hnd : decide (na = 2) = false := decide_eq_false hna
            rw [hnd] at ANS
            have Q := Lib.hid (show exOk (.mk 3 md fr num den pr tx xs) = false by rw [ANS.out]; simp)
            clear hna hnd
            go_wp2_with (first | (have _t := t1; refine wpList_load_part 89 (.tmp 1) rfl rfl w.heap.size 0 rfl #[.int .i64 3, .string md, .int .i64 fr, .int .i64 num, .int .i64 den, .int .i64 pr, .string tx, .slice A na c] _ B0.out.rangeAt Tryz.underlying89 rfl (by kernel_rfl) ?_; go_frame; clear _t t1) | (go_at_call 64; refine SH.out.mono ?_; rintro e w1 ⟨rfl, k1⟩; have d5 := k1.cell d5 (fun e => e); have BB := Lib.hid (B0.out.keep k1 (fun e => e)); have KB := Lib.hid k1; have BR := Lib.hid (BA.out w1 k1); clear k1) | (have _t := t2; refine wpList_load_part 89 (.tmp 1) rfl rfl w.heap.size 0 rfl #[.int .i64 3, .string md, .int .i64 fr, .int .i64 num, .int .i64 den, .int .i64 pr, .string tx, .slice A na c] _ BB.out.rangeAt Tryz.underlying89 rfl (by kernel_rfl) ?_; go_frame; clear _t t2) | (go_at_call 66; refine BR.out.mono ?_; rintro e w2 ⟨rfl, k2⟩; have B2 := Lib.hid (BB.out.keep k2 (fun e => e)); have c7 : w2.cell? ⟨w.heap.size, 7, none⟩ = some (.slice A na c) := B2.out.cell 7; have K2 := Lib.hid (KB.out.trans k2); clear k2))
            go_ret
            exact ⟨ret_bool Q.out.symm, K0.out.trans K2.out⟩
      · rw [decide_eq_false hpr3] at ANS
        have hpr3' : decide (3 < pr) = true := decide_eq_true (by omega)
        have t1 : True := trivial
        have Q := Lib.hid (show exOk (.mk 3 md fr num den pr tx xs) = false by rw [ANS.out]; simp)
        go_wp2_with (first | (have _t := t1; refine wpList_load_part 89 (.tmp 1) rfl rfl w.heap.size 0 rfl #[.int .i64 3, .string md, .int .i64 fr, .int .i64 num, .int .i64 den, .int .i64 pr, .string tx, .slice A na c] _ B0.out.rangeAt Tryz.underlying89 rfl (by kernel_rfl) ?_; go_frame; clear _t t1) | (go_at_call 64; refine SH.out.mono ?_; rintro e w1 ⟨rfl, k1⟩; have d5 := k1.cell d5 (fun e => e); have BB := Lib.hid (B0.out.keep k1 (fun e => e)); have KB := Lib.hid k1; have BR := Lib.hid (BA.out w1 k1); clear k1))
        go_ret
        exact ⟨ret_bool Q.out.symm, K0.out.trans KB.out⟩
    · rw [decide_eq_false hpr0] at ANS
      have hpr0' : decide (pr < 0) = true := decide_eq_true (by omega)
      have t1 : True := trivial
      have Q := Lib.hid (show exOk (.mk 3 md fr num den pr tx xs) = false by rw [ANS.out]; simp)
      go_wp2_with (first | (have _t := t1; refine wpList_load_part 89 (.tmp 1) rfl rfl w.heap.size 0 rfl #[.int .i64 3, .string md, .int .i64 fr, .int .i64 num, .int .i64 den, .int .i64 pr, .string tx, .slice A na c] _ B0.out.rangeAt Tryz.underlying89 rfl (by kernel_rfl) ?_; go_frame; clear _t t1) | (go_at_call 64; refine SH.out.mono ?_; rintro e w1 ⟨rfl, k1⟩; have d5 := k1.cell d5 (fun e => e); have BB := Lib.hid (B0.out.keep k1 (fun e => e)); have KB := Lib.hid k1; have BR := Lib.hid (BA.out w1 k1); clear k1))
      go_ret
      exact ⟨ret_bool Q.out.symm, K0.out.trans KB.out⟩

set_option maxRecDepth 100000 in
set_option maxHeartbeats 1000000 in
theorem rex4 (d : Nat) (IH : ∀ (x : Ex) (cs : Array Value) (S : Nat → Prop) (w : World), ExAt d w S cs.toList x → Calls Tryz.prog 36 #[.agg cs] w fun e w' => e = .returned (.bool (exOk x)) ∧ Keep none_ w w')
    (md : ByteArray) (fr num den pr : Int) (tx : ByteArray) (xs : List Ex) (A : Option Addr) (na c : Nat) (S : Nat → Prop) (w : World) (hm : Szd md) (ht : Szd tx) (ha : ExsAt d w S (.slice A na c) xs) :
    Calls Tryz.prog 36 #[.agg #[.int .i64 4, .string md, .int .i64 fr, .int .i64 num, .int .i64 den, .int .i64 pr, .string tx, .slice A na c]] w fun e w' => e = .returned (.bool (exOk (.mk 4 md fr num den pr tx xs))) ∧ Keep none_ w w' := by
  obtain ⟨hl, hc1, hc2⟩ := ElemsOf.facts ha
  unfold maxLen at hc2
  have ANS := Lib.hid (show exOk (.mk 4 md fr num den pr tx xs) = (decide (0 ≤ pr) && decide (pr ≤ 255) && bareOk 4 md fr num den pr tx && decide (na = 2) && xs.all exOk) by rw [exOk_eq, ← fOk_r4 md fr num den pr tx xs na, ← hl, exsOk_all]; rfl)
  obtain ⟨W0, hW0⟩ : ∃ W0, W0 = w.alloc (.cells #[.int .i64 4, .string md, .int .i64 fr, .int .i64 num, .int .i64 den, .int .i64 pr, .string tx, .slice A na c] 89) := ⟨_, rfl⟩
  have k0 : Keep none_ w W0 := hW0 ▸ (Keep.refl _ _).alloc _
  have b0 : Blk W0 w.heap.size 89 #[.int .i64 4, .string md, .int .i64 fr, .int .i64 num, .int .i64 den, .int .i64 pr, .string tx, .slice A na c] := hW0 ▸ Blk.new _ _ _
  have d0 := b0.cell 0
  have d1 := b0.cell 1
  have d2 := b0.cell 2
  have d3 := b0.cell 3
  have d4 := b0.cell 4
  have d5 := b0.cell 5
  have d6 := b0.cell 6
  have d7 := b0.cell 7
  simp only [List.getElem?_toArray, List.getElem?_cons_zero, List.getElem?_cons_succ] at d0 d1 d2 d3 d4 d5 d6 d7
  have B0 := Lib.hid b0
  have K0 := Lib.hid k0
  clear b0 k0
  have HA := Lib.hid (ExsAt.keep ha K0.out.weak)
  have NM := Lib.hid (vname_any md hm W0)
  have TT := Lib.hid (vline_any tx ht W0)
  have SH := Lib.hid (share_any (.mk 4 md fr num den pr tx xs) (.slice A na c) W0)
  simp only [Ex.op, Ex.media, Ex.frame, Ex.num, Ex.den, Ex.param, Ex.text] at SH
  have BA := Lib.hid (fun (wx : World) (_ : Keep none_ W0 wx) => bare_any 4 md fr num den pr tx A na c wx (by decide) (by decide))
  clear ha hm ht
  go_enter Tryz.func36, Tryz.ntmps36
  go_upto_region 1 with (fail)
  rw [← hW0]
  clear hW0
  by_cases hpr0 : 0 ≤ pr
  · rw [decide_eq_true hpr0] at ANS
    have hpr0' : decide (pr < 0) = false := decide_eq_false (by omega)
    by_cases hpr255 : pr ≤ 255
    · rw [decide_eq_true hpr255] at ANS
      have hpr255' : decide (255 < pr) = false := decide_eq_false (by omega)
      cases hb : bareOk 4 md fr num den pr tx with
      | false =>
        rw [hb] at BA ANS
        clear hb
        have Q := Lib.hid (show exOk (.mk 4 md fr num den pr tx xs) = false by rw [ANS.out]; simp)
        have KZ := Lib.hid (Keep.refl none_ W0)
        have BR := Lib.hid (BA.out W0 KZ.out)
        have t2 : True := trivial
        go_wp2_with (first | (have _t := t2; refine wpList_load_part 89 (.tmp 1) rfl rfl w.heap.size 0 rfl #[.int .i64 4, .string md, .int .i64 fr, .int .i64 num, .int .i64 den, .int .i64 pr, .string tx, .slice A na c] _ B0.out.rangeAt Tryz.underlying89 rfl (by kernel_rfl) ?_; go_frame; clear _t t2) | (go_at_call 66; refine BR.out.mono ?_; rintro e w2 ⟨rfl, k2⟩; have B2 := Lib.hid (B0.out.keep k2 (fun e => e)); have c7 : w2.cell? ⟨w.heap.size, 7, none⟩ = some (.slice A na c) := B2.out.cell 7; have K2 := Lib.hid (KZ.out.trans k2); clear k2))
        go_ret
        exact ⟨ret_bool Q.out.symm, K0.out.trans K2.out⟩
      | true =>
        rw [hb] at BA ANS
        clear hb
        have KZ := Lib.hid (Keep.refl none_ W0)
        have BR := Lib.hid (BA.out W0 KZ.out)
        have t2 : True := trivial
        by_cases hna : na = 2
        · subst hna
          have AN2 := Lib.hid (show exOk (.mk 4 md fr num den pr tx xs) = xs.all exOk by rw [ANS.out]; simp)
          go_wp2_with (first | (have _t := t2; refine wpList_load_part 89 (.tmp 1) rfl rfl w.heap.size 0 rfl #[.int .i64 4, .string md, .int .i64 fr, .int .i64 num, .int .i64 den, .int .i64 pr, .string tx, .slice A 2 c] _ B0.out.rangeAt Tryz.underlying89 rfl (by kernel_rfl) ?_; go_frame; clear _t t2) | (go_at_call 66; refine BR.out.mono ?_; rintro e w2 ⟨rfl, k2⟩; have B2 := Lib.hid (B0.out.keep k2 (fun e => e)); have c7 : w2.cell? ⟨w.heap.size, 7, none⟩ = some (.slice A 2 c) := B2.out.cell 7; have K2 := Lib.hid (KZ.out.trans k2); clear k2))
          have HA2 := Lib.hid (HA.out.keep K2.out.weak)
          have KK := Lib.hid (K0.out.trans K2.out)
          go_loopw [4] (fun i wr => ∃ k : Nat, k ≤ 2 ∧ i = .int .i64 k ∧ (xs.take k).all exOk = true ∧ Keep none_ w2 wr) (fun i _ => 2 - (intOf i).toNat)
          case atStart => exact ⟨0, Nat.zero_le _, rfl, rfl, Keep.refl _ _⟩
          case round =>
            obtain ⟨k, hk, rfl, hall, hkr⟩ := hrel
            have HK := Lib.hid hkr
            have HAL := Lib.hid hall
            clear hall
            by_cases hlt : k < 2
            · have hlt' : (k : Int) < 2 := by omega
              obtain ⟨b, o, rfl, -, hkl, cs, hcl, hrg, he⟩ := ElemsOf.elem (HA2.out.keep hkr.weak) k hlt
              have SN := Lib.hid (exs_snoc hkl HAL.out)
              have c7 : wr.cell? ⟨w.heap.size, 7, none⟩ = some (.slice (some ⟨b, o, none⟩) 2 c) := (B2.out.keep hkr (fun e => e)).cell 7
              generalize xs[k] = y at he SN
              obtain ⟨ca, rfl⟩ : ∃ ca : Array Value, cs = ca.toList := ⟨cs.toArray, by simp⟩
              have SZ := Lib.hid (show ca.size = 8 by simpa using hcl)
              have RG := Lib.hid hrg
              have CL := Lib.hid (IH y ca S wr he)
              clear hcl hrg he hkr
              have t3 : True := trivial
              cases hy : exOk y with
              | false =>
                have Q := Lib.hid (show exOk (.mk 4 md fr num den pr tx xs) = false by rw [AN2.out]; exact all_part exOk _ (k + 1) (by rw [SN.out, hy]))
                rw [hy] at CL
                clear hy
                go_wp2_with (first | (have _t := t3; refine wpList_load_part 89 (.tmp 75) rfl rfl b (o + k * 8) (by first | rfl | simp) ca _ RG.out Tryz.underlying89 rfl (by rw [SZ.out]; kernel_rfl) ?_; go_frame; clear _t t3) | (go_at_call 36; refine CL.out.mono ?_; rintro e w4 ⟨rfl, k4⟩; have K4 := Lib.hid (HK.out.trans k4); clear k4))
                go_ret
                exact ⟨ret_bool Q.out.symm, KK.out.trans K4.out⟩
              | true =>
                rw [hy] at CL SN
                clear hy
                go_wp2_with (first | (have _t := t3; refine wpList_load_part 89 (.tmp 75) rfl rfl b (o + k * 8) (by first | rfl | simp) ca _ RG.out Tryz.underlying89 rfl (by rw [SZ.out]; kernel_rfl) ?_; go_frame; clear _t t3) | (go_at_call 36; refine CL.out.mono ?_; rintro e w4 ⟨rfl, k4⟩; have K4 := Lib.hid (HK.out.trans k4); clear k4))
                go_roundw
                case rel => exact ⟨k + 1, hlt, by go_num, SN.out, K4.out⟩
                case measure => simp [intOf]; omega
            · obtain rfl : k = 2 := by omega
              have Q := Lib.hid (show exOk (.mk 4 md fr num den pr tx xs) = true by rw [AN2.out]; have := HAL.out; rwa [List.take_of_length_le (by omega)] at this)
              clear hkr hlt
              go_wp2
              go_ret
              exact ⟨ret_bool Q.out.symm, KK.out.trans HK.out⟩
        · have hna' : ((na : Int) != 2) = true := by rw [bne_iff_ne]; omega
          have hnd : decide (na = 2) = false := decide_eq_false hna
          rw [hnd] at ANS
          have Q := Lib.hid (show exOk (.mk 4 md fr num den pr tx xs) = false by rw [ANS.out]; simp)
          clear hna hnd
          go_wp2_with (first | (have _t := t2; refine wpList_load_part 89 (.tmp 1) rfl rfl w.heap.size 0 rfl #[.int .i64 4, .string md, .int .i64 fr, .int .i64 num, .int .i64 den, .int .i64 pr, .string tx, .slice A na c] _ B0.out.rangeAt Tryz.underlying89 rfl (by kernel_rfl) ?_; go_frame; clear _t t2) | (go_at_call 66; refine BR.out.mono ?_; rintro e w2 ⟨rfl, k2⟩; have B2 := Lib.hid (B0.out.keep k2 (fun e => e)); have c7 : w2.cell? ⟨w.heap.size, 7, none⟩ = some (.slice A na c) := B2.out.cell 7; have K2 := Lib.hid (KZ.out.trans k2); clear k2))
          go_ret
          exact ⟨ret_bool Q.out.symm, K0.out.trans K2.out⟩
    · rw [decide_eq_false hpr255] at ANS
      have hpr255' : decide (255 < pr) = true := decide_eq_true (by omega)
      have Q := Lib.hid (show exOk (.mk 4 md fr num den pr tx xs) = false by rw [ANS.out]; simp)
      go_wp2
      go_ret
      exact ⟨ret_bool Q.out.symm, K0.out⟩
  · rw [decide_eq_false hpr0] at ANS
    have hpr0' : decide (pr < 0) = true := decide_eq_true (by omega)
    have Q := Lib.hid (show exOk (.mk 4 md fr num den pr tx xs) = false by rw [ANS.out]; simp)
    go_wp2
    go_ret
    exact ⟨ret_bool Q.out.symm, K0.out⟩

set_option maxRecDepth 100000 in
set_option maxHeartbeats 1000000 in
theorem rex5 (d : Nat) (IH : ∀ (x : Ex) (cs : Array Value) (S : Nat → Prop) (w : World), ExAt d w S cs.toList x → Calls Tryz.prog 36 #[.agg cs] w fun e w' => e = .returned (.bool (exOk x)) ∧ Keep none_ w w')
    (md : ByteArray) (fr num den pr : Int) (tx : ByteArray) (xs : List Ex) (A : Option Addr) (na c : Nat) (S : Nat → Prop) (w : World) (hm : Szd md) (ht : Szd tx) (ha : ExsAt d w S (.slice A na c) xs) :
    Calls Tryz.prog 36 #[.agg #[.int .i64 5, .string md, .int .i64 fr, .int .i64 num, .int .i64 den, .int .i64 pr, .string tx, .slice A na c]] w fun e w' => e = .returned (.bool (exOk (.mk 5 md fr num den pr tx xs))) ∧ Keep none_ w w' := by
  obtain ⟨hl, hc1, hc2⟩ := ElemsOf.facts ha
  unfold maxLen at hc2
  have ANS := Lib.hid (show exOk (.mk 5 md fr num den pr tx xs) = (textOk tx && bareOk 5 md fr num den pr tx && decide (na = 1) && xs.all exOk) by rw [exOk_eq, ← fOk_r5 md fr num den pr tx xs na, ← hl, exsOk_all]; rfl)
  obtain ⟨W0, hW0⟩ : ∃ W0, W0 = w.alloc (.cells #[.int .i64 5, .string md, .int .i64 fr, .int .i64 num, .int .i64 den, .int .i64 pr, .string tx, .slice A na c] 89) := ⟨_, rfl⟩
  have k0 : Keep none_ w W0 := hW0 ▸ (Keep.refl _ _).alloc _
  have b0 : Blk W0 w.heap.size 89 #[.int .i64 5, .string md, .int .i64 fr, .int .i64 num, .int .i64 den, .int .i64 pr, .string tx, .slice A na c] := hW0 ▸ Blk.new _ _ _
  have d0 := b0.cell 0
  have d1 := b0.cell 1
  have d2 := b0.cell 2
  have d3 := b0.cell 3
  have d4 := b0.cell 4
  have d5 := b0.cell 5
  have d6 := b0.cell 6
  have d7 := b0.cell 7
  simp only [List.getElem?_toArray, List.getElem?_cons_zero, List.getElem?_cons_succ] at d0 d1 d2 d3 d4 d5 d6 d7
  have B0 := Lib.hid b0
  have K0 := Lib.hid k0
  clear b0 k0
  have HA := Lib.hid (ExsAt.keep ha K0.out.weak)
  have NM := Lib.hid (vname_any md hm W0)
  have TT := Lib.hid (vline_any tx ht W0)
  have SH := Lib.hid (share_any (.mk 5 md fr num den pr tx xs) (.slice A na c) W0)
  simp only [Ex.op, Ex.media, Ex.frame, Ex.num, Ex.den, Ex.param, Ex.text] at SH
  have BA := Lib.hid (fun (wx : World) (_ : Keep none_ W0 wx) => bare_any 5 md fr num den pr tx A na c wx (by decide) (by decide))
  clear ha hm ht
  go_enter Tryz.func36, Tryz.ntmps36
  go_upto_region 1 with (fail)
  rw [← hW0]
  clear hW0
  cases htext : textOk tx with
  | false =>
    rw [htext] at TT ANS
    clear htext
    have Q := Lib.hid (show exOk (.mk 5 md fr num den pr tx xs) = false by rw [ANS.out]; simp)
    go_wp2_with (first | (go_at_call 65; refine TT.out.mono ?_; rintro e w' ⟨rfl, rfl⟩))
    go_ret
    exact ⟨ret_bool Q.out.symm, K0.out⟩
  | true =>
    rw [htext] at TT ANS
    clear htext
    cases hb : bareOk 5 md fr num den pr tx with
    | false =>
      rw [hb] at BA ANS
      clear hb
      have Q := Lib.hid (show exOk (.mk 5 md fr num den pr tx xs) = false by rw [ANS.out]; simp)
      have KZ := Lib.hid (Keep.refl none_ W0)
      have BR := Lib.hid (BA.out W0 KZ.out)
      have t2 : True := trivial
      go_wp2_with (first | (go_at_call 65; refine TT.out.mono ?_; rintro e w' ⟨rfl, rfl⟩) | (have _t := t2; refine wpList_load_part 89 (.tmp 1) rfl rfl w.heap.size 0 rfl #[.int .i64 5, .string md, .int .i64 fr, .int .i64 num, .int .i64 den, .int .i64 pr, .string tx, .slice A na c] _ B0.out.rangeAt Tryz.underlying89 rfl (by kernel_rfl) ?_; go_frame; clear _t t2) | (go_at_call 66; refine BR.out.mono ?_; rintro e w2 ⟨rfl, k2⟩; have B2 := Lib.hid (B0.out.keep k2 (fun e => e)); have c7 : w2.cell? ⟨w.heap.size, 7, none⟩ = some (.slice A na c) := B2.out.cell 7; have K2 := Lib.hid (KZ.out.trans k2); clear k2))
      go_ret
      exact ⟨ret_bool Q.out.symm, K0.out.trans K2.out⟩
    | true =>
      rw [hb] at BA ANS
      clear hb
      have KZ := Lib.hid (Keep.refl none_ W0)
      have BR := Lib.hid (BA.out W0 KZ.out)
      have t2 : True := trivial
      by_cases hna : na = 1
      · subst hna
        have AN2 := Lib.hid (show exOk (.mk 5 md fr num den pr tx xs) = xs.all exOk by rw [ANS.out]; simp)
        go_wp2_with (first | (go_at_call 65; refine TT.out.mono ?_; rintro e w' ⟨rfl, rfl⟩) | (have _t := t2; refine wpList_load_part 89 (.tmp 1) rfl rfl w.heap.size 0 rfl #[.int .i64 5, .string md, .int .i64 fr, .int .i64 num, .int .i64 den, .int .i64 pr, .string tx, .slice A 1 c] _ B0.out.rangeAt Tryz.underlying89 rfl (by kernel_rfl) ?_; go_frame; clear _t t2) | (go_at_call 66; refine BR.out.mono ?_; rintro e w2 ⟨rfl, k2⟩; have B2 := Lib.hid (B0.out.keep k2 (fun e => e)); have c7 : w2.cell? ⟨w.heap.size, 7, none⟩ = some (.slice A 1 c) := B2.out.cell 7; have K2 := Lib.hid (KZ.out.trans k2); clear k2))
        have HA2 := Lib.hid (HA.out.keep K2.out.weak)
        have KK := Lib.hid (K0.out.trans K2.out)
        go_loopw [4] (fun i wr => ∃ k : Nat, k ≤ 1 ∧ i = .int .i64 k ∧ (xs.take k).all exOk = true ∧ Keep none_ w2 wr) (fun i _ => 1 - (intOf i).toNat)
        case atStart => exact ⟨0, Nat.zero_le _, rfl, rfl, Keep.refl _ _⟩
        case round =>
          obtain ⟨k, hk, rfl, hall, hkr⟩ := hrel
          have HK := Lib.hid hkr
          have HAL := Lib.hid hall
          clear hall
          by_cases hlt : k < 1
          · have hlt' : (k : Int) < 1 := by omega
            obtain ⟨b, o, rfl, -, hkl, cs, hcl, hrg, he⟩ := ElemsOf.elem (HA2.out.keep hkr.weak) k hlt
            have SN := Lib.hid (exs_snoc hkl HAL.out)
            have c7 : wr.cell? ⟨w.heap.size, 7, none⟩ = some (.slice (some ⟨b, o, none⟩) 1 c) := (B2.out.keep hkr (fun e => e)).cell 7
            generalize xs[k] = y at he SN
            obtain ⟨ca, rfl⟩ : ∃ ca : Array Value, cs = ca.toList := ⟨cs.toArray, by simp⟩
            have SZ := Lib.hid (show ca.size = 8 by simpa using hcl)
            have RG := Lib.hid hrg
            have CL := Lib.hid (IH y ca S wr he)
            clear hcl hrg he hkr
            have t3 : True := trivial
            cases hy : exOk y with
            | false =>
              have Q := Lib.hid (show exOk (.mk 5 md fr num den pr tx xs) = false by rw [AN2.out]; exact all_part exOk _ (k + 1) (by rw [SN.out, hy]))
              rw [hy] at CL
              clear hy
              go_wp2_with (first | (have _t := t3; refine wpList_load_part 89 (.tmp 75) rfl rfl b (o + k * 8) (by first | rfl | simp) ca _ RG.out Tryz.underlying89 rfl (by rw [SZ.out]; kernel_rfl) ?_; go_frame; clear _t t3) | (go_at_call 36; refine CL.out.mono ?_; rintro e w4 ⟨rfl, k4⟩; have K4 := Lib.hid (HK.out.trans k4); clear k4))
              go_ret
              exact ⟨ret_bool Q.out.symm, KK.out.trans K4.out⟩
            | true =>
              rw [hy] at CL SN
              clear hy
              go_wp2_with (first | (have _t := t3; refine wpList_load_part 89 (.tmp 75) rfl rfl b (o + k * 8) (by first | rfl | simp) ca _ RG.out Tryz.underlying89 rfl (by rw [SZ.out]; kernel_rfl) ?_; go_frame; clear _t t3) | (go_at_call 36; refine CL.out.mono ?_; rintro e w4 ⟨rfl, k4⟩; have K4 := Lib.hid (HK.out.trans k4); clear k4))
              go_roundw
              case rel => exact ⟨k + 1, hlt, by go_num, SN.out, K4.out⟩
              case measure => simp [intOf]; omega
          · obtain rfl : k = 1 := by omega
            have Q := Lib.hid (show exOk (.mk 5 md fr num den pr tx xs) = true by rw [AN2.out]; have := HAL.out; rwa [List.take_of_length_le (by omega)] at this)
            clear hkr hlt
            go_wp2
            go_ret
            exact ⟨ret_bool Q.out.symm, KK.out.trans HK.out⟩
      · have hna' : ((na : Int) != 1) = true := by rw [bne_iff_ne]; omega
        have hnd : decide (na = 1) = false := decide_eq_false hna
        rw [hnd] at ANS
        have Q := Lib.hid (show exOk (.mk 5 md fr num den pr tx xs) = false by rw [ANS.out]; simp)
        clear hna hnd
        go_wp2_with (first | (go_at_call 65; refine TT.out.mono ?_; rintro e w' ⟨rfl, rfl⟩) | (have _t := t2; refine wpList_load_part 89 (.tmp 1) rfl rfl w.heap.size 0 rfl #[.int .i64 5, .string md, .int .i64 fr, .int .i64 num, .int .i64 den, .int .i64 pr, .string tx, .slice A na c] _ B0.out.rangeAt Tryz.underlying89 rfl (by kernel_rfl) ?_; go_frame; clear _t t2) | (go_at_call 66; refine BR.out.mono ?_; rintro e w2 ⟨rfl, k2⟩; have B2 := Lib.hid (B0.out.keep k2 (fun e => e)); have c7 : w2.cell? ⟨w.heap.size, 7, none⟩ = some (.slice A na c) := B2.out.cell 7; have K2 := Lib.hid (KZ.out.trans k2); clear k2))
        go_ret
        exact ⟨ret_bool Q.out.symm, K0.out.trans K2.out⟩

set_option maxRecDepth 100000 in
set_option maxHeartbeats 1000000 in
theorem rexOk_any : ∀ (d : Nat) (x : Ex) (cs : Array Value) (S : Nat → Prop) (w : World), ExAt d w S cs.toList x → Calls Tryz.prog 36 #[.agg cs] w fun e w' => e = .returned (.bool (exOk x)) ∧ Keep none_ w w'
  | 0, _, _, _, _, h => h.elim
  | d + 1, x, cs, S, w, h => by
    have IH := rexOk_any d
    obtain ⟨v, ecs, hm, ht, ha⟩ := h
    obtain ⟨A, na, c, rfl, -⟩ := (id ha : ElemsOf w S 8 (ExAt d w S) v x.args)
    obtain rfl := Array.toList_inj.1 ecs
    clear ecs
    obtain ⟨op, md, fr, num, den, pr, tx, xs⟩ := x
    simp only [Ex.op, Ex.media, Ex.frame, Ex.num, Ex.den, Ex.param, Ex.text, Ex.args] at hm ht ha ⊢
    by_cases h0 : op = 0
    · subst h0; exact rex0 d IH md fr num den pr tx xs A na c S w hm ht ha
    by_cases h1 : op = 1
    · subst h1; exact rex1 d IH md fr num den pr tx xs A na c S w hm ht ha
    by_cases h2 : op = 2
    · subst h2; exact rex2 d IH md fr num den pr tx xs A na c S w hm ht ha
    by_cases h3 : op = 3
    · subst h3; exact rex3 d IH md fr num den pr tx xs A na c S w hm ht ha
    by_cases h4 : op = 4
    · subst h4; exact rex4 d IH md fr num den pr tx xs A na c S w hm ht ha
    by_cases h5 : op = 5
    · subst h5; exact rex5 d IH md fr num den pr tx xs A na c S w hm ht ha
    have Q := Lib.hid (show exOk (.mk op md fr num den pr tx xs) = false by
      rw [exOk_eq]
      have : fOk (.mk op md fr num den pr tx xs) xs.length = false := by unfold fOk; exact (if_neg h0).trans ((if_neg h1).trans ((if_neg h2).trans ((if_neg h3).trans ((if_neg h4).trans (if_neg h5)))))
      show (fOk (.mk op md fr num den pr tx xs) xs.length && _) = false
      rw [this]
      rfl)
    have g0 : (op == 0) = false := beq_eq_false_iff_ne.2 h0
    have g1 : (op == 1) = false := beq_eq_false_iff_ne.2 h1
    have g2 : (op == 2) = false := beq_eq_false_iff_ne.2 h2
    have g3 : (op == 3) = false := beq_eq_false_iff_ne.2 h3
    have g4 : (op == 4) = false := beq_eq_false_iff_ne.2 h4
    have g5 : (op == 5) = false := beq_eq_false_iff_ne.2 h5
    have k0 : Keep none_ w (w.alloc (.cells #[.int .i64 op, .string md, .int .i64 fr, .int .i64 num, .int .i64 den, .int .i64 pr, .string tx, .slice A na c] 89)) := (Keep.refl _ _).alloc _
    clear ha IH h0 h1 h2 h3 h4 h5
    go_enter Tryz.func36, Tryz.ntmps36
    go_wp2
    go_ret
    exact ⟨ret_bool Q.out.symm, k0⟩
end Go.Proofs.YtnefbeplgfdkkaaGreatDoor
