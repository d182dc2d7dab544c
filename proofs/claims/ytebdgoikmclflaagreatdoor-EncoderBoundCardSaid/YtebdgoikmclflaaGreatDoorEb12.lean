/-
  The reference's ValidSeq.
-/
import Derived.Test.YtebdgoikmclflaaGreatDoorEb11
namespace Go.Proofs.YtebdgoikmclflaaGreatDoor
open Go.RowKit

set_option maxRecDepth 100000 in
set_option maxHeartbeats 1000000 in
theorem validSeqR_any (s : Sq) (w : World) (ok : s.Ok) : Calls Tryz.prog 14 #[.agg s.cells] w fun e w' => e = .returned (.bool (seqOk s)) ∧ Keep none_ w w' := by
  obtain ⟨cs, hcs⟩ : ∃ cs, cs = s.cells := ⟨_, rfl⟩
  obtain ⟨W0, hW0⟩ : ∃ W0, W0 = w.alloc (.cells cs 26) := ⟨_, rfl⟩
  have k0 : Keep none_ w W0 := hW0 ▸ (Keep.refl _ _).alloc _
  have b0 : Blk W0 w.heap.size 26 s.cells := hcs ▸ hW0 ▸ Blk.new _ _ _
  rw [← hcs]
  clear hcs
  have q0 : ∀ w', Keep none_ W0 w' → w'.cell? ⟨w.heap.size, 0, none⟩ = some (.int .i64 s.W) := fun w' hk => (s.parts ok (b0.keep hk (fun e => e))).1.1
  have q1 : ∀ w', Keep none_ W0 w' → w'.cell? ⟨w.heap.size, 1, none⟩ = some (.int .i64 s.H) := fun w' hk => (s.parts ok (b0.keep hk (fun e => e))).1.2.1
  have q2 : ∀ w', Keep none_ W0 w' → w'.cell? ⟨w.heap.size, 2, none⟩ = some (.int .i64 s.Num) := fun w' hk => (s.parts ok (b0.keep hk (fun e => e))).1.2.2.1
  have q3 : ∀ w', Keep none_ W0 w' → w'.cell? ⟨w.heap.size, 3, none⟩ = some (.int .i64 s.Den) := fun w' hk => (s.parts ok (b0.keep hk (fun e => e))).1.2.2.2.1
  have q4 : ∀ w', Keep none_ W0 w' → w'.cell? ⟨w.heap.size, 4, none⟩ = some (.bool s.I) := fun w' hk => (s.parts ok (b0.keep hk (fun e => e))).1.2.2.2.2.1
  have q5 : ∀ w', Keep none_ W0 w' → w'.cell? ⟨w.heap.size, 5, none⟩ = some (.int .i64 s.BR) := fun w' hk => (s.parts ok (b0.keep hk (fun e => e))).1.2.2.2.2.2.1
  have q6 : ∀ w', Keep none_ W0 w' → w'.cell? ⟨w.heap.size, 6, none⟩ = some (.int .i64 s.Buf) := fun w' hk => (s.parts ok (b0.keep hk (fun e => e))).1.2.2.2.2.2.2
  have r7 : ∀ w', Keep none_ W0 w' → w'.rangeAt w.heap.size 7 (s.ia.map (Value.int .u8)) := fun w' hk => (s.parts ok (b0.keep hk (fun e => e))).2.1
  have r8 : ∀ w', Keep none_ W0 w' → w'.rangeAt w.heap.size 71 (s.ie.map (Value.int .u8)) := fun w' hk => (s.parts ok (b0.keep hk (fun e => e))).2.2
  clear b0
  have ans1 : ∀ x, seqOk x = (size_ x && rate x && bits x && !decide (2 * x.Num * x.Buf < 3 * x.Den * x.BR + 32 * x.Num) && ge8 x.ia && ge8 x.ie) := fun _ => rfl
  have ans2 : ∀ x, size_ x = (mbOk x.W 64 && mbOk x.H 64 && !(x.I && (x.H % 32 != 0))) := fun _ => rfl
  have ANS1 := Lib.hid ans1
  have ANS2 := Lib.hid ans2
  clear ans1 ans2
  obtain ⟨W, H, Num, Den, I, BR, Buf, ia, ie⟩ := s
  obtain ⟨l1, l2, n1, n2, d2⟩ := ok
  simp only at q0 q1 q2 q3 q4 q5 q6 r7 r8 l1 l2 n1 n2 d2
  have hk0 : Keep none_ W0 W0 := Keep.refl _ _
  go_enter Tryz.func14, Tryz.ntmps14
  go_upto_region 1 with (fail)
  rw [← hW0]
  clear hW0
  go_cut [2, 42] (fun _ x wx => x = .bool (!size_ ⟨W, H, Num, Den, I, BR, Buf, ia, ie⟩) ∧ Keep none_ W0 wx)
  case first =>
    by_cases x0 : W < 16
    · go_wp2_with fail
      go_meet
      case rel => exact ⟨congrArg Value.bool (by rw [ANS2.out, Bool.eq_iff_iff]; simp [mbOk]; omega), hk0⟩
    · by_cases x1 : 64 < W
      · go_wp2_with fail
        go_meet
        case rel => exact ⟨congrArg Value.bool (by rw [ANS2.out, Bool.eq_iff_iff]; simp [mbOk]; omega), hk0⟩
      · by_cases x2 : W % 16 ≠ 0
        · go_wp2_with fail
          go_meet
          case rel => exact ⟨congrArg Value.bool (by rw [ANS2.out, Bool.eq_iff_iff]; simp [mbOk]; omega), hk0⟩
        · by_cases x3 : H < 16
          · go_wp2_with fail
            go_meet
            case rel => exact ⟨congrArg Value.bool (by rw [ANS2.out, Bool.eq_iff_iff]; simp [mbOk]; omega), hk0⟩
          · by_cases x4 : 64 < H
            · go_wp2_with fail
              go_meet
              case rel => exact ⟨congrArg Value.bool (by rw [ANS2.out, Bool.eq_iff_iff]; simp [mbOk]; omega), hk0⟩
            · by_cases x5 : H % 16 ≠ 0
              · go_wp2_with fail
                go_meet
                case rel => exact ⟨congrArg Value.bool (by rw [ANS2.out, Bool.eq_iff_iff]; simp [mbOk]; omega), hk0⟩
              · cases I with
                | false =>
                  go_wp2_with fail
                  go_meet
                  case rel => exact ⟨congrArg Value.bool (by rw [ANS2.out, Bool.eq_iff_iff]; simp [mbOk]; omega), hk0⟩
                | true =>
                  go_wp2_with fail
                  go_meet
                  case rel => exact ⟨congrArg Value.bool (by rw [ANS2.out, Bool.eq_iff_iff]; simp [mbOk]; omega), hk0⟩
  case rest =>
    obtain ⟨rfl, hk1⟩ := hcut
    cases hs : size_ ⟨W, H, Num, Den, I, BR, Buf, ia, ie⟩ with
    | false =>
      go_wp2_with fail
      go_ret
      exact ⟨ret_bool (a := false) (by rw [ANS1.out, hs]; rfl), k0.trans hk1⟩
    | true =>
      have HS := Lib.hid hs
      clear hs
      go_upto_region 3 with (fail)
      go_cut [2, 64] (fun _ x wx => x = .bool (!rate ⟨W, H, Num, Den, I, BR, Buf, ia, ie⟩) ∧ Keep none_ W0 wx)
      case first =>
        go_wp2_with fail
        refine (ratValidR_any Num Den wc n1 n2 d2).mono ?_
        rintro e w2 ⟨rfl, hk2⟩
        replace hk2 := hk1.trans hk2
        cases hr : ratOk Num Den with
        | false =>
          go_wp2_with fail
          go_meet
          case rel => exact ⟨by simp [rate, hr], hk2⟩
        | true =>
          have HR := Lib.hid hr
          clear hr
          by_cases h1 : Num < 1
          · go_wp2_with fail
            go_meet
            case rel => exact ⟨by simp [rate]; omega, hk2⟩
          · by_cases h2 : 1048576 < Num
            · go_wp2_with fail
              go_meet
              case rel => exact ⟨by simp [rate]; omega, hk2⟩
            · go_wp2_with fail
              go_meet
              case rel => exact ⟨congrArg Value.bool (by rw [Bool.eq_iff_iff]; simp [rate, HR.out]; try omega), hk2⟩
      case rest =>
        clear hk1
        obtain ⟨rfl, hk1⟩ := hcut
        cases hs : rate ⟨W, H, Num, Den, I, BR, Buf, ia, ie⟩ with
        | false =>
          go_wp2_with fail
          go_ret
          exact ⟨ret_bool (a := false) (by rw [ANS1.out, hs]; simp), k0.trans hk1⟩
        | true =>
          have HT := Lib.hid hs
          have ho := rate_out hs
          simp only at ho
          obtain ⟨hn1, hn2, hd1, hd2⟩ := ho
          clear hs
          go_upto_region 5 with (fail)
          go_cut [2, 82] (fun _ x wx => x = .bool (!bits ⟨W, H, Num, Den, I, BR, Buf, ia, ie⟩) ∧ Keep none_ W0 wx)
          case first =>
            by_cases h1 : BR < 1
            · go_wp2_with fail
              go_meet
              case rel => exact ⟨by simp [bits]; omega, hk1⟩
            · by_cases h2 : 16777216 < BR
              · go_wp2_with fail
                go_meet
                case rel => exact ⟨by simp [bits]; omega, hk1⟩
              · by_cases h3 : Buf < 1
                · go_wp2_with fail
                  go_meet
                  case rel => exact ⟨by simp [bits]; omega, hk1⟩
                · go_wp2_with fail
                  go_meet
                  case rel => exact ⟨congrArg Value.bool (by rw [Bool.eq_iff_iff]; simp [bits]; omega), hk1⟩
          case rest =>
            clear hk1
            obtain ⟨rfl, hk1⟩ := hcut
            cases hs : bits ⟨W, H, Num, Den, I, BR, Buf, ia, ie⟩ with
            | false =>
              go_wp2_with fail
              go_ret
              exact ⟨ret_bool (a := false) (by rw [ANS1.out, hs]; simp), k0.trans hk1⟩
            | true =>
              have HU := Lib.hid hs
              have ho := bits_out hs
              simp only at ho
              obtain ⟨hb1, hb2, hb3, hb4⟩ := ho
              clear hs
              obtain ⟨p1, p2, p3, p4⟩ := seq_small hn1 hn2 hd1 hd2 hb1 hb2 hb3 hb4
              go_upto_region 7 with (fail)
              by_cases hlt : 2 * Num * Buf < 3 * Den * BR + 32 * Num
              · go_wp2_with fail
                go_ret
                exact ⟨ret_bool (a := false) (by rw [ANS1.out]; simp [hlt]), k0.trans hk1⟩
              · go_upto_region 9 with (fail)
                have i1 : (Tryz.prog.info? 24).map (·.size) = some (ia.map (Value.int .u8)).length := by rw [List.length_map, l1]; kernel_rfl
                have i2 : (Tryz.prog.info? 24).map (·.size) = some (ie.map (Value.int .u8)).length := by rw [List.length_map, l2]; kernel_rfl
                have I1 := Lib.hid i1
                have I2 := Lib.hid i2
                clear i1 i2
                go_wp2_with (refine wpList_load_mid rfl 24 (.tmp 103) rfl w.heap.size 7 rfl (ia.map (Value.int .u8)) _ (r7 _ hk1) Tryz.underlying24 rfl I1.out ?_)
                refine (quantR_any ia wc l1).mono ?_
                rintro e w3 ⟨rfl, hk3⟩
                replace hk3 := hk1.trans hk3
                cases hia : ge8 ia with
                | false =>
                  go_wp2_with fail
                  go_ret
                  exact ⟨ret_bool (a := false) (by rw [ANS1.out]; simp [hia]), k0.trans hk3⟩
                | true =>
                  go_wp2_with (refine wpList_load_mid_on rfl 24 (.tmp 107) rfl w.heap.size 71 rfl (ie.map (Value.int .u8)) _ (r8 _ hk3) Tryz.underlying24 rfl I2.out ?_)
                  refine (quantR_any ie w3 l2).mono ?_
                  rintro e w4 ⟨rfl, hk4⟩
                  replace hk4 := hk3.trans hk4
                  have fin : ge8 ie = seqOk ⟨W, H, Num, Den, I, BR, Buf, ia, ie⟩ := by
                    rw [ANS1.out, HS.out, HT.out, HU.out]
                    simp [hia]
                    omega
                  have FIN := Lib.hid fin
                  clear fin
                  go_wp2_with fail
                  go_ret
                  exact ⟨ret_bool FIN.out, k0.trans hk4⟩
end Go.Proofs.YtebdgoikmclflaaGreatDoor
