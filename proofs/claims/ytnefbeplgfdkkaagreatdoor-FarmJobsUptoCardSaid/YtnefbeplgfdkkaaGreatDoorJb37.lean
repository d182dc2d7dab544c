/-
  Plans: plan.Valid and the reference's.
-/
import Derived.Test.YtnefbeplgfdkkaaGreatDoorJb15
import Derived.Test.YtnefbeplgfdkkaaGreatDoorJb07
namespace Go.Proofs.YtnefbeplgfdkkaaGreatDoor
open Go.RowKit

/-- A part of a plan. -/
structure Pt where
  copy : Bool
  film : Int
  len : Int
  media : ByteArray
  from_ : Int
def PtOf (cs : List Value) (x : Pt) : Prop := cs = [.bool x.copy, .int .i64 x.film, .int .i64 x.len, .string x.media, .int .i64 x.from_]
def PartsOf (w : World) (S : Nat → Prop) (v : Value) (l : List Pt) : Prop := ElemsOf w S 5 PtOf v l
theorem PartsOf.keep {w w' : World} {S : Nat → Prop} {v : Value} {l : List Pt} (h : PartsOf w S v l) (k : Keep S w w') : PartsOf w' S v l := ElemsOf.keep h k (fun _ e => e) (fun _ _ h => h)
/-- 31.5: which plans are valid. -/
def srcOk (x : Pt) : Bool := if x.copy then decide (0 ≤ x.from_) && !strEq x.media ⟨#[]⟩ else decide (x.from_ = 0) && strEq x.media ⟨#[]⟩
def ptOk (n at_ : Int) (x : Pt) : Bool := decide (x.film = at_) && decide (1 ≤ x.len) && decide (x.len ≤ n - at_) && srcOk x
def planFrom (n : Int) : Int → List Pt → Option Int
  | at_, [] => some at_
  | at_, x :: r => if ptOk n at_ x then planFrom n (at_ + x.len) r else none
def planOk (n : Int) (l : List Pt) : Bool := decide (planFrom n 0 l = some n)
theorem planFrom_next {n a b : Int} {l : List Pt} {k : Nat} {x : Pt} (hk : l[k]? = some x) (h : planFrom n a l = planFrom n b (l.drop k)) : planFrom n a l = if ptOk n b x then planFrom n (b + x.len) (l.drop (k + 1)) else none := by
  rw [h]
  obtain ⟨hl, e⟩ := List.getElem?_eq_some_iff.1 hk
  rw [List.drop_eq_getElem_cons hl, e]
  rfl
theorem zero_pt (w : World) : (zeroValue 33).run Tryz.prog w = .ok (.agg #[.bool false, .int .i64 0, .int .i64 0, .string ⟨#[]⟩, .int .i64 0]) w := by kernel_rfl

set_option maxRecDepth 100000 in
set_option maxHeartbeats 400000 in
theorem source_any (x : Pt) (w : World) : Calls Tryz.prog 59 #[.agg #[.bool x.copy, .int .i64 x.film, .int .i64 x.len, .string x.media, .int .i64 x.from_]] w fun e w' => e = .returned (.bool (srcOk x)) ∧ Keep none_ w w' := by
  obtain ⟨cp, fm, ln, md, fr⟩ := x
  have k0 : Keep none_ w (w.alloc (.cells #[.bool cp, .int .i64 fm, .int .i64 ln, .string md, .int .i64 fr] 33)) := (Keep.refl _ _).alloc _
  cases cp with
  | true =>
    by_cases h1 : 0 ≤ fr
    · cases h2 : strEq md ⟨#[]⟩ with
      | false =>
        obtain ⟨n1, n2⟩ := empty_no h2
        have A := Lib.hid (show srcOk ⟨true, fm, ln, md, fr⟩ = true by simp [srcOk, h1, h2])
        clear h2
        go_enter Tryz.func59, Tryz.ntmps59
        go_wp2
        go_ret
        exact ⟨ret_bool A.out.symm, k0⟩
      | true =>
        have q := strEq_iff.1 h2
        subst q
        have A := Lib.hid (show srcOk ⟨true, fm, ln, ⟨#[]⟩, fr⟩ = false by simp [srcOk, h2])
        clear h2
        go_enter Tryz.func59, Tryz.ntmps59
        go_wp2
        go_ret
        exact ⟨ret_bool A.out.symm, k0⟩
    · have h1' : decide (0 ≤ fr) = false := decide_eq_false h1
      have A := Lib.hid (show srcOk ⟨true, fm, ln, md, fr⟩ = false by simp [srcOk, h1])
      go_enter Tryz.func59, Tryz.ntmps59
      go_wp2
      go_ret
      exact ⟨ret_bool A.out.symm, k0⟩
  | false =>
    by_cases h1 : fr = 0
    · subst h1
      cases h2 : strEq md ⟨#[]⟩ with
      | false =>
        obtain ⟨n1, n2⟩ := empty_no h2
        have A := Lib.hid (show srcOk ⟨false, fm, ln, md, 0⟩ = false by simp [srcOk, h2])
        clear h2
        go_enter Tryz.func59, Tryz.ntmps59
        go_wp2
        go_ret
        exact ⟨ret_bool A.out.symm, k0⟩
      | true =>
        have q := strEq_iff.1 h2
        subst q
        have A := Lib.hid (show srcOk ⟨false, fm, ln, ⟨#[]⟩, 0⟩ = true by simp [srcOk, h2])
        clear h2
        go_enter Tryz.func59, Tryz.ntmps59
        go_wp2
        go_ret
        exact ⟨ret_bool A.out.symm, k0⟩
    · have h1' : (fr == 0) = false := by simpa using h1
      have A := Lib.hid (show srcOk ⟨false, fm, ln, md, fr⟩ = false by simp [srcOk, h1])
      go_enter Tryz.func59, Tryz.ntmps59
      go_wp2
      go_ret
      exact ⟨ret_bool A.out.symm, k0⟩

set_option maxRecDepth 100000 in
set_option maxHeartbeats 1000000 in
theorem planValid_any (l : List Pt) (A : Option Addr) (nl c : Nat) (n : Nat) (S : Nat → Prop) (w : World) (h : PartsOf w S (.slice A nl c) l) (hn : n ≤ maxLen) :
    Calls Tryz.prog 30 #[.agg #[.slice A nl c], .int .i64 n] w fun e w' => e = .returned (.bool (planOk n l)) ∧ Keep none_ w w' := by
  obtain ⟨hl, hc1, hc2⟩ := ElemsOf.facts h
  unfold maxLen at hc2 hn
  obtain ⟨W0, hW0⟩ : ∃ W0, W0 = w.alloc (.cells #[.slice A nl c] 24) := ⟨_, rfl⟩
  have k0 : Keep none_ w W0 := hW0 ▸ (Keep.refl _ _).alloc _
  have b0 : Blk W0 w.heap.size 24 #[.slice A nl c] := hW0 ▸ Blk.new _ _ _
  have c0 : W0.cell? ⟨w.heap.size, 0, none⟩ = some (.slice A nl c) := b0.cell 0
  have HP := Lib.hid (h.keep k0.weak)
  have K0 := Lib.hid k0
  clear h k0 b0
  go_enter Tryz.func30, Tryz.ntmps30
  go_upto_region 1 with (fail)
  rw [← hW0]
  clear hW0
  go_wp2_with (fail)
  clear c0
  go_loopw [5, 11] (fun x i wr => ∃ (k : Nat) (at_ : Int), k ≤ nl ∧ i = .int .i64 k ∧ x = .int .i64 at_ ∧ 0 ≤ at_ ∧ at_ ≤ n ∧ planFrom n 0 l = planFrom n at_ (l.drop k) ∧ Keep none_ W0 wr) (fun _ i _ => nl - (intOf i).toNat)
  case atStart => exact ⟨0, 0, Nat.zero_le _, rfl, rfl, Int.le_refl _, by omega, rfl, Keep.refl _ _⟩
  case round =>
    obtain ⟨k, at_, hk, rfl, rfl, ha0, han, hpf, hkr⟩ := hrel
    have HK := Lib.hid hkr
    by_cases hlt : k < nl
    · have hlt' : (k : Int) < nl := by omega
      obtain ⟨b, o, rfl, -, hkl, cs, hcl, hrg, hcs⟩ := ElemsOf.elem (HP.out.keep hkr.weak) k hlt
      have NX := Lib.hid (planFrom_next (List.getElem?_eq_getElem hkl) hpf)
      generalize l[k] = x at hcs NX
      unfold PtOf at hcs
      subst hcs
      have RG := Lib.hid hrg
      clear hcl hrg hpf hkr
      have t1 : True := trivial
      have t2 : True := trivial
      go_upto_region 5 with (first | (have _t := t1; refine wpList_load_part 33 (.tmp 13) rfl rfl b (o + k * 5) (by first | rfl | simp) #[.bool x.copy, .int .i64 x.film, .int .i64 x.len, .string x.media, .int .i64 x.from_] _ RG.out Tryz.underlying33 rfl (by kernel_rfl) ?_; go_frame; clear _t t1) | (have _t := t2; refine wpList_store_blk rfl 33 (.tmp 7) (.tmp 14) rfl wr.heap.size 33 _ _ rfl rfl (Blk.new _ _ _) rfl (by kernel_rfl) (by simp [Value.oneCell']) ?_; intro w3 b3 k3 s3; go_frame; clear _t t2))
      have kr3 : Keep none_ wr w3 := ((Keep.refl none_ wr).alloc _).own k3 (Nat.le_refl _)
      have B3 := Lib.hid b3
      have K3 := Lib.hid (HK.out.trans kr3)
      have d1 : w3.cell? ⟨wr.heap.size, 1, none⟩ = some (.int .i64 x.film) := b3.cell 1
      have d2 : w3.cell? ⟨wr.heap.size, 2, none⟩ = some (.int .i64 x.len) := b3.cell 2
      have SR := Lib.hid (source_any x w3)
      clear k3 s3 b3 kr3 RG
      by_cases h1 : x.film = at_
      · rw [h1] at d1
        by_cases h2 : 1 ≤ x.len
        · have h2' : decide (x.len < 1) = false := decide_eq_false (by omega)
          by_cases h3 : x.len ≤ n - at_
          · have h3' : decide ((n : Int) - at_ < x.len) = false := decide_eq_false (by omega)
            cases h4 : srcOk x with
            | false =>
              have PO := Lib.hid (show planOk n l = false by unfold planOk; rw [NX.out]; simp [ptOk, h4])
              rw [h4] at SR
              clear h4 h1
              have t3 : True := trivial
              go_wp2_with (first | (have _t := t3; refine wpList_load_part 33 (.tmp 7) rfl rfl wr.heap.size 0 rfl #[.bool x.copy, .int .i64 x.film, .int .i64 x.len, .string x.media, .int .i64 x.from_] _ B3.out.rangeAt Tryz.underlying33 rfl (by kernel_rfl) ?_; go_frame; clear _t t3) | (go_at_call 59; refine SR.out.mono ?_; rintro e w4 ⟨rfl, k4⟩; have K4 := Lib.hid (K3.out.trans k4); clear k4))
              go_ret
              exact ⟨ret_bool PO.out.symm, K0.out.trans K4.out⟩
            | true =>
              have NY := Lib.hid (show planFrom n 0 l = planFrom n (at_ + x.len) (l.drop (k + 1)) by rw [NX.out, if_pos (by simp [ptOk, h1, h2, h3, h4])])
              rw [h4] at SR
              clear h4 h1
              have t3 : True := trivial
              go_wp2_with (first | (have _t := t3; refine wpList_load_part 33 (.tmp 7) rfl rfl wr.heap.size 0 rfl #[.bool x.copy, .int .i64 x.film, .int .i64 x.len, .string x.media, .int .i64 x.from_] _ B3.out.rangeAt Tryz.underlying33 rfl (by kernel_rfl) ?_; go_frame; clear _t t3) | (go_at_call 59; refine SR.out.mono ?_; rintro e w4 ⟨rfl, k4⟩; have d2 := k4.cell d2 (fun e => e); have K4 := Lib.hid (K3.out.trans k4); clear k4))
              go_roundw
              case rel => exact ⟨k + 1, at_ + x.len, hlt, by go_num, by go_num, by omega, by omega, NY.out, K4.out⟩
              case measure => simp [intOf]; omega
          · have h3' : decide ((n : Int) - at_ < x.len) = true := decide_eq_true (by omega)
            have PO := Lib.hid (show planOk n l = false by unfold planOk; rw [NX.out]; simp [ptOk, h3])
            clear h1
            go_wp2
            go_ret
            exact ⟨ret_bool PO.out.symm, K0.out.trans K3.out⟩
        · have h2' : decide (x.len < 1) = true := decide_eq_true (by omega)
          have PO := Lib.hid (show planOk n l = false by unfold planOk; rw [NX.out]; simp [ptOk, h2])
          clear h1
          go_wp2
          go_ret
          exact ⟨ret_bool PO.out.symm, K0.out.trans K3.out⟩
      · have h1' : (x.film != at_) = true := by simpa using h1
        have PO := Lib.hid (show planOk n l = false by unfold planOk; rw [NX.out]; simp [ptOk, h1])
        go_wp2
        go_ret
        exact ⟨ret_bool PO.out.symm, K0.out.trans K3.out⟩
    · obtain rfl : nl = k := by omega
      have PO := Lib.hid (show planOk n l = (at_ == (n : Int)) by unfold planOk; rw [hpf, List.drop_eq_nil_of_le (by omega)]; simp [planFrom]; rfl)
      clear hpf hkr hlt
      go_wp2
      go_ret
      exact ⟨ret_bool PO.out.symm, K0.out.trans HK.out⟩
set_option maxRecDepth 100000 in
set_option maxHeartbeats 1000000 in
theorem rplanValid_any (l : List Pt) (A : Option Addr) (nl c : Nat) (n : Nat) (S : Nat → Prop) (w : World) (h : PartsOf w S (.slice A nl c) l) (hn : n ≤ maxLen) :
    Calls Tryz.prog 35 #[.agg #[.slice A nl c], .int .i64 n] w fun e w' => e = .returned (.bool (planOk n l)) ∧ Keep none_ w w' := by
  obtain ⟨hl, hc1, hc2⟩ := ElemsOf.facts h
  unfold maxLen at hc2 hn
  obtain ⟨W0, hW0⟩ : ∃ W0, W0 = w.alloc (.cells #[.slice A nl c] 24) := ⟨_, rfl⟩
  have k0 : Keep none_ w W0 := hW0 ▸ (Keep.refl _ _).alloc _
  have b0 : Blk W0 w.heap.size 24 #[.slice A nl c] := hW0 ▸ Blk.new _ _ _
  have C0 := Lib.hid (show W0.cell? ⟨w.heap.size, 0, none⟩ = some (.slice A nl c) from b0.cell 0)
  have HP := Lib.hid (h.keep k0.weak)
  have K0 := Lib.hid k0
  clear h k0 b0
  go_enter Tryz.func35, Tryz.ntmps35
  go_upto_region 1 with (fail)
  rw [← hW0]
  clear hW0
  go_wp2_with (fail)
  go_loopw [5, 6] (fun x i wr => ∃ (k : Nat) (at_ : Int), k ≤ nl ∧ i = .int .i64 k ∧ x = .int .i64 at_ ∧ 0 ≤ at_ ∧ at_ ≤ n ∧ planFrom n 0 l = planFrom n at_ (l.drop k) ∧ Keep none_ W0 wr) (fun _ i _ => nl - (intOf i).toNat)
  case atStart => exact ⟨0, 0, Nat.zero_le _, rfl, rfl, Int.le_refl _, by omega, rfl, Keep.refl _ _⟩
  case round =>
    obtain ⟨k, at_, hk, rfl, rfl, ha0, han, hpf, hkr⟩ := hrel
    have HK := Lib.hid hkr
    have c0 := hkr.cell C0.out (fun e => e)
    by_cases hlt : k < nl
    · have hlt' : (k : Int) < nl := by omega
      obtain ⟨b, o, rfl, -, hkl, cs, hcl, hrg, hcs⟩ := ElemsOf.elem (HP.out.keep hkr.weak) k hlt
      have NX := Lib.hid (planFrom_next (List.getElem?_eq_getElem hkl) hpf)
      generalize l[k] = x at hcs NX
      unfold PtOf at hcs
      subst hcs
      have RG := Lib.hid hrg
      clear hcl hrg hpf hkr
      have t1 : True := trivial
      have t2 : True := trivial
      go_upto_region 6 with (first | (have _t := t1; refine wpList_load_part 33 (.tmp 18) rfl rfl b (o + k * 5) (by first | rfl | simp) #[.bool x.copy, .int .i64 x.film, .int .i64 x.len, .string x.media, .int .i64 x.from_] _ RG.out Tryz.underlying33 rfl (by kernel_rfl) ?_; go_frame; clear _t t1) | (have _t := t2; refine wpList_store_blk rfl 33 (.tmp 7) (.tmp 19) rfl wr.heap.size 33 _ _ rfl rfl (Blk.new _ _ _) rfl (by kernel_rfl) (by simp [Value.oneCell']) ?_; intro w3 b3 k3 s3; go_frame; clear _t t2))
      have kr3 : Keep none_ wr w3 := ((Keep.refl none_ wr).alloc _).own k3 (Nat.le_refl _)
      have K3 := Lib.hid (HK.out.trans kr3)
      have d0 : w3.cell? ⟨wr.heap.size, 0, none⟩ = some (.bool x.copy) := b3.cell 0
      have d1 : w3.cell? ⟨wr.heap.size, 1, none⟩ = some (.int .i64 x.film) := b3.cell 1
      have d2 : w3.cell? ⟨wr.heap.size, 2, none⟩ = some (.int .i64 x.len) := b3.cell 2
      have d3 : w3.cell? ⟨wr.heap.size, 3, none⟩ = some (.string x.media) := b3.cell 3
      have d4 : w3.cell? ⟨wr.heap.size, 4, none⟩ = some (.int .i64 x.from_) := b3.cell 4
      clear k3 s3 b3 kr3 RG c0
      by_cases h1 : x.film = at_
      · rw [h1] at d1
        by_cases h2 : 1 ≤ x.len
        · have h2' : decide (x.len < 1) = false := decide_eq_false (by omega)
          by_cases h3 : x.len ≤ n - at_
          · have h3' : decide ((n : Int) - at_ < x.len) = false := decide_eq_false (by omega)
            cases hcp : x.copy with
            | true =>
              rw [hcp] at d0
              by_cases hf : 0 ≤ x.from_
              · have hf' : decide (x.from_ < 0) = false := decide_eq_false (by omega)
                cases hm : strEq x.media ⟨#[]⟩ with
                | false =>
                  obtain ⟨n1, n2⟩ := empty_no hm
                  have h4 : srcOk x = true := by simp [srcOk, hcp, hf, hm]
                  clear hm hcp
                  have NY := Lib.hid (show planFrom n 0 l = planFrom n (at_ + x.len) (l.drop (k + 1)) by rw [NX.out, if_pos (by simp [ptOk, h1, h2, h3, h4])])
                  clear h4 h1
                  go_wp2
                  go_roundw
                  case rel => exact ⟨k + 1, at_ + x.len, hlt, by go_num, by go_num, by omega, by omega, NY.out, K3.out⟩
                  case measure => simp [intOf]; omega
                | true =>
                  have q := strEq_iff.1 hm
                  rw [q] at d3
                  have PO := Lib.hid (show planOk n l = false by unfold planOk; rw [NX.out]; simp [ptOk, srcOk, hcp, hm])
                  clear h1 hm hcp q
                  go_wp2
                  go_ret
                  exact ⟨ret_bool PO.out.symm, K0.out.trans K3.out⟩
              · have hf' : decide (x.from_ < 0) = true := decide_eq_true (by omega)
                have PO := Lib.hid (show planOk n l = false by unfold planOk; rw [NX.out]; simp [ptOk, srcOk, hcp, hf])
                clear h1 hcp
                go_wp2
                go_ret
                exact ⟨ret_bool PO.out.symm, K0.out.trans K3.out⟩
            | false =>
              rw [hcp] at d0
              by_cases hf : x.from_ = 0
              · rw [hf] at d4
                cases hm : strEq x.media ⟨#[]⟩ with
                | false =>
                  obtain ⟨n1, n2⟩ := empty_no hm
                  have PO := Lib.hid (show planOk n l = false by unfold planOk; rw [NX.out]; simp [ptOk, srcOk, hcp, hm])
                  clear h1 hm hcp hf
                  go_wp2
                  go_ret
                  exact ⟨ret_bool PO.out.symm, K0.out.trans K3.out⟩
                | true =>
                  have q := strEq_iff.1 hm
                  have h4 : srcOk x = true := by simp [srcOk, hcp, hf, hm]
                  rw [q] at d3
                  clear hm hcp hf q
                  have NY := Lib.hid (show planFrom n 0 l = planFrom n (at_ + x.len) (l.drop (k + 1)) by rw [NX.out, if_pos (by simp [ptOk, h1, h2, h3, h4])])
                  clear h4 h1
                  go_wp2
                  go_roundw
                  case rel => exact ⟨k + 1, at_ + x.len, hlt, by go_num, by go_num, by omega, by omega, NY.out, K3.out⟩
                  case measure => simp [intOf]; omega
              · have hf' : (x.from_ != 0) = true := by simpa using hf
                have PO := Lib.hid (show planOk n l = false by unfold planOk; rw [NX.out]; simp [ptOk, srcOk, hcp, hf])
                clear h1 hcp
                go_wp2
                go_ret
                exact ⟨ret_bool PO.out.symm, K0.out.trans K3.out⟩
          · have h3' : decide ((n : Int) - at_ < x.len) = true := decide_eq_true (by omega)
            have PO := Lib.hid (show planOk n l = false by unfold planOk; rw [NX.out]; simp [ptOk, h3])
            clear h1
            go_wp2
            go_ret
            exact ⟨ret_bool PO.out.symm, K0.out.trans K3.out⟩
        · have h2' : decide (x.len < 1) = true := decide_eq_true (by omega)
          have PO := Lib.hid (show planOk n l = false by unfold planOk; rw [NX.out]; simp [ptOk, h2])
          clear h1
          go_wp2
          go_ret
          exact ⟨ret_bool PO.out.symm, K0.out.trans K3.out⟩
      · have h1' : (x.film != at_) = true := by simpa using h1
        have PO := Lib.hid (show planOk n l = false by unfold planOk; rw [NX.out]; simp [ptOk, h1])
        go_wp2
        go_ret
        exact ⟨ret_bool PO.out.symm, K0.out.trans K3.out⟩
    · obtain rfl : nl = k := by omega
      have PO := Lib.hid (show planOk n l = (at_ == (n : Int)) by unfold planOk; rw [hpf, List.drop_eq_nil_of_le (by omega)]; simp [planFrom]; rfl)
      clear hpf hkr hlt
      go_wp2
      go_ret
      exact ⟨ret_bool PO.out.symm, K0.out.trans HK.out⟩
end Go.Proofs.YtnefbeplgfdkkaaGreatDoor
