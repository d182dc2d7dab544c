/-
  (State).present: are all of these media there?
-/
import Derived.Test.YtnefbeplgfdkkaaGreatDoorOrder
import Derived.Test.YtnefbeplgfdkkaaGreatDoorState
namespace Go.Proofs.YtnefbeplgfdkkaaGreatDoor
open Go.RowKit

def hasAll (l needs : List ByteArray) : Bool := needs.all fun x => l.any fun y => strEq y x

set_option maxHeartbeats 1000000 in
theorem present_any (now : Int) (l needs : List ByteArray) (A B : Option Addr) (n c m d : Nat) (vj vw : Value) (w : World) (h : Row w none_ 1 A n c (l.map Value.string)) (h2 : Row w none_ 1 B m d (needs.map Value.string)) (ha : Asc l) (hs : l.length ≤ 64) :
    Calls Tryz.prog 70 #[.agg #[.int .i64 now, .slice A n c, vj, vw], .slice B m d] w fun e w' => e = .returned (.bool (hasAll l needs)) ∧ Keep none_ w w' := by
  have hl : needs.length = m := by have := h2.len; simp at this; omega
  have q1 := h2.cap
  have q2 := h2.le
  unfold maxLen at q1
  have HL := Lib.hid hl
  have HR := Lib.hid h
  have H2 := Lib.hid h2
  have HA := Lib.hid ha
  have HS := Lib.hid hs
  clear hl h h2 ha hs
  obtain ⟨W0, hW0⟩ : ∃ W0, W0 = w.alloc (.cells #[.int .i64 now, .slice A n c, vj, vw] 48) := ⟨_, rfl⟩
  have b0 : Blk W0 w.heap.size 48 #[.int .i64 now, .slice A n c, vj, vw] := hW0 ▸ Blk.new _ _ _
  have k0 : Keep none_ w W0 := hW0 ▸ (Keep.refl _ _).alloc _
  go_enter Tryz.func70, Tryz.ntmps70
  go_wp2
  rw [← hW0]
  clear hW0
  go_loopw [11] (fun i wr => ∃ k : Nat, k ≤ m ∧ i = .int .i64 k ∧ hasAll l (needs.take k) = true ∧ Keep none_ W0 wr) (fun i _ => m - (intOf i).toNat)
  case atStart => exact ⟨0, Nat.zero_le _, rfl, rfl, Keep.refl _ _⟩
  case round =>
    obtain ⟨k, hk, rfl, hall, hkr⟩ := hrel
    have ALL := Lib.hid hall
    clear hall
    have kw := k0.trans hkr
    by_cases hlt : k < m
    · have hlt' : (k : Int) < m := by omega
      obtain ⟨b, o, rfl, -, hc⟩ := H2.out.strs (by omega)
      have y1 := kw.cell (hc k hlt) (fun e => e)
      have y2 := (b0.keep hkr (fun e => e)).cell 1
      simp only [List.getElem?_toArray, List.getElem?_cons_zero, List.getElem?_cons_succ] at y2
      have hkl : k < needs.length := by rw [HL.out]; exact hlt
      have nx : hasAll l (needs.take (k + 1)) = l.any (fun y => strEq y (needs.getD k .empty)) := by
        have h1 := ALL.out
        unfold hasAll at h1 ⊢
        rw [List.take_succ_eq_append_getElem hkl, List.all_append, h1]
        simp [hkl]
      have no : hasAll l (needs.take (k + 1)) = false → hasAll l needs = false := fun h => all_part _ _ _ h
      have NX := Lib.hid nx
      have NO := Lib.hid no
      obtain ⟨x, hx⟩ : ∃ x, needs.getD k .empty = x := ⟨_, rfl⟩
      rw [hx] at y1 NX
      have SE := Lib.hid (search_any l x A n c none_ wr (HR.out.keep kw) (HA.out.mono x) HS.out)
      clear hc nx no hkl hx
      cases hf : l.any (fun y => strEq y x) with
      | true =>
        rw [hf] at NX
        have FD := Lib.hid (show ∀ p, Pos l x p → (decide (p < l.length) && strEq (l.getD p .empty) x) = true from fun p hp => by rw [hp.found HA.out]; exact hf)
        clear hf
        have t1 : True := trivial
        go_wp2_with (have _t := t1; go_at_call 96; refine SE.out.mono ?_; rintro e w5 ⟨p, hp, rfl, k5⟩; rw [FD.out p hp]; have k6 := Lib.hid k5; clear k5 hp _t t1)
        go_roundw
        case rel => exact ⟨k + 1, by omega, by go_num, NX.out, hkr.trans k6.out⟩
        case measure => simp [intOf]; omega
      | false =>
        rw [hf] at NX
        have FD := Lib.hid (show ∀ p, Pos l x p → (decide (p < l.length) && strEq (l.getD p .empty) x) = false from fun p hp => by rw [hp.found HA.out]; exact hf)
        clear hf
        have t1 : True := trivial
        go_wp2_with (have _t := t1; go_at_call 96; refine SE.out.mono ?_; rintro e w5 ⟨p, hp, rfl, k5⟩; rw [FD.out p hp]; have k6 := Lib.hid k5; clear k5 hp _t t1)
        go_ret
        exact ⟨ret_bool (NO.out NX.out).symm, kw.trans k6.out⟩
    · obtain rfl : k = m := by omega
      have ANS := Lib.hid (show hasAll l needs = true by have := ALL.out; rw [List.take_of_length_le (by rw [HL.out]; exact Nat.le_refl _)] at this; exact this)
      go_wp2
      go_ret
      exact ⟨ret_bool ANS.out.symm, kw⟩
end Go.Proofs.YtnefbeplgfdkkaaGreatDoor
