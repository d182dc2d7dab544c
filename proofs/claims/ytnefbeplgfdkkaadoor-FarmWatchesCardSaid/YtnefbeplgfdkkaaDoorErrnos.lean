/-
  cutroomlaw37.errnos: are two lists of errors equal?
-/
import Derived.Test.YtnefbeplgfdkkaaDoorGen
namespace Go.Proofs.YtnefbeplgfdkkaaDoor
open Go.RowKit

theorem Row.ints {w : World} {S : Nat → Prop} {A : Option Addr} {n c : Nat} {l : List Int} (h : Row w S 1 A n c (l.map (Value.int .i64))) (hn : 0 < n) : ∃ b o, A = some ⟨b, o, none⟩ ∧ ¬ S b ∧ ∀ j, j < n → w.cell? ⟨b, o + j, none⟩ = some (.int .i64 (l.getD j 0)) := by
  obtain ⟨b, o, e, hb, hc⟩ := h.at_ hn
  refine ⟨b, o, e, hb, fun j hj => hc j _ ?_⟩
  have hl : j < l.length := by have := h.len; simp at this; omega
  simp [hl]
set_option maxHeartbeats 400000 in
theorem errnos_any (xs ys : List Int) (A B : Option Addr) (n c m d : Nat) (S : Nat → Prop) (w : World) (h1 : Row w S 1 A n c (xs.map (Value.int .i64))) (h2 : Row w S 1 B m d (ys.map (Value.int .i64))) :
    Calls Tryd.prog 11 #[.slice A n c, .slice B m d] w fun e w' => e = .returned (.bool (decide (xs = ys))) ∧ Keep none_ w w' := by
  have l1 : xs.length = n := by have := h1.len; simp at this; omega
  have l2 : ys.length = m := by have := h2.len; simp at this; omega
  have q1 := h1.cap
  have q2 := h1.le
  have q3 := h2.cap
  have q4 := h2.le
  unfold maxLen at q1 q3
  have L1 := Lib.hid l1
  have L2 := Lib.hid l2
  have H1 := Lib.hid h1
  have H2 := Lib.hid h2
  clear l1 l2 h1 h2
  by_cases hnm : n = m
  · subst hnm
    go_enter Tryd.func11, Tryd.ntmps11
    go_wp2
    go_loopw [13] (fun i wr => ∃ k : Nat, k ≤ n ∧ i = .int .i64 k ∧ (∀ j, j < k → xs.getD j 0 = ys.getD j 0) ∧ Keep none_ w wr) (fun i _ => n - (intOf i).toNat)
    case atStart => exact ⟨0, Nat.zero_le _, rfl, fun j h => by omega, Keep.refl _ _⟩
    case round =>
      obtain ⟨k, hk, rfl, hall, hkr⟩ := hrel
      have ALL := Lib.hid hall
      clear hall
      by_cases hlt : k < n
      · have hlt' : (k : Int) < n := by omega
        obtain ⟨b, o, rfl, -, hc⟩ := H1.out.ints (by omega)
        obtain ⟨b', o', rfl, -, hc'⟩ := H2.out.ints (by omega)
        have y1 := hkr.cell (hc k hlt) (fun e => e)
        have y2 := hkr.cell (hc' k hlt) (fun e => e)
        have ne_ : xs.getD k 0 ≠ ys.getD k 0 → decide (xs = ys) = false := fun h => by
          rw [decide_eq_false_iff_not]
          rintro rfl
          exact h rfl
        have nx : xs.getD k 0 = ys.getD k 0 → ∀ j, j < k + 1 → xs.getD j 0 = ys.getD j 0 := fun h j hj => by
          by_cases hjk : j = k
          · rw [hjk]; exact h
          · exact ALL.out j (by omega)
        have NE := Lib.hid ne_
        have NX := Lib.hid nx
        generalize xs.getD k 0 = x at y1 NE NX
        generalize ys.getD k 0 = y at y2 NE NX
        clear hc hc' ne_ nx
        by_cases hxy : x = y
        · have hx' : (x != y) = false := by simp [hxy]
          have NXT := Lib.hid (NX.out hxy)
          clear hxy
          go_upto_region 6 with (fail)
          go_quiet (fail)
          go_wp2
          go_roundw
          case rel => exact ⟨k + 1, by omega, by go_num, NXT.out, hkr.drewN _⟩
          case measure => simp [intOf]; omega
        · have hx' : (x != y) = true := by simp [hxy]
          have NO := Lib.hid (NE.out hxy)
          go_upto_region 6 with (fail)
          go_quiet (fail)
          go_wp2
          go_ret
          exact ⟨ret_bool NO.out.symm, hkr.drewN _⟩
      · obtain rfl : k = n := by omega
        go_wp2
        go_ret
        refine ⟨ret_bool ?_, hkr⟩
        rw [eq_comm, decide_eq_true_eq]
        apply List.ext_getElem?
        intro j
        by_cases hj : j < k
        · have a1 : j < xs.length := by rw [L1.out]; exact hj
          have a2 : j < ys.length := by rw [L2.out]; exact hj
          have := ALL.out j hj
          simpa [a1, a2] using this
        · rw [List.getElem?_eq_none (by rw [L1.out]; omega), List.getElem?_eq_none (by rw [L2.out]; omega)]
  · have hn' : ((n : Int) != m) = true := by simp; omega
    have NO := Lib.hid (show decide (xs = ys) = false by rw [decide_eq_false_iff_not]; rintro rfl; exact hnm (L1.out.symm.trans L2.out))
    go_enter Tryd.func11, Tryd.ntmps11
    go_wp2
    go_ret
    exact ⟨ret_bool NO.out.symm, Keep.refl _ _⟩
end Go.Proofs.YtnefbeplgfdkkaaDoor
