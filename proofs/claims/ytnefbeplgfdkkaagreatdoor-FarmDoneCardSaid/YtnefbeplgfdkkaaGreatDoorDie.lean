/-
  (*State).die.
-/
import Derived.Test.YtnefbeplgfdkkaaGreatDoorAft
namespace Go.Proofs.YtnefbeplgfdkkaaGreatDoor
open Go.RowKit

/-- The facts of a region with one call that answers v. -/
def callCalm (wr : World) (k : Nat) (u : Value) : Calm where
  R := fun _ => Keep none_
  G := fun _ => Keep none_ wr
  eff := [k]
  T := fun _ _ v _ => v = u
  anc := fun _ => []
  own := fun _ _ _ => False
theorem callCalm_good (wr : World) (k : Nat) (u : Value) : (callCalm wr k u).Good := ⟨fun _ _ h => h, fun _ _ _ h => h.size, fun _ _ _ _ _ _ _ _ h _ => h⟩
theorem callCalm_at {wr : World} {k : Nat} {u : Value} (x : (callCalm wr k u).Sub) : Keep none_ wr ((callCalm wr k u).at_ x) := by
  obtain ⟨x, n, _, h⟩ := x
  exact h
theorem callCalm_some (wr : World) (k : Nat) (u : Value) : Nonempty (callCalm wr k u).Sub := ⟨⟨wr, 0, Nat.zero_le _, Keep.refl _ _⟩⟩

/-- 37.3: die. -/
def dieS (s : St) (x : ByteArray) : St := if aliveE s.workers x = 0 then match s.workers[(wkIdx s.workers x).toNat]? with
  | some y => { s with workers := s.workers.set (wkIdx s.workers x).toNat ⟨y.name, true⟩ }
  | none => s
  else s

set_option maxRecDepth 100000 in
set_option maxHeartbeats 400000 in
theorem die_any (s : St) (vp vj vw : Value) (base : Bs) (g : Nat) (x : ByteArray) (w : World) (h : Aft w base g vp vj vw s) :
    Calls Tryz.prog 78 #[.pointer (some ⟨g, 0, none⟩), .string x] w (MethPost base g (aliveE s.workers x) (dieS s x) w) := by
  obtain ⟨A, c, rfl, hw⟩ := ElemsOf_wks (S := none_) h.wks (fun _ _ e => e)
  have c3 := h.blk.cell 3
  simp only [List.getElem?_toArray, List.getElem?_cons_zero, List.getElem?_cons_succ] at c3
  obtain ⟨-, h1, h2⟩ := hw.facts
  unfold maxLen at h2
  have AL := Lib.hid (alive_any s.workers A s.workers.length c g none_ x w c3 hw)
  have HA := Lib.hid h
  have HW := Lib.hid hw
  have ansS : dieS s x = if aliveE s.workers x = 0 then match s.workers[(wkIdx s.workers x).toNat]? with
    | some y => { s with workers := s.workers.set (wkIdx s.workers x).toNat ⟨y.name, true⟩ }
    | none => s
    else s := rfl
  by_cases h0 : aliveE s.workers x = 0
  · rcases idx_cases (fun y : Wk => strEq y.name x) s.workers with hi | ⟨k, hk, hi, -⟩
    · have : aliveE s.workers x = 7 := by unfold aliveE; rw [wkIdx, hi]; rfl
      omega
    · have e2 : dieS s x = { s with workers := s.workers.set k ⟨s.workers[k].name, true⟩ } := by
        rw [ansS, if_pos h0, wkIdx, hi, Int.toNat_natCast, List.getElem?_eq_getElem hk]
      rw [h0] at AL
      have E0 := Lib.hid h0
      obtain ⟨b, cap, cur, eV, hb1, hb2, hb3⟩ := own_cases h.wks (by omega)
      simp only [Value.slice.injEq, true_and] at eV
      obtain ⟨rfl, rfl⟩ := eV
      obtain ⟨b', o', eA, -, hkl, cs, -, hrg, hcs⟩ := hw.elem k hk
      simp only [Option.some.injEq, Addr.mk.injEq, and_true] at eA
      obtain ⟨rfl, rfl⟩ := eA
      have setE := wkCells_set s.workers k hk true
      generalize s.workers[k] = y at hcs e2 setE
      subst hcs
      have c1 : w.cell? ⟨b, 0 + k * 2 + 1, none⟩ = some (.bool y.dead) := hrg 1 _ rfl
      rw [Nat.zero_add] at c1
      have E2 := Lib.hid e2
      have SE := Lib.hid setE
      have HI := Lib.hid hi
      have hkn' : (k : Int) < s.workers.length := by omega
      clear ansS e2 hi hrg setE hb3 hw h h0
      go_enter Tryz.func78, Tryz.ntmps78
      go_upto_region 4 with (go_at_call 101; refine AL.out.mono ?_; rintro e w5 ⟨rfl, k5⟩)
      have d1 := k5.cell c1 (fun e => e)
      have d2 := k5.cell c3 (fun e => e)
      have hb5 := hb2.keep k5 (fun e => e)
      have H5 := Lib.hid (HA.out.keep k5)
      have W5 := Lib.hid (HW.out.keep k5)
      have K5 := Lib.hid k5
      clear k5 c1 c3 hb2
      have gd := callCalm_good w5 6 (.int .i64 k)
      have ne := callCalm_some w5 6 (.int .i64 k)
      have x1 := fun x => (callCalm_at (wr := w5) (k := 6) (u := .int .i64 k) x).cell d2 (fun e => e)
      refine wp_region_calm (callCalm w5 6 (.int .i64 k)) [0, 1, 2, 3, 4, 5, 6, 7, 8] [9] 21 (by kernel_rfl) (by kernel_rfl) rfl gd (Keep.refl _ _).drew ?_
      simp only [pairs, List.filterMap_cons, List.filterMap_nil, List.getElem?_toArray, List.getElem?_cons_succ, List.getElem?_cons_zero, Option.map_some]
      repeat (refine Calm.walk_quiet ne rfl rfl rfl (fun K hK => ?_); go_big_quiet_op; refine hK _ ?_; clear hK K)
      refine Calm.walk_eff rfl rfl (fun n w6 hn hG _ => ?_) ?_
      · have hG' : Keep none_ w5 w6 := hG
        unfold gives
        go_simp
        refine (worker_any s.workers (some ⟨b, 0, none⟩) s.workers.length c g none_ x w6 (hG'.cell d2 (fun e => e)) (W5.out.keep hG')).mono ?_
        rintro e w7 ⟨rfl, hk7⟩
        exact ⟨_, rfl, by rw [HI.out]; rfl, hk7, hG'.trans hk7, fun _ h => h.elim⟩
      rintro v w6 rfl
      clear w6
      go_frame
      repeat (refine Calm.walk_quiet ne rfl rfl rfl (fun K hK => ?_); go_big_quiet_op; refine hK _ ?_; clear hK K)
      intro w6 hG _
      have k56 : Keep none_ w5 w6 := hG
      clear hG ne gd x1
      replace d1 := k56.cell d1 (fun e => e)
      have d3 := (hb5.keep k56 (fun e => e)).frozen (k * 2 + 1)
      have H6 := Lib.hid (H5.out.keep k56)
      have K6 := Lib.hid (K5.out.trans k56)
      clear hb5 k56 d2
      simp only [pickOps, List.filterMap_cons, List.filterMap_nil, List.getElem?_toArray, List.getElem?_cons_succ, List.getElem?_cons_zero]
      go_wp2
      go_ret
      obtain ⟨q1, q2⟩ := H6.out.setWk (by omega) (k * 2 + 1) (.bool true) (by simp) SE.out
      exact ⟨_, _, _, ret_int (by rw [E0.out]), by rw [E2.out]; exact q1, K6.out.weak.trans q2⟩
  · have e2 : dieS s x = s := by rw [ansS, if_neg h0]
    have E2 := Lib.hid e2
    have h0' : (aliveE s.workers x != 0) = true := by simpa using h0
    clear ansS e2 hw h
    go_enter Tryz.func78, Tryz.ntmps78
    go_wp2_with (go_at_call 101; refine AL.out.mono ?_; rintro e w5 ⟨rfl, k5⟩)
    go_ret
    exact ⟨_, _, _, rfl, by rw [E2.out]; exact HA.out.keep k5, k5.weak⟩
end Go.Proofs.YtnefbeplgfdkkaaGreatDoor
