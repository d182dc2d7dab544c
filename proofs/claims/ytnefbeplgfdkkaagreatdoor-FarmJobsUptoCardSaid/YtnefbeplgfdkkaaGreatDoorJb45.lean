/-
  cutroomref37.present.
-/
import Derived.Test.YtnefbeplgfdkkaaGreatDoorJb33
namespace Go.Proofs.YtnefbeplgfdkkaaGreatDoor
open Go.RowKit

/-- The facts of a region whose effects all leave what was there as it was. -/
def factCalm (wr : World) (ks : List Nat) (anc : Nat → List Nat) (T : Nat → Value → World → Prop) : Calm where
  R := fun _ => Keep none_
  G := fun _ => Keep none_ wr
  eff := ks
  T := fun k _ v w => T k v w
  anc := anc
  own := fun _ _ _ => False
theorem factCalm_good {wr : World} {ks : List Nat} {anc : Nat → List Nat} {T : Nat → Value → World → Prop} (hT : ∀ k v w w', T k v w → Keep none_ w w' → T k v w') : (factCalm wr ks anc T).Good :=
  ⟨fun _ _ h => h, fun _ _ _ h => h.size, fun _ _ _ _ _ _ _ _ h k => hT _ _ _ _ h k⟩
theorem factCalm_at {wr : World} {ks : List Nat} {anc : Nat → List Nat} {T : Nat → Value → World → Prop} (x : (factCalm wr ks anc T).Sub) : Keep none_ wr ((factCalm wr ks anc T).at_ x) := by
  obtain ⟨x, n, _, h⟩ := x
  exact h
theorem factCalm_some (wr : World) (ks : List Nat) (anc : Nat → List Nat) (T : Nat → Value → World → Prop) : Nonempty (factCalm wr ks anc T).Sub := ⟨⟨wr, 0, Nat.zero_le _, Keep.refl _ _⟩⟩

theorem filter_yes (l : List ByteArray) (x : ByteArray) (k : Nat) (hk : k < l.length) (h : strEq l[k] x = false) : (l.take (k + 1)).filter (fun y => !strEq y x) = (l.take k).filter (fun y => !strEq y x) ++ [l[k]] := by
  rw [List.take_succ_eq_append_getElem hk, List.filter_append]
  simp [h]
theorem filter_no (l : List ByteArray) (x : ByteArray) (k : Nat) (hk : k < l.length) (h : strEq l[k] x = true) : (l.take (k + 1)).filter (fun y => !strEq y x) = (l.take k).filter (fun y => !strEq y x) := by
  rw [List.take_succ_eq_append_getElem hk, List.filter_append]
  simp [h]
theorem filter_lt (l : List ByteArray) (x : ByteArray) : decide (((l.filter (fun y => !strEq y x)).length : Int) < l.length) = there l x := by
  unfold there
  cases h : l.any (fun y => strEq y x) with
  | true =>
    obtain ⟨y, hy, e⟩ := List.any_eq_true.1 h
    have : (l.filter (fun y => !strEq y x)).length < l.length := by
      rw [List.length_filter_lt_length_iff_exists]
      exact ⟨y, hy, by simpa using e⟩
    simp only [decide_eq_true_eq]
    omega
  | false =>
    have : l.filter (fun y => !strEq y x) = l := by
      rw [List.filter_eq_self]
      intro y hy
      rw [List.any_eq_false] at h
      simpa using h y hy
    rw [this]
    simp
theorem filter_erase : ∀ (l : List ByteArray) (x : ByteArray), Asc l → there l x = true → l.filter (fun y => !strEq y x) = l.eraseIdx (place l x)
  | [], x, _, h => by simp [there] at h
  | z :: l, x, ha, ht => by
    have ha' := (asc_pw (z :: l)).1 ha
    rw [List.pairwise_cons] at ha'
    unfold there at ht
    rw [List.any_cons, Bool.or_eq_true] at ht
    have rest : strEq z x = true → l.filter (fun y => !strEq y x) = l := fun hz => by
      rw [List.filter_eq_self]
      intro y hy
      have := ha'.1 y hy
      rw [strEq_iff.1 hz] at this
      have hne : strEq y x = false := strEq_false.2 (fun e => by rw [e, strLt_irrefl] at this; cases this)
      rw [hne]
      rfl
    cases hz : strEq z x with
    | true =>
      have hp : place (z :: l) x = 0 := by
        unfold place
        rw [strEq_iff.1 hz]
        simp [List.takeWhile, strLt_irrefl]
      rw [hp, List.filter_cons]
      simp only [hz, Bool.not_true, Bool.false_eq_true, if_false, List.eraseIdx_cons_zero]
      exact rest hz
    | false =>
      rw [hz] at ht
      have hl : there l x = true := by
        unfold there
        simpa using ht
      obtain ⟨y, hy, ey⟩ := List.any_eq_true.1 hl
      have hzx : strLt z x = true := by
        rw [← strEq_iff.1 ey]
        exact ha'.1 y hy
      have hp : place (z :: l) x = place l x + 1 := by
        unfold place
        simp [List.takeWhile, hzx]
      rw [hp, List.filter_cons]
      simp only [hz, Bool.not_false, if_true, List.eraseIdx_cons_succ]
      rw [filter_erase l x ((asc_pw l).2 ha'.2) hl]
theorem str_info : (Tryz.prog.info? 9).map (fun i => (i.zero, i.size, i.bytes)) = some (some (.string ⟨#[]⟩), 1, 16) := by kernel_rfl
theorem own_where {w : World} {base : Nat} {e : TypeId} {size n c : Nat} {A : Option Addr} {xs : List Value} (h : w.ownsRow base e size (.slice A n c) n xs) : (A = none ∧ n = 0 ∧ c = 0) ∨ ∃ b, A = some ⟨b, 0, none⟩ := by
  rcases h.2 with ⟨e1, h0⟩ | ⟨g, cap, cur, e1, -⟩
  · simp only [Value.slice.injEq] at e1
    exact .inl ⟨e1.1, h0, e1.2.2⟩
  · simp only [Value.slice.injEq] at e1
    exact .inr ⟨g, e1.1⟩

set_option maxRecDepth 100000 in
set_option maxHeartbeats 1000000 in
theorem rpresent_any (X : XP) (s : St) (vp vj vw v : Value) (base g : Nat) (S S' : Nat → Prop) (e : Ev) (w : World) (hk : e.kind = 2 ∨ e.kind = 3) (h : RAft X w base (orr S base) g vp vj vw s) (he : EvOf w S' v e) (ha : Asc s.present) (h16 : s.present.length ≤ 16) :
    Calls Tryz.prog 84 #[.pointer (some ⟨g, 0, none⟩), v] w (RMeth X base (orr S base) g (perE s e) (perS s e) w) := by
  obtain ⟨vn, vi, rfl, hns, his⟩ := he
  obtain ⟨An, nn, cn, rfl, -⟩ := hns
  obtain ⟨Ai, ni, ci, rfl, -⟩ := his
  obtain ⟨W0, hW0⟩ : ∃ W0, W0 = w.alloc (.cells #[.int .i64 e.kind, .string e.name, .string e.worker, .slice An nn cn, .int .i64 e.ticks, .slice Ai ni ci] 78) := ⟨_, rfl⟩
  have k0 : Keep none_ w W0 := hW0 ▸ (Keep.refl none_ w).alloc _
  have b0 : Blk W0 w.heap.size 78 #[.int .i64 e.kind, .string e.name, .string e.worker, .slice An nn cn, .int .i64 e.ticks, .slice Ai ni ci] := hW0 ▸ Blk.new _ _ _
  have a0 := h.keep k0
  obtain ⟨A, c, rfl, hr⟩ := own_row (S := none_) a0.strs (fun _ _ e => e)
  have q1 := hr.cap
  have q2 := hr.le
  unfold maxLen at q1
  have HA := Lib.hid a0
  have HR := Lib.hid hr
  have B0 := Lib.hid b0
  have K0 := Lib.hid k0
  have AS := Lib.hid ha
  have lb := a0.ge_
  have lg := a0.blk.lt
  have lw := k0.size
  have PE2 := Lib.hid (show e.kind = 2 → perE s e = arriveE s e.name ∧ perS s e = arriveS s e.name from fun h => by unfold perE perS; simp [h])
  have PE3 := Lib.hid (show e.kind = 3 → perE s e = leaveE s e.name ∧ perS s e = leaveS s e.name from fun h => by unfold perE perS; simp [h])
  clear h hr a0 b0 k0 ha
  go_enter Tryz.func84, Tryz.ntmps84
  go_upto_region 1 with (fail)
  rw [← hW0]
  clear hW0
  go_upto_region 3 with (fail)
  go_loopw [5, 6] (fun o i wr => ∃ k : Nat, k ≤ s.present.length ∧ i = .int .i64 k ∧ wr.ownsRow W0.heap.size 9 1 o ((s.present.take k).filter (fun y => !strEq y e.name)).length (((s.present.take k).filter (fun y => !strEq y e.name)).map Value.string) ∧ Keep none_ W0 wr) (fun _ i _ => s.present.length - (intOf i).toNat)
  case atStart => exact ⟨0, Nat.zero_le _, rfl, ⟨rfl, .inl ⟨rfl, rfl⟩⟩, Keep.refl _ _⟩
  case round =>
    obtain ⟨k, hk', rfl, hO, hkr⟩ := hrel
    have HO := Lib.hid hO
    have HK := Lib.hid hkr
    have g1 : wr.cell? ⟨g, 1, none⟩ = some (.slice A s.present.length c) := (HA.out.blk.keep hkr (fun e => e)).cell 1
    have d1 : wr.cell? ⟨w.heap.size, 1, none⟩ = some (.string e.name) := (B0.out.keep hkr (fun e => e)).cell 1
    have fl : ((s.present.take k).filter (fun y => !strEq y e.name)).length ≤ k := Nat.le_trans (List.length_filter_le _ _) (by simp; omega)
    obtain ⟨Ao, co, rfl, -⟩ := own_row (S := none_) hO (fun _ _ e => e)
    by_cases hlt : k < s.present.length
    · have hlt' : (k : Int) < s.present.length := by omega
      obtain ⟨b, o, rfl, -, hc⟩ := (HR.out.keep hkr).strs (by omega)
      have GY := Lib.hid (show s.present.getD k .empty = s.present[k] by rw [List.getD_eq_getElem?_getD, List.getElem?_eq_getElem hlt]; rfl)
      have cy := hc k hlt
      rw [GY.out] at cy
      have FY := Lib.hid (filter_yes s.present e.name k hlt)
      have FN := Lib.hid (filter_no s.present e.name k hlt)
      obtain ⟨y, hy⟩ : ∃ y, y = s.present[k] := ⟨_, rfl⟩
      rw [← hy] at cy FY FN
      clear hc GY hy hkr hO
      go_upto_region 5 with (fail)
      cases hs : strEq y e.name with
      | true =>
        have hs' : (y.toList == e.name.toList) = true := hs
        have NX := Lib.hid (FN.out hs)
        clear hs
        have gd := still_good (wr).drew
        have ne := still_some (wr).drew
        have hx := still_at (wr).drew
        refine wp_region_calm (stillCalm (wr).drew) [0, 1, 2, 3, 4, 5, 6, 7, 8, 9] [] 74 (by kernel_rfl) (by kernel_rfl) rfl gd rfl ?_
        simp only [pairs, List.filterMap_cons, List.filterMap_nil, List.getElem?_toArray, List.getElem?_cons_succ, List.getElem?_cons_zero, Option.map_some]
        repeat (refine Calm.walk_quiet ne rfl rfl rfl (fun K hK => ?_); go_big_quiet_op; refine hK _ ?_; clear hK K)
        intro w' hR _
        obtain rfl : w' = (wr).drew := hR.symm
        simp only [pickOps, List.filterMap_nil]
        clear gd ne hx hR
        go_wp2
        go_roundw
        case rel => exact ⟨k + 1, hlt, by go_num, by rw [NX.out]; exact own_keep HO.out (Keep.refl none_ _).drew (fun _ _ e => e), HK.out.drew⟩
        case measure => simp [intOf]; omega
      | false =>
        have hs' : (y.toList == e.name.toList) = false := hs
        have NX := Lib.hid (FY.out hs)
        clear hs
        have gd := still_good (wr).drew
        have ne := still_some (wr).drew
        have hx := still_at (wr).drew
        refine wp_region_calm (stillCalm (wr).drew) [0, 1, 2, 3, 4, 5, 6, 7, 8, 9] [] 74 (by kernel_rfl) (by kernel_rfl) rfl gd rfl ?_
        simp only [pairs, List.filterMap_cons, List.filterMap_nil, List.getElem?_toArray, List.getElem?_cons_succ, List.getElem?_cons_zero, Option.map_some]
        repeat (refine Calm.walk_quiet ne rfl rfl rfl (fun K hK => ?_); go_big_quiet_op; refine hK _ ?_; clear hK K)
        intro w' hR _
        obtain rfl : w' = (wr).drew := hR.symm
        simp only [pickOps, List.filterMap_nil]
        clear gd ne hx hR
        obtain ⟨wd, hwd⟩ : ∃ wd, wd = wr.drew := ⟨_, rfl⟩
        have kd : Keep none_ wr wd := hwd ▸ (Keep.refl none_ wr).drew
        rw [← hwd]
        clear hwd
        replace g1 := kd.cell g1 (fun e => e)
        replace cy := kd.cell cy (fun e => e)
        have HO1 := Lib.hid (own_keep HO.out kd (fun _ _ e => e))
        have HK1 := Lib.hid (HK.out.trans kd)
        have lk := HK1.out.size
        clear d1 kd HO HK
        have KA : Keep none_ wd (wd.alloc (.cells #[.string y] 9)) := (Keep.refl none_ wd).alloc _
        have HO2 := Lib.hid (own_keep HO1.out KA (fun _ _ e => e))
        have t1 : True := trivial
        go_upto_region 4 with (have _t := t1; refine wpList_append_blk (.tmp 27) (.tmp 35) 44 9 rfl rfl W0.heap.size (.string ⟨#[]⟩) 1 16 Tryz.underlying44 str_info rfl (by decide) (.slice Ao _ co) _ _ rfl HO2.out wd.heap.size #[.string y] rfl (Blk.new _ _ _) rfl (by simp [Value.oneCell']) (by omega) (by simp; omega) ?_; intro A6 c6 w6 o6 k6; have O6 := Lib.hid o6; have K6 := Lib.hid k6; clear o6 k6; go_frame; clear _t t1)
        have kk : Keep none_ W0 w6 := (HK1.out.trans KA).then K6.out (fun b e => .inr (own_ge HO2.out b e))
        go_wp2
        go_roundw
        case rel =>
          refine ⟨k + 1, hlt, by go_num, ?_, kk⟩
          rw [NX.out, List.length_append, List.map_append]
          exact O6.out
        case measure => simp [intOf]; omega
    · obtain rfl : k = s.present.length := by omega
      have TL := Lib.hid (show s.present.take s.present.length = s.present from List.take_length)
      rw [TL.out] at HO fl
      rw [TL.out]
      have FL := Lib.hid (filter_lt s.present e.name)
      obtain ⟨m, hm⟩ : ∃ m, m = (s.present.filter (fun y => !strEq y e.name)).length := ⟨_, rfl⟩
      have HM := Lib.hid hm
      rw [← hm] at FL HO fl
      rw [← hm]
      have d0 : wr.cell? ⟨w.heap.size, 0, none⟩ = some (.int .i64 e.kind) := (B0.out.keep hkr (fun e => e)).cell 0
      have HA1 := Lib.hid (HA.out.keep hkr)
      have KW := Lib.hid (K0.out.trans hkr)
      have f1 : wr.frozen? ⟨g, 1, none⟩ = false := HA1.out.blk.frozen 1
      clear hO hkr hm hlt
      rcases hk with hkd | hkd
      · obtain ⟨p1, p2⟩ := PE2.out hkd
        rw [hkd] at d0
        clear hkd PE2 PE3
        cases ht : there s.present e.name with
        | true =>
          rw [ht] at FL
          have E1 := Lib.hid (show perE s e = 0 by rw [p1]; unfold arriveE; rw [if_pos ht])
          have E2 := Lib.hid (show perS s e = s by rw [p2]; unfold arriveS; rw [if_pos ht])
          have lt' : (m : Int) < s.present.length := of_decide_eq_true FL.out
          have IN := Lib.hid (fun wx (kx : Keep none_ wr wx) => rinsert_any s.present e.name A s.present.length c none_ wx AS.out (by omega) ((HR.out.keep HK.out).keep kx))
          have HT := Lib.hid ht
          clear p1 p2 ht
          go_upto_region 15 with (fail)
          have gd := factCalm_good (wr := wr) (ks := [7]) (anc := fun _ => []) (T := fun _ v _ => v = .slice A s.present.length c) (fun _ _ _ _ h _ => h)
          have ne := factCalm_some wr [7] (fun _ => []) (fun _ v _ => v = .slice A s.present.length c)
          have x1 := fun y => (factCalm_at (wr := wr) (ks := [7]) (anc := fun _ => []) (T := fun _ v _ => v = .slice A s.present.length c) y).cell g1 (fun e => e)
          have x2 := fun y => (factCalm_at (wr := wr) (ks := [7]) (anc := fun _ => []) (T := fun _ v _ => v = .slice A s.present.length c) y).cell d1 (fun e => e)
          refine wp_region_calm (factCalm wr [7] (fun _ => []) (fun _ v _ => v = .slice A s.present.length c)) [0, 1, 2, 3, 4, 5, 6, 7, 8, 9] [10] 74 (by kernel_rfl) (by kernel_rfl) rfl gd (Keep.refl _ _).drew ?_
          simp only [pairs, List.filterMap_cons, List.filterMap_nil, List.getElem?_toArray, List.getElem?_cons_succ, List.getElem?_cons_zero, Option.map_some]
          repeat (refine Calm.walk_quiet ne rfl rfl rfl (fun K hK => ?_); go_big_quiet_op; refine hK _ ?_; clear hK K)
          refine Calm.walk_eff rfl rfl (fun n wy hn hG _ => ?_) ?_
          · have hG' : Keep none_ wr wy := hG
            unfold gives
            go_simp
            refine (IN.out wy hG').mono ?_
            rintro e w' ⟨v', rfl, i1, i2, k'⟩
            exact ⟨_, rfl, i1 HT.out, k', hG'.trans k', fun _ h => h.elim⟩
          intro vq wy hT
          obtain rfl : vq = .slice A s.present.length c := hT
          clear wy
          go_frame
          repeat (refine Calm.walk_quiet ne rfl rfl rfl (fun K hK => ?_); go_big_quiet_op; refine hK _ ?_; clear hK K)
          intro w9 hG hD
          have k9 : Keep none_ wr w9 := hG
          have K9 := Lib.hid k9
          have g9 := k9.cell g1 (fun e => e)
          have HA9 := Lib.hid (HA1.out.keep k9)
          have f9 : w9.frozen? ⟨g, 1, none⟩ = false := HA9.out.blk.frozen 1
          clear hG hD gd ne x1 x2 k9 g1 d1 d0 f1
          simp only [pickOps, List.filterMap_cons, List.filterMap_nil, List.getElem?_toArray, List.getElem?_cons_succ, List.getElem?_cons_zero]
          obtain ⟨r1, r2⟩ := HA9.out.newStrs HA9.out.strs
          have R1 := Lib.hid r1
          have R2 := Lib.hid r2
          clear r1 r2
          go_wp2
          go_ret
          exact ⟨_, _, _, ret_int E1.out.symm, by rw [E2.out]; exact R1.out, (KW.out.trans K9.out).weak.trans R2.out⟩
        | false =>
          rw [ht] at FL
          have lt' : ¬ (m : Int) < s.present.length := of_decide_eq_false FL.out
          have lt2 : decide ((m : Int) < s.present.length) = false := FL.out
          by_cases h6 : s.present.length = 16
          · have E1 := Lib.hid (show perE s e = 18 by rw [p1]; unfold arriveE; rw [if_neg (by rw [ht]; decide), if_pos (by omega)])
            have E2 := Lib.hid (show perS s e = s by rw [p2]; unfold arriveS; rw [if_neg (by rw [ht]; decide), if_pos (by omega)])
            have h6' : (s.present.length : Int) = 16 := by omega
            have h6d : decide ((s.present.length : Int) = 16) = true := decide_eq_true h6'
            have lt3 : decide ((m : Int) < 16) = false := decide_eq_false (by omega)
            have lt4 : ¬ (m : Int) < 16 := by omega
            clear p1 p2 ht
            go_wp2
            go_ret
            exact ⟨_, _, _, ret_int E1.out.symm, by rw [E2.out]; exact HA1.out, KW.out.weak⟩
          · have E1 := Lib.hid (show perE s e = 0 by rw [p1]; unfold arriveE; rw [if_neg (by rw [ht]; decide), if_neg (by omega)])
            have E2 := Lib.hid (show perS s e = { s with present := insAt s.present e.name } by rw [p2]; unfold arriveS; rw [if_neg (by rw [ht]; decide), if_neg (by omega)])
            have h6' : ¬ (s.present.length : Int) = 16 := by omega
            have h6d : decide ((s.present.length : Int) = 16) = false := decide_eq_false h6'
            have IN := Lib.hid (fun wx (kx : Keep none_ wr wx) => rinsert_any s.present e.name A s.present.length c none_ wx AS.out (by omega) ((HR.out.keep HK.out).keep kx))
            have HT := Lib.hid ht
            have lwr := HK.out.size
            clear p1 p2 ht
            go_upto_region 15 with (fail)
            have gd := factCalm_good (wr := wr) (ks := [7]) (anc := fun _ => []) (T := fun _ v wq => wq.ownsRow base 9 1 v (insAt s.present e.name).length ((insAt s.present e.name).map Value.string)) (fun _ _ _ _ h k => own_keep h k (fun _ _ e => e))
            have ne := factCalm_some wr [7] (fun _ => []) (fun _ v wq => wq.ownsRow base 9 1 v (insAt s.present e.name).length ((insAt s.present e.name).map Value.string))
            have x1 := fun y => (factCalm_at (wr := wr) (ks := [7]) (anc := fun _ => []) (T := fun _ v wq => wq.ownsRow base 9 1 v (insAt s.present e.name).length ((insAt s.present e.name).map Value.string)) y).cell g1 (fun e => e)
            have x2 := fun y => (factCalm_at (wr := wr) (ks := [7]) (anc := fun _ => []) (T := fun _ v wq => wq.ownsRow base 9 1 v (insAt s.present e.name).length ((insAt s.present e.name).map Value.string)) y).cell d1 (fun e => e)
            refine wp_region_calm (factCalm wr [7] (fun _ => []) (fun _ v wq => wq.ownsRow base 9 1 v (insAt s.present e.name).length ((insAt s.present e.name).map Value.string))) [0, 1, 2, 3, 4, 5, 6, 7, 8, 9] [10] 74 (by kernel_rfl) (by kernel_rfl) rfl gd (Keep.refl _ _).drew ?_
            simp only [pairs, List.filterMap_cons, List.filterMap_nil, List.getElem?_toArray, List.getElem?_cons_succ, List.getElem?_cons_zero, Option.map_some]
            repeat (refine Calm.walk_quiet ne rfl rfl rfl (fun K hK => ?_); go_big_quiet_op; refine hK _ ?_; clear hK K)
            refine Calm.walk_eff rfl rfl (fun n wy hn hG _ => ?_) ?_
            · have hG' : Keep none_ wr wy := hG
              unfold gives
              go_simp
              refine (IN.out wy hG').mono ?_
              rintro e w' ⟨v', rfl, i1, i2, k'⟩
              have := hG'.size
              exact ⟨_, rfl, own_base (i2 HT.out) (by omega), k', hG'.trans k', fun _ h => h.elim⟩
            intro vq wy hT
            obtain ⟨Aq, cq, rfl, -⟩ := own_row (S := none_) (show wy.ownsRow base 9 1 vq (insAt s.present e.name).length ((insAt s.present e.name).map Value.string) from hT) (fun _ _ e => e)
            clear hT wy
            go_frame
            repeat (refine Calm.walk_quiet ne rfl rfl rfl (fun K hK => ?_); go_big_quiet_op; refine hK _ ?_; clear hK K)
            intro w9 hG hD
            have k9 : Keep none_ wr w9 := hG
            have K9 := Lib.hid k9
            have o9 : w9.ownsRow base 9 1 (.slice Aq (insAt s.present e.name).length cq) (insAt s.present e.name).length ((insAt s.present e.name).map Value.string) := (hD.1 7 rfl _ rfl ⟨rfl, rfl⟩).1
            have g9 := k9.cell g1 (fun e => e)
            have HA9 := Lib.hid (HA1.out.keep k9)
            have f9 : w9.frozen? ⟨g, 1, none⟩ = false := HA9.out.blk.frozen 1
            obtain ⟨r1, r2⟩ := HA9.out.newStrs o9
            have R1 := Lib.hid r1
            have R2 := Lib.hid r2
            clear hG hD gd ne x1 x2 k9 g1 d1 d0 f1 r1 r2 o9
            simp only [pickOps, List.filterMap_cons, List.filterMap_nil, List.getElem?_toArray, List.getElem?_cons_succ, List.getElem?_cons_zero]
            go_wp2
            go_ret
            exact ⟨_, _, _, ret_int E1.out.symm, by rw [E2.out]; exact R1.out, (KW.out.trans K9.out).weak.trans R2.out⟩
      · obtain ⟨p1, p2⟩ := PE3.out hkd
        rw [hkd] at d0
        clear hkd PE2 PE3
        cases ht : there s.present e.name with
        | true =>
          rw [ht] at FL
          have E1 := Lib.hid (show perE s e = 0 by rw [p1]; unfold leaveE; rw [if_pos ht])
          have E2 := Lib.hid (show perS s e = { s with present := s.present.filter (fun y => !strEq y e.name) } by rw [p2]; unfold leaveS; rw [if_pos ht, filter_erase _ _ AS.out ht])
          have lt' : (m : Int) < s.present.length := of_decide_eq_true FL.out
          have lwr := HK.out.size
          have o9 := own_base HO.out (show base ≤ W0.heap.size by omega)
          rw [HM.out] at o9
          obtain ⟨r1, r2⟩ := HA1.out.newStrs o9
          have R1 := Lib.hid r1
          have R2 := Lib.hid r2
          rw [← HM.out] at R1 R2
          clear p1 p2 ht o9 r1 r2
          go_wp2
          go_ret
          exact ⟨_, _, _, ret_int E1.out.symm, by rw [E2.out]; exact R1.out, KW.out.weak.trans R2.out⟩
        | false =>
          rw [ht] at FL
          have lt' : ¬ (m : Int) < s.present.length := of_decide_eq_false FL.out
          have lt2 : decide ((m : Int) < s.present.length) = false := FL.out
          have E1 := Lib.hid (show perE s e = 7 by rw [p1]; unfold leaveE; rw [ht]; rfl)
          have E2 := Lib.hid (show perS s e = s by rw [p2]; unfold leaveS; rw [ht]; rfl)
          clear p1 p2 ht
          go_wp2
          go_ret
          exact ⟨_, _, _, ret_int E1.out.symm, by rw [E2.out]; exact HA1.out, KW.out.weak⟩
end Go.Proofs.YtnefbeplgfdkkaaGreatDoor
