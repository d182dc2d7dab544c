/-
  cutroomref37.ready.
-/
import Derived.Test.YtnefbeplgfdkkaaGreatDoorRu29
import Derived.Test.YtnefbeplgfdkkaaGreatDoorRu15
import Derived.Test.YtnefbeplgfdkkaaGreatDoorRu38
import Derived.Test.YtnefbeplgfdkkaaGreatDoorRu28
namespace Go.Proofs.YtnefbeplgfdkkaaGreatDoor
open Go.RowKit

set_option maxRecDepth 100000 in
set_option maxHeartbeats 2000000 in
theorem rready_any (s : St) (j : Jb) (v : Value) (cs : Array Value) (S S' : Nat → Prop) (w : World) (h : StateOf w S v s) (hj : JbOf w S' cs.toList j) :
    Calls Tryz.prog 50 #[v, .agg cs] w fun e w' => e = .returned (.bool (readyAt s j)) ∧ Keep none_ w w' := by
  obtain ⟨P1, P2, P3, P4, P5, P6, P7, P8, P9, rfl, gp, -, -⟩ := h.lists
  obtain ⟨vn, vi, hcs, hns, his⟩ := hj
  obtain rfl : cs = #[.string j.name, vn, .string j.worker, .int .i64 j.until_, .int .i64 j.tries, .bool j.done, vi] := by
    apply Array.toList_inj.1; exact hcs
  obtain ⟨W1, hW1⟩ : ∃ W1, W1 = (w.alloc (.cells #[.int .i64 s.now, .slice P1 P2 P3, .slice P4 P5 P6, .slice P7 P8 P9] 48)).alloc (.cells #[.string j.name, vn, .string j.worker, .int .i64 j.until_, .int .i64 j.tries, .bool j.done, vi] 57) := ⟨_, rfl⟩
  have k1 : Keep none_ w W1 := hW1 ▸ ((Keep.refl none_ w).alloc _).alloc _
  obtain ⟨b0, b1, -⟩ := two (Keep.refl none_ ((w.alloc (.cells #[.int .i64 s.now, .slice P1 P2 P3, .slice P4 P5 P6, .slice P7 P8 P9] 48)).alloc (.cells #[.string j.name, vn, .string j.worker, .int .i64 j.until_, .int .i64 j.tries, .bool j.done, vi] 57)))
  rw [← hW1] at b0 b1
  obtain ⟨An, nn, cn, rfl, hnr⟩ := hns
  obtain ⟨Ap, np, cp, ep, hpr⟩ := gp
  simp only [Value.slice.injEq] at ep
  obtain ⟨rfl, rfl, rfl⟩ := ep
  have hnl : j.needs.length = nn := by have := hnr.len; simp at this; omega
  have hpl : s.present.length = P2 := by have := hpr.len; simp at this; omega
  have q1 := hnr.cap
  have q2 := hnr.le
  have q3 := hpr.cap
  have q4 := hpr.le
  unfold maxLen at q1 q3
  have HN := Lib.hid (hnr.free.keep k1)
  have HP := Lib.hid (hpr.free.keep k1)
  have HNL := Lib.hid hnl
  have HPL := Lib.hid hpl
  have B0 := Lib.hid b0
  have B1 := Lib.hid b1
  have K1 := Lib.hid k1
  have ANS := Lib.hid (show readyAt s j = (!j.done && strEq j.worker ⟨#[]⟩ && decide (j.tries < 3) && hasAll s.present j.needs) from rfl)
  have HAS := Lib.hid (show hasAll s.present j.needs = j.needs.all (fun x => s.present.any (fun y => strEq y x)) from rfl)
  clear hnl hpl hnr hpr b0 b1 k1 h his
  go_enter Tryz.func50, Tryz.ntmps50
  go_upto_region 1 with (fail)
  rw [← hW1]
  clear hW1
  go_upto_region 2 with (fail)
  go_loopw [5] (fun i wr => ∃ k : Nat, k ≤ nn ∧ i = .int .i64 k ∧ (j.needs.take k).all (fun x => s.present.any (fun y => strEq y x)) = true ∧ Keep none_ W1 wr) (fun i _ => nn - (intOf i).toNat)
  case atStart => exact ⟨0, Nat.zero_le _, rfl, rfl, Keep.refl _ _⟩
  case round =>
    obtain ⟨k, hk, rfl, hall, hkr⟩ := hrel
    have HA := Lib.hid hall
    have HK := Lib.hid hkr
    have d1 : wr.cell? ⟨w.heap.size + 1, 1, none⟩ = some (.slice An nn cn) := (B1.out.keep hkr (fun e => e)).cell 1
    clear hall
    by_cases hlt : k < nn
    · have hlt' : (k : Int) < nn := by omega
      have hkl : k < j.needs.length := by rw [HNL.out]; exact hlt
      have A2 := Lib.hid (take_all_succ (fun x => s.present.any (fun y => strEq y x)) j.needs k hkl)
      obtain ⟨bn, on, rfl, -, hcn⟩ := HN.out.strs (by omega)
      have GX := Lib.hid (show j.needs.getD k .empty = j.needs[k] by rw [List.getD_eq_getElem?_getD, List.getElem?_eq_getElem hkl]; rfl)
      have cx := hcn k hlt
      rw [GX.out] at cx
      have PART := Lib.hid (fun (hx : s.present.any (fun y => strEq y j.needs[k]) = false) => (show j.needs.all (fun x => s.present.any (fun y => strEq y x)) = false from List.all_eq_false.2 ⟨_, List.getElem_mem hkl, by simpa using hx⟩))
      generalize j.needs[k] = x at A2 cx PART
      clear hcn GX hkr
      have CX := Lib.hid cx
      clear cx
      go_upto_region 6 with (fail)
      clear d1
      go_loopw [6, 7] (fun f i wq => ∃ m : Nat, m ≤ P2 ∧ i = .int .i64 m ∧ f = .bool ((s.present.take m).any (fun y => strEq y x)) ∧ Keep none_ W1 wq) (fun f i _ => P2 - (intOf i).toNat)
      case atStart => exact ⟨0, Nat.zero_le _, rfl, rfl, HK.out⟩
      case round =>
        clear HK
        obtain ⟨m, hm, rfl, rfl, hkr⟩ := hrel
        have HK := Lib.hid hkr
        have d0 : wr.cell? ⟨w.heap.size, 1, none⟩ = some (.slice P1 P2 P3) := (B0.out.keep hkr (fun e => e)).cell 1
        have d1 : wr.cell? ⟨w.heap.size + 1, 1, none⟩ = some (.slice (some ⟨bn, on, none⟩) nn cn) := (B1.out.keep hkr (fun e => e)).cell 1
        by_cases hltm : m < P2
        · have hltm' : (m : Int) < P2 := by omega
          have hml : m < s.present.length := by rw [HPL.out]; exact hltm
          have A3 := Lib.hid (take_any_succ (fun y => strEq y x) s.present m hml)
          obtain ⟨bp, op, rfl, -, hcp⟩ := (HP.out.keep hkr).strs (by omega)
          have GY := Lib.hid (show s.present.getD m .empty = s.present[m] by rw [List.getD_eq_getElem?_getD, List.getElem?_eq_getElem hml]; rfl)
          have cy := hcp m hltm
          rw [GY.out] at cy
          have cx := hkr.cell CX.out (fun e => e)
          generalize s.present[m] = y at A3 cy
          clear hcp GY hkr
          cases hf : (s.present.take m).any (fun y => strEq y x) with
          | true =>
            have NX := Lib.hid (show (s.present.take (m + 1)).any (fun y => strEq y x) = true by rw [A3.out, hf]; rfl)
            clear hf
            go_upto_region 8 with (fail)
            have gd := still_good (wr).drew
            have ne := still_some (wr).drew
            have hx := still_at (wr).drew
            refine wp_region_calm (stillCalm (wr).drew) [0, 1, 2, 3, 4, 5, 6, 7, 8, 9, 10, 11, 12, 13] [14] 51 (by kernel_rfl) (by kernel_rfl) rfl gd rfl ?_
            simp only [pairs, List.filterMap_cons, List.filterMap_nil, List.getElem?_toArray, List.getElem?_cons_succ, List.getElem?_cons_zero, Option.map_some]
            repeat (first | (refine Calm.walk_skip rfl ?_; go_frame) | (refine Calm.walk_quiet ne rfl rfl rfl (fun K hK => ?_); go_big_quiet_op; refine hK _ ?_; clear hK K))
            intro w' hR _
            obtain rfl : w' = (wr).drew := hR.symm
            simp only [pickOps, List.filterMap_cons, List.filterMap_nil, List.getElem?_toArray, List.getElem?_cons_succ, List.getElem?_cons_zero]
            clear gd ne hx hR
            go_wp2
            go_roundw
            case rel => exact ⟨m + 1, hltm, by go_num, by rw [NX.out], HK.out.drew⟩
            case measure => simp [intOf]; omega
          | false =>
            have NX := Lib.hid (show (s.present.take (m + 1)).any (fun y => strEq y x) = (y.toList == x.toList) by rw [A3.out, hf]; rfl)
            clear hf
            go_upto_region 8 with (fail)
            have gd := still_good (wr).drew
            have ne := still_some (wr).drew
            have hx := still_at (wr).drew
            refine wp_region_calm (stillCalm (wr).drew) [0, 1, 2, 3, 4, 5, 6, 7, 8, 9, 10, 11, 12, 13] [14] 51 (by kernel_rfl) (by kernel_rfl) rfl gd rfl ?_
            simp only [pairs, List.filterMap_cons, List.filterMap_nil, List.getElem?_toArray, List.getElem?_cons_succ, List.getElem?_cons_zero, Option.map_some]
            repeat (first | (refine Calm.walk_skip rfl ?_; go_frame) | (refine Calm.walk_quiet ne rfl rfl rfl (fun K hK => ?_); go_big_quiet_op; refine hK _ ?_; clear hK K))
            intro w' hR _
            obtain rfl : w' = (wr).drew := hR.symm
            simp only [pickOps, List.filterMap_cons, List.filterMap_nil, List.getElem?_toArray, List.getElem?_cons_succ, List.getElem?_cons_zero]
            clear gd ne hx hR
            go_wp2
            go_roundw
            case rel => exact ⟨m + 1, hltm, by go_num, by rw [NX.out], HK.out.drew⟩
            case measure => simp [intOf]; omega
        · obtain rfl : m = P2 := by omega
          have TL := Lib.hid (show s.present.take m = s.present from List.take_of_length_le (by rw [HPL.out]; omega))
          rw [TL.out]
          clear d1 hkr
          cases hf : s.present.any (fun y => strEq y x) with
          | true =>
            have NX := Lib.hid (show (j.needs.take (k + 1)).all (fun x => s.present.any (fun y => strEq y x)) = true by rw [A2.out, HA.out, hf]; rfl)
            clear hf
            go_wp2
            go_roundw
            case rel => exact ⟨k + 1, hlt, by go_num, NX.out, HK.out⟩
            case measure => simp [intOf]; omega
          | false =>
            have NO := Lib.hid (show readyAt s j = false by rw [ANS.out, HAS.out, PART.out hf, Bool.and_false])
            clear hf
            go_wp2
            go_ret
            exact ⟨ret_bool NO.out.symm, K1.out.trans HK.out⟩
    · obtain rfl : k = nn := by omega
      have ALL := Lib.hid (show readyAt s j = (!j.done && strEq j.worker ⟨#[]⟩ && decide (j.tries < 3)) by rw [ANS.out, HAS.out]; have := HA.out; rw [List.take_of_length_le (by rw [HNL.out]; omega)] at this; rw [this, Bool.and_true])
      have d5 : wr.cell? ⟨w.heap.size + 1, 5, none⟩ = some (.bool j.done) := (B1.out.keep hkr (fun e => e)).cell 5
      have d2 : wr.cell? ⟨w.heap.size + 1, 2, none⟩ = some (.string j.worker) := (B1.out.keep hkr (fun e => e)).cell 2
      have d4 : wr.cell? ⟨w.heap.size + 1, 4, none⟩ = some (.int .i64 j.tries) := (B1.out.keep hkr (fun e => e)).cell 4
      clear hkr
      cases a1 : j.done with
      | true =>
        rw [a1] at d5 ALL
        clear a1
        go_wp2
        go_ret
        exact ⟨ret_bool (by rw [ALL.out]; rfl), K1.out.trans HK.out⟩
      | false =>
        rw [a1] at d5 ALL
        clear a1
        cases a2 : strEq j.worker ⟨#[]⟩ with
        | true =>
          have e1 : j.worker = ⟨#[]⟩ := strEq_iff.1 a2
          rw [a2] at ALL
          rw [e1] at d2
          clear a2 e1
          go_wp2
          go_ret
          exact ⟨ret_bool (by rw [ALL.out]; simp), K1.out.trans HK.out⟩
        | false =>
          have ne0 : j.worker.toList ≠ [] := fun h => by
            have : strEq j.worker ⟨#[]⟩ = true := by unfold strEq; rw [h, ByteArray.toList_eq]; rfl
            rw [a2] at this
            cases this
          have ne1 : (j.worker.toList == []) = false := by simpa using ne0
          have ne2 : j.worker.toList.isEmpty = false := by simpa using ne0
          rw [a2] at ALL
          clear a2 ne0
          go_wp2
          go_ret
          exact ⟨ret_bool (by rw [ALL.out]; rfl), K1.out.trans HK.out⟩
end Go.Proofs.YtnefbeplgfdkkaaGreatDoor
/-
  cutroomref37.Ready.
-/
namespace Go.Proofs.YtnefbeplgfdkkaaGreatDoor
open Go.RowKit

def preL (s : St) (k : Nat) : List Nat := (List.range k).filter (readyK s)
theorem preL_succ (s : St) (k : Nat) : preL s (k + 1) = if readyK s k then preL s k ++ [k] else preL s k := by
  unfold preL
  rw [List.range_succ, List.filter_append]
  cases h : readyK s k <;> simp [h]
theorem preL_len (s : St) (k : Nat) : (preL s k).length ≤ k := by
  unfold preL
  exact Nat.le_trans (List.length_filter_le _ _) (by simp)

set_option maxRecDepth 100000 in
set_option maxHeartbeats 2000000 in
theorem rrdy_any (s : St) (hz : SzS s) (v : Value) (S : Nat → Prop) (w : World) (h : StateOf w S v s) :
    Calls Tryz.prog 21 #[v] w (RdyPost s w) := by
  obtain ⟨P1, P2, P3, P4, P5, P6, P7, P8, P9, rfl, gp, gj, gw⟩ := h.lists
  obtain ⟨W1, hW1⟩ : ∃ W1, W1 = w.alloc (.cells #[.int .i64 s.now, .slice P1 P2 P3, .slice P4 P5 P6, .slice P7 P8 P9] 48) := ⟨_, rfl⟩
  have k1 : Keep none_ w W1 := hW1 ▸ (Keep.refl none_ w).alloc _
  have b1 : Blk W1 w.heap.size 48 #[.int .i64 s.now, .slice P1 P2 P3, .slice P4 P5 P6, .slice P7 P8 P9] := hW1 ▸ Blk.new _ _ _
  have sz1 : W1.heap.size = w.heap.size + 1 := by rw [hW1]; simp
  have SZ1 := Lib.hid sz1
  obtain ⟨hjl, hj1, hj2⟩ := ElemsOf.facts gj
  unfold maxLen at hj2
  have HS := Lib.hid (h.fresh.keep k1.weak)
  have HJ := Lib.hid (JobsOf.fresh gj |>.keep k1.weak)
  have HJL := Lib.hid hjl
  have VA := Lib.hid (rvalid_any s hz _ _ W1 HS.out)
  have B1 := Lib.hid b1
  have K1 := Lib.hid k1
  have l1 := b1.lt
  clear h k1 b1 gp gj gw hjl hz sz1
  cases hv : validF s with
  | false =>
    rw [hv] at VA
    have E := Lib.hid (show readyF s = [] by unfold readyF; rw [hv]; rfl)
    clear hv
    go_enter Tryz.func21, Tryz.ntmps21
    go_upto_region 1 with (fail)
    rw [← hW1]
    clear hW1
    have t1 : True := trivial
    go_wp2_with (first | (have _t := t1; refine wpList_load_part 48 (.tmp 1) rfl rfl w.heap.size 0 rfl #[.int .i64 s.now, .slice P1 P2 P3, .slice P4 P5 P6, .slice P7 P8 P9] _ B1.out.rangeAt Tryz.underlying48 rfl (by kernel_rfl) ?_; go_frame; clear _t t1; have t2 : True := trivial) | (have _t := t2; go_at_call 18; refine VA.out.mono ?_; rintro en w2 ⟨rfl, k2⟩; have K2 := Lib.hid (K1.out.trans k2); clear k2 _t t2))
    go_ret
    exact ⟨_, rfl, by rw [E.out]; exact ⟨rfl, .inl ⟨rfl, rfl⟩⟩, K2.out⟩
  | true =>
    rw [hv] at VA
    have E := Lib.hid (show readyF s = readyL s by unfold readyF; rw [hv]; rfl)
    have HV := (valid_iff s).1 hv
    have hp5 : P5 ≤ 64 := by have := HV.jl; rw [HJL.out] at this; exact this
    clear hv HV
    go_enter Tryz.func21, Tryz.ntmps21
    go_upto_region 1 with (fail)
    rw [← hW1]
    clear hW1
    have t1 : True := trivial
    go_upto_region 5 with (first | (have _t := t1; refine wpList_load_part 48 (.tmp 1) rfl rfl w.heap.size 0 rfl #[.int .i64 s.now, .slice P1 P2 P3, .slice P4 P5 P6, .slice P7 P8 P9] _ B1.out.rangeAt Tryz.underlying48 rfl (by kernel_rfl) ?_; go_frame; clear _t t1; have t2 : True := trivial) | (have _t := t2; go_at_call 18; refine VA.out.mono ?_; rintro en w2 ⟨rfl, k2⟩; have KW2 := Lib.hid k2; have K2 := Lib.hid (K1.out.trans k2); clear k2 _t t2))
    have l2 := KW2.out.size
    go_loopw [3, 4] (fun o i wr => ∃ k : Nat, k ≤ P5 ∧ i = .int .i64 k ∧ wr.ownsRow W1.heap.size 9 1 o (preL s k).length (namesOf s (preL s k)) ∧ Keep none_ W1 wr) (fun o i _ => P5 - (intOf i).toNat)
    case atStart => exact ⟨0, Nat.zero_le _, rfl, ⟨rfl, .inl ⟨rfl, rfl⟩⟩, KW2.out⟩
    case round =>
      obtain ⟨k, hk, rfl, ho, hkr⟩ := hrel
      have HO := Lib.hid ho
      have HK := Lib.hid hkr
      have BR := Lib.hid (B1.out.keep hkr (fun e => e))
      have d2 : wr.cell? ⟨w.heap.size, 2, none⟩ = some (.slice P4 P5 P6) := BR.out.cell 2
      have lr := hkr.size
      have lpre := preL_len s k
      obtain ⟨A0, c0, rfl, -⟩ := own_row (S := none_) ho (fun _ _ e => e)
      by_cases hlt : k < P5
      · have hlt' : (k : Int) < P5 := by omega
        obtain ⟨b, o, rfl, -, hkl, cs, hcl, hrg, hjb⟩ := ElemsOf.elem (HJ.out.keep hkr.weak) k hlt
        have PS := Lib.hid (preL_succ s k)
        have RK := Lib.hid (show readyK s k = readyAt s s.jobs[k] by unfold readyK; rw [List.getElem?_eq_getElem hkl])
        have NA := Lib.hid (show nameAt s k = s.jobs[k].name by unfold nameAt; rw [List.getElem?_eq_getElem hkl])
        generalize s.jobs[k] = j at hjb RK NA
        have hjb' := hjb
        obtain ⟨vn, vi, rfl, -, -⟩ := hjb'
        obtain ⟨An, nn, cn, rfl⟩ : ∃ A n c, vn = .slice A n c := by obtain ⟨vn', vi', e, ⟨A, n, c, rfl, -⟩, -⟩ := hjb; injection e with _ e; injection e with e _; exact ⟨A, n, c, e⟩
        obtain ⟨Ai, ni, ci, rfl⟩ : ∃ A n c, vi = .slice A n c := by obtain ⟨vn', vi', e, -, ⟨A, n, c, rfl, -⟩⟩ := hjb; simp only [List.cons.injEq, and_true, true_and] at e; exact ⟨A, n, c, e.2⟩
        have e0 : wr.cell? ⟨b, o + k * 7, none⟩ = some (.string j.name) := hrg 0 _ rfl
        have RD := Lib.hid (fun (wx : World) (kx : Keep none_ wr wx) => rready_any s j _ #[.string j.name, .slice An nn cn, .string j.worker, .int .i64 j.until_, .int .i64 j.tries, .bool j.done, .slice Ai ni ci] _ _ wx ((HS.out.keep hkr.weak).keep kx.weak) (hjb.keep kx.weak))
        have RG := Lib.hid hrg
        clear ho hkr hrg hjb hcl
        obtain ⟨ra, hra⟩ : ∃ ra, readyAt s j = ra := ⟨_, rfl⟩
        rw [hra] at RD RK
        clear hra
        go_upto_region 7 with (fail)
        have gd := callCalm_good wr 6 (.bool ra)
        have ne := callCalm_some wr 6 (.bool ra)
        have x1 := fun y => (callCalm_at (wr := wr) (k := 6) (u := .bool ra) y).cell d2 (fun e => e)
        have x2 := Lib.hid (fun y => rangeAt_keep BR.out.rangeAt (callCalm_at (wr := wr) (k := 6) (u := .bool ra) y) (fun e => e))
        have x3 := Lib.hid (fun y => rangeAt_keep RG.out (callCalm_at (wr := wr) (k := 6) (u := .bool ra) y) (fun e => e))
        refine wp_region_calm (callCalm wr 6 (.bool ra)) [0, 1, 2, 3, 4, 5, 6] [] 32 (by kernel_rfl) (by kernel_rfl) rfl gd (Keep.refl _ _).drew ?_
        simp only [pairs, List.filterMap_cons, List.filterMap_nil, List.getElem?_toArray, List.getElem?_cons_succ, List.getElem?_cons_zero, Option.map_some]
        refine Calm.walk_load 48 (.tmp 1) rfl ne rfl rfl w.heap.size 0 (by first | rfl | simp) #[.int .i64 s.now, .slice P1 P2 P3, .slice (some ⟨b, o, none⟩) P5 P6, .slice P7 P8 P9] _ x2.out Tryz.underlying48 rfl (by kernel_rfl) ?_
        go_frame
        repeat (refine Calm.walk_quiet ne rfl rfl rfl (fun K hK => ?_); go_big_quiet_op; refine hK _ ?_; clear hK K)
        refine Calm.walk_load 57 (.tmp 19) rfl ne rfl rfl b (o + k * 7) (by first | rfl | simp) #[.string j.name, .slice An nn cn, .string j.worker, .int .i64 j.until_, .int .i64 j.tries, .bool j.done, .slice Ai ni ci] _ x3.out Tryz.underlying57 rfl (by kernel_rfl) ?_
        go_frame
        refine Calm.walk_eff rfl rfl (fun n wy hn hG _ => ?_) ?_
        · have hG' : Keep none_ wr wy := hG
          unfold gives
          go_simp
          refine (RD.out wy hG').mono ?_
          rintro e wz ⟨rfl, kz⟩
          exact ⟨_, rfl, rfl, kz, hG'.trans kz, fun _ h => h.elim⟩
        intro vq wy hT
        obtain rfl : vq = .bool ra := hT
        clear wy
        go_frame
        repeat (refine Calm.walk_quiet ne rfl rfl rfl (fun K hK => ?_); go_big_quiet_op; refine hK _ ?_; clear hK K)
        intro w9 hG hD
        have k9 : Keep none_ wr w9 := hG
        have K9 := Lib.hid (HK.out.trans k9)
        have HO9 := Lib.hid (own_keep HO.out k9 (fun _ _ e => e))
        have g2 := k9.cell d2 (fun e => e)
        have g0 := k9.cell e0 (fun e => e)
        have l9 := k9.size
        clear hG hD gd ne x1 x2 x3 k9 d2 e0 HO
        simp only [pickOps, List.filterMap_nil]
        cases ra with
        | false =>
          have NX := Lib.hid (show preL s (k + 1) = preL s k by rw [PS.out, RK.out]; rfl)
          go_wp2
          go_roundw
          case rel => exact ⟨k + 1, hlt, by go_num, by rw [NX.out]; exact HO9.out, K9.out⟩
          case measure => simp [intOf]; omega
        | true =>
          have NX := Lib.hid (show preL s (k + 1) = preL s k ++ [k] by rw [PS.out, RK.out]; rfl)
          have ka : Keep none_ w9 (w9.alloc (.cells #[.string j.name] 9)) := (Keep.refl none_ w9).alloc _
          have HKA := Lib.hid ka
          have HOA := Lib.hid (own_keep HO9.out ka (fun _ _ e => e))
          have HNA := Lib.hid (Blk.new w9 9 #[.string j.name])
          clear ka
          have t1 : True := trivial
          go_wp2_with (have _t := t1; refine wpList_append_blk (.tmp 22) (.tmp 29) 44 9 rfl rfl W1.heap.size (.string ⟨#[]⟩) 1 16 Tryz.underlying44 s_info rfl (by omega) _ (preL s k).length _ rfl HOA.out w9.heap.size #[.string j.name] rfl HNA.out rfl (by simp [Value.oneCell']) (by omega) (by have := HKA.out.size; omega) ?_; intro A' c' w' ho' hk'0; have HO1 := Lib.hid ho'; have HK1 := Lib.hid hk'0; clear ho' hk'0 t1 _t; go_frame)
          go_roundw
          case rel =>
            refine ⟨k + 1, hlt, by go_num, ?_, (K9.out.trans HKA.out).then HK1.out (fun r e => .inr (HOA.out.lt r e).1)⟩
            rw [NX.out, List.length_append]
            unfold namesOf
            rw [List.map_append, List.map_append, List.map_cons, List.map_nil, NA.out]
            exact HO1.out
          case measure => simp [intOf]; omega
      · obtain rfl : k = P5 := by omega
        have FIN := Lib.hid (show preL s k = readyL s by unfold preL readyL; rw [HJL.out])
        clear ho hkr
        go_wp2
        go_ret
        refine ⟨_, rfl, ?_, K1.out.trans HK.out⟩
        rw [E.out, ← FIN.out]
        exact own_base HO.out (by omega)
end Go.Proofs.YtnefbeplgfdkkaaGreatDoor
