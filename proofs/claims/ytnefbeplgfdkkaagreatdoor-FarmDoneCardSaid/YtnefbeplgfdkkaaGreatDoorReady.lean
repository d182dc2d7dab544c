/-
  (State).ready: the iterator over the jobs that are ready.
-/
import Derived.Test.YtnefbeplgfdkkaaGreatDoorRound
import Derived.Test.YtnefbeplgfdkkaaGreatDoorPlain
namespace Go.Proofs.YtnefbeplgfdkkaaGreatDoor
open Go.RowKit Go.Shelf

attribute [local go_sem] Oper.semAt_some

theorem Keep.grownBy {w w' : World} (h : Keep none_ w w') : w.grownBy w' none := ⟨h.os, h.tape, h.output, h.size, fun k hk _ => h.block k hk (fun e => e)⟩
theorem Keep.of_grownBy {w w' : World} {row : Option Nat} (h : w.grownBy w' row) : Keep (fun k => row = some k) w w' := ⟨h.os, h.tape, h.output, h.size, fun k hk hne => h.block k hk (fun e => hne e.symm)⟩
theorem Keep.of_below {w w' : World} (h : Below w.heap.size w w') : Keep none_ w w' := ⟨h.os, h.tape, h.output, h.size, fun k hk _ => h.block k hk⟩

theorem ready_any (now : Int) (vp vj vw : Value) (w : World) :
    Calls Tryz.prog 49 #[.agg #[.int .i64 now, vp, vj, vw]] w fun e w' => e = .returned (.func (.func 69) #[] #[.pointer (some ⟨w.heap.size, 0, none⟩)]) ∧ w' = w.alloc (.cells #[.int .i64 now, vp, vj, vw] 48) := by
  go_enter Tryz.func49, Tryz.ntmps49
  go_wp2
  go_ret
  exact ⟨rfl, rfl⟩

/-- The jobs that are ready, each with the word that it is. -/
abbrev Rd (s : St) := { k : Nat // k ∈ readyL s }
def encRd (s : St) (x : Rd s) : Array Value := #[.int .i64 (x.1 : Nat), .string (nameAt s x.1)]
def readyTo (s : St) (k : Nat) : List Nat := (List.range k).filter (readyK s)
theorem readyTo_yes (s : St) (k : Nat) (h : readyK s k = true) : readyTo s (k + 1) = readyTo s k ++ [k] := by
  simp [readyTo, List.range_succ, h]
theorem readyTo_no (s : St) (k : Nat) (h : readyK s k = false) : readyTo s (k + 1) = readyTo s k := by
  simp [readyTo, List.range_succ, h]
theorem readyTo_prefix (s : St) (k : Nat) (h : k ≤ s.jobs.length) : readyTo s k <+: readyL s := by
  obtain ⟨d, hd⟩ : ∃ d, s.jobs.length = k + d := ⟨s.jobs.length - k, by omega⟩
  unfold readyTo readyL
  rw [hd, List.range_add, List.filter_append]
  exact List.prefix_append _ _
theorem readyTo_le (s : St) (k : Nat) : (readyTo s k).length ≤ k := by
  have := List.length_filter_le (readyK s) (List.range k)
  simpa [readyTo] using this
theorem readyK_mem {s : St} {k : Nat} (hk : k < s.jobs.length) (h : readyK s k = true) : k ∈ readyL s := by
  unfold readyL
  rw [List.mem_filter, List.mem_range]
  exact ⟨hk, h⟩
theorem Blk.below {w w' : World} {b : Nat} {t : TypeId} {cs : Array Value} (h : Blk w b t cs) (k : Keep none_ w w') : Blk w' b t cs := h.keep k (fun e => e)

set_option maxRecDepth 100000 in
set_option maxHeartbeats 2000000 in
theorem ready1_in (n l bs : Nat) (S : Nat → Prop) (s : St) (vp vj vw : Value) (J Jx : List (Rd s) → World → Prop) (W : World) (hb : Blk W bs 48 #[.int .i64 s.now, vp, vj, vw]) (hbs : ¬ S bs) (hp : StrsOf W S vp s.present) (hj : JobsOf W S vj s.jobs) (ha : Asc s.present) (h64 : s.present.length ≤ 64) (hl64 : s.jobs.length ≤ 64)
    (hJ : AbidesFrom W.heap.size J) (hY : ∀ pre x W1, J pre W1 → pre.length < s.jobs.length → YieldAt Fence.wide (n - 1) Tryz.prog l (encRd s x) W1 fun e W' =>
      (e = .returned (.bool true) ∧ J (pre ++ [x]) W' ∧ Keep S W1 W') ∨ (e = .returned (.bool false) ∧ Jx (pre ++ [x]) W')) (h0 : J [] W) :
    CallsIn Fence.wide n Tryz.prog 69 #[.func (.yield l) #[] #[], .pointer (some ⟨bs, 0, none⟩)] W fun e W' => (∃ v, e = .returned v) ∧ ((∃ xs, xs.map Subtype.val = readyL s ∧ J xs W') ∨ (∃ pre, pre.map Subtype.val <+: readyL s ∧ Jx pre W')) := by
  obtain ⟨A, m, c, rfl, hcc⟩ := hj
  have hj : JobsOf W S (.slice A m c) s.jobs := ⟨A, m, c, rfl, hcc⟩
  clear hcc
  obtain ⟨hl, h1, h2⟩ := hj.facts
  unfold maxLen at h2
  obtain ⟨Ap, np, cp, rfl, hpr⟩ := hp
  have HB := Lib.hid hb
  have HP := Lib.hid hpr
  have HJ := Lib.hid hj
  have HAS := Lib.hid ha
  have HAB := Lib.hid hJ
  have c2 := hb.cell 2
  simp only [List.getElem?_toArray, List.getElem?_cons_zero, List.getElem?_cons_succ] at c2
  have hm : m ≤ 64 := by omega
  have HL := Lib.hid hl
  clear hl hj ha hb hpr hJ hl64
  refine callsIn_of_wp Tryz.func69 rfl trivial ?_ rfl
  simp only [Tryz.ntmps69, List.size_toArray, List.length_cons, List.length_nil, Nat.reduceAdd, Nat.reduceSub, Array.replicate_succ, Array.replicate_zero, List.push_toArray, List.append_toArray, List.nil_append, List.cons_append]
  gi_wp2
  gi_loopw [8] (fun i wr => ∃ k : Nat, k ≤ m ∧ i = .int .i64 k ∧ Keep S W wr ∧ ∃ ys : List (Rd s), ys.map Subtype.val = readyTo s k ∧ J ys wr) (fun i _ => m - (intOf i).toNat)
  case atStart => exact ⟨0, Nat.zero_le _, rfl, Keep.refl _ _, [], rfl, h0⟩
  case round =>
    obtain ⟨k, hk, rfl, hkr, ys, hys, hJs⟩ := hrel
    have YS := Lib.hid hys
    have JS := Lib.hid hJs
    clear hys hJs
    by_cases hlt : k < m
    · have hlt' : (k : Int) < m := by omega
      have hkl : k < s.jobs.length := by rw [HL.out]; exact hlt
      obtain ⟨bj, oj, rfl, hbj, hkl2, cs, hcl, hrg, vn, vi, hcs, hns, his⟩ := (JobsOf.keep HJ.out hkr).elem k hlt
      have nmk : nameAt s k = s.jobs[k].name := by rw [nameAt, List.getElem?_eq_getElem hkl]
      have rdk : readyK s k = readyAt s s.jobs[k] := by rw [readyK, List.getElem?_eq_getElem hkl]
      have memk := fun h => readyK_mem (s := s) hkl h
      generalize s.jobs[k] = j at hcs hns his nmk rdk
      subst hcs
      obtain ⟨An, nn, cn, rfl, hns'⟩ := hns
      obtain ⟨Ai, ni, ci, rfl, -⟩ : ∃ Ai ni ci, vi = .slice Ai ni ci ∧ True := by obtain ⟨A, n, c, e, -⟩ := his; exact ⟨A, n, c, e, trivial⟩
      have HRG := Lib.hid hrg
      have HNS := Lib.hid hns'.free
      have NMK := Lib.hid nmk
      have RDK := Lib.hid rdk
      have MEMK := Lib.hid memk
      have BR := Lib.hid (HB.out.keep hkr hbs)
      have PR := Lib.hid (HP.out.keep hkr).free
      have KR := Lib.hid hkr
      have YN := Lib.hid (show ys.length ≤ k by have h5 := congrArg List.length YS.out; rw [List.length_map] at h5; rw [h5]; exact readyTo_le s k)
      clear hrg hns' his hcl nmk rdk memk hkr
      gi_upto_region 2 with (fail)
      refine wpIn_wide.2 (wp_region_lit ?_)
      have t1 : True := trivial
      have t2 : True := trivial
      go_wp2_with (first | (have _t := t1; refine wpList_load_part 57 (.tmp 11) rfl rfl bj (oj + k * 7) (by first | rfl | simp) #[.string j.name, .slice An nn cn, .string j.worker, .int .i64 j.until_, .int .i64 j.tries, .bool j.done, .slice Ai ni ci] _ HRG.out Tryz.underlying57 rfl (by kernel_rfl) ?_; go_frame; clear _t t1) | (have _t := t2; refine wpList_store_blk rfl 57 (.tmp 4) (.tmp 12) rfl wr.heap.size 57 _ _ rfl rfl (Blk.new _ _ _) rfl (by kernel_rfl) (by simp [Value.oneCell']) ?_; intro w5 b5 k5 s5; go_frame; clear _t t2))
      have kr5 : Keep none_ wr w5 := ((Keep.refl none_ wr).alloc _).own k5 (Nat.le_refl _)
      have y0 := b5.cell 0
      have y1 := b5.cell 1
      have y2 := b5.cell 2
      have y4 := b5.cell 4
      have y5 := b5.cell 5
      simp only [List.getElem?_toArray, List.getElem?_cons_zero, List.getElem?_cons_succ] at y0 y1 y2 y4 y5
      have J5 := Lib.hid (HAB.out ys wr w5 none JS.out kr5.grownBy (fun r e => by cases e))
      have BS5 := Lib.hid (BR.out.keep kr5 (fun e => e))
      have PS := Lib.hid (present_any s.now s.present j.needs Ap An np cp nn cn (.slice (some ⟨bj, oj, none⟩) m c) vw w5 (PR.out.keep kr5) (HNS.out.keep kr5) HAS.out h64)
      have K5 := Lib.hid (KR.out.trans kr5.weak)
      clear k5 s5 kr5 HRG HNS PR BR KR JS
      cases hd : j.done with
      | true =>
        rw [hd] at y5
        have NR := Lib.hid (show readyK s k = false by rw [RDK.out, readyAt, hd]; rfl)
        clear hd
        gi_upto_region 3 with (fail)
        refine wpIn_wide.2 (wp_region_lit ?_)
        go_wp2
        gi_wp2
        go_roundw
        case rel => exact ⟨k + 1, by omega, by go_num, K5.out, ys, by rw [readyTo_no s k NR.out]; exact YS.out, J5.out⟩
        case measure => simp [intOf]; omega
      | false =>
        rw [hd] at y5
        cases hwk : strEq j.worker ⟨#[]⟩ with
        | false =>
          have NR := Lib.hid (show readyK s k = false by rw [RDK.out, readyAt, hwk]; simp)
          obtain ⟨hw1, hw2⟩ := empty_no hwk
          clear hd hwk
          gi_upto_region 3 with (fail)
          refine wpIn_wide.2 (wp_region_lit ?_)
          go_wp2
          gi_wp2
          go_roundw
          case rel => exact ⟨k + 1, by omega, by go_num, K5.out, ys, by rw [readyTo_no s k NR.out]; exact YS.out, J5.out⟩
          case measure => simp [intOf]; omega
        | true =>
          have hwe := strEq_iff.1 hwk
          rw [hwe] at y2
          by_cases ht : j.tries < 3
          · have ht' : ¬ (3 : Int) ≤ j.tries := by omega
            cases hpr : hasAll s.present j.needs with
            | false =>
              rw [hpr] at PS
              have NR := Lib.hid (show readyK s k = false by rw [RDK.out, readyAt, hpr]; simp)
              clear hd hwk hwe hpr
              gi_upto_region 3 with (fail)
              refine wpIn_wide.2 (wp_region_lit ?_)
              have t3 : True := trivial
              have t4 : True := trivial
              go_wp2_with (first | (have _t := t3; refine wpList_load_part 48 (.tmp 1) rfl rfl bs 0 rfl #[.int .i64 s.now, .slice Ap np cp, .slice (some ⟨bj, oj, none⟩) m c, vw] _ BS5.out.rangeAt Tryz.underlying48 rfl (by kernel_rfl) ?_; go_frame; clear _t t3) | (have _t := t4; go_at_call 70; refine PS.out.mono ?_; rintro e w6 ⟨rfl, k6⟩; have K6 := Lib.hid k6; clear k6 _t t4))
              gi_wp2
              go_roundw
              case rel => exact ⟨k + 1, by omega, by go_num, K5.out.trans K6.out.weak, ys, by rw [readyTo_no s k NR.out]; exact YS.out, HAB.out ys w5 w6 none J5.out K6.out.grownBy (fun r e => by cases e)⟩
              case measure => simp [intOf]; omega
            | true =>
              rw [hpr] at PS
              have YR := Lib.hid (show readyK s k = true by rw [RDK.out, readyAt, hd, hwk, hpr, decide_eq_true ht]; rfl)
              clear hd hwk hwe hpr
              gi_upto_region 3 with (fail)
              refine wpIn_wide.2 (wp_region_lit ?_)
              have t3 : True := trivial
              have t4 : True := trivial
              go_wp2_with (first | (have _t := t3; refine wpList_load_part 48 (.tmp 1) rfl rfl bs 0 rfl #[.int .i64 s.now, .slice Ap np cp, .slice (some ⟨bj, oj, none⟩) m c, vw] _ BS5.out.rangeAt Tryz.underlying48 rfl (by kernel_rfl) ?_; go_frame; clear _t t3) | (have _t := t4; go_at_call 70; refine PS.out.mono ?_; rintro e w6 ⟨rfl, k6⟩; have K6 := Lib.hid k6; clear k6 _t t4))
              have z0 := K6.out.cell y0 (fun e => e)
              have J6 := HAB.out ys w5 w6 none J5.out K6.out.grownBy (fun r e => by cases e)
              obtain ⟨fn, tmps, assign, body, hy, hR⟩ := hY ys ⟨k, MEMK.out YR.out⟩ w6 J6 (by rw [HL.out]; exact Nat.lt_of_le_of_lt YN.out hlt)
              have RR := Lib.hid hR
              clear hR hY J6
              simp only [encRd, NMK.out] at hy
              gi_wp2
              refine ⟨fun e => absurd e (by simp [Fence.wide]), RR.out.mono ?_⟩
              rintro e W3 (⟨rfl, hJ3, hk3⟩ | ⟨rfl, hJx3⟩)
              · gi_wp2
                go_roundw
                case rel => exact ⟨k + 1, by omega, by go_num, (K5.out.trans K6.out.weak).trans hk3, _, by rw [readyTo_yes s k YR.out, List.map_append, YS.out]; rfl, hJ3⟩
                case measure => simp [intOf]; omega
              · gi_wp2
                refine bodyPost_ret (results_none rfl _ _ _) rfl ?_
                refine ⟨⟨_, rfl⟩, .inr ⟨_, ?_, hJx3⟩⟩
                rw [List.map_append, YS.out]
                have := readyTo_prefix s (k + 1) (by rw [HL.out]; omega)
                rw [readyTo_yes s k YR.out] at this
                exact this
          · have ht' : (3 : Int) ≤ j.tries := by omega
            have NR := Lib.hid (show readyK s k = false by rw [RDK.out, readyAt, decide_eq_false ht]; simp)
            clear hd hwk hwe
            gi_upto_region 3 with (fail)
            refine wpIn_wide.2 (wp_region_lit ?_)
            go_wp2
            gi_wp2
            go_roundw
            case rel => exact ⟨k + 1, by omega, by go_num, K5.out, ys, by rw [readyTo_no s k NR.out]; exact YS.out, J5.out⟩
            case measure => simp [intOf]; omega
    · obtain rfl : k = m := by omega
      gi_wp2
      go_end0
      refine ⟨⟨_, rfl⟩, .inl ⟨ys, ?_, JS.out⟩⟩
      rw [YS.out, ← HL.out]
      rfl
end Go.Proofs.YtnefbeplgfdkkaaGreatDoor
