/-
  Regions in a round of a loop over a function, at the wide fence: what a plain walk shows holds there too.
-/
import Derived.RangeFuncNested
import Derived.RangeFuncBound
import Derived.RangeFuncCalls
import Derived.RangeFuncLeaves
import Derived.Shelf.Abstract
import Derived.Shelf.RegionOpen
import Derived.WalkKit
import Derived.OwnWalkIn
import Derived.TacticsInMore
import Derived.LoopNIn
import Derived.LoopIn
import Derived.Sort.CutIn
import Derived.Test.YtnefbeplgfdkkaaGreatDoorJb02
import Derived.Test.YtnefbeplgfdkkaaGreatDoorJb19
namespace Go.Proofs.YtnefbeplgfdkkaaGreatDoor
open Go.RowKit

def noDefer (o : Oper) : Bool := match o.op with
  | .defer _ => false
  | _ => true
theorem noDefer_ne {o : Oper} (h : noDefer o = true) : ∀ c, o.op ≠ .defer c := by
  intro c e
  unfold noDefer at h
  rw [e] at h
  cases h
section
variable {P : Program} {n l : Nat} {ops : Array Oper} {Q : Exit → Act → World → Prop}
theorem op_round {o : Oper} {a : Act} {w : World} {K : Act → World → Prop} (hd : noDefer o = true) (h : o.wp P a w K Q) : o.wpIn (Fence.wide.inRound l) n P a w K Q := by
  refine ⟨fun _ _ => trivial, ?_⟩
  rw [Oper.semAt_eq _ _ _ (noDefer_ne hd)]
  unfold Oper.wp at h
  generalize (execOp a.eval o).run P w = r at *
  cases r with
  | ok x w' =>
    cases x with
    | value v => exact h
    | skip => exact h
    | defer d => exact h
    | enter f args => exact ⟨fun e => absurd e (by simp [Fence.wide, Fence.inRound]), CallsIn.inRound l (callsIn_wide.2 h)⟩
    | row row args => exact ⟨fun e => absurd e (by simp [Fence.wide, Fence.inRound]), fun c cs _ => by
        obtain ⟨v, w'', hR, hS⟩ := h c cs
        exact ⟨v, w'', hR, stepsIn_wide.2 hS⟩⟩
    | round _ _ _ _ _ => exact h.elim
    | _ => exact h.elim
  | halt x w' => cases x <;> exact h
theorem any_round {md : Region.Mode} (hQ : ¬ LetsOut Q) (ho : ops.all noDefer = true) : ∀ (fuel : Nat) (listed : Array Bool) (a : Act) (w : World), wpAny P md ops Q fuel listed a w → wpAnyIn (Fence.wide.inRound l) n P md ops Q fuel listed a w
  | 0, _, _, _, h => h
  | fuel + 1, listed, a, w, h => by
    refine ⟨h.1, fun i hi => ?_⟩
    have h2 := h.2 i hi
    unfold wpOp at h2
    unfold wpOpIn
    cases hop : ops[i]? with
    | none => rw [hop] at h2; exact any_round hQ ho fuel _ a w h2
    | some o =>
      rw [hop] at h2
      simp only at h2 ⊢
      have hd : noDefer o = true := by
        have := Array.all_eq_true.1 ho i (Array.getElem?_eq_some_iff.1 hop).1
        rwa [(Array.getElem?_eq_some_iff.1 hop).2] at this
      by_cases hw : Region.wanted o (yielded ops a.tmps) = true
      · rw [if_pos hw] at h2 ⊢
        rcases h2 with h2 | h2
        · exact Oper.wpIn_mono (fun a w h => any_round hQ ho fuel _ a w h) (op_round hd h2)
        · exact absurd h2.2 hQ
      · rw [if_neg hw] at h2 ⊢
        exact ⟨fun _ _ => trivial, any_round hQ ho fuel _ _ w h2⟩
theorem list_round (hQ : ¬ LetsOut Q) : ∀ (l' : List Oper) (_ : l'.all noDefer = true) (a : Act) (w : World), wpList P ops Q l' a w → wpListIn (Fence.wide.inRound l) n P ops Q l' a w
  | [], _, _, _, h => h
  | o :: rest, ho, a, w, h => by
    rw [List.all_cons, Bool.and_eq_true] at ho
    unfold wpList at h
    unfold wpListIn
    by_cases hw : Region.wanted o (yielded ops a.tmps) = true
    · rw [if_pos hw] at h ⊢
      rcases h with h | h
      · exact Oper.wpIn_mono (fun a w h => list_round hQ rest ho.2 a w h) (op_round ho.1 h)
      · exact absurd h.2 hQ
    · rw [if_neg hw] at h ⊢
      exact ⟨fun _ _ => trivial, list_round hQ rest ho.2 _ w h⟩
theorem region_round_lit {id : Nat} {a : Act} {w : World} {l' : List Oper} (hQ : ¬ LetsOut Q) (ho : l'.all noDefer = true) (h : wpList P l'.toArray Q l' a w) : (Code.region id l'.toArray false).wpIn (Fence.wide.inRound l) n P Q a w :=
  wpIn_region_lit (list_round hQ l' ho a w h)
theorem region_round_calm {id : Nat} {a : Act} {w : World} {l' : List Oper} (c : Calm) (hd tl : List Nat) (N : Nat) (hQ : ¬ LetsOut Q) (ho : l'.toArray.all noDefer = true) (hm : P.follows .mixedOrders = true) (hA : c.allB l'.toArray hd tl N = true) (hN : a.tmps.size = N) (gd : c.Good)
    (hw : c.G 0 { w with drawn := w.drawn + 1 })
    (h : c.walkP P l'.toArray (fun listed a' => ∀ w', c.G (c.cnt listed) w' → c.DF l'.toArray listed a' w' → wpList P l'.toArray Q (pickOps l'.toArray tl) a' w') (pairs l'.toArray hd) (Array.replicate l'.toArray.size false) a) : (Code.region id l'.toArray true).wpIn (Fence.wide.inRound l) n P Q a w := by
  simp only [Calm.allB, Bool.and_eq_true, decide_eq_true_eq] at hA
  obtain ⟨⟨⟨⟨⟨⟨⟨⟨hB, hord⟩, hsel⟩, hall⟩, hdis⟩, htw⟩, hlen⟩, hnd⟩, hseq⟩ := hA
  have hall' : ∀ k, k < l'.toArray.size → k ∈ hd ∨ k ∈ tl := fun k hk => by
    have := List.all_eq_true.1 hall k (List.mem_range.2 hk)
    simpa using this
  have hdis' : ∀ k ∈ tl, k ∉ hd ∧ k < l'.toArray.size := fun k hk => by
    have := List.all_eq_true.1 hdis k hk
    simp only [Bool.and_eq_true, decide_eq_true_eq] at this
    exact ⟨by simpa using this.1, this.2⟩
  have hhd : ∀ k ∈ hd, k < l'.toArray.size := fun k hk => by
    obtain ⟨o, ho, _⟩ := Calm.B_at hB hk
    exact (Array.getElem?_eq_some_iff.1 ho).1
  have cnt0 : c.cnt (Array.replicate l'.toArray.size false) = 0 := by
    unfold Calm.cnt
    rw [List.countP_eq_zero]
    intro k _
    rw [getD_replicate_false]
    simp
  refine wpIn_region_any hm (any_round hQ ho _ _ _ _ ?_)
  have := Calm.main (P := P) (Q := Q) (end_ := setAll (Array.replicate l'.toArray.size false) hd) gd hB (Region.noSelect_spec hsel) hall' (fun k hk => (hdis' k hk).1) htw (fun k hk => by
      have := (hdis' k hk).2
      simp only [Array.getElem?_eq_getElem this, Option.isSome_some]) hseq hd.length hd [] (Array.replicate l'.toArray.size false) a { w with drawn := w.drawn + 1 } rfl (fun k hk => hk) (fun k hk => .inl hk) hord
      ⟨fun k hk => (by cases hk), fun k hk => getD_in (by simpa using hhd k hk) (getD_replicate_false _ _), hnd⟩
      ⟨by simp, fun j oj _ hl => (by rw [getD_replicate_false] at hl; cases hl), fun k hl => (by rw [getD_replicate_false] at hl; cases hl), fun k hl => (by rw [getD_replicate_false] at hl; cases hl)⟩ hN rfl (by rw [cnt0]; exact hw)
      ⟨fun k hl => (by rw [getD_replicate_false] at hl; cases hl), fun k k' hl => (by rw [getD_replicate_false] at hl; cases hl)⟩
      (Calm.walk_of_P hd _ _ (fun k hk => by simp only [Array.getElem?_eq_getElem (hhd k hk), Option.isSome_some]) h)
  rw [hlen] at this
  exact this
end
end Go.Proofs.YtnefbeplgfdkkaaGreatDoor
/-
  (State).ready: the iterator over the jobs that are ready.
-/
namespace Go.Proofs.YtnefbeplgfdkkaaGreatDoor
open Go.RowKit Go.Shelf

attribute [local go_sem] Oper.semAt_some

theorem Keep.grownBy {w w' : World} (h : Keep none_ w w') : w.grownBy w' none := ⟨h.os, h.tape, h.output, h.size, fun k hk _ => h.block k hk (fun e => e)⟩
theorem Keep.of_grownBy {w w' : World} {row : Option Nat} (h : w.grownBy w' row) : Keep (fun k => row = some k) w w' := ⟨h.os, h.tape, h.output, h.size, fun k hk hne => h.block k hk (fun e => hne e.symm)⟩
theorem Keep.of_below {w w' : World} (h : Below w.heap.size w w') : Keep none_ w w' := ⟨h.os, h.tape, h.output, h.size, fun k hk _ => h.block k hk⟩

theorem ready_any (now : Int) (vp vj vw : Value) (w : World) :
    Calls Tryz.prog 49 #[.agg #[.int .i64 now, vp, vj, vw]] w fun e w' => e = .returned (.func (.func 69) #[] #[.pointer (some ⟨w.heap.size, 0, none⟩)]) ∧ w' = w.alloc (.cells #[.int .i64 now, vp, vj, vw] 48) := by
  go_enter Tryz.func49, Tryz.ntmps49
  go_wp2
  go_ret
  exact ⟨rfl, rfl⟩

/-- The jobs that are ready, each with the word that it is. -/
abbrev Rd (s : St) := { k : Nat // k ∈ readyL s }
def encRd (s : St) (x : Rd s) : Array Value := #[.int .i64 (x.1 : Nat), .string (nameAt s x.1)]
def readyTo (s : St) (k : Nat) : List Nat := (List.range k).filter (readyK s)
theorem readyTo_yes (s : St) (k : Nat) (h : readyK s k = true) : readyTo s (k + 1) = readyTo s k ++ [k] := by
  simp [readyTo, List.range_succ, h]
theorem readyTo_no (s : St) (k : Nat) (h : readyK s k = false) : readyTo s (k + 1) = readyTo s k := by
  simp [readyTo, List.range_succ, h]
theorem readyTo_prefix (s : St) (k : Nat) (h : k ≤ s.jobs.length) : readyTo s k <+: readyL s := by
  obtain ⟨d, hd⟩ : ∃ d, s.jobs.length = k + d := ⟨s.jobs.length - k, by omega⟩
  unfold readyTo readyL
  rw [hd, List.range_add, List.filter_append]
  exact List.prefix_append _ _
theorem readyTo_le (s : St) (k : Nat) : (readyTo s k).length ≤ k := by
  have := List.length_filter_le (readyK s) (List.range k)
  simpa [readyTo] using this
theorem readyK_mem {s : St} {k : Nat} (hk : k < s.jobs.length) (h : readyK s k = true) : k ∈ readyL s := by
  unfold readyL
  rw [List.mem_filter, List.mem_range]
  exact ⟨hk, h⟩
theorem Blk.below {w w' : World} {b : Nat} {t : TypeId} {cs : Array Value} (h : Blk w b t cs) (k : Keep none_ w w') : Blk w' b t cs := h.keep k (fun e => e)

set_option maxRecDepth 100000 in
set_option maxHeartbeats 2000000 in
theorem ready1_in (n l bs : Nat) (S : Nat → Prop) (s : St) (vp vj vw : Value) (J Jx : List (Rd s) → World → Prop) (W : World) (hb : Blk W bs 48 #[.int .i64 s.now, vp, vj, vw]) (hbs : ¬ S bs) (hp : StrsOf W S vp s.present) (hj : JobsOf W S vj s.jobs) (ha : Asc s.present) (h64 : s.present.length ≤ 64) (hl64 : s.jobs.length ≤ 64)
    (hJ : AbidesFrom W.heap.size J) (hY : ∀ pre x W1, J pre W1 → pre.length < s.jobs.length → YieldAt Fence.wide (n - 1) Tryz.prog l (encRd s x) W1 fun e W' =>
      (e = .returned (.bool true) ∧ J (pre ++ [x]) W' ∧ Keep S W1 W') ∨ (e = .returned (.bool false) ∧ Jx (pre ++ [x]) W')) (h0 : J [] W) :
    CallsIn Fence.wide n Tryz.prog 69 #[.func (.yield l) #[] #[], .pointer (some ⟨bs, 0, none⟩)] W fun e W' => (∃ v, e = .returned v) ∧ ((∃ xs, xs.map Subtype.val = readyL s ∧ J xs W') ∨ (∃ pre, pre.map Subtype.val <+: readyL s ∧ Jx pre W')) := by
  obtain ⟨A, m, c, rfl, hcc⟩ := hj
  have hj : JobsOf W S (.slice A m c) s.jobs := ⟨A, m, c, rfl, hcc⟩
  clear hcc
  obtain ⟨hl, h1, h2⟩ := hj.facts
  unfold maxLen at h2
  obtain ⟨Ap, np, cp, rfl, hpr⟩ := hp
  have HB := Lib.hid hb
  have HP := Lib.hid hpr
  have HJ := Lib.hid hj
  have HAS := Lib.hid ha
  have HAB := Lib.hid hJ
  have c2 := hb.cell 2
  simp only [List.getElem?_toArray, List.getElem?_cons_zero, List.getElem?_cons_succ] at c2
  have hm : m ≤ 64 := by omega
  have HL := Lib.hid hl
  clear hl hj ha hb hpr hJ hl64
  refine callsIn_of_wp Tryz.func69 rfl trivial ?_ rfl
  simp only [Tryz.ntmps69, List.size_toArray, List.length_cons, List.length_nil, Nat.reduceAdd, Nat.reduceSub, Array.replicate_succ, Array.replicate_zero, List.push_toArray, List.append_toArray, List.nil_append, List.cons_append]
  gi_wp2
  gi_loopw [8] (fun i wr => ∃ k : Nat, k ≤ m ∧ i = .int .i64 k ∧ Keep S W wr ∧ ∃ ys : List (Rd s), ys.map Subtype.val = readyTo s k ∧ J ys wr) (fun i _ => m - (intOf i).toNat)
  case atStart => exact ⟨0, Nat.zero_le _, rfl, Keep.refl _ _, [], rfl, h0⟩
  case round =>
    obtain ⟨k, hk, rfl, hkr, ys, hys, hJs⟩ := hrel
    have YS := Lib.hid hys
    have JS := Lib.hid hJs
    clear hys hJs
    by_cases hlt : k < m
    · have hlt' : (k : Int) < m := by omega
      have hkl : k < s.jobs.length := by rw [HL.out]; exact hlt
      obtain ⟨bj, oj, rfl, hbj, hkl2, cs, hcl, hrg, vn, vi, hcs, hns, his⟩ := (JobsOf.keep HJ.out hkr).elem k hlt
      have nmk : nameAt s k = s.jobs[k].name := by rw [nameAt, List.getElem?_eq_getElem hkl]
      have rdk : readyK s k = readyAt s s.jobs[k] := by rw [readyK, List.getElem?_eq_getElem hkl]
      have memk := fun h => readyK_mem (s := s) hkl h
      generalize s.jobs[k] = j at hcs hns his nmk rdk
      subst hcs
      obtain ⟨An, nn, cn, rfl, hns'⟩ := hns
      obtain ⟨Ai, ni, ci, rfl, -⟩ : ∃ Ai ni ci, vi = .slice Ai ni ci ∧ True := by obtain ⟨A, n, c, e, -⟩ := his; exact ⟨A, n, c, e, trivial⟩
      have HRG := Lib.hid hrg
      have HNS := Lib.hid hns'.free
      have NMK := Lib.hid nmk
      have RDK := Lib.hid rdk
      have MEMK := Lib.hid memk
      have BR := Lib.hid (HB.out.keep hkr hbs)
      have PR := Lib.hid (HP.out.keep hkr).free
      have KR := Lib.hid hkr
      have YN := Lib.hid (show ys.length ≤ k by have h5 := congrArg List.length YS.out; rw [List.length_map] at h5; rw [h5]; exact readyTo_le s k)
      clear hrg hns' his hcl nmk rdk memk hkr
      gi_upto_region 2 with (fail)
      refine wpIn_wide.2 (wp_region_lit ?_)
      have t1 : True := trivial
      have t2 : True := trivial
      go_wp2_with (first | (have _t := t1; refine wpList_load_part 57 (.tmp 11) rfl rfl bj (oj + k * 7) (by first | rfl | simp) #[.string j.name, .slice An nn cn, .string j.worker, .int .i64 j.until_, .int .i64 j.tries, .bool j.done, .slice Ai ni ci] _ HRG.out Tryz.underlying57 rfl (by kernel_rfl) ?_; go_frame; clear _t t1) | (have _t := t2; refine wpList_store_blk rfl 57 (.tmp 4) (.tmp 12) rfl wr.heap.size 57 _ _ rfl rfl (Blk.new _ _ _) rfl (by kernel_rfl) (by simp [Value.oneCell']) ?_; intro w5 b5 k5 s5; go_frame; clear _t t2))
      have kr5 : Keep none_ wr w5 := ((Keep.refl none_ wr).alloc _).own k5 (Nat.le_refl _)
      have y0 := b5.cell 0
      have y1 := b5.cell 1
      have y2 := b5.cell 2
      have y4 := b5.cell 4
      have y5 := b5.cell 5
      simp only [List.getElem?_toArray, List.getElem?_cons_zero, List.getElem?_cons_succ] at y0 y1 y2 y4 y5
      have J5 := Lib.hid (HAB.out ys wr w5 none JS.out kr5.grownBy (fun r e => by cases e))
      have BS5 := Lib.hid (BR.out.keep kr5 (fun e => e))
      have PS := Lib.hid (present_any s.now s.present j.needs Ap An np cp nn cn (.slice (some ⟨bj, oj, none⟩) m c) vw w5 (PR.out.keep kr5) (HNS.out.keep kr5) HAS.out h64)
      have K5 := Lib.hid (KR.out.trans kr5.weak)
      clear k5 s5 kr5 HRG HNS PR BR KR JS
      cases hd : j.done with
      | true =>
        rw [hd] at y5
        have NR := Lib.hid (show readyK s k = false by rw [RDK.out, readyAt, hd]; rfl)
        clear hd
        gi_upto_region 3 with (fail)
        refine wpIn_wide.2 (wp_region_lit ?_)
        go_wp2
        gi_wp2
        go_roundw
        case rel => exact ⟨k + 1, by omega, by go_num, K5.out, ys, by rw [readyTo_no s k NR.out]; exact YS.out, J5.out⟩
        case measure => simp [intOf]; omega
      | false =>
        rw [hd] at y5
        cases hwk : strEq j.worker ⟨#[]⟩ with
        | false =>
          have NR := Lib.hid (show readyK s k = false by rw [RDK.out, readyAt, hwk]; simp)
          obtain ⟨hw1, hw2⟩ := empty_no hwk
          clear hd hwk
          gi_upto_region 3 with (fail)
          refine wpIn_wide.2 (wp_region_lit ?_)
          go_wp2
          gi_wp2
          go_roundw
          case rel => exact ⟨k + 1, by omega, by go_num, K5.out, ys, by rw [readyTo_no s k NR.out]; exact YS.out, J5.out⟩
          case measure => simp [intOf]; omega
        | true =>
          have hwe := strEq_iff.1 hwk
          rw [hwe] at y2
          by_cases ht : j.tries < 3
          · have ht' : ¬ (3 : Int) ≤ j.tries := by omega
            cases hpr : hasAll s.present j.needs with
            | false =>
              rw [hpr] at PS
              have NR := Lib.hid (show readyK s k = false by rw [RDK.out, readyAt, hpr]; simp)
              clear hd hwk hwe hpr
              gi_upto_region 3 with (fail)
              refine wpIn_wide.2 (wp_region_lit ?_)
              have t3 : True := trivial
              have t4 : True := trivial
              go_wp2_with (first | (have _t := t3; refine wpList_load_part 48 (.tmp 1) rfl rfl bs 0 rfl #[.int .i64 s.now, .slice Ap np cp, .slice (some ⟨bj, oj, none⟩) m c, vw] _ BS5.out.rangeAt Tryz.underlying48 rfl (by kernel_rfl) ?_; go_frame; clear _t t3) | (have _t := t4; go_at_call 70; refine PS.out.mono ?_; rintro e w6 ⟨rfl, k6⟩; have K6 := Lib.hid k6; clear k6 _t t4))
              gi_wp2
              go_roundw
              case rel => exact ⟨k + 1, by omega, by go_num, K5.out.trans K6.out.weak, ys, by rw [readyTo_no s k NR.out]; exact YS.out, HAB.out ys w5 w6 none J5.out K6.out.grownBy (fun r e => by cases e)⟩
              case measure => simp [intOf]; omega
            | true =>
              rw [hpr] at PS
              have YR := Lib.hid (show readyK s k = true by rw [RDK.out, readyAt, hd, hwk, hpr, decide_eq_true ht]; rfl)
              clear hd hwk hwe hpr
              gi_upto_region 3 with (fail)
              refine wpIn_wide.2 (wp_region_lit ?_)
              have t3 : True := trivial
              have t4 : True := trivial
              go_wp2_with (first | (have _t := t3; refine wpList_load_part 48 (.tmp 1) rfl rfl bs 0 rfl #[.int .i64 s.now, .slice Ap np cp, .slice (some ⟨bj, oj, none⟩) m c, vw] _ BS5.out.rangeAt Tryz.underlying48 rfl (by kernel_rfl) ?_; go_frame; clear _t t3) | (have _t := t4; go_at_call 70; refine PS.out.mono ?_; rintro e w6 ⟨rfl, k6⟩; have K6 := Lib.hid k6; clear k6 _t t4))
              have z0 := K6.out.cell y0 (fun e => e)
              have J6 := HAB.out ys w5 w6 none J5.out K6.out.grownBy (fun r e => by cases e)
              obtain ⟨fn, tmps, assign, body, hy, hR⟩ := hY ys ⟨k, MEMK.out YR.out⟩ w6 J6 (by rw [HL.out]; exact Nat.lt_of_le_of_lt YN.out hlt)
              have RR := Lib.hid hR
              clear hR hY J6
              simp only [encRd, NMK.out] at hy
              gi_wp2
              refine ⟨fun e => absurd e (by simp [Fence.wide]), RR.out.mono ?_⟩
              rintro e W3 (⟨rfl, hJ3, hk3⟩ | ⟨rfl, hJx3⟩)
              · gi_wp2
                go_roundw
                case rel => exact ⟨k + 1, by omega, by go_num, (K5.out.trans K6.out.weak).trans hk3, _, by rw [readyTo_yes s k YR.out, List.map_append, YS.out]; rfl, hJ3⟩
                case measure => simp [intOf]; omega
              · gi_wp2
                refine bodyPost_ret (results_none rfl _ _ _) rfl ?_
                refine ⟨⟨_, rfl⟩, .inr ⟨_, ?_, hJx3⟩⟩
                rw [List.map_append, YS.out]
                have := readyTo_prefix s (k + 1) (by rw [HL.out]; omega)
                rw [readyTo_yes s k YR.out] at this
                exact this
          · have ht' : (3 : Int) ≤ j.tries := by omega
            have NR := Lib.hid (show readyK s k = false by rw [RDK.out, readyAt, decide_eq_false ht]; simp)
            clear hd hwk hwe
            gi_upto_region 3 with (fail)
            refine wpIn_wide.2 (wp_region_lit ?_)
            go_wp2
            gi_wp2
            go_roundw
            case rel => exact ⟨k + 1, by omega, by go_num, K5.out, ys, by rw [readyTo_no s k NR.out]; exact YS.out, J5.out⟩
            case measure => simp [intOf]; omega
    · obtain rfl : k = m := by omega
      gi_wp2
      go_end0
      refine ⟨⟨_, rfl⟩, .inl ⟨ys, ?_, JS.out⟩⟩
      rw [YS.out, ← HL.out]
      rfl
end Go.Proofs.YtnefbeplgfdkkaaGreatDoor
