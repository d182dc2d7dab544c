/-
  PROVED: EncoderBoundCardSaid: for every input EncoderBound returns true and leaves its arguments as they were. Conditions: those of the card (the laid variable of package quant starts as the program's text lays it).
-/
import Derived.Test.YtebdgoikmclflaaGreatDoorRows
import Derived.Test.YtebdgoikmclflaaGreatDoorTie
import Derived.Test.YtebdgoikmclflaaGreatDoorEb01
import Derived.ProofKit
import Derived.LaidMore
import Derived.Stop.Joined
import Derived.Lib.SmallJoins
import Derived.OpenShut
import Derived.Below
import Derived.Carry
import Derived.ChangeSame
import Derived.SevenTiedAt
import Derived.Test.YtebdgoikmclflaaGreatDoorCards
import Derived.Test.YtebdgoikmclflaaGreatDoorEb47
/-
  The rows' words: the row shut where the call has left what was there; the laid variables at the witness.
-/
namespace Go.Proofs.YtebdgoikmclflaaGreatDoor
open Go.ChangeShapes Go.WideShapes Go.ChangeAt Go.RowKit Go.Joins Go.Deep

theorem Tryz.own : ownKnob Tryz.prog.godebug = none := by kernel_rfl
theorem Tryz.laidOut : laidOutB Tryz.prog = true := by kernel_rfl
theorem door_met (os : Os) (args : Array Value) : laidMetH Tryz.prog Rows.encoderBoundRow.laid ((World.doorLaid Tryz.prog 4000 os).forCall (fun _ _ => 0) ⟨#[], args, []⟩).memory :=
  laidMetH_of_parts3 (fuel := 8) (laidMet_of_run' 8 (by kernel_rfl) (by kernel_rfl)) (by kernel_rfl) (by kernel_rfl)
section
variable {H : Type} {enc : TypeId × Value → H} {P : Program} {w : World} {base : Nat} {held : Bool}
/-- The row's last step where the call has left what was there, and returns true. -/
theorem post_of_keep {f : Func} {s : ChangeSpec} {apart fresh handsOn again : Bool} {W W' : World} {args : Array Value} {v : Value} {ds gs : List (DataW H)} {before pa pv : List MemPlace}
    (hW : DataW.Whole enc P f.params.toList s.vars apart W args.toList ds gs before)
    (hres : ∀ (b : Nat) (sp : Nat → Bool) (hd : Bool), DataW.TrodAll enc P W' b sp hd f.resultTypes.toList (v.resultList f.resultTypes.size) (s.fn H (ds ++ gs)).results [])
    (hargs : ∀ sp : Nat → Bool, (∀ p ∈ before, sp p.block = true) → DataW.TrodAll enc P W' 0 sp true f.params.toList args.toList (s.fn H (ds ++ gs)).args pa)
    (hvars : ∀ sp : Nat → Bool, (∀ p ∈ before, sp p.block = true) → DataW.TrodVars enc P W' sp s.vars (s.fn H (ds ++ gs)).vars pv)
    (hps : before = pa ++ pv) (hb : Below W.heap.size W W')
    (hok : ∀ (j : Nat) (t : TypeId) (r : Value), f.resultTypes[j]? = some t → (v.resultList f.resultTypes.size)[j]? = some r → Value.okWide P W' .any 0 t r) :
    s.post enc P f apart fresh handsOn again W args v W' := by
  have hlt : ∀ p ∈ before, p.block < W.heap.size := fun p hp => hW.lt p hp
  have hold : ∀ p ∈ before, (fun b => decide (b < W.heap.size)) p.block = true := fun p hp => by simpa using hlt p hp
  refine ⟨ds, gs, before, [], pa, pv, hW, hres _ _ _, hargs _ hold, hvars _ hold, World.keptBut_mono (fun p hp => ⟨hp, ?_⟩) (hb.frame (· ∈ before)), fun _ => ?_⟩
  · rw [hps, List.mem_append] at hp
    exact Or.inr hp
  · obtain ⟨_, _, _, _, _, hz, hn⟩ := hW
    refine ⟨hok, _, _, ([] ++ pa) ++ pv, ⟨[] ++ pa, pv, trodAll_append (hargs _ (fun _ _ => rfl)) (hres _ _ _), hvars _ (fun _ _ => rfl), rfl, ?_, ?_⟩, ?_⟩
    · intro b off hp
      have hin : MemPlace.cell b off ∈ before := by rw [hps]; simpa using hp
      rw [hb.frozen (hlt _ hin)]
      exact hz b off hin
    · intro ha
      have := hn ha
      rw [hps] at this
      simpa using this
    · intro p hp _
      rw [hps]
      simpa using hp
end
end Go.Proofs.YtebdgoikmclflaaGreatDoor
/-
  PROVED: EncoderBoundCardSaid: for every input EncoderBound returns true and leaves its arguments as they were. Conditions: those of the card (the laid variable of package quant starts as the program's text lays it).
-/
namespace Go.Proofs.YtebdgoikmclflaaGreatDoor
open Go.ChangeShapes Go.WideShapes Go.ChangeAt Go.RowKit Go.Joins Go.Deep

theorem seg (l : List Value) (a n : Nat) : l.drop a = (l.drop a).take n ++ l.drop (a + n) := by
  rw [← List.drop_drop, List.take_append_drop]
section
variable {H : Type} {enc : TypeId × Value → H} {w : World} {base : Nat} {held : Bool} {spare : Nat → Bool}
theorem u8s_of {fuel : Nat} {cs : List Value} {x : DataW H × List MemPlace} (h : DataW.trod enc Tryz.prog w base spare held fuel 24 cs = some x) : ∃ zs : List Int, zs.length = 64 ∧ U8r zs ∧ cs = zs.map (Value.int .u8) := by
  obtain ⟨xs, m, -, -, hl, hx, hg⟩ := DataW.trod_array Tryz.underlying24 h
  have hl' : cs.length = 64 := hl.trans (by kernel_rfl)
  have hc : Tryz.prog.cellsOf 5 = 1 := by kernel_rfl
  have key : ∀ i, i < 64 → ∃ z, cs[i]? = some (.int .u8 z) ∧ 0 ≤ z ∧ z ≤ 255 := by
    intro i hi
    have := hg i hi
    rw [List.getElem?_eq_getElem (by omega), hc, Nat.mul_one] at this
    obtain ⟨z, hz, -, wz⟩ := DataW.trod_int Tryz.underlying5 this
    refine ⟨z, ?_, bounds_u8 wz⟩
    have h0 := congrArg (·[0]?) hz
    simpa [List.getElem?_take, List.getElem?_drop] using h0
  refine ⟨cs.map (fun v => match v with | .int _ z => z | _ => 0), by simp [hl'], fun n hn => ?_, ?_⟩
  · obtain ⟨z, hz, h1, h2⟩ := key n hn
    rw [List.getD, List.getElem?_map, hz]
    exact ⟨h1, h2⟩
  apply List.ext_getElem?
  intro i
  rw [List.map_map, List.getElem?_map]
  by_cases hi : i < 64
  · obtain ⟨z, hz, -, -⟩ := key i hi
    rw [hz]
    rfl
  · rw [List.getElem?_eq_none (by omega)]
    rfl
theorem seq_of_cells {fuel : Nat} {cs : List Value} {x : DataW H × List MemPlace} (h : DataW.trod enc Tryz.prog w base spare held fuel 26 cs = some x) : ∃ s : Sq, s.Ok ∧ (U8r s.ia ∧ U8r s.ie) ∧ cs = s.cells.toList := by
  obtain ⟨xs, m, -, -, hl, hx, hg⟩ := DataW.trod_struct Tryz.underlying26 h
  have hl' : cs.length = 135 := hl.trans (by kernel_rfl)
  have hc3 : Tryz.prog.cellsOf 3 = 1 := by kernel_rfl
  have hcb : Tryz.prog.cellsOf 4 = 1 := by kernel_rfl
  have hcr : Tryz.prog.cellsOf 23 = 2 := by kernel_rfl
  have hca : Tryz.prog.cellsOf 24 = 64 := by kernel_rfl
  have hc2 : Tryz.prog.cellsOf 2 = 1 := by kernel_rfl
  have hx' : xs.length = 8 := hx
  have h0 : DataW.trod enc Tryz.prog w base spare held m 3 ((cs.drop 0).take (Tryz.prog.cellsOf 3)) = xs[0]? := hg 0 _ rfl
  have h1 : DataW.trod enc Tryz.prog w base spare held m 3 ((cs.drop 1).take (Tryz.prog.cellsOf 3)) = xs[1]? := hg 1 _ rfl
  have h2 : DataW.trod enc Tryz.prog w base spare held m 23 ((cs.drop 2).take (Tryz.prog.cellsOf 23)) = xs[2]? := hg 2 _ rfl
  have h3 : DataW.trod enc Tryz.prog w base spare held m 4 ((cs.drop 4).take (Tryz.prog.cellsOf 4)) = xs[3]? := hg 3 _ rfl
  have h4 : DataW.trod enc Tryz.prog w base spare held m 3 ((cs.drop 5).take (Tryz.prog.cellsOf 3)) = xs[4]? := hg 4 _ rfl
  have h5 : DataW.trod enc Tryz.prog w base spare held m 3 ((cs.drop 6).take (Tryz.prog.cellsOf 3)) = xs[5]? := hg 5 _ rfl
  have h6 : DataW.trod enc Tryz.prog w base spare held m 24 ((cs.drop 7).take (Tryz.prog.cellsOf 24)) = xs[6]? := hg 6 _ rfl
  have h7 : DataW.trod enc Tryz.prog w base spare held m 24 ((cs.drop 71).take (Tryz.prog.cellsOf 24)) = xs[7]? := hg 7 _ rfl
  rw [List.getElem?_eq_getElem (by omega)] at h0 h1 h2 h3 h4 h5 h6 h7
  simp only [hc3, hcb, hcr, hca] at h0 h1 h2 h3 h4 h5 h6 h7
  obtain ⟨W, e0, -, -⟩ := DataW.trod_int Tryz.underlying3 h0
  obtain ⟨Hh, e1, -, -⟩ := DataW.trod_int Tryz.underlying3 h1
  obtain ⟨I, e3, -⟩ := DataW.trod_bool Tryz.underlying4 h3
  obtain ⟨BR, e4, -, -⟩ := DataW.trod_int Tryz.underlying3 h4
  obtain ⟨Buf, e5, -, -⟩ := DataW.trod_int Tryz.underlying3 h5
  obtain ⟨ia, li, ri, e6⟩ := u8s_of h6
  obtain ⟨ie, le, re, e7⟩ := u8s_of h7
  obtain ⟨ys, m2, -, -, hl2, hx2, hg2⟩ := DataW.trod_struct Tryz.underlying23 h2
  have hx2' : ys.length = 2 := hx2
  have r0 : DataW.trod enc Tryz.prog w base spare held m2 2 ((((cs.drop 2).take 2).drop 0).take (Tryz.prog.cellsOf 2)) = ys[0]? := hg2 0 _ rfl
  have r1 : DataW.trod enc Tryz.prog w base spare held m2 2 ((((cs.drop 2).take 2).drop 1).take (Tryz.prog.cellsOf 2)) = ys[1]? := hg2 1 _ rfl
  rw [List.getElem?_eq_getElem (by omega)] at r0 r1
  simp only [hc2] at r0 r1
  obtain ⟨Num, f0, -, wn⟩ := DataW.trod_int Tryz.underlying2 r0
  obtain ⟨Den, f1, -, wd⟩ := DataW.trod_int Tryz.underlying2 r1
  have bn := bounds_i64 wn
  have bd := bounds_i64 wd
  have e2 : (cs.drop 2).take 2 = [.int .i64 Num, .int .i64 Den] := by
    have a0 := congrArg (·[0]?) f0
    have a1 := congrArg (·[0]?) f1
    have ll : ((cs.drop 2).take 2).length = 2 := by simp; omega
    apply List.ext_getElem?
    intro i
    match i with
    | 0 => simpa [List.getElem?_take, List.getElem?_drop] using a0
    | 1 => simpa [List.getElem?_take, List.getElem?_drop] using a1
    | i + 2 => rw [List.getElem?_eq_none (by omega)]; rfl
  refine ⟨⟨W, Hh, Num, Den, I, BR, Buf, ia, ie⟩, ⟨li, le, bn.1, bn.2, bd.2⟩, ⟨ri, re⟩, ?_⟩
  have hcs : cs = (cs.drop 0).take 1 ++ ((cs.drop 1).take 1 ++ ((cs.drop 2).take 2 ++ ((cs.drop 4).take 1 ++ ((cs.drop 5).take 1 ++ ((cs.drop 6).take 1 ++ ((cs.drop 7).take 64 ++ (cs.drop 71).take 64)))))) := by
    have s8 : (cs.drop 71).take 64 = cs.drop 71 := List.take_of_length_le (by simp; omega)
    rw [s8, ← seg cs 7 64, ← seg cs 6 1, ← seg cs 5 1, ← seg cs 4 1, ← seg cs 2 2, ← seg cs 1 1, ← seg cs 0 1]
    rfl
  rw [hcs]
  rw [e0, e1, e2, e3, e4, e5, e6, e7]
  simp [Sq.cells, Sq.seven]
set_option maxRecDepth 100000 in
theorem seq_of {r : Reach} {b0 : Nat} {v : Value} {d : DataW H} {p : List MemPlace} (hv : Value.okWide Tryz.prog w r b0 26 v) (h : DataW.Trod enc Tryz.prog w base spare held 26 v d p) : ∃ s : Sq, s.Ok ∧ (U8r s.ia ∧ U8r s.ie) ∧ v = .agg s.cells := by
  obtain ⟨cs, rfl, -⟩ := okWide_struct Tryz.underlying26 hv
  obtain ⟨fuel, hf⟩ := h
  obtain ⟨s, ok, hu, e⟩ := seq_of_cells hf
  have e' : cs.toList = s.cells.toList := e
  exact ⟨s, ok, hu, by rw [Array.toList_inj.1 e']⟩
end
def zeroSq : Sq := ⟨0, 0, 0, 0, false, 0, 0, List.replicate 64 0, List.replicate 64 0⟩
set_option maxRecDepth 100000 in
theorem encoderBound_lifted (os : Os) (started : os.Started) (H : Type) (enc : TypeId × Value → H) :
    ReturnsInHanded {} Tryz.checked os 3 .any (fun w args => (Rows.encoderBoundSpec.pre enc Tryz.prog Tryz.f3 [] false w args ∧ laidMetH Tryz.prog Rows.encoderBoundRow.laid w) ∧ sizedMet enc Tryz.prog Tryz.f3 (OpenSpec.ofChange Rows.encoderBoundSpec) false w args)
      (Rows.encoderBoundSpec.post enc Tryz.prog Tryz.f3 false true false false) := by
  refine returnsInHanded_of_change_and (C := Tryz.checked) (X := fun w _ => laidMetH Tryz.prog Rows.encoderBoundRow.laid w) (fun _ _ _ hh h => h.of_heap hh) Tryz.own started (by kernel_rfl) Tryz.func3
    (ChangeSpec.witness_shaped (enc := enc) (C := Tryz.checked) (os := os) (X := fun w _ => laidMetH Tryz.prog Rows.encoderBoundRow.laid w) false (World.doorLaid Tryz.prog 4000 os) #[.agg zeroSq.cells, .int .i64 0] 8 rfl (World.shaped_of_RefB (by kernel_rfl) (by kernel_rfl)) (by kernel_rfl) (by kernel_rfl) (by kernel_rfl) (door_met os _)) ?_
  intro W base args ds gs before hval0 hW _ _ hL _
  have hval : ∀ (j : Nat) t v, Tryz.f3.params[j]? = some t → args[j]? = some v → Value.okWide Tryz.prog W .any base t v := hval0
  have hW' := hW
  obtain ⟨p, q, hA0, hV, rfl, hfz, hnd⟩ := hW
  have hA : DataW.TrodAll enc Tryz.prog W 0 (fun _ => true) true Tryz.f3.params.toList args.toList ds p := hA0
  rw [Tryz.params3] at hA hval
  obtain ⟨v0, v1, d0, d1, p0, p1, rfl, rfl, rfl, h0, h1⟩ := trodAll_two hA
  obtain ⟨rfl, rfl⟩ := trodVars_none hV
  obtain ⟨s, ok, hu, rfl⟩ := seq_of (hval 0 26 v0 rfl rfl) h0
  obtain ⟨q, rfl, rfl, rfl, wq⟩ := open_int Tryz.underlying3 (hval 1 3 v1 rfl rfl) h1
  clear hA0 hval0
  refine (law_any s q W ok hu).mono fun e W' ⟨he, hk⟩ => ?_
  subst he
  have hb := hk.below
  have hlt : ∀ x ∈ (p0 ++ []) ++ [], x.block < W.heap.size := fun x hx => hW'.lt x hx
  refine ⟨_, rfl, post_of_keep (pa := p0 ++ []) (pv := []) hW' (fun _ _ _ => trodAll_mk1 (shut_bool Tryz.underlying4 true)) (fun sp hsp => ?_) (fun _ _ => rfl) rfl hb (ok_one (by kernel_rfl) rfl (okWide_bool_mk Tryz.underlying4 true))⟩
  refine trodAll_mk2 ?_ (shut_int Tryz.underlying3 wq)
  · exact WideElems.Trod_stays Tryz.laidOut (by kernel_rfl) (of_decide_eq_true (by kernel_rfl)) h0 (fun x hx => hb.same (hlt x (by simp [hx]))) (fun x hx => hsp x (by simp [hx]))

theorem encoderBound_row : Rows.EncoderBoundSaid :=
  OpenClaim.holds_of_wide 3 Tryz.f3 rfl rfl rfl rfl rfl rfl rfl ⟨rfl, rfl, rfl, rfl, rfl⟩ rfl rfl rfl rfl rfl (by kernel_rfl) Tryz.func3 (by kernel_rfl)
    (of_decide_eq_true (by kernel_rfl)) (by unfold Func.isWrapper; first | (rw [if_pos (by decide +kernel)]; kernel_rfl) | (rw [if_neg (by decide +kernel)]; exact ⟨rfl, rfl⟩))
    (fun os started H enc _ => encoderBound_lifted os started H enc)
theorem encoderBound_holds : Rows.EncoderBoundCardSaid :=
  Claim7.holds_tied_plain_at .later [] [.data] true (true, "4f2dbda410866a99bdfb164bae909e36667c0baa91464f566866fab65dcee785") true
    encoderBound_row (fun _ h => by cases h) (by kernel_rfl) (fun _ h => by cases h) encoderBound_row_tie rfl ⟨rfl, rfl⟩ (by kernel_rfl) rfl
    (fun f fn hf hfn => by
      obtain rfl : f = 3 := Option.some.inj ((show Tryz.prog.funcNamed Rows.encoderBoundRow.func = some 3 by kernel_rfl).symm.trans hf) |>.symm
      obtain rfl : fn = Tryz.f3 := (Option.some.inj (Tryz.func3.symm.trans hfn)).symm
      exact ⟨by kernel_rfl, fun j t ht => by
        rw [Tryz.params3] at ht
        have hm : t ∈ [26, 3] := by simpa using Array.mem_of_getElem? ht
        have hall : ([26, 3].all fun u => !Tryz.prog.wantsStandIn u) = true := by kernel_rfl
        exact (show Tryz.prog.wantsStandIn t = false by simpa using List.all_eq_true.1 hall t hm)⟩)
    (by kernel_rfl)
end Go.Proofs.YtebdgoikmclflaaGreatDoor
