/-
  PROVED: FarmWatchesCardSaid: for every input FarmWatches returns true and leaves its arguments as they were. Conditions: those of the card (the three tables of math/bits and strconv are laid as the program's text lays them).
-/
import Derived.Test.YtnefbeplgfdkkaaDoorCards
import Derived.Test.YtnefbeplgfdkkaaDoorFRow
import Derived.Test.YtnefbeplgfdkkaaDoorWatA
import Derived.Test.YtnefbeplgfdkkaaDoorWatB
namespace Go.Proofs.YtnefbeplgfdkkaaDoor
open Go.ChangeShapes Go.WideShapes Go.ChangeAt Go.RowKit Go.Joins Go.Deep

theorem watches_any (first leave : Bool) (w : World) : Calls Tryd.prog 5 #[.bool first, .bool leave] w fun e w' => e = .returned (.bool true) ∧ Keep none_ w w' := by
  cases first <;> cases leave
  · exact watch_ff w
  · exact watch_ft w
  · exact watch_tf w
  · exact watch_tt w
set_option maxRecDepth 100000 in
theorem farmWatches_lifted (os : Os) (started : os.Started) (H : Type) (enc : TypeId × Value → H) :
    ReturnsInHanded {} Tryd.checked os 5 .any (fun w args => (Rows.farmWatchesSpec.pre enc Tryd.prog Tryd.f5 [] false w args ∧ laidMetH Tryd.prog Rows.farmWatchesRow.laid w) ∧ sizedMet enc Tryd.prog Tryd.f5 (OpenSpec.ofChange Rows.farmWatchesSpec) false w args)
      (Rows.farmWatchesSpec.post enc Tryd.prog Tryd.f5 false true false false) := by
  refine returnsInHanded_of_change_and (C := Tryd.checked) (X := fun w _ => laidMetH Tryd.prog Rows.farmWatchesRow.laid w) (fun _ _ _ hh h => h.of_heap hh) Tryd.own started (by kernel_rfl) Tryd.func5
    (ChangeSpec.witness_shaped (enc := enc) (C := Tryd.checked) (os := os) (X := fun w _ => laidMetH Tryd.prog Rows.farmWatchesRow.laid w) false (World.doorLaid Tryd.prog 4000 os) #[.bool false, .bool false] 8 rfl (World.shaped_of_RefB (by kernel_rfl) (by kernel_rfl)) (by kernel_rfl) (by kernel_rfl) (by kernel_rfl) (door_met os _)) ?_
  intro W base args ds gs before hval0 hW _ _ hL _
  have hval : ∀ (j : Nat) t v, Tryd.f5.params[j]? = some t → args[j]? = some v → Value.okWide Tryd.prog W .any base t v := hval0
  have hW' := hW
  obtain ⟨p, q, hA0, hV, rfl, hfz, hnd⟩ := hW
  have hA : DataW.TrodAll enc Tryd.prog W 0 (fun _ => true) true Tryd.f5.params.toList args.toList ds p := hA0
  rw [Tryd.params5] at hA hval
  obtain ⟨v0, v1, d0, d1, p0, p1, rfl, rfl, rfl, h0, h1⟩ := trodAll_two hA
  obtain ⟨rfl, rfl⟩ := trodVars_none hV
  obtain ⟨first, rfl, rfl, rfl⟩ := open_bool Tryd.underlying4 (hval 0 4 v0 rfl rfl) h0
  obtain ⟨leave, rfl, rfl, rfl⟩ := open_bool Tryd.underlying4 (hval 1 4 v1 rfl rfl) h1
  clear hA0 hval0
  refine (watches_any first leave W).mono fun e W' ⟨he, hk⟩ => ?_
  subst he
  exact ⟨_, rfl, post_of_keep (pa := []) (pv := []) hW' (fun _ _ _ => trodAll_mk1 (shut_bool Tryd.underlying4 true)) (fun sp _ => trodAll_mk2 (shut_bool Tryd.underlying4 first) (shut_bool Tryd.underlying4 leave)) (fun _ _ => rfl) rfl hk.below (ok_one (by kernel_rfl) rfl (okWide_bool_mk Tryd.underlying4 true))⟩

theorem farmWatches_row : Rows.FarmWatchesSaid :=
  OpenClaim.holds_of_wide 5 Tryd.f5 rfl rfl rfl rfl rfl rfl rfl ⟨rfl, rfl, rfl, rfl, rfl⟩ rfl rfl rfl rfl rfl (by kernel_rfl) Tryd.func5 (by kernel_rfl)
    (of_decide_eq_true (by kernel_rfl)) (by unfold Func.isWrapper; first | (rw [if_pos (by decide +kernel)]; kernel_rfl) | (rw [if_neg (by decide +kernel)]; exact ⟨rfl, rfl⟩))
    (fun os started H enc _ => farmWatches_lifted os started H enc)
theorem farmWatches_holds : Rows.FarmWatchesCardSaid :=
  Claim7.holds_tied_plain_at .later [] [.data, .data, .data] true (true, "a5f6b66e7e279d29db5111e2a0869e1963fc38886bc6872edc5aaadedff081fe") false
    farmWatches_row (fun _ h => by cases h) (by kernel_rfl) (fun _ h => by cases h) farmWatches_row_tie rfl ⟨rfl, rfl⟩ (by kernel_rfl) rfl
    (fun f fn hf hfn => by
      obtain rfl : f = 5 := Option.some.inj ((show Tryd.prog.funcNamed Rows.farmWatchesRow.func = some 5 by kernel_rfl).symm.trans hf) |>.symm
      obtain rfl : fn = Tryd.f5 := (Option.some.inj (Tryd.func5.symm.trans hfn)).symm
      exact ⟨by kernel_rfl, fun j t ht => by
        rw [Tryd.params5] at ht
        have hm : t ∈ [4, 4] := by simpa using Array.mem_of_getElem? ht
        have hall : ([4, 4].all fun u => !Tryd.prog.wantsStandIn u) = true := by kernel_rfl
        exact (show Tryd.prog.wantsStandIn t = false by simpa using List.all_eq_true.1 hall t hm)⟩)
    (by kernel_rfl)
end Go.Proofs.YtnefbeplgfdkkaaDoor
