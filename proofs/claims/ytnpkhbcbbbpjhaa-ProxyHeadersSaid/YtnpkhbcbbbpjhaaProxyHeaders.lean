/-
  The statement ProxyHeadersSaid, proved.
-/
import Derived.Test.YtnpkhbcbbbpjhaaRow
import Derived.Test.YtnpkhbcbbbpjhaaRowS
import Derived.Test.YtnpkhbcbbbpjhaaLaw5
namespace Go.Proofs.Ytnpkhbcbbbpjhaa
open Go.ChangeShapes Go.WideShapes Go.ChangeAt Go.RowKit Go.Joins Go.Deep

set_option maxRecDepth 100000 in
theorem proxyHeaders_lifted (os : Os) (started : os.Started) (H : Type) (enc : TypeId × Value → H) :
    ReturnsInHanded {} Try.checked os 5 .any (Rows.proxyHeadersSpec.pre6 enc Try.prog Try.f5 Rows.proxyHeadersRow.domain false) (Rows.proxyHeadersSpec.post enc Try.prog Try.f5 false true false false) := by
  refine returnsInHanded_of_change (C := Try.checked) Try.own started (by kernel_rfl) Try.func5
    (ChangeSpec.witness6 (enc := enc) (C := Try.checked) false ⟨#[], #[.agg zeroSq.cells, .agg zeroIx.cells, .agg zeroIx.cells, .slice none 0 0], []⟩ 8 (by kernel_rfl) (by kernel_rfl) (by kernel_rfl) (by kernel_rfl)) ?_
  intro W base args ds gs before hval0 hW hcnd _
  have hval : ∀ (j : Nat) t v, Try.f5.params[j]? = some t → args[j]? = some v → Value.okWide Try.prog W .any base t v := hval0
  have hW' := hW
  obtain ⟨p, q, hA0, hV, rfl, hfz, hnd⟩ := hW
  have hA : DataW.TrodAll enc Try.prog W 0 (fun _ => true) true Try.f5.params.toList args.toList ds p := hA0
  rw [Try.params5] at hA hval
  obtain ⟨v0, va, vb, v1, d0, da, db, d1, p0, pa, pb, p1, rfl, rfl, rfl, h0, ha, hb', h1⟩ := trodAll_four hA
  obtain ⟨rfl, rfl⟩ := trodVars_none hV
  obtain ⟨q0, ok0, rfl⟩ := seq_of (hval 0 42 v0 rfl rfl) h0
  obtain ⟨a, oka, rfl⟩ := ix_of (hval 1 45 va rfl rfl) ha
  obtain ⟨b, okb, rfl⟩ := ix_of (hval 2 45 vb rfl rfl) hb'
  obtain ⟨A, n, c, zs, rfl, hr, hz⟩ := tape_of h1 (okWide_slice Try.underlying25 (hval 3 25 v1 rfl rfl))
  clear hA0 hval0
  refine (law5_any q0 a b A n c zs W ok0 oka okb hr hz).mono fun e W' ⟨he, hk⟩ => ?_
  subst he
  have hb := hk.below
  have hlt : ∀ x ∈ (p0 ++ pa ++ pb ++ p1) ++ [], x.block < W.heap.size := fun x hx => hW'.lt x hx
  refine ⟨_, rfl, post_of_keep (pa := p0 ++ pa ++ pb ++ p1) (pv := []) hW' (fun _ _ _ => trodAll_mk1 (shut_bool Try.underlying4 true)) (fun sp hsp => ?_) (fun _ _ => rfl) rfl hb (ok_one (by kernel_rfl) rfl (okWide_bool_mk Try.underlying4 true))⟩
  have e : p0 ++ pa ++ pb ++ p1 = p0 ++ (pa ++ (pb ++ p1)) := by simp
  rw [e]
  refine trodAll_mk4 ?_ ?_ ?_ ?_
  · exact WideElems.Trod_stays Try.laidOut (by kernel_rfl) (of_decide_eq_true (by kernel_rfl)) h0 (fun x hx => hb.same (hlt x (by simp [hx]))) (fun x hx => hsp x (by simp [hx]))
  · exact WideElems.Trod_stays Try.laidOut (by kernel_rfl) (of_decide_eq_true (by kernel_rfl)) ha (fun x hx => hb.same (hlt x (by simp [hx]))) (fun x hx => hsp x (by simp [hx]))
  · exact WideElems.Trod_stays Try.laidOut (by kernel_rfl) (of_decide_eq_true (by kernel_rfl)) hb' (fun x hx => hb.same (hlt x (by simp [hx]))) (fun x hx => hsp x (by simp [hx]))
  · exact WideElems.Trod_stays Try.laidOut (by kernel_rfl) (of_decide_eq_true (by kernel_rfl)) h1 (fun x hx => hb.same (hlt x (by simp [hx]))) (fun x hx => hsp x (by simp [hx]))

theorem proxyHeaders_holds : Rows.ProxyHeadersSaid :=
  OpenClaim.holds_of_wide 5 Try.f5 rfl rfl rfl rfl rfl rfl rfl ⟨rfl, rfl, rfl, rfl, rfl⟩ rfl rfl rfl rfl rfl (by kernel_rfl) Try.func5 (by kernel_rfl)
    (of_decide_eq_true (by kernel_rfl)) (by unfold Func.isWrapper; first | (rw [if_pos (by decide +kernel)]; kernel_rfl) | (rw [if_neg (by decide +kernel)]; exact ⟨rfl, rfl⟩))
    (fun os started H enc _ => proxyHeaders_lifted os started H enc)

end Go.Proofs.Ytnpkhbcbbbpjhaa
