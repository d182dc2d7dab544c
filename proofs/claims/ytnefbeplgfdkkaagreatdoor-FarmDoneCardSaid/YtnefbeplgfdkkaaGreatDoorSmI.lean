/-
  cutroomref12.SameItems of a list and itself.
-/
import Derived.Test.YtnefbeplgfdkkaaGreatDoorDoneP
import Derived.Test.YtnefbeplgfdkkaaGreatDoorOff
namespace Go.Proofs.YtnefbeplgfdkkaaGreatDoor
open Go.RowKit

/-- SameItem says yes of this item and itself. -/
def SameOk (x : Itm) : Prop := ∀ (w : World) (S S' : Nat → Prop) (cs cs' : Array Value), ItmOf w S cs.toList x → ItmOf w S' cs'.toList x →
  Calls Tryz.prog 55 #[.agg cs, .agg cs'] w fun e w' => e = .returned (.bool true) ∧ Keep none_ w w'
theorem ItmOf.kind {w : World} {S : Nat → Prop} {cs : Array Value} {x : Itm} (h : ItmOf w S cs.toList x) {v : Value} (hv : x.flat[0]? = some v) : cs[0]? = some v ∧ cs[147]? = some (.int .i64 x.pad) ∧ cs.size = 148 ∧ ∀ u ∈ cs.toList, u.oneCell' = true := by
  obtain ⟨u, s, e, hl, ho, hu, hs⟩ := h
  have e0 : cs.toList[0]? = some v := by rw [e, List.getElem?_append_left (by omega), hv]
  have e1 : cs.toList[147]? = some (.int .i64 x.pad) := by rw [e, List.getElem?_append_right (by omega), hl]; rfl
  have e2 : cs.toList.length = 148 := by rw [e]; simp [hl]
  refine ⟨by simpa using e0, by simpa using e1, by simpa using e2, fun z hz => ?_⟩
  rw [e] at hz
  rcases List.mem_append.1 hz with hz | hz
  · exact ho z hz
  · obtain ⟨A, n, c, rfl, -⟩ := hu
    obtain ⟨A', n', c', rfl, -⟩ := hs
    simp only [List.mem_cons, List.not_mem_nil, or_false] at hz
    rcases hz with rfl | rfl | rfl <;> rfl

set_option maxRecDepth 100000 in
set_option maxHeartbeats 1000000 in
theorem sameItem_end (x : Itm) (h4 : x.flat[0]? = some (.int .i64 4)) : SameOk x := by
  intro w S S' cs cs' h h'
  obtain ⟨c0, c1, c2, c3⟩ := h.kind h4
  obtain ⟨d0, d1, d2, d3⟩ := h'.kind h4
  obtain ⟨W1, hW1⟩ : ∃ W1, W1 = (w.alloc (.cells cs 72)).alloc (.cells cs' 72) := ⟨_, rfl⟩
  have k1 : Keep none_ w W1 := hW1 ▸ ((Keep.refl none_ w).alloc _).alloc _
  obtain ⟨b0, b1, -⟩ := two (Keep.refl none_ ((w.alloc (.cells cs 72)).alloc (.cells cs' 72)))
  rw [← hW1] at b0 b1
  have y0 := (b0.cell 0).trans c0
  have y1 := (b0.cell 147).trans c1
  have z0 := (b1.cell 0).trans d0
  have z1 := (b1.cell 147).trans d1
  have K1 := Lib.hid k1
  clear h h' c0 c1 d0 d1 b0 b1 k1 c2 c3 d2 d3
  go_enter Tryz.func55, Tryz.ntmps55
  go_upto_region 1 with (fail)
  rw [← hW1]
  clear hW1
  go_wp2
  go_ret
  exact ⟨rfl, K1.out⟩

set_option maxRecDepth 100000 in
set_option maxHeartbeats 1000000 in
theorem sameItems_any (l : List Itm) (hl : ∀ x ∈ l, SameOk x) (v v' : Value) (S S' : Nat → Prop) (w : World) (h : ItemsOf w S v l) (h' : ItemsOf w S' v' l) :
    Calls Tryz.prog 23 #[v, v'] w fun e w' => e = .returned (.bool true) ∧ Keep none_ w w' := by
  obtain ⟨A, n, c, rfl, h1, h2, hn, -⟩ := id h
  obtain ⟨A', n', c', rfl, h1', h2', hn', -⟩ := id h'
  obtain rfl : n = n' := by omega
  unfold maxLen at h2 h2'
  have HL := Lib.hid hl
  have H := Lib.hid h
  have H' := Lib.hid h'
  clear h h' hl hn'
  go_enter Tryz.func23, Tryz.ntmps23
  go_wp2_with (fail)
  go_loopw [5] (fun i wr => ∃ k : Nat, k ≤ n ∧ i = .int .i64 k ∧ Keep none_ w wr) (fun i _ => n - (intOf i).toNat)
  case atStart => exact ⟨0, Nat.zero_le _, rfl, Keep.refl _ _⟩
  case round =>
    obtain ⟨k, hk, rfl, hkr⟩ := hrel
    have HK := Lib.hid hkr
    have HR := Lib.hid (H.out.keep (w' := wr) hkr.weak)
    have HR' := Lib.hid (H'.out.keep (w' := wr) hkr.weak)
    clear hkr
    by_cases hlt : k < n
    · have hlt' : (k : Int) < n := by omega
      obtain ⟨b, o, rfl, -, hkl, cs, hcl, hrg, hi⟩ := ElemsOf.elem HR.out k hlt
      obtain ⟨b', o', rfl, -, hkl', cs', hcl', hrg', hi'⟩ := ElemsOf.elem HR'.out k hlt
      have hsm := HL.out _ (List.getElem_mem hkl)
      generalize l[k] = x at hi hi' hsm
      obtain ⟨ca, rfl⟩ : ∃ ca : Array Value, cs = ca.toList := ⟨cs.toArray, by simp⟩
      obtain ⟨ca', rfl⟩ : ∃ ca : Array Value, cs' = ca.toList := ⟨cs'.toArray, by simp⟩
      have R1 := Lib.hid hrg
      have R2 := Lib.hid hrg'
      have SZ := Lib.hid (show (Tryz.prog.info? 72).map (·.size) = some ca.size by rw [show ca.size = 148 by simpa using hcl]; kernel_rfl)
      have SZ' := Lib.hid (show (Tryz.prog.info? 72).map (·.size) = some ca'.size by rw [show ca'.size = 148 by simpa using hcl']; kernel_rfl)
      have SM := Lib.hid (fun (wx : World) (kx : Keep none_ wr wx) => hsm wx none_ none_ ca ca' (hi.weak.keep kx) (hi'.weak.keep kx))
      clear hrg hrg' hi hi' hsm hcl hcl'
      go_upto_region 6 with (fail)
      have gd := callCalm_good wr 8 (.bool true)
      have ne := callCalm_some wr 8 (.bool true)
      have x1 := Lib.hid (fun y => rangeAt_keep R1.out (callCalm_at (wr := wr) (k := 8) (u := .bool true) y) (fun e => e))
      have x2 := Lib.hid (fun y => rangeAt_keep R2.out (callCalm_at (wr := wr) (k := 8) (u := .bool true) y) (fun e => e))
      refine wp_region_calm (callCalm wr 8 (.bool true)) [0, 1, 2, 3, 4, 5, 6, 7, 8, 9] [] 27 (by kernel_rfl) (by kernel_rfl) rfl gd (Keep.refl _ _).drew ?_
      simp only [pairs, List.filterMap_cons, List.filterMap_nil, List.getElem?_toArray, List.getElem?_cons_succ, List.getElem?_cons_zero, Option.map_some]
      repeat (refine Calm.walk_quiet ne rfl rfl rfl (fun K hK => ?_); go_big_quiet_op; refine hK _ ?_; clear hK K)
      refine Calm.walk_load 72 (.tmp 19) rfl ne rfl rfl b (o + k * 148) (by first | rfl | simp) ca _ x1.out Tryz.underlying72 rfl SZ.out ?_
      go_frame
      repeat (refine Calm.walk_quiet ne rfl rfl rfl (fun K hK => ?_); go_big_quiet_op; refine hK _ ?_; clear hK K)
      refine Calm.walk_load 72 (.tmp 23) rfl ne rfl rfl b' (o' + k * 148) (by first | rfl | simp) ca' _ x2.out Tryz.underlying72 rfl SZ'.out ?_
      go_frame
      refine Calm.walk_eff rfl rfl (fun n wy hn hG _ => ?_) ?_
      · have hG' : Keep none_ wr wy := hG
        unfold gives
        go_simp
        refine (SM.out wy hG').mono ?_
        rintro e wz ⟨rfl, kz⟩
        exact ⟨_, rfl, rfl, kz, hG'.trans kz, fun _ h => h.elim⟩
      intro vq wy hT
      obtain rfl : vq = .bool true := hT
      clear wy
      go_frame
      repeat (refine Calm.walk_quiet ne rfl rfl rfl (fun K hK => ?_); go_big_quiet_op; refine hK _ ?_; clear hK K)
      intro w9 hG hD
      have k89 : Keep none_ wr w9 := hG
      have HK9 := Lib.hid (HK.out.trans k89)
      clear hG hD gd ne x1 x2 k89 R1 R2 SM SZ SZ'
      simp only [pickOps, List.filterMap_nil]
      go_wp2
      go_roundw
      case rel => exact ⟨k + 1, hlt, by go_num, HK9.out⟩
      case measure => simp [intOf]; omega
    · obtain rfl : k = n := by omega
      go_wp2
      go_ret
      exact ⟨rfl, HK.out⟩
end Go.Proofs.YtnefbeplgfdkkaaGreatDoor
