/-
  slices.Sorted(maps.Keys(m)) at a map of names (the layings: by the kit's lay-iter.mjs, lay-plain.mjs).
-/
import Derived.Shelf.SlIter.Nil
import Derived.Shelf.SortM.Plain
import Derived.Shelf.SortM.SortNone
import Derived.Test.YtnefbeplgfdkkaaGreatDoorJb35
import Derived.Test.YtnefbeplgfdkkaaGreatDoorProg
namespace Go.Proofs.YtnefbeplgfdkkaaGreatDoor
section
open Go.Shelf
def jsKeys_ren : Go.Shelf.Ren := ⟨fun | 7 => 34 | 10 => 63 | n => n, fun | 23 => 93 | 26 => 9 | 3 => 4 | 28 => 97 | 0 => 0 | 27 => 96 | 33 => 109 | 4 => 4 | n => n, fun | n => n⟩
theorem jsKeys : Go.Proofs.SlLaysZ.n7 Tryz.prog jsKeys_ren := {
  mixed := by kernel_rfl
  f7 := ⟨Tryz.f34.name, by decide, Tryz.func34.trans (congrArg some (by kernel_rfl))⟩
  f10 := ⟨Tryz.f63.name, by decide, Tryz.func63.trans (congrArg some (by kernel_rfl))⟩
  t0 := Tryz.underlying0
  a0 := Tryz.isAgg0
  z0 := Tryz.sizeOf0
  v0 := Tryz.zeroValue0
  t4 := Tryz.underlying4
  a4 := Tryz.isAgg4
  z4 := Tryz.sizeOf4
  v4 := Tryz.zeroValue4
  t23 := Tryz.underlying93
  a23 := Tryz.isAgg93
  z23 := Tryz.sizeOf93
  v23 := Tryz.zeroValue93
  t26 := Tryz.underlying9
  a26 := Tryz.isAgg9
  z26 := Tryz.sizeOf9
  v26 := Tryz.zeroValue9
  t27 := Tryz.underlying96
  a27 := Tryz.isAgg96
  z27 := Tryz.sizeOf96
  v27 := Tryz.zeroValue96
  t28 := Tryz.underlying97
  a28 := Tryz.isAgg97
  z28 := Tryz.sizeOf97
  v28 := Tryz.zeroValue97
  t33 := Tryz.underlying109
  a33 := Tryz.isAgg109
  z33 := Tryz.sizeOf109
  v33 := Tryz.zeroValue109 }
def jsSorted_ren : Go.Shelf.Ren := ⟨fun | 6 => 33 | 8 => 61 | 9 => 62 | 11 => 88 | 13 => 90 | 12 => 89 | 23 => 118 | 24 => 119 | 14 => 109 | 15 => 110 | 16 => 111 | 17 => 112 | 18 => 113 | 19 => 114 | 20 => 115 | 21 => 116 | 22 => 117 | 25 => 134 | 26 => 135 | 27 => 136 | 28 => 137 | 29 => 138 | 30 => 139 | 31 => 143 | n => n, fun | 26 => 9 | 28 => 97 | 24 => 44 | 0 => 0 | 3 => 3 | 37 => 146 | 48 => 177 | 50 => 102 | 4 => 4 | 40 => 170 | 39 => 169 | 45 => 154 | 5 => 5 | 9 => 9 | 51 => 190 | 55 => 194 | 57 => 196 | 58 => 197 | 33 => 109 | n => n, fun | n => n⟩
theorem jsSorted : Go.Proofs.SlLaysZ.n6 Tryz.prog jsSorted_ren := {
  mixed := by kernel_rfl
  f6 := ⟨Tryz.f33.name, by decide, Tryz.func33.trans (congrArg some (by kernel_rfl))⟩
  f8 := ⟨Tryz.f61.name, by decide, Tryz.func61.trans (congrArg some (by kernel_rfl))⟩
  f11 := ⟨Tryz.f88.name, by decide, Tryz.func88.trans (congrArg some (by kernel_rfl))⟩
  t0 := Tryz.underlying0
  a0 := Tryz.isAgg0
  z0 := Tryz.sizeOf0
  v0 := Tryz.zeroValue0
  t24 := Tryz.underlying44
  a24 := Tryz.isAgg44
  z24 := Tryz.sizeOf44
  v24 := Tryz.zeroValue44
  t26 := Tryz.underlying9
  a26 := Tryz.isAgg9
  z26 := Tryz.sizeOf9
  v26 := Tryz.zeroValue9
  t28 := Tryz.underlying97
  a28 := Tryz.isAgg97
  z28 := Tryz.sizeOf97
  v28 := Tryz.zeroValue97
  i26 := by kernel_rfl }
def jsSortG_ren : Go.Shelf.Ren := ⟨fun | 6 => 62 | 8 => 90 | 9 => 89 | 19 => 118 | 20 => 119 | 21 => 109 | 22 => 110 | 23 => 111 | 24 => 112 | 25 => 113 | 26 => 114 | 27 => 115 | 28 => 116 | 29 => 117 | 36 => 134 | 31 => 135 | 32 => 136 | 37 => 137 | 38 => 138 | 39 => 139 | 41 => 143 | n => n, fun | 27 => 44 | 29 => 9 | 3 => 3 | 32 => 146 | 26 => 44 | 0 => 0 | 44 => 177 | 46 => 102 | 4 => 4 | 36 => 170 | 35 => 169 | 41 => 154 | 5 => 5 | 9 => 9 | 53 => 190 | 57 => 194 | 63 => 196 | 64 => 197 | n => n, fun | n => n⟩
theorem jsSortG : Go.Proofs.SlLaysM.n6 Tryz.prog jsSortG_ren := {
  mixed := by kernel_rfl
  f6 := ⟨Tryz.f62.name, by decide, Tryz.func62.trans (congrArg some (by kernel_rfl))⟩
  f8 := Tryz.func90.trans (congrArg some (by kernel_rfl))
  f9 := ⟨Tryz.f89.name, by decide, Tryz.func89.trans (congrArg some (by kernel_rfl))⟩
  f19 := Tryz.func118.trans (congrArg some (by kernel_rfl))
  f20 := Tryz.func119.trans (congrArg some (by kernel_rfl))
  f21 := ⟨Tryz.f109.name, by decide, Tryz.func109.trans (congrArg some (by kernel_rfl))⟩
  f22 := ⟨Tryz.f110.name, by decide, Tryz.func110.trans (congrArg some (by kernel_rfl))⟩
  f23 := ⟨Tryz.f111.name, by decide, Tryz.func111.trans (congrArg some (by kernel_rfl))⟩
  f24 := ⟨Tryz.f112.name, by decide, Tryz.func112.trans (congrArg some (by kernel_rfl))⟩
  f25 := ⟨Tryz.f113.name, by decide, Tryz.func113.trans (congrArg some (by kernel_rfl))⟩
  f26 := ⟨Tryz.f114.name, by decide, Tryz.func114.trans (congrArg some (by kernel_rfl))⟩
  f27 := ⟨Tryz.f115.name, by decide, Tryz.func115.trans (congrArg some (by kernel_rfl))⟩
  f28 := ⟨Tryz.f116.name, by decide, Tryz.func116.trans (congrArg some (by kernel_rfl))⟩
  f29 := ⟨Tryz.f117.name, by decide, Tryz.func117.trans (congrArg some (by kernel_rfl))⟩
  f31 := Tryz.func135.trans (congrArg some (by kernel_rfl))
  f32 := Tryz.func136.trans (congrArg some (by kernel_rfl))
  f36 := ⟨Tryz.f134.name, by decide, Tryz.func134.trans (congrArg some (by kernel_rfl))⟩
  f37 := ⟨Tryz.f137.name, by decide, Tryz.func137.trans (congrArg some (by kernel_rfl))⟩
  f38 := ⟨Tryz.f138.name, by decide, Tryz.func138.trans (congrArg some (by kernel_rfl))⟩
  f39 := ⟨Tryz.f139.name, by decide, Tryz.func139.trans (congrArg some (by kernel_rfl))⟩
  f41 := ⟨Tryz.f143.name, by decide, Tryz.func143.trans (congrArg some (by kernel_rfl))⟩
  t0 := Tryz.underlying0
  a0 := Tryz.isAgg0
  z0 := Tryz.sizeOf0
  v0 := Tryz.zeroValue0
  t3 := Tryz.underlying3
  a3 := Tryz.isAgg3
  z3 := Tryz.sizeOf3
  v3 := Tryz.zeroValue3
  t4 := Tryz.underlying4
  a4 := Tryz.isAgg4
  z4 := Tryz.sizeOf4
  v4 := Tryz.zeroValue4
  t5 := Tryz.underlying5
  a5 := Tryz.isAgg5
  z5 := Tryz.sizeOf5
  v5 := Tryz.zeroValue5
  t9 := Tryz.underlying9
  a9 := Tryz.isAgg9
  z9 := Tryz.sizeOf9
  v9 := Tryz.zeroValue9
  t26 := Tryz.underlying44
  a26 := Tryz.isAgg44
  z26 := Tryz.sizeOf44
  v26 := Tryz.zeroValue44
  t27 := Tryz.underlying44
  a27 := Tryz.isAgg44
  z27 := Tryz.sizeOf44
  v27 := Tryz.zeroValue44
  t29 := Tryz.underlying9
  a29 := Tryz.isAgg9
  z29 := Tryz.sizeOf9
  v29 := Tryz.zeroValue9
  t32 := Tryz.underlying146
  a32 := Tryz.isAgg146
  z32 := Tryz.sizeOf146
  v32 := Tryz.zeroValue146
  t35 := Tryz.underlying169
  a35 := Tryz.isAgg169
  z35 := Tryz.sizeOf169
  v35 := Tryz.zeroValue169
  t36 := Tryz.underlying170
  a36 := Tryz.isAgg170
  z36 := Tryz.sizeOf170
  v36 := Tryz.zeroValue170
  t41 := Tryz.underlying154
  a41 := Tryz.isAgg154
  z41 := Tryz.sizeOf154
  v41 := Tryz.zeroValue154
  t44 := Tryz.underlying177
  a44 := Tryz.isAgg177
  z44 := Tryz.sizeOf177
  v44 := Tryz.zeroValue177
  t46 := Tryz.underlying102
  a46 := Tryz.isAgg102
  z46 := Tryz.sizeOf102
  v46 := Tryz.zeroValue102
  t53 := Tryz.underlying190
  a53 := Tryz.isAgg190
  z53 := Tryz.sizeOf190
  v53 := Tryz.zeroValue190
  t57 := Tryz.underlying194
  a57 := Tryz.isAgg194
  z57 := Tryz.sizeOf194
  v57 := Tryz.zeroValue194
  t63 := Tryz.underlying196
  a63 := Tryz.isAgg196
  z63 := Tryz.sizeOf196
  v63 := Tryz.zeroValue196
  t64 := Tryz.underlying197
  a64 := Tryz.isAgg197
  z64 := Tryz.sizeOf197
  v64 := Tryz.zeroValue197 }

end
section
open Go.RowKit Go.Maps Go.Sort Go.Shelf
theorem js_sorts (m : Nat) : AnyZ.SortsIn Tryz.prog jsSorted_ren Fence.wide m :=
  ⟨fun blk off cap ss W hH hblk hsz => callsIn_wide.2 (AnyM.slices_Sort_string jsSortG blk off cap ss W hH hblk hsz),
   fun p cap W => callsIn_wide.2 (AnyM.slices_Sort_string_none jsSortG p cap W)⟩
theorem js_keys (mb : Option Nat) (W : World) : CallsIn Fence.wide 5 Tryz.prog 34 #[.map mb] W fun e w' => e = .returned (.func (.func 63) #[] #[.pointer (some ⟨W.heap.size, 0, none⟩)]) ∧ w' = W.alloc (.cells #[.map mb] 93) :=
  AnyZ.keys_in jsKeys Fence.wide 5 trivial rfl mb W
set_option maxHeartbeats 1000000 in
theorem js_sorted {H : Type} (b nn : Nat) (D0 : DataW H) (R : Value → Option (DataW H × List MemPlace)) (w : World) (hown : w.ownsMap Tryz.prog 9 R b nn D0) (hmax : Maps.size D0 ≤ maxLen) (hbytes : Maps.size D0 * 16 ≤ 140737488355328) :
    CallsIn Fence.wide 5 Tryz.prog 33 #[.func (.func 63) #[] #[.pointer (some ⟨w.heap.size, 0, none⟩)]] (w.alloc (.cells #[.map (some b)] 93)) fun e w' => ∃ (v : Value) (ss : List (List UInt8)), e = .returned v ∧ ss.Perm (strKeys D0) ∧
      w'.ownsRow (w.alloc (.cells #[.map (some b)] 93)).heap.size 9 1 v ss.length ((ss.mergeSort (fun x y => decide (x ≤ y))).map encStr) ∧ (v = .slice none 0 0 ↔ ss = []) ∧ Below (w.alloc (.cells #[.map (some b)] 93)).heap.size (w.alloc (.cells #[.map (some b)] 93)) w' := by
  have hbl := hown.lt
  have hseq : SeqGives Fence.wide 2 Tryz.prog 63 #[.pointer (some ⟨w.heap.size, 0, none⟩)] encStr (fun ss => ss.Perm (strKeys D0)) (Maps.size D0) (w.alloc (.cells #[.map (some b)] 93)) :=
    AnyZ.keys_gives (ρ := jsKeys_ren) { jsKeys with } Fence.wide _ trivial rfl (by omega) w.heap.size b nn D0 _ (by simp) (by simp) (by
      obtain ⟨es, clock, hb, Ft, hs, hD⟩ := hown
      exact ⟨es, clock, (Below.heap_alloc _ _ b hbl).trans hb, Ft, hs, hD⟩)
  exact AnyZ.sorted_in jsSorted Fence.wide 5 trivial trivial trivial trivial rfl (by omega) (js_sorts _) (enters_of Tryz.func62 (by kernel_rfl) rfl) 63 #[.pointer (some ⟨w.heap.size, 0, none⟩)] trivial (enters_of Tryz.func63 (by kernel_rfl) rfl) _ _ hmax hbytes _ hseq
end
section
open Go.RowKit
theorem KMap.own {w : World} {b : Nat} {ks : List ByteArray} (h : KMap w b ks) (hnd : ks.Nodup) (hsz : ∀ k ∈ ks, k.size ≤ maxLen) (hlen : ks.length ≤ maxLen) :
    ∃ D0 : DataW Nat, w.ownsMap Tryz.prog 9 (plainElem (H := Nat) Tryz.prog 4) b ks.length D0 ∧ Maps.size D0 = ks.length ∧ (strKeys D0).Perm (ks.map (fun x => x.data.toList)) := by
  obtain ⟨es, clock, hb, hk, hv, hn⟩ := h
  have hl : es.size = ks.length := by
    have := congrArg List.length hk
    simpa using this
  have hread : ∀ x ∈ es.toList, ∃ s : ByteArray, s ∈ ks ∧ x.key = .string s ∧ WideElems.rd Tryz.prog 9 (plainElem (H := Nat) Tryz.prog 4) x = some (.string s.data.toList, .lit (.bool true)) := fun x hx => by
    have : x.key ∈ ks.map Value.string := hk ▸ List.mem_map.2 ⟨x, hx, rfl⟩
    obtain ⟨s, hs, e⟩ := List.mem_map.1 this
    obtain ⟨key, val, born⟩ := x
    have hval := (hv _ hx).1
    simp only at e hval
    subst e hval
    exact ⟨s, hs, rfl, WideElems.rd_mk (by simp [keyOf, mapKey, Tryz.underlying9, hsz s hs]) (plainElem_bool Tryz.underlying4 true)⟩
  have F : WideElems.Fit Tryz.prog 9 (plainElem (H := Nat) Tryz.prog 4) es clock := by
    refine ⟨by omega, (MapKept.stamped_iff es clock).2 ⟨fun x hx => (hv x hx).2, hn, ?_⟩, fun x hx => ?_⟩
    · have hp : (es.toList.map MapEntry.key).Pairwise (· ≠ ·) := by
        rw [hk, List.pairwise_map]
        exact hnd.imp (fun {a b} h e => h (by injection e))
      rwa [List.pairwise_map] at hp
    · obtain ⟨s, -, -, h⟩ := hread x hx
      exact ⟨_, h⟩
  refine ⟨_, ⟨es, clock, hb, F, by omega, rfl⟩, ?_, ?_⟩
  · rw [Maps.size_eq, length_sorted, List.length_map, Array.length_toList, hl]
  · show (List.map (fun p : Lit × DataW Nat => strOf p.1) _).Perm _
    refine ((WideShapes.sorted_perm _).map _).trans ?_
    rw [List.map_map]
    have e1 : es.toList.map ((fun p : Lit × DataW Nat => strOf p.1) ∘ WideElems.rg Tryz.prog 9 (plainElem (H := Nat) Tryz.prog 4)) = (es.toList.map MapEntry.key).map (fun v => match v with | .string s => s.data.toList | _ => []) := by
      rw [List.map_map]
      refine List.map_congr_left (fun x hx => ?_)
      obtain ⟨s, -, h1, h2⟩ := hread x hx
      simp only [Function.comp, WideElems.rg_of h2, h1, strOf]
    rw [e1, hk, List.map_map]
    exact List.Perm.refl _
theorem encStr_back (l : List (List UInt8)) : l.map encStr = (l.map ofBytes).map Value.string := by
  rw [List.map_map]
  rfl
/-- What the job needs, out of the map of its media. -/
theorem sorted_any {w : World} {b : Nat} {ms : List ByteArray} (h : KMap w b (ms.foldl addK [])) (hsz : ∀ k ∈ ms, k.size ≤ maxLen) (hlen : ms.length ≤ 1048576) :
    Calls Tryz.prog 33 #[.func (.func 63) #[] #[.pointer (some ⟨w.heap.size, 0, none⟩)]] (w.alloc (.cells #[.map (some b)] 93)) fun e w' => ∃ v : Value, e = .returned v ∧ w'.ownsRow (w.heap.size + 1) 9 1 v (needsOf ms).length ((needsOf ms).map Value.string) ∧ Keep none_ w w' := by
  have hl := add_all_len ms []
  have hl' : (ms.foldl addK []).length ≤ 1048576 := by simpa using Nat.le_trans hl (by simpa using hlen)
  obtain ⟨D0, hown, hs, hperm⟩ := h.own (add_all_nodup ms List.nodup_nil) (fun k hk => by
    rcases (mem_add_all ms).1 hk with h | h
    · exact hsz k h
    · cases h) (by unfold maxLen; omega)
  refine (callsIn_wide (n := 5)).1 ((js_sorted b _ D0 (plainElem (H := Nat) Tryz.prog 4) w hown (by unfold maxLen; omega) (by omega)).mono ?_)
  rintro e w' ⟨v, ss, rfl, hp, hrow, -, hb⟩
  have hp2 : ss.Perm ((ms.foldl addK []).map (fun x => x.data.toList)) := hp.trans hperm
  have hsort : (ss.mergeSort fun x y => decide (x ≤ y)) = ((ms.foldl addK []).map (fun x => x.data.toList)).mergeSort fun x y => decide (x ≤ y) := mergeSort_of_perm hp2
  have hn := sorted_needs (ms := ms) rfl (List.Perm.refl _)
  have hln : ss.length = (needsOf ms).length := by
    rw [← hn, List.length_map, List.length_mergeSort, ← hp2.length_eq]
  refine ⟨v, rfl, ?_, ((Keep.refl none_ w).alloc _).trans (Keep.ofBelow hb)⟩
  have e1 : (ss.mergeSort fun x y => decide (x ≤ y)).map encStr = (needsOf ms).map Value.string := by rw [hsort, encStr_back, hn]
  rw [e1, hln] at hrow
  simpa using hrow
end
end Go.Proofs.YtnefbeplgfdkkaaGreatDoor
