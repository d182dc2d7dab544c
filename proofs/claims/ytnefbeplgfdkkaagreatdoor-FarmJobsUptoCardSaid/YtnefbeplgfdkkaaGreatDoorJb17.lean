/-
  slices.Insert and slices.Delete at strings, laid at this program (by the kit's lay-plain.mjs), and what they leave of a row of the call's own.
-/
import Derived.Shelf.Slices.Delete
import Derived.Shelf.Slices.Cells
import Derived.Shelf.Spec.SlicesInsert
import Derived.Shelf.Spec.SlicesInsertGrow
import Derived.Test.YtnefbeplgfdkkaaGreatDoorJb09
import Derived.Test.YtnefbeplgfdkkaaGreatDoorJb16
namespace Go.Proofs.YtnefbeplgfdkkaaGreatDoor
open Go.RowKit Go.Shelf

def laysIns_ren : Go.Shelf.Ren := ⟨fun | 22 => 98 | 29 => 127 | 30 => 128 | 36 => 142 | 17 => 144 | n => n, fun | 24 => 44 | 9 => 9 | 3 => 3 | 4 => 4 | 0 => 0 | n => n, fun | n => n⟩
theorem laysIns : Go.Proofs.Lays2.n22 Tryz.prog laysIns_ren := {
  mixed := by kernel_rfl
  f17 := Tryz.func144.trans (congrArg some (by kernel_rfl))
  f22 := Tryz.func98.trans (congrArg some (by kernel_rfl))
  f29 := Tryz.func127.trans (congrArg some (by kernel_rfl))
  f30 := Tryz.func128.trans (congrArg some (by kernel_rfl))
  f36 := Tryz.func142.trans (congrArg some (by kernel_rfl))
  t0 := Tryz.underlying0
  a0 := Tryz.isAgg0
  z0 := Tryz.sizeOf0
  v0 := Tryz.zeroValue0
  t3 := Tryz.underlying3
  a3 := Tryz.isAgg3
  z3 := Tryz.sizeOf3
  v3 := Tryz.zeroValue3
  t4 := Tryz.underlying4
  a4 := Tryz.isAgg4
  z4 := Tryz.sizeOf4
  v4 := Tryz.zeroValue4
  t9 := Tryz.underlying9
  a9 := Tryz.isAgg9
  z9 := Tryz.sizeOf9
  v9 := Tryz.zeroValue9
  t24 := Tryz.underlying44
  a24 := Tryz.isAgg44
  z24 := Tryz.sizeOf44
  v24 := Tryz.zeroValue44
  i9 := by kernel_rfl }
def laysDel_ren : Go.Shelf.Ren := ⟨fun | 24 => 99 | n => n, fun | 24 => 44 | 9 => 9 | 3 => 3 | 4 => 4 | 0 => 0 | n => n, fun | n => n⟩
theorem laysDel : Go.Proofs.Lays2.n24 Tryz.prog laysDel_ren := {
  mixed := by kernel_rfl
  f24 := Tryz.func99.trans (congrArg some (by kernel_rfl))
  t0 := Tryz.underlying0
  a0 := Tryz.isAgg0
  z0 := Tryz.sizeOf0
  v0 := Tryz.zeroValue0
  t3 := Tryz.underlying3
  a3 := Tryz.isAgg3
  z3 := Tryz.sizeOf3
  v3 := Tryz.zeroValue3
  t4 := Tryz.underlying4
  a4 := Tryz.isAgg4
  z4 := Tryz.sizeOf4
  v4 := Tryz.zeroValue4
  t9 := Tryz.underlying9
  a9 := Tryz.isAgg9
  z9 := Tryz.sizeOf9
  v9 := Tryz.zeroValue9
  t24 := Tryz.underlying44
  a24 := Tryz.isAgg44
  z24 := Tryz.sizeOf44
  v24 := Tryz.zeroValue44
  i9 := by kernel_rfl }

theorem laid_ins1 (cur : Array Value) (cs : List Value) (p n : Nat) (u : Value) (hl : cs.length = n) (hp : p ≤ n) (hs : n + 1 ≤ cur.size) (hc : ∀ j, j < p → cur[j]? = cs[j]?) : (laid (laid cur (p + 1) (cs.drop p)) p [u]).toList.take (n + 1) = cs.take p ++ u :: cs.drop p := by
  apply List.ext_getElem?
  intro j
  rw [List.getElem?_take, Array.getElem?_toList, laid_get _ _ _ _ (by rw [laid_size]; simp; omega), laid_get _ _ _ _ (by simp; omega)]
  simp only [List.length_cons, List.length_nil, List.length_drop]
  by_cases h1 : j < p
  · rw [if_pos (by omega), if_pos h1, if_pos (by omega), hc j h1, List.getElem?_append_left (by simp; omega), List.getElem?_take, if_pos h1]
  · rw [List.getElem?_append_right (by simp; omega), List.length_take, Nat.min_eq_left (by omega)]
    by_cases h2 : j = p
    · subst h2
      rw [if_pos (by omega), if_neg h1, if_pos (by omega)]
      simp
    · by_cases h3 : j < n + 1
      · rw [if_pos h3, if_neg h1, if_neg (by omega), if_neg (by omega), if_pos (by omega), show j - p = (j - (p + 1)) + 1 by omega, List.getElem?_cons_succ]
      · rw [if_neg h3, show j - p = (j - (p + 1)) + 1 by omega, List.getElem?_cons_succ, List.getElem?_eq_none (by simp; omega)]
theorem laid_ins2 (cur : Array Value) (cs : List Value) (p n : Nat) (u : Value) (hl : cs.length = n) (hp : p ≤ n) (hs : n + 1 ≤ cur.size) (hc : ∀ j, j < p → cur[j]? = cs[j]?) : (laid (laid cur p [u]) (p + 1) (cs.drop p)).toList.take (n + 1) = cs.take p ++ u :: cs.drop p := by
  rw [← laid_ins1 cur cs p n u hl hp hs hc]
  congr 2
  apply Array.ext_getElem?
  intro j
  rw [laid_get _ _ _ _ (by rw [laid_size]; simp; omega), laid_get _ _ _ _ (by simp; omega), laid_get _ _ _ _ (by rw [laid_size]; simp; omega), laid_get _ _ _ _ (by simp; omega)]
  simp only [List.length_cons, List.length_nil, List.length_drop]
  by_cases h1 : j < p
  · rw [if_pos (by omega), if_pos h1, if_pos h1, if_pos (by omega)]
  · by_cases h2 : j = p
    · subst h2
      rw [if_pos (by omega), if_neg h1, if_pos (by omega), if_neg h1, if_pos (by omega)]
    · by_cases h3 : j < p + 1 + (cs.length - p)
      · rw [if_neg (by omega), if_pos h3, if_neg h1, if_neg (by omega), if_neg (by omega), if_pos h3]
      · rw [if_neg (by omega), if_neg h3, if_neg h1, if_neg (by omega), if_neg h1, if_neg (by omega), if_neg (by omega), if_neg h3]
theorem Keep.drew_eq {S : Nat → Prop} {a w : World} (h : Keep S a w) : Keep S a w.drew := h.drew
def InsPost (base : Nat) (v : Value) (n : Nat) (xs : List Value) (w : World) (e : Ending) (w' : World) : Prop := ∃ A' c', e = .returned (.slice A' (n + 1) c') ∧ w'.ownsRow base 9 1 (.slice A' (n + 1) c') (n + 1) xs ∧ Keep (ofBlk v) w w'
set_option maxHeartbeats 400000 in
theorem ins_any (base : Nat) (v : Value) (n p b : Nat) (cs : List Value) (u : Value) (w : World) (own : w.ownsRow base 9 1 v n cs) (hp : p ≤ n) (hb : Blk w b 9 #[u]) (hu : u.oneCell' = true) (h1 : ∀ x ∈ cs, x.oneCell' = true) (hne : ¬ ofBlk v b) (hn : n ≤ 65536) (hbs : base ≤ w.heap.size) :
    Calls Tryz.prog 98 #[v, .int .i64 p, .slice (some ⟨b, 0, none⟩) 1 1] w (InsPost base v n (cs.take p ++ u :: cs.drop p) w) := by
  have hvs : ∀ j (x : Value), [u][j]? = some x → w.cell? ⟨b, 0 + j, none⟩ = some x := fun j x hx => by
    rw [Nat.zero_add, hb.cell]
    simpa using hx
  have h1v : ∀ x ∈ [u], x.oneCell' = true := by simpa using hu
  obtain ⟨hl, h2⟩ := own
  rw [Nat.mul_one] at hl
  rcases h2 with ⟨rfl, rfl⟩ | ⟨g, cap, cur, rfl, hg, hb2, hnc, hcap, hsz, htk⟩
  · obtain rfl : p = 0 := by omega
    obtain rfl : cs = [] := List.length_eq_zero_iff.1 hl
    refine (Any2.slices_Insert_string_end_grow laysIns none 0 0 b 0 1 1 [] [u] w (by decide) (by decide) (by decide) (by decide) rfl rfl (fun _ => rfl) (fun a h => by cases h) hvs h1v).mono ?_
    rintro e w' ⟨rfl, rfl⟩
    have g1 := grownCap_ge w (0 + 1) 0 9
    have g2 := grownCap_le_maxLen w (0 + 1) 0 9 (by decide)
    refine ⟨_, _, rfl, ⟨rfl, .inr ⟨w.heap.size, _, _, rfl, hbs, heap_alloc_new w.drew _, g1, g2, ?_, ?_⟩⟩, (Keep.refl _ _).drew.alloc _⟩
    · simp [Builtin.zeroCells, laysIns_ren, show (Value.string ⟨#[]⟩).cells.size = 1 from rfl] at g1 ⊢
      omega
    · simp
  · rw [Nat.mul_one] at hsz htk
    have hcc : ∀ j, j < n → cur[j]? = cs[j]? := fun j hj => by rw [← htk, List.getElem?_take, if_pos hj, Array.getElem?_toList]
    have hB : Blk w g 9 cur := hb2
    have hcs : ∀ j x, cs[j]? = some x → w.cell? ⟨g, 0 + j, none⟩ = some x := fun j x hx => by
      have hj : j < n := by rw [← hl]; exact (List.getElem?_eq_some_iff.1 hx).1
      rw [Nat.zero_add, hB.cell, hcc j hj]
      exact hx
    have hgb : b ≠ g := fun e => hne (by rw [e]; rfl)
    have hroomy : n + 1 ≤ cap → ∀ j, j < n + 1 → (w.cell? ⟨g, 0 + j, none⟩).isSome = true := fun hr j hj => by
      rw [Nat.zero_add, hB.cell]
      simp
      omega
    by_cases hr : n + 1 ≤ cap
    · by_cases hpn : p = n
      · subst hpn
        refine (Any2.slices_Insert_string_end_room laysIns g 0 p cap b 0 1 1 [u] w (by decide) hr (by unfold maxLen at hcap; omega) rfl (fun j hj => ?_) (fun j hj => ?_) hvs h1v).mono ?_
        · have := hroomy hr (p + j) (by omega)
          rw [Nat.zero_add] at this ⊢
          exact this
        · exact hB.frozen _
        · rintro e w' ⟨rfl, rfl⟩
          rw [Nat.zero_add]
          refine ⟨_, _, rfl, ⟨by simp; omega, .inr ⟨g, cap, _, rfl, hg, hB.setCells g [u] p w cur, hr, hcap, by rw [laid_size]; omega, ?_⟩⟩, (Keep.setCells w g p [u]).mono (fun k e => by cases e; rfl)⟩
          have := laid_ins2 cur cs p p u hl (Nat.le_refl _) (by omega) hcc
          rw [List.drop_of_length_le (by omega)] at this
          rw [List.drop_of_length_le (by omega)]
          simpa [laid] using this
      · refine (Any2.slices_Insert_string_shift laysIns g 0 n cap p b 0 1 1 cs [u] w (by omega) (by decide) hr (by unfold maxLen at hcap; omega) hgb hl rfl hcs (hroomy hr) (fun j _ => hB.frozen _) hvs h1 h1v 9 9 1 cap (by simp [World.shape?, show w.heap[b]? = _ from hb]) (by simp [World.shape?, show w.heap[g]? = _ from hb2, hsz]) (by omega) (hb.frozen _) (hb.frozen _)).mono ?_
        rintro e w' ⟨rfl, rfl⟩
        rw [Nat.zero_add, Nat.zero_add]
        have B1 : Blk w.drew g 9 cur := hB
        have B2 := Blk.setCells g (cs.drop p) (p + 1) _ _ B1
        have B3 := Blk.setCells g [u] p _ _ B2
        have K1 : Keep (one g) w.drew (w.drew.setCells g (p + 1) (cs.drop p)) := Keep.setCells _ _ _ _
        have K2 := Keep.setCells (w.drew.setCells g (p + 1) (cs.drop p)) g p [u]
        have K3 := ((Keep.refl (one g) w).drew.trans K1).trans K2
        exact ⟨_, _, rfl, ⟨by simp; omega, .inr ⟨g, cap, _, rfl, hg, B3, hr, hcap, by rw [laid_size, laid_size]; omega, by rw [Nat.mul_one]; exact laid_ins1 cur cs p n u hl hp (by omega) (fun j hj => hcc j (by omega))⟩⟩, K3.mono (fun k e => by cases e; rfl)⟩
    · have g1 := grownCap_ge w (n + 1) cap 9
      have g2 := grownCap_le_maxLen w (n + 1) cap 9 (by unfold maxLen; omega)
      by_cases hpn : p = n
      · subst hpn
        refine (Any2.slices_Insert_string_end_grow laysIns (some ⟨g, 0, none⟩) p cap b 0 1 1 cs [u] w (by decide) hnc (by omega) (by omega) hl rfl (fun h => by cases h) (fun a ha j x hx => by cases ha; rw [Addr.add_mid]; exact hcs j x hx) hvs h1v).mono ?_
        rintro e w' ⟨rfl, rfl⟩
        refine ⟨_, _, rfl, ⟨by simp; omega, .inr ⟨w.heap.size, _, _, rfl, hbs, heap_alloc_new w.drew _, g1, g2, ?_, ?_⟩⟩, (Keep.refl _ _).drew.alloc _⟩
        · simp [Builtin.zeroCells, laysIns_ren, show (Value.string ⟨#[]⟩).cells.size = 1 from rfl] at g1 ⊢
          omega
        · have e1 : cs.take p ++ u :: cs.drop p = cs ++ [u] := by rw [List.drop_of_length_le (by omega), List.take_of_length_le (by omega)]
          rw [e1, Nat.mul_one, Array.toList_append, List.take_append_of_le_length (by simp; omega)]
          exact List.take_of_length_le (by simp; omega)
      · refine (Any2.slices_Insert_string_grow laysIns g 0 n cap p b 0 1 1 cs [u] w (by omega) (by decide) hnc (by omega) (by omega) hl rfl hcs hvs h1 h1v).mono ?_
        rintro e w' ⟨rfl, rfl⟩
        obtain ⟨C, hC⟩ : ∃ C, C = (cs.take p).toArray ++ Builtin.zeroCells (Value.string ⟨#[]⟩).cells (n + 1 - p) ++ Builtin.zeroCells (Value.string ⟨#[]⟩).cells (grownCap w (n + 1) cap (laysIns_ren.t 9) - (n + 1)) := ⟨_, rfl⟩
        have hCs : C.size = grownCap w (n + 1) cap 9 := by
          rw [hC]
          simp [Builtin.zeroCells, laysIns_ren, show (Value.string ⟨#[]⟩).cells.size = 1 from rfl] at g1 ⊢
          omega
        have hCc : ∀ j, j < p → C[j]? = cs[j]? := fun j hj => by
          rw [hC, Array.append_assoc, Array.getElem?_append_left (by simp; omega)]
          simp [hj]
        rw [← hC]
        have B1 : Blk (w.alloc (.cells C (laysIns_ren.t 9))).drew w.heap.size 9 C := Blk.new _ _ _
        have B2 := Blk.setCells w.heap.size [u] p _ _ B1
        have B3 := Blk.setCells w.heap.size (cs.drop p) (p + 1) _ _ B2.drew
        have K0 : Keep none_ w (w.alloc (.cells C (laysIns_ren.t 9))).drew := ((Keep.refl none_ w).alloc _).drew
        have K1 := (K0.own (Keep.setCells _ w.heap.size p [u]) (Nat.le_refl _)).drew
        have K2 := K1.own (Keep.setCells _ w.heap.size (p + 1) (cs.drop p)) (Nat.le_refl _)
        exact ⟨_, _, rfl, ⟨by simp; omega, .inr ⟨w.heap.size, _, _, rfl, hbs, B3, g1, g2, by rw [laid_size, laid_size, hCs]; simp [laysIns_ren], by rw [Nat.mul_one]; exact laid_ins2 C cs p n u hl hp (by rw [hCs]; exact g1) hCc⟩⟩, K2.weak⟩

set_option maxHeartbeats 400000 in
theorem del_any (base : Nat) (v : Value) (p : Nat) (l : List ByteArray) (w : World) (own : w.ownsRow base 9 1 v l.length (l.map Value.string)) (hp : p < l.length) :
    Calls Tryz.prog 99 #[v, .int .i64 p, .int .i64 (p + 1 : Nat)] w fun e w' => ∃ A' c', e = .returned (.slice A' (l.length - 1) c') ∧ w'.ownsRow base 9 1 (.slice A' (l.length - 1) c') (l.length - 1) ((l.eraseIdx p).map Value.string) ∧ Keep (ofBlk v) w w' := by
  obtain ⟨hl, h2⟩ := own
  rcases h2 with ⟨rfl, h0⟩ | ⟨g, cap, cur, rfl, hg, hb2, hnc, hcap, hsz, htk⟩
  · omega
  rw [Nat.mul_one] at hsz htk
  have hB : Blk w g 9 cur := hb2
  have hc : ∀ j, j < l.length → w.cell? ⟨g, 0 + j, none⟩ = some (.string (l.getD j .empty)) := fun j hj => by
    have : (cur.toList.take l.length)[j]? = some (.string (l.getD j .empty)) := by rw [htk]; simp [hj]
    rw [List.getElem?_take, if_pos hj, Array.getElem?_toList] at this
    rw [Nat.zero_add, hB.cell]
    exact this
  refine (Any.slices_Delete_string_cells laysDel g 0 l.length cap p (p + 1) (fun j => l.getD j .empty) w hnc (by unfold maxLen at hcap; omega) (by omega) (by omega) hc (fun j _ => hB.frozen _)).mono ?_
  rintro e w' ⟨rfl, q, rfl⟩
  have hS : (Lib.strsOf (fun j => l.getD j .empty) l.length).map encStr = l.map Value.string := by
    apply List.ext_getElem?
    intro j
    by_cases hj : j < l.length
    · simp [Lib.strsOf, encStr, hj]
    · rw [List.getElem?_eq_none (by simp [Lib.strsOf]; omega), List.getElem?_eq_none (by simp; omega)]
  rw [List.map_append, List.map_append, List.map_take, List.map_drop, hS, show p + 1 - p = 1 by omega]
  obtain ⟨Z, hZ⟩ : ∃ Z, Z = (l.map Value.string).take p ++ (l.map Value.string).drop (p + 1) := ⟨_, rfl⟩
  have hZl : Z.length = l.length - 1 := by rw [hZ]; simp; omega
  have hZe : Z = (l.eraseIdx p).map Value.string := by rw [hZ, List.eraseIdx_eq_take_drop_succ]; simp
  rw [← hZ]
  have B1 : Blk (w.drewN q) g 9 cur := hB
  have B2 := Blk.setCells g (Z ++ (List.replicate 1 []).map encStr) 0 _ _ B1
  refine ⟨_, cap, rfl, ⟨by simp [hZe.symm, hZl], .inr ⟨g, cap, _, rfl, hg, B2, by omega, hcap, by rw [laid_size]; omega, ?_⟩⟩, ((Keep.refl (one g) w).drewN q |>.trans (Keep.setCells _ _ _ _)).mono (fun k e => by cases e; rfl)⟩
  rw [← hZe]
  apply List.ext_getElem?
  intro j
  rw [List.getElem?_take, Array.getElem?_toList, laid_get _ _ _ _ (by simp; omega), Nat.mul_one]
  by_cases hj : j < l.length - 1
  · rw [if_pos hj, if_neg (by omega), if_pos (by simp; omega), Nat.sub_zero, List.getElem?_append_left (by omega)]
  · rw [if_neg hj, List.getElem?_eq_none (by omega)]
end Go.Proofs.YtnefbeplgfdkkaaGreatDoor
/-
  (*State).arrive and leave.
-/
namespace Go.Proofs.YtnefbeplgfdkkaaGreatDoor
open Go.RowKit

theorem Aft.newStrs {w w6 : World} {base : Bs} {g : Nat} {vp vj vw v6 : Value} {s : St} {l : List ByteArray} (h : Aft w base g vp vj vw s) (k : Keep (ofBlk vp) w w6) (o : w6.ownsRow base 9 1 v6 l.length (l.map Value.string)) :
    Aft (w6.setCell ⟨g, 1, none⟩ v6) base g v6 vj vw { s with present := l } ∧ Keep (ge base) w (w6.setCell ⟨g, 1, none⟩ v6) := by
  obtain ⟨css, j1, j2, j3, j4⟩ := h.jobs
  have nog : ¬ ofBlk vp g := fun e => own_apart h.strs h.blk (by decide) g e rfl
  have b6 := h.blk.keep k nog
  have s6 := own_keep h.wks k (own_apart2 h.wks h.strs (by decide))
  have q6 : OwnJobs w6 base vj s.jobs := h.jobs.keep k (fun b e => own_ge h.strs b e) (own_apart2 j3 h.strs (by decide))
  obtain ⟨css', i1, i2, i3, i4⟩ := q6
  have kg : Keep (one g) w6 (w6.setCell ⟨g, 1, none⟩ v6) := (Keep.refl (one g) w6).setCell (p := ⟨g, 1, none⟩) (.inl rfl) v6
  refine ⟨⟨?_, h.ge_, own_keep o kg (own_apart o b6 (by decide)), OwnJobs.keep ⟨css', i1, i2, i3, i4⟩ kg (fun b e => by cases e; exact h.ge_) (own_apart i3 b6 (by decide)), own_keep s6 kg (own_apart s6 b6 (by decide))⟩, (k.mono (fun b e => own_ge h.strs b e)).trans (kg.mono (fun b e => by cases e; exact h.ge_))⟩
  have := b6.set_ 1 v6
  simpa using this

/-- 37.3: arrive, leave. -/
def there (l : List ByteArray) (x : ByteArray) : Bool := l.any fun y => strEq y x
def insAt (l : List ByteArray) (x : ByteArray) : List ByteArray := l.take (place l x) ++ x :: l.drop (place l x)
def arriveE (s : St) (x : ByteArray) : Int := if there s.present x then 0 else if 16 ≤ s.present.length then 18 else 0
def arriveS (s : St) (x : ByteArray) : St := if there s.present x then s else if 16 ≤ s.present.length then s else { s with present := insAt s.present x }
def leaveE (s : St) (x : ByteArray) : Int := if there s.present x then 0 else 7
def leaveS (s : St) (x : ByteArray) : St := if there s.present x then { s with present := s.present.eraseIdx (place s.present x) } else s
theorem there_lt {l : List ByteArray} {x : ByteArray} {p : Nat} (h : Pos l x p) (ha : Asc l) (ht : there l x = true) : p < l.length := by
  have := h.found ha
  unfold there at ht
  rw [ht, Bool.and_eq_true, decide_eq_true_eq] at this
  exact this.1
theorem insAt_len (l : List ByteArray) (x : ByteArray) : (insAt l x).length = l.length + 1 := by
  have := place_le l x
  simp [insAt]
  omega

set_option maxRecDepth 100000 in
set_option maxHeartbeats 400000 in
theorem arrive_any (s : St) (vp vj vw : Value) (base : Bs) (g : Nat) (x : ByteArray) (w : World) (h : Aft w base g vp vj vw s) (ha : Asc s.present) (h16 : s.present.length ≤ 64) :
    Calls Tryz.prog 75 #[.pointer (some ⟨g, 0, none⟩), .string x] w (MethPost base g (arriveE s x) (arriveS s x) w) := by
  obtain ⟨A, c, rfl, hr⟩ := own_row (S := none_) h.strs (fun _ _ e => e)
  have c1 := h.blk.cell 1
  simp only [List.getElem?_toArray, List.getElem?_cons_zero, List.getElem?_cons_succ] at c1
  have h1 := hr.cap
  have h2 := hr.le
  unfold maxLen at h1
  have SE := Lib.hid (search_any s.present x A s.present.length c none_ w hr (ha.mono x) h16)
  have HA := Lib.hid h
  have AS := Lib.hid ha
  have aE : arriveE s x = if there s.present x then 0 else if 16 ≤ s.present.length then 18 else 0 := rfl
  have aS : arriveS s x = if there s.present x then s else if 16 ≤ s.present.length then s else { s with present := insAt s.present x } := rfl
  cases ht : there s.present x with
  | true =>
    have FD := Lib.hid (show ∀ p, Pos s.present x p → (decide (p < s.present.length) && strEq (s.present.getD p .empty) x) = true from fun p hp => by rw [hp.found ha]; exact ht)
    have E1 := Lib.hid (show arriveE s x = 0 by rw [aE, if_pos ht])
    have E2 := Lib.hid (show arriveS s x = s by rw [aS, if_pos ht])
    clear aE aS ht ha hr h
    go_enter Tryz.func75, Tryz.ntmps75
    have t1 : True := trivial
    go_wp2_with (have _t := t1; go_at_call 96; refine SE.out.mono ?_; rintro e w5 ⟨p, hp, rfl, k5⟩; rw [FD.out p hp]; have k6 := Lib.hid k5; clear k5 hp _t t1)
    go_ret
    exact ⟨_, _, _, ret_int E1.out.symm, by rw [E2.out]; exact HA.out.keep k6.out, k6.out.weak⟩
  | false =>
    have FD := Lib.hid (show ∀ p, Pos s.present x p → (decide (p < s.present.length) && strEq (s.present.getD p .empty) x) = false from fun p hp => by rw [hp.found ha]; exact ht)
    have ht' : ¬ there s.present x = true := by rw [ht]; decide
    rw [if_neg ht'] at aE aS
    by_cases hm : 16 ≤ s.present.length
    · have hm' : (16 : Int) ≤ s.present.length := by omega
      rw [if_pos hm] at aE aS
      have E1 := Lib.hid aE
      have E2 := Lib.hid aS
      clear aE aS ht ht' ha hr h
      go_enter Tryz.func75, Tryz.ntmps75
      have t1 : True := trivial
      go_wp2_with (have _t := t1; go_at_call 96; refine SE.out.mono ?_; rintro e w5 ⟨p, hp, rfl, k5⟩; rw [FD.out p hp]; have d1 := k5.cell c1 (fun e => e); have k6 := Lib.hid k5; clear k5 hp _t t1)
      go_ret
      exact ⟨_, _, _, ret_int E1.out.symm, by rw [E2.out]; exact HA.out.keep k6.out, k6.out.weak⟩
    · have hm' : ¬ (16 : Int) ≤ s.present.length := by omega
      rw [if_neg hm] at aE aS
      have E1 := Lib.hid aE
      have E2 := Lib.hid aS
      clear aE aS ht ht' ha hr h
      go_enter Tryz.func75, Tryz.ntmps75
      have t1 : True := trivial
      go_upto_region 6 with (have _t := t1; go_at_call 96; refine SE.out.mono ?_; rintro e w5 ⟨p, hp, rfl, k5⟩; rw [FD.out p hp]; have d1 := k5.cell c1 (fun e => e); have k6 := Lib.hid k5; have hP := Lib.hid hp; clear k5 hp _t t1)
      have H5 := Lib.hid (HA.out.keep k6.out)
      have hbs := H5.out.ge_
      have lg := H5.out.blk.lt
      have KA : Keep none_ w5 (w5.alloc (.cells #[.string x] 9)) := (Keep.refl none_ w5).alloc _
      have H6 := Lib.hid (H5.out.keep KA)
      have nob : ¬ ofBlk (.slice A s.present.length c) w5.heap.size := fun e => by have := (H5.out.strs.lt _ e).2; omega
      have nog : ¬ ofBlk (.slice A s.present.length c) g := fun e => own_apart H6.out.strs H6.out.blk (by decide) g e rfl
      have B6 := Lib.hid H6.out.blk
      have IN := Lib.hid (ins_any base (.slice A s.present.length c) s.present.length p w5.heap.size (s.present.map Value.string) (.string x) (w5.alloc (.cells #[.string x] 9)) H6.out.strs hP.out.1 (Blk.new _ _ _) rfl (by simp [Value.oneCell']) nob (by omega) (by simp; omega))
      clear KA nob c1
      have t2 : True := trivial
      go_wp2_with (have _t := t2; go_at_call 98; refine IN.out.mono ?_; rintro e w7 ⟨A7, c7, rfl, o7, k7⟩; have B7 := B6.out.keep k7 nog; have y1 := B7.cell 1; have z1 := B7.frozen 1; simp only [List.getElem?_toArray, List.getElem?_cons_zero, List.getElem?_cons_succ] at y1; have O7 := Lib.hid o7; have K7 := Lib.hid k7; clear o7 B7 k7 _t t2)
      go_ret
      have o8 : w7.ownsRow base 9 1 (.slice A7 (s.present.length + 1) c7) (insAt s.present x).length ((insAt s.present x).map Value.string) := by
        have := O7.out
        rw [insAt_len]
        unfold insAt
        rw [← hP.out.place]
        simpa using this
      obtain ⟨q1, q2⟩ := H6.out.newStrs K7.out o8
      exact ⟨_, _, _, ret_int E1.out.symm, by rw [E2.out]; exact q1, k6.out.weak.trans (((Keep.refl none_ w5).alloc _).weak.trans q2)⟩

set_option maxRecDepth 100000 in
set_option maxHeartbeats 400000 in
theorem leave_any (s : St) (vp vj vw : Value) (base : Bs) (g : Nat) (x : ByteArray) (w : World) (h : Aft w base g vp vj vw s) (ha : Asc s.present) (h16 : s.present.length ≤ 64) :
    Calls Tryz.prog 76 #[.pointer (some ⟨g, 0, none⟩), .string x] w (MethPost base g (leaveE s x) (leaveS s x) w) := by
  obtain ⟨A, c, rfl, hr⟩ := own_row (S := none_) h.strs (fun _ _ e => e)
  have c1 := h.blk.cell 1
  simp only [List.getElem?_toArray, List.getElem?_cons_zero, List.getElem?_cons_succ] at c1
  have h1 := hr.cap
  have h2 := hr.le
  unfold maxLen at h1
  have SE := Lib.hid (search_any s.present x A s.present.length c none_ w hr (ha.mono x) h16)
  have HA := Lib.hid h
  have aE : leaveE s x = if there s.present x then 0 else 7 := rfl
  have aS : leaveS s x = if there s.present x then { s with present := s.present.eraseIdx (place s.present x) } else s := rfl
  cases ht : there s.present x with
  | false =>
    have FD := Lib.hid (show ∀ p, Pos s.present x p → (decide (p < s.present.length) && strEq (s.present.getD p .empty) x) = false from fun p hp => by rw [hp.found ha]; exact ht)
    have E1 := Lib.hid (show leaveE s x = 7 by rw [aE, ht]; rfl)
    have E2 := Lib.hid (show leaveS s x = s by rw [aS, ht]; rfl)
    clear aE aS ht ha hr h
    go_enter Tryz.func76, Tryz.ntmps76
    have t1 : True := trivial
    go_wp2_with (have _t := t1; go_at_call 96; refine SE.out.mono ?_; rintro e w5 ⟨p, hp, rfl, k5⟩; rw [FD.out p hp]; have k6 := Lib.hid k5; clear k5 hp _t t1)
    go_ret
    exact ⟨_, _, _, ret_int E1.out.symm, by rw [E2.out]; exact HA.out.keep k6.out, k6.out.weak⟩
  | true =>
    have FD := Lib.hid (show ∀ p, Pos s.present x p → (decide (p < s.present.length) && strEq (s.present.getD p .empty) x) = true from fun p hp => by rw [hp.found ha]; exact ht)
    have TL := Lib.hid (show ∀ p, Pos s.present x p → p < s.present.length from fun p hp => there_lt hp ha ht)
    rw [if_pos ht] at aE aS
    have E1 := Lib.hid aE
    have E2 := Lib.hid aS
    clear aE aS ht ha hr h
    go_enter Tryz.func76, Tryz.ntmps76
    have t1 : True := trivial
    go_upto_region 4 with (have _t := t1; go_at_call 96; refine SE.out.mono ?_; rintro e w5 ⟨p, hp, rfl, k5⟩; rw [FD.out p hp]; have d1 := k5.cell c1 (fun e => e); have k6 := Lib.hid k5; have hP := Lib.hid hp; clear k5 hp _t t1)
    have H5 := Lib.hid (HA.out.keep k6.out)
    have nog : ¬ ofBlk (.slice A s.present.length c) g := fun e => own_apart H5.out.strs H5.out.blk (by decide) g e rfl
    have B6 := Lib.hid H5.out.blk
    have hpl := TL.out p hP.out
    have DE := Lib.hid (del_any base (.slice A s.present.length c) p s.present w5 H5.out.strs hpl)
    have t2 : True := trivial
    clear c1
    go_wp2_with (have _t := t2; go_at_call 99; refine DE.out.mono ?_; rintro e w7 ⟨A7, c7, rfl, o7, k7⟩; have B7 := B6.out.keep k7 nog; have y1 := B7.cell 1; have z1 := B7.frozen 1; simp only [List.getElem?_toArray, List.getElem?_cons_zero, List.getElem?_cons_succ] at y1; have O7 := Lib.hid o7; have K7 := Lib.hid k7; clear o7 B7 k7 _t t2)
    go_ret
    have o8 : w7.ownsRow base 9 1 (.slice A7 (s.present.length - 1) c7) (s.present.eraseIdx (place s.present x)).length ((s.present.eraseIdx (place s.present x)).map Value.string) := by
      have := O7.out
      rw [hP.out.place] at this hpl
      rw [List.length_eraseIdx, if_pos hpl]
      exact this
    obtain ⟨q1, q2⟩ := H5.out.newStrs K7.out o8
    exact ⟨_, _, _, ret_int E1.out.symm, by rw [E2.out]; exact q1, k6.out.weak.trans q2⟩
end Go.Proofs.YtnefbeplgfdkkaaGreatDoor
