/-
  cloneItems, at items without user data and slices (those of the statements 6 to 9 and 11).
-/
import Derived.Test.YtnefbeplgfdkkaaGreatDoorJb06
import Derived.Test.YtnefbeplgfdkkaaGreatDoorJb10
namespace Go.Proofs.YtnefbeplgfdkkaaGreatDoor
open Go.RowKit

def bel (n : Nat) : Nat → Prop := fun k => k < n
/-- Items that hold nothing behind a slice. -/
def PlainI (l : List Itm) : Prop := ∀ x ∈ l, x.user = [] ∧ x.slices = []
/-- The cells of such an item. -/
def FlatOf (cs : List Value) (x : Itm) : Prop := ∃ A c A' c', cs = x.flat ++ [.slice A 0 c, .slice A' 0 c', .int .i64 x.pad] ∧ c ≤ maxLen ∧ c' ≤ maxLen ∧ x.flat.length = 145 ∧ ∀ v ∈ x.flat, v.oneCell' = true
theorem ItmOf.flat {w : World} {S : Nat → Prop} {cs : List Value} {x : Itm} (h : ItmOf w S cs x) (h1 : x.user = []) (h2 : x.slices = []) : FlatOf cs x := by
  obtain ⟨u, s, e, h3, h4, h5, h6⟩ := h
  obtain ⟨A, n, c, rfl, a1, a2, a3, -⟩ := h5
  obtain ⟨A', n', c', rfl, b1, b2, b3, -⟩ := h6
  rw [h1] at a3
  rw [h2] at b3
  simp at a3 b3
  subst a3
  subst b3
  exact ⟨A, c, A', c', e, a2, b2, h3, h4⟩
theorem FlatOf.itm {w : World} {S : Nat → Prop} {cs : List Value} {x : Itm} (h : FlatOf cs x) (h1 : x.user = []) (h2 : x.slices = []) : ItmOf w S cs x := by
  obtain ⟨A, c, A', c', e, q1, q2, h3, h4⟩ := h
  refine ⟨_, _, e, h3, h4, ⟨A, 0, c, rfl, Nat.zero_le _, q1, by rw [h1]; rfl, fun h => absurd h (by omega)⟩, ⟨A', 0, c', rfl, Nat.zero_le _, q2, by rw [h2]; rfl, fun h => absurd h (by omega)⟩⟩
theorem FlatOf.one {cs : List Value} {x : Itm} (h : FlatOf cs x) : ∀ v ∈ cs, v.oneCell' = true := by
  obtain ⟨A, c, A', c', rfl, q1, q2, h3, h4⟩ := h
  intro v hv
  rcases List.mem_append.1 hv with hv | hv
  · exact h4 v hv
  · simp only [List.mem_cons, List.not_mem_nil, or_false] at hv
    rcases hv with rfl | rfl | rfl <;> rfl
theorem FlatOf.len {cs : List Value} {x : Itm} (h : FlatOf cs x) : cs.length = 148 := by
  obtain ⟨A, c, A', c', rfl, q1, q2, h3, h4⟩ := h
  simp [h3]
/-- Row after row they are so. -/
def Flats (css : List (List Value)) (l : List Itm) : Prop := css.length = l.length ∧ ∀ (i : Nat) (cs : List Value) (x : Itm), css[i]? = some cs → l[i]? = some x → FlatOf cs x
theorem Flats.all {css : List (List Value)} {l : List Itm} (h : Flats css l) : ∀ cs ∈ css, ∃ x, FlatOf cs x := fun cs hcs => by
  obtain ⟨i, hi, rfl⟩ := List.mem_iff_getElem.1 hcs
  exact ⟨_, h.2 i _ _ (List.getElem?_eq_getElem hi) (List.getElem?_eq_getElem (by rw [← h.1]; exact hi))⟩
theorem Flats.len {css : List (List Value)} {l : List Itm} (h : Flats css l) : ∀ cs ∈ css, cs.length = 148 := fun cs hcs => by
  obtain ⟨x, hx⟩ := h.all cs hcs
  exact hx.len
theorem Flats.one {css : List (List Value)} {l : List Itm} (h : Flats css l) : ∀ v ∈ css.flatten, v.oneCell' = true := fun v hv => by
  obtain ⟨cs, hcs, hv⟩ := List.mem_flatten.1 hv
  obtain ⟨x, hx⟩ := h.all cs hcs
  exact hx.one v hv
theorem flat_user {fl : List Value} {u s p : Value} (h : fl.length = 145) (A : Value) : (fl ++ [u, s, p]).set 145 A = fl ++ [A, s, p] := by
  rw [List.set_append_right _ _ (by omega), h]
  rfl
theorem flat_slices {fl : List Value} {u s p : Value} (h : fl.length = 145) (A : Value) : (fl ++ [u, s, p]).set 146 A = fl ++ [u, A, p] := by
  rw [List.set_append_right _ _ (by omega), h]
  rfl
theorem Flats.set {css : List (List Value)} {l : List Itm} (h : Flats css l) (k : Nat) (cs : List Value) (hk : css[k]? = some cs) (A A' : Option Addr) (c c' : Nat) (q1 : c ≤ maxLen) (q2 : c' ≤ maxLen) : Flats (css.set k ((cs.set 145 (.slice A 0 c)).set 146 (.slice A' 0 c'))) l := by
  refine ⟨by rw [List.length_set]; exact h.1, fun i ds x hi hx => ?_⟩
  rw [List.getElem?_set] at hi
  by_cases e : k = i
  · subst e
    rw [if_pos rfl] at hi
    have hlt : k < css.length := (List.getElem?_eq_some_iff.1 hk).1
    rw [if_pos hlt, Option.some.injEq] at hi
    obtain ⟨B, d, B', d', rfl, -, -, h3, h4⟩ := h.2 k cs x hk hx
    rw [flat_user h3, flat_slices h3] at hi
    exact ⟨A, c, A', c', hi.symm, q1, q2, h3, h4⟩
  · rw [if_neg e] at hi
    exact h.2 i ds x hi hx

/-- A load (operation 5) and two calls (6 and 11), then a store into that cell, I of block b (operation 14), whose value is the first call's. -/
def PairG (wr : World) (b : Nat) (t : TypeId) (cur : Array Value) (I n : Nat) (y : World) : Prop := Keep (one b) wr y ∧ ∃ cur', Blk y b t cur' ∧ cur'.size = cur.size ∧ (∀ j, j ≠ I → cur'[j]? = cur[j]?) ∧ (n ≤ 3 → cur' = cur)
def pairCalm (wr : World) (b : Nat) (t : TypeId) (cur : Array Value) (I : Nat) (v0 : Value) (T1 T2 : Value → World → Prop) : Calm where
  R := fun i x y => Keep (one b) x y ∧ (i ≠ 14 → Keep none_ x y)
  G := PairG wr b t cur I
  eff := [5, 6, 11, 14]
  T := fun k vs v y => if k = 5 then v = v0 else if k = 6 then T1 v y else if k = 11 then T2 v y else Blk y b t (cur.setIfInBounds I (vs.getD 1 undef))
  anc := fun k => if k = 14 then [5, 6, 11] else []
  own := fun _ _ _ => False
theorem pairCalm_good {wr : World} {b : Nat} {t : TypeId} {cur : Array Value} {I : Nat} {v0 : Value} {T1 T2 : Value → World → Prop} (h1 : ∀ v x y, T1 v x → Keep (one b) x y → T1 v y) (h2 : ∀ v x y, T2 v x → Keep (one b) x y → T2 v y) : (pairCalm wr b t cur I v0 T1 T2).Good where
  mono := fun _ _ h => by
    obtain ⟨h, cur', hb, hs, hc, he⟩ := h
    exact ⟨h, cur', hb, hs, hc, fun hn => he (by omega)⟩
  size := fun _ _ _ h => h.1.size
  stable := fun i k vs v x y he hne h hR => by
    simp only [pairCalm] at h hR ⊢
    by_cases e0 : k = 5
    · rw [if_pos e0] at h ⊢; exact h
    · rw [if_neg e0] at h ⊢
      by_cases e1 : k = 6
      · rw [if_pos e1] at h ⊢; exact h1 _ _ _ h hR.1
      · rw [if_neg e1] at h ⊢
        by_cases e2 : k = 11
        · rw [if_pos e2] at h ⊢; exact h2 _ _ _ h hR.1
        · rw [if_neg e2] at h ⊢
          have e3 : k = 14 := by simpa [pairCalm, e0, e1, e2] using he
          exact Blk.keep h (hR.2 (by omega)) (fun e => e)
theorem pairCalm_at {wr : World} {b : Nat} {t : TypeId} {cur : Array Value} {I : Nat} {v0 : Value} {T1 T2 : Value → World → Prop} (x : (pairCalm wr b t cur I v0 T1 T2).Sub) : Keep (one b) wr ((pairCalm wr b t cur I v0 T1 T2).at_ x) ∧ ∀ j v, j ≠ I → cur[j]? = some v → ((pairCalm wr b t cur I v0 T1 T2).at_ x).cell? ⟨b, j, none⟩ = some v := by
  obtain ⟨x, n, _, h, cur', hb, hs, hc, -⟩ := x
  exact ⟨h, fun j v hj hv => by
    show World.cell? x _ = _
    rw [hb.cell, hc j hj, hv]⟩
theorem pair_start {wr : World} {b : Nat} {t : TypeId} {cur : Array Value} (I : Nat) (hb : Blk wr b t cur) : PairG wr b t cur I 0 wr.drew := ⟨(Keep.refl _ _).drew, cur, hb.drew, rfl, fun _ _ => rfl, fun _ => rfl⟩
theorem pair_call {wr w3 w4 : World} {b n : Nat} {t : TypeId} {cur : Array Value} {I : Nat} (h : PairG wr b t cur I n w3) (k : Keep none_ w3 w4) : PairG wr b t cur I (n + 1) w4 := by
  obtain ⟨h, cur', hb, h1, h2, h3⟩ := h
  exact ⟨h.trans k.weak, cur', hb.keep k (fun e => e), h1, h2, fun hn => h3 (by omega)⟩
theorem pair_load {wr w3 : World} {b n : Nat} {t : TypeId} {cur : Array Value} {I : Nat} {v : Value} (h : PairG wr b t cur I n w3) (hn : n < 4) (hv : cur[I]? = some v) : w3.cell? ⟨b, I, none⟩ = some v := by
  obtain ⟨h, cur', hb, h1, h2, h3⟩ := h
  rw [hb.cell, h3 (by omega), hv]
theorem pair_store {wr w3 : World} {b n : Nat} {t : TypeId} {cur : Array Value} {I : Nat} (h : PairG wr b t cur I n w3) (hn : 3 ≤ n) (u : Value) : Blk (w3.setCell ⟨b, I, none⟩ u) b t (cur.setIfInBounds I u) ∧ Keep (one b) w3 (w3.setCell ⟨b, I, none⟩ u) ∧ PairG wr b t cur I (n + 1) (w3.setCell ⟨b, I, none⟩ u) := by
  obtain ⟨h, cur', hb, hs, hc, -⟩ := h
  have e : cur'.setIfInBounds I u = cur.setIfInBounds I u := by
    apply Array.ext_getElem?
    intro j
    rw [Array.getElem?_setIfInBounds, Array.getElem?_setIfInBounds, hs]
    by_cases ej : I = j
    · rw [if_pos ej, if_pos ej]
    · rw [if_neg ej, if_neg ej, hc j (fun e => ej e.symm)]
  have k : Keep (one b) w3 (w3.setCell ⟨b, I, none⟩ u) := (Keep.refl (one b) w3).setCell (p := ⟨b, I, none⟩) (.inl rfl) u
  have b2 := hb.set_ I u
  rw [e] at b2
  exact ⟨b2, k, h.trans k, _, b2, by simp, fun j hj => Array.getElem?_setIfInBounds_ne (fun e => hj e.symm), fun hn => by omega⟩
theorem pair_at {wr w3 : World} {b n : Nat} {t : TypeId} {cur : Array Value} {I : Nat} (h : PairG wr b t cur I n w3) (hI : I < cur.size) : (∃ v, w3.cell? ⟨b, I, none⟩ = some v) ∧ w3.frozen? ⟨b, I, none⟩ = false := by
  obtain ⟨h, cur', hb, hs, hc, -⟩ := h
  exact ⟨⟨cur'[I]'(by omega), by rw [hb.cell]; exact Array.getElem?_eq_getElem _⟩, hb.frozen I⟩
theorem row_nil (w : World) (S : Nat → Prop) (size : Nat) (A : Option Addr) (c : Nat) (h : c ≤ maxLen) : Row w S size A 0 c [] := ⟨by simp, Nat.zero_le _, h, fun h => absurd h (by omega)⟩

/-- The same block, the same cells, another world. -/
theorem own_move {w w' : World} {base : Nat} {e t : TypeId} {size b n cap : Nat} {xs : List Value} {cs : Array Value} (h : w.ownsRow base e size (.slice (some ⟨b, 0, none⟩) n cap) n xs) (h1 : Blk w b t cs) (h2 : Blk w' b t cs) : w'.ownsRow base e size (.slice (some ⟨b, 0, none⟩) n cap) n xs := by
  refine ⟨h.1, ?_⟩
  rcases h.2 with ⟨h0, -⟩ | ⟨g, cap', cur, e1, e2, e3, r⟩
  · cases h0
  · have e1' := e1
    simp only [Value.slice.injEq, Option.some.injEq, Addr.mk.injEq, and_true, true_and] at e1'
    obtain ⟨rfl, -⟩ := e1'
    exact .inr ⟨b, cap', cur, e1, e2, (show w'.heap[b]? = w.heap[b]? from (show w'.heap[b]? = _ from h2).trans (show w.heap[b]? = _ from h1).symm).trans e3, r⟩

set_option maxRecDepth 100000 in
set_option maxHeartbeats 1000000 in
theorem cloneItems_any (l : List Itm) (v : Value) (S : Nat → Prop) (w : World) (h : ItemsOf w S v l) (hp : PlainI l) (hn : l.length ≤ 65536) :
    Calls Tryz.prog 82 #[v] w fun e w' => ∃ v', e = .returned v' ∧ ItemsOf w' (bel w.heap.size) v' l ∧ Keep none_ w w' := by
  obtain ⟨A, n, c, css, rfl, hl, hcl, hcs, hr, hR⟩ := ElemsOf.rows h (by decide)
  have hF : Flats css l := ⟨by omega, fun i cs x hi hx => (hR i cs x hi hx).flat (hp x (List.mem_of_getElem? hx)).1 (hp x (List.mem_of_getElem? hx)).2⟩
  have CL := Lib.hid (clone_itms A n c css.flatten S w hr hF.one (by omega))
  have HF := Lib.hid hF
  have HP := Lib.hid hp
  have hn' : n ≤ 65536 := by omega
  have HL := Lib.hid hl
  clear h hp hR hr hcs hcl hF hn hl
  go_enter Tryz.func82, Tryz.ntmps82
  go_upto_region 2 with (go_at_call 102; refine CL.out.mono ?_; rintro e w5 ⟨v5, rfl, o5, k5⟩)
  obtain ⟨A5, c5, rfl, -⟩ := own_row (S := none_) o5 (fun _ _ e => e)
  have O5 := Lib.hid o5
  have K5 := Lib.hid k5
  clear o5 k5 CL
  go_wp2
  go_loopw [12] (fun i wr => ∃ k : Nat, k ≤ n ∧ i = .int .i64 k ∧ ∃ css, Flats css l ∧ wr.ownsRow w.heap.size 72 148 (.slice A5 n c5) n css.flatten ∧ Keep none_ w wr) (fun i _ => n - (intOf i).toNat)
  case atStart => exact ⟨0, Nat.zero_le _, rfl, css, HF.out, O5.out, K5.out⟩
  case round =>
    obtain ⟨k, hk, rfl, css, hF, ho, hkr⟩ := hrel
    by_cases hlt : k < n
    · have hlt' : (k : Int) < n := by omega
      obtain ⟨b, cap, cur, eV, hb1, hb2, hb3, hb4, hb5, hb6⟩ := own_cases ho (by omega)
      simp only [Value.slice.injEq, true_and] at eV
      obtain ⟨rfl, rfl⟩ := eV
      have hkc : k < css.length := by have := hF.1; have := HL.out; omega
      have hg := List.getElem?_eq_getElem hkc
      obtain ⟨B, d, B', d', ecs, q1, q2, h3, h4⟩ := hF.2 k _ _ hg (List.getElem?_eq_getElem (by rw [← hF.1]; exact hkc))
      generalize css[k] = cs at hg ecs
      have at_ : ∀ r, r < 148 → wr.cell? ⟨b, k * 148 + r, none⟩ = cs[r]? := fun r hr => by
        rw [hb2.cell, ← flatten_get css hF.len k cs hg r hr, ← hb6, List.getElem?_take, if_pos (by omega), Array.getElem?_toList]
      have r5 : wr.cell? ⟨b, k * 148 + 145, none⟩ = some (.slice B 0 d) := by
        rw [at_ 145 (by decide), ecs, List.getElem?_append_right (by omega), h3]
        rfl
      have r6 : wr.cell? ⟨b, k * 148 + 146, none⟩ = some (.slice B' 0 d') := by
        rw [at_ 146 (by decide), ecs, List.getElem?_append_right (by omega), h3]
        rfl
      have HB2 := Lib.hid hb2
      have HFx := Lib.hid hF
      have HO := Lib.hid ho
      have HG := Lib.hid hg
      have HKR := Lib.hid hkr
      clear hF ho hg hb3 hb6 ecs h3 h4 at_ hkr hkc
      go_upto_region 6 with (fail)
      have c5 : cur[k * 148 + 145]? = some (.slice B 0 d) := by rw [← hb2.cell]; exact r5
      have c6 : cur[k * 148 + 146]? = some (.slice B' 0 d') := by rw [← hb2.cell]; exact r6
      have hI : k * 148 + 145 < cur.size := (Array.getElem?_eq_some_iff.1 c5).1
      have lb := hb2.lt
      obtain ⟨T1, hT1⟩ : ∃ T1 : Value → World → Prop, T1 = fun v y => y.ownsRow wr.heap.size 131 1 v 0 [] := ⟨_, rfl⟩
      obtain ⟨T2, hT2⟩ : ∃ T2 : Value → World → Prop, T2 = fun v y => y.ownsRow wr.heap.size 163 2 v 0 [] := ⟨_, rfl⟩
      have gd : (pairCalm wr b 72 cur (k * 148 + 145) (.slice B 0 d) T1 T2).Good := pairCalm_good (fun v x y h hk => by rw [hT1] at h ⊢; exact own_keep h hk (fun z hz e => by cases e; have := own_ge h _ hz; omega)) (fun v x y h hk => by rw [hT2] at h ⊢; exact own_keep h hk (fun z hz e => by cases e; have := own_ge h _ hz; omega))
      have ne : Nonempty (pairCalm wr b 72 cur (k * 148 + 145) (.slice B 0 d) T1 T2).Sub := ⟨⟨wr, 0, Nat.zero_le _, Keep.refl _ _, cur, hb2, rfl, fun _ _ => rfl, fun _ => rfl⟩⟩
      have x6 := fun x => (pairCalm_at (wr := wr) (b := b) (t := 72) (cur := cur) (I := k * 148 + 145) (v0 := .slice B 0 d) (T1 := T1) (T2 := T2) x).2 (k * 148 + 146) _ (by omega) c6
      have HT1 := Lib.hid hT1
      have HT2 := Lib.hid hT2
      have HI := Lib.hid hI
      have st := pair_start (k * 148 + 145) hb2
      have C5 := Lib.hid c5
      have C6 := Lib.hid c6
      clear hT1 hT2 hb2 hI c5 c6 r5 r6
      refine wp_region_calm (pairCalm wr b 72 cur (k * 148 + 145) (.slice B 0 d) T1 T2) [0, 1, 2, 3, 4, 5, 6, 7, 8, 9, 10, 11, 12, 13, 14] [15, 16, 17] 85 (by kernel_rfl) (by kernel_rfl) rfl gd st ?_
      clear st
      simp only [pairs, List.filterMap_cons, List.filterMap_nil, List.getElem?_toArray, List.getElem?_cons_succ, List.getElem?_cons_zero, Option.map_some]
      repeat (refine Calm.walk_quiet ne rfl rfl rfl (fun K hK => ?_); go_big_quiet_op; refine hK _ ?_; clear hK K)
      refine Calm.walk_eff rfl rfl (fun n w3 hn hG _ => ?_) ?_
      · have f1 := pair_load hG hn C5.out
        unfold gives
        go_simp
        exact ⟨rfl, ⟨(Keep.refl _ _), fun _ => Keep.refl _ _⟩, pair_call hG (Keep.refl _ _), fun _ h => h.elim⟩
      intro v w3 hT
      have hT' : v = .slice B 0 d := hT
      clear hT
      subst hT'
      clear w3
      go_frame
      refine Calm.walk_eff rfl rfl (fun n w3 hn hG _ => ?_) ?_
      · unfold gives
        go_simp
        refine (clone_bss B 0 d [] none_ w3 (row_nil _ _ _ _ _ q1) (fun _ h => by cases h) (by omega)).mono ?_
        rintro e w4 ⟨v, rfl, hv, hk⟩
        exact ⟨_, rfl, by rw [HT1.out]; exact own_base hv hG.1.size, ⟨hk.weak, fun _ => hk⟩, pair_call hG hk, fun _ h => h.elim⟩
      intro vu w3 hT
      have hT' : w3.ownsRow wr.heap.size 131 1 vu 0 [] := by have h5 : T1 vu w3 := hT; rw [HT1.out] at h5; exact h5
      obtain ⟨A1, d1, rfl, hq⟩ := own_row (S := none_) hT' (fun _ _ e => e)
      have e1 := hq.cap
      clear hT hT' w3 hq
      go_frame
      repeat (refine Calm.walk_quiet ne rfl rfl rfl (fun K hK => ?_); go_big_quiet_op; refine hK _ ?_; clear hK K)
      refine Calm.walk_eff rfl rfl (fun n w3 hn hG _ => ?_) ?_
      · unfold gives
        go_simp
        refine (clone_units B' 0 d' [] none_ w3 (row_nil _ _ _ _ _ q2) (fun _ h => by cases h) (by omega)).mono ?_
        rintro e w4 ⟨v, rfl, hv, hk⟩
        exact ⟨_, rfl, by rw [HT2.out]; exact own_base hv hG.1.size, ⟨hk.weak, fun _ => hk⟩, pair_call hG hk, fun _ h => h.elim⟩
      intro vs w3 hT
      have hT' : w3.ownsRow wr.heap.size 163 2 vs 0 [] := by have h5 : T2 vs w3 := hT; rw [HT2.out] at h5; exact h5
      obtain ⟨A2, d2, rfl, hq⟩ := own_row (S := none_) hT' (fun _ _ e => e)
      have e2 := hq.cap
      clear hT hT' w3 hq
      go_frame
      repeat (refine Calm.walk_quiet ne rfl rfl rfl (fun K hK => ?_); go_big_quiet_op; refine hK _ ?_; clear hK K)
      refine Calm.walk_effn rfl rfl (fun n w3 ha hn hG _ => ?_) ?_
      · obtain ⟨⟨v0, f1⟩, f2⟩ := pair_at hG HI.out
        obtain ⟨g1, g2, g3⟩ := pair_store hG ha (.slice A1 0 d1)
        unfold gives
        go_simp
        exact ⟨g1, ⟨g2, fun e => absurd rfl e⟩, g3, fun _ h => h.elim⟩
      rintro v w1 -
      clear w1
      go_frame
      repeat (refine Calm.walk_quiet ne rfl rfl rfl (fun K hK => ?_); go_big_quiet_op; refine hK _ ?_; clear hK K)
      intro w6 hG hD
      have k6 : Keep (one b) wr w6 := hG.1
      have b6 : Blk w6 b 72 (cur.setIfInBounds (k * 148 + 145) (.slice A1 0 d1)) := (hD.1 14 rfl _ rfl ⟨rfl, rfl⟩).1
      clear hG hD gd ne x6
      simp only [pickOps, List.filterMap_cons, List.filterMap_nil, List.getElem?_toArray, List.getElem?_cons_succ, List.getElem?_cons_zero]
      have lI : k * 148 + 146 < cur.size := (Array.getElem?_eq_some_iff.1 C6.out).1
      have s6 : w6.cell? ⟨b, k * 148 + 146, none⟩ = some (.slice B' 0 d') := by rw [b6.cell, Array.getElem?_setIfInBounds_ne (by omega)]; exact C6.out
      have t6 := b6.frozen (k * 148 + 146)
      have bb8 := b6.set_ (k * 148 + 146) (.slice A2 0 d2)
      have u5 := bb8.cell (k * 148 + 145)
      have u6 := bb8.cell (k * 148 + 146)
      rw [Array.getElem?_setIfInBounds_ne (by omega), Array.getElem?_setIfInBounds_self_of_lt HI.out] at u5
      rw [Array.getElem?_setIfInBounds_self_of_lt (by simpa using lI)] at u6
      have k8 : Keep (one b) wr (w6.setCell ⟨b, k * 148 + 146, none⟩ (.slice A2 0 d2)) := k6.setCell (p := ⟨b, k * 148 + 146, none⟩) (.inl rfl) _
      have K8 := Lib.hid (HKR.out.own k8 hb1)
      have F8 := Lib.hid (HFx.out.set k cs HG.out A1 A2 d1 d2 e1 e2)
      have o8 : (w6.setCell ⟨b, k * 148 + 146, none⟩ (.slice A2 0 d2)).ownsRow w.heap.size 72 148 (.slice (some ⟨b, 0, none⟩) n c5) n (css.set k ((cs.set 145 (.slice A1 0 d1)).set 146 (.slice A2 0 d2))).flatten := by
        have o1 := own_set HO.out (k * 148 + 145) (.slice A1 0 d1)
        rw [flatten_set css HFx.out.len k cs HG.out 145 (by decide)] at o1
        have len7 : ∀ y ∈ css.set k (cs.set 145 (.slice A1 0 d1)), y.length = 148 := fun y hy => by
          rcases List.mem_or_eq_of_mem_set hy with hy | rfl
          · exact HFx.out.len y hy
          · rw [List.length_set]; exact HFx.out.len _ (List.mem_of_getElem? HG.out)
        have hkc : k < css.length := (List.getElem?_eq_some_iff.1 HG.out).1
        have o2 := own_set o1 (k * 148 + 146) (.slice A2 0 d2)
        rw [flatten_set _ len7 k (cs.set 145 (.slice A1 0 d1)) (by rw [List.getElem?_set_self hkc]) 146 (by decide), List.set_set] at o2
        exact own_move o2 ((HB2.out.set_ _ _).set_ _ _) bb8
      have O8 := Lib.hid o8
      clear o8 k8 bb8 b6 k6 C5 C6 HI
      obtain ⟨w8, hw8⟩ : ∃ w8, w8 = w6.setCell ⟨b, k * 148 + 146, none⟩ (.slice A2 0 d2) := ⟨_, rfl⟩
      rw [← hw8] at u5 u6 K8 O8
      go_upto_region 7 with (fail)
      rw [← hw8]
      clear hw8 s6 t6
      go_wp2
      refine wp_loop_once ?_
      go_wp2
      refine wp_loop_once ?_
      go_wp2
      go_roundw
      case rel => exact ⟨k + 1, by omega, by go_num, _, F8.out, O8.out, K8.out⟩
      case measure => simp [intOf]; omega
    · obtain rfl : k = n := by omega
      go_wp2
      go_ret
      obtain ⟨A', c', e, hr⟩ := own_row (S := bel w.heap.size) ho (fun b h e => by unfold bel at e; omega)
      refine ⟨_, by rw [e]; rfl, ElemsOf.of_row HL.out (by rw [hF.1]; exact HL.out) hF.len hr (fun i cs x hi hx => (hF.2 i cs x hi hx).itm (HP.out x (List.mem_of_getElem? hx)).1 (HP.out x (List.mem_of_getElem? hx)).2), hkr⟩
/-- cloneItems makes this list anew, in memory of its own. -/
def Clb (l : List Itm) : Prop := ∀ (v : Value) (S : Nat → Prop) (w : World), ItemsOf w S v l →
  Calls Tryz.prog 82 #[v] w fun e w' => ∃ v', e = .returned v' ∧ ItemsOf w' (bel w.heap.size) v' l ∧ Keep none_ w w'
theorem clb_plain {l : List Itm} (hp : PlainI l) (hn : l.length ≤ 65536) : Clb l := fun v S w h => cloneItems_any l v S w h hp hn
end Go.Proofs.YtnefbeplgfdkkaaGreatDoor
