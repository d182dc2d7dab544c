/-
  slices.Clone at the farm's types.
-/
import Derived.Test.YtnefbeplgfdkkaaGreatDoorJb05
namespace Go.Proofs.YtnefbeplgfdkkaaGreatDoor
open Go.RowKit

theorem flatten_get {size : Nat} : ∀ (css : List (List Value)) (_ : ∀ x ∈ css, x.length = size) (i : Nat) (cs : List Value) (_ : css[i]? = some cs) (r : Nat) (_ : r < size), css.flatten[i * size + r]? = cs[r]?
  | [], _, i, cs, hi, _, _ => by simp at hi
  | x :: css, h, 0, cs, hi, r, hr => by
    simp only [List.getElem?_cons_zero, Option.some.injEq] at hi
    subst hi
    rw [List.flatten_cons, Nat.zero_mul, Nat.zero_add, List.getElem?_append_left (by rw [h x (List.mem_cons_self ..)]; exact hr)]
  | x :: css, h, i + 1, cs, hi, r, hr => by
    have hx := h x (List.mem_cons_self ..)
    have ih := flatten_get css (fun y hy => h y (List.mem_cons_of_mem _ hy)) i cs (by simpa using hi) r hr
    rw [List.flatten_cons, List.getElem?_append_right (by rw [hx, Nat.succ_mul]; omega), hx, show (i + 1) * size + r - size = i * size + r by rw [Nat.succ_mul]; omega]
    exact ih
theorem flatten_length {size : Nat} : ∀ (css : List (List Value)) (_ : ∀ x ∈ css, x.length = size), css.flatten.length = css.length * size
  | [], _ => by simp
  | x :: css, h => by
    rw [List.flatten_cons, List.length_append, flatten_length css (fun y hy => h y (List.mem_cons_of_mem _ hy)), h x (List.mem_cons_self ..), List.length_cons, Nat.succ_mul]
    omega
/-- A slice of elements as one row of cells. -/
theorem ElemsOf.rows {α : Type} {w : World} {S : Nat → Prop} {size : Nat} {R : List Value → α → Prop} {v : Value} {l : List α} (h : ElemsOf w S size R v l) (hsz : 0 < size) :
    ∃ (A : Option Addr) (n c : Nat) (css : List (List Value)), v = .slice A n c ∧ l.length = n ∧ css.length = n ∧ (∀ x ∈ css, x.length = size) ∧ Row w S size A n c css.flatten ∧ ∀ (i : Nat) (cs : List Value) (x : α), css[i]? = some cs → l[i]? = some x → R cs x := by
  obtain ⟨A, n, c, e, h1, h2, h3, h4⟩ := h
  by_cases hn : 0 < n
  · obtain ⟨b, o, eA, hb, hc⟩ := h4 hn
    have hex : ∀ i, ∃ cs : List Value, cs.length = size ∧ (∀ hi : i < l.length, w.rangeAt b (o + i * size) cs ∧ R cs l[i]) := fun i => by
      by_cases hi : i < l.length
      · obtain ⟨cs, g1, g2, g3⟩ := hc i hi
        exact ⟨cs, g1, fun _ => ⟨g2, g3⟩⟩
      · exact ⟨List.replicate size undef, by simp, fun h => absurd h hi⟩
    have hcss : ∀ x ∈ (List.range n).map (fun i => Classical.choose (hex i)), x.length = size := fun x hx => by
      obtain ⟨i, -, rfl⟩ := List.mem_map.1 hx
      exact (Classical.choose_spec (hex i)).1
    refine ⟨A, n, c, (List.range n).map (fun i => Classical.choose (hex i)), e, h3, by simp, hcss, ⟨?_, h1, h2, fun _ => ⟨b, o, eA, hb, fun j u hu => ?_⟩⟩, fun i cs x hi hx => ?_⟩
    · rw [flatten_length _ hcss]; simp
    · have hj : j < n * size := by
        have := (List.getElem?_eq_some_iff.1 hu).1
        rw [flatten_length _ hcss] at this
        simpa using this
      have hq : j / size < n := Nat.div_lt_of_lt_mul (by rw [Nat.mul_comm]; exact hj)
      have hr : j % size < size := Nat.mod_lt _ hsz
      have hd : j / size * size + j % size = j := Nat.div_add_mod' j size
      have hg := flatten_get _ hcss (j / size) (Classical.choose (hex (j / size))) (by simp [hq]) (j % size) hr
      rw [hd] at hg
      rw [hg] at hu
      have := ((Classical.choose_spec (hex (j / size))).2 (by omega)).1 (j % size) u hu
      rw [show o + j / size * size + j % size = o + j by omega] at this
      exact this
    · have hi' : i < n := by
        have := (List.getElem?_eq_some_iff.1 hi).1
        simpa using this
      have hil : i < l.length := by omega
      rw [List.getElem?_eq_getElem hil] at hx
      simp [hi'] at hi
      rw [← hi, ← Option.some.inj hx]
      exact ((Classical.choose_spec (hex i)).2 hil).2
  · have h0 : n = 0 := by omega
    subst h0
    exact ⟨A, 0, c, [], e, h3, rfl, fun _ h => (by cases h), ⟨by simp, h1, h2, fun h => absurd h (by omega)⟩, fun i cs x h => by simp at h⟩
theorem ElemsOf.of_row {α : Type} {w : World} {S : Nat → Prop} {size : Nat} {R : List Value → α → Prop} {A : Option Addr} {n c : Nat} {css : List (List Value)} {l : List α} (hl : l.length = n) (hcl : css.length = n) (hcs : ∀ x ∈ css, x.length = size) (hr : Row w S size A n c css.flatten)
    (hR : ∀ (i : Nat) (cs : List Value) (x : α), css[i]? = some cs → l[i]? = some x → R cs x) : ElemsOf w S size R (.slice A n c) l := by
  refine ⟨A, n, c, rfl, hr.le, hr.cap, hl, fun hn => ?_⟩
  obtain ⟨b, o, e, hb, hc⟩ := hr.at_ hn
  refine ⟨b, o, e, hb, fun i hi => ?_⟩
  have hic : i < css.length := by omega
  refine ⟨css[i], hcs _ (List.getElem_mem hic), fun r v hv => ?_, hR i _ _ (List.getElem?_eq_getElem hic) (List.getElem?_eq_getElem hi)⟩
  have hr' : r < size := by
    have := (List.getElem?_eq_some_iff.1 hv).1
    rw [hcs _ (List.getElem_mem hic)] at this
    exact this
  have := hc (i * size + r) v (by rw [flatten_get css hcs i _ (List.getElem?_eq_getElem hic) r hr']; exact hv)
  rw [show o + i * size + r = o + (i * size + r) by omega]
  exact this

theorem info_all {P : Program} {t : TypeId} {n b : Nat} (h : (P.info? t).map (fun i => (i.zero.map (·.cells.size), i.size, i.bytes)) = some (some n, n, b)) : ∃ ie z, P.info? t = some ie ∧ ie.zero = some z ∧ ie.size = n ∧ ie.bytes = b ∧ z.cells.size = n := by
  cases hi : P.info? t with
  | none => simp [hi] at h
  | some ie =>
    simp only [hi, Option.map_some, Option.some.injEq, Prod.mk.injEq] at h
    obtain ⟨h1, h2, h3⟩ := h
    cases hz : ie.zero with
    | none => simp [hz] at h1
    | some z =>
      simp only [hz, Option.map_some, Option.some.injEq] at h1
      exact ⟨ie, z, rfl, hz, h2, h3, h1⟩

theorem eql_nil {P : Program} (t e : TypeId) (a : Option Addr) (l c : Nat) (h : P.underlying t = some (.slice e)) (w : World) : (binOp .eql t (.slice a l c) (.slice none 0 0)).run P w = .ok (.bool a.isNone) w := by
  simp only [binOp]
  simp [Op.equal, Op.maxDepth, Lib.run_equalIn_slice_nil w 9999 t e a l c 0 0 h]
/-- A row of the call's own, all of whose memory is new. -/
def ClonePost (e : TypeId) (size n : Nat) (cs : List Value) (w : World) (en : Ending) (w' : World) : Prop := ∃ v, en = .returned v ∧ w'.ownsRow w.heap.size e size v n cs ∧ Keep none_ w w'
set_option maxRecDepth 100000 in
theorem clone_strs (A : Option Addr) (n c : Nat) (cs : List Value) (S : Nat → Prop) (w : World) (hr : Row w S 1 A n c cs) (h1 : ∀ u ∈ cs, u.oneCell' = true) (hn : n * 16 ≤ 140737488355328) :
    Calls Tryz.prog 71 #[.slice A n c] w (ClonePost 9 1 n cs w) := by
  obtain ⟨ie, z, hie, hz, hs, hb, hzs⟩ := info_all (P := Tryz.prog) (t := 9) (n := 1) (b := 16) (by kernel_rfl)
  replace hie := Lib.hid hie
  replace hz := Lib.hid hz
  replace hs := Lib.hid hs
  replace hb := Lib.hid hb
  replace hzs := Lib.hid hzs
  have m1 := Lib.hid (show 0 + n ≤ maxLen by unfold maxLen; omega)
  have m2 := Lib.hid (show (0 + n) * 16 ≤ 140737488355328 by omega)
  clear hn
  cases A with
  | none =>
    have h0 : n = 0 := by
      rcases Nat.eq_zero_or_pos n with h | h
      · exact h
      · obtain ⟨b, o, e, -⟩ := hr.at_ h
        cases e
    subst h0
    have hcs : cs = [] := List.eq_nil_of_length_eq_zero (by simpa using hr.len)
    subst hcs
    have hq := eql_nil (P := Tryz.prog) 44 9 none 0 c Tryz.underlying44
    simp only [Option.isNone_none] at hq
    go_enter Tryz.func71, Tryz.ntmps71
    go_wp2
    go_ret
    exact ⟨_, rfl, ⟨rfl, .inl ⟨rfl, rfl⟩⟩, Keep.refl _ _⟩
  | some ad =>
    have hnews : ∀ j u, cs[j]? = some u → w.cell? (ad.add j) = some u := fun j u hu => by
      have hp : 0 < n := by
        rcases Nat.eq_zero_or_pos n with h | h
        · subst h
          have : cs = [] := List.eq_nil_of_length_eq_zero (by simpa using hr.len)
          subst this
          simp at hu
        · exact h
      obtain ⟨b, o, e, -, hc⟩ := hr.at_ hp
      cases e
      rw [Addr.add_mid]
      exact hc j u hu
    have own0 : (w.alloc (.cells #[] 9)).ownsRow w.heap.size 9 1 (.slice (some ⟨w.heap.size, 0, none⟩) 0 0) 0 [] := ⟨by simp, .inr ⟨w.heap.size, 0, #[], rfl, Nat.le_refl _, heap_alloc_new w _, Nat.le_refl _, Nat.zero_le _, by simp, by simp⟩⟩
    have hl := hr.len
    have OWN := Lib.hid own0
    have HNW := Lib.hid hnews
    have HL := Lib.hid hl
    have H1 := Lib.hid h1
    clear own0 hnews hl h1 hr
    have hq := eql_nil (P := Tryz.prog) 44 9 (some ad) n c Tryz.underlying44
    simp only [Option.isNone_some] at hq
    go_enter Tryz.func71, Tryz.ntmps71
    have t1 : True := trivial
    go_wp2_with (have _t := t1; refine wpList_append_own _ rfl (.tmp 5) (.tmp 6) 44 rfl w.heap.size 9 ie z 1 16 Tryz.underlying44 hie.out hz.out hs.out hb.out hzs.out (by decide) _ 0 [] rfl OWN.out ad n c cs rfl HL.out (fun j u hu => ((Keep.refl none_ w).alloc _).cell (HNW.out j u hu) (fun e => e)) H1.out m1.out m2.out (by simp) ?_; intro v' w1 h2 h3 _; clear _t t1)
    go_ret
    refine ⟨_, rfl, by simpa using h2, ?_⟩
    exact ((Keep.refl none_ w).alloc _).then (Keep.ofGrown h3) (fun x e => .inr (by cases e; exact Nat.le_refl _))
set_option maxRecDepth 100000 in
theorem clone_jobs (A : Option Addr) (n c : Nat) (cs : List Value) (S : Nat → Prop) (w : World) (hr : Row w S 7 A n c cs) (h1 : ∀ u ∈ cs, u.oneCell' = true) (hn : n * 104 ≤ 140737488355328) :
    Calls Tryz.prog 72 #[.slice A n c] w (ClonePost 57 7 n cs w) := by
  obtain ⟨ie, z, hie, hz, hs, hb, hzs⟩ := info_all (P := Tryz.prog) (t := 57) (n := 7) (b := 104) (by kernel_rfl)
  replace hie := Lib.hid hie
  replace hz := Lib.hid hz
  replace hs := Lib.hid hs
  replace hb := Lib.hid hb
  replace hzs := Lib.hid hzs
  have m1 := Lib.hid (show 0 + n ≤ maxLen by unfold maxLen; omega)
  have m2 := Lib.hid (show (0 + n) * 104 ≤ 140737488355328 by omega)
  clear hn
  cases A with
  | none =>
    have h0 : n = 0 := by
      rcases Nat.eq_zero_or_pos n with h | h
      · exact h
      · obtain ⟨b, o, e, -⟩ := hr.at_ h
        cases e
    subst h0
    have hcs : cs = [] := List.eq_nil_of_length_eq_zero (by simpa using hr.len)
    subst hcs
    have hq := eql_nil (P := Tryz.prog) 45 57 none 0 c Tryz.underlying45
    simp only [Option.isNone_none] at hq
    go_enter Tryz.func72, Tryz.ntmps72
    go_wp2
    go_ret
    exact ⟨_, rfl, ⟨rfl, .inl ⟨rfl, rfl⟩⟩, Keep.refl _ _⟩
  | some ad =>
    have hnews : ∀ j u, cs[j]? = some u → w.cell? (ad.add j) = some u := fun j u hu => by
      have hp : 0 < n := by
        rcases Nat.eq_zero_or_pos n with h | h
        · subst h
          have : cs = [] := List.eq_nil_of_length_eq_zero (by simpa using hr.len)
          subst this
          simp at hu
        · exact h
      obtain ⟨b, o, e, -, hc⟩ := hr.at_ hp
      cases e
      rw [Addr.add_mid]
      exact hc j u hu
    have own0 : (w.alloc (.cells #[] 57)).ownsRow w.heap.size 57 7 (.slice (some ⟨w.heap.size, 0, none⟩) 0 0) 0 [] := ⟨by simp, .inr ⟨w.heap.size, 0, #[], rfl, Nat.le_refl _, heap_alloc_new w _, Nat.le_refl _, Nat.zero_le _, by simp, by simp⟩⟩
    have hl := hr.len
    have OWN := Lib.hid own0
    have HNW := Lib.hid hnews
    have HL := Lib.hid hl
    have H1 := Lib.hid h1
    clear own0 hnews hl h1 hr
    have hq := eql_nil (P := Tryz.prog) 45 57 (some ad) n c Tryz.underlying45
    simp only [Option.isNone_some] at hq
    go_enter Tryz.func72, Tryz.ntmps72
    have t1 : True := trivial
    go_wp2_with (have _t := t1; refine wpList_append_own _ rfl (.tmp 5) (.tmp 6) 45 rfl w.heap.size 57 ie z 7 104 Tryz.underlying45 hie.out hz.out hs.out hb.out hzs.out (by decide) _ 0 [] rfl OWN.out ad n c cs rfl HL.out (fun j u hu => ((Keep.refl none_ w).alloc _).cell (HNW.out j u hu) (fun e => e)) H1.out m1.out m2.out (by simp) ?_; intro v' w1 h2 h3 _; clear _t t1)
    go_ret
    refine ⟨_, rfl, by simpa using h2, ?_⟩
    exact ((Keep.refl none_ w).alloc _).then (Keep.ofGrown h3) (fun x e => .inr (by cases e; exact Nat.le_refl _))
set_option maxRecDepth 100000 in
theorem clone_wks (A : Option Addr) (n c : Nat) (cs : List Value) (S : Nat → Prop) (w : World) (hr : Row w S 2 A n c cs) (h1 : ∀ u ∈ cs, u.oneCell' = true) (hn : n * 24 ≤ 140737488355328) :
    Calls Tryz.prog 73 #[.slice A n c] w (ClonePost 107 2 n cs w) := by
  obtain ⟨ie, z, hie, hz, hs, hb, hzs⟩ := info_all (P := Tryz.prog) (t := 107) (n := 2) (b := 24) (by kernel_rfl)
  replace hie := Lib.hid hie
  replace hz := Lib.hid hz
  replace hs := Lib.hid hs
  replace hb := Lib.hid hb
  replace hzs := Lib.hid hzs
  have m1 := Lib.hid (show 0 + n ≤ maxLen by unfold maxLen; omega)
  have m2 := Lib.hid (show (0 + n) * 24 ≤ 140737488355328 by omega)
  clear hn
  cases A with
  | none =>
    have h0 : n = 0 := by
      rcases Nat.eq_zero_or_pos n with h | h
      · exact h
      · obtain ⟨b, o, e, -⟩ := hr.at_ h
        cases e
    subst h0
    have hcs : cs = [] := List.eq_nil_of_length_eq_zero (by simpa using hr.len)
    subst hcs
    have hq := eql_nil (P := Tryz.prog) 46 107 none 0 c Tryz.underlying46
    simp only [Option.isNone_none] at hq
    go_enter Tryz.func73, Tryz.ntmps73
    go_wp2
    go_ret
    exact ⟨_, rfl, ⟨rfl, .inl ⟨rfl, rfl⟩⟩, Keep.refl _ _⟩
  | some ad =>
    have hnews : ∀ j u, cs[j]? = some u → w.cell? (ad.add j) = some u := fun j u hu => by
      have hp : 0 < n := by
        rcases Nat.eq_zero_or_pos n with h | h
        · subst h
          have : cs = [] := List.eq_nil_of_length_eq_zero (by simpa using hr.len)
          subst this
          simp at hu
        · exact h
      obtain ⟨b, o, e, -, hc⟩ := hr.at_ hp
      cases e
      rw [Addr.add_mid]
      exact hc j u hu
    have own0 : (w.alloc (.cells #[] 107)).ownsRow w.heap.size 107 2 (.slice (some ⟨w.heap.size, 0, none⟩) 0 0) 0 [] := ⟨by simp, .inr ⟨w.heap.size, 0, #[], rfl, Nat.le_refl _, heap_alloc_new w _, Nat.le_refl _, Nat.zero_le _, by simp, by simp⟩⟩
    have hl := hr.len
    have OWN := Lib.hid own0
    have HNW := Lib.hid hnews
    have HL := Lib.hid hl
    have H1 := Lib.hid h1
    clear own0 hnews hl h1 hr
    have hq := eql_nil (P := Tryz.prog) 46 107 (some ad) n c Tryz.underlying46
    simp only [Option.isNone_some] at hq
    go_enter Tryz.func73, Tryz.ntmps73
    have t1 : True := trivial
    go_wp2_with (have _t := t1; refine wpList_append_own _ rfl (.tmp 5) (.tmp 6) 46 rfl w.heap.size 107 ie z 2 24 Tryz.underlying46 hie.out hz.out hs.out hb.out hzs.out (by decide) _ 0 [] rfl OWN.out ad n c cs rfl HL.out (fun j u hu => ((Keep.refl none_ w).alloc _).cell (HNW.out j u hu) (fun e => e)) H1.out m1.out m2.out (by simp) ?_; intro v' w1 h2 h3 _; clear _t t1)
    go_ret
    refine ⟨_, rfl, by simpa using h2, ?_⟩
    exact ((Keep.refl none_ w).alloc _).then (Keep.ofGrown h3) (fun x e => .inr (by cases e; exact Nat.le_refl _))
set_option maxRecDepth 100000 in
theorem clone_itms (A : Option Addr) (n c : Nat) (cs : List Value) (S : Nat → Prop) (w : World) (hr : Row w S 148 A n c cs) (h1 : ∀ u ∈ cs, u.oneCell' = true) (hn : n * 296 ≤ 140737488355328) :
    Calls Tryz.prog 102 #[.slice A n c] w (ClonePost 72 148 n cs w) := by
  obtain ⟨ie, z, hie, hz, hs, hb, hzs⟩ := info_all (P := Tryz.prog) (t := 72) (n := 148) (b := 296) (by kernel_rfl)
  replace hie := Lib.hid hie
  replace hz := Lib.hid hz
  replace hs := Lib.hid hs
  replace hb := Lib.hid hb
  replace hzs := Lib.hid hzs
  have m1 := Lib.hid (show 0 + n ≤ maxLen by unfold maxLen; omega)
  have m2 := Lib.hid (show (0 + n) * 296 ≤ 140737488355328 by omega)
  clear hn
  cases A with
  | none =>
    have h0 : n = 0 := by
      rcases Nat.eq_zero_or_pos n with h | h
      · exact h
      · obtain ⟨b, o, e, -⟩ := hr.at_ h
        cases e
    subst h0
    have hcs : cs = [] := List.eq_nil_of_length_eq_zero (by simpa using hr.len)
    subst hcs
    have hq := eql_nil (P := Tryz.prog) 55 72 none 0 c Tryz.underlying55
    simp only [Option.isNone_none] at hq
    go_enter Tryz.func102, Tryz.ntmps102
    go_wp2
    go_ret
    exact ⟨_, rfl, ⟨rfl, .inl ⟨rfl, rfl⟩⟩, Keep.refl _ _⟩
  | some ad =>
    have hnews : ∀ j u, cs[j]? = some u → w.cell? (ad.add j) = some u := fun j u hu => by
      have hp : 0 < n := by
        rcases Nat.eq_zero_or_pos n with h | h
        · subst h
          have : cs = [] := List.eq_nil_of_length_eq_zero (by simpa using hr.len)
          subst this
          simp at hu
        · exact h
      obtain ⟨b, o, e, -, hc⟩ := hr.at_ hp
      cases e
      rw [Addr.add_mid]
      exact hc j u hu
    have own0 : (w.alloc (.cells #[] 72)).ownsRow w.heap.size 72 148 (.slice (some ⟨w.heap.size, 0, none⟩) 0 0) 0 [] := ⟨by simp, .inr ⟨w.heap.size, 0, #[], rfl, Nat.le_refl _, heap_alloc_new w _, Nat.le_refl _, Nat.zero_le _, by simp, by simp⟩⟩
    have hl := hr.len
    have OWN := Lib.hid own0
    have HNW := Lib.hid hnews
    have HL := Lib.hid hl
    have H1 := Lib.hid h1
    clear own0 hnews hl h1 hr
    have hq := eql_nil (P := Tryz.prog) 55 72 (some ad) n c Tryz.underlying55
    simp only [Option.isNone_some] at hq
    go_enter Tryz.func102, Tryz.ntmps102
    have t1 : True := trivial
    go_wp2_with (have _t := t1; refine wpList_append_own _ rfl (.tmp 5) (.tmp 6) 55 rfl w.heap.size 72 ie z 148 296 Tryz.underlying55 hie.out hz.out hs.out hb.out hzs.out (by decide) _ 0 [] rfl OWN.out ad n c cs rfl HL.out (fun j u hu => ((Keep.refl none_ w).alloc _).cell (HNW.out j u hu) (fun e => e)) H1.out m1.out m2.out (by simp) ?_; intro v' w1 h2 h3 _; clear _t t1)
    go_ret
    refine ⟨_, rfl, by simpa using h2, ?_⟩
    exact ((Keep.refl none_ w).alloc _).then (Keep.ofGrown h3) (fun x e => .inr (by cases e; exact Nat.le_refl _))
set_option maxRecDepth 100000 in
theorem clone_bss (A : Option Addr) (n c : Nat) (cs : List Value) (S : Nat → Prop) (w : World) (hr : Row w S 1 A n c cs) (h1 : ∀ u ∈ cs, u.oneCell' = true) (hn : n * 24 ≤ 140737488355328) :
    Calls Tryz.prog 103 #[.slice A n c] w (ClonePost 131 1 n cs w) := by
  obtain ⟨ie, z, hie, hz, hs, hb, hzs⟩ := info_all (P := Tryz.prog) (t := 131) (n := 1) (b := 24) (by kernel_rfl)
  replace hie := Lib.hid hie
  replace hz := Lib.hid hz
  replace hs := Lib.hid hs
  replace hb := Lib.hid hb
  replace hzs := Lib.hid hzs
  have m1 := Lib.hid (show 0 + n ≤ maxLen by unfold maxLen; omega)
  have m2 := Lib.hid (show (0 + n) * 24 ≤ 140737488355328 by omega)
  clear hn
  cases A with
  | none =>
    have h0 : n = 0 := by
      rcases Nat.eq_zero_or_pos n with h | h
      · exact h
      · obtain ⟨b, o, e, -⟩ := hr.at_ h
        cases e
    subst h0
    have hcs : cs = [] := List.eq_nil_of_length_eq_zero (by simpa using hr.len)
    subst hcs
    have hq := eql_nil (P := Tryz.prog) 67 131 none 0 c Tryz.underlying67
    simp only [Option.isNone_none] at hq
    go_enter Tryz.func103, Tryz.ntmps103
    go_wp2
    go_ret
    exact ⟨_, rfl, ⟨rfl, .inl ⟨rfl, rfl⟩⟩, Keep.refl _ _⟩
  | some ad =>
    have hnews : ∀ j u, cs[j]? = some u → w.cell? (ad.add j) = some u := fun j u hu => by
      have hp : 0 < n := by
        rcases Nat.eq_zero_or_pos n with h | h
        · subst h
          have : cs = [] := List.eq_nil_of_length_eq_zero (by simpa using hr.len)
          subst this
          simp at hu
        · exact h
      obtain ⟨b, o, e, -, hc⟩ := hr.at_ hp
      cases e
      rw [Addr.add_mid]
      exact hc j u hu
    have own0 : (w.alloc (.cells #[] 131)).ownsRow w.heap.size 131 1 (.slice (some ⟨w.heap.size, 0, none⟩) 0 0) 0 [] := ⟨by simp, .inr ⟨w.heap.size, 0, #[], rfl, Nat.le_refl _, heap_alloc_new w _, Nat.le_refl _, Nat.zero_le _, by simp, by simp⟩⟩
    have hl := hr.len
    have OWN := Lib.hid own0
    have HNW := Lib.hid hnews
    have HL := Lib.hid hl
    have H1 := Lib.hid h1
    clear own0 hnews hl h1 hr
    have hq := eql_nil (P := Tryz.prog) 67 131 (some ad) n c Tryz.underlying67
    simp only [Option.isNone_some] at hq
    go_enter Tryz.func103, Tryz.ntmps103
    have t1 : True := trivial
    go_wp2_with (have _t := t1; refine wpList_append_own _ rfl (.tmp 5) (.tmp 6) 67 rfl w.heap.size 131 ie z 1 24 Tryz.underlying67 hie.out hz.out hs.out hb.out hzs.out (by decide) _ 0 [] rfl OWN.out ad n c cs rfl HL.out (fun j u hu => ((Keep.refl none_ w).alloc _).cell (HNW.out j u hu) (fun e => e)) H1.out m1.out m2.out (by simp) ?_; intro v' w1 h2 h3 _; clear _t t1)
    go_ret
    refine ⟨_, rfl, by simpa using h2, ?_⟩
    exact ((Keep.refl none_ w).alloc _).then (Keep.ofGrown h3) (fun x e => .inr (by cases e; exact Nat.le_refl _))
set_option maxRecDepth 100000 in
theorem clone_units (A : Option Addr) (n c : Nat) (cs : List Value) (S : Nat → Prop) (w : World) (hr : Row w S 2 A n c cs) (h1 : ∀ u ∈ cs, u.oneCell' = true) (hn : n * 32 ≤ 140737488355328) :
    Calls Tryz.prog 104 #[.slice A n c] w (ClonePost 163 2 n cs w) := by
  obtain ⟨ie, z, hie, hz, hs, hb, hzs⟩ := info_all (P := Tryz.prog) (t := 163) (n := 2) (b := 32) (by kernel_rfl)
  replace hie := Lib.hid hie
  replace hz := Lib.hid hz
  replace hs := Lib.hid hs
  replace hb := Lib.hid hb
  replace hzs := Lib.hid hzs
  have m1 := Lib.hid (show 0 + n ≤ maxLen by unfold maxLen; omega)
  have m2 := Lib.hid (show (0 + n) * 32 ≤ 140737488355328 by omega)
  clear hn
  cases A with
  | none =>
    have h0 : n = 0 := by
      rcases Nat.eq_zero_or_pos n with h | h
      · exact h
      · obtain ⟨b, o, e, -⟩ := hr.at_ h
        cases e
    subst h0
    have hcs : cs = [] := List.eq_nil_of_length_eq_zero (by simpa using hr.len)
    subst hcs
    have hq := eql_nil (P := Tryz.prog) 68 163 none 0 c Tryz.underlying68
    simp only [Option.isNone_none] at hq
    go_enter Tryz.func104, Tryz.ntmps104
    go_wp2
    go_ret
    exact ⟨_, rfl, ⟨rfl, .inl ⟨rfl, rfl⟩⟩, Keep.refl _ _⟩
  | some ad =>
    have hnews : ∀ j u, cs[j]? = some u → w.cell? (ad.add j) = some u := fun j u hu => by
      have hp : 0 < n := by
        rcases Nat.eq_zero_or_pos n with h | h
        · subst h
          have : cs = [] := List.eq_nil_of_length_eq_zero (by simpa using hr.len)
          subst this
          simp at hu
        · exact h
      obtain ⟨b, o, e, -, hc⟩ := hr.at_ hp
      cases e
      rw [Addr.add_mid]
      exact hc j u hu
    have own0 : (w.alloc (.cells #[] 163)).ownsRow w.heap.size 163 2 (.slice (some ⟨w.heap.size, 0, none⟩) 0 0) 0 [] := ⟨by simp, .inr ⟨w.heap.size, 0, #[], rfl, Nat.le_refl _, heap_alloc_new w _, Nat.le_refl _, Nat.zero_le _, by simp, by simp⟩⟩
    have hl := hr.len
    have OWN := Lib.hid own0
    have HNW := Lib.hid hnews
    have HL := Lib.hid hl
    have H1 := Lib.hid h1
    clear own0 hnews hl h1 hr
    have hq := eql_nil (P := Tryz.prog) 68 163 (some ad) n c Tryz.underlying68
    simp only [Option.isNone_some] at hq
    go_enter Tryz.func104, Tryz.ntmps104
    have t1 : True := trivial
    go_wp2_with (have _t := t1; refine wpList_append_own _ rfl (.tmp 5) (.tmp 6) 68 rfl w.heap.size 163 ie z 2 32 Tryz.underlying68 hie.out hz.out hs.out hb.out hzs.out (by decide) _ 0 [] rfl OWN.out ad n c cs rfl HL.out (fun j u hu => ((Keep.refl none_ w).alloc _).cell (HNW.out j u hu) (fun e => e)) H1.out m1.out m2.out (by simp) ?_; intro v' w1 h2 h3 _; clear _t t1)
    go_ret
    refine ⟨_, rfl, by simpa using h2, ?_⟩
    exact ((Keep.refl none_ w).alloc _).then (Keep.ofGrown h3) (fun x e => .inr (by cases e; exact Nat.le_refl _))
set_option maxRecDepth 100000 in
theorem clone_bytes (A : Option Addr) (n c : Nat) (cs : List Value) (S : Nat → Prop) (w : World) (hr : Row w S 1 A n c cs) (h1 : ∀ u ∈ cs, u.oneCell' = true) (hn : n * 1 ≤ 140737488355328) :
    Calls Tryz.prog 105 #[.slice A n c] w (ClonePost 5 1 n cs w) := by
  obtain ⟨ie, z, hie, hz, hs, hb, hzs⟩ := info_all (P := Tryz.prog) (t := 5) (n := 1) (b := 1) (by kernel_rfl)
  replace hie := Lib.hid hie
  replace hz := Lib.hid hz
  replace hs := Lib.hid hs
  replace hb := Lib.hid hb
  replace hzs := Lib.hid hzs
  have m1 := Lib.hid (show 0 + n ≤ maxLen by unfold maxLen; omega)
  have m2 := Lib.hid (show (0 + n) * 1 ≤ 140737488355328 by omega)
  clear hn
  cases A with
  | none =>
    have h0 : n = 0 := by
      rcases Nat.eq_zero_or_pos n with h | h
      · exact h
      · obtain ⟨b, o, e, -⟩ := hr.at_ h
        cases e
    subst h0
    have hcs : cs = [] := List.eq_nil_of_length_eq_zero (by simpa using hr.len)
    subst hcs
    have hq := eql_nil (P := Tryz.prog) 131 5 none 0 c Tryz.underlying131
    simp only [Option.isNone_none] at hq
    go_enter Tryz.func105, Tryz.ntmps105
    go_wp2
    go_ret
    exact ⟨_, rfl, ⟨rfl, .inl ⟨rfl, rfl⟩⟩, Keep.refl _ _⟩
  | some ad =>
    have hnews : ∀ j u, cs[j]? = some u → w.cell? (ad.add j) = some u := fun j u hu => by
      have hp : 0 < n := by
        rcases Nat.eq_zero_or_pos n with h | h
        · subst h
          have : cs = [] := List.eq_nil_of_length_eq_zero (by simpa using hr.len)
          subst this
          simp at hu
        · exact h
      obtain ⟨b, o, e, -, hc⟩ := hr.at_ hp
      cases e
      rw [Addr.add_mid]
      exact hc j u hu
    have own0 : (w.alloc (.cells #[] 5)).ownsRow w.heap.size 5 1 (.slice (some ⟨w.heap.size, 0, none⟩) 0 0) 0 [] := ⟨by simp, .inr ⟨w.heap.size, 0, #[], rfl, Nat.le_refl _, heap_alloc_new w _, Nat.le_refl _, Nat.zero_le _, by simp, by simp⟩⟩
    have hl := hr.len
    have OWN := Lib.hid own0
    have HNW := Lib.hid hnews
    have HL := Lib.hid hl
    have H1 := Lib.hid h1
    clear own0 hnews hl h1 hr
    have hq := eql_nil (P := Tryz.prog) 131 5 (some ad) n c Tryz.underlying131
    simp only [Option.isNone_some] at hq
    go_enter Tryz.func105, Tryz.ntmps105
    have t1 : True := trivial
    go_wp2_with (have _t := t1; refine wpList_append_own _ rfl (.tmp 5) (.tmp 6) 131 rfl w.heap.size 5 ie z 1 1 Tryz.underlying131 hie.out hz.out hs.out hb.out hzs.out (by decide) _ 0 [] rfl OWN.out ad n c cs rfl HL.out (fun j u hu => ((Keep.refl none_ w).alloc _).cell (HNW.out j u hu) (fun e => e)) H1.out m1.out m2.out (by simp) ?_; intro v' w1 h2 h3 _; clear _t t1)
    go_ret
    refine ⟨_, rfl, by simpa using h2, ?_⟩
    exact ((Keep.refl none_ w).alloc _).then (Keep.ofGrown h3) (fun x e => .inr (by cases e; exact Nat.le_refl _))
end Go.Proofs.YtnefbeplgfdkkaaGreatDoor
