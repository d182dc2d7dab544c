/-
  Which job, which worker has a name: slices.IndexFunc with its closures, (*State).job, (*State).worker.
-/
import Derived.Test.YtnefbeplgfdkkaaGreatDoorJb06
namespace Go.Proofs.YtnefbeplgfdkkaaGreatDoor
open Go.RowKit

/-- The first place of what has p, or -1. -/
def idxOf {α : Type} (p : α → Bool) : List α → Nat → Int
  | [], _ => -1
  | x :: l, i => if p x then i else idxOf p l (i + 1)
theorem idxOf_append {α : Type} (p : α → Bool) : ∀ (a b : List α) (i : Nat), a.all (fun x => !p x) = true → idxOf p (a ++ b) i = idxOf p b (i + a.length)
  | [], _, _, _ => rfl
  | x :: a, b, i, h => by
    simp only [List.all_cons, Bool.and_eq_true, Bool.not_eq_true'] at h
    rw [List.cons_append, idxOf, h.1, if_neg (by simp), idxOf_append p a b (i + 1) h.2, List.length_cons]
    congr 1
    omega
theorem idxOf_at {α : Type} (p : α → Bool) (l : List α) (k : Nat) (hk : k < l.length) (h : (l.take k).all (fun x => !p x) = true) (hp : p l[k] = true) : idxOf p l 0 = k := by
  have := idxOf_append p (l.take k) (l.drop k) 0 h
  rw [List.take_append_drop] at this
  rw [this, List.drop_eq_getElem_cons hk, idxOf, hp, if_pos rfl, List.length_take]
  omega
theorem idxOf_none {α : Type} (p : α → Bool) (l : List α) (h : l.all (fun x => !p x) = true) : idxOf p l 0 = -1 := by
  have := idxOf_append p l [] 0 h
  rw [List.append_nil] at this
  rw [this]
  rfl
theorem take_all_succ {α : Type} (p : α → Bool) (l : List α) (k : Nat) (h : k < l.length) : (l.take (k + 1)).all p = ((l.take k).all p && p l[k]) := by
  rw [List.take_succ_eq_append_getElem h, List.all_append]
  simp
/-- What element k of a slice of elements is in memory. -/
theorem ElemsOf.elem {α : Type} {w : World} {S : Nat → Prop} {size : Nat} {R : List Value → α → Prop} {A : Option Addr} {n c : Nat} {l : List α} (h : ElemsOf w S size R (.slice A n c) l) (k : Nat) (hk : k < n) :
    ∃ b o, A = some ⟨b, o, none⟩ ∧ ¬ S b ∧ ∃ (hl : k < l.length) (cs : List Value), cs.length = size ∧ w.rangeAt b (o + k * size) cs ∧ R cs l[k] := by
  obtain ⟨A', n', c', e, h1, h2, h3, h4⟩ := h
  simp only [Value.slice.injEq] at e
  obtain ⟨rfl, rfl, rfl⟩ := e
  obtain ⟨b, o, e, hb, hc⟩ := h4 (by omega)
  obtain ⟨cs, g1, g2, g3⟩ := hc k (by omega)
  exact ⟨b, o, e, hb, by omega, cs, g1, g2, g3⟩
theorem ElemsOf.facts {α : Type} {w : World} {S : Nat → Prop} {size : Nat} {R : List Value → α → Prop} {A : Option Addr} {n c : Nat} {l : List α} (h : ElemsOf w S size R (.slice A n c) l) : l.length = n ∧ n ≤ c ∧ c ≤ maxLen := by
  obtain ⟨A', n', c', e, h1, h2, h3, h4⟩ := h
  simp only [Value.slice.injEq] at e
  obtain ⟨rfl, rfl, rfl⟩ := e
  exact ⟨h3, h1, h2⟩

/-- The closures: is this its name? -/
theorem jobIs_any (j : Jb) (vn vi : Value) (x : ByteArray) (bx : Nat) (w : World) (hx : Blk w bx 9 #[.string x]) :
    Calls Tryz.prog 126 #[.agg #[.string j.name, vn, .string j.worker, .int .i64 j.until_, .int .i64 j.tries, .bool j.done, vi], .pointer (some ⟨bx, 0, none⟩)] w fun e w' => e = .returned (.bool (strEq j.name x)) ∧ Keep none_ w w' := by
  obtain ⟨name, needs, worker, u, t, d, items⟩ := j
  simp only
  have k0 : Keep none_ w (w.alloc (.cells #[.string name, vn, .string worker, .int .i64 u, .int .i64 t, .bool d, vi] 57)) := (Keep.refl _ _).alloc _
  have c0 := (hx.keep k0 (fun e => e)).cell 0
  simp only [List.getElem?_toArray, List.getElem?_cons_zero] at c0
  go_enter Tryz.func126, Tryz.ntmps126
  go_wp2
  go_ret
  exact ⟨rfl, k0⟩
theorem wkIs_any (j : Wk) (x : ByteArray) (bx : Nat) (w : World) (hx : Blk w bx 9 #[.string x]) :
    Calls Tryz.prog 130 #[.agg #[.string j.name, .bool j.dead], .pointer (some ⟨bx, 0, none⟩)] w fun e w' => e = .returned (.bool (strEq j.name x)) ∧ Keep none_ w w' := by
  have k0 : Keep none_ w (w.alloc (.cells #[.string j.name, .bool j.dead] 107)) := (Keep.refl _ _).alloc _
  have c0 := (hx.keep k0 (fun e => e)).cell 0
  simp only [List.getElem?_toArray, List.getElem?_cons_zero] at c0
  go_enter Tryz.func130, Tryz.ntmps130
  go_wp2
  go_ret
  exact ⟨rfl, k0⟩

set_option maxHeartbeats 400000 in
theorem idxWk_any (ws : List Wk) (A : Option Addr) (n c : Nat) (S : Nat → Prop) (x : ByteArray) (bx : Nat) (w : World) (h : WorkersOf w S (.slice A n c) ws) (hx : Blk w bx 9 #[.string x]) :
    Calls Tryz.prog 129 #[.slice A n c, .func (.func 130) #[] #[.pointer (some ⟨bx, 0, none⟩)]] w fun e w' => e = .returned (.int .i64 (idxOf (fun y => strEq y.name x) ws 0)) ∧ Keep none_ w w' := by
  obtain ⟨hl, h1, h2⟩ := h.facts
  unfold maxLen at h2
  have HL := Lib.hid hl
  have HH := Lib.hid h
  have HX := Lib.hid hx
  clear hl h hx
  go_enter Tryz.func129, Tryz.ntmps129
  go_wp2
  go_loopw [8] (fun i wr => ∃ k : Nat, k ≤ n ∧ i = .int .i64 k ∧ (ws.take k).all (fun y => !strEq y.name x) = true ∧ Keep none_ w wr) (fun i _ => n - (intOf i).toNat)
  case atStart => exact ⟨0, Nat.zero_le _, rfl, rfl, Keep.refl _ _⟩
  case round =>
    obtain ⟨k, hk, rfl, hall, hkr⟩ := hrel
    have ALL := Lib.hid hall
    clear hall
    by_cases hlt : k < n
    · have hlt' : (k : Int) < n := by omega
      obtain ⟨b, o, rfl, -, hkl, cs, -, hrg, hcs⟩ := HH.out.elem k hlt
      have at1 := idxOf_at (fun y : Wk => strEq y.name x) ws k hkl ALL.out
      have at2 := take_all_succ (fun y : Wk => !strEq y.name x) ws k hkl
      generalize ws[k] = y at hcs at1 at2
      subst hcs
      have HRG := Lib.hid (rangeAt_keep hrg hkr (fun e => e))
      have A1 := Lib.hid at1
      have A2 := Lib.hid at2
      have IS := Lib.hid (wkIs_any y x bx wr (HX.out.keep hkr (fun e => e)))
      clear at1 at2 hrg hkl
      have t1 : True := trivial
      cases hs : strEq y.name x with
      | true =>
        rw [hs] at IS
        have AT := Lib.hid (A1.out hs)
        clear hs
        go_wp2_with (first | (have _t := t1; refine wpList_load_part 107 (.tmp 14) rfl rfl b (o + k * 2) (by first | rfl | simp) #[.string y.name, .bool y.dead] _ HRG.out Tryz.underlying107 rfl (by kernel_rfl) ?_; go_frame; clear _t t1) | (refine IS.out.mono ?_; rintro e w5 ⟨rfl, k5⟩))
        go_ret
        exact ⟨ret_int AT.out.symm, hkr.trans k5⟩
      | false =>
        rw [hs] at IS
        have AT := Lib.hid (show (ws.take (k + 1)).all (fun y => !strEq y.name x) = true by rw [A2.out, ALL.out, hs]; rfl)
        clear hs
        go_wp2_with (first | (have _t := t1; refine wpList_load_part 107 (.tmp 14) rfl rfl b (o + k * 2) (by first | rfl | simp) #[.string y.name, .bool y.dead] _ HRG.out Tryz.underlying107 rfl (by kernel_rfl) ?_; go_frame; clear _t t1) | (refine IS.out.mono ?_; rintro e w5 ⟨rfl, k5⟩))
        go_roundw
        case rel => exact ⟨k + 1, by omega, by go_num, AT.out, hkr.trans k5⟩
        case measure => simp [intOf]; omega
    · obtain rfl : k = n := by omega
      go_wp2
      go_ret
      exact ⟨ret_int (by rw [idxOf_none]; have := ALL.out; rw [List.take_of_length_le (by rw [HL.out]; exact Nat.le_refl _)] at this; exact this), hkr⟩

set_option maxHeartbeats 400000 in
theorem idxJob_any (js : List Jb) (A : Option Addr) (n c : Nat) (S : Nat → Prop) (x : ByteArray) (bx : Nat) (w : World) (h : JobsOf w S (.slice A n c) js) (hx : Blk w bx 9 #[.string x]) :
    Calls Tryz.prog 125 #[.slice A n c, .func (.func 126) #[] #[.pointer (some ⟨bx, 0, none⟩)]] w fun e w' => e = .returned (.int .i64 (idxOf (fun y => strEq y.name x) js 0)) ∧ Keep none_ w w' := by
  obtain ⟨hl, h1, h2⟩ := h.facts
  unfold maxLen at h2
  have HL := Lib.hid hl
  have HH := Lib.hid h
  have HX := Lib.hid hx
  clear hl h hx
  go_enter Tryz.func125, Tryz.ntmps125
  go_wp2
  go_loopw [8] (fun i wr => ∃ k : Nat, k ≤ n ∧ i = .int .i64 k ∧ (js.take k).all (fun y => !strEq y.name x) = true ∧ Keep none_ w wr) (fun i _ => n - (intOf i).toNat)
  case atStart => exact ⟨0, Nat.zero_le _, rfl, rfl, Keep.refl _ _⟩
  case round =>
    obtain ⟨k, hk, rfl, hall, hkr⟩ := hrel
    have ALL := Lib.hid hall
    clear hall
    by_cases hlt : k < n
    · have hlt' : (k : Int) < n := by omega
      obtain ⟨b, o, rfl, -, hkl, cs, -, hrg, hcs⟩ := HH.out.elem k hlt
      have at1 := idxOf_at (fun y : Jb => strEq y.name x) js k hkl ALL.out
      have at2 := take_all_succ (fun y : Jb => !strEq y.name x) js k hkl
      generalize js[k] = y at hcs at1 at2
      obtain ⟨vn, vi, rfl, hvn, hvi⟩ := hcs
      clear hvn hvi
      have HRG := Lib.hid (rangeAt_keep hrg hkr (fun e => e))
      have A1 := Lib.hid at1
      have A2 := Lib.hid at2
      have IS := Lib.hid (jobIs_any y vn vi x bx wr (HX.out.keep hkr (fun e => e)))
      clear at1 at2 hrg hkl
      have t1 : True := trivial
      cases hs : strEq y.name x with
      | true =>
        rw [hs] at IS
        have AT := Lib.hid (A1.out hs)
        clear hs
        go_wp2_with (first | (have _t := t1; refine wpList_load_part 57 (.tmp 14) rfl rfl b (o + k * 7) (by first | rfl | simp) #[.string y.name, vn, .string y.worker, .int .i64 y.until_, .int .i64 y.tries, .bool y.done, vi] _ HRG.out Tryz.underlying57 rfl (by kernel_rfl) ?_; go_frame; clear _t t1) | (refine IS.out.mono ?_; rintro e w5 ⟨rfl, k5⟩))
        go_ret
        exact ⟨ret_int AT.out.symm, hkr.trans k5⟩
      | false =>
        rw [hs] at IS
        have AT := Lib.hid (show (js.take (k + 1)).all (fun y => !strEq y.name x) = true by rw [A2.out, ALL.out, hs]; rfl)
        clear hs
        go_wp2_with (first | (have _t := t1; refine wpList_load_part 57 (.tmp 14) rfl rfl b (o + k * 7) (by first | rfl | simp) #[.string y.name, vn, .string y.worker, .int .i64 y.until_, .int .i64 y.tries, .bool y.done, vi] _ HRG.out Tryz.underlying57 rfl (by kernel_rfl) ?_; go_frame; clear _t t1) | (refine IS.out.mono ?_; rintro e w5 ⟨rfl, k5⟩))
        go_roundw
        case rel => exact ⟨k + 1, by omega, by go_num, AT.out, hkr.trans k5⟩
        case measure => simp [intOf]; omega
    · obtain rfl : k = n := by omega
      go_wp2
      go_ret
      exact ⟨ret_int (by rw [idxOf_none]; have := ALL.out; rw [List.take_of_length_le (by rw [HL.out]; exact Nat.le_refl _)] at this; exact this), hkr⟩

theorem worker_any (ws : List Wk) (A : Option Addr) (n c g : Nat) (S : Nat → Prop) (x : ByteArray) (w : World) (hc : w.cell? ⟨g, 3, none⟩ = some (.slice A n c)) (h : WorkersOf w S (.slice A n c) ws) :
    Calls Tryz.prog 100 #[.pointer (some ⟨g, 0, none⟩), .string x] w fun e w' => e = .returned (.int .i64 (idxOf (fun y => strEq y.name x) ws 0)) ∧ Keep none_ w w' := by
  have k0 : Keep none_ w (w.alloc (.cells #[.string x] 9)) := (Keep.refl _ _).alloc _
  have IX := Lib.hid (idxWk_any ws A n c S x w.heap.size (w.alloc (.cells #[.string x] 9)) (h.keep k0.weak) (Blk.new _ _ _))
  have c3 := k0.cell hc (fun e => e)
  clear hc h
  go_enter Tryz.func100, Tryz.ntmps100
  go_wp2_with (refine IX.out.mono ?_; rintro e w5 ⟨rfl, k5⟩)
  go_ret
  exact ⟨rfl, k0.trans k5⟩
theorem job_any (ws : List Jb) (A : Option Addr) (n c g : Nat) (S : Nat → Prop) (x : ByteArray) (w : World) (hc : w.cell? ⟨g, 2, none⟩ = some (.slice A n c)) (h : JobsOf w S (.slice A n c) ws) :
    Calls Tryz.prog 97 #[.pointer (some ⟨g, 0, none⟩), .string x] w fun e w' => e = .returned (.int .i64 (idxOf (fun y => strEq y.name x) ws 0)) ∧ Keep none_ w w' := by
  have k0 : Keep none_ w (w.alloc (.cells #[.string x] 9)) := (Keep.refl _ _).alloc _
  have IX := Lib.hid (idxJob_any ws A n c S x w.heap.size (w.alloc (.cells #[.string x] 9)) (h.keep k0.weak) (Blk.new _ _ _))
  have c3 := k0.cell hc (fun e => e)
  clear hc h
  go_enter Tryz.func97, Tryz.ntmps97
  go_wp2_with (refine IX.out.mono ?_; rintro e w5 ⟨rfl, k5⟩)
  go_ret
  exact ⟨rfl, k0.trans k5⟩

theorem idxOf_range {α : Type} (p : α → Bool) : ∀ (l : List α) (i : Nat), (idxOf p l i = -1 ∧ ∀ x ∈ l, p x = false) ∨ ∃ (k : Nat) (h : k < l.length), idxOf p l i = (i + k : Nat) ∧ p l[k] = true ∧ ∀ j (hj : j < k), p (l[j]'(by omega)) = false
  | [], _ => .inl ⟨rfl, fun x h => by cases h⟩
  | x :: l, i => by
    by_cases hx : p x = true
    · exact .inr ⟨0, by simp, by simp [idxOf, hx], by simpa using hx, fun j hj => by omega⟩
    · rcases idxOf_range p l (i + 1) with ⟨h1, h2⟩ | ⟨k, hk, h1, h2, h3⟩
      · refine .inl ⟨by simp [idxOf, hx, h1], fun y hy => ?_⟩
        rcases List.mem_cons.1 hy with rfl | hy
        · simpa using hx
        · exact h2 y hy
      · refine .inr ⟨k + 1, by simp; omega, by simp [idxOf, hx, h1]; omega, by simpa using h2, fun j hj => ?_⟩
        cases j with
        | zero => simpa using hx
        | succ j => simpa using h3 j (by omega)
end Go.Proofs.YtnefbeplgfdkkaaGreatDoor
