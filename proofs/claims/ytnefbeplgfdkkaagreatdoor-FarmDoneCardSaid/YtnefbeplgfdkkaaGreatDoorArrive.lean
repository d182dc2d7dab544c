/-
  (*State).arrive and leave.
-/
import Derived.Test.YtnefbeplgfdkkaaGreatDoorInsDel
namespace Go.Proofs.YtnefbeplgfdkkaaGreatDoor
open Go.RowKit

theorem Aft.newStrs {w w6 : World} {base : Bs} {g : Nat} {vp vj vw v6 : Value} {s : St} {l : List ByteArray} (h : Aft w base g vp vj vw s) (k : Keep (ofBlk vp) w w6) (o : w6.ownsRow base 9 1 v6 l.length (l.map Value.string)) :
    Aft (w6.setCell ⟨g, 1, none⟩ v6) base g v6 vj vw { s with present := l } ∧ Keep (ge base) w (w6.setCell ⟨g, 1, none⟩ v6) := by
  obtain ⟨css, j1, j2, j3, j4⟩ := h.jobs
  have nog : ¬ ofBlk vp g := fun e => own_apart h.strs h.blk (by decide) g e rfl
  have b6 := h.blk.keep k nog
  have s6 := own_keep h.wks k (own_apart2 h.wks h.strs (by decide))
  have q6 : OwnJobs w6 base vj s.jobs := h.jobs.keep k (fun b e => own_ge h.strs b e) (own_apart2 j3 h.strs (by decide))
  obtain ⟨css', i1, i2, i3, i4⟩ := q6
  have kg : Keep (one g) w6 (w6.setCell ⟨g, 1, none⟩ v6) := (Keep.refl (one g) w6).setCell (p := ⟨g, 1, none⟩) (.inl rfl) v6
  refine ⟨⟨?_, h.ge_, own_keep o kg (own_apart o b6 (by decide)), OwnJobs.keep ⟨css', i1, i2, i3, i4⟩ kg (fun b e => by cases e; exact h.ge_) (own_apart i3 b6 (by decide)), own_keep s6 kg (own_apart s6 b6 (by decide))⟩, (k.mono (fun b e => own_ge h.strs b e)).trans (kg.mono (fun b e => by cases e; exact h.ge_))⟩
  have := b6.set_ 1 v6
  simpa using this

/-- 37.3: arrive, leave. -/
def there (l : List ByteArray) (x : ByteArray) : Bool := l.any fun y => strEq y x
def insAt (l : List ByteArray) (x : ByteArray) : List ByteArray := l.take (place l x) ++ x :: l.drop (place l x)
def arriveE (s : St) (x : ByteArray) : Int := if there s.present x then 0 else if 16 ≤ s.present.length then 18 else 0
def arriveS (s : St) (x : ByteArray) : St := if there s.present x then s else if 16 ≤ s.present.length then s else { s with present := insAt s.present x }
def leaveE (s : St) (x : ByteArray) : Int := if there s.present x then 0 else 7
def leaveS (s : St) (x : ByteArray) : St := if there s.present x then { s with present := s.present.eraseIdx (place s.present x) } else s
theorem there_lt {l : List ByteArray} {x : ByteArray} {p : Nat} (h : Pos l x p) (ha : Asc l) (ht : there l x = true) : p < l.length := by
  have := h.found ha
  unfold there at ht
  rw [ht, Bool.and_eq_true, decide_eq_true_eq] at this
  exact this.1
theorem insAt_len (l : List ByteArray) (x : ByteArray) : (insAt l x).length = l.length + 1 := by
  have := place_le l x
  simp [insAt]
  omega

set_option maxRecDepth 100000 in
set_option maxHeartbeats 400000 in
theorem arrive_any (s : St) (vp vj vw : Value) (base : Bs) (g : Nat) (x : ByteArray) (w : World) (h : Aft w base g vp vj vw s) (ha : Asc s.present) (h16 : s.present.length ≤ 64) :
    Calls Tryz.prog 75 #[.pointer (some ⟨g, 0, none⟩), .string x] w (MethPost base g (arriveE s x) (arriveS s x) w) := by
  obtain ⟨A, c, rfl, hr⟩ := own_row (S := none_) h.strs (fun _ _ e => e)
  have c1 := h.blk.cell 1
  simp only [List.getElem?_toArray, List.getElem?_cons_zero, List.getElem?_cons_succ] at c1
  have h1 := hr.cap
  have h2 := hr.le
  unfold maxLen at h1
  have SE := Lib.hid (search_any s.present x A s.present.length c none_ w hr (ha.mono x) h16)
  have HA := Lib.hid h
  have AS := Lib.hid ha
  have aE : arriveE s x = if there s.present x then 0 else if 16 ≤ s.present.length then 18 else 0 := rfl
  have aS : arriveS s x = if there s.present x then s else if 16 ≤ s.present.length then s else { s with present := insAt s.present x } := rfl
  cases ht : there s.present x with
  | true =>
    have FD := Lib.hid (show ∀ p, Pos s.present x p → (decide (p < s.present.length) && strEq (s.present.getD p .empty) x) = true from fun p hp => by rw [hp.found ha]; exact ht)
    have E1 := Lib.hid (show arriveE s x = 0 by rw [aE, if_pos ht])
    have E2 := Lib.hid (show arriveS s x = s by rw [aS, if_pos ht])
    clear aE aS ht ha hr h
    go_enter Tryz.func75, Tryz.ntmps75
    have t1 : True := trivial
    go_wp2_with (have _t := t1; go_at_call 96; refine SE.out.mono ?_; rintro e w5 ⟨p, hp, rfl, k5⟩; rw [FD.out p hp]; have k6 := Lib.hid k5; clear k5 hp _t t1)
    go_ret
    exact ⟨_, _, _, ret_int E1.out.symm, by rw [E2.out]; exact HA.out.keep k6.out, k6.out.weak⟩
  | false =>
    have FD := Lib.hid (show ∀ p, Pos s.present x p → (decide (p < s.present.length) && strEq (s.present.getD p .empty) x) = false from fun p hp => by rw [hp.found ha]; exact ht)
    have ht' : ¬ there s.present x = true := by rw [ht]; decide
    rw [if_neg ht'] at aE aS
    by_cases hm : 16 ≤ s.present.length
    · have hm' : (16 : Int) ≤ s.present.length := by omega
      rw [if_pos hm] at aE aS
      have E1 := Lib.hid aE
      have E2 := Lib.hid aS
      clear aE aS ht ht' ha hr h
      go_enter Tryz.func75, Tryz.ntmps75
      have t1 : True := trivial
      go_wp2_with (have _t := t1; go_at_call 96; refine SE.out.mono ?_; rintro e w5 ⟨p, hp, rfl, k5⟩; rw [FD.out p hp]; have d1 := k5.cell c1 (fun e => e); have k6 := Lib.hid k5; clear k5 hp _t t1)
      go_ret
      exact ⟨_, _, _, ret_int E1.out.symm, by rw [E2.out]; exact HA.out.keep k6.out, k6.out.weak⟩
    · have hm' : ¬ (16 : Int) ≤ s.present.length := by omega
      rw [if_neg hm] at aE aS
      have E1 := Lib.hid aE
      have E2 := Lib.hid aS
      clear aE aS ht ht' ha hr h
      go_enter Tryz.func75, Tryz.ntmps75
      have t1 : True := trivial
      go_upto_region 6 with (have _t := t1; go_at_call 96; refine SE.out.mono ?_; rintro e w5 ⟨p, hp, rfl, k5⟩; rw [FD.out p hp]; have d1 := k5.cell c1 (fun e => e); have k6 := Lib.hid k5; have hP := Lib.hid hp; clear k5 hp _t t1)
      have H5 := Lib.hid (HA.out.keep k6.out)
      have hbs := H5.out.ge_
      have lg := H5.out.blk.lt
      have KA : Keep none_ w5 (w5.alloc (.cells #[.string x] 9)) := (Keep.refl none_ w5).alloc _
      have H6 := Lib.hid (H5.out.keep KA)
      have nob : ¬ ofBlk (.slice A s.present.length c) w5.heap.size := fun e => by have := (H5.out.strs.lt _ e).2; omega
      have nog : ¬ ofBlk (.slice A s.present.length c) g := fun e => own_apart H6.out.strs H6.out.blk (by decide) g e rfl
      have B6 := Lib.hid H6.out.blk
      have IN := Lib.hid (ins_any base (.slice A s.present.length c) s.present.length p w5.heap.size (s.present.map Value.string) (.string x) (w5.alloc (.cells #[.string x] 9)) H6.out.strs hP.out.1 (Blk.new _ _ _) rfl (by simp [Value.oneCell']) nob (by omega) (by simp; omega))
      clear KA nob c1
      have t2 : True := trivial
      go_wp2_with (have _t := t2; go_at_call 98; refine IN.out.mono ?_; rintro e w7 ⟨A7, c7, rfl, o7, k7⟩; have B7 := B6.out.keep k7 nog; have y1 := B7.cell 1; have z1 := B7.frozen 1; simp only [List.getElem?_toArray, List.getElem?_cons_zero, List.getElem?_cons_succ] at y1; have O7 := Lib.hid o7; have K7 := Lib.hid k7; clear o7 B7 k7 _t t2)
      go_ret
      have o8 : w7.ownsRow base 9 1 (.slice A7 (s.present.length + 1) c7) (insAt s.present x).length ((insAt s.present x).map Value.string) := by
        have := O7.out
        rw [insAt_len]
        unfold insAt
        rw [← hP.out.place]
        simpa using this
      obtain ⟨q1, q2⟩ := H6.out.newStrs K7.out o8
      exact ⟨_, _, _, ret_int E1.out.symm, by rw [E2.out]; exact q1, k6.out.weak.trans (((Keep.refl none_ w5).alloc _).weak.trans q2)⟩

set_option maxRecDepth 100000 in
set_option maxHeartbeats 400000 in
theorem leave_any (s : St) (vp vj vw : Value) (base : Bs) (g : Nat) (x : ByteArray) (w : World) (h : Aft w base g vp vj vw s) (ha : Asc s.present) (h16 : s.present.length ≤ 64) :
    Calls Tryz.prog 76 #[.pointer (some ⟨g, 0, none⟩), .string x] w (MethPost base g (leaveE s x) (leaveS s x) w) := by
  obtain ⟨A, c, rfl, hr⟩ := own_row (S := none_) h.strs (fun _ _ e => e)
  have c1 := h.blk.cell 1
  simp only [List.getElem?_toArray, List.getElem?_cons_zero, List.getElem?_cons_succ] at c1
  have h1 := hr.cap
  have h2 := hr.le
  unfold maxLen at h1
  have SE := Lib.hid (search_any s.present x A s.present.length c none_ w hr (ha.mono x) h16)
  have HA := Lib.hid h
  have aE : leaveE s x = if there s.present x then 0 else 7 := rfl
  have aS : leaveS s x = if there s.present x then { s with present := s.present.eraseIdx (place s.present x) } else s := rfl
  cases ht : there s.present x with
  | false =>
    have FD := Lib.hid (show ∀ p, Pos s.present x p → (decide (p < s.present.length) && strEq (s.present.getD p .empty) x) = false from fun p hp => by rw [hp.found ha]; exact ht)
    have E1 := Lib.hid (show leaveE s x = 7 by rw [aE, ht]; rfl)
    have E2 := Lib.hid (show leaveS s x = s by rw [aS, ht]; rfl)
    clear aE aS ht ha hr h
    go_enter Tryz.func76, Tryz.ntmps76
    have t1 : True := trivial
    go_wp2_with (have _t := t1; go_at_call 96; refine SE.out.mono ?_; rintro e w5 ⟨p, hp, rfl, k5⟩; rw [FD.out p hp]; have k6 := Lib.hid k5; clear k5 hp _t t1)
    go_ret
    exact ⟨_, _, _, ret_int E1.out.symm, by rw [E2.out]; exact HA.out.keep k6.out, k6.out.weak⟩
  | true =>
    have FD := Lib.hid (show ∀ p, Pos s.present x p → (decide (p < s.present.length) && strEq (s.present.getD p .empty) x) = true from fun p hp => by rw [hp.found ha]; exact ht)
    have TL := Lib.hid (show ∀ p, Pos s.present x p → p < s.present.length from fun p hp => there_lt hp ha ht)
    rw [if_pos ht] at aE aS
    have E1 := Lib.hid aE
    have E2 := Lib.hid aS
    clear aE aS ht ha hr h
    go_enter Tryz.func76, Tryz.ntmps76
    have t1 : True := trivial
    go_upto_region 4 with (have _t := t1; go_at_call 96; refine SE.out.mono ?_; rintro e w5 ⟨p, hp, rfl, k5⟩; rw [FD.out p hp]; have d1 := k5.cell c1 (fun e => e); have k6 := Lib.hid k5; have hP := Lib.hid hp; clear k5 hp _t t1)
    have H5 := Lib.hid (HA.out.keep k6.out)
    have nog : ¬ ofBlk (.slice A s.present.length c) g := fun e => own_apart H5.out.strs H5.out.blk (by decide) g e rfl
    have B6 := Lib.hid H5.out.blk
    have hpl := TL.out p hP.out
    have DE := Lib.hid (del_any base (.slice A s.present.length c) p s.present w5 H5.out.strs hpl)
    have t2 : True := trivial
    clear c1
    go_wp2_with (have _t := t2; go_at_call 99; refine DE.out.mono ?_; rintro e w7 ⟨A7, c7, rfl, o7, k7⟩; have B7 := B6.out.keep k7 nog; have y1 := B7.cell 1; have z1 := B7.frozen 1; simp only [List.getElem?_toArray, List.getElem?_cons_zero, List.getElem?_cons_succ] at y1; have O7 := Lib.hid o7; have K7 := Lib.hid k7; clear o7 B7 k7 _t t2)
    go_ret
    have o8 : w7.ownsRow base 9 1 (.slice A7 (s.present.length - 1) c7) (s.present.eraseIdx (place s.present x)).length ((s.present.eraseIdx (place s.present x)).map Value.string) := by
      have := O7.out
      rw [hP.out.place] at this hpl
      rw [List.length_eraseIdx, if_pos hpl]
      exact this
    obtain ⟨q1, q2⟩ := H5.out.newStrs K7.out o8
    exact ⟨_, _, _, ret_int E1.out.symm, by rw [E2.out]; exact q1, k6.out.weak.trans q2⟩
end Go.Proofs.YtnefbeplgfdkkaaGreatDoor
