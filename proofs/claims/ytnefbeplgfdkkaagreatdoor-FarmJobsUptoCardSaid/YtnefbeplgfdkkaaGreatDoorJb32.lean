/-
  cutroomref37.insert.
-/
import Derived.Test.YtnefbeplgfdkkaaGreatDoorJb31
import Derived.Test.YtnefbeplgfdkkaaGreatDoorJb17
namespace Go.Proofs.YtnefbeplgfdkkaaGreatDoor
open Go.RowKit

def RInsPost (l : List ByteArray) (x : ByteArray) (v : Value) (w : World) (e : Ending) (w' : World) : Prop :=
  ∃ v', e = .returned v' ∧ (there l x = true → v' = v) ∧ (there l x = false → w'.ownsRow w.heap.size 9 1 v' (insAt l x).length ((insAt l x).map Value.string)) ∧ Keep none_ w w'
theorem Pos.of {l : List ByteArray} {x : ByteArray} {k : Nat} (ha : Asc l) (hk : k ≤ l.length) (h1 : ∀ j, j < k → strLt (l.getD j .empty) x = true) (h2 : k < l.length → strLt (l.getD k .empty) x = false) : Pos l x k := by
  refine ⟨hk, h1, fun j hj hjl => ?_⟩
  cases h : strLt (l.getD j .empty) x with
  | false => rfl
  | true =>
    by_cases e : k = j
    · rw [← e, h2 (by omega)] at h; cases h
    · have := strLt_trans (ha k j (by omega) hjl) h
      rw [h2 (by omega)] at this
      cases this

/-- The facts of 'append(append(append([]string{}, l[:k]...), name), l[k:]...)', but for the last append. -/
def insR (n0 k : Nat) (x : ByteArray) (i : Nat) (a b : World) : Prop := if i = 7 then Keep (ge n0) a b ∧ Pre k 1 1 9 [.string x] a b else Keep none_ a b
def insCalm (wr : World) (k : Nat) (x : ByteArray) (t1 : List Value) : Calm where
  R := insR wr.heap.size k x
  G := fun _ => Keep none_ wr
  eff := [0, 4, 6, 7]
  T := fun i _ v w' => match i with
    | 0 => madeT wr.heap.size 9 #[] (fun a => .slice (some a) 0 0) v w'
    | 4 => w'.ownsRow wr.heap.size 9 1 v k t1
    | 6 => madeT wr.heap.size 9 #[.string x] (fun a => .slice (some a) 1 1) v w'
    | _ => w'.ownsRow wr.heap.size 9 1 v (k + 1) (t1 ++ [.string x])
  anc := fun i => if i = 4 then [0] else if i = 7 then [4, 6] else []
  own := fun _ _ _ => False
theorem insCalm_good (wr : World) (k : Nat) (x : ByteArray) (t1 : List Value) : (insCalm wr k x t1).Good where
  mono := fun _ _ h => h
  size := fun i _ _ h => by
    simp only [insCalm, insR] at h
    split at h
    · exact h.1.size
    · exact h.size
  stable := fun i j _ v w1 w2 he hne h hR => by
    simp only [insCalm, insR] at h hR ⊢
    split at hR
    · rename_i i7
      subst i7
      split at h
      · obtain ⟨b, h1, h2, h3⟩ := h
        exact ⟨b, h1, h2, hR.2.zero h3⟩
      · exact hR.2.own rfl (Nat.le_refl _) h
      · obtain ⟨b, h1, h2, h3⟩ := h
        exact ⟨b, h1, h2, hR.2.one rfl h3 (fun _ _ => rfl)⟩
      · rename_i n0 n4 n6
        simp only [insCalm, List.contains_cons, List.contains_nil, Bool.or_false, Bool.or_eq_true, beq_iff_eq] at he
        rcases he with e | e | e | e
        · exact (n0 e).elim
        · exact (n4 e).elim
        · exact (n6 e).elim
        · exact (hne e.symm).elim
    · split at h
      · exact h.stable (S := none_) hR fun _ e => e.elim
      · exact own_keep (S := none_) h hR (fun _ _ e => e)
      · exact h.stable (S := none_) hR fun _ e => e.elim
      · exact own_keep (S := none_) h hR (fun _ _ e => e)
theorem insCalm_at {wr : World} {k : Nat} {x : ByteArray} {t1 : List Value} (y : (insCalm wr k x t1).Sub) : Keep none_ wr ((insCalm wr k x t1).at_ y) := by
  obtain ⟨y, n, _, h⟩ := y
  exact h
theorem insCalm_some (wr : World) (k : Nat) (x : ByteArray) (t1 : List Value) : Nonempty (insCalm wr k x t1).Sub := ⟨⟨wr, 0, Nat.zero_le _, Keep.refl _ _⟩⟩

set_option maxRecDepth 100000 in
set_option maxHeartbeats 1000000 in
theorem rinsert_any (l : List ByteArray) (x : ByteArray) (A : Option Addr) (n c : Nat) (S : Nat → Prop) (w : World) (ha : Asc l) (h64 : n ≤ 64) (hr : Row w S 1 A n c (l.map Value.string)) :
    Calls Tryz.prog 67 #[.slice A n c, .string x] w (RInsPost l x (.slice A n c) w) := by
  have hl : l.length = n := by have := hr.len; simp at this; omega
  have hcap := hr.cap
  have hle := hr.le
  unfold maxLen at hcap
  have HL := Lib.hid hl
  have HR := Lib.hid hr.free
  have AS := Lib.hid ha
  obtain ⟨ie, z, hie, hz, hsi, hby, hzs⟩ := info_all (P := Tryz.prog) (t := 9) (n := 1) (b := 16) (by kernel_rfl)
  have I1 := Lib.hid (And.intro hie (And.intro hz (And.intro hsi (And.intro hby hzs))))
  have O1 := Lib.hid (show ∀ u ∈ l.map Value.string, u.oneCell' = true from fun u hu => by obtain ⟨y, -, rfl⟩ := List.mem_map.1 hu; rfl)
  clear hl hr ha hie hz hsi hby hzs
  go_enter Tryz.func67, Tryz.ntmps67
  go_wp2
  go_loop [5] (fun i => ∃ k : Nat, k ≤ n ∧ i = .int .i64 k ∧ ∀ j, j < k → strLt (l.getD j .empty) x = true) (fun i => n - (intOf i).toNat)
  case atStart => exact ⟨0, Nat.zero_le _, rfl, fun j h => absurd h (by omega)⟩
  case round =>
    obtain ⟨k, hk, rfl, hall⟩ := hrel
    have HA := Lib.hid hall
    clear hall
    by_cases hlt : k < n
    · obtain ⟨b, o, rfl, -, hc⟩ := HR.out.strs (by omega)
      have c0 := hc k hlt
      have hlt' : (k : Int) < n := by omega
      cases hs : strLt (l.getD k .empty) x with
      | true =>
        have hs' : Op.bytesLess (l.getD k .empty).toList x.toList = true := hs
        have NX := Lib.hid (show ∀ j, j < k + 1 → strLt (l.getD j .empty) x = true from fun j hj => by
          rcases Nat.lt_or_ge j k with h | h
          · exact HA.out j h
          · rw [show j = k by omega]; exact hs)
        generalize l.getD k .empty = y at c0 hs'
        clear hs hc
        go_wp2
        go_round
        case rel => exact ⟨k + 1, by omega, by go_num, NX.out⟩
        case measure => simp [intOf]; omega
      | false =>
        have hs' : Op.bytesLess (l.getD k .empty).toList x.toList = false := hs
        have PS := Lib.hid (Pos.of AS.out (by rw [HL.out]; exact hk) HA.out (fun _ => hs))
        have FD := Lib.hid (PS.out.found AS.out)
        cases he : strEq (l.getD k .empty) x with
        | true =>
          have he' : ((l.getD k .empty).toList == x.toList) = true := he
          have TH := Lib.hid (show there l x = true by unfold there; rw [← FD.out, he, decide_eq_true (show k < l.length by rw [HL.out]; exact hlt)]; rfl)
          generalize l.getD k .empty = y at c0 hs' he'
          clear hs hc he
          go_wp2
          go_ret
          exact ⟨_, rfl, (fun _ => rfl), (fun h => by rw [TH.out] at h; cases h), Keep.refl _ _⟩
        | false =>
          have he' : ((l.getD k .empty).toList == x.toList) = false := he
          have TH := Lib.hid (show there l x = false by unfold there; rw [← FD.out, he, Bool.and_false])
          generalize l.getD k .empty = y at c0 hs' he'
          clear hs hc he
          go_upto_region 6 with (fail)
          have RD := Lib.hid (show Row w none_ 1 (some ⟨b, o + k, none⟩) (n - k) (c - k) (l.map Value.string |>.drop k) from ⟨by have := HL.out; simp; omega, by omega, by unfold maxLen; omega, fun hk0 => by
            obtain ⟨b', o', e, hb, hcc⟩ := HR.out.at_ (by omega)
            injection e with e
            injection e with e1 e2
            subst e1 e2
            exact ⟨_, _, rfl, hb, fun j u hu => by rw [Nat.add_assoc]; exact hcc (k + j) u (by rw [List.getElem?_drop] at hu; exact hu)⟩⟩)
          have RT := Lib.hid (show Row w none_ 1 (some ⟨b, o, none⟩) k c (l.map Value.string |>.take k) from ⟨by have := HL.out; simp; omega, by omega, by unfold maxLen; omega, fun hk0 => by
            obtain ⟨b', o', e, hb, hcc⟩ := HR.out.at_ (by omega)
            exact ⟨b', o', e, hb, fun j u hu => hcc j u (by rw [List.getElem?_take] at hu; split at hu; exact hu; cases hu)⟩⟩)
          have gd := insCalm_good w k x (l.map Value.string |>.take k)
          have ne := insCalm_some w k x (l.map Value.string |>.take k)
          refine wp_region_calm (insCalm w k x (l.map Value.string |>.take k)) [0, 1, 2, 3, 4, 5, 6, 7, 8, 9, 10] [11, 12] 45 (by kernel_rfl) (by kernel_rfl) rfl gd (Keep.refl _ _).drew ?_
          simp only [pairs, List.filterMap_cons, List.filterMap_nil, List.getElem?_toArray, List.getElem?_cons_succ, List.getElem?_cons_zero, Option.map_some]
          refine Calm.walk_eff rfl rfl (fun n w3 hn hG _ => ?_) ?_
          · have hG' : Keep none_ w w3 := hG
            unfold gives
            go_simp
            exact ⟨⟨w3.heap.size, hG'.size, rfl, Blk.new _ _ _⟩, (Keep.refl _ _).alloc _, hG'.alloc _, fun _ h => h.elim⟩
          intro vq w3 hT
          obtain ⟨q0, -, rfl, -⟩ : madeT w.heap.size 9 #[] (fun a => .slice (some a) 0 0) vq w3 := hT
          clear w3
          go_frame
          repeat (refine Calm.walk_quiet ne rfl rfl rfl (fun K hK => ?_); go_big_quiet_op; refine hK _ ?_; clear hK K)
          refine Calm.walk_eff rfl rfl (fun q w3 hn hG hAF => ?_) ?_
          · have hG' : Keep none_ w w3 := hG
            obtain ⟨g1, g2⟩ := madeT.slice (show madeT w.heap.size 9 #[] (fun a => .slice (some a) 0 0) (.slice (some ⟨q0, 0, none⟩) 0 0) w3 from (hAF 0 List.mem_cons_self _ rfl ⟨rfl, rfl⟩).1)
            refine gives_mono (gives_append_new (.tmp 33) (.tmp 36) 44 9 rfl w.heap.size k c q0 1 16 Tryz.underlying44 I1.out.1 I1.out.2.1 I1.out.2.2.1 I1.out.2.2.2.1 I1.out.2.2.2.2 (by decide) rfl g2 g1 (some ⟨b, o, none⟩) (l.map Value.string |>.take k) none_ rfl (RT.out.keep hG') (fun u hu => O1.out u (List.mem_of_mem_take hu)) (by omega) (by unfold maxLen; omega) hG'.size) ?_
            rintro v' w' ⟨hv, hk⟩
            exact ⟨hv, hk, hG'.trans hk, fun _ h => h.elim⟩
          intro vq w3 hT
          have hT' : w3.ownsRow w.heap.size 9 1 vq k (l.map Value.string |>.take k) := hT
          obtain ⟨A1, d1, rfl, -⟩ := own_row (S := none_) hT' (fun _ _ e => e)
          clear hT hT' w3
          go_frame
          repeat (refine Calm.walk_quiet ne rfl rfl rfl (fun K hK => ?_); go_big_quiet_op; refine hK _ ?_; clear hK K)
          refine Calm.walk_eff rfl rfl (fun q w3 hn hG _ => ?_) ?_
          · have hG' : Keep none_ w w3 := hG
            unfold gives
            go_simp
            exact ⟨⟨w3.heap.size, hG'.size, rfl, Blk.new _ _ _⟩, (Keep.refl _ _).alloc _, hG'.alloc _, fun _ h => h.elim⟩
          intro vq w3 hT
          obtain ⟨q1, -, rfl, -⟩ : madeT w.heap.size 9 #[.string x] (fun a => .slice (some a) 1 1) vq w3 := hT
          clear w3
          go_frame
          refine Calm.walk_eff rfl rfl (fun q w3 hn hG hAF => ?_) ?_
          · have hG' : Keep none_ w w3 := hG
            have f4 : w3.ownsRow w.heap.size 9 1 (.slice A1 k d1) k (l.map Value.string |>.take k) := (hAF 4 List.mem_cons_self _ rfl ⟨rfl, rfl⟩).1
            obtain ⟨g1, g2⟩ := madeT.slice (show madeT w.heap.size 9 #[.string x] (fun a => .slice (some a) 1 1) (.slice (some ⟨q1, 0, none⟩) 1 1) w3 from (hAF 6 (List.mem_cons_of_mem _ List.mem_cons_self) _ rfl ⟨rfl, rfl⟩).1)
            refine gives_mono (gives_append_pre (.tmp 37) (.tmp 39) 44 9 rfl w.heap.size 1 16 Tryz.underlying44 I1.out.1 I1.out.2.1 I1.out.2.2.1 I1.out.2.2.2.1 I1.out.2.2.2.2 (by decide) _ k _ rfl f4 (some ⟨q1, 0, none⟩) 1 1 [.string x] none_ rfl (g2.row (n := 1) (c := 1) (size := 1) rfl (Nat.le_refl _) (by decide) (fun e => e)) (fun u hu => by simp at hu; rw [hu]; rfl) (by omega) (by unfold maxLen; omega) hG'.size) ?_
            rintro v' w' ⟨hv, hk, hp⟩
            have hk2 : Keep (ge w.heap.size) w3 w' := hk.mono (fun r e => (f4.lt r e).1)
            exact ⟨hv, ⟨hk2, hp⟩, hG'.then hk2 (fun r e => .inr e), fun _ h => h.elim⟩
          intro vq w3 hT
          have hT' : w3.ownsRow w.heap.size 9 1 vq (k + 1) ((l.map Value.string |>.take k) ++ [.string x]) := hT
          obtain ⟨A2, d2, rfl, -⟩ := own_row (S := none_) hT' (fun _ _ e => e)
          clear hT hT' w3
          go_frame
          repeat (refine Calm.walk_quiet ne rfl rfl rfl (fun K hK => ?_); go_big_quiet_op; refine hK _ ?_; clear hK K)
          intro w9 hG hD
          have k9 : Keep none_ w w9 := hG
          have f7 : w9.ownsRow w.heap.size 9 1 (.slice A2 (k + 1) d2) (k + 1) ((l.map Value.string |>.take k) ++ [.string x]) := (hD.1 7 rfl _ rfl ⟨rfl, rfl⟩).1
          have F7 := Lib.hid f7
          have K9 := Lib.hid k9
          clear gd ne hG hD f7 k9
          simp only [pickOps, List.filterMap_cons, List.filterMap_nil, List.getElem?_toArray, List.getElem?_cons_succ, List.getElem?_cons_zero]
          refine wpList_plain rfl fun K hK => wp_of_gives (gives_append_pre (.tmp 40) (.tmp 43) 44 9 rfl w.heap.size 1 16 Tryz.underlying44 I1.out.1 I1.out.2.1 I1.out.2.2.1 I1.out.2.2.2.1 I1.out.2.2.2.2 (by decide) _ (k + 1) _ rfl F7.out (some ⟨b, o + k, none⟩) (n - k) (c - k) (l.map Value.string |>.drop k) none_ rfl (RD.out.keep K9.out) (fun u hu => O1.out u (List.mem_of_mem_drop hu)) (by omega) (by unfold maxLen; omega) K9.out.size) (fun v' w' h => hK _ _ ?_)
          obtain ⟨h1, h2, -⟩ := h
          obtain ⟨A3, d3, rfl, -⟩ := own_row (S := none_) h1 (fun _ _ e => e)
          have H1 := Lib.hid h1
          have K10 := Lib.hid (K9.out.then h2 (fun r e => .inr (F7.out.lt r e).1))
          clear h1 h2 hK K F7 K9 RD RT
          go_frame
          go_wp2
          go_ret
          refine ⟨_, rfl, (fun h => by rw [TH.out] at h; cases h), (fun _ => ?_), K10.out⟩
          have e1 : (insAt l x).map Value.string = (l.map Value.string |>.take k) ++ [.string x] ++ (l.map Value.string |>.drop k) := by
            unfold insAt
            rw [← PS.out.place]
            simp
          have e2 : (insAt l x).length = k + 1 + (n - k) := by have q1 := insAt_len l x; have q2 := HL.out; omega
          rw [e1, e2]
          exact H1.out
    · obtain rfl : k = n := by omega
      have PS := Lib.hid (Pos.of AS.out (by rw [HL.out]; exact Nat.le_refl _) HA.out (fun h => by rw [HL.out] at h; omega))
      have FD := Lib.hid (PS.out.found AS.out)
      have TH := Lib.hid (show there l x = false by unfold there; rw [← FD.out, decide_eq_false (show ¬ k < l.length by rw [HL.out]; omega)]; rfl)
      go_upto_region 6 with (fail)
      have RD := Lib.hid (show Row w none_ 1 (if c = k then A else A.map (fun x => x.add k)) (0) (c - k) (l.map Value.string |>.drop k) from ⟨by have := HL.out; rw [List.length_drop, List.length_map]; omega, by omega, by unfold maxLen; omega, fun hk0 => absurd hk0 (by omega)⟩)
      have RT := Lib.hid (show Row w none_ 1 A k c (l.map Value.string |>.take k) from by rw [List.take_of_length_le (by have := HL.out; rw [List.length_map]; omega)]; exact HR.out)
      have gd := insCalm_good w k x (l.map Value.string |>.take k)
      have ne := insCalm_some w k x (l.map Value.string |>.take k)
      refine wp_region_calm (insCalm w k x (l.map Value.string |>.take k)) [0, 1, 2, 3, 4, 5, 6, 7, 8, 9, 10] [11, 12] 45 (by kernel_rfl) (by kernel_rfl) rfl gd (Keep.refl _ _).drew ?_
      simp only [pairs, List.filterMap_cons, List.filterMap_nil, List.getElem?_toArray, List.getElem?_cons_succ, List.getElem?_cons_zero, Option.map_some]
      refine Calm.walk_eff rfl rfl (fun n w3 hn hG _ => ?_) ?_
      · have hG' : Keep none_ w w3 := hG
        unfold gives
        go_simp
        exact ⟨⟨w3.heap.size, hG'.size, rfl, Blk.new _ _ _⟩, (Keep.refl _ _).alloc _, hG'.alloc _, fun _ h => h.elim⟩
      intro vq w3 hT
      obtain ⟨q0, -, rfl, -⟩ : madeT w.heap.size 9 #[] (fun a => .slice (some a) 0 0) vq w3 := hT
      clear w3
      go_frame
      repeat (refine Calm.walk_quiet ne rfl rfl rfl (fun K hK => ?_); go_big_quiet_op; refine hK _ ?_; clear hK K)
      refine Calm.walk_eff rfl rfl (fun q w3 hn hG hAF => ?_) ?_
      · have hG' : Keep none_ w w3 := hG
        obtain ⟨g1, g2⟩ := madeT.slice (show madeT w.heap.size 9 #[] (fun a => .slice (some a) 0 0) (.slice (some ⟨q0, 0, none⟩) 0 0) w3 from (hAF 0 List.mem_cons_self _ rfl ⟨rfl, rfl⟩).1)
        refine gives_mono (gives_append_new (.tmp 33) (.tmp 36) 44 9 rfl w.heap.size k c q0 1 16 Tryz.underlying44 I1.out.1 I1.out.2.1 I1.out.2.2.1 I1.out.2.2.2.1 I1.out.2.2.2.2 (by decide) rfl g2 g1 (A) (l.map Value.string |>.take k) none_ rfl (RT.out.keep hG') (fun u hu => O1.out u (List.mem_of_mem_take hu)) (by omega) (by unfold maxLen; omega) hG'.size) ?_
        rintro v' w' ⟨hv, hk⟩
        exact ⟨hv, hk, hG'.trans hk, fun _ h => h.elim⟩
      intro vq w3 hT
      have hT' : w3.ownsRow w.heap.size 9 1 vq k (l.map Value.string |>.take k) := hT
      obtain ⟨A1, d1, rfl, -⟩ := own_row (S := none_) hT' (fun _ _ e => e)
      clear hT hT' w3
      go_frame
      repeat (refine Calm.walk_quiet ne rfl rfl rfl (fun K hK => ?_); go_big_quiet_op; refine hK _ ?_; clear hK K)
      refine Calm.walk_eff rfl rfl (fun q w3 hn hG _ => ?_) ?_
      · have hG' : Keep none_ w w3 := hG
        unfold gives
        go_simp
        exact ⟨⟨w3.heap.size, hG'.size, rfl, Blk.new _ _ _⟩, (Keep.refl _ _).alloc _, hG'.alloc _, fun _ h => h.elim⟩
      intro vq w3 hT
      obtain ⟨q1, -, rfl, -⟩ : madeT w.heap.size 9 #[.string x] (fun a => .slice (some a) 1 1) vq w3 := hT
      clear w3
      go_frame
      refine Calm.walk_eff rfl rfl (fun q w3 hn hG hAF => ?_) ?_
      · have hG' : Keep none_ w w3 := hG
        have f4 : w3.ownsRow w.heap.size 9 1 (.slice A1 k d1) k (l.map Value.string |>.take k) := (hAF 4 List.mem_cons_self _ rfl ⟨rfl, rfl⟩).1
        obtain ⟨g1, g2⟩ := madeT.slice (show madeT w.heap.size 9 #[.string x] (fun a => .slice (some a) 1 1) (.slice (some ⟨q1, 0, none⟩) 1 1) w3 from (hAF 6 (List.mem_cons_of_mem _ List.mem_cons_self) _ rfl ⟨rfl, rfl⟩).1)
        refine gives_mono (gives_append_pre (.tmp 37) (.tmp 39) 44 9 rfl w.heap.size 1 16 Tryz.underlying44 I1.out.1 I1.out.2.1 I1.out.2.2.1 I1.out.2.2.2.1 I1.out.2.2.2.2 (by decide) _ k _ rfl f4 (some ⟨q1, 0, none⟩) 1 1 [.string x] none_ rfl (g2.row (n := 1) (c := 1) (size := 1) rfl (Nat.le_refl _) (by decide) (fun e => e)) (fun u hu => by simp at hu; rw [hu]; rfl) (by omega) (by unfold maxLen; omega) hG'.size) ?_
        rintro v' w' ⟨hv, hk, hp⟩
        have hk2 : Keep (ge w.heap.size) w3 w' := hk.mono (fun r e => (f4.lt r e).1)
        exact ⟨hv, ⟨hk2, hp⟩, hG'.then hk2 (fun r e => .inr e), fun _ h => h.elim⟩
      intro vq w3 hT
      have hT' : w3.ownsRow w.heap.size 9 1 vq (k + 1) ((l.map Value.string |>.take k) ++ [.string x]) := hT
      obtain ⟨A2, d2, rfl, -⟩ := own_row (S := none_) hT' (fun _ _ e => e)
      clear hT hT' w3
      go_frame
      repeat (refine Calm.walk_quiet ne rfl rfl rfl (fun K hK => ?_); go_big_quiet_op; refine hK _ ?_; clear hK K)
      intro w9 hG hD
      have k9 : Keep none_ w w9 := hG
      have f7 : w9.ownsRow w.heap.size 9 1 (.slice A2 (k + 1) d2) (k + 1) ((l.map Value.string |>.take k) ++ [.string x]) := (hD.1 7 rfl _ rfl ⟨rfl, rfl⟩).1
      have F7 := Lib.hid f7
      have K9 := Lib.hid k9
      clear gd ne hG hD f7 k9
      simp only [pickOps, List.filterMap_cons, List.filterMap_nil, List.getElem?_toArray, List.getElem?_cons_succ, List.getElem?_cons_zero]
      refine wpList_plain rfl fun K hK => wp_of_gives (gives_append_pre (.tmp 40) (.tmp 43) 44 9 rfl w.heap.size 1 16 Tryz.underlying44 I1.out.1 I1.out.2.1 I1.out.2.2.1 I1.out.2.2.2.1 I1.out.2.2.2.2 (by decide) _ (k + 1) _ rfl F7.out (if c = k then A else A.map (fun x => x.add k)) (0) (c - k) (l.map Value.string |>.drop k) none_ rfl (RD.out.keep K9.out) (fun u hu => O1.out u (List.mem_of_mem_drop hu)) (by omega) (by unfold maxLen; omega) K9.out.size) (fun v' w' h => hK _ _ ?_)
      obtain ⟨h1, h2, -⟩ := h
      obtain ⟨A3, d3, rfl, -⟩ := own_row (S := none_) h1 (fun _ _ e => e)
      have H1 := Lib.hid h1
      have K10 := Lib.hid (K9.out.then h2 (fun r e => .inr (F7.out.lt r e).1))
      clear h1 h2 hK K F7 K9 RD RT
      go_frame
      go_wp2
      all_goals (
        go_ret
        refine ⟨_, rfl, (fun h => by rw [TH.out] at h; cases h), (fun _ => ?_), K10.out⟩
        have e1 : (insAt l x).map Value.string = (l.map Value.string |>.take k) ++ [.string x] ++ (l.map Value.string |>.drop k) := by
          unfold insAt
          rw [← PS.out.place]
          simp
        have e2 : (insAt l x).length = k + 1 + (0) := by have q1 := insAt_len l x; have q2 := HL.out; omega
        rw [e1, e2]
        exact H1.out)
end Go.Proofs.YtnefbeplgfdkkaaGreatDoor
