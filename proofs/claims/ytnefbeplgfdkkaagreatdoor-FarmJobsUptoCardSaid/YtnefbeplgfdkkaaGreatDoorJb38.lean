/-
  cutroomref37.insert into a long list; cutroomref37.needs.
-/
import Derived.Test.YtnefbeplgfdkkaaGreatDoorJb32
import Derived.Test.YtnefbeplgfdkkaaGreatDoorJb34
namespace Go.Proofs.YtnefbeplgfdkkaaGreatDoor
open Go.RowKit

set_option maxRecDepth 100000 in
set_option maxHeartbeats 1000000 in
theorem rinsert_big (l : List ByteArray) (x : ByteArray) (A : Option Addr) (n c : Nat) (S : Nat → Prop) (w : World) (ha : Asc l) (hbig : n ≤ 4294967296) (hr : Row w S 1 A n c (l.map Value.string)) :
    Calls Tryz.prog 67 #[.slice A n c, .string x] w (RInsPost l x (.slice A n c) w) := by
  have hl : l.length = n := by have := hr.len; simp at this; omega
  have hcap := hr.cap
  have hle := hr.le
  unfold maxLen at hcap
  have HL := Lib.hid hl
  have HR := Lib.hid hr.free
  have AS := Lib.hid ha
  obtain ⟨ie, z, hie, hz, hsi, hby, hzs⟩ := info_all (P := Tryz.prog) (t := 9) (n := 1) (b := 16) (by kernel_rfl)
  have I1 := Lib.hid (And.intro hie (And.intro hz (And.intro hsi (And.intro hby hzs))))
  have O1 := Lib.hid (show ∀ u ∈ l.map Value.string, u.oneCell' = true from fun u hu => by obtain ⟨y, -, rfl⟩ := List.mem_map.1 hu; rfl)
  clear hl hr ha hie hz hsi hby hzs
  go_enter Tryz.func67, Tryz.ntmps67
  go_wp2
  go_loop [5] (fun i => ∃ k : Nat, k ≤ n ∧ i = .int .i64 k ∧ ∀ j, j < k → strLt (l.getD j .empty) x = true) (fun i => n - (intOf i).toNat)
  case atStart => exact ⟨0, Nat.zero_le _, rfl, fun j h => absurd h (by omega)⟩
  case round =>
    obtain ⟨k, hk, rfl, hall⟩ := hrel
    have HA := Lib.hid hall
    clear hall
    by_cases hlt : k < n
    · obtain ⟨b, o, rfl, -, hc⟩ := HR.out.strs (by omega)
      have c0 := hc k hlt
      have hlt' : (k : Int) < n := by omega
      cases hs : strLt (l.getD k .empty) x with
      | true =>
        have hs' : Op.bytesLess (l.getD k .empty).toList x.toList = true := hs
        have NX := Lib.hid (show ∀ j, j < k + 1 → strLt (l.getD j .empty) x = true from fun j hj => by
          rcases Nat.lt_or_ge j k with h | h
          · exact HA.out j h
          · rw [show j = k by omega]; exact hs)
        generalize l.getD k .empty = y at c0 hs'
        clear hs hc
        go_wp2
        go_round
        case rel => exact ⟨k + 1, by omega, by go_num, NX.out⟩
        case measure => simp [intOf]; omega
      | false =>
        have hs' : Op.bytesLess (l.getD k .empty).toList x.toList = false := hs
        have PS := Lib.hid (Pos.of AS.out (by rw [HL.out]; exact hk) HA.out (fun _ => hs))
        have FD := Lib.hid (PS.out.found AS.out)
        cases he : strEq (l.getD k .empty) x with
        | true =>
          have he' : ((l.getD k .empty).toList == x.toList) = true := he
          have TH := Lib.hid (show there l x = true by unfold there; rw [← FD.out, he, decide_eq_true (show k < l.length by rw [HL.out]; exact hlt)]; rfl)
          generalize l.getD k .empty = y at c0 hs' he'
          clear hs hc he
          go_wp2
          go_ret
          exact ⟨_, rfl, (fun _ => rfl), (fun h => by rw [TH.out] at h; cases h), Keep.refl _ _⟩
        | false =>
          have he' : ((l.getD k .empty).toList == x.toList) = false := he
          have TH := Lib.hid (show there l x = false by unfold there; rw [← FD.out, he, Bool.and_false])
          generalize l.getD k .empty = y at c0 hs' he'
          clear hs hc he
          go_upto_region 6 with (fail)
          have RD := Lib.hid (show Row w none_ 1 (some ⟨b, o + k, none⟩) (n - k) (c - k) (l.map Value.string |>.drop k) from ⟨by have := HL.out; simp; omega, by omega, by unfold maxLen; omega, fun hk0 => by
            obtain ⟨b', o', e, hb, hcc⟩ := HR.out.at_ (by omega)
            injection e with e
            injection e with e1 e2
            subst e1 e2
            exact ⟨_, _, rfl, hb, fun j u hu => by rw [Nat.add_assoc]; exact hcc (k + j) u (by rw [List.getElem?_drop] at hu; exact hu)⟩⟩)
          have RT := Lib.hid (show Row w none_ 1 (some ⟨b, o, none⟩) k c (l.map Value.string |>.take k) from ⟨by have := HL.out; simp; omega, by omega, by unfold maxLen; omega, fun hk0 => by
            obtain ⟨b', o', e, hb, hcc⟩ := HR.out.at_ (by omega)
            exact ⟨b', o', e, hb, fun j u hu => hcc j u (by rw [List.getElem?_take] at hu; split at hu; exact hu; cases hu)⟩⟩)
          have gd := insCalm_good w k x (l.map Value.string |>.take k)
          have ne := insCalm_some w k x (l.map Value.string |>.take k)
          refine wp_region_calm (insCalm w k x (l.map Value.string |>.take k)) [0, 1, 2, 3, 4, 5, 6, 7, 8, 9, 10] [11, 12] 45 (by kernel_rfl) (by kernel_rfl) rfl gd (Keep.refl _ _).drew ?_
          simp only [pairs, List.filterMap_cons, List.filterMap_nil, List.getElem?_toArray, List.getElem?_cons_succ, List.getElem?_cons_zero, Option.map_some]
          refine Calm.walk_eff rfl rfl (fun n w3 hn hG _ => ?_) ?_
          · have hG' : Keep none_ w w3 := hG
            unfold gives
            go_simp
            exact ⟨⟨w3.heap.size, hG'.size, rfl, Blk.new _ _ _⟩, (Keep.refl _ _).alloc _, hG'.alloc _, fun _ h => h.elim⟩
          intro vq w3 hT
          obtain ⟨q0, -, rfl, -⟩ : madeT w.heap.size 9 #[] (fun a => .slice (some a) 0 0) vq w3 := hT
          clear w3
          go_frame
          repeat (refine Calm.walk_quiet ne rfl rfl rfl (fun K hK => ?_); go_big_quiet_op; refine hK _ ?_; clear hK K)
          refine Calm.walk_eff rfl rfl (fun q w3 hn hG hAF => ?_) ?_
          · have hG' : Keep none_ w w3 := hG
            obtain ⟨g1, g2⟩ := madeT.slice (show madeT w.heap.size 9 #[] (fun a => .slice (some a) 0 0) (.slice (some ⟨q0, 0, none⟩) 0 0) w3 from (hAF 0 List.mem_cons_self _ rfl ⟨rfl, rfl⟩).1)
            refine gives_mono (gives_append_new (.tmp 33) (.tmp 36) 44 9 rfl w.heap.size k c q0 1 16 Tryz.underlying44 I1.out.1 I1.out.2.1 I1.out.2.2.1 I1.out.2.2.2.1 I1.out.2.2.2.2 (by decide) rfl g2 g1 (some ⟨b, o, none⟩) (l.map Value.string |>.take k) none_ rfl (RT.out.keep hG') (fun u hu => O1.out u (List.mem_of_mem_take hu)) (by omega) (by unfold maxLen; omega) hG'.size) ?_
            rintro v' w' ⟨hv, hk⟩
            exact ⟨hv, hk, hG'.trans hk, fun _ h => h.elim⟩
          intro vq w3 hT
          have hT' : w3.ownsRow w.heap.size 9 1 vq k (l.map Value.string |>.take k) := hT
          obtain ⟨A1, d1, rfl, -⟩ := own_row (S := none_) hT' (fun _ _ e => e)
          clear hT hT' w3
          go_frame
          repeat (refine Calm.walk_quiet ne rfl rfl rfl (fun K hK => ?_); go_big_quiet_op; refine hK _ ?_; clear hK K)
          refine Calm.walk_eff rfl rfl (fun q w3 hn hG _ => ?_) ?_
          · have hG' : Keep none_ w w3 := hG
            unfold gives
            go_simp
            exact ⟨⟨w3.heap.size, hG'.size, rfl, Blk.new _ _ _⟩, (Keep.refl _ _).alloc _, hG'.alloc _, fun _ h => h.elim⟩
          intro vq w3 hT
          obtain ⟨q1, -, rfl, -⟩ : madeT w.heap.size 9 #[.string x] (fun a => .slice (some a) 1 1) vq w3 := hT
          clear w3
          go_frame
          refine Calm.walk_eff rfl rfl (fun q w3 hn hG hAF => ?_) ?_
          · have hG' : Keep none_ w w3 := hG
            have f4 : w3.ownsRow w.heap.size 9 1 (.slice A1 k d1) k (l.map Value.string |>.take k) := (hAF 4 List.mem_cons_self _ rfl ⟨rfl, rfl⟩).1
            obtain ⟨g1, g2⟩ := madeT.slice (show madeT w.heap.size 9 #[.string x] (fun a => .slice (some a) 1 1) (.slice (some ⟨q1, 0, none⟩) 1 1) w3 from (hAF 6 (List.mem_cons_of_mem _ List.mem_cons_self) _ rfl ⟨rfl, rfl⟩).1)
            refine gives_mono (gives_append_pre (.tmp 37) (.tmp 39) 44 9 rfl w.heap.size 1 16 Tryz.underlying44 I1.out.1 I1.out.2.1 I1.out.2.2.1 I1.out.2.2.2.1 I1.out.2.2.2.2 (by decide) _ k _ rfl f4 (some ⟨q1, 0, none⟩) 1 1 [.string x] none_ rfl (g2.row (n := 1) (c := 1) (size := 1) rfl (Nat.le_refl _) (by decide) (fun e => e)) (fun u hu => by simp at hu; rw [hu]; rfl) (by omega) (by unfold maxLen; omega) hG'.size) ?_
            rintro v' w' ⟨hv, hk, hp⟩
            have hk2 : Keep (ge w.heap.size) w3 w' := hk.mono (fun r e => (f4.lt r e).1)
            exact ⟨hv, ⟨hk2, hp⟩, hG'.then hk2 (fun r e => .inr e), fun _ h => h.elim⟩
          intro vq w3 hT
          have hT' : w3.ownsRow w.heap.size 9 1 vq (k + 1) ((l.map Value.string |>.take k) ++ [.string x]) := hT
          obtain ⟨A2, d2, rfl, -⟩ := own_row (S := none_) hT' (fun _ _ e => e)
          clear hT hT' w3
          go_frame
          repeat (refine Calm.walk_quiet ne rfl rfl rfl (fun K hK => ?_); go_big_quiet_op; refine hK _ ?_; clear hK K)
          intro w9 hG hD
          have k9 : Keep none_ w w9 := hG
          have f7 : w9.ownsRow w.heap.size 9 1 (.slice A2 (k + 1) d2) (k + 1) ((l.map Value.string |>.take k) ++ [.string x]) := (hD.1 7 rfl _ rfl ⟨rfl, rfl⟩).1
          have F7 := Lib.hid f7
          have K9 := Lib.hid k9
          clear gd ne hG hD f7 k9
          simp only [pickOps, List.filterMap_cons, List.filterMap_nil, List.getElem?_toArray, List.getElem?_cons_succ, List.getElem?_cons_zero]
          refine wpList_plain rfl fun K hK => wp_of_gives (gives_append_pre (.tmp 40) (.tmp 43) 44 9 rfl w.heap.size 1 16 Tryz.underlying44 I1.out.1 I1.out.2.1 I1.out.2.2.1 I1.out.2.2.2.1 I1.out.2.2.2.2 (by decide) _ (k + 1) _ rfl F7.out (some ⟨b, o + k, none⟩) (n - k) (c - k) (l.map Value.string |>.drop k) none_ rfl (RD.out.keep K9.out) (fun u hu => O1.out u (List.mem_of_mem_drop hu)) (by omega) (by unfold maxLen; omega) K9.out.size) (fun v' w' h => hK _ _ ?_)
          obtain ⟨h1, h2, -⟩ := h
          obtain ⟨A3, d3, rfl, -⟩ := own_row (S := none_) h1 (fun _ _ e => e)
          have H1 := Lib.hid h1
          have K10 := Lib.hid (K9.out.then h2 (fun r e => .inr (F7.out.lt r e).1))
          clear h1 h2 hK K F7 K9 RD RT
          go_frame
          go_wp2
          go_ret
          refine ⟨_, rfl, (fun h => by rw [TH.out] at h; cases h), (fun _ => ?_), K10.out⟩
          have e1 : (insAt l x).map Value.string = (l.map Value.string |>.take k) ++ [.string x] ++ (l.map Value.string |>.drop k) := by
            unfold insAt
            rw [← PS.out.place]
            simp
          have e2 : (insAt l x).length = k + 1 + (n - k) := by have q1 := insAt_len l x; have q2 := HL.out; omega
          rw [e1, e2]
          exact H1.out
    · obtain rfl : k = n := by omega
      have PS := Lib.hid (Pos.of AS.out (by rw [HL.out]; exact Nat.le_refl _) HA.out (fun h => by rw [HL.out] at h; omega))
      have FD := Lib.hid (PS.out.found AS.out)
      have TH := Lib.hid (show there l x = false by unfold there; rw [← FD.out, decide_eq_false (show ¬ k < l.length by rw [HL.out]; omega)]; rfl)
      go_upto_region 6 with (fail)
      have RD := Lib.hid (show Row w none_ 1 (if c = k then A else A.map (fun x => x.add k)) (0) (c - k) (l.map Value.string |>.drop k) from ⟨by have := HL.out; rw [List.length_drop, List.length_map]; omega, by omega, by unfold maxLen; omega, fun hk0 => absurd hk0 (by omega)⟩)
      have RT := Lib.hid (show Row w none_ 1 A k c (l.map Value.string |>.take k) from by rw [List.take_of_length_le (by have := HL.out; rw [List.length_map]; omega)]; exact HR.out)
      have gd := insCalm_good w k x (l.map Value.string |>.take k)
      have ne := insCalm_some w k x (l.map Value.string |>.take k)
      refine wp_region_calm (insCalm w k x (l.map Value.string |>.take k)) [0, 1, 2, 3, 4, 5, 6, 7, 8, 9, 10] [11, 12] 45 (by kernel_rfl) (by kernel_rfl) rfl gd (Keep.refl _ _).drew ?_
      simp only [pairs, List.filterMap_cons, List.filterMap_nil, List.getElem?_toArray, List.getElem?_cons_succ, List.getElem?_cons_zero, Option.map_some]
      refine Calm.walk_eff rfl rfl (fun n w3 hn hG _ => ?_) ?_
      · have hG' : Keep none_ w w3 := hG
        unfold gives
        go_simp
        exact ⟨⟨w3.heap.size, hG'.size, rfl, Blk.new _ _ _⟩, (Keep.refl _ _).alloc _, hG'.alloc _, fun _ h => h.elim⟩
      intro vq w3 hT
      obtain ⟨q0, -, rfl, -⟩ : madeT w.heap.size 9 #[] (fun a => .slice (some a) 0 0) vq w3 := hT
      clear w3
      go_frame
      repeat (refine Calm.walk_quiet ne rfl rfl rfl (fun K hK => ?_); go_big_quiet_op; refine hK _ ?_; clear hK K)
      refine Calm.walk_eff rfl rfl (fun q w3 hn hG hAF => ?_) ?_
      · have hG' : Keep none_ w w3 := hG
        obtain ⟨g1, g2⟩ := madeT.slice (show madeT w.heap.size 9 #[] (fun a => .slice (some a) 0 0) (.slice (some ⟨q0, 0, none⟩) 0 0) w3 from (hAF 0 List.mem_cons_self _ rfl ⟨rfl, rfl⟩).1)
        refine gives_mono (gives_append_new (.tmp 33) (.tmp 36) 44 9 rfl w.heap.size k c q0 1 16 Tryz.underlying44 I1.out.1 I1.out.2.1 I1.out.2.2.1 I1.out.2.2.2.1 I1.out.2.2.2.2 (by decide) rfl g2 g1 (A) (l.map Value.string |>.take k) none_ rfl (RT.out.keep hG') (fun u hu => O1.out u (List.mem_of_mem_take hu)) (by omega) (by unfold maxLen; omega) hG'.size) ?_
        rintro v' w' ⟨hv, hk⟩
        exact ⟨hv, hk, hG'.trans hk, fun _ h => h.elim⟩
      intro vq w3 hT
      have hT' : w3.ownsRow w.heap.size 9 1 vq k (l.map Value.string |>.take k) := hT
      obtain ⟨A1, d1, rfl, -⟩ := own_row (S := none_) hT' (fun _ _ e => e)
      clear hT hT' w3
      go_frame
      repeat (refine Calm.walk_quiet ne rfl rfl rfl (fun K hK => ?_); go_big_quiet_op; refine hK _ ?_; clear hK K)
      refine Calm.walk_eff rfl rfl (fun q w3 hn hG _ => ?_) ?_
      · have hG' : Keep none_ w w3 := hG
        unfold gives
        go_simp
        exact ⟨⟨w3.heap.size, hG'.size, rfl, Blk.new _ _ _⟩, (Keep.refl _ _).alloc _, hG'.alloc _, fun _ h => h.elim⟩
      intro vq w3 hT
      obtain ⟨q1, -, rfl, -⟩ : madeT w.heap.size 9 #[.string x] (fun a => .slice (some a) 1 1) vq w3 := hT
      clear w3
      go_frame
      refine Calm.walk_eff rfl rfl (fun q w3 hn hG hAF => ?_) ?_
      · have hG' : Keep none_ w w3 := hG
        have f4 : w3.ownsRow w.heap.size 9 1 (.slice A1 k d1) k (l.map Value.string |>.take k) := (hAF 4 List.mem_cons_self _ rfl ⟨rfl, rfl⟩).1
        obtain ⟨g1, g2⟩ := madeT.slice (show madeT w.heap.size 9 #[.string x] (fun a => .slice (some a) 1 1) (.slice (some ⟨q1, 0, none⟩) 1 1) w3 from (hAF 6 (List.mem_cons_of_mem _ List.mem_cons_self) _ rfl ⟨rfl, rfl⟩).1)
        refine gives_mono (gives_append_pre (.tmp 37) (.tmp 39) 44 9 rfl w.heap.size 1 16 Tryz.underlying44 I1.out.1 I1.out.2.1 I1.out.2.2.1 I1.out.2.2.2.1 I1.out.2.2.2.2 (by decide) _ k _ rfl f4 (some ⟨q1, 0, none⟩) 1 1 [.string x] none_ rfl (g2.row (n := 1) (c := 1) (size := 1) rfl (Nat.le_refl _) (by decide) (fun e => e)) (fun u hu => by simp at hu; rw [hu]; rfl) (by omega) (by unfold maxLen; omega) hG'.size) ?_
        rintro v' w' ⟨hv, hk, hp⟩
        have hk2 : Keep (ge w.heap.size) w3 w' := hk.mono (fun r e => (f4.lt r e).1)
        exact ⟨hv, ⟨hk2, hp⟩, hG'.then hk2 (fun r e => .inr e), fun _ h => h.elim⟩
      intro vq w3 hT
      have hT' : w3.ownsRow w.heap.size 9 1 vq (k + 1) ((l.map Value.string |>.take k) ++ [.string x]) := hT
      obtain ⟨A2, d2, rfl, -⟩ := own_row (S := none_) hT' (fun _ _ e => e)
      clear hT hT' w3
      go_frame
      repeat (refine Calm.walk_quiet ne rfl rfl rfl (fun K hK => ?_); go_big_quiet_op; refine hK _ ?_; clear hK K)
      intro w9 hG hD
      have k9 : Keep none_ w w9 := hG
      have f7 : w9.ownsRow w.heap.size 9 1 (.slice A2 (k + 1) d2) (k + 1) ((l.map Value.string |>.take k) ++ [.string x]) := (hD.1 7 rfl _ rfl ⟨rfl, rfl⟩).1
      have F7 := Lib.hid f7
      have K9 := Lib.hid k9
      clear gd ne hG hD f7 k9
      simp only [pickOps, List.filterMap_cons, List.filterMap_nil, List.getElem?_toArray, List.getElem?_cons_succ, List.getElem?_cons_zero]
      refine wpList_plain rfl fun K hK => wp_of_gives (gives_append_pre (.tmp 40) (.tmp 43) 44 9 rfl w.heap.size 1 16 Tryz.underlying44 I1.out.1 I1.out.2.1 I1.out.2.2.1 I1.out.2.2.2.1 I1.out.2.2.2.2 (by decide) _ (k + 1) _ rfl F7.out (if c = k then A else A.map (fun x => x.add k)) (0) (c - k) (l.map Value.string |>.drop k) none_ rfl (RD.out.keep K9.out) (fun u hu => O1.out u (List.mem_of_mem_drop hu)) (by omega) (by unfold maxLen; omega) K9.out.size) (fun v' w' h => hK _ _ ?_)
      obtain ⟨h1, h2, -⟩ := h
      obtain ⟨A3, d3, rfl, -⟩ := own_row (S := none_) h1 (fun _ _ e => e)
      have H1 := Lib.hid h1
      have K10 := Lib.hid (K9.out.then h2 (fun r e => .inr (F7.out.lt r e).1))
      clear h1 h2 hK K F7 K9 RD RT
      go_frame
      go_wp2
      all_goals (
        go_ret
        refine ⟨_, rfl, (fun h => by rw [TH.out] at h; cases h), (fun _ => ?_), K10.out⟩
        have e1 : (insAt l x).map Value.string = (l.map Value.string |>.take k) ++ [.string x] ++ (l.map Value.string |>.drop k) := by
          unfold insAt
          rw [← PS.out.place]
          simp
        have e2 : (insAt l x).length = k + 1 + (0) := by have q1 := insAt_len l x; have q2 := HL.out; omega
        rw [e1, e2]
        exact H1.out)

/-- A list of names of the call's own. -/
def OwnS (w : World) (lo : Nat) (v : Value) (l : List ByteArray) : Prop := w.ownsRow lo 9 1 v l.length (l.map Value.string)
theorem OwnS.keep {w w' : World} {lo : Nat} {v : Value} {l : List ByteArray} (h : OwnS w lo v l) (k : Keep none_ w w') : OwnS w' lo v l := own_keep h k (fun _ _ e => e)
theorem OwnS.nil (w : World) (lo : Nat) : OwnS w lo (.slice none 0 0) [] := ⟨rfl, .inl ⟨rfl, rfl⟩⟩

set_option maxRecDepth 100000 in
set_option maxHeartbeats 1000000 in
theorem needs_any : ∀ (d : Nat) (x : Ex) (cs : Array Value) (l : List ByteArray) (v : Value) (lo : Nat) (S : Nat → Prop) (w : World), ExAt d w S cs.toList x → OwnS w lo v l → lo ≤ w.heap.size → Asc l → l.length + (exMedia x).length ≤ 4294967295 →
    Calls Tryz.prog 37 #[v, .agg cs] w fun e w' => ∃ v', e = .returned v' ∧ OwnS w' lo v' ((exMedia x).foldl insN l) ∧ Keep none_ w w'
  | 0, _, _, _, _, _, _, _, h, _, _, _, _ => h.elim
  | d + 1, x, cs, l, v, lo, S, w, h, hv, hlo, hasc, hbd => by
    have IH := Lib.hid (needs_any d)
    obtain ⟨vl, ecs, hm, ht, ha⟩ := h
    obtain ⟨A, na, c, rfl, hc1, hc2, hl, -⟩ := (id ha : ElemsOf w S 8 (ExAt d w S) vl x.args)
    unfold maxLen at hc2
    obtain rfl : cs = #[.int .i64 x.op, .string x.media, .int .i64 x.frame, .int .i64 x.num, .int .i64 x.den, .int .i64 x.param, .string x.text, .slice A na c] := Array.toList_inj.1 ecs
    obtain ⟨W0, hW0⟩ : ∃ W0, W0 = w.alloc (.cells #[.int .i64 x.op, .string x.media, .int .i64 x.frame, .int .i64 x.num, .int .i64 x.den, .int .i64 x.param, .string x.text, .slice A na c] 89) := ⟨_, rfl⟩
    have k0 : Keep none_ w W0 := hW0 ▸ (Keep.refl _ _).alloc _
    have b0 : Blk W0 w.heap.size 89 #[.int .i64 x.op, .string x.media, .int .i64 x.frame, .int .i64 x.num, .int .i64 x.den, .int .i64 x.param, .string x.text, .slice A na c] := hW0 ▸ Blk.new _ _ _
    have c0 : W0.cell? ⟨w.heap.size, 0, none⟩ = some (.int .i64 x.op) := b0.cell 0
    have c1 : W0.cell? ⟨w.heap.size, 1, none⟩ = some (.string x.media) := b0.cell 1
    have HA := Lib.hid (ExsAt.keep ha k0.weak)
    have LW := Lib.hid hlo
    have LW0 := Lib.hid (Nat.le_trans hlo k0.size)
    have HV := Lib.hid (hv.keep k0)
    have B0 := Lib.hid b0
    have K0 := Lib.hid k0
    have HAS := Lib.hid hasc
    -- the list behind the media's own name
    obtain ⟨l0, hl0⟩ : ∃ l0, l0 = (if x.op = 1 then [x.media] else []).foldl insN l := ⟨_, rfl⟩
    have ANS := Lib.hid (show (exMedia x).foldl insN l = (exsMedia x.args).foldl insN l0 by rw [exMedia_eq, List.foldl_append, hl0])
    have AS0 := Lib.hid (show Asc l0 from hl0 ▸ asc_ins_all _ hasc)
    have LN0 := Lib.hid (show l0.length + (exsMedia x.args).length ≤ 4294967295 by
      rw [exMedia_eq, List.length_append] at hbd
      have := ins_all_len (if x.op = 1 then [x.media] else []) l
      rw [← hl0] at this
      omega)
    have hln : l.length ≤ 4294967295 := by omega
    obtain ⟨Av, cv, rfl, hvr⟩ := own_row (S := none_) (id hv : OwnS w lo v l) (fun _ _ e => e)
    have INS := Lib.hid (rinsert_big l x.media Av l.length cv none_ W0 hasc (by omega) (hvr.keep k0))
    have HL0 := Lib.hid hl0
    clear ha hv hvr b0 k0 ecs hm ht hasc hl0 hlo
    go_enter Tryz.func37, Tryz.ntmps37
    go_upto_region 1 with (fail)
    rw [← hW0]
    clear hW0
    go_upto_if 8 with (fail)
    go_cut [0] (fun y wx => OwnS wx lo y l0 ∧ Keep none_ W0 wx)
    case first =>
      by_cases h1 : x.op = 1
      · have E0 := Lib.hid (show l0 = insN l x.media by rw [HL0.out, if_pos h1]; rfl)
        have h1' : (x.op == 1) = true := beq_iff_eq.2 h1
        clear h1
        go_wp2_with (go_at_call 67; refine INS.out.mono ?_; rintro e w2 ⟨v2, rfl, i1, i2, k2⟩; have K2 := Lib.hid k2; have S2 := Lib.hid (show OwnS w2 lo v2 l0 from by
          rw [E0.out]
          unfold insN
          cases htt : there l x.media with
          | true =>
            rw [i1 htt]
            exact HV.out.keep k2
          | false =>
            exact own_base (i2 htt) LW0.out); clear k2 i1 i2)
        go_meet
        exact ⟨S2.out, K2.out⟩
      · have E0 := Lib.hid (show l0 = l by rw [HL0.out, if_neg h1]; rfl)
        have h1' : (x.op == 1) = false := beq_eq_false_iff_ne.2 h1
        clear h1
        go_wp2
        go_meet
        exact ⟨by rw [E0.out]; exact HV.out, Keep.refl _ _⟩
    case rest =>
      rename_i y
      obtain ⟨hy, hk⟩ := hcut
      have HY := Lib.hid hy
      have HA2 := Lib.hid (HA.out.keep hk.weak)
      have B2 := Lib.hid (B0.out.keep hk (fun e => e))
      have KK := Lib.hid (K0.out.trans hk)
      have LWC := Lib.hid hk.size
      clear hy hk c0 c1 INS HV HA B0 K0 HL0
      go_wp2_with (fail)
      go_loopw [0, 5] (fun u i wr => ∃ k : Nat, k ≤ na ∧ i = .int .i64 k ∧ OwnS wr lo u ((exsMedia (x.args.take k)).foldl insN l0) ∧ Keep none_ wc wr) (fun _ i _ => na - (intOf i).toNat)
      case atStart => exact ⟨0, Nat.zero_le _, rfl, HY.out, Keep.refl _ _⟩
      case round =>
        obtain ⟨k, hk, rfl, hu, hkr⟩ := hrel
        have HK := Lib.hid hkr
        have LWR := Lib.hid (Nat.le_trans LWC.out hkr.size)
        have HU := Lib.hid hu
        have c7 : wr.cell? ⟨w.heap.size, 7, none⟩ = some (.slice A na c) := (B2.out.keep hkr (fun e => e)).cell 7
        clear hu
        by_cases hlt : k < na
        · have hlt' : (k : Int) < na := by omega
          obtain ⟨b, o, rfl, -, hkl, cs, hcl, hrg, he⟩ := ElemsOf.elem (HA2.out.keep hkr.weak) k hlt
          have SN := Lib.hid (exsMedia_snoc hkl)
          have LNK := Lib.hid (show ((exsMedia (x.args.take k)).foldl insN l0).length + (exMedia x.args[k]).length ≤ 4294967295 by
            have e1 := ins_all_len (exsMedia (x.args.take k)) l0
            have e2 : (exsMedia (x.args.take k)).length + (exMedia x.args[k]).length ≤ (exsMedia x.args).length := by
              have := congrArg List.length (SN.out)
              rw [List.length_append] at this
              rw [← this]
              conv => rhs; rw [← List.take_append_drop (k + 1) x.args, exsMedia_append, List.length_append]
              omega
            have := LN0.out
            omega)
          generalize x.args[k] = y at he SN LNK
          obtain ⟨ca, rfl⟩ : ∃ ca : Array Value, cs = ca.toList := ⟨cs.toArray, by simp⟩
          have SZ := Lib.hid (show ca.size = 8 by simpa using hcl)
          have RG := Lib.hid hrg
          have CL := Lib.hid (IH.out y ca _ u0 lo S wr he HU.out (Nat.le_trans LW0.out LWR.out) (asc_ins_all _ AS0.out) LNK.out)
          clear hcl hrg he hkr
          have t3 : True := trivial
          go_wp2_with (first | (have _t := t3; refine wpList_load_part 89 (.tmp 24) rfl rfl b (o + k * 8) (by first | rfl | simp) ca _ RG.out Tryz.underlying89 rfl (by rw [SZ.out]; kernel_rfl) ?_; go_frame; clear _t t3) | (go_at_call 37; refine CL.out.mono ?_; rintro e w4 ⟨v4, rfl, h4, k4⟩; have H4 := Lib.hid h4; have K4 := Lib.hid (HK.out.trans k4); clear k4 h4))
          go_roundw
          case rel => exact ⟨k + 1, hlt, by go_num, by rw [SN.out, List.foldl_append]; exact H4.out, K4.out⟩
          case measure => simp [intOf]; omega
        · obtain rfl : na = k := by omega
          have Q := Lib.hid (show (exMedia x).foldl insN l = (exsMedia (x.args.take na)).foldl insN l0 by rw [ANS.out, List.take_of_length_le (by omega)])
          clear hkr hlt
          go_wp2
          go_ret
          exact ⟨_, rfl, by rw [Q.out]; exact HU.out, KK.out.trans HK.out⟩
end Go.Proofs.YtnefbeplgfdkkaaGreatDoor
