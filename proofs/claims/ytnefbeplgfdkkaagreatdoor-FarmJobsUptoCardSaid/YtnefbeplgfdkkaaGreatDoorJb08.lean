/-
  (State).copied: a state with lists of its own.
-/
import Derived.Test.YtnefbeplgfdkkaaGreatDoorJb06
namespace Go.Proofs.YtnefbeplgfdkkaaGreatDoor
open Go.RowKit

theorem own_base {w : World} {base base' : Nat} {e : TypeId} {size : Nat} {v : Value} {n : Nat} {xs : List Value} (h : w.ownsRow base e size v n xs) (hb : base' ≤ base) : w.ownsRow base' e size v n xs := by
  obtain ⟨h1, h2⟩ := h
  refine ⟨h1, h2.imp id ?_⟩
  rintro ⟨g, cap, cur, e1, e2, r⟩
  exact ⟨g, cap, cur, e1, Nat.le_trans hb e2, r⟩
/-- The facts of the three clones. -/
def copCalm (wr : World) (np nj nw : Nat) (c1 c2 c3 : List Value) : Calm where
  R := fun _ => Keep none_
  G := fun _ => Keep none_ wr
  eff := [4, 7, 10]
  T := fun k _ v w' => match k with
    | 4 => w'.ownsRow wr.heap.size 9 1 v np c1
    | 7 => w'.ownsRow wr.heap.size 57 7 v nj c2
    | _ => w'.ownsRow wr.heap.size 107 2 v nw c3
  anc := fun _ => []
  own := fun _ _ _ => False
theorem copCalm_good (wr : World) (np nj nw : Nat) (c1 c2 c3 : List Value) : (copCalm wr np nj nw c1 c2 c3).Good where
  mono := fun _ _ h => h
  size := fun _ _ _ h => h.size
  stable := fun _ k _ v w1 w2 _ _ h hR => by
    simp only [copCalm] at h ⊢
    split at h <;> exact own_keep (S := none_) h hR (fun _ _ e => e)
theorem copCalm_at {wr : World} {np nj nw : Nat} {c1 c2 c3 : List Value} (x : (copCalm wr np nj nw c1 c2 c3).Sub) : Keep none_ wr ((copCalm wr np nj nw c1 c2 c3).at_ x) := by
  obtain ⟨x, n, _, h⟩ := x
  exact h

def CopiedPost (now : Int) (np nj nw : Nat) (c1 c2 c3 : List Value) (w : World) (e : Ending) (w' : World) : Prop :=
  ∃ vp vj vw, e = .returned (.agg #[.int .i64 now, vp, vj, vw]) ∧ w'.ownsRow w.heap.size 9 1 vp np c1 ∧ w'.ownsRow w.heap.size 57 7 vj nj c2 ∧ w'.ownsRow w.heap.size 107 2 vw nw c3 ∧ Keep none_ w w'
theorem zero_state (w : World) : (zeroValue 48).run Tryz.prog w = .ok (.agg #[.int .i64 0, .slice none 0 0, .slice none 0 0, .slice none 0 0]) w := by kernel_rfl

set_option maxRecDepth 100000 in
set_option maxHeartbeats 400000 in
theorem copied_raw (now : Int) (Ap Aj Aw : Option Addr) (np cp nj cj nw cw : Nat) (c1 c2 c3 : List Value) (S : Nat → Prop) (w : World) (r1 : Row w S 1 Ap np cp c1) (r2 : Row w S 7 Aj nj cj c2) (r3 : Row w S 2 Aw nw cw c3)
    (p1 : ∀ u ∈ c1, u.oneCell' = true) (p2 : ∀ u ∈ c2, u.oneCell' = true) (p3 : ∀ u ∈ c3, u.oneCell' = true) (n1 : np ≤ 65536) (n2 : nj ≤ 65536) (n3 : nw ≤ 65536) :
    Calls Tryz.prog 52 #[.agg #[.int .i64 now, .slice Ap np cp, .slice Aj nj cj, .slice Aw nw cw]] w (CopiedPost now np nj nw c1 c2 c3 w) := by
  have R1 := Lib.hid r1
  have R2 := Lib.hid r2
  have R3 := Lib.hid r3
  have P1 := Lib.hid p1
  have P2 := Lib.hid p2
  have P3 := Lib.hid p3
  clear r1 r2 r3 p1 p2 p3
  obtain ⟨W0, hW0⟩ : ∃ W0, W0 = (w.alloc (.cells #[.int .i64 now, .slice Ap np cp, .slice Aj nj cj, .slice Aw nw cw] 48)).alloc (.cells #[.int .i64 0, .slice none 0 0, .slice none 0 0, .slice none 0 0] 48) := ⟨_, rfl⟩
  obtain ⟨b0, b1, k0⟩ := two (w := w) (t0 := 48) (c0 := #[.int .i64 now, .slice Ap np cp, .slice Aj nj cj, .slice Aw nw cw]) (t1 := 48) (c1 := #[.int .i64 0, .slice none 0 0, .slice none 0 0, .slice none 0 0]) (w1 := W0) (hW0 ▸ Keep.refl none_ W0)
  go_enter Tryz.func52, Tryz.ntmps52
  go_upto_region 1 with (fail)
  rw [← hW0]
  clear hW0
  have gd := copCalm_good W0 np nj nw c1 c2 c3
  have ne : Nonempty (copCalm W0 np nj nw c1 c2 c3).Sub := ⟨⟨W0, 0, Nat.zero_le _, Keep.refl _ _⟩⟩
  have x0 := fun x => (b0.keep (copCalm_at (np := np) (nj := nj) (nw := nw) (c1 := c1) (c2 := c2) (c3 := c3) x) (fun e => e)).cell 0
  have x1 := fun x => (b0.keep (copCalm_at (np := np) (nj := nj) (nw := nw) (c1 := c1) (c2 := c2) (c3 := c3) x) (fun e => e)).cell 1
  have x2 := fun x => (b0.keep (copCalm_at (np := np) (nj := nj) (nw := nw) (c1 := c1) (c2 := c2) (c3 := c3) x) (fun e => e)).cell 2
  have x3 := fun x => (b0.keep (copCalm_at (np := np) (nj := nj) (nw := nw) (c1 := c1) (c2 := c2) (c3 := c3) x) (fun e => e)).cell 3
  simp only [List.getElem?_toArray, List.getElem?_cons_zero, List.getElem?_cons_succ] at x0 x1 x2 x3
  refine wp_region_calm (copCalm W0 np nj nw c1 c2 c3) [0, 1, 2, 3, 4, 5, 6, 7, 8, 9, 10, 11] [12] 15 (by kernel_rfl) (by kernel_rfl) rfl gd (Keep.refl _ _).drew ?_
  simp only [pairs, List.filterMap_cons, List.filterMap_nil, List.getElem?_toArray, List.getElem?_cons_succ, List.getElem?_cons_zero, Option.map_some]
  repeat (refine Calm.walk_quiet ne rfl rfl rfl (fun K hK => ?_); go_big_quiet_op; refine hK _ ?_; clear hK K)
  refine Calm.walk_eff rfl rfl (fun n w3 hn hG _ => ?_) ?_
  · have hG' : Keep none_ W0 w3 := hG
    unfold gives
    go_simp
    refine (clone_strs Ap np cp c1 S w3 (R1.out.keep (k0.trans hG').weak) P1.out (by omega)).mono ?_
    rintro e w4 ⟨v, rfl, hv, hk⟩
    exact ⟨_, rfl, own_base hv hG'.size, hk, hG'.trans hk, fun _ h => h.elim⟩
  intro vp w3 hT
  have hT' : w3.ownsRow W0.heap.size 9 1 vp np c1 := hT
  obtain ⟨A1, d1, rfl, -⟩ := own_row (S := none_) hT' (fun _ _ e => e)
  clear hT hT' w3
  go_frame
  repeat (refine Calm.walk_quiet ne rfl rfl rfl (fun K hK => ?_); go_big_quiet_op; refine hK _ ?_; clear hK K)
  refine Calm.walk_eff rfl rfl (fun n w3 hn hG _ => ?_) ?_
  · have hG' : Keep none_ W0 w3 := hG
    unfold gives
    go_simp
    refine (clone_jobs Aj nj cj c2 S w3 (R2.out.keep (k0.trans hG').weak) P2.out (by omega)).mono ?_
    rintro e w4 ⟨v, rfl, hv, hk⟩
    exact ⟨_, rfl, own_base hv hG'.size, hk, hG'.trans hk, fun _ h => h.elim⟩
  intro vj w3 hT
  have hT' : w3.ownsRow W0.heap.size 57 7 vj nj c2 := hT
  obtain ⟨A2, d2, rfl, -⟩ := own_row (S := none_) hT' (fun _ _ e => e)
  clear hT hT' w3
  go_frame
  repeat (refine Calm.walk_quiet ne rfl rfl rfl (fun K hK => ?_); go_big_quiet_op; refine hK _ ?_; clear hK K)
  refine Calm.walk_eff rfl rfl (fun n w3 hn hG _ => ?_) ?_
  · have hG' : Keep none_ W0 w3 := hG
    unfold gives
    go_simp
    refine (clone_wks Aw nw cw c3 S w3 (R3.out.keep (k0.trans hG').weak) P3.out (by omega)).mono ?_
    rintro e w4 ⟨v, rfl, hv, hk⟩
    exact ⟨_, rfl, own_base hv hG'.size, hk, hG'.trans hk, fun _ h => h.elim⟩
  intro vw w3 hT
  have hT' : w3.ownsRow W0.heap.size 107 2 vw nw c3 := hT
  obtain ⟨A3, d3, rfl, -⟩ := own_row (S := none_) hT' (fun _ _ e => e)
  clear hT hT' w3
  go_frame
  refine Calm.walk_build 48 _ rfl ne rfl rfl #[.int .i64 now, .slice A1 np d1, .slice A2 nj d2, .slice A3 nw d3] (by kernel_rfl) ?_
  go_frame
  intro w3 hG hD
  have k03 : Keep none_ W0 w3 := hG
  have o1 : w3.ownsRow W0.heap.size 9 1 (.slice A1 np d1) np c1 := (hD.1 4 rfl _ rfl ⟨rfl, rfl⟩).1
  have o2 : w3.ownsRow W0.heap.size 57 7 (.slice A2 nj d2) nj c2 := (hD.1 7 rfl _ rfl ⟨rfl, rfl⟩).1
  have o3 : w3.ownsRow W0.heap.size 107 2 (.slice A3 nw d3) nw c3 := (hD.1 10 rfl _ rfl ⟨rfl, rfl⟩).1
  clear hD hG ne gd x0 x1 x2 x3
  simp only [pickOps, List.filterMap_cons, List.filterMap_nil, List.getElem?_toArray, List.getElem?_cons_succ, List.getElem?_cons_zero]
  refine wpList_store_blk rfl 48 (.tmp 2) (.tmp 14) rfl (w.heap.size + 1) 48 _ _ rfl rfl (b1.keep k03 (fun e => e)) rfl (by kernel_rfl) (by simp [Value.oneCell']) ?_
  intro w4 b4 k4 s4
  go_frame
  have l1 := b1.lt
  have far : ∀ b, W0.heap.size ≤ b → ¬ one (w.heap.size + 1) b := fun b h e => by unfold one at e; omega
  have q1 := own_keep o1 k4 (fun b hb => far b (o1.lt b hb).1)
  have q2 := own_keep o2 k4 (fun b hb => far b (o2.lt b hb).1)
  have q3 := own_keep o3 k4 (fun b hb => far b (o3.lt b hb).1)
  have lW : w.heap.size ≤ W0.heap.size := k0.size
  have kk : Keep none_ w w4 := (k0.trans k03).own k4 (by omega)
  go_wp2_with fail
  refine bodyPost_ret (v := .agg #[.int .i64 now, .slice A1 np d1, .slice A2 nj d2, .slice A3 nw d3]) (results_cell Tryz.results52 rfl (run_loadVar_blk b4 Tryz.underlying48 rfl (by kernel_rfl))) rfl ⟨_, _, _, rfl, own_base q1 lW, own_base q2 lW, own_base q3 lW, kk⟩
end Go.Proofs.YtnefbeplgfdkkaaGreatDoor
