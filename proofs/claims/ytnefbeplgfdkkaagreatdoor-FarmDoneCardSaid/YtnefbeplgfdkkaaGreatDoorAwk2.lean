/-
  awake: the whole.
-/
import Derived.Test.YtnefbeplgfdkkaaGreatDoorAwk
namespace Go.Proofs.YtnefbeplgfdkkaaGreatDoor
open Go.RowKit

theorem zero_part (w : World) : (zeroValue 33).run Tryz.prog w = .ok (.agg #[.bool false, .int .i64 0, .int .i64 0, .string ⟨#[]⟩, .int .i64 0]) w := by kernel_rfl
theorem zero_plan (w : World) : (zeroValue 24).run Tryz.prog w = .ok (.agg #[.slice none 0 0]) w := by kernel_rfl
theorem zero_event (w : World) : (zeroValue 78).run Tryz.prog w = .ok (.agg #[.int .i64 0, .string ⟨#[]⟩, .string ⟨#[]⟩, .slice none 0 0, .int .i64 0, .slice none 0 0]) w := by kernel_rfl
theorem mk_expr (w : World) : (Instr.makeSlice 25 (.int .i64 1) (.int .i64 1)).run Tryz.prog w = .ok (.slice (some ⟨w.heap.size, 0, none⟩) 1 1) (w.alloc (.cells #[.int .i64 0, .string ⟨#[]⟩, .int .i64 0, .int .i64 0, .int .i64 0, .int .i64 0, .string ⟨#[]⟩, .slice none 0 0] 89)) := by kernel_rfl

/-! Lists of events that a literal has laid. -/
def All2 {α β : Type} (R : α → β → Prop) : List α → List β → Prop
  | [], [] => True
  | a :: xs, b :: ys => R a b ∧ All2 R xs ys
  | _, _ => False
theorem All2.get {α β : Type} {R : α → β → Prop} : ∀ {xs : List α} {ys : List β}, All2 R xs ys → xs.length = ys.length ∧ ∀ (i : Nat) (a : α) (b : β), xs[i]? = some a → ys[i]? = some b → R a b
  | [], [], _ => ⟨rfl, fun i a b h => by simp at h⟩
  | [], _ :: _, h => h.elim
  | _ :: _, [], h => h.elim
  | a :: xs, b :: ys, h => by
    obtain ⟨h1, h2⟩ := All2.get h.2
    refine ⟨by simp [h1], fun i x y hx hy => ?_⟩
    cases i with
    | zero =>
      simp at hx hy
      rw [← hx, ← hy]
      exact h.1
    | succ i => exact h2 i x y (by simpa using hx) (by simpa using hy)
theorem EvCs.len {w : World} {S : Nat → Prop} {cs : List Value} {e : Ev} (h : EvCs w S cs e) : cs.length = 6 := by
  obtain ⟨vn, vi, rfl, -, -⟩ := h
  rfl
theorem StrsOf.nil (w : World) (S : Nat → Prop) : StrsOf w S (.slice none 0 0) [] := ⟨none, 0, 0, rfl, row_nil _ _ _ _ _ (Nat.zero_le _)⟩
theorem EvCs.plain (w : World) (S : Nat → Prop) (k : Int) (x y : ByteArray) (t : Int) : EvCs w S [.int .i64 k, .string x, .string y, .slice none 0 0, .int .i64 t, .slice none 0 0] ⟨k, x, y, [], t, []⟩ := ⟨_, _, rfl, StrsOf.nil _ _, ItemsOf.nil _ _⟩
theorem EvsOf.own {w : World} {base : Nat} {v : Value} {css : List (List Value)} {l : List Ev} (h : w.ownsRow base 78 6 v l.length css.flatten) (h2 : All2 (EvCs w none_) css l) : EvsOf w none_ v l := by
  obtain ⟨A, c, rfl, hr⟩ := own_row (S := none_) h (fun _ _ e => e)
  obtain ⟨g1, g2⟩ := h2.get
  refine ElemsOf.of_row rfl g1 (fun x hx => ?_) hr g2
  obtain ⟨i, hi, rfl⟩ := List.mem_iff_getElem.1 hx
  exact EvCs.len (g2 i _ _ (List.getElem?_eq_getElem hi) (List.getElem?_eq_getElem (by rw [← g1]; exact hi)))
/-- A literal of events is a row of the call's own. -/
theorem own_events (W : World) (base n : Nat) (cs : Array Value) (hb : base ≤ W.heap.size) (hn : n ≤ 64) (hc : cs.size = n * 6) : (W.alloc (.cells cs 78)).ownsRow base 78 6 (.slice (some ⟨W.heap.size, 0, none⟩) n n) n cs.toList :=
  ⟨by simpa using hc, .inr ⟨W.heap.size, n, cs, rfl, hb, heap_alloc_new W _, Nat.le_refl _, by unfold maxLen; omega, hc, by rw [List.take_of_length_le (by simp [hc])]⟩⟩

def evsA : List Ev := [⟨4, ⟨#[]⟩, ⟨#[119]⟩, [], 0, []⟩, ⟨6, ⟨#[]⟩, ⟨#[119]⟩, [], 0, []⟩]
theorem V.zero : V zeroSt := (valid_iff _).1 (by kernel_rfl)
theorem ItsOk.zero : ItsOk zeroSt := fun _ h => (by cases h)
set_option maxRecDepth 100000 in
set_option maxHeartbeats 1000000 in
theorem awake_any (w : World) : Calls Tryz.prog 14 #[] w fun e w' => e = .returned (.bool true) ∧ Keep none_ w w' := by
  have zp := zero_part
  have zl := zero_plan
  have ze := zero_event
  have zs := zero_state
  have mx := mk_expr
  obtain ⟨W1, hW1⟩ : ∃ W1, W1 = (w.alloc (.cells #[.bool true, .int .i64 0, .int .i64 1, .string ⟨#[97]⟩, .int .i64 0] 33)).alloc (.cells #[.int .i64 0, .string ⟨#[]⟩, .int .i64 0, .int .i64 0, .int .i64 0, .int .i64 0, .string ⟨#[]⟩, .slice none 0 0] 89) := ⟨_, rfl⟩
  obtain ⟨b0, b1, k0⟩ := two (w := w) (t0 := 33) (c0 := #[.bool true, .int .i64 0, .int .i64 1, .string ⟨#[97]⟩, .int .i64 0]) (t1 := 89) (c1 := #[.int .i64 0, .string ⟨#[]⟩, .int .i64 0, .int .i64 0, .int .i64 0, .int .i64 0, .string ⟨#[]⟩, .slice none 0 0]) (w1 := W1) (hW1 ▸ Keep.refl none_ W1)
  have H1 := jobs_one w.heap.size (w.heap.size + 1) W1 b0 b1
  rw [hW1] at H1
  have JB := Lib.hid H1
  have K0 := Lib.hid k0
  have HW1 := Lib.hid hW1
  clear hW1 H1 b0 b1 k0
  go_enter Tryz.func14, Tryz.ntmps14
  have t1 : True := trivial
  go_upto_region 2 with (have _t := t1; go_at_call 9; refine JB.out.mono ?_; rintro e w2 ⟨rfl, k2⟩; have K2 := Lib.hid k2; clear k2 _t t1)
  have k02 : Keep none_ w w2 := K0.out.trans (by rw [HW1.out]; exact K2.out)
  have K02 := Lib.hid k02
  clear k02 K0 K2 JB HW1 zp zl mx
  have RN := Lib.hid (run_any zeroSt evsA _ _ none_ none_ (w2.alloc (.cells #[.int .i64 4, .string ⟨#[]⟩, .string ⟨#[119]⟩, .slice none 0 0, .int .i64 0, .slice none 0 0, .int .i64 6, .string ⟨#[]⟩, .string ⟨#[119]⟩, .slice none 0 0, .int .i64 0, .slice none 0 0] 78)) (zeroSt_of _ _) (EvsOf.own (base := 0) (css := [[.int .i64 4, .string ⟨#[]⟩, .string ⟨#[119]⟩, .slice none 0 0, .int .i64 0, .slice none 0 0], [.int .i64 6, .string ⟨#[]⟩, .string ⟨#[119]⟩, .slice none 0 0, .int .i64 0, .slice none 0 0]]) (own_events w2 0 2 #[.int .i64 4, .string ⟨#[]⟩, .string ⟨#[119]⟩, .slice none 0 0, .int .i64 0, .slice none 0 0, .int .i64 6, .string ⟨#[]⟩, .string ⟨#[119]⟩, .slice none 0 0, .int .i64 0, .slice none 0 0] (Nat.zero_le _) (by decide) rfl) ⟨EvCs.plain _ _ _ _ _ _, EvCs.plain _ _ _ _ _ _, trivial⟩) V.zero ItsOk.zero (by
    intro e he
    simp only [evsA, List.mem_cons, List.not_mem_nil, or_false] at he
    rcases he with rfl | rfl <;> exact ItOk.nil) (by decide))
  have EA := Lib.hid (show goE zeroSt evsA = [0, 0] by kernel_rfl)
  have EB := Lib.hid (show (goS zeroSt evsA).workers.length = 1 by kernel_rfl)
  have t2 : True := trivial
  have t3 : True := trivial
  go_upto_region 3 with (first | (have _t := t2; go_at_call 27; refine RN.out.mono ?_; rintro e w3 ⟨v3, vo3, ve3, rfl, h3, o3, e3, k3⟩; rw [EA.out] at e3; have K3 := Lib.hid k3; obtain ⟨p6, j6, q6, rfl, g1, g2, g3⟩ := h3; obtain ⟨P1, P2, P3, rfl, -⟩ := g1; obtain ⟨P4, P5, P6, rfl, -⟩ := g2; obtain ⟨P7, P8, P9, rfl, a1, a2, a3, -⟩ := g3; obtain ⟨O1, O2, rfl, -⟩ := o3; obtain ⟨X1, X2, rfl, r3⟩ := e3; rw [EB.out] at a3; subst a3; have R3 := Lib.hid r3; clear k3 _t t2 r3 a1 a2) | (have _t := t3; refine wpList_store_blk rfl 48 (.tmp 3) (.tmp 20) rfl w3.heap.size 48 _ _ rfl rfl (Blk.new _ _ _) rfl (by kernel_rfl) (by simp [Value.oneCell']) ?_; intro w4 b4 k4 s4; go_frame; clear _t t3))
  have k34 : Keep none_ w3 w4 := ((Keep.refl none_ w3).alloc _).own k4 (Nat.le_refl _)
  have y3 := b4.cell 3
  simp only [List.getElem?_toArray, List.getElem?_cons_zero, List.getElem?_cons_succ] at y3
  obtain ⟨bx, ox, rfl, -, hx⟩ := R3.out.at_ (by decide)
  have c0 : w4.cell? ⟨bx, ox, none⟩ = some (.int .i64 0) := k34.cell (hx 0 (.int .i64 0) rfl) (fun e => e)
  have c1 := k34.cell (hx 1 (.int .i64 0) rfl) (fun e => e)
  have JN := Lib.hid (jobName_12 w4)
  have K4 := Lib.hid (K02.out.trans ((((Keep.refl none_ w2).alloc _).trans K3.out).trans k34))
  have x1 := R3.out.cap
  have x2 := R3.out.le
  unfold maxLen at x1
  simp only [List.length_cons, List.length_nil] at x2
  clear RN b4 k4 s4 k34 R3 hx
  have t4 : True := trivial
  go_wp2_with (have _t := t4; go_at_call 12; refine JN.out.mono ?_; rintro e w5 ⟨rfl, k5⟩; have z0 := k5.cell c0 (fun e => e); have z1 := k5.cell c1 (fun e => e); have z3 := k5.cell y3 (fun e => e); have K5 := Lib.hid k5; clear k5 _t t4)
  go_ret
  exact ⟨by kernel_rfl, K4.out.trans K5.out⟩
end Go.Proofs.YtnefbeplgfdkkaaGreatDoor
