/-
  (*bitio.Writer).Put.
-/
import Derived.Test.YtebdgoikmclflaaGreatDoorEb28
import Derived.Maps.AppendAt
namespace Go.Proofs.YtebdgoikmclflaaGreatDoor
open Go.RowKit

/-- The blocks of a writer: its variable and its bytes. -/
def wset (g : Nat) (v : Value) : Nat → Prop := fun b => b = g ∨ ofBlk v b
/-- A writer of n bits in block g, whose bytes are v. -/
def WrX (w : World) (g : Nat) (v : Value) (n : Nat) : Prop := Blk w g 195 #[v, .int .i64 n] ∧ ∃ xs, w.ownsRow 0 5 1 v ((n + 7) / 8) xs ∧ ∀ u ∈ xs, ∃ z : Int, u = .int .u8 z ∧ 0 ≤ z ∧ z ≤ 255
/-- What writing leaves: the writer's blocks alone have changed, and the bytes lie where they lay, or in new memory. -/
def Up (g : Nat) (v v' : Value) (w w' : World) : Prop := Keep (wset g v) w w' ∧ ∀ b, ofBlk v' b → ofBlk v b ∨ w.heap.size ≤ b
theorem Up.refl (g : Nat) (v : Value) (w : World) : Up g v v w w := ⟨Keep.refl _ _, fun _ h => .inl h⟩
theorem Up.trans {g : Nat} {v v1 v2 : Value} {w w1 w2 : World} (h : Up g v v1 w w1) (k : Up g v1 v2 w1 w2) : Up g v v2 w w2 :=
  ⟨h.1.then k.1 (fun b e => by
    rcases e with e | e
    · exact .inl (.inl e)
    · rcases h.2 b e with e | e
      · exact .inl (.inr e)
      · exact .inr e), fun b e => by
    rcases k.2 b e with e | e
    · exact h.2 b e
    · exact .inr (Nat.le_trans h.1.size e)⟩
theorem Up.keep {g : Nat} {v : Value} {w w1 : World} (k : Keep none_ w w1) : Up g v v w w1 := ⟨k.weak, fun _ e => .inl e⟩
theorem own_row' {w : World} {base : Nat} {e : TypeId} {size : Nat} {v : Value} {n : Nat} {xs : List Value} (h : w.ownsRow base e size v n xs) : ∃ A c, v = .slice A n c := by
  rcases h.2 with ⟨h1, h2⟩ | ⟨g, cap, cur, e1, -⟩
  · exact ⟨none, 0, by rw [h1, h2]⟩
  · exact ⟨_, _, e1⟩
theorem own_cases {w : World} {base : Nat} {e : TypeId} {size : Nat} {v : Value} {n : Nat} {xs : List Value} (h : w.ownsRow base e size v n xs) (hn : 0 < n) : ∃ b cap cur, v = .slice (some ⟨b, 0, none⟩) n cap ∧ base ≤ b ∧ Blk w b e cur ∧ n ≤ cap ∧ cap ≤ maxLen ∧ cur.size = cap * size ∧ cur.toList.take (n * size) = xs := by
  rcases h.2 with ⟨-, h0⟩ | ⟨g, cap, cur, e1, e2, e3, r⟩
  · omega
  · exact ⟨g, cap, cur, e1, e2, e3, r⟩
theorem own_set {w : World} {base : Nat} {e : TypeId} {size : Nat} {b n cap : Nat} {xs : List Value} (h : w.ownsRow base e size (.slice (some ⟨b, 0, none⟩) n cap) n xs) (i : Nat) (u : Value) : (w.setCell ⟨b, i, none⟩ u).ownsRow base e size (.slice (some ⟨b, 0, none⟩) n cap) n (xs.set i u) := by
  refine ⟨by rw [List.length_set]; exact h.1, ?_⟩
  rcases h.2 with ⟨h0, -⟩ | ⟨g, cap', cur, e1, e2, e3, r1, r2, r3, r4⟩
  · cases h0
  · simp only [Value.slice.injEq, Option.some.injEq, Addr.mk.injEq, and_true, true_and] at e1
    obtain ⟨rfl, rfl⟩ := e1
    refine .inr ⟨b, cap, cur.setIfInBounds i u, rfl, e2, Blk.set_ (g := b) e3 i u, r1, r2, by simpa using r3, ?_⟩
    rw [← r4, Array.toList_setIfInBounds, List.take_set]
section
variable {P : Program} {ops : Array Oper} {rest : List Oper} {op : Oper} {a : Act} {w : World} {Q : Exit → Act → World → Prop}
/-- 'append(s, x)' onto a row of the call's own: the new slice lies where the old one lay, or in new memory. -/
theorem wpList_append_at (s x : Operand) (t e : TypeId) (ho : op.op = .call { callee := .builtin .append, args := #[s, x], argTypes := #[t, t] }) (hgd : op.guard = none) (base : Nat) (zv : Value) (size bytes : Nat)
    (ht : P.underlying t = some (.slice e)) (hinfo : (P.info? e).map (fun i => (i.zero, i.size, i.bytes)) = some (some zv, size, bytes)) (hzs : zv.cells.size = size) (hsz : 0 < size)
    (v : Value) (n : Nat) (xs : List Value) (hs : a.eval s = v) (hown : w.ownsRow base e size v n xs) (b : Nat) (us : Array Value) (hx : a.eval x = .slice (some ⟨b, 0, none⟩) 1 1) (hb : Blk w b e us) (hus : us.size = size) (h1 : ∀ u ∈ us.toList, u.oneCell' = true)
    (hn : (n + 1) * (bytes + 1) ≤ 140737488355328) (hbase : base ≤ w.heap.size)
    (h : ∀ A' c' w', w'.ownsRow base e size (.slice A' (n + 1) c') (n + 1) (xs ++ us.toList) → Keep (ofBlk v) w w' → (∀ b, ofBlk (.slice A' (n + 1) c') b → ofBlk v b ∨ w.heap.size ≤ b) → wpList P ops Q rest (a.put op.dst (.slice A' (n + 1) c')) w') : wpList P ops Q (op :: rest) a w := by
  obtain ⟨i, hi, hz0, hz1, hz2⟩ := info_parts hinfo
  have hbb : (n + 1) * bytes ≤ (n + 1) * (bytes + 1) := Nat.mul_le_mul_left _ (by omega)
  have hnn : (n + 1) * 1 ≤ (n + 1) * (bytes + 1) := Nat.mul_le_mul_left _ (by omega)
  refine wpList_append_own_at w hgd s x t ho base e i zv size bytes ht hi hz0 hz1 hz2 hzs hsz v n xs hs hown ⟨b, 0, none⟩ 1 1 us.toList hx (by simp [hus]) (fun j u hu => ?_) h1 (by unfold maxLen; omega) (by omega) hbase fun v' w' h2 h3 _ h5 => ?_
  · rw [Addr.add_mid, Nat.zero_add, hb.cell]
    simpa using hu
  · obtain ⟨A', c', rfl⟩ := own_row' h2
    refine h A' c' w' h2 (Keep.ofGrown h3) (fun b hb => ?_)
    rcases h5 with h5 | h5
    · exact .inl (h5.symm.trans hb)
    · exact .inr (by have e : some w.heap.size = some b := h5.symm.trans hb; injection e with e; omega)
end
theorem ofBlk_ne {w : World} {v : Value} {n m g : Nat} {xs : List Value} {t e : TypeId} {cs : Array Value} (h : w.ownsRow m e 1 v n xs) (hb : Blk w g t cs) (hne : e ≠ t) : ¬ ofBlk v g := fun hx => by
  rcases h.2 with ⟨rfl, -⟩ | ⟨b, cap, cur, rfl, e2, e3, r⟩
  · cases hx
  · have e : b = g := by simpa [ofBlk, Value.ownBlock] using hx
    subst e
    exact (Blk.ne_ (g := b) (g' := b) e3 hb hne) rfl
theorem WrX.up {w w' : World} {g : Nat} {v : Value} {n : Nat} (h : WrX w g v n) (k : Keep none_ w w') : WrX w' g v n := by
  obtain ⟨h1, xs, h2, h3⟩ := h
  exact ⟨h1.keep k (fun e => e), xs, own_keep h2 k (fun _ _ e => e), h3⟩
/-- What Put leaves. -/
def PutPost (g : Nat) (v : Value) (n k : Nat) (w : World) (e : Ending) (w' : World) : Prop := ∃ v', e = .returned (.int .i64 0) ∧ WrX w' g v' (n + k) ∧ Up g v v' w w'
theorem bits_u8 (x y : Int) : 0 ≤ Go.bits BinOp.or IntKind.u8 x y ∧ Go.bits BinOp.or IntKind.u8 x y ≤ 255 := u8_range _
theorem own_froz {w : World} {base : Nat} {e : TypeId} {size : Nat} {b n cap : Nat} {xs : List Value} (h : w.ownsRow base e size (.slice (some ⟨b, 0, none⟩) n cap) n xs) (q : Nat) : w.frozen? ⟨b, q, none⟩ = false := by
  rcases h.2 with ⟨h0, -⟩ | ⟨g, cap', cur, e1, e2, e3, r⟩
  · cases h0
  · simp only [Value.slice.injEq, Option.some.injEq, Addr.mk.injEq, and_true, true_and] at e1
    obtain ⟨rfl, rfl⟩ := e1
    exact Blk.frozen (g := b) e3 q
/-- One more bit. -/
theorem wr_step {w : World} {g b q c m : Nat} {xs : List Value} (hb : Blk w g 195 #[.slice (some ⟨b, 0, none⟩) (q + 1) c, .int .i64 m]) (hr : w.ownsRow 0 5 1 (.slice (some ⟨b, 0, none⟩) (q + 1) c) (q + 1) xs) (hx : ∀ u ∈ xs, ∃ z : Int, u = .int .u8 z ∧ 0 ≤ z ∧ z ≤ 255) (hq : q = m / 8) (y : Int) (hy : 0 ≤ y ∧ y ≤ 255) :
    WrX ((w.setCell ⟨b, q, none⟩ (.int .u8 y)).setCell ⟨g, 1, none⟩ (.int .i64 ((m : Int) + 1))) g (.slice (some ⟨b, 0, none⟩) (q + 1) c) (m + 1) ∧ Up g (.slice (some ⟨b, 0, none⟩) (q + 1) c) (.slice (some ⟨b, 0, none⟩) (q + 1) c) w ((w.setCell ⟨b, q, none⟩ (.int .u8 y)).setCell ⟨g, 1, none⟩ (.int .i64 ((m : Int) + 1))) := by
  have hne : ¬ ofBlk (.slice (some ⟨b, 0, none⟩) (q + 1) c) g := ofBlk_ne hr hb (by decide)
  have hbg : b ≠ g := fun e => hne (by rw [← e]; rfl)
  have k1 : Keep (wset g (.slice (some ⟨b, 0, none⟩) (q + 1) c)) w (w.setCell ⟨b, q, none⟩ (.int .u8 y)) := (Keep.refl _ w).setCell (p := ⟨b, q, none⟩) (.inl (.inr rfl)) _
  have k2 : Keep (one g) (w.setCell ⟨b, q, none⟩ (.int .u8 y)) ((w.setCell ⟨b, q, none⟩ (.int .u8 y)).setCell ⟨g, 1, none⟩ (.int .i64 ((m : Int) + 1))) := (Keep.refl (one g) _).setCell (p := ⟨g, 1, none⟩) (.inl rfl) _
  have r1 := own_set hr q (.int .u8 y)
  have r2 := own_keep r1 k2 (fun x hx e => by cases e; exact hne hx)
  have b1 := hb.far (p := ⟨b, q, none⟩) (Ne.symm hbg) (.int .u8 y)
  have b2 := b1.set_ 1 (.int .i64 ((m : Int) + 1))
  refine ⟨⟨by simpa using b2, xs.set q (.int .u8 y), ?_, fun u hu => ?_⟩, k1.trans (k2.mono (fun _ e => .inl e)), fun _ h => .inl h⟩
  · rw [show (m + 1 + 7) / 8 = q + 1 by omega]
    exact r2
  · rcases List.mem_or_eq_of_mem_set hu with h | h
    · exact hx u h
    · exact ⟨y, h, hy⟩
set_option maxRecDepth 100000 in
set_option maxHeartbeats 1000000 in
theorem put00 (g : Nat) (v : Value) (n : Nat) (w : World) (h : WrX w g v n) : Calls Tryz.prog 94 #[.pointer (some ⟨g, 0, none⟩), .int .u32 0, .int .i64 0] w (PutPost g v n 0 w) := by
  have H := Lib.hid h
  clear h
  go_enter Tryz.func94, Tryz.ntmps94
  go_wp2_with (fail)
  go_loopw [24] (fun i wr => i = .int .i64 0 ∧ w = wr) (fun _ _ => 0)
  case atStart => exact ⟨rfl, by trivial⟩
  case round =>
    obtain ⟨rfl, rfl⟩ := hrel
    go_wp2
    go_ret
    exact ⟨v, rfl, H.out, Up.refl _ _ _⟩
set_option maxRecDepth 100000 in
set_option maxHeartbeats 4000000 in
theorem put11 (g : Nat) (v : Value) (n : Nat) (w : World) (h : WrX w g v n) (hn : n ≤ 1000) : Calls Tryz.prog 94 #[.pointer (some ⟨g, 0, none⟩), .int .u32 1, .int .i64 1] w (PutPost g v n 1 w) := by
  have H := Lib.hid h
  clear h
  go_enter Tryz.func94, Tryz.ntmps94
  go_wp2_with (fail)
  go_loopw [24] (fun i wr => ∃ k : Nat, k ≤ 1 ∧ i = .int .i64 k ∧ ∃ v', WrX wr g v' (n + k) ∧ Up g v v' w wr) (fun i _ => 1 - (intOf i).toNat)
  case atStart => exact ⟨0, by decide, rfl, v, H.out, Up.refl _ _ _⟩
  case round =>
    obtain ⟨k, hk, rfl, v', hw, hu⟩ := hrel
    have HW := Lib.hid hw
    have HU := Lib.hid hu
    clear hw hu
    by_cases hlt : k < 1
    · have hlt' : (k : Int) < 1 := by omega
      obtain ⟨m, hm⟩ : ∃ m : Nat, m = n + k := ⟨_, rfl⟩
      have MM := Lib.hid hm
      rw [← hm] at HW
      have m1 : m ≤ 1100 := by omega
      have m1' : (m : Int) ≤ 1100 := by omega
      clear hm
      have x1 : wr.cell? ⟨g, 1, none⟩ = some (.int .i64 m) := HW.out.1.cell 1
      obtain ⟨q, hq⟩ : ∃ q : Nat, q = m / 8 := ⟨_, rfl⟩
      obtain ⟨r, hr⟩ : ∃ r : Nat, r = m % 8 := ⟨_, rfl⟩
      have e1 : (m : Int) / 8 = (q : Int) := by omega
      have e2 : (m : Int) % 8 = (r : Int) := by omega
      have r8 : r < 8 := by omega
      have QR := Lib.hid (show q = m / 8 ∧ r = m % 8 from ⟨hq, hr⟩)
      clear hq hr
      by_cases h0 : r = 0
      · have h0' : (r : Int) = 0 := by omega
        have x0 : wr.cell? ⟨g, 0, none⟩ = some v' := HW.out.1.cell 0
        obtain ⟨xs, hrow, hxs⟩ := HW.out.2
        have ROW := Lib.hid hrow
        have XS := Lib.hid hxs
        have L0 := Lib.hid (show (m + 7) / 8 = q from by have := QR.out; omega)
        rw [L0.out] at ROW
        clear hrow hxs
        have t1 : True := trivial
        go_upto_region 10 with (have _t := t1; refine wpList_append_at (.tmp 37) (.tmp 38) 30 5 rfl rfl 0 (.int .u8 0) 1 1 Tryz.underlying30 u8_info rfl (by decide) v' q xs rfl (own_keep ROW.out ((Keep.refl none_ wr).alloc _) (fun _ _ e => e)) wr.heap.size #[.int .u8 0] rfl (Blk.new _ _ _) rfl (by simp [Value.oneCell']) (by omega) (Nat.zero_le _) ?_; intro A2 c2 w2 hrow2 hk2 hat2; have ROW2 := Lib.hid hrow2; have K2 := Lib.hid (show Keep (ofBlk v') wr w2 from ((Keep.refl none_ wr).alloc _).weak.trans hk2); have AT2 := Lib.hid (show ∀ b, ofBlk (.slice A2 (q + 1) c2) b → ofBlk v' b ∨ wr.heap.size ≤ b from fun b e => (hat2 b e).imp id (fun h => Nat.le_trans (Nat.le_of_lt (by simp)) h)); have B2 := Lib.hid (HW.out.1.keep K2.out (ofBlk_ne ROW.out HW.out.1 (by decide))); have c7 := B2.out.cell 0; have z7 := Blk.frozen B2.out 0; clear hrow2 hk2 hat2; go_frame; clear _t t1)
        obtain ⟨w3, hw3⟩ : ∃ w3, w3 = w2.setCell ⟨g, 0, none⟩ (.slice A2 (q + 1) c2) := ⟨_, rfl⟩
        rw [← hw3]
        obtain ⟨b, c, hbc⟩ : ∃ b c, (.slice A2 (q + 1) c2 : Value) = .slice (some ⟨b, 0, none⟩) (q + 1) c := by
          obtain ⟨b, cap, cur, e, -⟩ := own_cases ROW2.out (Nat.succ_pos _)
          exact ⟨b, cap, e⟩
        simp only [Value.slice.injEq, true_and] at hbc
        obtain ⟨rfl, rfl⟩ := hbc
        have fb := ofBlk_ne ROW2.out B2.out (by decide)
        have R3 := Lib.hid (show w3.ownsRow 0 5 1 (.slice (some ⟨b, 0, none⟩) (q + 1) c2) (q + 1) (xs ++ [.int .u8 0]) from by
          rw [hw3]
          exact own_keep ROW2.out ((Keep.refl (one g) w2).setCell (p := ⟨g, 0, none⟩) (.inl rfl) _) (fun x hx e => by cases e; exact fb hx))
        have X3 := Lib.hid (show ∀ u ∈ xs ++ [Value.int .u8 0], ∃ z : Int, u = .int .u8 z ∧ 0 ≤ z ∧ z ≤ 255 from fun u hu => by
          rcases List.mem_append.1 hu with h | h
          · exact XS.out u h
          · exact ⟨0, by simpa using h, by decide, by decide⟩)
        have B3 := Lib.hid (show Blk w3 g 195 #[.slice (some ⟨b, 0, none⟩) (q + 1) c2, .int .i64 m] from by
          rw [hw3]
          have h := B2.out.set_ 0 (.slice (some ⟨b, 0, none⟩) (q + 1) c2)
          simpa using h)
        have U3 := Lib.hid (show Up g v' (.slice (some ⟨b, 0, none⟩) (q + 1) c2) wr w3 from ⟨(K2.out.mono (fun b e => .inr e)).trans (by rw [hw3]; exact (Keep.refl (wset g v') w2).setCell (p := ⟨g, 0, none⟩) (.inl (.inl rfl)) _), AT2.out⟩)
        clear hw3 fb
        generalize xs ++ [Value.int .u8 0] = xs3 at R3 X3
        clear x0 x1 c7 z7
        have x0 : w3.cell? ⟨g, 0, none⟩ = some (.slice (some ⟨b, 0, none⟩) (q + 1) c2) := B3.out.cell 0
        have x1 : w3.cell? ⟨g, 1, none⟩ = some (.int .i64 m) := B3.out.cell 1
        obtain ⟨z, hz, z0, z1⟩ : ∃ z : Int, w3.cell? ⟨b, q, none⟩ = some (.int .u8 z) ∧ 0 ≤ z ∧ z ≤ 255 := by
          obtain ⟨b', cap, cur, e, -, hb, -, -, -, htake⟩ := own_cases R3.out (Nat.succ_pos _)
          simp only [Value.slice.injEq, Option.some.injEq, Addr.mk.injEq, and_true, true_and] at e
          obtain ⟨rfl, rfl⟩ := e
          have hl := R3.out.1
          have hq : q < xs3.length := by omega
          obtain ⟨u, hu⟩ : ∃ u, u = xs3[q] := ⟨_, rfl⟩
          obtain ⟨z, e, h0, h1⟩ := X3.out u (hu ▸ List.getElem_mem hq)
          refine ⟨z, ?_, h0, h1⟩
          rw [Blk.cell (g := b) hb, ← e]
          have h2 : xs3[q]? = some u := hu ▸ List.getElem?_eq_getElem hq
          rw [← htake, List.getElem?_take, if_pos (by omega)] at h2
          rw [← Array.getElem?_toList]
          exact h2
        have q1 : (q : Int) < (q : Int) + 1 := by omega
        have q3 : q < q + 1 := by omega
        go_upto_region 11 with (fail)
        try generalize Go.bits BinOp.and IntKind.u32 1 1 % 256 = bt
        have z8 := own_froz R3.out q
        have fb : b ≠ g := fun e => ofBlk_ne R3.out B3.out (by decide) (by rw [← e]; rfl)
        have xx : ∀ y, (w3.drew.setCell ⟨b, q, none⟩ y).cell? ⟨g, 1, none⟩ = some (.int .i64 m) := fun y => (B3.out.drew.far (p := ⟨b, q, none⟩) (Ne.symm fb) y).cell 1
        have zz : ∀ y, (w3.drew.setCell ⟨b, q, none⟩ y).frozen? ⟨g, 1, none⟩ = false := fun y => Blk.frozen (B3.out.drew.far (p := ⟨b, q, none⟩) (Ne.symm fb) y) 1
        have xx2 : ∀ y, (w3.setCell ⟨b, q, none⟩ y).cell? ⟨g, 1, none⟩ = some (.int .i64 m) := fun y => (B3.out.far (p := ⟨b, q, none⟩) (Ne.symm fb) y).cell 1
        have zz2 : ∀ y, (w3.setCell ⟨b, q, none⟩ y).frozen? ⟨g, 1, none⟩ = false := fun y => Blk.frozen (B3.out.far (p := ⟨b, q, none⟩) (Ne.symm fb) y) 1
        have ST := Lib.hid (fun y hy => wr_step (w := w3.drew) (g := g) (b := b) (q := q) (c := c2) (m := m) (xs := xs3) B3.out.drew (own_keep R3.out (Keep.refl none_ w3).drew (fun _ _ e => e)) X3.out QR.out.1 y hy)
        have NK := Lib.hid (show n + (k + 1) = m + 1 from by have := MM.out; omega)
        have UU := Lib.hid ((HU.out.trans U3.out).trans (Up.keep (Keep.refl none_ w3).drew))
        have gd := still_good (w3).drew
        have ne := still_some (w3).drew
        have hx := still_at (w3).drew
        refine wp_region_calm (stillCalm (w3).drew) [0, 1, 2, 3, 4, 5, 6, 7, 8, 9, 10, 11, 12, 13, 14, 15, 16, 17, 18, 19, 20] [21] 79 (by kernel_rfl) (by kernel_rfl) rfl gd rfl ?_
        simp only [pairs, List.filterMap_cons, List.filterMap_nil, List.getElem?_toArray, List.getElem?_cons_succ, List.getElem?_cons_zero, Option.map_some]
        repeat (refine Calm.walk_quiet ne rfl rfl rfl (fun K hK => ?_); go_big_quiet_op; refine hK _ ?_; clear hK K)
        intro w' hR _
        obtain rfl : w' = (w3).drew := hR.symm
        simp only [pickOps, List.filterMap_cons, List.filterMap_nil, List.getElem?_toArray, List.getElem?_cons_succ, List.getElem?_cons_zero]
        clear gd ne hx hR
        clear fb
        go_wp2
        go_roundw
        case rel =>
          refine ⟨k + 1, hlt, by go_num, .slice (some ⟨b, 0, none⟩) (q + 1) c2, ?_, ?_⟩
          · rw [NK.out]
            exact (ST.out _ (bits_u8 _ _)).1
          · exact UU.out.trans (ST.out _ (bits_u8 _ _)).2
        case measure => simp [intOf]; omega
      · have h0' : ¬ (r : Int) = 0 := by omega
        obtain ⟨xs3, hrow, hxs⟩ := HW.out.2
        have L0 := Lib.hid (show (m + 7) / 8 = q + 1 from by have := QR.out; omega)
        rw [L0.out] at hrow
        obtain ⟨b, c2, cur, rfl, -⟩ := own_cases hrow (Nat.succ_pos _)
        have R3 := Lib.hid hrow
        have X3 := Lib.hid hxs
        have B3 := Lib.hid HW.out.1
        have U3 := Lib.hid (Up.refl g (.slice (some ⟨b, 0, none⟩) (q + 1) c2) wr)
        clear hrow hxs
        go_upto_region 10 with (fail)
        clear x1
        have x0 : wr.cell? ⟨g, 0, none⟩ = some (.slice (some ⟨b, 0, none⟩) (q + 1) c2) := B3.out.cell 0
        have x1 : wr.cell? ⟨g, 1, none⟩ = some (.int .i64 m) := B3.out.cell 1
        obtain ⟨z, hz, z0, z1⟩ : ∃ z : Int, wr.cell? ⟨b, q, none⟩ = some (.int .u8 z) ∧ 0 ≤ z ∧ z ≤ 255 := by
          obtain ⟨b', cap, cur, e, -, hb, -, -, -, htake⟩ := own_cases R3.out (Nat.succ_pos _)
          simp only [Value.slice.injEq, Option.some.injEq, Addr.mk.injEq, and_true, true_and] at e
          obtain ⟨rfl, rfl⟩ := e
          have hl := R3.out.1
          have hq : q < xs3.length := by omega
          obtain ⟨u, hu⟩ : ∃ u, u = xs3[q] := ⟨_, rfl⟩
          obtain ⟨z, e, h0, h1⟩ := X3.out u (hu ▸ List.getElem_mem hq)
          refine ⟨z, ?_, h0, h1⟩
          rw [Blk.cell (g := b) hb, ← e]
          have h2 : xs3[q]? = some u := hu ▸ List.getElem?_eq_getElem hq
          rw [← htake, List.getElem?_take, if_pos (by omega)] at h2
          rw [← Array.getElem?_toList]
          exact h2
        have q1 : (q : Int) < (q : Int) + 1 := by omega
        have q3 : q < q + 1 := by omega
        go_upto_region 11 with (fail)
        try generalize Go.bits BinOp.and IntKind.u32 1 1 % 256 = bt
        have z8 := own_froz R3.out q
        have fb : b ≠ g := fun e => ofBlk_ne R3.out B3.out (by decide) (by rw [← e]; rfl)
        have xx : ∀ y, (wr.drew.setCell ⟨b, q, none⟩ y).cell? ⟨g, 1, none⟩ = some (.int .i64 m) := fun y => (B3.out.drew.far (p := ⟨b, q, none⟩) (Ne.symm fb) y).cell 1
        have zz : ∀ y, (wr.drew.setCell ⟨b, q, none⟩ y).frozen? ⟨g, 1, none⟩ = false := fun y => Blk.frozen (B3.out.drew.far (p := ⟨b, q, none⟩) (Ne.symm fb) y) 1
        have xx2 : ∀ y, (wr.setCell ⟨b, q, none⟩ y).cell? ⟨g, 1, none⟩ = some (.int .i64 m) := fun y => (B3.out.far (p := ⟨b, q, none⟩) (Ne.symm fb) y).cell 1
        have zz2 : ∀ y, (wr.setCell ⟨b, q, none⟩ y).frozen? ⟨g, 1, none⟩ = false := fun y => Blk.frozen (B3.out.far (p := ⟨b, q, none⟩) (Ne.symm fb) y) 1
        have ST := Lib.hid (fun y hy => wr_step (w := wr.drew) (g := g) (b := b) (q := q) (c := c2) (m := m) (xs := xs3) B3.out.drew (own_keep R3.out (Keep.refl none_ wr).drew (fun _ _ e => e)) X3.out QR.out.1 y hy)
        have NK := Lib.hid (show n + (k + 1) = m + 1 from by have := MM.out; omega)
        have UU := Lib.hid ((HU.out.trans U3.out).trans (Up.keep (Keep.refl none_ wr).drew))
        have gd := still_good (wr).drew
        have ne := still_some (wr).drew
        have hx := still_at (wr).drew
        refine wp_region_calm (stillCalm (wr).drew) [0, 1, 2, 3, 4, 5, 6, 7, 8, 9, 10, 11, 12, 13, 14, 15, 16, 17, 18, 19, 20] [21] 79 (by kernel_rfl) (by kernel_rfl) rfl gd rfl ?_
        simp only [pairs, List.filterMap_cons, List.filterMap_nil, List.getElem?_toArray, List.getElem?_cons_succ, List.getElem?_cons_zero, Option.map_some]
        repeat (refine Calm.walk_quiet ne rfl rfl rfl (fun K hK => ?_); go_big_quiet_op; refine hK _ ?_; clear hK K)
        intro w' hR _
        obtain rfl : w' = (wr).drew := hR.symm
        simp only [pickOps, List.filterMap_cons, List.filterMap_nil, List.getElem?_toArray, List.getElem?_cons_succ, List.getElem?_cons_zero]
        clear gd ne hx hR
        clear fb
        go_wp2
        go_roundw
        case rel =>
          refine ⟨k + 1, hlt, by go_num, .slice (some ⟨b, 0, none⟩) (q + 1) c2, ?_, ?_⟩
          · rw [NK.out]
            exact (ST.out _ (bits_u8 _ _)).1
          · exact UU.out.trans (ST.out _ (bits_u8 _ _)).2
        case measure => simp [intOf]; omega
    · obtain rfl : k = 1 := by omega
      go_wp2
      go_ret
      exact ⟨v', rfl, HW.out, HU.out⟩
set_option maxRecDepth 100000 in
set_option maxHeartbeats 4000000 in
theorem put85 (g : Nat) (v : Value) (n : Nat) (w : World) (h : WrX w g v n) (hn : n ≤ 1000) : Calls Tryz.prog 94 #[.pointer (some ⟨g, 0, none⟩), .int .u32 8, .int .i64 5] w (PutPost g v n 5 w) := by
  have H := Lib.hid h
  clear h
  go_enter Tryz.func94, Tryz.ntmps94
  go_wp2_with (fail)
  go_loopw [24] (fun i wr => ∃ k : Nat, k ≤ 5 ∧ i = .int .i64 k ∧ ∃ v', WrX wr g v' (n + k) ∧ Up g v v' w wr) (fun i _ => 5 - (intOf i).toNat)
  case atStart => exact ⟨0, by decide, rfl, v, H.out, Up.refl _ _ _⟩
  case round =>
    obtain ⟨k, hk, rfl, v', hw, hu⟩ := hrel
    have HW := Lib.hid hw
    have HU := Lib.hid hu
    clear hw hu
    by_cases hlt : k < 5
    · have hlt' : (k : Int) < 5 := by omega
      obtain ⟨m, hm⟩ : ∃ m : Nat, m = n + k := ⟨_, rfl⟩
      have MM := Lib.hid hm
      rw [← hm] at HW
      have m1 : m ≤ 1100 := by omega
      have m1' : (m : Int) ≤ 1100 := by omega
      clear hm
      have x1 : wr.cell? ⟨g, 1, none⟩ = some (.int .i64 m) := HW.out.1.cell 1
      obtain ⟨q, hq⟩ : ∃ q : Nat, q = m / 8 := ⟨_, rfl⟩
      obtain ⟨r, hr⟩ : ∃ r : Nat, r = m % 8 := ⟨_, rfl⟩
      have e1 : (m : Int) / 8 = (q : Int) := by omega
      have e2 : (m : Int) % 8 = (r : Int) := by omega
      have r8 : r < 8 := by omega
      have QR := Lib.hid (show q = m / 8 ∧ r = m % 8 from ⟨hq, hr⟩)
      clear hq hr
      by_cases h0 : r = 0
      · have h0' : (r : Int) = 0 := by omega
        have x0 : wr.cell? ⟨g, 0, none⟩ = some v' := HW.out.1.cell 0
        obtain ⟨xs, hrow, hxs⟩ := HW.out.2
        have ROW := Lib.hid hrow
        have XS := Lib.hid hxs
        have L0 := Lib.hid (show (m + 7) / 8 = q from by have := QR.out; omega)
        rw [L0.out] at ROW
        clear hrow hxs
        have t1 : True := trivial
        go_upto_region 10 with (have _t := t1; refine wpList_append_at (.tmp 37) (.tmp 38) 30 5 rfl rfl 0 (.int .u8 0) 1 1 Tryz.underlying30 u8_info rfl (by decide) v' q xs rfl (own_keep ROW.out ((Keep.refl none_ wr).alloc _) (fun _ _ e => e)) wr.heap.size #[.int .u8 0] rfl (Blk.new _ _ _) rfl (by simp [Value.oneCell']) (by omega) (Nat.zero_le _) ?_; intro A2 c2 w2 hrow2 hk2 hat2; have ROW2 := Lib.hid hrow2; have K2 := Lib.hid (show Keep (ofBlk v') wr w2 from ((Keep.refl none_ wr).alloc _).weak.trans hk2); have AT2 := Lib.hid (show ∀ b, ofBlk (.slice A2 (q + 1) c2) b → ofBlk v' b ∨ wr.heap.size ≤ b from fun b e => (hat2 b e).imp id (fun h => Nat.le_trans (Nat.le_of_lt (by simp)) h)); have B2 := Lib.hid (HW.out.1.keep K2.out (ofBlk_ne ROW.out HW.out.1 (by decide))); have c7 := B2.out.cell 0; have z7 := Blk.frozen B2.out 0; clear hrow2 hk2 hat2; go_frame; clear _t t1)
        obtain ⟨w3, hw3⟩ : ∃ w3, w3 = w2.setCell ⟨g, 0, none⟩ (.slice A2 (q + 1) c2) := ⟨_, rfl⟩
        rw [← hw3]
        obtain ⟨b, c, hbc⟩ : ∃ b c, (.slice A2 (q + 1) c2 : Value) = .slice (some ⟨b, 0, none⟩) (q + 1) c := by
          obtain ⟨b, cap, cur, e, -⟩ := own_cases ROW2.out (Nat.succ_pos _)
          exact ⟨b, cap, e⟩
        simp only [Value.slice.injEq, true_and] at hbc
        obtain ⟨rfl, rfl⟩ := hbc
        have fb := ofBlk_ne ROW2.out B2.out (by decide)
        have R3 := Lib.hid (show w3.ownsRow 0 5 1 (.slice (some ⟨b, 0, none⟩) (q + 1) c2) (q + 1) (xs ++ [.int .u8 0]) from by
          rw [hw3]
          exact own_keep ROW2.out ((Keep.refl (one g) w2).setCell (p := ⟨g, 0, none⟩) (.inl rfl) _) (fun x hx e => by cases e; exact fb hx))
        have X3 := Lib.hid (show ∀ u ∈ xs ++ [Value.int .u8 0], ∃ z : Int, u = .int .u8 z ∧ 0 ≤ z ∧ z ≤ 255 from fun u hu => by
          rcases List.mem_append.1 hu with h | h
          · exact XS.out u h
          · exact ⟨0, by simpa using h, by decide, by decide⟩)
        have B3 := Lib.hid (show Blk w3 g 195 #[.slice (some ⟨b, 0, none⟩) (q + 1) c2, .int .i64 m] from by
          rw [hw3]
          have h := B2.out.set_ 0 (.slice (some ⟨b, 0, none⟩) (q + 1) c2)
          simpa using h)
        have U3 := Lib.hid (show Up g v' (.slice (some ⟨b, 0, none⟩) (q + 1) c2) wr w3 from ⟨(K2.out.mono (fun b e => .inr e)).trans (by rw [hw3]; exact (Keep.refl (wset g v') w2).setCell (p := ⟨g, 0, none⟩) (.inl (.inl rfl)) _), AT2.out⟩)
        clear hw3 fb
        generalize xs ++ [Value.int .u8 0] = xs3 at R3 X3
        clear x0 x1 c7 z7
        have x0 : w3.cell? ⟨g, 0, none⟩ = some (.slice (some ⟨b, 0, none⟩) (q + 1) c2) := B3.out.cell 0
        have x1 : w3.cell? ⟨g, 1, none⟩ = some (.int .i64 m) := B3.out.cell 1
        obtain ⟨z, hz, z0, z1⟩ : ∃ z : Int, w3.cell? ⟨b, q, none⟩ = some (.int .u8 z) ∧ 0 ≤ z ∧ z ≤ 255 := by
          obtain ⟨b', cap, cur, e, -, hb, -, -, -, htake⟩ := own_cases R3.out (Nat.succ_pos _)
          simp only [Value.slice.injEq, Option.some.injEq, Addr.mk.injEq, and_true, true_and] at e
          obtain ⟨rfl, rfl⟩ := e
          have hl := R3.out.1
          have hq : q < xs3.length := by omega
          obtain ⟨u, hu⟩ : ∃ u, u = xs3[q] := ⟨_, rfl⟩
          obtain ⟨z, e, h0, h1⟩ := X3.out u (hu ▸ List.getElem_mem hq)
          refine ⟨z, ?_, h0, h1⟩
          rw [Blk.cell (g := b) hb, ← e]
          have h2 : xs3[q]? = some u := hu ▸ List.getElem?_eq_getElem hq
          rw [← htake, List.getElem?_take, if_pos (by omega)] at h2
          rw [← Array.getElem?_toList]
          exact h2
        have q1 : (q : Int) < (q : Int) + 1 := by omega
        have q3 : q < q + 1 := by omega
        go_upto_region 11 with (fail)
        try generalize Go.bits BinOp.and IntKind.u32 1 1 % 256 = bt
        have z8 := own_froz R3.out q
        have fb : b ≠ g := fun e => ofBlk_ne R3.out B3.out (by decide) (by rw [← e]; rfl)
        have xx : ∀ y, (w3.drew.setCell ⟨b, q, none⟩ y).cell? ⟨g, 1, none⟩ = some (.int .i64 m) := fun y => (B3.out.drew.far (p := ⟨b, q, none⟩) (Ne.symm fb) y).cell 1
        have zz : ∀ y, (w3.drew.setCell ⟨b, q, none⟩ y).frozen? ⟨g, 1, none⟩ = false := fun y => Blk.frozen (B3.out.drew.far (p := ⟨b, q, none⟩) (Ne.symm fb) y) 1
        have xx2 : ∀ y, (w3.setCell ⟨b, q, none⟩ y).cell? ⟨g, 1, none⟩ = some (.int .i64 m) := fun y => (B3.out.far (p := ⟨b, q, none⟩) (Ne.symm fb) y).cell 1
        have zz2 : ∀ y, (w3.setCell ⟨b, q, none⟩ y).frozen? ⟨g, 1, none⟩ = false := fun y => Blk.frozen (B3.out.far (p := ⟨b, q, none⟩) (Ne.symm fb) y) 1
        have ST := Lib.hid (fun y hy => wr_step (w := w3.drew) (g := g) (b := b) (q := q) (c := c2) (m := m) (xs := xs3) B3.out.drew (own_keep R3.out (Keep.refl none_ w3).drew (fun _ _ e => e)) X3.out QR.out.1 y hy)
        have NK := Lib.hid (show n + (k + 1) = m + 1 from by have := MM.out; omega)
        have UU := Lib.hid ((HU.out.trans U3.out).trans (Up.keep (Keep.refl none_ w3).drew))
        have gd := still_good (w3).drew
        have ne := still_some (w3).drew
        have hx := still_at (w3).drew
        refine wp_region_calm (stillCalm (w3).drew) [0, 1, 2, 3, 4, 5, 6, 7, 8, 9, 10, 11, 12, 13, 14, 15, 16, 17, 18, 19, 20] [21] 79 (by kernel_rfl) (by kernel_rfl) rfl gd rfl ?_
        simp only [pairs, List.filterMap_cons, List.filterMap_nil, List.getElem?_toArray, List.getElem?_cons_succ, List.getElem?_cons_zero, Option.map_some]
        repeat (refine Calm.walk_quiet ne rfl rfl rfl (fun K hK => ?_); go_big_quiet_op; refine hK _ ?_; clear hK K)
        intro w' hR _
        obtain rfl : w' = (w3).drew := hR.symm
        simp only [pickOps, List.filterMap_cons, List.filterMap_nil, List.getElem?_toArray, List.getElem?_cons_succ, List.getElem?_cons_zero]
        clear gd ne hx hR
        clear fb
        go_wp2
        go_roundw
        case rel =>
          refine ⟨k + 1, hlt, by go_num, .slice (some ⟨b, 0, none⟩) (q + 1) c2, ?_, ?_⟩
          · rw [NK.out]
            exact (ST.out _ (bits_u8 _ _)).1
          · exact UU.out.trans (ST.out _ (bits_u8 _ _)).2
        case measure => simp [intOf]; omega
      · have h0' : ¬ (r : Int) = 0 := by omega
        obtain ⟨xs3, hrow, hxs⟩ := HW.out.2
        have L0 := Lib.hid (show (m + 7) / 8 = q + 1 from by have := QR.out; omega)
        rw [L0.out] at hrow
        obtain ⟨b, c2, cur, rfl, -⟩ := own_cases hrow (Nat.succ_pos _)
        have R3 := Lib.hid hrow
        have X3 := Lib.hid hxs
        have B3 := Lib.hid HW.out.1
        have U3 := Lib.hid (Up.refl g (.slice (some ⟨b, 0, none⟩) (q + 1) c2) wr)
        clear hrow hxs
        go_upto_region 10 with (fail)
        clear x1
        have x0 : wr.cell? ⟨g, 0, none⟩ = some (.slice (some ⟨b, 0, none⟩) (q + 1) c2) := B3.out.cell 0
        have x1 : wr.cell? ⟨g, 1, none⟩ = some (.int .i64 m) := B3.out.cell 1
        obtain ⟨z, hz, z0, z1⟩ : ∃ z : Int, wr.cell? ⟨b, q, none⟩ = some (.int .u8 z) ∧ 0 ≤ z ∧ z ≤ 255 := by
          obtain ⟨b', cap, cur, e, -, hb, -, -, -, htake⟩ := own_cases R3.out (Nat.succ_pos _)
          simp only [Value.slice.injEq, Option.some.injEq, Addr.mk.injEq, and_true, true_and] at e
          obtain ⟨rfl, rfl⟩ := e
          have hl := R3.out.1
          have hq : q < xs3.length := by omega
          obtain ⟨u, hu⟩ : ∃ u, u = xs3[q] := ⟨_, rfl⟩
          obtain ⟨z, e, h0, h1⟩ := X3.out u (hu ▸ List.getElem_mem hq)
          refine ⟨z, ?_, h0, h1⟩
          rw [Blk.cell (g := b) hb, ← e]
          have h2 : xs3[q]? = some u := hu ▸ List.getElem?_eq_getElem hq
          rw [← htake, List.getElem?_take, if_pos (by omega)] at h2
          rw [← Array.getElem?_toList]
          exact h2
        have q1 : (q : Int) < (q : Int) + 1 := by omega
        have q3 : q < q + 1 := by omega
        go_upto_region 11 with (fail)
        try generalize Go.bits BinOp.and IntKind.u32 1 1 % 256 = bt
        have z8 := own_froz R3.out q
        have fb : b ≠ g := fun e => ofBlk_ne R3.out B3.out (by decide) (by rw [← e]; rfl)
        have xx : ∀ y, (wr.drew.setCell ⟨b, q, none⟩ y).cell? ⟨g, 1, none⟩ = some (.int .i64 m) := fun y => (B3.out.drew.far (p := ⟨b, q, none⟩) (Ne.symm fb) y).cell 1
        have zz : ∀ y, (wr.drew.setCell ⟨b, q, none⟩ y).frozen? ⟨g, 1, none⟩ = false := fun y => Blk.frozen (B3.out.drew.far (p := ⟨b, q, none⟩) (Ne.symm fb) y) 1
        have xx2 : ∀ y, (wr.setCell ⟨b, q, none⟩ y).cell? ⟨g, 1, none⟩ = some (.int .i64 m) := fun y => (B3.out.far (p := ⟨b, q, none⟩) (Ne.symm fb) y).cell 1
        have zz2 : ∀ y, (wr.setCell ⟨b, q, none⟩ y).frozen? ⟨g, 1, none⟩ = false := fun y => Blk.frozen (B3.out.far (p := ⟨b, q, none⟩) (Ne.symm fb) y) 1
        have ST := Lib.hid (fun y hy => wr_step (w := wr.drew) (g := g) (b := b) (q := q) (c := c2) (m := m) (xs := xs3) B3.out.drew (own_keep R3.out (Keep.refl none_ wr).drew (fun _ _ e => e)) X3.out QR.out.1 y hy)
        have NK := Lib.hid (show n + (k + 1) = m + 1 from by have := MM.out; omega)
        have UU := Lib.hid ((HU.out.trans U3.out).trans (Up.keep (Keep.refl none_ wr).drew))
        have gd := still_good (wr).drew
        have ne := still_some (wr).drew
        have hx := still_at (wr).drew
        refine wp_region_calm (stillCalm (wr).drew) [0, 1, 2, 3, 4, 5, 6, 7, 8, 9, 10, 11, 12, 13, 14, 15, 16, 17, 18, 19, 20] [21] 79 (by kernel_rfl) (by kernel_rfl) rfl gd rfl ?_
        simp only [pairs, List.filterMap_cons, List.filterMap_nil, List.getElem?_toArray, List.getElem?_cons_succ, List.getElem?_cons_zero, Option.map_some]
        repeat (refine Calm.walk_quiet ne rfl rfl rfl (fun K hK => ?_); go_big_quiet_op; refine hK _ ?_; clear hK K)
        intro w' hR _
        obtain rfl : w' = (wr).drew := hR.symm
        simp only [pickOps, List.filterMap_cons, List.filterMap_nil, List.getElem?_toArray, List.getElem?_cons_succ, List.getElem?_cons_zero]
        clear gd ne hx hR
        clear fb
        go_wp2
        go_roundw
        case rel =>
          refine ⟨k + 1, hlt, by go_num, .slice (some ⟨b, 0, none⟩) (q + 1) c2, ?_, ?_⟩
          · rw [NK.out]
            exact (ST.out _ (bits_u8 _ _)).1
          · exact UU.out.trans (ST.out _ (bits_u8 _ _)).2
        case measure => simp [intOf]; omega
    · obtain rfl : k = 5 := by omega
      go_wp2
      go_ret
      exact ⟨v', rfl, HW.out, HU.out⟩
end Go.Proofs.YtebdgoikmclflaaGreatDoor
