/-
  (State).copied and clone, at a state whose lists are small and whose items are plain.
-/
import Derived.Test.YtnefbeplgfdkkaaGreatDoorJb11
import Derived.Test.YtnefbeplgfdkkaaGreatDoorJb09
namespace Go.Proofs.YtnefbeplgfdkkaaGreatDoor
open Go.RowKit

structure Small (s : St) : Prop where
  p : s.present.length ≤ 64
  j : s.jobs.length ≤ 64
  w : s.workers.length ≤ 64
theorem wk_rows {css : List (List Value)} {l : List Wk} (hl : css.length = l.length) (h : ∀ (i : Nat) (cs : List Value) (x : Wk), css[i]? = some cs → l[i]? = some x → WkOf cs x) : css.flatten = wkCells l := by
  rw [wkCells_eq]
  congr 1
  apply List.ext_getElem (by simp [hl])
  intro i h1 h2
  rw [List.getElem_map]
  exact h i _ _ (List.getElem?_eq_getElem h1) (List.getElem?_eq_getElem (by rw [← hl]; exact h1))
/-- A row of jobs of the call's own; what they need and have made lies outside S. -/
def RowJobs (w : World) (base : Nat) (S : Nat → Prop) (v : Value) (l : List Jb) : Prop :=
  ∃ css : List (List Value), css.length = l.length ∧ (∀ x ∈ css, x.length = 7) ∧ w.ownsRow base 57 7 v l.length css.flatten ∧ ∀ (i : Nat) (cs : List Value) (x : Jb), css[i]? = some cs → l[i]? = some x → JbOf w S cs x
def CopyPost (S : Nat → Prop) (s : St) (w : World) (e : Ending) (w' : World) : Prop :=
  ∃ vp vj vw, e = .returned (.agg #[.int .i64 s.now, vp, vj, vw]) ∧ w'.ownsRow w.heap.size 9 1 vp s.present.length (s.present.map Value.string) ∧ RowJobs w' w.heap.size S vj s.jobs ∧ w'.ownsRow w.heap.size 107 2 vw s.workers.length (wkCells s.workers) ∧ Keep none_ w w'
theorem copied_in (s : St) (vp vj vw : Value) (S : Nat → Prop) (w : World) (hp : StrsOf w none_ vp s.present) (hj : ElemsOf w none_ 7 (JbOf w S) vj s.jobs) (hw : WorkersOf w none_ vw s.workers) (hs : Small s) : Calls Tryz.prog 52 #[.agg #[.int .i64 s.now, vp, vj, vw]] w (CopyPost S s w) := by
  obtain ⟨Ap, np, cp, rfl, rp⟩ := hp
  obtain ⟨Aj, nj, cj, cssj, rfl, lj, clj, csj, rj, Rj⟩ := ElemsOf.rows hj (by decide)
  obtain ⟨Aw, nw, cw, cssw, rfl, lw, clw, csw, rw_, Rw⟩ := ElemsOf.rows hw (by decide)
  have ew := wk_rows (by omega) Rw
  have lp : s.present.length = np := by have := rp.len; simp at this; omega
  have p1 := hs.p
  have p2 := hs.j
  have p3 := hs.w
  refine (copied_raw s.now Ap Aj Aw np cp nj cj nw cw _ _ _ _ w rp rj rw_ (fun u hu => ?_) (fun u hu => ?_) (fun u hu => ?_) (by omega) (by omega) (by omega)).mono ?_
  · obtain ⟨x, -, rfl⟩ := List.mem_map.1 hu
    rfl
  · obtain ⟨cs, hcs, hu⟩ := List.mem_flatten.1 hu
    obtain ⟨i, hi, rfl⟩ := List.mem_iff_getElem.1 hcs
    obtain ⟨vn, vi, e, hn, hit⟩ := Rj i _ _ (List.getElem?_eq_getElem hi) (List.getElem?_eq_getElem (by omega))
    rw [e] at hu
    obtain ⟨A1, n1, c1, rfl, -⟩ := hn
    obtain ⟨A2, n2, c2, rfl, -⟩ := hit
    simp only [List.mem_cons, List.not_mem_nil, or_false] at hu
    rcases hu with rfl | rfl | rfl | rfl | rfl | rfl | rfl <;> rfl
  · obtain ⟨cs, hcs, hu⟩ := List.mem_flatten.1 hu
    obtain ⟨i, hi, rfl⟩ := List.mem_iff_getElem.1 hcs
    have e := Rw i _ _ (List.getElem?_eq_getElem hi) (List.getElem?_eq_getElem (by omega))
    rw [show cssw[i] = _ from e] at hu
    simp only [List.mem_cons, List.not_mem_nil, or_false] at hu
    rcases hu with rfl | rfl <;> rfl
  · rintro e w' ⟨vp', vj', vw', rfl, o1, o2, o3, k⟩
    refine ⟨vp', vj', vw', rfl, by rw [lp]; exact o1, ⟨cssj, by omega, csj, by rw [lj]; exact o2, fun i cs x hi hx => (Rj i cs x hi hx).keep k.weak⟩, ?_, k⟩
    rw [lw, ← ew]
    exact o3

theorem ElemsOf.sub {α : Type} {w : World} {S S' : Nat → Prop} {size : Nat} {R R' : List Value → α → Prop} {v : Value} {l : List α} (h : ElemsOf w S size R v l) (hS : ∀ b, S' b → S b) (hR : ∀ cs x, R cs x → R' cs x) : ElemsOf w S' size R' v l := by
  obtain ⟨A, n, c, e, h1, h2, h3, h4⟩ := h
  refine ⟨A, n, c, e, h1, h2, h3, fun hn => ?_⟩
  obtain ⟨b, o, e, hb, hc⟩ := h4 hn
  refine ⟨b, o, e, fun h => hb (hS b h), fun i hi => ?_⟩
  obtain ⟨cs, h5, h6, h7⟩ := hc i hi
  exact ⟨cs, h5, h6, hR _ _ h7⟩
theorem Row.subset {w : World} {S S' : Nat → Prop} {size n c : Nat} {A : Option Addr} {xs : List Value} (h : Row w S size A n c xs) (hS : ∀ b, S' b → S b) : Row w S' size A n c xs := ⟨h.len, h.le, h.cap, fun hn => by
  obtain ⟨b, o, e, hb, hc⟩ := h.at_ hn
  exact ⟨b, o, e, fun h => hb (hS b h), hc⟩⟩
theorem StrsOf.sub {w : World} {S S' : Nat → Prop} {v : Value} {l : List ByteArray} (h : StrsOf w S v l) (hS : ∀ b, S' b → S b) : StrsOf w S' v l := by
  obtain ⟨A, n, c, e, r⟩ := h
  exact ⟨A, n, c, e, r.subset hS⟩
theorem BytesAt.sub {w : World} {S S' : Nat → Prop} {v : Value} {l : List Int} (h : BytesAt w S v l) (hS : ∀ b, S' b → S b) : BytesAt w S' v l := by
  obtain ⟨A, n, c, e, r⟩ := h
  exact ⟨A, n, c, e, r.subset hS⟩
theorem ItemsOf.sub {w : World} {S S' : Nat → Prop} {v : Value} {l : List Itm} (h : ItemsOf w S v l) (hS : ∀ b, S' b → S b) : ItemsOf w S' v l := ElemsOf.sub h hS (fun _ _ ⟨u, s, e, h1, h2, h3, h4⟩ => ⟨u, s, e, h1, h2, h3.sub hS (fun _ _ ⟨v, e, hb⟩ => ⟨v, e, hb.sub hS⟩), h4.sub hS (fun _ _ ⟨v, e, hb⟩ => ⟨v, e, hb.sub hS⟩)⟩)
theorem JbOf.sub {w : World} {S S' : Nat → Prop} {cs : List Value} {x : Jb} (h : JbOf w S cs x) (hS : ∀ b, S' b → S b) : JbOf w S' cs x := by
  obtain ⟨vn, vi, e, h1, h2⟩ := h
  exact ⟨vn, vi, e, h1.sub hS, h2.sub hS⟩
theorem copied_any (s : St) (v : Value) (S : Nat → Prop) (w : World) (h : StateOf w S v s) (hs : Small s) : Calls Tryz.prog 52 #[v] w (CopyPost S s w) := by
  obtain ⟨vp, vj, vw, rfl, hp, hj, hw⟩ := h
  exact copied_in s vp vj vw S w (hp.sub (fun _ e => e.elim)) (ElemsOf.sub hj (fun _ e => e.elim) (fun _ _ h => h)) (ElemsOf.sub hw (fun _ e => e.elim) (fun _ _ h => h)) hs
def PlainS (s : St) : Prop := ∀ j ∈ s.jobs, Clb j.items ∧ j.needs.length ≤ 65536
/-- The jobs of a state that is being cloned: what each needs and has made lies outside their row and block B; that of the first k lies from lo on. -/
def CSet (v : Value) (B lo k i : Nat) : Nat → Prop := fun x => ofBlk v x ∨ x = B ∨ (i < k ∧ x < lo)
def CJobs (w : World) (base B lo k : Nat) (v : Value) (l : List Jb) : Prop :=
  ∃ css : List (List Value), css.length = l.length ∧ (∀ x ∈ css, x.length = 7) ∧ w.ownsRow base 57 7 v l.length css.flatten ∧ ∀ (i : Nat) (cs : List Value) (x : Jb), css[i]? = some cs → l[i]? = some x → JbOf w (CSet v B lo k i) cs x
theorem RowJobs.keep {w w' : World} {S S' : Nat → Prop} {base : Nat} {v : Value} {l : List Jb} (h : RowJobs w base S v l) (k : Keep S' w w') (hS : ∀ b, S' b → S b) (hv : ∀ b, v.ownBlock = some b → ¬ S' b) : RowJobs w' base S v l := by
  obtain ⟨css, h1, h2, h3, h4⟩ := h
  exact ⟨css, h1, h2, own_keep h3 k hv, fun i cs x hi hx => (h4 i cs x hi hx).keep (k.mono hS)⟩
theorem RowJobs.c {w : World} {S : Nat → Prop} {base B lo : Nat} {v : Value} {l : List Jb} (h : RowJobs w base S v l) (hS : ∀ b, base ≤ b → S b) (hB : S B) : CJobs w base B lo 0 v l := by
  obtain ⟨css, h1, h2, h3, h4⟩ := h
  exact ⟨css, h1, h2, h3, fun i cs x hi hx => (h4 i cs x hi hx).sub (fun b e => e.elim (fun e => hS b (own_ge h3 b e)) (fun e => e.elim (fun e => e ▸ hB) (fun e => absurd e.1 (by omega))))⟩
theorem RowJobs.slice {w : World} {S : Nat → Prop} {base : Nat} {v : Value} {l : List Jb} (h : RowJobs w base S v l) : ∃ A c, v = .slice A l.length c ∧ c ≤ maxLen ∧ l.length ≤ c := by
  obtain ⟨css, h1, h2, h3, h4⟩ := h
  obtain ⟨A, c, e, r⟩ := own_row (S := none_) h3 (fun _ _ e => e)
  exact ⟨A, c, e, r.cap, r.le⟩
theorem CJobs.elems {w w' : World} {base B lo : Nat} {v : Value} {l : List Jb} (h : CJobs w base B lo l.length v l) (k : Keep (one B) w w') (hB : B < base) (hlo : lo ≤ base) : JobsOf w' (bel lo) v l := by
  obtain ⟨css, h1, h2, h3, h4⟩ := h
  have o := own_keep h3 k (fun b e e' => by cases e'; have := own_ge h3 _ e; omega)
  obtain ⟨A, c, rfl, hr⟩ := own_row (S := bel lo) o (fun b hb e => by unfold bel at e; omega)
  refine ElemsOf.of_row rfl h1 h2 hr (fun i cs x hi hx => ?_)
  have hil : i < l.length := (List.getElem?_eq_some_iff.1 hx).1
  exact ((h4 i cs x hi hx).keep (k.mono (fun x e => .inr (.inl e)))).sub (fun x e => .inr (.inr ⟨hil, e⟩))
theorem CJobs.set {w w8 : World} {base b B lo n cap k : Nat} {l : List Jb} (hn : n = l.length) {css : List (List Value)} (h1 : css.length = l.length) (h2 : ∀ x ∈ css, x.length = 7) (h3 : w.ownsRow base 57 7 (.slice (some ⟨b, 0, none⟩) n cap) n css.flatten) (h4 : ∀ (i : Nat) (cs : List Value) (x : Jb), css[i]? = some cs → l[i]? = some x → JbOf w (CSet (.slice (some ⟨b, 0, none⟩) n cap) B lo k i) cs x)
    (kk : Keep (one b) w w8) {cs : List Value} (hcs : css[k]? = some cs) {j : Jb} (hj : l[k]? = some j) {un ui : Value} {cur : Array Value} (hb : Blk w b 57 cur) (hb8 : Blk w8 b 57 ((cur.setIfInBounds (k * 7 + 1) un).setIfInBounds (k * 7 + 6) ui)) (hun : StrsOf w8 (fun x => one b x ∨ x = B ∨ x < lo) un j.needs) (hui : ItemsOf w8 (fun x => one b x ∨ x = B ∨ x < lo) ui j.items) : CJobs w8 base B lo (k + 1) (.slice (some ⟨b, 0, none⟩) n cap) l := by
  have hkc : k < css.length := (List.getElem?_eq_some_iff.1 hcs).1
  have eB : ∀ x, ofBlk (.slice (some ⟨b, 0, none⟩) n cap) x ↔ one b x := fun x => by
    simp only [ofBlk, Value.ownBlock, Option.some.injEq]
    exact eq_comm
  have l7 := h2 cs (List.mem_of_getElem? hcs)
  have len7 : ∀ y ∈ css.set k (cs.set 1 un), y.length = 7 := fun y hy => by
    rcases List.mem_or_eq_of_mem_set hy with hy | rfl
    · exact h2 y hy
    · rw [List.length_set]; exact l7
  have o1 := own_set h3 (k * 7 + 1) un
  rw [flatten_set css h2 k cs hcs 1 (by decide)] at o1
  have o2 := own_set o1 (k * 7 + 6) ui
  rw [flatten_set _ len7 k (cs.set 1 un) (by rw [List.getElem?_set_self hkc]) 6 (by decide), List.set_set] at o2
  subst hn
  refine ⟨css.set k ((cs.set 1 un).set 6 ui), by rw [List.length_set]; exact h1, fun y hy => ?_, own_move o2 ((hb.set_ _ _).set_ _ _) hb8, fun i ds x hi hx => ?_⟩
  · rcases List.mem_or_eq_of_mem_set hy with hy | rfl
    · exact h2 y hy
    · rw [List.length_set, List.length_set]; exact l7
  · rw [List.getElem?_set] at hi
    by_cases e : k = i
    · subst e
      rw [if_pos rfl, if_pos hkc, Option.some.injEq] at hi
      rw [hj, Option.some.injEq] at hx
      subst hx
      obtain ⟨vn, vi, rfl, g1, g2⟩ := h4 k cs j hcs hj
      rw [← hi]
      have eS : ∀ x, CSet (.slice (some ⟨b, 0, none⟩) l.length cap) B lo (k + 1) k x → one b x ∨ x = B ∨ x < lo := fun x e => e.imp (eB x).1 (fun e => e.imp id (fun e => e.2))
      exact ⟨un, ui, rfl, hun.sub eS, hui.sub eS⟩
    · rw [if_neg e] at hi
      exact ((h4 i ds x hi hx).keep (kk.mono (fun y e => .inl ((eB y).2 e)))).sub (fun y e => e.imp id (fun e => e.imp id (fun e => ⟨by omega, e.2⟩)))
end Go.Proofs.YtnefbeplgfdkkaaGreatDoor
/-
  (State).clone.
-/
namespace Go.Proofs.YtnefbeplgfdkkaaGreatDoor
open Go.RowKit

set_option maxRecDepth 100000 in
set_option maxHeartbeats 1000000 in
theorem clone_any (s : St) (v : Value) (S : Nat → Prop) (w : World) (h : StateOf w S v s) (hs : Small s) (hp : PlainS s) :
    Calls Tryz.prog 54 #[v] w fun e w' => ∃ v', e = .returned v' ∧ StateOf w' (bel w.heap.size) v' s ∧ Keep none_ w w' := by
  obtain ⟨vp, vj, vw, rfl, rest⟩ := (id h : StateOf w S v s)
  obtain ⟨hsp, hsj, hsw⟩ := rest
  obtain ⟨Ap, np, cp, rfl, -⟩ := hsp
  obtain ⟨Aj, nj, cj, rfl, -⟩ := hsj
  obtain ⟨Aw, nw, cw, rfl, -⟩ := hsw
  obtain ⟨W0, hW0⟩ : ∃ W0, W0 = (w.alloc (.cells #[.int .i64 s.now, .slice Ap np cp, .slice Aj nj cj, .slice Aw nw cw] 48)).alloc (.cells #[.int .i64 0, .slice none 0 0, .slice none 0 0, .slice none 0 0] 48) := ⟨_, rfl⟩
  obtain ⟨b0, b1, k0⟩ := two (w := w) (t0 := 48) (c0 := #[.int .i64 s.now, .slice Ap np cp, .slice Aj nj cj, .slice Aw nw cw]) (t1 := 48) (c1 := #[.int .i64 0, .slice none 0 0, .slice none 0 0, .slice none 0 0]) (w1 := W0) (hW0 ▸ Keep.refl none_ W0)
  have CO := Lib.hid (copied_any s _ (ge w.heap.size) W0 (h.fresh.keep k0.weak) hs)
  have hj64 := hs.j
  have HP := Lib.hid hp
  have B0 := Lib.hid b0
  have B1 := Lib.hid b1
  have K0 := Lib.hid k0
  have l0 := b1.lt
  clear h hs hp b0 b1 k0
  go_enter Tryz.func54, Tryz.ntmps54
  go_upto_region 1 with (fail)
  rw [← hW0]
  clear hW0
  have t1 : True := trivial
  have t2 : True := trivial
  go_upto_region 2 with (first | (have _t := t1; refine wpList_load_part 48 (.tmp 1) rfl rfl w.heap.size 0 rfl #[.int .i64 s.now, .slice Ap np cp, .slice Aj nj cj, .slice Aw nw cw] _ B0.out.rangeAt Tryz.underlying48 rfl (by kernel_rfl) ?_; go_frame; clear _t t1) | (go_at_call 52; refine CO.out.mono ?_; rintro e w2 ⟨vp, vj, vw, rfl, o1, o2, o3, k2⟩; have b2 := Lib.hid (B0.out.keep k2 (fun e => e)); obtain ⟨A1, c1, rfl, -⟩ := own_row (S := none_) o1 (fun _ _ e => e); obtain ⟨A2, c2, rfl, m1, m2⟩ := o2.slice; obtain ⟨A3, c3, rfl, -⟩ := own_row (S := none_) o3 (fun _ _ e => e); have O1 := Lib.hid o1; have O2 := Lib.hid o2; have O3 := Lib.hid o3; have K2 := Lib.hid k2; clear o1 o2 o3 k2) | (have _t := t2; refine wpList_store_blk rfl 48 (.tmp 1) (.tmp 6) rfl w.heap.size 48 _ _ rfl rfl b2.out rfl (by kernel_rfl) (by simp [Value.oneCell']) ?_; intro w3 b3 k3 s3; go_frame; clear _t t2))
  have kb : Keep none_ w w3 := (K0.out.trans K2.out).own k3 (Nat.le_refl _)
  have nb : ∀ b, (Value.slice A2 s.jobs.length c2).ownBlock = some b → ¬ one w.heap.size b := fun b e e' => by
    cases e'
    obtain ⟨css, q1, q2, q3, q4⟩ := O2.out
    have := own_ge q3 _ e
    omega
  have C3 := Lib.hid (show CJobs w3 W0.heap.size (w.heap.size + 1) w.heap.size 0 (.slice A2 s.jobs.length c2) s.jobs from (O2.out.keep k3 (fun b e => by cases e; exact Nat.le_refl _) nb).c (fun b e => by unfold ge; omega) (by unfold ge; omega))
  have P3 := Lib.hid (own_keep O1.out k3 (fun b e e' => by cases e'; have := own_ge O1.out _ e; omega))
  have W3 := Lib.hid (own_keep O3.out k3 (fun b e e' => by cases e'; have := own_ge O3.out _ e; omega))
  have KB := Lib.hid kb
  have B3 := Lib.hid b3
  have R3 := Lib.hid (B1.out.keep (K2.out.weak.trans k3) (fun e => by unfold one at e; omega))
  have lk := (K2.out.size)
  have y2 := b3.cell 2
  simp only [List.getElem?_toArray, List.getElem?_cons_zero, List.getElem?_cons_succ] at y2
  unfold maxLen at m1
  clear kb nb O1 O2 O3 k3 s3 B0 B1 K0 K2 b2 CO b3
  go_wp2
  go_loopw [10] (fun i wr => ∃ k : Nat, k ≤ s.jobs.length ∧ i = .int .i64 k ∧ CJobs wr W0.heap.size (w.heap.size + 1) w.heap.size k (.slice A2 s.jobs.length c2) s.jobs ∧ wr.ownsRow W0.heap.size 9 1 (.slice A1 s.present.length c1) s.present.length (s.present.map Value.string) ∧ wr.ownsRow W0.heap.size 107 2 (.slice A3 s.workers.length c3) s.workers.length (wkCells s.workers) ∧ Blk wr w.heap.size 48 #[.int .i64 s.now, .slice A1 s.present.length c1, .slice A2 s.jobs.length c2, .slice A3 s.workers.length c3] ∧ Blk wr (w.heap.size + 1) 48 #[.int .i64 0, .slice none 0 0, .slice none 0 0, .slice none 0 0] ∧ Keep none_ w wr) (fun i _ => s.jobs.length - (intOf i).toNat)
  case atStart => exact ⟨0, Nat.zero_le _, rfl, C3.out, P3.out, W3.out, B3.out, R3.out, KB.out⟩
  case round =>
    obtain ⟨k, hk, rfl, hC, hP, hW, hB, hR, hkr⟩ := hrel
    have z2 := hB.cell 2
    simp only [List.getElem?_toArray, List.getElem?_cons_zero, List.getElem?_cons_succ] at z2
    by_cases hlt : k < s.jobs.length
    · have hlt' : (k : Int) < s.jobs.length := by omega
      obtain ⟨css, h1, h2, h3, h4⟩ := hC
      obtain ⟨b, cap, cur, eV, hb1, hb2, hb3, hb4, hb5, hb6⟩ := own_cases h3 (by omega)
      simp only [Value.slice.injEq, true_and] at eV
      obtain ⟨rfl, rfl⟩ := eV
      have hkc : k < css.length := by omega
      have hg := List.getElem?_eq_getElem hkc
      have hjk := List.getElem?_eq_getElem hlt
      obtain ⟨vn, vi, ecs, hn, hi⟩ := (h4 k _ _ hg hjk).sub (S' := fun x => one b x ∨ x = w.heap.size + 1) (fun y e => e.elim (fun e => .inl (by cases e; rfl)) (fun e => .inr (.inl e)))
      have hpl := HP.out _ (List.getElem_mem hlt)
      generalize css[k] = cs at hg ecs
      generalize s.jobs[k] = j at hjk hn hi hpl ecs
      subst ecs
      obtain ⟨An, nn, cn, rfl, rn⟩ := hn
      have ln : j.needs.length = nn := by have := rn.len; simp at this; omega
      obtain ⟨Ai, ni, ci, rfl, -⟩ := (id hi : ItemsOf _ _ _ _)
      have at_ : ∀ r, r < 7 → cur[k * 7 + r]? = [Value.string j.name, .slice An nn cn, .string j.worker, .int .i64 j.until_, .int .i64 j.tries, .bool j.done, .slice Ai ni ci][r]? := fun r hr => by
        rw [← flatten_get css h2 k _ hg r hr, ← hb6, List.getElem?_take, if_pos (by omega), Array.getElem?_toList]
      have c1_ : cur[k * 7 + 1]? = some (.slice An nn cn) := by rw [at_ 1 (by decide)]; rfl
      have c6_ : cur[k * 7 + 6]? = some (.slice Ai ni ci) := by rw [at_ 6 (by decide)]; rfl
      have hI : k * 7 + 1 < cur.size := (Array.getElem?_eq_some_iff.1 c1_).1
      have lb := hb2.lt
      have c4 := (by unfold maxLen at hb4; exact hb4 : c2 ≤ 2 ^ 63 - 1)
      obtain ⟨T1, hT1⟩ : ∃ T1 : Value → World → Prop, T1 = fun v y => y.ownsRow wr.heap.size 9 1 v nn (j.needs.map Value.string) := ⟨_, rfl⟩
      obtain ⟨T2, hT2⟩ : ∃ T2 : Value → World → Prop, T2 = fun v y => ItemsOf y (bel wr.heap.size) v j.items := ⟨_, rfl⟩
      have gd : (pairCalm wr b 57 cur (k * 7 + 1) (.slice An nn cn) T1 T2).Good := pairCalm_good (fun v x y h hk => by rw [hT1] at h ⊢; exact own_keep h hk (fun z hz e => by cases e; have := own_ge h _ hz; omega)) (fun v x y h hk => by rw [hT2] at h ⊢; exact h.keep (hk.mono (fun z e => by cases e; exact lb)))
      have ne : Nonempty (pairCalm wr b 57 cur (k * 7 + 1) (.slice An nn cn) T1 T2).Sub := ⟨⟨wr, 0, Nat.zero_le _, Keep.refl _ _, cur, hb2, rfl, fun _ _ => rfl, fun _ => rfl⟩⟩
      have x6 := fun x => (pairCalm_at (wr := wr) (b := b) (t := 57) (cur := cur) (I := k * 7 + 1) (v0 := .slice An nn cn) (T1 := T1) (T2 := T2) x).2 (k * 7 + 6) _ (by omega) c6_
      have HT1 := Lib.hid hT1
      have HT2 := Lib.hid hT2
      have HI := Lib.hid hI
      have st := pair_start (k * 7 + 1) hb2
      have C1 := Lib.hid c1_
      have C6 := Lib.hid c6_
      have HB2 := Lib.hid hb2
      have H1 := Lib.hid h1
      have H2 := Lib.hid h2
      have H3 := Lib.hid h3
      have H4 := Lib.hid h4
      have HG := Lib.hid hg
      have HJ := Lib.hid hjk
      have HN := Lib.hid rn
      have HIt := Lib.hid hi
      have HPl := Lib.hid hpl
      have HPx := Lib.hid hP
      have HWx := Lib.hid hW
      have HBx := Lib.hid hB
      have HRx := Lib.hid hR
      have HKx := Lib.hid hkr
      have hsz := Lib.hid (show w.heap.size + 1 < wr.heap.size from hR.lt)
      have LN := Lib.hid ln
      clear h1 h2 h3 h4 hg hjk rn hi hpl hP hW hB hR hkr at_ hb2 hb6 hb3 hb5 hT1 hT2 hI c1_ c6_ hkc ln hb4
      go_upto_region 6 with (fail)
      refine wp_region_calm (pairCalm wr b 57 cur (k * 7 + 1) (.slice An nn cn) T1 T2) [0, 1, 2, 3, 4, 5, 6, 7, 8, 9, 10, 11, 12, 13, 14] [15, 16, 17] 35 (by kernel_rfl) (by kernel_rfl) rfl gd st ?_
      clear st
      simp only [pairs, List.filterMap_cons, List.filterMap_nil, List.getElem?_toArray, List.getElem?_cons_succ, List.getElem?_cons_zero, Option.map_some]
      repeat (refine Calm.walk_quiet ne rfl rfl rfl (fun K hK => ?_); go_big_quiet_op; refine hK _ ?_; clear hK K)
      refine Calm.walk_eff rfl rfl (fun n w4 hn hG _ => ?_) ?_
      · have f1 := pair_load hG hn C1.out
        unfold gives
        go_simp
        exact ⟨rfl, ⟨(Keep.refl _ _), fun _ => Keep.refl _ _⟩, pair_call hG (Keep.refl _ _), fun _ h => h.elim⟩
      intro v w4 hT
      have hT' : v = .slice An nn cn := hT
      clear hT
      subst hT'
      clear w4
      go_frame
      refine Calm.walk_eff rfl rfl (fun n w4 hn hG _ => ?_) ?_
      · unfold gives
        go_simp
        refine (clone_strs An nn cn (j.needs.map Value.string) (fun x => one b x ∨ x = w.heap.size + 1) w4 (HN.out.keep (hG.1.mono (fun _ e => .inl e))) (fun u hu => by obtain ⟨x, -, rfl⟩ := List.mem_map.1 hu; rfl) (by have := HPl.out.2; have := LN.out; omega)).mono ?_
        rintro e w5 ⟨v, rfl, hv, hk⟩
        exact ⟨_, rfl, by show T1 _ _; rw [HT1.out]; exact own_base hv hG.1.size, ⟨hk.weak, fun _ => hk⟩, pair_call hG hk, fun _ h => h.elim⟩
      intro vu w4 hT
      have hT' : w4.ownsRow wr.heap.size 9 1 vu nn (j.needs.map Value.string) := by have h5 : T1 vu w4 := hT; rw [HT1.out] at h5; exact h5
      obtain ⟨D1, d1, rfl, -⟩ := own_row (S := none_) hT' (fun _ _ e => e)
      clear hT hT' w4
      go_frame
      repeat (refine Calm.walk_quiet ne rfl rfl rfl (fun K hK => ?_); go_big_quiet_op; refine hK _ ?_; clear hK K)
      refine Calm.walk_eff rfl rfl (fun n w4 hn hG _ => ?_) ?_
      · unfold gives
        go_simp
        refine (HPl.out.1 (.slice Ai ni ci) (fun x => one b x ∨ x = w.heap.size + 1) w4 (HIt.out.keep (hG.1.mono (fun _ e => .inl e)))).mono ?_
        rintro e w5 ⟨v, rfl, hv, hk⟩
        exact ⟨_, rfl, by show T2 _ _; rw [HT2.out]; exact hv.sub (fun z e => Nat.lt_of_lt_of_le e hG.1.size), ⟨hk.weak, fun _ => hk⟩, pair_call hG hk, fun _ h => h.elim⟩
      intro vs w4 hT
      have hT' : ItemsOf w4 (bel wr.heap.size) vs j.items := by have h5 : T2 vs w4 := hT; rw [HT2.out] at h5; exact h5
      obtain ⟨D2, m2', d2, rfl, -⟩ := (id hT' : ItemsOf _ _ _ _)
      clear hT hT' w4
      go_frame
      repeat (refine Calm.walk_quiet ne rfl rfl rfl (fun K hK => ?_); go_big_quiet_op; refine hK _ ?_; clear hK K)
      refine Calm.walk_effn rfl rfl (fun n w4 ha hn hG _ => ?_) ?_
      · obtain ⟨⟨v0, f1⟩, f2⟩ := pair_at hG HI.out
        obtain ⟨g1, g2, g3⟩ := pair_store hG ha (.slice D1 nn d1)
        unfold gives
        go_simp
        exact ⟨g1, ⟨g2, fun e => absurd rfl e⟩, g3, fun _ h => h.elim⟩
      rintro v w4 -
      clear w4
      go_frame
      repeat (refine Calm.walk_quiet ne rfl rfl rfl (fun K hK => ?_); go_big_quiet_op; refine hK _ ?_; clear hK K)
      intro w6 hG hD
      have k6 : Keep (one b) wr w6 := hG.1
      have b6 : Blk w6 b 57 (cur.setIfInBounds (k * 7 + 1) (.slice D1 nn d1)) := (hD.1 14 rfl _ rfl ⟨rfl, rfl⟩).1
      have e6 : T1 (.slice D1 nn d1) w6 := (hD.1 6 rfl _ rfl ⟨rfl, rfl⟩).1
      have e7 : T2 (.slice D2 m2' d2) w6 := (hD.1 11 rfl _ rfl ⟨rfl, rfl⟩).1
      rw [HT1.out] at e6
      rw [HT2.out] at e7
      clear hG hD gd ne x6
      simp only [pickOps, List.filterMap_cons, List.filterMap_nil, List.getElem?_toArray, List.getElem?_cons_succ, List.getElem?_cons_zero]
      have s6 : w6.cell? ⟨b, k * 7 + 6, none⟩ = some (.slice Ai ni ci) := by rw [b6.cell, Array.getElem?_setIfInBounds_ne (by omega)]; exact C6.out
      have t6 := b6.frozen (k * 7 + 6)
      have b8 := b6.set_ (k * 7 + 6) (.slice D2 m2' d2)
      have k68 : Keep (one b) w6 (w6.setCell ⟨b, k * 7 + 6, none⟩ (.slice D2 m2' d2)) := (Keep.refl (one b) w6).setCell (p := ⟨b, k * 7 + 6, none⟩) (.inl rfl) _
      have k8 := k6.trans k68
      have nob : ∀ x, W0.heap.size ≤ x → ¬ one w.heap.size x ∧ ¬ one (w.heap.size + 1) x := fun x hx => ⟨fun e => by unfold one at e; omega, fun e => by unfold one at e; omega⟩
      have C8 := Lib.hid (CJobs.set rfl H1.out H2.out H3.out H4.out k8 HG.out HJ.out HB2.out b8
        (by
          obtain ⟨A, c, e, r⟩ := own_row (S := fun x => one b x ∨ x = w.heap.size + 1 ∨ x < w.heap.size) e6 (fun y hy e => by unfold one at e; have := hsz.out; omega)
          exact StrsOf.keep ⟨A, _, c, e, r⟩ (k68.mono (fun _ e => .inl e)))
        ((e7.sub (fun z e => by unfold bel; unfold one at e; have := hsz.out; omega)).keep (k68.mono (fun _ e => .inl e))))
      have P8 := Lib.hid (own_keep HPx.out k8 (own_apart HPx.out HB2.out (by decide)))
      have W8 := Lib.hid (own_keep HWx.out k8 (own_apart HWx.out HB2.out (by decide)))
      have S8 := Lib.hid (HBx.out.keep k8 (fun e => HBx.out.ne_ HB2.out (by decide) e))
      have R8 := Lib.hid (HRx.out.keep k8 (fun e => HRx.out.ne_ HB2.out (by decide) e))
      have K8 := Lib.hid (HKx.out.own k8 (by omega))
      clear b8 k68 k8 nob e6 e7 b6 k6 z2
      go_wp2
      go_roundw
      case rel => exact ⟨k + 1, by omega, by go_num, C8.out, P8.out, W8.out, S8.out, R8.out, K8.out⟩
      case measure => simp [intOf]; omega
    · obtain rfl : k = s.jobs.length := by omega
      have HC := Lib.hid hC
      have HPx := Lib.hid hP
      have HWx := Lib.hid hW
      have HB := Lib.hid hB
      have HR := Lib.hid hR
      have HK := Lib.hid hkr
      clear hC hP hW hB hR hkr
      have t1 : True := trivial
      have t2 : True := trivial
      go_wp2_with (first | (have _t := t1; refine wpList_load_part 48 (.tmp 1) rfl rfl w.heap.size 0 rfl #[.int .i64 s.now, .slice A1 s.present.length c1, .slice A2 s.jobs.length c2, .slice A3 s.workers.length c3] _ HB.out.rangeAt Tryz.underlying48 rfl (by kernel_rfl) ?_; go_frame; clear _t t1) | (have _t := t2; refine wpList_store_blk rfl 48 (.tmp 2) (.tmp 34) rfl (w.heap.size + 1) 48 _ _ rfl rfl HR.out rfl (by kernel_rfl) (by simp [Value.oneCell']) ?_; intro w9 b9 k9 s9; go_frame; clear _t t2))
      have nn : ∀ b, W0.heap.size ≤ b → ¬ one (w.heap.size + 1) b := fun b h e => by unfold one at e; omega
      have je : JobsOf w9 (bel w.heap.size) (.slice A2 s.jobs.length c2) s.jobs := CJobs.elems HC.out k9 (by omega) (by omega)
      have o1 := own_keep HPx.out k9 (fun b e => nn b (own_ge HPx.out b e))
      have o3 := own_keep HWx.out k9 (fun b e => nn b (own_ge HWx.out b e))
      obtain ⟨_, _, e1, r1⟩ := own_row (S := bel w.heap.size) o1 (fun b h e => by unfold bel at e; omega)
      obtain ⟨_, _, e3, r3⟩ := ElemsOf_wks (S := bel w.heap.size) o3 (fun b h e => by unfold bel at e; omega)
      refine ⟨rfl, _, results_cell Tryz.results54 rfl (run_loadVar_blk b9 Tryz.underlying48 rfl (by kernel_rfl)), _, rfl, ⟨_, _, _, rfl, ⟨_, _, _, e1, r1⟩, je, by rw [e3]; exact r3⟩, HK.out.own k9 (by omega)⟩
end Go.Proofs.YtnefbeplgfdkkaaGreatDoor
