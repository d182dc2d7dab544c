/-
  FarmStates: what is known of the state that the reference's Run has made, and of one thing changed in it.
-/
import Derived.Test.YtnefbeplgfdkkaaGreatDoorRu47
import Derived.Test.YtnefbeplgfdkkaaGreatDoorRu39
import Derived.Test.YtnefbeplgfdkkaaGreatDoorRu27
import Derived.Test.YtnefbeplgfdkkaaGreatDoorRu33
namespace Go.Proofs.YtnefbeplgfdkkaaGreatDoor
open Go.RowKit

/-- What a job needs lies in a row of strings of the call's own; it has no items, or one in a row of the call's own. -/
def XO : XP where
  p := fun S w cs => (∃ n xs, w.ownsRow 0 9 1 (cs.getD 1 undef) n xs) ∧ (∀ b, (cs.getD 1 undef).ownBlock = some b → ¬ S b) ∧ (cs.getD 6 undef = .slice none 0 0 ∨ ((∃ xs, w.ownsRow 0 72 148 (cs.getD 6 undef) 1 xs) ∧ ∀ b, (cs.getD 6 undef).ownBlock = some b → ¬ S b))
  keep := fun _ _ _ _ ⟨⟨n, xs, h1⟩, h2, h3⟩ k => ⟨⟨n, xs, own_keep h1 k h2⟩, h2, h3.imp id (fun ⟨⟨ys, g1⟩, g2⟩ => ⟨⟨ys, own_keep g1 k g2⟩, g2⟩)⟩
  sub := fun _ _ _ _ ⟨h1, h2, h3⟩ hS => ⟨h1, fun b hb hs => h2 b hb (hS b hs), h3.imp id (fun ⟨g1, g2⟩ => ⟨g1, fun b hb hs => g2 b hb (hS b hs)⟩)⟩
  orr_ := fun _ _ _ ⟨⟨n, xs, h1⟩, h2, h3⟩ => ⟨⟨n, xs, h1⟩, fun b hb hs => hs.elim (h2 b hb) (fun hs => by have := own_lt h1 b hb; omega), h3.imp id (fun ⟨⟨ys, g1⟩, g2⟩ => ⟨⟨ys, g1⟩, fun b hb hs => hs.elim (g2 b hb) (fun hs => by have := own_lt g1 b hb; omega)⟩)⟩
  set_ := fun S w cs r u h1 h6 h => by
    have e1 : (cs.set r u).getD 1 undef = cs.getD 1 undef := by simp only [List.getD_eq_getElem?_getD]; rw [List.getElem?_set_ne h1]
    have e6 : (cs.set r u).getD 6 undef = cs.getD 6 undef := by simp only [List.getD_eq_getElem?_getD]; rw [List.getElem?_set_ne h6]
    rw [e1, e6]
    exact h
  fresh := fun _ _ _ n _ _ xs h hn => ⟨⟨n, xs, own_base h (Nat.zero_le _)⟩, hn, .inl rfl⟩
theorem XO.fits : XFits XO 1 := fun _ _ _ v1 xs cs ho hn h => by
  obtain ⟨h1, h2, h3⟩ := h
  have e1 : (cs.set 6 v1).getD 1 undef = cs.getD 1 undef := by simp only [List.getD_eq_getElem?_getD]; rw [List.getElem?_set_ne (by decide)]
  by_cases hl : 6 < cs.length
  · have e6 : (cs.set 6 v1).getD 6 undef = v1 := by simp only [List.getD_eq_getElem?_getD]; rw [List.getElem?_set_self hl]; rfl
    show (∃ n xs, _) ∧ _ ∧ _
    rw [e1, e6]
    exact ⟨h1, h2, .inr ⟨⟨xs, own_base ho (Nat.zero_le _)⟩, hn⟩⟩
  · have e6 : cs.set 6 v1 = cs := List.set_eq_of_length_le (by omega)
    rw [e6]
    exact ⟨h1, h2, h3⟩
theorem evOk_sz {e : Ev} (h : evOk e = true) : SzE e := by
  have f : ∀ (b : Bool) (x : ByteArray), fieldOk b x = true → Szd x := fun b x hx => by
    unfold fieldOk at hx
    cases b with
    | true => exact nameOk_sz (by simpa using hx)
    | false =>
      have : x = ⟨#[]⟩ := strEq_iff.1 (by simpa using hx)
      subst this
      exact Nat.zero_le _
  have g : ∀ (a b : Bool), restOk a b e = true → ∀ x ∈ e.needs, Szd x := fun a b hx => by
    unfold restOk at hx
    simp only [Bool.and_eq_true] at hx
    exact namesOk_sz hx.1.2
  unfold evOk at h
  split at h
  · simp only [Bool.and_eq_true] at h; exact ⟨f _ _ h.1.1.1, f _ _ h.1.1.2, g _ _ h.2⟩
  split at h
  · simp only [Bool.and_eq_true] at h; exact ⟨f _ _ h.1.1.1, f _ _ h.1.1.2, g _ _ h.2⟩
  split at h
  · simp only [Bool.and_eq_true] at h; exact ⟨f _ _ h.1.1.1, f _ _ h.1.1.2, g _ _ h.2⟩
  split at h
  · simp only [Bool.and_eq_true] at h; exact ⟨f _ _ h.1.1.1, f _ _ h.1.1.2, g _ _ h.2⟩
  split at h
  · simp only [Bool.and_eq_true] at h; exact ⟨f _ _ h.1.1.1, f _ _ h.1.1.2, g _ _ h.2⟩
  split at h
  · simp only [Bool.and_eq_true] at h; exact ⟨f _ _ h.1.1.1, f _ _ h.1.1.2, g _ _ h.2⟩
  · cases h
theorem EvOwn.cs0 {w : World} {S : Nat → Prop} {lo : Nat} (hS : ∀ b, lo ≤ b → ¬ S b) {cs : List Value} {e : Ev} (h : EvOwn w lo cs e) : EvCs w S cs e := by
  obtain ⟨vn, vi, icss, e1, h1, h2, h3, h4⟩ := h
  obtain ⟨A, c, rfl, r⟩ := own_row (S := S) h1 hS
  obtain ⟨B, d, rfl, r2⟩ := own_row (S := S) h2 hS
  exact ⟨_, _, e1, ⟨_, _, _, rfl, r⟩, ElemsOf.of_row rfl h3.1 h3.len r2 (fun i cs x hi hx => (h3.2 i cs x hi hx).itm (h4 x (List.mem_of_getElem? hx)).1 (h4 x (List.mem_of_getElem? hx)).2)⟩
theorem EvsOf.own0 {w : World} {S : Nat → Prop} {base : Nat} (hS : ∀ b, base ≤ b → ¬ S b) {v : Value} {css : List (List Value)} {l : List Ev} (h : w.ownsRow base 78 6 v l.length css.flatten) (h2 : All2 (EvCs w S) css l) : EvsOf w S v l := by
  obtain ⟨A, c, rfl, hr⟩ := own_row (S := S) h hS
  obtain ⟨g1, g2⟩ := h2.get
  refine ElemsOf.of_row rfl g1 (fun x hx => ?_) hr g2
  obtain ⟨i, hi, rfl⟩ := List.mem_iff_getElem.1 hx
  exact EvCs.len (g2 i _ _ (List.getElem?_eq_getElem hi) (List.getElem?_eq_getElem (by rw [← g1]; exact hi)))

theorem ElemsOf.none2 {α : Type} {w w' : World} {S S' : Nat → Prop} {size : Nat} {R R' : List Value → α → Prop} {v : Value} {l : List α} (h : ElemsOf w S size R v l) (h0 : l = []) : ElemsOf w' S' size R' v l := by
  obtain ⟨A, n, c, e, h1, h2, h3, h4⟩ := h
  subst h0
  exact ⟨A, n, c, e, h1, h2, h3, fun hn => absurd hn (by simp at h3; omega)⟩
/-- Two readings of one row. -/
theorem row_same {w : World} {S S' : Nat → Prop} {size n c : Nat} {A : Option Addr} {xs ys : List Value} (h : Row w S size A n c xs) (h' : Row w S' size A n c ys) : xs = ys := by
  apply List.ext_getElem?
  intro j
  by_cases hj : j < n * size
  · have hn : 0 < n := by rcases Nat.eq_zero_or_pos n with e | e; (subst e; simp at hj); exact e
    obtain ⟨b, o, e1, -, hc⟩ := h.at_ hn
    obtain ⟨b', o', e2, -, hc'⟩ := h'.at_ hn
    rw [e1] at e2
    simp only [Option.some.injEq, Addr.mk.injEq, and_true] at e2
    obtain ⟨rfl, rfl⟩ := e2
    have l1 := h.len
    have l2 := h'.len
    rw [List.getElem?_eq_getElem (by omega), List.getElem?_eq_getElem (by omega)]
    have g1 := hc j _ (List.getElem?_eq_getElem (by omega))
    have g2 := hc' j _ (List.getElem?_eq_getElem (by omega))
    rw [g1] at g2
    exact g2
  · rw [List.getElem?_eq_none (by rw [h.len]; omega), List.getElem?_eq_none (by rw [h'.len]; omega)]
/-- A state in block g whose lists are the call's own. -/
structure LSt (w : World) (lw g lo : Nat) (vp vj vw : Value) (st : St) : Prop where
  blk : Blk w g 48 #[.int .i64 st.now, vp, vj, vw]
  strs : w.ownsRow lo 9 1 vp st.present.length (st.present.map Value.string)
  jobs : RJobs XO w lo (fun b => b < lw ∨ b = g ∨ ofBlk vp b ∨ ofBlk vj b) vj st.jobs
  wks : w.ownsRow lo 107 2 vw st.workers.length (wkCells st.workers)
section
variable {w w' : World} {lw g lo : Nat} {vp vj vw : Value} {st : St}
theorem LSt.keep (h : LSt w lw g lo vp vj vw st) (k : Keep none_ w w') : LSt w' lw g lo vp vj vw st :=
  ⟨h.blk.keep k (fun e => e), own_keep h.strs k (fun _ _ e => e), h.jobs.keep k (fun _ e => e.elim) (fun _ _ e => e), own_keep h.wks k (fun _ _ e => e)⟩
theorem LSt.state (h : LSt w lw g lo vp vj vw st) : StateOf w none_ (.agg #[.int .i64 st.now, vp, vj, vw]) st := by
  obtain ⟨A1, c1, e1, r1⟩ := own_row (S := none_) h.strs (fun _ _ e => e)
  obtain ⟨A2, c2, e2, r2⟩ := h.jobs.list
  obtain ⟨A3, c3, e3, r3⟩ := ElemsOf_wks (S := none_) h.wks (fun _ _ e => e)
  exact ⟨vp, vj, vw, rfl, ⟨_, _, _, e1, r1⟩, by rw [e2]; exact r2, by rw [e3]; exact r3⟩
/-- An append onto a job's one item. -/
theorem LSt.appended {vk : Value} {news : List Value} (h : LSt w lw g lo vp vj vw st) (hk : ∃ xs, w.ownsRow 0 72 148 vk 1 xs) (k : Keep (ofBlk vk) w w') (hp : Pre 1 1 148 72 news w w') (hn : news.length = 148) (pl : ∀ j ∈ st.jobs, PlainI j.items) : LSt w' lw g lo vp vj vw st := by
  obtain ⟨xk, hk⟩ := hk
  obtain ⟨css, j1, j2, j3, j4⟩ := h.jobs
  refine ⟨h.blk.keep k (fun e => own_apart hk h.blk (by decide) g e rfl), own_keep h.strs k (own_apart2 h.strs hk (by decide)), ⟨css, j1, j2, own_keep j3 k (own_apart2 j3 hk (by decide)), fun i cs x hi hx => ?_⟩, own_keep h.wks k (own_apart2 h.wks hk (by decide))⟩
  obtain ⟨⟨vn, vi, rfl, hns, his⟩, ⟨⟨n, xs, h1⟩, h2, h3⟩⟩ := j4 i cs x hi hx
  have h1' : w.ownsRow 0 9 1 vn n xs := h1
  have h1w : w'.ownsRow 0 9 1 vn n xs := own_keep h1' k (own_apart2 h1' hk (by decide))
  obtain ⟨A, n', c, rfl, rn⟩ := hns
  obtain ⟨A', c', eA, rn'⟩ := own_row (S := none_) h1' (fun _ _ e => e)
  simp only [Value.slice.injEq] at eA
  obtain ⟨rfl, rfl, rfl⟩ := eA
  have ex := row_same rn' rn
  subst ex
  obtain ⟨A2, c2, eA, rw2⟩ := own_rowB h1w h2
  simp only [Value.slice.injEq, true_and] at eA
  obtain ⟨rfl, rfl⟩ := eA
  have hxm : x ∈ st.jobs := List.mem_of_getElem? hx
  have h3' : vi = .slice none 0 0 ∨ ((∃ xs, w.ownsRow 0 72 148 vi 1 xs) ∧ ∀ b, vi.ownBlock = some b → ¬ (b < lw ∨ b = g ∨ ofBlk vp b ∨ ofBlk vj b)) := h3
  rcases h3' with rfl | ⟨⟨ys, g1⟩, g2⟩
  · have : x.items = [] := by
      obtain ⟨A, n, c, e, -, -, hl, -⟩ := his
      simp only [Value.slice.injEq] at e
      exact List.eq_nil_of_length_eq_zero (by omega)
    refine ⟨⟨_, _, rfl, ⟨_, _, _, rfl, rw2⟩, by rw [this]; exact ItemsOf.nil _ _⟩, ⟨⟨_, _, h1w⟩, h2, .inl rfl⟩⟩
  · have g1w := hp.own hn (Nat.le_refl _) g1
    refine ⟨⟨_, vi, rfl, ⟨_, _, _, rfl, rw2⟩, ?_⟩, ⟨⟨_, _, h1w⟩, h2, .inr ⟨⟨ys, g1w⟩, g2⟩⟩⟩
    obtain ⟨A3, n3, c3, icss, rfl, hil, hicl, hic, hir, hiR⟩ := ElemsOf.rows his (by decide)
    obtain ⟨A4, c4, eA, rr⟩ := own_row (S := none_) g1 (fun _ _ e => e)
    simp only [Value.slice.injEq] at eA
    obtain ⟨rfl, rfl, rfl⟩ := eA
    have ey := row_same rr hir
    subst ey
    obtain ⟨A5, c5, eA, r5⟩ := own_rowB g1w g2
    simp only [Value.slice.injEq, true_and] at eA
    obtain ⟨rfl, rfl⟩ := eA
    refine ElemsOf.of_row hil hicl hic r5 (fun i cs y hi hy => ?_)
    obtain ⟨u, s, e, f1, f2, f3, f4⟩ := hiR i cs y hi hy
    have py := pl x hxm y (List.mem_of_getElem? hy)
    exact ⟨u, s, e, f1, f2, f3.none2 py.1, f4.none2 py.2⟩
/-- A store into a job. -/
theorem LSt.setJob {b c : Nat} (h : LSt w lw g lo vp (.slice (some ⟨b, 0, none⟩) st.jobs.length c) vw st) (k : Nat) (hk : k < st.jobs.length) (r : Nat) (hr : r < 7) (u : Value) (x : Jb) (hx : ∀ cs, JbOf (w.setCell ⟨b, k * 7 + r, none⟩ u) none_ cs st.jobs[k] → JbOf (w.setCell ⟨b, k * 7 + r, none⟩ u) none_ (cs.set r u) x) :
    Blk (w.setCell ⟨b, k * 7 + r, none⟩ u) g 48 #[.int .i64 st.now, vp, .slice (some ⟨b, 0, none⟩) st.jobs.length c, vw] ∧ StateOf (w.setCell ⟨b, k * 7 + r, none⟩ u) none_ (.agg #[.int .i64 st.now, vp, .slice (some ⟨b, 0, none⟩) st.jobs.length c, vw]) { st with jobs := st.jobs.set k x } := by
  obtain ⟨css, j1, j2, j3, j4⟩ := h.jobs
  obtain ⟨b', cap, cur, eV, hb1, hb2, hb3⟩ := own_cases j3 (by omega)
  simp only [Value.slice.injEq, Option.some.injEq, Addr.mk.injEq, and_true, true_and] at eV
  obtain ⟨rfl, rfl⟩ := eV
  have kb : Keep (one b) w (w.setCell ⟨b, k * 7 + r, none⟩ u) := (Keep.refl (one b) w).setCell (p := ⟨b, k * 7 + r, none⟩) (.inl rfl) u
  have hkc : k < css.length := by omega
  have hg : css[k]? = some css[k] := List.getElem?_eq_getElem hkc
  have all : ∀ i cs y, css[i]? = some cs → st.jobs[i]? = some y → JbOf (w.setCell ⟨b, k * 7 + r, none⟩ u) none_ cs y := fun i cs y hi hy => ((j4 i cs y hi hy).1.keep (kb.mono (fun z e => by cases e; exact .inr (.inr (.inr rfl))))).sub (fun _ e => e.elim)
  refine ⟨h.blk.far (p := ⟨b, k * 7 + r, none⟩) (h.blk.ne_ hb2 (by decide)) u, ?_⟩
  have hs := own_keep h.strs kb (own_apart h.strs hb2 (by decide))
  have hw := own_keep h.wks kb (own_apart h.wks hb2 (by decide))
  have hj := own_set j3 (k * 7 + r) u
  rw [flatten_set css j2 k css[k] hg r hr u] at hj
  obtain ⟨A1, c1, e1, r1⟩ := own_row (S := none_) hs (fun _ _ e => e)
  obtain ⟨A2, c2, e2, r2⟩ := own_row (S := none_) hj (fun _ _ e => e)
  obtain ⟨A3, c3, e3, r3⟩ := ElemsOf_wks (S := none_) hw (fun _ _ e => e)
  refine ⟨_, _, _, rfl, ⟨_, _, _, e1, r1⟩, ?_, by rw [e3]; exact r3⟩
  rw [e2]
  refine ElemsOf.of_row (by simp) (by simp [j1]) (fun y hy => ?_) r2 (fun i cs y hi hy => ?_)
  · rcases List.mem_or_eq_of_mem_set hy with hy | rfl
    · exact j2 y hy
    · rw [List.length_set]; exact j2 _ (List.getElem_mem hkc)
  · simp only [List.getElem?_set] at hi hy
    by_cases hik : k = i
    · subst hik
      simp only [if_true, hkc, hk, Option.some.injEq] at hi hy
      rw [← hi, ← hy]
      exact hx _ (all k _ _ hg (List.getElem?_eq_getElem hk))
    · rw [if_neg hik] at hi hy
      exact all i cs y hi hy
theorem SzS.setJob (h : SzS st) (k : Nat) (x : Jb) (h1 : Szd x.name) (h2 : ∀ y ∈ x.needs, Szd y) : SzS { st with jobs := st.jobs.set k x } :=
  ⟨h.pr, h.wk, fun j hj => (List.mem_or_eq_of_mem_set hj).elim (h.jb j) (fun e => by subst e; exact ⟨h1, h2⟩)⟩
end
/-- The item that the law adds. -/
noncomputable def itm1Cells : Array Value := itmZero.setIfInBounds 0 (.int .i64 1)
noncomputable def itm1Flat : List Value := (itmZero.toList.set 0 (.int .i64 1)).take 145
theorem itm1_built : Tryz.prog.built 72 [(0, .int .i64 1)] = some itm1Cells := by kernel_rfl
theorem itm1_list : itm1Cells.toList = itm1Flat ++ [.slice none 0 0, .slice none 0 0, .int .i64 0] := by kernel_rfl
theorem itm1_len : itm1Flat.length = 145 := by kernel_rfl
theorem itm1_one : (itm1Flat.all fun v => v.oneCell') = true := by kernel_rfl
theorem itm1_size : itm1Cells.size = 148 := by kernel_rfl
noncomputable def itm1 : Itm := ⟨itm1Flat, [], [], 0⟩
set_option maxRecDepth 100000 in
theorem itm1_of (w : World) (S : Nat → Prop) : ItmOf w S itm1Cells.toList itm1 :=
  ⟨.slice none 0 0, .slice none 0 0, itm1_list, itm1_len, fun v hv => List.all_eq_true.1 itm1_one v hv, ⟨none, 0, 0, rfl, Nat.le_refl _, Nat.zero_le _, rfl, fun h => absurd h (by omega)⟩, ⟨none, 0, 0, rfl, Nat.le_refl _, Nat.zero_le _, rfl, fun h => absurd h (by omega)⟩⟩
theorem LSt.items {w : World} {lw g lo b c : Nat} {vp vw vi : Value} {st : St} (h : LSt w lw g lo vp (.slice (some ⟨b, 0, none⟩) st.jobs.length c) vw st) (k : Nat) (hk : k < st.jobs.length) (hy : w.cell? ⟨b, k * 7 + 6, none⟩ = some vi) : vi = .slice none 0 0 ∨ (∃ xs, w.ownsRow 0 72 148 vi 1 xs) ∧ ∀ b, vi.ownBlock = some b → lw ≤ b := by
  obtain ⟨css, j1, j2, j3, j4⟩ := h.jobs
  obtain ⟨A', c', eA, r⟩ := own_row (S := none_) j3 (fun _ _ e => e)
  simp only [Value.slice.injEq, true_and] at eA
  obtain ⟨rfl, rfl⟩ := eA
  obtain ⟨b', o', e, -, hc⟩ := r.at_ (by omega)
  simp only [Option.some.injEq, Addr.mk.injEq, and_true] at e
  obtain ⟨rfl, rfl⟩ := e
  have hkc : k < css.length := by omega
  have hg : css[k]? = some css[k] := List.getElem?_eq_getElem hkc
  have l7 := j2 _ (List.getElem_mem hkc)
  have h6 : css[k][6]? = some (css[k].getD 6 undef) := by
    rw [List.getD_eq_getElem?_getD, List.getElem?_eq_getElem (by omega)]
    rfl
  have := hc (k * 7 + 6) _ (by rw [flatten_get css j2 k _ hg 6 (by decide)]; exact h6)
  rw [Nat.zero_add, hy, Option.some.injEq] at this
  subst this
  obtain ⟨-, -, -, h3⟩ := j4 k _ _ hg (List.getElem?_eq_getElem hk)
  exact h3.imp id (fun h => ⟨h.1, fun b hb => Nat.le_of_not_lt (fun hl => h.2 b hb (.inl hl))⟩)
theorem items_snoc {w w' : World} {S : Nat → Prop} {vi v' : Value} {items : List Itm} {base base' n : Nat} {xs : List Value} (h : ItemsOf w S vi items) (pl : PlainI items) (ho : w.ownsRow base 72 148 vi n xs) (o' : w'.ownsRow base' 72 148 v' (n + 1) (xs ++ itm1Cells.toList)) : ItemsOf w' none_ v' (items ++ [itm1]) := by
  obtain ⟨A3, n3, c3, icss, rfl, hil, hicl, hic, hir, hiR⟩ := ElemsOf.rows h (by decide)
  obtain ⟨A4, c4, eA, rr⟩ := own_row (S := none_) ho (fun _ _ e => e)
  simp only [Value.slice.injEq] at eA
  obtain ⟨rfl, rfl, rfl⟩ := eA
  have ey := row_same rr hir
  subst ey
  obtain ⟨A5, c5, rfl, r5⟩ := own_row (S := none_) o' (fun _ _ e => e)
  have e2 : (icss ++ [itm1Cells.toList]).flatten = icss.flatten ++ itm1Cells.toList := by simp
  rw [← e2] at r5
  refine ElemsOf.of_row (by simp [hil]) (by simp [hicl]) (fun y hy => ?_) r5 (fun i cs y hi hy => ?_)
  · rcases List.mem_append.1 hy with hy | hy
    · exact hic y hy
    · simp only [List.mem_cons, List.not_mem_nil, or_false] at hy
      rw [hy]
      exact itm1_size
  · rw [List.getElem?_append] at hi hy
    by_cases hlt : i < items.length
    · rw [if_pos (by omega)] at hi
      rw [if_pos hlt] at hy
      obtain ⟨u, s, e, f1, f2, f3, f4⟩ := hiR i cs y hi hy
      have py := pl y (List.mem_of_getElem? hy)
      exact ⟨u, s, e, f1, f2, f3.none2 py.1, f4.none2 py.2⟩
    · rw [if_neg (by omega)] at hi
      rw [if_neg hlt] at hy
      have e1 : i - icss.length = 0 := by
        have := (List.getElem?_eq_some_iff.1 hi).1
        simpa using this
      have e3 : i - items.length = 0 := by omega
      rw [e1] at hi
      rw [e3] at hy
      simp only [List.getElem?_cons_zero, Option.some.injEq] at hi hy
      rw [← hi, ← hy]
      exact itm1_of w' none_
theorem bits_and3 (x : Int) : ∃ r : Nat, bits BinOp.and IntKind.i64 x 3 = (r : Int) ∧ r < 4 := by
  have h : (BitVec.ofInt 64 x &&& BitVec.ofInt 64 3).toNat ≤ 3 := by
    rw [BitVec.toNat_and]
    exact Nat.and_le_right
  refine ⟨(BitVec.ofInt 64 x &&& BitVec.ofInt 64 3).toNat, ?_, by omega⟩
  show IntKind.i64.wrap ((BitVec.ofInt 64 x &&& BitVec.ofInt 64 3).toNat : Int) = _
  generalize (BitVec.ofInt 64 x &&& BitVec.ofInt 64 3).toNat = m at h
  have : m = 0 ∨ m = 1 ∨ m = 2 ∨ m = 3 := by omega
  rcases this with rfl | rfl | rfl | rfl <;> decide
end Go.Proofs.YtnefbeplgfdkkaaGreatDoor
