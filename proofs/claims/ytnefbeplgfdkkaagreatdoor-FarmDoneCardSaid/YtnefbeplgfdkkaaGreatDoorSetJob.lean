/-
  A store into a job of the state that a step works on.
-/
import Derived.Test.YtnefbeplgfdkkaaGreatDoorSubmit
namespace Go.Proofs.YtnefbeplgfdkkaaGreatDoor
open Go.RowKit

theorem flatten_set {size : Nat} : ∀ (css : List (List Value)) (_ : ∀ x ∈ css, x.length = size) (k : Nat) (cs : List Value) (_ : css[k]? = some cs) (r : Nat) (_ : r < size) (u : Value), css.flatten.set (k * size + r) u = (css.set k (cs.set r u)).flatten
  | [], _, k, cs, hi, _, _, _ => by simp at hi
  | x :: css, h, 0, cs, hi, r, hr, u => by
    simp only [List.getElem?_cons_zero, Option.some.injEq] at hi
    subst hi
    rw [List.flatten_cons, Nat.zero_mul, Nat.zero_add, List.set_append_left _ _ (by rw [h x (List.mem_cons_self ..)]; exact hr), List.set_cons_zero, List.flatten_cons]
  | x :: css, h, k + 1, cs, hi, r, hr, u => by
    have hx := h x (List.mem_cons_self ..)
    have ih := flatten_set css (fun y hy => h y (List.mem_cons_of_mem _ hy)) k cs (by simpa using hi) r hr u
    rw [List.flatten_cons, List.set_append_right _ _ (by rw [hx, Nat.succ_mul]; omega), hx, show (k + 1) * size + r - size = k * size + r by rw [Nat.succ_mul]; omega, ih, List.set_cons_succ, List.flatten_cons]
theorem Aft.setJob {w : World} {base : Bs} {g b c : Nat} {vp vw : Value} {s : St} (h : Aft w base g vp (.slice (some ⟨b, 0, none⟩) s.jobs.length c) vw s) (k : Nat) (hk : k < s.jobs.length) (r : Nat) (hr : r < 7) (u : Value) (x : Jb) (hx : ∀ cs, JbOf w (inn base) cs s.jobs[k] → JbOf w (inn base) (cs.set r u) x) :
    Aft (w.setCell ⟨b, k * 7 + r, none⟩ u) base g vp (.slice (some ⟨b, 0, none⟩) s.jobs.length c) vw { s with jobs := s.jobs.set k x } ∧ Keep (ge base) w (w.setCell ⟨b, k * 7 + r, none⟩ u) := by
  obtain ⟨css, j1, j2, j3, j4⟩ := h.jobs
  obtain ⟨b', cap, cur, eV, hb1, hb2, hb3⟩ := own_cases j3 (by omega)
  simp only [Value.slice.injEq, Option.some.injEq, Addr.mk.injEq, and_true, true_and] at eV
  obtain ⟨rfl, rfl⟩ := eV
  have kb : Keep (one b) w (w.setCell ⟨b, k * 7 + r, none⟩ u) := (Keep.refl (one b) w).setCell (p := ⟨b, k * 7 + r, none⟩) (.inl rfl) u
  have kk : Keep (ge base) w (w.setCell ⟨b, k * 7 + r, none⟩ u) := kb.mono (fun x e => by cases e; exact hb1)
  have hkc : k < css.length := by omega
  have hg : css[k]? = some css[k] := List.getElem?_eq_getElem hkc
  refine ⟨⟨h.blk.far (p := ⟨b, k * 7 + r, none⟩) (h.blk.ne_ hb2 (by decide)) u, h.ge_, own_keep h.strs kb (own_apart h.strs hb2 (by decide)), ⟨css.set k (css[k].set r u), by simp [j1], fun y hy => ?_, ?_, fun i ds y hi hy => ?_⟩, own_keep h.wks kb (own_apart h.wks hb2 (by decide))⟩, kk⟩
  · rcases List.mem_or_eq_of_mem_set hy with hy | rfl
    · exact j2 y hy
    · rw [List.length_set]; exact j2 _ (List.getElem_mem hkc)
  · have := own_set j3 (k * 7 + r) u
    rw [flatten_set css j2 k css[k] hg r hr u] at this
    simp only [List.length_set]
    exact this
  · simp only [List.getElem?_set] at hi hy
    by_cases hik : k = i
    · subst hik
      simp only [if_true, hkc, hk, Option.some.injEq] at hi hy
      rw [← hi, ← hy]
      exact (hx _ (j4 k _ _ hg (List.getElem?_eq_getElem hk))).keep (kk.mono inn_ge)
    · rw [if_neg hik] at hi hy
      exact (j4 i ds y hi hy).keep (kk.mono inn_ge)
/-- A store into the state's own cell 0: the time. -/
theorem Aft.setNow {w : World} {base : Bs} {g : Nat} {vp vj vw : Value} {s : St} (h : Aft w base g vp vj vw s) (n : Int) : Aft (w.setCell ⟨g, 0, none⟩ (.int .i64 n)) base g vp vj vw { s with now := n } ∧ Keep (ge base) w (w.setCell ⟨g, 0, none⟩ (.int .i64 n)) := by
  obtain ⟨css, j1, j2, j3, j4⟩ := h.jobs
  have kb : Keep (one g) w (w.setCell ⟨g, 0, none⟩ (.int .i64 n)) := (Keep.refl (one g) w).setCell (p := ⟨g, 0, none⟩) (.inl rfl) _
  have hS : ∀ b, one g b → base ≤ b := fun b e => by cases e; exact h.ge_
  refine ⟨⟨?_, h.ge_, own_keep h.strs kb (own_apart h.strs h.blk (by decide)), h.jobs.keep kb hS (own_apart j3 h.blk (by decide)), own_keep h.wks kb (own_apart h.wks h.blk (by decide))⟩, kb.mono hS⟩
  have := h.blk.set_ 0 (.int .i64 n)
  simpa using this
/-- A step that touches nothing of the state. -/
theorem Aft.far {w w' : World} {S : Nat → Prop} {base : Bs} {g : Nat} {vp vj vw : Value} {s : St} (h : Aft w base g vp vj vw s) (k : Keep S w w') (hg : ¬ S g) (hS : ∀ b, S b → base ≤ b) (h1 : ∀ b, vp.ownBlock = some b → ¬ S b) (h2 : ∀ b, vj.ownBlock = some b → ¬ S b) (h3 : ∀ b, vw.ownBlock = some b → ¬ S b) : Aft w' base g vp vj vw s :=
  ⟨h.blk.keep k hg, h.ge_, own_keep h.strs k h1, h.jobs.keep k hS h2, own_keep h.wks k h3⟩

/-- A report. -/
structure Ot where
  kind : Int
  job : ByteArray
  worker : ByteArray
def otCells (l : List Ot) : List Value := l.flatMap fun x => [.int .i64 x.kind, .string x.job, .string x.worker]
theorem otCells_snoc (l : List Ot) (x : Ot) : otCells (l ++ [x]) = otCells l ++ [.int .i64 x.kind, .string x.job, .string x.worker] := by simp [otCells]
/-- What a method that reports leaves. -/
def MethPost2 (base : Bs) (g : Nat) (r : Int) (os : List Ot) (s' : St) (w : World) (e : Ending) (w' : World) : Prop :=
  ∃ vo vp vj vw, e = .returned (.tuple #[vo, .int .i64 r]) ∧ w'.ownsRow base 125 3 vo os.length (otCells os) ∧ Aft w' base g vp vj vw s' ∧ Keep (ge base) w w'
theorem out_info : (Tryz.prog.info? 125).map (fun i => (i.zero, i.size, i.bytes)) = some (some (.agg #[.int .i64 0, .string ⟨#[]⟩, .string ⟨#[]⟩]), 3, 40) := by kernel_rfl
end Go.Proofs.YtnefbeplgfdkkaaGreatDoor
