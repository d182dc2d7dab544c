/-
  (*State).submit.
-/
import Derived.Test.YtnefbeplgfdkkaaGreatDoorJb09
namespace Go.Proofs.YtnefbeplgfdkkaaGreatDoor
open Go.RowKit

theorem job_info : (Tryz.prog.info? 57).map (fun i => (i.zero, i.size, i.bytes)) = some (some (.agg #[.string ⟨#[]⟩, .slice none 0 0, .string ⟨#[]⟩, .int .i64 0, .int .i64 0, .bool false, .slice none 0 0]), 7, 104) := by kernel_rfl
theorem ItemsOf.nil (w : World) (S : Nat → Prop) : ItemsOf w S (.slice none 0 0) [] := ⟨none, 0, 0, rfl, Nat.le_refl _, Nat.zero_le _, rfl, fun h => absurd h (by omega)⟩
theorem Aft.newJob {w w6 : World} {base : Bs} {g : Nat} {vp vj vw v6 : Value} {s : St} {x : Jb} {cs : List Value} (h : Aft w base g vp vj vw s) (k : Keep (ofBlk vj) w w6) (hcs : cs.length = 7) (hx : JbOf w (inn base) cs x)
    (o : ∀ css : List (List Value), w.ownsRow base 57 7 vj s.jobs.length css.flatten → w6.ownsRow base 57 7 v6 (s.jobs.length + 1) (css.flatten ++ cs)) :
    Aft (w6.setCell ⟨g, 2, none⟩ v6) base g vp v6 vw { s with jobs := s.jobs ++ [x] } ∧ Keep (ge base) w (w6.setCell ⟨g, 2, none⟩ v6) := by
  obtain ⟨css, j1, j2, j3, j4⟩ := h.jobs
  have hge : ∀ b, ofBlk vj b → base ≤ b := fun b e => own_ge j3 b e
  have nog : ¬ ofBlk vj g := fun e => own_apart j3 h.blk (by decide) g e rfl
  have b6 := h.blk.keep k nog
  have s6 := own_keep h.strs k (own_apart2 h.strs j3 (by decide))
  have q6 := own_keep h.wks k (own_apart2 h.wks j3 (by decide))
  have o6 := o css j3
  have kg : Keep (one g) w6 (w6.setCell ⟨g, 2, none⟩ v6) := (Keep.refl (one g) w6).setCell (p := ⟨g, 2, none⟩) (.inl rfl) v6
  have kk : Keep (ge base) w (w6.setCell ⟨g, 2, none⟩ v6) := (k.mono hge).trans (kg.mono (fun b e => by cases e; exact h.ge_))
  refine ⟨⟨?_, h.ge_, own_keep s6 kg (own_apart s6 b6 (by decide)), ⟨css ++ [cs], by simp [j1], fun y hy => ?_, ?_, fun i ds y hi hy => ?_⟩, own_keep q6 kg (own_apart q6 b6 (by decide))⟩, kk⟩
  · have := b6.set_ 2 v6
    simpa using this
  · rcases List.mem_append.1 hy with hy | hy
    · exact j2 y hy
    · simp at hy; rw [hy]; exact hcs
  · have := own_keep o6 kg (own_apart o6 b6 (by decide))
    simp only [List.flatten_append, List.length_append, List.length_cons, List.length_nil, List.flatten_cons, List.flatten_nil, List.append_nil]
    exact this
  · rw [List.getElem?_append] at hi hy
    by_cases hlt : i < s.jobs.length
    · rw [if_pos (by omega)] at hi
      rw [if_pos hlt] at hy
      exact (j4 i ds y hi hy).keep (kk.mono inn_ge)
    · rw [if_neg (by omega)] at hi
      rw [if_neg hlt] at hy
      have e1 : i - css.length = 0 := by
        have := (List.getElem?_eq_some_iff.1 hi).1
        simpa using this
      have e2 : i - s.jobs.length = 0 := by omega
      rw [e1] at hi
      rw [e2] at hy
      simp at hi hy
      rw [← hi, ← hy]
      exact hx.keep (kk.mono inn_ge)

theorem own_unique {w : World} {base : Nat} {e : TypeId} {size : Nat} {v : Value} {n : Nat} {xs ys : List Value} (h : w.ownsRow base e size v n xs) (h' : w.ownsRow base e size v n ys) : xs = ys := by
  rcases h.2 with ⟨rfl, h0⟩ | ⟨g, cap, cur, e1, e2, e3, r1, r2, r3, r4⟩
  · have a := h.1
    have b := h'.1
    subst h0
    rw [Nat.zero_mul] at a b
    rw [List.eq_nil_of_length_eq_zero a, List.eq_nil_of_length_eq_zero b]
  · rcases h'.2 with ⟨rfl, h0⟩ | ⟨g', cap', cur', e1', e2', e3', r1', r2', r3', r4'⟩
    · cases e1
    · rw [e1] at e1'
      simp only [Value.slice.injEq, Option.some.injEq, Addr.mk.injEq, and_true, true_and] at e1'
      obtain ⟨rfl, rfl⟩ := e1'
      rw [e3] at e3'
      simp only [Option.some.injEq, Obj.cells.injEq, and_true] at e3'
      rw [← r4, ← r4', e3']
/-- 37.3: submit. -/
def freshJob (x : ByteArray) (needs : List ByteArray) : Jb := ⟨x, needs, ⟨#[]⟩, 0, 0, false, []⟩
def submitE (s : St) (x : ByteArray) : Int := if 0 ≤ jbIdx s.jobs x then 8 else if 64 ≤ s.jobs.length then 18 else 0
def submitS (s : St) (x : ByteArray) (needs : List ByteArray) : St := if 0 ≤ jbIdx s.jobs x then s else if 64 ≤ s.jobs.length then s else { s with jobs := s.jobs ++ [freshJob x needs] }

set_option maxRecDepth 100000 in
set_option maxHeartbeats 400000 in
theorem submit_any (s : St) (vp vj vw vn : Value) (base : Bs) (g : Nat) (x : ByteArray) (needs : List ByteArray) (w : World) (h : Aft w base g vp vj vw s) (hn : StrsOf w (inn base) vn needs) :
    Calls Tryz.prog 74 #[.pointer (some ⟨g, 0, none⟩), .string x, vn] w (MethPost base g (submitE s x) (submitS s x needs) w) := by
  obtain ⟨A, c, rfl, hj⟩ := ElemsOf_jobs h.jobs
  have c2 := h.blk.cell 2
  simp only [List.getElem?_toArray, List.getElem?_cons_zero, List.getElem?_cons_succ] at c2
  obtain ⟨-, h1, h2⟩ := hj.facts
  unfold maxLen at h2
  have JB := Lib.hid (job_any s.jobs A s.jobs.length c g none_ x w c2 hj)
  have HA := Lib.hid h
  have HN := Lib.hid hn
  obtain ⟨An, nn, cn, rfl, -⟩ := hn
  have aE : submitE s x = if 0 ≤ jbIdx s.jobs x then 8 else if 64 ≤ s.jobs.length then 18 else 0 := rfl
  have aS : submitS s x needs = if 0 ≤ jbIdx s.jobs x then s else if 64 ≤ s.jobs.length then s else { s with jobs := s.jobs ++ [freshJob x needs] } := rfl
  rcases idx_cases (fun y : Jb => strEq y.name x) s.jobs with hi | ⟨k, hk, hi, -⟩
  · rw [hi] at JB
    have hi' : ¬ 0 ≤ jbIdx s.jobs x := by unfold jbIdx; rw [hi]; decide
    rw [if_neg hi'] at aE aS
    by_cases h64 : 64 ≤ s.jobs.length
    · have h64' : (64 : Int) ≤ s.jobs.length := by omega
      rw [if_pos h64] at aE aS
      have E1 := Lib.hid aE
      have E2 := Lib.hid aS
      clear aE aS hi hi' hj h
      go_enter Tryz.func74, Tryz.ntmps74
      go_upto_region 3 with (go_at_call 97; refine JB.out.mono ?_; rintro e w5 ⟨rfl, k5⟩)
      have d2 := k5.cell c2 (fun e => e)
      go_wp2
      go_ret
      exact ⟨_, _, _, ret_int E1.out.symm, by rw [E2.out]; exact HA.out.keep k5, k5.weak⟩
    · have h64' : ¬ (64 : Int) ≤ s.jobs.length := by omega
      rw [if_neg h64] at aE aS
      have E1 := Lib.hid aE
      have E2 := Lib.hid aS
      clear aE aS hi hi' hj h
      go_enter Tryz.func74, Tryz.ntmps74
      go_upto_region 3 with (go_at_call 97; refine JB.out.mono ?_; rintro e w5 ⟨rfl, k5⟩)
      have d2 := k5.cell c2 (fun e => e)
      have H5 := Lib.hid (HA.out.keep k5)
      have K5 := Lib.hid k5
      have hbs := H5.out.ge_
      have lg := H5.out.blk.lt
      obtain ⟨nw, hnw⟩ : ∃ nw : Array Value, nw = #[.string x, .slice An nn cn, .string ⟨#[]⟩, .int .i64 0, .int .i64 0, .bool false, .slice none 0 0] := ⟨_, rfl⟩
      have KA : Keep none_ w5 (w5.alloc (.cells #[.string x, .slice An nn cn, .string ⟨#[]⟩, .int .i64 0, .int .i64 0, .bool false, .slice none 0 0] 57)) := (Keep.refl none_ w5).alloc _
      have H6 := Lib.hid (H5.out.keep KA)
      have N6 := Lib.hid (HN.out.keep (k5.trans KA).weak)
      obtain ⟨css, j1, j2, j3, j4⟩ := H6.out.jobs
      have J3 := Lib.hid j3
      have nog : ¬ ofBlk (.slice A s.jobs.length c) g := fun e => own_apart j3 H6.out.blk (by decide) g e rfl
      have B6 := Lib.hid H6.out.blk
      clear KA k5 j1 j2 j3 j4 hnw c2
      have t1 : True := trivial
      go_wp2_with (have _t := t1; refine wpList_append_blk (.tmp 21) (.tmp 25) 45 57 rfl rfl base _ 7 104 Tryz.underlying45 job_info rfl (by decide) (.slice A s.jobs.length c) s.jobs.length css.flatten rfl J3.out w5.heap.size #[.string x, .slice An nn cn, .string ⟨#[]⟩, .int .i64 0, .int .i64 0, .bool false, .slice none 0 0] rfl (Blk.new _ _ _) rfl (by simp [Value.oneCell']) (by omega) (by simp; omega) ?_; intro A6 c6 w6 o6 k6; have B7 := B6.out.keep k6 nog; have y3 := B7.cell 2; have z3 := B7.frozen 2; simp only [List.getElem?_toArray, List.getElem?_cons_zero, List.getElem?_cons_succ] at y3; have O6 := Lib.hid o6; clear o6 B7; go_frame; clear _t t1)
      go_ret
      obtain ⟨q1, q2⟩ := H6.out.newJob (x := freshJob x needs) (cs := [.string x, .slice An nn cn, .string ⟨#[]⟩, .int .i64 0, .int .i64 0, .bool false, .slice none 0 0]) k6 rfl ⟨_, _, rfl, N6.out, ItemsOf.nil _ _⟩ (fun css' h' => by rw [own_unique h' J3.out]; exact O6.out)
      exact ⟨_, _, _, ret_int E1.out.symm, by rw [E2.out]; exact q1, K5.out.weak.trans (((Keep.refl none_ w5).alloc _).weak.trans q2)⟩
  · rw [hi] at JB
    have hi' : 0 ≤ jbIdx s.jobs x := by unfold jbIdx; rw [hi]; omega
    rw [if_pos hi'] at aE aS
    have E1 := Lib.hid aE
    have E2 := Lib.hid aS
    clear aE aS hi hi' hj h
    go_enter Tryz.func74, Tryz.ntmps74
    go_wp2_with (go_at_call 97; refine JB.out.mono ?_; rintro e w5 ⟨rfl, k5⟩)
    go_ret
    exact ⟨_, _, _, ret_int E1.out.symm, by rw [E2.out]; exact HA.out.keep k5, k5.weak⟩
end Go.Proofs.YtnefbeplgfdkkaaGreatDoor
/-
  A store into a job of the state that a step works on.
-/
namespace Go.Proofs.YtnefbeplgfdkkaaGreatDoor
open Go.RowKit

theorem flatten_set {size : Nat} : ∀ (css : List (List Value)) (_ : ∀ x ∈ css, x.length = size) (k : Nat) (cs : List Value) (_ : css[k]? = some cs) (r : Nat) (_ : r < size) (u : Value), css.flatten.set (k * size + r) u = (css.set k (cs.set r u)).flatten
  | [], _, k, cs, hi, _, _, _ => by simp at hi
  | x :: css, h, 0, cs, hi, r, hr, u => by
    simp only [List.getElem?_cons_zero, Option.some.injEq] at hi
    subst hi
    rw [List.flatten_cons, Nat.zero_mul, Nat.zero_add, List.set_append_left _ _ (by rw [h x (List.mem_cons_self ..)]; exact hr), List.set_cons_zero, List.flatten_cons]
  | x :: css, h, k + 1, cs, hi, r, hr, u => by
    have hx := h x (List.mem_cons_self ..)
    have ih := flatten_set css (fun y hy => h y (List.mem_cons_of_mem _ hy)) k cs (by simpa using hi) r hr u
    rw [List.flatten_cons, List.set_append_right _ _ (by rw [hx, Nat.succ_mul]; omega), hx, show (k + 1) * size + r - size = k * size + r by rw [Nat.succ_mul]; omega, ih, List.set_cons_succ, List.flatten_cons]
theorem Aft.setJob {w : World} {base : Bs} {g b c : Nat} {vp vw : Value} {s : St} (h : Aft w base g vp (.slice (some ⟨b, 0, none⟩) s.jobs.length c) vw s) (k : Nat) (hk : k < s.jobs.length) (r : Nat) (hr : r < 7) (u : Value) (x : Jb) (hx : ∀ cs, JbOf w (inn base) cs s.jobs[k] → JbOf w (inn base) (cs.set r u) x) :
    Aft (w.setCell ⟨b, k * 7 + r, none⟩ u) base g vp (.slice (some ⟨b, 0, none⟩) s.jobs.length c) vw { s with jobs := s.jobs.set k x } ∧ Keep (ge base) w (w.setCell ⟨b, k * 7 + r, none⟩ u) := by
  obtain ⟨css, j1, j2, j3, j4⟩ := h.jobs
  obtain ⟨b', cap, cur, eV, hb1, hb2, hb3⟩ := own_cases j3 (by omega)
  simp only [Value.slice.injEq, Option.some.injEq, Addr.mk.injEq, and_true, true_and] at eV
  obtain ⟨rfl, rfl⟩ := eV
  have kb : Keep (one b) w (w.setCell ⟨b, k * 7 + r, none⟩ u) := (Keep.refl (one b) w).setCell (p := ⟨b, k * 7 + r, none⟩) (.inl rfl) u
  have kk : Keep (ge base) w (w.setCell ⟨b, k * 7 + r, none⟩ u) := kb.mono (fun x e => by cases e; exact hb1)
  have hkc : k < css.length := by omega
  have hg : css[k]? = some css[k] := List.getElem?_eq_getElem hkc
  refine ⟨⟨h.blk.far (p := ⟨b, k * 7 + r, none⟩) (h.blk.ne_ hb2 (by decide)) u, h.ge_, own_keep h.strs kb (own_apart h.strs hb2 (by decide)), ⟨css.set k (css[k].set r u), by simp [j1], fun y hy => ?_, ?_, fun i ds y hi hy => ?_⟩, own_keep h.wks kb (own_apart h.wks hb2 (by decide))⟩, kk⟩
  · rcases List.mem_or_eq_of_mem_set hy with hy | rfl
    · exact j2 y hy
    · rw [List.length_set]; exact j2 _ (List.getElem_mem hkc)
  · have := own_set j3 (k * 7 + r) u
    rw [flatten_set css j2 k css[k] hg r hr u] at this
    simp only [List.length_set]
    exact this
  · simp only [List.getElem?_set] at hi hy
    by_cases hik : k = i
    · subst hik
      simp only [if_true, hkc, hk, Option.some.injEq] at hi hy
      rw [← hi, ← hy]
      exact (hx _ (j4 k _ _ hg (List.getElem?_eq_getElem hk))).keep (kk.mono inn_ge)
    · rw [if_neg hik] at hi hy
      exact (j4 i ds y hi hy).keep (kk.mono inn_ge)
/-- A store into the state's own cell 0: the time. -/
theorem Aft.setNow {w : World} {base : Bs} {g : Nat} {vp vj vw : Value} {s : St} (h : Aft w base g vp vj vw s) (n : Int) : Aft (w.setCell ⟨g, 0, none⟩ (.int .i64 n)) base g vp vj vw { s with now := n } ∧ Keep (ge base) w (w.setCell ⟨g, 0, none⟩ (.int .i64 n)) := by
  obtain ⟨css, j1, j2, j3, j4⟩ := h.jobs
  have kb : Keep (one g) w (w.setCell ⟨g, 0, none⟩ (.int .i64 n)) := (Keep.refl (one g) w).setCell (p := ⟨g, 0, none⟩) (.inl rfl) _
  have hS : ∀ b, one g b → base ≤ b := fun b e => by cases e; exact h.ge_
  refine ⟨⟨?_, h.ge_, own_keep h.strs kb (own_apart h.strs h.blk (by decide)), h.jobs.keep kb hS (own_apart j3 h.blk (by decide)), own_keep h.wks kb (own_apart h.wks h.blk (by decide))⟩, kb.mono hS⟩
  have := h.blk.set_ 0 (.int .i64 n)
  simpa using this
/-- A step that touches nothing of the state. -/
theorem Aft.far {w w' : World} {S : Nat → Prop} {base : Bs} {g : Nat} {vp vj vw : Value} {s : St} (h : Aft w base g vp vj vw s) (k : Keep S w w') (hg : ¬ S g) (hS : ∀ b, S b → base ≤ b) (h1 : ∀ b, vp.ownBlock = some b → ¬ S b) (h2 : ∀ b, vj.ownBlock = some b → ¬ S b) (h3 : ∀ b, vw.ownBlock = some b → ¬ S b) : Aft w' base g vp vj vw s :=
  ⟨h.blk.keep k hg, h.ge_, own_keep h.strs k h1, h.jobs.keep k hS h2, own_keep h.wks k h3⟩

/-- A report. -/
structure Ot where
  kind : Int
  job : ByteArray
  worker : ByteArray
def otCells (l : List Ot) : List Value := l.flatMap fun x => [.int .i64 x.kind, .string x.job, .string x.worker]
theorem otCells_snoc (l : List Ot) (x : Ot) : otCells (l ++ [x]) = otCells l ++ [.int .i64 x.kind, .string x.job, .string x.worker] := by simp [otCells]
/-- What a method that reports leaves. -/
def MethPost2 (base : Bs) (g : Nat) (r : Int) (os : List Ot) (s' : St) (w : World) (e : Ending) (w' : World) : Prop :=
  ∃ vo vp vj vw, e = .returned (.tuple #[vo, .int .i64 r]) ∧ w'.ownsRow base 125 3 vo os.length (otCells os) ∧ Aft w' base g vp vj vw s' ∧ Keep (ge base) w w'
theorem out_info : (Tryz.prog.info? 125).map (fun i => (i.zero, i.size, i.bytes)) = some (some (.agg #[.int .i64 0, .string ⟨#[]⟩, .string ⟨#[]⟩]), 3, 40) := by kernel_rfl
end Go.Proofs.YtnefbeplgfdkkaaGreatDoor
