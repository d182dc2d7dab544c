/-
  farm.Run, from any state: in the words of the reference's.
-/
import Derived.Test.YtnefbeplgfdkkaaGreatDoorRu47
import Derived.Test.YtnefbeplgfdkkaaGreatDoorRu35
import Derived.Test.YtnefbeplgfdkkaaGreatDoorRu48
import Derived.Test.YtnefbeplgfdkkaaGreatDoorRu49
namespace Go.Proofs.YtnefbeplgfdkkaaGreatDoor
open Go.RowKit

def RunPostR (s : St) (l : List Ev) (w : World) (en : Ending) (w' : World) : Prop :=
  ∃ v' vo ve, en = .returned (.tuple #[v', vo, ve]) ∧ StateOf w' none_ v' (runS s l) ∧ OutsOf w' vo (runO s l) ∧ ErrsOf w' ve (runE s l) ∧ Keep none_ w w'
/-- The error numbers when k of n are laid. -/
def badErrs (n k : Nat) : List Int := List.replicate k 1 ++ List.replicate (n - k) 0
theorem badErrs_set (n k : Nat) (hk : k < n) : (badErrs n k).set k 1 = badErrs n (k + 1) := by
  unfold badErrs
  rw [List.set_append_right _ _ (by simp), List.length_replicate, Nat.sub_self, show n - k = (n - (k + 1)) + 1 by omega, List.replicate_succ, List.set_cons_zero, List.replicate_succ', List.append_assoc]
  rfl
theorem badErrs_len (n k : Nat) (hk : k ≤ n) : (badErrs n k).length = n := by
  unfold badErrs
  simp
  omega

set_option maxRecDepth 100000 in
set_option maxHeartbeats 1000000 in
theorem run_bad (s : St) (l : List Ev) (v vl : Value) (S S' : Nat → Prop) (w : World) (h : StateOf w S v s) (hl : EvsOf w S' vl l) (hv : validF s = false) (hn : l.length ≤ 64) :
    Calls Tryz.prog 27 #[v, vl] w (RunPostR s l w) := by
  obtain ⟨vp, vj, vw, rfl, rest⟩ := (id h : StateOf w S v s)
  obtain ⟨hsp, hsj, hsw⟩ := rest
  obtain ⟨Ap, np, cp, rfl, -⟩ := hsp
  obtain ⟨Aj, nj, cj, rfl, -⟩ := hsj
  obtain ⟨Aw, nw, cw, rfl, -⟩ := hsw
  obtain ⟨Al, nl, cl, rfl, hlr⟩ := (id hl : EvsOf w S' vl l)
  have hln : l.length = nl := hlr.2.2.1
  have hlc := hlr.1
  have hlm := hlr.2.1
  unfold maxLen at hlm
  obtain ⟨W0, hW0⟩ : ∃ W0, W0 = (w.alloc (.cells #[.int .i64 s.now, .slice Ap np cp, .slice Aj nj cj, .slice Aw nw cw] 48)).alloc (.cells #[.int .i64 0, .slice none 0 0, .slice none 0 0, .slice none 0 0] 48) := ⟨_, rfl⟩
  obtain ⟨b0, b1, k0⟩ := two (w := w) (t0 := 48) (c0 := #[.int .i64 s.now, .slice Ap np cp, .slice Aj nj cj, .slice Aw nw cw]) (t1 := 48) (c1 := #[.int .i64 0, .slice none 0 0, .slice none 0 0, .slice none 0 0]) (w1 := W0) (hW0 ▸ Keep.refl none_ W0)
  have HS := Lib.hid ((h.fresh.keep k0.weak))
  have B0 := Lib.hid b0
  have B1 := Lib.hid b1
  have K0 := Lib.hid k0
  have HLN := Lib.hid hln
  have hnl : nl ≤ 64 := by omega
  have l0 := b1.lt
  have E1 := Lib.hid (show runS s l = zeroSt by unfold runS; rw [hv]; rfl)
  have E2 := Lib.hid (show runO s l = [] by unfold runO; rw [hv]; rfl)
  have E3 := Lib.hid (show runE s l = List.replicate nl 1 by unfold runE; rw [hv, ← hln]; simp [List.map_const'])
  have HV := Lib.hid hv
  clear h hl hlr b0 b1 k0 hv hln
  go_enter Tryz.func27, Tryz.ntmps27
  go_upto_region 1 with (fail)
  rw [← hW0]
  clear hW0
  have mk := mk_err nl (by omega) W0
  obtain ⟨W1, hW1⟩ : ∃ W1, W1 = W0.alloc (.cells ((List.replicate nl (0 : Int)).map (Value.int .i64)).toArray 37) := ⟨_, rfl⟩
  rw [← hW1] at mk
  have HW1 := Lib.hid hW1
  clear hW1
  go_upto_region 2 with (fail)
  have hW1 := HW1.out
  have k1 : Keep none_ W0 W1 := hW1 ▸ (Keep.refl none_ W0).alloc _
  have b1 : Blk W1 W0.heap.size 37 ((badErrs nl 0).map (Value.int .i64)).toArray := by
    rw [hW1]
    have := Blk.new W0 37 ((List.replicate nl (0 : Int)).map (Value.int .i64)).toArray
    simpa [badErrs] using this
  have VA := Lib.hid (valid_any s _ _ W1 ((HS.out.keep k1.weak)))
  rw [HV.out] at VA
  have K1 := Lib.hid k1
  have BE := Lib.hid b1
  have BS1 := Lib.hid (B0.out.keep k1 (fun e => e))
  have lE := b1.lt
  clear hW1 HW1 mk k1 b1
  have t1 : True := trivial
  go_upto_region 3 with (first | (have _t := t1; refine wpList_load_part 48 (.tmp 2) rfl rfl w.heap.size 0 rfl #[.int .i64 s.now, .slice Ap np cp, .slice Aj nj cj, .slice Aw nw cw] _ BS1.out.rangeAt Tryz.underlying48 rfl (by kernel_rfl) ?_; go_frame; clear _t t1) | (go_at_call 17; refine VA.out.mono ?_; rintro en w2 ⟨rfl, k2⟩; have K2 := Lib.hid k2; clear k2 VA))
  have BE2 := Lib.hid (BE.out.keep K2.out (fun e => e))
  have BR2 := Lib.hid (B1.out.keep (K1.out.trans K2.out) (fun e => e))
  have KK := Lib.hid (K0.out.trans (K1.out.trans K2.out))
  clear HS BS1 BE B0 B1 K1 K2 K0 HV
  go_wp2
  go_loopw [23] (fun i wr => ∃ k : Nat, k ≤ nl ∧ i = .int .i64 k ∧ Blk wr W0.heap.size 37 ((badErrs nl k).map (Value.int .i64)).toArray ∧ Blk wr (w.heap.size + 1) 48 #[.int .i64 0, .slice none 0 0, .slice none 0 0, .slice none 0 0] ∧ Keep none_ w wr) (fun i _ => nl - (intOf i).toNat)
  case atStart => exact ⟨0, Nat.zero_le _, rfl, BE2.out, BR2.out, KK.out⟩
  case round =>
    obtain ⟨k, hk, rfl, hE, hR, hkr⟩ := hrel
    have HR := Lib.hid hR
    have HE := Lib.hid hE
    have HK := Lib.hid hkr
    have lwr := hkr.size
    by_cases hlt : k < nl
    · have hlt' : (k : Int) < nl := by omega
      have f1 := hE.cell k
      have ek : ((badErrs nl k).map (Value.int .i64)).toArray[k]? = some (.int .i64 ((badErrs nl k).getD k 0)) := by
        have : k < (badErrs nl k).length := by rw [badErrs_len nl k hk]; exact hlt
        simp [this]
      rw [ek] at f1
      have f2 := hE.frozen k
      have b5 := hE.set_ k (.int .i64 1)
      rw [errs_set, badErrs_set nl k hlt] at b5
      have k5 : Keep (one W0.heap.size) wr (wr.setCell ⟨W0.heap.size, k, none⟩ (.int .i64 1)) := (Keep.refl (one W0.heap.size) wr).setCell (p := ⟨W0.heap.size, k, none⟩) (.inl rfl) _
      have R1 := Lib.hid b5
      have R2 := Lib.hid (hR.keep k5 (fun e => by unfold one at e; omega))
      have R3 := Lib.hid (hkr.own k5 (by omega))
      clear hE hR hkr ek b5 k5
      go_wp2
      go_roundw
      case rel => exact ⟨k + 1, hlt, by go_num, R1.out, R2.out, R3.out⟩
      case measure => simp [intOf]; omega
    · obtain rfl : nl = k := by omega
      have zs := zero_state wr
      have t2 : True := trivial
      have hnn : ¬ (nl : Int) < nl := by omega
      clear hE hR hkr
      go_wp2_with (have _t := t2; refine wpList_store_blk rfl 48 (.tmp 4) (.tmp 30) rfl (w.heap.size + 1) 48 _ _ rfl rfl HR.out rfl (by kernel_rfl) (by simp [Value.oneCell']) ?_; intro w9 b9 k9 s9; go_frame; clear _t t2)
      have e6 := HE.out.keep k9 (fun e => by unfold one at e; omega)
      refine ⟨rfl, _, results_cell_tmp2 Tryz.results27 rfl (run_loadVar_blk b9 Tryz.underlying48 rfl (by kernel_rfl)), _, _, _, rfl, by rw [E1.out]; exact zeroSt_of _ _, by rw [E2.out]; exact OutsOf.nil _, ?_, HK.out.own k9 (by omega)⟩
      have hes : badErrs nl nl = List.replicate nl 1 := by unfold badErrs; simp
      rw [hes] at e6
      rw [E3.out]
      refine ⟨some ⟨W0.heap.size, 0, none⟩, nl, by rw [List.length_replicate]; rfl, ⟨by simp, by rw [List.length_replicate]; exact Nat.le_refl _, by unfold maxLen; omega, fun _ => ⟨W0.heap.size, 0, rfl, fun e => e, fun j u hu => ?_⟩⟩⟩
      rw [Nat.zero_add, e6.cell, List.getElem?_toArray]
      exact hu
theorem run_all (s : St) (l : List Ev) (v vl : Value) (S S' : Nat → Prop) (w : World) (h : StateOf w S v s) (hl : EvsOf w S' vl l) (hi : ItsC s) (hie : ∀ e ∈ l, Clb e.items) (hn : l.length ≤ 64) :
    Calls Tryz.prog 27 #[v, vl] w (RunPostR s l w) := by
  cases hv : validF s with
  | false => exact run_bad s l v vl S S' w h hl hv hn
  | true =>
    refine (run_gen s l v vl S S' w h hl ((valid_iff s).1 hv) hi hie hn).mono ?_
    rintro en w' ⟨v', vo, ve, rfl, h1, h2, h3, h4⟩
    refine ⟨v', vo, ve, rfl, ?_, ?_, ?_, h4⟩
    · unfold runS; rw [hv]; exact h1
    · unfold runO; rw [hv]; exact h2
    · unfold runE; rw [hv]; exact h3
end Go.Proofs.YtnefbeplgfdkkaaGreatDoor
/-
  FarmRuns: what the walk is told of states and events; the region 'l := append(events(x, 8), e)'.
-/
namespace Go.Proofs.YtnefbeplgfdkkaaGreatDoor
open Go.RowKit

/-- Items that can be copied and compared. -/
def ItK (l : List Itm) : Prop := Clb l ∧ ∀ x ∈ l, SameOk x
structure KSt (s : St) : Prop where
  sz : SzS s
  it : AllI ItK s
structure KEv (e : Ev) : Prop where
  sz : SzE e
  it : ItK e.items
  n : e.items.length * 296 ≤ 140737488355328
theorem ItK.nil : ItK [] := ⟨ItOk.nil.c, fun _ h => by cases h⟩
theorem KSt.c {s : St} (h : KSt s) : ItsC s := fun j hj => (h.it j hj).1
theorem KSt.same {s : St} (h : AllI ItK s) : ∀ j ∈ s.jobs, ∀ x ∈ j.items, SameOk x := fun j hj => (h j hj).2
theorem AllI.zero {I : List Itm → Prop} : AllI I zeroSt := fun _ h => by cases h
theorem AllI.step {I : List Itm → Prop} (h0 : I []) {s : St} {e : Ev} (h : AllI I s) (he : I e.items) : AllI I (stepS s e) := by
  unfold stepS
  split
  · exact per_all h0 h he
  · exact AllI.zero
theorem AllI.run {I : List Itm → Prop} (h0 : I []) {s : St} {l : List Ev} (h : AllI I s) (hl : ∀ e ∈ l, I e.items) : AllI I (runS s l) := by
  unfold runS
  split
  · exact AllI.go h0 h l hl
  · exact AllI.zero
theorem GenEv.k {e : Ev} (h : GenEv e) : KEv e := ⟨evOk_sz h.ok, ⟨h.items.c, fun x hx => sameItem_end x (h.ends x hx)⟩, by have := h.items.2; omega⟩
theorem KSt.zero : KSt zeroSt := ⟨V.zero.szs, AllI.zero⟩
theorem KSt.gen {l : List Ev} (hl : ∀ e ∈ l, GenEv e) : KSt (runS zeroSt l) := by
  refine ⟨?_, AllI.run ItK.nil AllI.zero (fun e he => (hl e he).k.it)⟩
  unfold runS
  rw [(valid_iff _).2 V.zero]
  exact (V.zero.go l).szs
theorem XT.fits (n : Nat) : XFits XT n := fun _ _ _ _ _ _ _ _ _ => trivial
theorem none_szs (w : World) : ∀ b, none_ b → b < w.heap.size := fun _ e => e.elim
theorem rstepK (s : St) (e : Ev) (v ve : Value) (w : World) (hs : KSt s) (hv : KEv e) (h : StateOf w none_ v s) (he : EvOf w none_ ve e) : Calls Tryz.prog 24 #[v, ve] w (StepPost s e w) := by
  refine (rstep_any XT s e v ve none_ w h.x he (none_szs w) hs.sz hv.sz hv.n (fun _ => XT.fits _)).mono ?_
  rintro en w' ⟨v', vo, rfl, h1, h2, h3⟩
  exact ⟨v', vo, rfl, (h1.stateX (S' := none_) (fun _ e => e.elim) (fun _ _ _ _ _ e => e.elim)).state, OutsOf.own h2, h3⟩
theorem rrunK (s : St) (l : List Ev) (v vl : Value) (w : World) (hs : KSt s) (hv : ∀ e ∈ l, KEv e) (h : StateOf w none_ v s) (hl : EvsOf w none_ vl l) (hn : l.length ≤ 64) : Calls Tryz.prog 15 #[v, vl] w (RunPostR s l w) := by
  refine (rrun_any XT s l v vl none_ w h.x hl (none_szs w) hs.sz (fun e he => (hv e he).sz) (fun e he => (hv e he).n) (fun _ _ _ => XT.fits _) hn).mono ?_
  rintro en w' ⟨v', vo, ve, rfl, h1, h2, h3, h4⟩
  exact ⟨v', vo, ve, rfl, (h1.stateX (S' := none_) (fun _ e => e.elim) (fun _ _ _ _ _ e => e.elim)).state, h2, h3, h4⟩
theorem stepK (s : St) (e : Ev) (v ve : Value) (w : World) (hs : KSt s) (hv : KEv e) (h : StateOf w none_ v s) (he : EvOf w none_ ve e) : Calls Tryz.prog 22 #[v, ve] w (StepPost s e w) := step_gen s e v ve none_ none_ w h he hs.c hv.it.1
theorem runK (s : St) (l : List Ev) (v vl : Value) (w : World) (hs : KSt s) (hv : ∀ e ∈ l, KEv e) (h : StateOf w none_ v s) (hl : EvsOf w none_ vl l) (hn : l.length ≤ 64) : Calls Tryz.prog 27 #[v, vl] w (RunPostR s l w) := run_all s l v vl none_ none_ w h hl hs.c (fun e he => (hv e he).it.1) hn

theorem runs_rn {g lo : Nat} {w1 : World} {vl : Value} {l : List Ev} {css : List (List Value)} (hg : g < lo) (hlo : lo ≤ w1.heap.size) (ho : w1.ownsRow lo 78 6 vl l.length css.flatten) (hE : All2 (EvOwn w1 lo) css l) (hl : l.length ≤ 64) (hG : ∀ x ∈ l, GenEv x) :
    Calls Tryz.prog 15 #[.agg #[.int .i64 0, .slice none 0 0, .slice none 0 0, .slice none 0 0], vl] w1 fun en w' =>
      ∃ v' vo ve, en = .returned (.tuple #[v', vo, ve]) ∧ StateOf w' (orr (one g) w'.heap.size) v' (runS zeroSt l) ∧ OutsOf w' vo (runO zeroSt l) ∧ ErrsOf w' ve (runE zeroSt l) ∧ Keep none_ w1 w' := by
  have BL : ∀ b, lo ≤ b → ¬ one g b := fun b h1 h2 => by unfold one at h2; omega
  have EO := EvsOf.own0 (S := one g) BL ho (hE.imp (fun _ _ h => h.cs0 BL))
  refine (rrun_any XT zeroSt l _ _ (one g) w1 ((RSt.zero XT w1 lo (one g)).stateX (fun _ e => e) (fun b _ _ h1 _ h2 => (BL b h1 h2).elim)) EO (fun b e => by unfold one at e; omega) V.zero.szs (fun e he => evOk_sz (hG e he).ok) (fun e he => by have := (hG e he).items.2; omega) (fun _ _ _ => XT.fits _) hl).mono ?_
  rintro en w' ⟨v', vo, ve, rfl, h1, h2, h3, h4⟩
  exact ⟨v', vo, ve, rfl, (h1.stateX (S' := one g) (fun _ e => .inl e) (fun b _ _ h5 _ h6 => by unfold one at h6; omega)).orr.state, h2, h3, h4⟩

/-- The facts of 'l := append(events(x, 8), e)', but for the append. -/
def lT (lo : Nat) (ecs : Array Value) (k : Nat) (v : Value) (y : World) : Prop :=
  if k = 1 then ∃ l css lo', lo ≤ lo' ∧ lo' ≤ y.heap.size ∧ y.ownsRow lo' 78 6 v l.length css.flatten ∧ All2 (EvOwn y lo') css l ∧ l.length ≤ 8 ∧ ∀ e ∈ l, GenEv e else ∃ b, lo ≤ b ∧ v = .slice (some ⟨b, 0, none⟩) 1 1 ∧ Blk y b 78 ecs
def lCalm (wr : World) (g M : Nat) (ecs : Array Value) : Calm where
  R := fun i => Keep (fun b => i = 1 ∧ b = g)
  G := fun n y => Keep (one g) wr y ∧ TapeAt y g (M + 400 * n)
  eff := [1, 3]
  T := fun k _ v y => lT wr.heap.size ecs k v y
  anc := fun _ => []
  own := fun _ _ _ => False
theorem lCalm_good {wr : World} {g M : Nat} {ecs : Array Value} (hg : g < wr.heap.size) : (lCalm wr g M ecs).Good where
  mono := fun _ _ h => ⟨h.1, h.2.mono (by omega)⟩
  size := fun _ _ _ h => h.size
  stable := fun i k _ v w1 w2 he hne h hR => by
    simp only [lCalm, lT] at h hR ⊢
    by_cases k1 : k = 1
    · rw [if_pos k1] at h ⊢
      have hN : Keep none_ w1 w2 := hR.mono (fun b e => absurd (e.1.trans k1.symm) hne)
      obtain ⟨l, css, lo', h1, h6, h2, h3, h4, h5⟩ := h
      exact ⟨l, css, lo', h1, Nat.le_trans h6 hN.size, own_keep h2 hN (fun _ _ e => e), h3.imp (fun _ _ h => h.keep hN (fun _ _ _ e => e.elim)), h4, h5⟩
    · rw [if_neg k1] at h ⊢
      obtain ⟨b, h1, h2, h3⟩ := h
      exact ⟨b, h1, h2, h3.keep hR (fun e => by omega)⟩
theorem lCalm_at {wr : World} {g M : Nat} {ecs : Array Value} (x : (lCalm wr g M ecs).Sub) : Keep (one g) wr ((lCalm wr g M ecs).at_ x) := by
  obtain ⟨x, n, _, h⟩ := x
  exact h.1
theorem lCalm_some {wr : World} {g M : Nat} {ecs : Array Value} (h : TapeAt wr g M) : Nonempty (lCalm wr g M ecs).Sub := ⟨⟨wr, 0, Nat.zero_le _, Keep.refl _ _, h⟩⟩
/-- The list with one more event. -/
theorem evs_snoc {w w' : World} {lo : Nat} {v v' : Value} {l : List Ev} {css : List (List Value)} {e : Ev} {ecs : List Value} (ho : w.ownsRow lo 78 6 v l.length css.flatten) (hE : All2 (EvOwn w lo) css l) (k : Keep (ofBlk v) w w') (o' : w'.ownsRow lo 78 6 v' (l.length + 1) (css.flatten ++ ecs)) (he : EvCs w' none_ ecs e) :
    EvsOf w' none_ v' (l ++ [e]) := by
  have hE' : All2 (EvOwn w' lo) css l := hE.imp (fun _ _ h => h.keep k (fun b t cs hb _ hk => by rw [own_type ho hk hb]; decide))
  obtain ⟨A, c, rfl, r⟩ := own_row (S := none_) o' (fun _ _ e => e)
  obtain ⟨g1, g2⟩ := hE'.get
  have e2 : (css ++ [ecs]).flatten = css.flatten ++ ecs := by simp
  rw [← e2] at r
  have hln : l.length + 1 = (l ++ [e]).length := by simp
  rw [hln] at r
  rw [hln]
  have all : ∀ (i : Nat) (cs : List Value) (y : Ev), (css ++ [ecs])[i]? = some cs → (l ++ [e])[i]? = some y → EvCs w' none_ cs y := fun i cs y hi hy => by
    rw [List.getElem?_append] at hi hy
    by_cases hlt : i < l.length
    · rw [if_pos (by omega)] at hi
      rw [if_pos hlt] at hy
      exact (g2 i cs y hi hy).cs
    · rw [if_neg (by omega)] at hi
      rw [if_neg hlt] at hy
      have e1 : i - css.length = 0 := by
        have := (List.getElem?_eq_some_iff.1 hi).1
        simpa using this
      have e3 : i - l.length = 0 := by omega
      rw [e1] at hi
      rw [e3] at hy
      simp only [List.getElem?_cons_zero, Option.some.injEq] at hi hy
      rw [← hi, ← hy]
      exact he
  refine ElemsOf.of_row rfl (by simp [g1]) (fun x hx => ?_) r all
  obtain ⟨i, hi, rfl⟩ := List.mem_iff_getElem.1 hx
  exact EvCs.len (all i _ _ (List.getElem?_eq_getElem hi) (List.getElem?_eq_getElem (by simp only [List.length_append, List.length_cons, List.length_nil] at hi ⊢; omega)))
theorem Blk.part {w : World} {g : Nat} {t : TypeId} {cs : Array Value} (h : Blk w g t cs) (o : Nat) (xs : List Value) (hx : ∀ j u, xs[j]? = some u → cs[o + j]? = some u) : w.rangeAt g o xs := fun j u hu => by
  rw [h.cell]
  exact hx j u hu
theorem part4 {cs : Array Value} {o : Nat} {a b c d : Value} (h0 : cs[o]? = some a) (h1 : cs[o + 1]? = some b) (h2 : cs[o + 2]? = some c) (h3 : cs[o + 3]? = some d) : ∀ j u, [a, b, c, d][j]? = some u → cs[o + j]? = some u := fun j u hu => by
  have hj : j < 4 := (List.getElem?_eq_some_iff.1 hu).1
  rcases (show j = 0 ∨ j = 1 ∨ j = 2 ∨ j = 3 by omega) with rfl | rfl | rfl | rfl <;> simp only [List.getElem?_cons_zero, List.getElem?_cons_succ, Option.some.injEq] at hu <;> subst hu
  · exact h0
  · exact h1
  · exact h2
  · exact h3
end Go.Proofs.YtnefbeplgfdkkaaGreatDoor
