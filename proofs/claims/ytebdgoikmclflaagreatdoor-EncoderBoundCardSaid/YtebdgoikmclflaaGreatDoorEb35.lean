/-
  Regions that draw their order and store what a call has answered: into a new variable, into one that was there.
-/
import Derived.Test.YtebdgoikmclflaaGreatDoorEb34
namespace Go.Proofs.YtebdgoikmclflaaGreatDoor
open Go.RowKit

/-- Calls whose values are known; operation al makes a variable of cells c0, operation st stores c1 there. -/
def varCalm (wr : World) (ks : List Nat) (us : Nat → Value) (al st : Nat) (t : TypeId) (c0 c1 : Array Value) : Calm where
  R := fun i w w' => if i = st then Keep (fun b => wr.heap.size ≤ b) w w' ∧ ∀ b, (Blk w b t c0 ∨ Blk w b t c1) → (Blk w' b t c0 ∨ Blk w' b t c1) else Keep none_ w w'
  G := fun _ y => Keep (fun b => wr.heap.size ≤ b) wr y
  eff := ks ++ [al, st]
  T := fun k vs v w => if k = al then ∃ b, wr.heap.size ≤ b ∧ v = .pointer (some ⟨b, 0, none⟩) ∧ (Blk w b t c0 ∨ Blk w b t c1) else if k = st then ∃ b, vs[0]? = some (.pointer (some ⟨b, 0, none⟩)) ∧ Blk w b t c1 else v = us k
  anc := fun k => if k = st then [al] else []
  own := fun _ _ _ => False
section
variable {wr : World} {ks : List Nat} {us : Nat → Value} {al st : Nat} {t : TypeId} {c0 c1 : Array Value}
theorem varCalm_good : (varCalm wr ks us al st t c0 c1).Good where
  mono := fun _ _ h => h
  size := fun i _ _ h => by
    simp only [varCalm] at h
    split at h
    · exact h.1.size
    · exact h.size
  stable := fun i k vs v w1 w2 _ hik h hR => by
    simp only [varCalm] at h hR ⊢
    by_cases ha : k = al
    · rw [if_pos ha] at h ⊢
      obtain ⟨b, h1, h2, h3⟩ := h
      refine ⟨b, h1, h2, ?_⟩
      split at hR
      · exact hR.2 b h3
      · exact h3.imp (fun h => h.keep hR (fun e => e)) (fun h => h.keep hR (fun e => e))
    · rw [if_neg ha] at h ⊢
      by_cases hs : k = st
      · rw [if_pos hs] at h ⊢
        rw [if_neg (fun e => hik (e.trans hs.symm))] at hR
        obtain ⟨b, h1, h2⟩ := h
        exact ⟨b, h1, h2.keep hR (fun e => e)⟩
      · rw [if_neg hs] at h ⊢
        exact h
theorem varCalm_at (x : (varCalm wr ks us al st t c0 c1).Sub) : Keep (fun b => wr.heap.size ≤ b) wr ((varCalm wr ks us al st t c0 c1).at_ x) := by
  obtain ⟨x, n, _, h⟩ := x
  exact h
theorem varCalm_some : Nonempty (varCalm wr ks us al st t c0 c1).Sub := ⟨⟨wr, 0, Nat.zero_le _, Keep.refl _ _⟩⟩
/-- The step of a call. -/
theorem var_call {n k : Nat} {w w' : World} {vs : List Value} {v : Value} (h1 : k ≠ al) (h2 : k ≠ st) (hv : v = us k) (hG : (varCalm wr ks us al st t c0 c1).G n w) (hk : Keep none_ w w') : (varCalm wr ks us al st t c0 c1).T k vs v w' ∧ (varCalm wr ks us al st t c0 c1).R k w w' ∧ (varCalm wr ks us al st t c0 c1).G (n + 1) w' ∧ ∀ b, (varCalm wr ks us al st t c0 c1).own k v b → w.heap.size ≤ b ∧ b < w'.heap.size := by
  subst hv
  simp only [varCalm] at hG ⊢
  rw [if_neg h1, if_neg h2, if_neg h2]
  exact ⟨trivial, hk, hG.trans hk.weak, fun _ h => h.elim⟩
/-- The step of the new variable. -/
theorem var_alloc {n : Nat} {w : World} {vs : List Value} (hne : al ≠ st) (hG : (varCalm wr ks us al st t c0 c1).G n w) : (varCalm wr ks us al st t c0 c1).T al vs (.pointer (some ⟨w.heap.size, 0, none⟩)) (w.alloc (.cells c0 t)) ∧ (varCalm wr ks us al st t c0 c1).R al w (w.alloc (.cells c0 t)) ∧ (varCalm wr ks us al st t c0 c1).G (n + 1) (w.alloc (.cells c0 t)) ∧ ∀ b, (varCalm wr ks us al st t c0 c1).own al (.pointer (some ⟨w.heap.size, 0, none⟩)) b → w.heap.size ≤ b ∧ b < (w.alloc (.cells c0 t)).heap.size := by
  simp only [varCalm] at hG ⊢
  rw [if_pos trivial, if_neg hne]
  exact ⟨⟨_, hG.size, rfl, .inl (Blk.new _ _ _)⟩, (Keep.refl _ _).alloc _, hG.alloc _, fun _ h => h.elim⟩
theorem var_ptr {vs : List Value} {v : Value} {w : World} (h : (varCalm wr ks us al st t c0 c1).T al vs v w) : ∃ b, wr.heap.size ≤ b ∧ v = .pointer (some ⟨b, 0, none⟩) ∧ (Blk w b t c0 ∨ Blk w b t c1) := by
  simp only [varCalm] at h
  rw [if_pos trivial] at h
  exact h
/-- The step of the store. -/
theorem var_store {n : Nat} {w : World} {vs : List Value} {v : Value} {o : Oper} {a : Act} (hne : al ≠ st) (hG : (varCalm wr ks us al st t c0 c1).G n w) (ty : TypeId) (x y : Operand) (ho : o.op = .store ty x y) (b : Nat) (hb0 : wr.heap.size ≤ b) (hb : Blk w b t c0 ∨ Blk w b t c1) (hx : a.eval x = .pointer (some ⟨b, 0, none⟩)) (hy : a.eval y = .agg c1)
    (hvs : vs[0]? = some (.pointer (some ⟨b, 0, none⟩))) (hs : c0.size = c1.size) (hi : (Tryz.prog.info? ty).map (·.size) = some c1.size) (h1 : c1.all (·.oneCell') = true) :
    gives Tryz.prog o a w fun _ w' => (varCalm wr ks us al st t c0 c1).T st vs v w' ∧ (varCalm wr ks us al st t c0 c1).R st w w' ∧ (varCalm wr ks us al st t c0 c1).G (n + 1) w' ∧ ∀ b, (varCalm wr ks us al st t c0 c1).own st v b → w.heap.size ≤ b ∧ b < w'.heap.size := by
  simp only [varCalm] at hG ⊢
  simp only [if_neg (Ne.symm hne), if_true]
  have fin : ∀ w', Blk w' b t c1 → Keep (one b) w w' → (∃ b, vs[0]? = some (.pointer (some ⟨b, 0, none⟩)) ∧ Blk w' b t c1) ∧ (Keep (fun b => wr.heap.size ≤ b) w w' ∧ ∀ b, (Blk w b t c0 ∨ Blk w b t c1) → (Blk w' b t c0 ∨ Blk w' b t c1)) ∧ Keep (fun b => wr.heap.size ≤ b) wr w' ∧ ∀ b, False → w.heap.size ≤ b ∧ b < w'.heap.size := fun w' hb' hk => by
    have hk' : Keep (fun b => wr.heap.size ≤ b) w w' := hk.mono (fun c e => by rw [show c = b from e]; exact hb0)
    refine ⟨⟨b, hvs, hb'⟩, ⟨hk', fun c hc => ?_⟩, hG.trans hk', fun _ h => h.elim⟩
    by_cases hcb : c = b
    · subst hcb
      exact .inr hb'
    · exact hc.imp (fun h => h.keep hk (fun e => hcb e)) (fun h => h.keep hk (fun e => hcb e))
  rcases hb with h | h
  · exact gives_store_blk ty x y ho b t c0 c1 hx hy h hs hi h1 fin
  · exact gives_store_blk ty x y ho b t c1 c1 hx hy h rfl hi h1 fin
theorem var_val {k : Nat} {vs : List Value} {v : Value} {w : World} (h1 : k ≠ al) (h2 : k ≠ st) (h : (varCalm wr ks us al st t c0 c1).T k vs v w) : v = us k := by
  simp only [varCalm] at h
  rw [if_neg h1, if_neg h2] at h
  exact h
theorem var_done {vs : List Value} {v : Value} {w : World} (hne : al ≠ st) (h : (varCalm wr ks us al st t c0 c1).T st vs v w) {b : Nat} (hvs : vs[0]? = some (.pointer (some ⟨b, 0, none⟩))) : Blk w b t c1 := by
  simp only [varCalm] at h
  rw [if_neg (Ne.symm hne), if_pos trivial] at h
  obtain ⟨c, h1, h2⟩ := h
  rw [hvs] at h1
  simp only [Option.some.injEq, Value.pointer.injEq, Addr.mk.injEq, and_true] at h1
  rw [h1]
  exact h2
end
/-- Operation ld loads what block g holds, operation cl is a call, operation st stores into block g what the call has answered. -/
def lcsCalm (wr : World) (g : Nat) (t : TypeId) (c0 : Value) (ld cl st : Nat) (X : Value → World → Prop) : Calm where
  R := fun i w w' => if i = st then Keep (one g) w w' else Keep none_ w w'
  G := fun n y => Keep (one g) wr y ∧ (n ≤ 2 → Keep none_ wr y)
  eff := [ld, cl, st]
  T := fun k vs v w => if k = ld then v = c0 else if k = cl then X v w else ∃ cs, vs[1]? = some (.agg cs) ∧ Blk w g t cs
  anc := fun k => if k = st then [ld, cl] else []
  own := fun _ _ _ => False
theorem lcsCalm_good {wr : World} {g : Nat} {t : TypeId} {c0 : Value} {ld cl st : Nat} {X : Value → World → Prop} (hX : ∀ v w w', X v w → Keep (one g) w w' → X v w') (hc : ∀ k, k ∈ [ld, cl, st] → k ≠ ld → k ≠ cl → k = st) : (lcsCalm wr g t c0 ld cl st X).Good where
  mono := fun n _ h => ⟨h.1, fun e => h.2 (by omega)⟩
  size := fun i _ _ h => by
    simp only [lcsCalm] at h
    split at h <;> exact h.size
  stable := fun i k vs v w1 w2 he hik h hR => by
    simp only [lcsCalm] at h hR ⊢
    by_cases ha : k = ld
    · rw [if_pos ha] at h ⊢; exact h
    · rw [if_neg ha] at h ⊢
      by_cases hb : k = cl
      · rw [if_pos hb] at h ⊢
        split at hR
        · exact hX _ _ _ h hR
        · exact hX _ _ _ h hR.weak
      · rw [if_neg hb] at h ⊢
        have hst : k = st := hc k (by simpa [lcsCalm] using he) ha hb
        rw [if_neg (fun e => hik (e.trans hst.symm))] at hR
        obtain ⟨cs, h1, h2⟩ := h
        exact ⟨cs, h1, h2.keep hR (fun e => e)⟩
theorem lcsCalm_at {wr : World} {g : Nat} {t : TypeId} {c0 : Value} {ld cl st : Nat} {X : Value → World → Prop} (x : (lcsCalm wr g t c0 ld cl st X).Sub) : Keep (one g) wr ((lcsCalm wr g t c0 ld cl st X).at_ x) := by
  obtain ⟨x, n, _, h⟩ := x
  exact h.1
theorem lcsCalm_some {wr : World} {g : Nat} {t : TypeId} {c0 : Value} {ld cl st : Nat} {X : Value → World → Prop} : Nonempty (lcsCalm wr g t c0 ld cl st X).Sub := ⟨⟨wr, 0, Nat.zero_le _, Keep.refl _ _, fun _ => Keep.refl _ _⟩⟩
theorem gives_load_blk {P : Program} {o : Oper} {a : Act} {w : World} {X : Value → World → Prop} (ty : TypeId) (x : Operand) (ho : o.op = .load ty x) (b : Nat) (t : TypeId) (cs : Array Value) (hx : a.eval x = .pointer (some ⟨b, 0, none⟩)) (hb : Blk w b t cs) {d : TypeDesc} (hu : P.underlying ty = some d) (hd : d.isRow = true) (hi : (P.info? ty).map (·.size) = some cs.size) (h : X (.agg cs) w) : gives P o a w X := by
  unfold gives execOp
  simp only [ho, hx, Sem.run_bind, run_loadAt_mid (P := P) w b 0 ty cs.toList d hb.rangeAt hu hd (by simpa using hi), Result.andThen_ok, Sem.run_pure]
  simpa using h
theorem NewFr.up {w w' : World} {lo n : Nat} {z : Int} {b1 b2 b3 : Nat} (h : NewFr w lo z b1 b2 b3) (k : Keep (fun b => n ≤ b) w w') (hn : w.heap.size ≤ n) : NewFr w' lo z b1 b2 b3 :=
  h.keep k (fun e => by have := Blk.lt' h.y; have e' : n ≤ b1 := e; omega) (fun e => by have := Blk.lt' h.u; have e' : n ≤ b2 := e; omega) (fun e => by have := Blk.lt' h.v; have e' : n ≤ b3 := e; omega)
theorem Blk.up {w w' : World} {n b : Nat} {t : TypeId} {cs : Array Value} (h : Blk w b t cs) (k : Keep (fun b => n ≤ b) w w') (hn : w.heap.size ≤ n) : Blk w' b t cs := h.keep k (fun e => by have := h.lt; have e' : n ≤ b := e; omega)
end Go.Proofs.YtebdgoikmclflaaGreatDoor
/-
  picture's predicates on the small header of the law.
-/
namespace Go.Proofs.YtebdgoikmclflaaGreatDoor
open Go.RowKit

/-- The header of the law. -/
def plS : Sq := ⟨16, 16, 25, 1, false, 100000, 100000, List.replicate 64 16, List.replicate 64 16⟩
def plV : Array Value := plS.cells
def plP : Array Value := #[.int .i64 1, .int .i64 3, .int .i64 0, .bool true, .bool false, .bool false]
theorem plS_ok : plS.Ok := ⟨rfl, rfl, by decide, by decide, by decide⟩
theorem plS_valid : seqOk plS = true := by decide
theorem plV_size : plV.size = 135 := plS.cells_size plS_ok
theorem plV_one : plV.all (·.oneCell') = true := by kernel_rfl
theorem pvalidSeq (w : World) : Calls Tryz.prog 11 #[.agg plV] w fun e w' => e = .returned (.bool true) ∧ Keep none_ w w' := by
  have h := validSeq_any plS w plS_ok
  rw [plS_valid] at h
  exact h
set_option maxRecDepth 100000 in
set_option maxHeartbeats 1000000 in
theorem coded_pl (w : World) : Calls Tryz.prog 39 #[.agg plP] w fun e w' => e = .returned (.bool true) ∧ Keep none_ w w' := by
  obtain ⟨W0, hW0⟩ : ∃ W0, W0 = w.alloc (.cells plP 35) := ⟨_, rfl⟩
  have k0 : Keep none_ w W0 := hW0 ▸ (Keep.refl _ _).alloc _
  have p0 : Blk W0 w.heap.size 35 plP := hW0 ▸ Blk.new _ _ _
  have y0 : W0.cell? ⟨w.heap.size, 0, none⟩ = some (.int .i64 1) := p0.cell 0
  have y1 : W0.cell? ⟨w.heap.size, 1, none⟩ = some (.int .i64 3) := p0.cell 1
  have y2 : W0.cell? ⟨w.heap.size, 2, none⟩ = some (.int .i64 0) := p0.cell 2
  go_enter Tryz.func39, Tryz.ntmps39
  go_upto_region 1 with (fail)
  rw [← hW0]
  clear hW0 p0
  go_wp2
  go_ret
  exact ⟨rfl, k0⟩
set_option maxRecDepth 100000 in
set_option maxHeartbeats 1000000 in
theorem height_pl (w : World) : Calls Tryz.prog 40 #[.agg plV, .agg plP] w fun e w' => e = .returned (.int .i64 16) ∧ Keep none_ w w' := by
  obtain ⟨W0, hW0⟩ : ∃ W0, W0 = (w.alloc (.cells plV 26)).alloc (.cells plP 35) := ⟨_, rfl⟩
  obtain ⟨s0, p0, k0⟩ := two (Keep.eq_ hW0)
  have x1 : W0.cell? ⟨w.heap.size, 1, none⟩ = some (.int .i64 16) := by rw [s0.cell]; kernel_rfl
  have y1 : W0.cell? ⟨w.heap.size + 1, 1, none⟩ = some (.int .i64 3) := p0.cell 1
  go_enter Tryz.func40, Tryz.ntmps40
  go_upto_region 1 with (fail)
  rw [← hW0]
  clear hW0 s0 p0
  go_wp2
  go_ret
  exact ⟨rfl, k0⟩
set_option maxRecDepth 100000 in
set_option maxHeartbeats 1000000 in
theorem valid_pl (w : World) : Calls Tryz.prog 18 #[.agg plV, .agg plP] w fun e w' => e = .returned (.bool true) ∧ Keep none_ w w' := by
  obtain ⟨W0, hW0⟩ : ∃ W0, W0 = (w.alloc (.cells plV 26)).alloc (.cells plP 35) := ⟨_, rfl⟩
  obtain ⟨s0, p0, k0⟩ := two (Keep.eq_ hW0)
  have S0 := Lib.hid s0
  have P0 := Lib.hid p0
  have K0 := Lib.hid k0
  clear s0 p0 k0
  have t1 : True := trivial
  have t2 : True := trivial
  have t3 : True := trivial
  have t4 : True := trivial
  go_enter Tryz.func18, Tryz.ntmps18
  go_upto_region 1 with (fail)
  rw [← hW0]
  clear hW0
  go_upto_region 3 with (first | (have _t := t1; refine wpList_load_part 26 (.tmp 2) rfl rfl w.heap.size 0 rfl plV _ S0.out.rangeAt Tryz.underlying26 rfl (by rw [plV_size]; kernel_rfl) ?_; go_frame; clear _t t1) | (have _t := t2; go_at_call 11; refine (pvalidSeq _).mono ?_; rintro e w2 ⟨rfl, k2⟩; have S2 := Lib.hid (S0.out.keep k2 (fun e => e)); have P2 := Lib.hid (P0.out.keep k2 (fun e => e)); have K2 := Lib.hid (K0.out.trans k2); clear k2 _t t2) | (have _t := t3; refine wpList_load_part 35 (.tmp 3) rfl rfl (w.heap.size + 1) 0 rfl plP _ P2.out.rangeAt Tryz.underlying35 rfl (by kernel_rfl) ?_; go_frame; clear _t t3) | (have _t := t4; go_at_call 39; refine (coded_pl _).mono ?_; rintro e w3 ⟨rfl, k3⟩; have S3 := Lib.hid (S2.out.keep k3 (fun e => e)); have P3 := Lib.hid (P2.out.keep k3 (fun e => e)); have K3 := Lib.hid (K2.out.trans k3); clear k3 _t t4))
  have x3 : w3.cell? ⟨w.heap.size, 4, none⟩ = some (.bool false) := by rw [S3.out.cell]; kernel_rfl
  have y1 : w3.cell? ⟨w.heap.size + 1, 1, none⟩ = some (.int .i64 3) := P3.out.cell 1
  have y3 : w3.cell? ⟨w.heap.size + 1, 3, none⟩ = some (.bool true) := P3.out.cell 3
  have y4 : w3.cell? ⟨w.heap.size + 1, 4, none⟩ = some (.bool false) := P3.out.cell 4
  go_wp2
  go_ret
  exact ⟨rfl, K3.out⟩
set_option maxRecDepth 100000 in
set_option maxHeartbeats 1000000 in
theorem fits_pl (w : World) : Calls Tryz.prog 68 #[.agg plV, .agg plP, .bool false] w fun e w' => e = .returned (.bool true) ∧ Keep none_ w w' := by
  obtain ⟨W0, hW0⟩ : ∃ W0, W0 = (w.alloc (.cells plV 26)).alloc (.cells plP 35) := ⟨_, rfl⟩
  obtain ⟨s0, p0, k0⟩ := two (Keep.eq_ hW0)
  have S0 := Lib.hid s0
  have P0 := Lib.hid p0
  have K0 := Lib.hid k0
  clear s0 p0 k0
  have t1 : True := trivial
  have t2 : True := trivial
  have t3 : True := trivial
  go_enter Tryz.func68, Tryz.ntmps68
  go_upto_region 1 with (fail)
  rw [← hW0]
  clear hW0
  go_wp2_with (first | (have _t := t1; refine wpList_load_part 26 (.tmp 3) rfl rfl w.heap.size 0 rfl plV _ S0.out.rangeAt Tryz.underlying26 rfl (by rw [plV_size]; kernel_rfl) ?_; go_frame; clear _t t1) | (have _t := t2; refine wpList_load_part 35 (.tmp 4) rfl rfl (w.heap.size + 1) 0 rfl plP _ P0.out.rangeAt Tryz.underlying35 rfl (by kernel_rfl) ?_; go_frame; clear _t t2) | (have _t := t3; go_at_call 18; refine (valid_pl _).mono ?_; rintro e w3 ⟨rfl, k3⟩; have y1 := (P0.out.keep k3 (fun e => e)).cell 1; have K3 := Lib.hid (K0.out.trans k3); clear k3 _t t3))
  go_ret
  exact ⟨rfl, K3.out⟩
set_option maxRecDepth 100000 in
set_option maxHeartbeats 1000000 in
theorem rows_pl (w : World) : Calls Tryz.prog 19 #[.agg plV, .agg plP] w fun e w' => e = .returned (.int .i64 1) ∧ Keep none_ w w' := by
  obtain ⟨W0, hW0⟩ : ∃ W0, W0 = (w.alloc (.cells plV 26)).alloc (.cells plP 35) := ⟨_, rfl⟩
  obtain ⟨s0, p0, k0⟩ := two (Keep.eq_ hW0)
  have S0 := Lib.hid s0
  have P0 := Lib.hid p0
  have K0 := Lib.hid k0
  clear s0 p0 k0
  have t1 : True := trivial
  have t2 : True := trivial
  have t3 : True := trivial
  have t4 : True := trivial
  have t5 : True := trivial
  have t6 : True := trivial
  go_enter Tryz.func19, Tryz.ntmps19
  go_upto_region 1 with (fail)
  rw [← hW0]
  clear hW0
  go_wp2_with (first | (have _t := t1; refine wpList_load_part 26 (.tmp 2) rfl rfl w.heap.size 0 rfl plV _ S0.out.rangeAt Tryz.underlying26 rfl (by rw [plV_size]; kernel_rfl) ?_; go_frame; clear _t t1) | (have _t := t2; refine wpList_load_part 35 (.tmp 3) rfl rfl (w.heap.size + 1) 0 rfl plP _ P0.out.rangeAt Tryz.underlying35 rfl (by kernel_rfl) ?_; go_frame; clear _t t2) | (have _t := t3; go_at_call 18; refine (valid_pl _).mono ?_; rintro e w3 ⟨rfl, k3⟩; have S3 := Lib.hid (S0.out.keep k3 (fun e => e)); have P3 := Lib.hid (P0.out.keep k3 (fun e => e)); have K3 := Lib.hid (K0.out.trans k3); clear k3 _t t3) | (have _t := t4; refine wpList_load_part 26 (.tmp 2) rfl rfl w.heap.size 0 rfl plV _ S3.out.rangeAt Tryz.underlying26 rfl (by rw [plV_size]; kernel_rfl) ?_; go_frame; clear _t t4) | (have _t := t5; refine wpList_load_part 35 (.tmp 3) rfl rfl (w.heap.size + 1) 0 rfl plP _ P3.out.rangeAt Tryz.underlying35 rfl (by kernel_rfl) ?_; go_frame; clear _t t5) | (have _t := t6; go_at_call 40; refine (height_pl _).mono ?_; rintro e w4 ⟨rfl, k4⟩; have K4 := Lib.hid (K3.out.trans k4); clear k4 _t t6))
  go_ret
  exact ⟨rfl, K4.out⟩
end Go.Proofs.YtebdgoikmclflaaGreatDoor
