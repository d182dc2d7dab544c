/-
  FarmDone: the plain facts.
-/
import Derived.Test.YtnefbeplgfdkkaaGreatDoorJb27
import Derived.Test.YtnefbeplgfdkkaaGreatDoorJb49
import Derived.Test.YtnefbeplgfdkkaaGreatDoorJb39
import Derived.Test.YtnefbeplgfdkkaaGreatDoorJb43
import Derived.Test.YtnefbeplgfdkkaaGreatDoorJb44
import Derived.Test.YtnefbeplgfdkkaaGreatDoorJb48
import Derived.Test.YtnefbeplgfdkkaaGreatDoorJb26
namespace Go.Proofs.YtnefbeplgfdkkaaGreatDoor
open Go.RowKit

/-- What an event may do to a job: its name stays; a done job stays done with its items; it becomes done by its worker's finish alone. -/
def JR (e : Ev) (a b : Jb) : Prop := a.name = b.name ∧ (a.done = true → b.done = true ∧ b.items = a.items) ∧ (a.done = false → b.done = true → e.kind = 7 ∧ e.name = a.name ∧ e.worker = a.worker ∧ b.items = e.items)
theorem JR.same {e : Ev} {a b : Jb} (h1 : a.name = b.name) (h2 : b.done = a.done) (h3 : b.items = a.items) : JR e a b := ⟨h1, fun h => ⟨h2.trans h, h3⟩, fun h h' => by rw [h2, h] at h'; cases h'⟩
theorem JR.refl (e : Ev) (a : Jb) : JR e a a := JR.same rfl rfl rfl
def DR (e : Ev) (l l' : List Jb) : Prop := l.length ≤ l'.length ∧ (∀ (i : Nat) (a b : Jb), l[i]? = some a → l'[i]? = some b → JR e a b) ∧ ∀ (i : Nat) (b : Jb), l'[i]? = some b → l.length ≤ i → b.items = []
theorem old_ (P : Prop) {l : List Jb} {i : Nat} {b : Jb} (h : l[i]? = some b) (n : Nat) (hn : l.length = n) (hi : n ≤ i) : P := by
  have := (List.getElem?_eq_some_iff.1 h).1
  omega
theorem DR.refl (e : Ev) (l : List Jb) : DR e l l := ⟨Nat.le_refl _, fun i a b h h' => by rw [h] at h'; cases h'; exact JR.refl e a, fun i b h hi => old_ _ h _ rfl hi⟩
theorem DR.snoc (e : Ev) (l m : List Jb) (hm : ∀ x ∈ m, x.items = []) : DR e l (l ++ m) := ⟨by simp, fun i a b h h' => by
  have hi := (List.getElem?_eq_some_iff.1 h).1
  rw [List.getElem?_append_left hi, h] at h'
  cases h'
  exact JR.refl e a, fun i b h hi => by
  rw [List.getElem?_append_right hi] at h
  exact hm b (List.mem_of_getElem? h)⟩
theorem DR.set (e : Ev) (l : List Jb) (k : Nat) (hk : k < l.length) (x : Jb) (h : JR e l[k] x) : DR e l (l.set k x) := ⟨by simp, fun i a b h1 h2 => by
  by_cases hi : k = i
  · subst hi
    rw [List.getElem?_set_self hk] at h2
    rw [List.getElem?_eq_getElem hk] at h1
    cases h1; cases h2
    exact h
  · rw [List.getElem?_set_ne hi, h1] at h2
    cases h2
    exact JR.refl e a, fun i b h hi => old_ _ h _ (by simp) hi⟩
theorem DR.map (e : Ev) (l : List Jb) (f : Jb → Jb) (h : ∀ a, JR e a (f a)) : DR e l (l.map f) := ⟨by simp, fun i a b h1 h2 => by
  rw [List.getElem?_map, h1] at h2
  cases h2
  exact h a, fun i b h hi => old_ _ h _ (by simp) hi⟩
theorem submit_DR (e : Ev) (s : St) (x : ByteArray) (n : List ByteArray) : DR e s.jobs (submitS s x n).jobs := by
  unfold submitS
  split
  · exact DR.refl e _
  · split
    · exact DR.refl e _
    · exact DR.snoc e _ _ (fun x hx => by simp at hx; rw [hx]; rfl)
theorem arrive_jobs (s : St) (x : ByteArray) : (arriveS s x).jobs = s.jobs := by
  unfold arriveS
  split
  · rfl
  · split <;> rfl
theorem leave_jobs (s : St) (x : ByteArray) : (leaveS s x).jobs = s.jobs := by
  unfold leaveS
  split <;> rfl
theorem join_jobs (s : St) (x : ByteArray) : (joinS s x).jobs = s.jobs := by
  unfold joinS
  split
  · split <;> rfl
  · split
    · split <;> rfl
    · rfl
theorem die_jobs (s : St) (x : ByteArray) : (dieS s x).jobs = s.jobs := by
  unfold dieS
  split
  · split <;> rfl
  · rfl
theorem poll_DR (e : Ev) (s : St) (x : ByteArray) : DR e s.jobs (pollS s x).jobs := by
  unfold pollS
  split
  · split
    · rename_i k r hr
      unfold giveS
      have hk : k ∈ readyL s := by rw [hr]; exact List.mem_cons_self
      obtain ⟨hl, -⟩ := readyL_mem hk
      rw [List.getElem?_eq_getElem hl]
      exact DR.set e _ k hl _ (JR.same rfl rfl rfl)
    · exact DR.refl e _
  · exact DR.refl e _
theorem end_DR {s : St} (h : V s) {e : Ev} (hw : nameOk e.worker = true) : DR e s.jobs (endS s e).jobs := by
  unfold endS
  by_cases h0 : endE s e = 0
  · rw [if_pos h0]
    obtain ⟨-, k, hk, e1, e2, e3, e4⟩ := endE_zero h0
    rw [e4, e1]
    refine DR.set e _ k hk _ ?_
    obtain ⟨-, -, -, -, -, -, a7⟩ := h.jb _ (List.getElem_mem hk)
    obtain ⟨-, hd, -⟩ := a7 (by rw [e3]; exact name_ne hw)
    unfold doneJ
    split
    · rename_i h7
      exact ⟨rfl, (fun h => by rw [hd] at h; cases h), fun _ _ => ⟨h7, e2.symm, e3.symm, rfl⟩⟩
    · exact JR.same rfl rfl rfl
  · rw [if_neg h0]; exact DR.refl e _
theorem tick_DR (e : Ev) (s : St) (t : Int) : DR e s.jobs (tickS s t).jobs := by
  unfold tickS
  split
  · exact DR.refl e _
  · rw [tickTo_all]
    exact DR.map e _ _ (fun a => by unfold relJ; split <;> exact JR.same rfl rfl rfl)
theorem per_DR {s : St} (h : V s) {e : Ev} (he : evOk e = true) : DR e s.jobs (perS s e).jobs := by
  have hk := evOk_kind he
  unfold perS
  by_cases k1 : e.kind = 1
  · rw [if_pos k1]; exact submit_DR _ _ _ _
  rw [if_neg k1]
  by_cases k2 : e.kind = 2
  · rw [if_pos k2, arrive_jobs]; exact DR.refl _ _
  rw [if_neg k2]
  by_cases k3 : e.kind = 3
  · rw [if_pos k3, leave_jobs]; exact DR.refl _ _
  rw [if_neg k3]
  by_cases k4 : e.kind = 4
  · rw [if_pos k4, join_jobs]; exact DR.refl _ _
  rw [if_neg k4]
  by_cases k5 : e.kind = 5
  · rw [if_pos k5, die_jobs]; exact DR.refl _ _
  rw [if_neg k5]
  by_cases k6 : e.kind = 6
  · rw [if_pos k6]; exact poll_DR _ _ _
  rw [if_neg k6]
  by_cases k7 : e.kind = 7 ∨ e.kind = 8
  · rw [if_pos k7]; exact end_DR h (evOk_worker he (by omega))
  rw [if_neg k7]
  exact tick_DR _ _ _
theorem stepE_zero {s : St} {e : Ev} (h0 : stepE s e = 0) : evOk e = true ∧ perE s e = 0 := by
  unfold stepE at h0
  by_cases h : (validF s && evOk e) = true
  · rw [if_pos h] at h0
    exact ⟨(Bool.and_eq_true_iff.1 h).2, h0⟩
  · rw [if_neg h] at h0
    cases h0
theorem step_V {s : St} (hv : V s) {e : Ev} (h0 : stepE s e = 0) : V (stepS s e) := by
  unfold stepS
  rw [if_pos h0]
  exact hv.per (stepE_zero h0).1
theorem step_DR {s : St} (hv : V s) {e : Ev} (h0 : stepE s e = 0) : DR e s.jobs (stepS s e).jobs := by
  unfold stepS
  rw [if_pos h0]
  exact per_DR hv (stepE_zero h0).1
/-- Items that end a stream. -/
def EndI (l : List Itm) : Prop := ∀ x ∈ l, x.flat[0]? = some (.int .i64 4)
def EndS (s : St) : Prop := ∀ j ∈ s.jobs, EndI j.items
theorem step_End {s : St} (hv : V s) {e : Ev} (h0 : stepE s e = 0) (hs : EndS s) (he : EndI e.items) : EndS (stepS s e) := by
  intro b hb
  obtain ⟨i, hbi⟩ := List.mem_iff_getElem?.1 hb
  obtain ⟨-, d2, d3⟩ := step_DR hv h0
  by_cases hl : i < s.jobs.length
  · obtain ⟨-, r2, r3⟩ := d2 i s.jobs[i] b (List.getElem?_eq_getElem hl) hbi
    have ha := hs _ (List.getElem_mem hl)
    cases hd : s.jobs[i].done with
    | true => rw [(r2 hd).2]; exact ha
    | false =>
      cases hd' : b.done with
      | true => rw [(r3 hd hd').2.2.2]; exact he
      | false =>
        obtain ⟨-, -, -, -, a5, -, -⟩ := (step_V hv h0).jb b hb
        rw [a5 hd']
        exact fun _ h => by cases h
  · rw [d3 i b hbi (by omega)]
    exact fun _ h => by cases h
end Go.Proofs.YtnefbeplgfdkkaaGreatDoor
/-
  cutroomref12.SameItems of a list and itself.
-/
namespace Go.Proofs.YtnefbeplgfdkkaaGreatDoor
open Go.RowKit

/-- SameItem says yes of this item and itself. -/
def SameOk (x : Itm) : Prop := ∀ (w : World) (S S' : Nat → Prop) (cs cs' : Array Value), ItmOf w S cs.toList x → ItmOf w S' cs'.toList x →
  Calls Tryz.prog 55 #[.agg cs, .agg cs'] w fun e w' => e = .returned (.bool true) ∧ Keep none_ w w'
theorem ItmOf.kind {w : World} {S : Nat → Prop} {cs : Array Value} {x : Itm} (h : ItmOf w S cs.toList x) {v : Value} (hv : x.flat[0]? = some v) : cs[0]? = some v ∧ cs[147]? = some (.int .i64 x.pad) ∧ cs.size = 148 ∧ ∀ u ∈ cs.toList, u.oneCell' = true := by
  obtain ⟨u, s, e, hl, ho, hu, hs⟩ := h
  have e0 : cs.toList[0]? = some v := by rw [e, List.getElem?_append_left (by omega), hv]
  have e1 : cs.toList[147]? = some (.int .i64 x.pad) := by rw [e, List.getElem?_append_right (by omega), hl]; rfl
  have e2 : cs.toList.length = 148 := by rw [e]; simp [hl]
  refine ⟨by simpa using e0, by simpa using e1, by simpa using e2, fun z hz => ?_⟩
  rw [e] at hz
  rcases List.mem_append.1 hz with hz | hz
  · exact ho z hz
  · obtain ⟨A, n, c, rfl, -⟩ := hu
    obtain ⟨A', n', c', rfl, -⟩ := hs
    simp only [List.mem_cons, List.not_mem_nil, or_false] at hz
    rcases hz with rfl | rfl | rfl <;> rfl

set_option maxRecDepth 100000 in
set_option maxHeartbeats 1000000 in
theorem sameItem_end (x : Itm) (h4 : x.flat[0]? = some (.int .i64 4)) : SameOk x := by
  intro w S S' cs cs' h h'
  obtain ⟨c0, c1, c2, c3⟩ := h.kind h4
  obtain ⟨d0, d1, d2, d3⟩ := h'.kind h4
  obtain ⟨W1, hW1⟩ : ∃ W1, W1 = (w.alloc (.cells cs 72)).alloc (.cells cs' 72) := ⟨_, rfl⟩
  have k1 : Keep none_ w W1 := hW1 ▸ ((Keep.refl none_ w).alloc _).alloc _
  obtain ⟨b0, b1, -⟩ := two (Keep.refl none_ ((w.alloc (.cells cs 72)).alloc (.cells cs' 72)))
  rw [← hW1] at b0 b1
  have y0 := (b0.cell 0).trans c0
  have y1 := (b0.cell 147).trans c1
  have z0 := (b1.cell 0).trans d0
  have z1 := (b1.cell 147).trans d1
  have K1 := Lib.hid k1
  clear h h' c0 c1 d0 d1 b0 b1 k1 c2 c3 d2 d3
  go_enter Tryz.func55, Tryz.ntmps55
  go_upto_region 1 with (fail)
  rw [← hW1]
  clear hW1
  go_wp2
  go_ret
  exact ⟨rfl, K1.out⟩

set_option maxRecDepth 100000 in
set_option maxHeartbeats 1000000 in
theorem sameItems_any (l : List Itm) (hl : ∀ x ∈ l, SameOk x) (v v' : Value) (S S' : Nat → Prop) (w : World) (h : ItemsOf w S v l) (h' : ItemsOf w S' v' l) :
    Calls Tryz.prog 23 #[v, v'] w fun e w' => e = .returned (.bool true) ∧ Keep none_ w w' := by
  obtain ⟨A, n, c, rfl, h1, h2, hn, -⟩ := id h
  obtain ⟨A', n', c', rfl, h1', h2', hn', -⟩ := id h'
  obtain rfl : n = n' := by omega
  unfold maxLen at h2 h2'
  have HL := Lib.hid hl
  have H := Lib.hid h
  have H' := Lib.hid h'
  clear h h' hl hn'
  go_enter Tryz.func23, Tryz.ntmps23
  go_wp2_with (fail)
  go_loopw [5] (fun i wr => ∃ k : Nat, k ≤ n ∧ i = .int .i64 k ∧ Keep none_ w wr) (fun i _ => n - (intOf i).toNat)
  case atStart => exact ⟨0, Nat.zero_le _, rfl, Keep.refl _ _⟩
  case round =>
    obtain ⟨k, hk, rfl, hkr⟩ := hrel
    have HK := Lib.hid hkr
    have HR := Lib.hid (H.out.keep (w' := wr) hkr.weak)
    have HR' := Lib.hid (H'.out.keep (w' := wr) hkr.weak)
    clear hkr
    by_cases hlt : k < n
    · have hlt' : (k : Int) < n := by omega
      obtain ⟨b, o, rfl, -, hkl, cs, hcl, hrg, hi⟩ := ElemsOf.elem HR.out k hlt
      obtain ⟨b', o', rfl, -, hkl', cs', hcl', hrg', hi'⟩ := ElemsOf.elem HR'.out k hlt
      have hsm := HL.out _ (List.getElem_mem hkl)
      generalize l[k] = x at hi hi' hsm
      obtain ⟨ca, rfl⟩ : ∃ ca : Array Value, cs = ca.toList := ⟨cs.toArray, by simp⟩
      obtain ⟨ca', rfl⟩ : ∃ ca : Array Value, cs' = ca.toList := ⟨cs'.toArray, by simp⟩
      have R1 := Lib.hid hrg
      have R2 := Lib.hid hrg'
      have SZ := Lib.hid (show (Tryz.prog.info? 72).map (·.size) = some ca.size by rw [show ca.size = 148 by simpa using hcl]; kernel_rfl)
      have SZ' := Lib.hid (show (Tryz.prog.info? 72).map (·.size) = some ca'.size by rw [show ca'.size = 148 by simpa using hcl']; kernel_rfl)
      have SM := Lib.hid (fun (wx : World) (kx : Keep none_ wr wx) => hsm wx none_ none_ ca ca' (hi.weak.keep kx) (hi'.weak.keep kx))
      clear hrg hrg' hi hi' hsm hcl hcl'
      go_upto_region 6 with (fail)
      have gd := callCalm_good wr 8 (.bool true)
      have ne := callCalm_some wr 8 (.bool true)
      have x1 := Lib.hid (fun y => rangeAt_keep R1.out (callCalm_at (wr := wr) (k := 8) (u := .bool true) y) (fun e => e))
      have x2 := Lib.hid (fun y => rangeAt_keep R2.out (callCalm_at (wr := wr) (k := 8) (u := .bool true) y) (fun e => e))
      refine wp_region_calm (callCalm wr 8 (.bool true)) [0, 1, 2, 3, 4, 5, 6, 7, 8, 9] [] 27 (by kernel_rfl) (by kernel_rfl) rfl gd (Keep.refl _ _).drew ?_
      simp only [pairs, List.filterMap_cons, List.filterMap_nil, List.getElem?_toArray, List.getElem?_cons_succ, List.getElem?_cons_zero, Option.map_some]
      repeat (refine Calm.walk_quiet ne rfl rfl rfl (fun K hK => ?_); go_big_quiet_op; refine hK _ ?_; clear hK K)
      refine Calm.walk_load 72 (.tmp 19) rfl ne rfl rfl b (o + k * 148) (by first | rfl | simp) ca _ x1.out Tryz.underlying72 rfl SZ.out ?_
      go_frame
      repeat (refine Calm.walk_quiet ne rfl rfl rfl (fun K hK => ?_); go_big_quiet_op; refine hK _ ?_; clear hK K)
      refine Calm.walk_load 72 (.tmp 23) rfl ne rfl rfl b' (o' + k * 148) (by first | rfl | simp) ca' _ x2.out Tryz.underlying72 rfl SZ'.out ?_
      go_frame
      refine Calm.walk_eff rfl rfl (fun n wy hn hG _ => ?_) ?_
      · have hG' : Keep none_ wr wy := hG
        unfold gives
        go_simp
        refine (SM.out wy hG').mono ?_
        rintro e wz ⟨rfl, kz⟩
        exact ⟨_, rfl, rfl, kz, hG'.trans kz, fun _ h => h.elim⟩
      intro vq wy hT
      obtain rfl : vq = .bool true := hT
      clear wy
      go_frame
      repeat (refine Calm.walk_quiet ne rfl rfl rfl (fun K hK => ?_); go_big_quiet_op; refine hK _ ?_; clear hK K)
      intro w9 hG hD
      have k89 : Keep none_ wr w9 := hG
      have HK9 := Lib.hid (HK.out.trans k89)
      clear hG hD gd ne x1 x2 k89 R1 R2 SM SZ SZ'
      simp only [pickOps, List.filterMap_nil]
      go_wp2
      go_roundw
      case rel => exact ⟨k + 1, hlt, by go_num, HK9.out⟩
      case measure => simp [intOf]; omega
    · obtain rfl : k = n := by omega
      go_wp2
      go_ret
      exact ⟨rfl, HK.out⟩
end Go.Proofs.YtnefbeplgfdkkaaGreatDoor
/-
  cutroomref37.SameEvents of equal lists.
-/
namespace Go.Proofs.YtnefbeplgfdkkaaGreatDoor
open Go.RowKit

theorem EvO.evs {w : World} {lo : Nat} {v : Value} {l : List Ev} (h : EvO w lo v l) : EvsOf w none_ v l := by
  obtain ⟨css, h1, h2⟩ := h
  exact EvsOf.own h1 (h2.imp (fun _ _ h => h.cs))
theorem EvsOf.keep0 {w w' : World} {v : Value} {l : List Ev} (h : EvsOf w none_ v l) (k : Keep none_ w w') : EvsOf w' none_ v l :=
  ElemsOf.keep h k (fun _ e => e) (fun _ _ ⟨a, b, e, h1, h2⟩ => ⟨a, b, e, h1.keep k, h2.keep k⟩)
theorem zero_evt (w : World) : (zeroValue 78).run Tryz.prog w = .ok (.agg #[.int .i64 0, .string ⟨#[]⟩, .string ⟨#[]⟩, .slice none 0 0, .int .i64 0, .slice none 0 0]) w := by kernel_rfl

set_option maxRecDepth 100000 in
set_option maxHeartbeats 2000000 in
theorem sameEvents_any (l : List Ev) (hI : ∀ e ∈ l, e.items = []) (v v' : Value) (w : World) (h : EvsOf w none_ v l) (h' : EvsOf w none_ v' l) :
    Calls Tryz.prog 11 #[v, v'] w fun e w' => e = .returned (.bool true) ∧ Keep none_ w w' := by
  obtain ⟨A, n, c, rfl, h1, h2, h3, -⟩ := (id h : ElemsOf w none_ 6 (EvCs w none_) v l)
  obtain ⟨A', n', c', rfl, h1', h2', h3', -⟩ := (id h' : ElemsOf w none_ 6 (EvCs w none_) v' l)
  subst h3
  subst h3'
  have HA := Lib.hid h
  have HB := Lib.hid h'
  have HI := Lib.hid hI
  unfold maxLen at h2
  clear h h' hI h2' h1'
  go_enter Tryz.func11, Tryz.ntmps11
  go_wp2_with (fail)
  go_loopw [5] (fun i wr => ∃ m : Nat, m ≤ l.length ∧ i = .int .i64 m ∧ Keep none_ w wr) (fun i _ => l.length - (intOf i).toNat)
  case atStart => exact ⟨0, Nat.zero_le _, rfl, Keep.refl _ _⟩
  case round =>
    obtain ⟨m, hm, rfl, hkz⟩ := hrel
    have HKZ := Lib.hid hkz
    clear hkz
    by_cases hlt : m < l.length
    · have hlt' : (m : Int) < l.length := by omega
      obtain ⟨ba, oa, rfl, -, hkl, csa, hcl, hrg, hcsa⟩ := ElemsOf.elem (HA.out.keep0 HKZ.out) m hlt
      obtain ⟨bb, ob, rfl, -, hkl', csb, hcl', hrg', hcsb⟩ := ElemsOf.elem (HB.out.keep0 HKZ.out) m hlt
      have NA := Lib.hid (HI.out _ (List.getElem_mem hkl))
      generalize l[m] = ev at hcsa hcsb NA
      obtain ⟨vna, via, rfl, ⟨Ana, nna, cna, rfl, rna⟩, hia⟩ := hcsa
      obtain ⟨vnb, vib, rfl, ⟨Anb, nnb, cnb, rfl, rnb⟩, hib⟩ := hcsb
      obtain ⟨Aia, nia, cia, rfl, ria⟩ := (id hia : ElemsOf _ none_ 148 (ItmOf _ none_) via ev.items)
      obtain ⟨Aib, nib, cib, rfl, rib⟩ := (id hib : ElemsOf _ none_ 148 (ItmOf _ none_) vib ev.items)
      have NS := Lib.hid (show StrsOf wr none_ (.slice Ana nna cna) ev.needs from ⟨_, _, _, rfl, rna⟩)
      have NT := Lib.hid (show StrsOf wr none_ (.slice Anb nnb cnb) ev.needs from ⟨_, _, _, rfl, rnb⟩)
      have IS := Lib.hid hia
      have IT := Lib.hid hib
      have RA := Lib.hid hrg
      have RB := Lib.hid hrg'
      clear hrg hrg' hcl hcl' hia hib ria rib rna rnb
      have zj := zero_evt
      go_upto_region 6 with (fail)
      have gd := pvCalm_good wr 78 6 8 9 10
      have ne := pvCalm_some wr 78 6 8 9 10
      have x3 := Lib.hid (fun y => rangeAt_keep RA.out (pvCalm_at (wr := wr) (t := 78) (n := 6) (k1 := 8) (k2 := 9) (k3 := 10) y) (fun e => e))
      have x4 := Lib.hid (fun y => rangeAt_keep RB.out (pvCalm_at (wr := wr) (t := 78) (n := 6) (k1 := 8) (k2 := 9) (k3 := 10) y) (fun e => e))
      refine wp_region_calm (pvCalm wr 78 6 8 9 10) [0, 1, 2, 3, 4, 5, 6, 7, 8, 9, 10] [11] 69 (by kernel_rfl) (by kernel_rfl) rfl gd (Keep.refl _ _).drew ?_
      simp only [pairs, List.filterMap_cons, List.filterMap_nil, List.getElem?_toArray, List.getElem?_cons_succ, List.getElem?_cons_zero, Option.map_some]
      repeat (refine Calm.walk_quiet ne rfl rfl rfl (fun K hK => ?_); go_big_quiet_op; refine hK _ ?_; clear hK K)
      refine Calm.walk_load 78 (.tmp 21) rfl ne rfl rfl ba (oa + m * 6) (by first | rfl | simp) #[.int .i64 ev.kind, .string ev.name, .string ev.worker, .slice Ana nna cna, .int .i64 ev.ticks, .slice Aia nia cia] _ x3.out Tryz.underlying78 rfl (by kernel_rfl) ?_
      go_frame
      repeat (refine Calm.walk_quiet ne rfl rfl rfl (fun K hK => ?_); go_big_quiet_op; refine hK _ ?_; clear hK K)
      refine Calm.walk_load 78 (.tmp 25) rfl ne rfl rfl bb (ob + m * 6) (by first | rfl | simp) #[.int .i64 ev.kind, .string ev.name, .string ev.worker, .slice Anb nnb cnb, .int .i64 ev.ticks, .slice Aib nib cib] _ x4.out Tryz.underlying78 rfl (by kernel_rfl) ?_
      go_frame
      refine Calm.walk_eff rfl rfl (fun n wy hn hG _ => ?_) ?_
      · have hG' : Keep none_ wr wy := hG
        unfold gives
        go_simp
        exact ⟨⟨wy.heap.size, hG'.size, rfl, _, rfl, Blk.new _ _ _⟩, (Keep.refl _ _).alloc _, hG'.alloc _, fun b h => ⟨Nat.le_of_eq (show b = _ from h.2).symm, by rw [show b = wy.heap.size from h.2]; simp⟩⟩
      intro vq wy hT
      obtain ⟨b1, hb1, rfl, -⟩ : ∃ b, wr.heap.size ≤ b ∧ vq = .pointer (some ⟨b, 0, none⟩) ∧ VarT wy b 78 6 := hT
      clear wy
      go_frame
      refine Calm.walk_eff rfl rfl (fun n wy hn hG _ => ?_) ?_
      · have hG' : Keep none_ wr wy := hG
        unfold gives
        go_simp
        exact ⟨⟨wy.heap.size, hG'.size, rfl, _, rfl, Blk.new _ _ _⟩, (Keep.refl _ _).alloc _, hG'.alloc _, fun b h => ⟨Nat.le_of_eq (show b = _ from h.2).symm, by rw [show b = wy.heap.size from h.2]; simp⟩⟩
      intro vq wy hT
      obtain ⟨b2, hb2, rfl, -⟩ : ∃ b, wr.heap.size ≤ b ∧ vq = .pointer (some ⟨b, 0, none⟩) ∧ VarT wy b 78 6 := hT
      clear wy
      go_frame
      refine Calm.walk_eff rfl rfl (fun n wy hn hG hAF => ?_) ?_
      · have hG' : Keep none_ wr wy := hG
        obtain ⟨b1', g1, g2, csv, g3, g4⟩ : ∃ b, wr.heap.size ≤ b ∧ Value.pointer (some ⟨b1, 0, none⟩) = .pointer (some ⟨b, 0, none⟩) ∧ VarT wy b 78 6 := (hAF 8 List.mem_cons_self _ rfl ⟨rfl, rfl⟩).1
        obtain rfl : b1 = b1' := by simpa using g2
        refine gives_store_blk 78 (.tmp 6) (.tmp 22) rfl b1 78 _ #[.int .i64 ev.kind, .string ev.name, .string ev.worker, .slice Ana nna cna, .int .i64 ev.ticks, .slice Aia nia cia] rfl rfl g4 g3 (by kernel_rfl) (by simp [Value.oneCell']) (fun wz bz kz => ?_)
        exact ⟨⟨b1, _, rfl, rfl, bz⟩, ⟨b1, g1, ⟨csv, g3, g4⟩, ⟨_, rfl, bz⟩, kz⟩, hG'.own kz g1, fun _ h => (h.1 rfl).elim⟩
      rintro vq wy -
      clear wy
      go_frame
      repeat (refine Calm.walk_quiet ne rfl rfl rfl (fun K hK => ?_); go_big_quiet_op; refine hK _ ?_; clear hK K)
      intro w9 hG hD
      have k9 : Keep none_ wr w9 := hG
      obtain ⟨b1', xs', e1, e2, ba9⟩ : ∃ b xs, Value.pointer (some ⟨b1, 0, none⟩) = .pointer (some ⟨b, 0, none⟩) ∧ Value.agg #[.int .i64 ev.kind, .string ev.name, .string ev.worker, .slice Ana nna cna, .int .i64 ev.ticks, .slice Aia nia cia] = .agg xs ∧ Blk w9 b 78 xs := (hD.1 10 rfl _ rfl ⟨rfl, rfl⟩).1
      obtain rfl : b1 = b1' := by simpa using e1
      injection e2 with e2
      subst e2
      obtain ⟨b2', -, e3, csv, g3, bb9⟩ : ∃ b, wr.heap.size ≤ b ∧ Value.pointer (some ⟨b2, 0, none⟩) = .pointer (some ⟨b, 0, none⟩) ∧ VarT w9 b 78 6 := (hD.1 9 rfl _ rfl ⟨rfl, rfl⟩).1
      obtain rfl : b2 = b2' := by simpa using e3
      have d12 : b1 ≠ b2 := fun e => hD.2 8 9 rfl rfl (by decide) _ _ rfl rfl ⟨rfl, rfl⟩ ⟨rfl, rfl⟩ b1 ⟨by decide, rfl⟩ ⟨by decide, e⟩
      clear hG hD gd ne x3 x4 e1 e3
      simp only [pickOps, List.filterMap_cons, List.filterMap_nil, List.getElem?_toArray, List.getElem?_cons_succ, List.getElem?_cons_zero]
      have B1 := Lib.hid ba9
      have B2 := Lib.hid bb9
      have G3 := Lib.hid g3
      have K9 := Lib.hid k9
      clear ba9 bb9 g3 k9
      have t9 : True := trivial
      go_upto_region 7 with (have _t := t9; refine wpList_store_blk rfl 78 (.tmp 7) (.tmp 26) rfl b2 78 _ _ rfl rfl B2.out G3.out (by kernel_rfl) (by simp [Value.oneCell']) ?_; intro w10 b10 k10 s10; go_frame; clear _t t9)
      have K10 := Lib.hid (K9.out.own k10 hb2)
      have y1 := B1.out.keep k10 d12
      have y2 := b10
      clear k10 s10 b10 B1 B2 G3 K9
      have Y1 := Lib.hid y1
      have Y2 := Lib.hid y2
      have p0 := y1.cell 0
      have p1 := y1.cell 1
      have p2 := y1.cell 2
      have p3 := y1.cell 3
      have q0 := y2.cell 0
      have q1 := y2.cell 1
      have q2 := y2.cell 2
      have q3 := y2.cell 3
      simp only [List.getElem?_toArray, List.getElem?_cons_zero, List.getElem?_cons_succ] at p0 p1 p2 p3 q0 q1 q2 q3
      have SN := Lib.hid (strings_any ev.needs _ _ _ _ w10 (NS.out.keep K10.out) (NT.out.keep K10.out))
      have SM := Lib.hid (fun (wx : World) (kx : Keep none_ w10 wx) => sameItems_any ev.items (fun x hx => absurd hx (by rw [NA.out]; simp)) _ _ _ _ wx ((IS.out.keep K10.out).keep kx) ((IT.out.keep K10.out).keep kx))
      have hnm : (ev.name.toList == ev.name.toList) = true := by simp
      have hwm : (ev.worker.toList == ev.worker.toList) = true := by simp
      clear y1 y2 NS NT IS IT
      have t11 : True := trivial
      have t12 : True := trivial
      go_wp2_with (first | (have _t := t11; go_at_call 19; refine SN.out.mono ?_; rintro en w11 ⟨rfl, k11⟩; have z1 := Y1.out.keep k11 (fun e => e); have z2 := Y2.out.keep k11 (fun e => e); have p4 := z1.cell 4; have q4 := z2.cell 4; have p5 := z1.cell 5; have q5 := z2.cell 5; simp only [List.getElem?_toArray, List.getElem?_cons_zero, List.getElem?_cons_succ] at p4 q4 p5 q5; have SM11 := Lib.hid (SM.out w11 k11); have K11 := Lib.hid (K10.out.trans k11); clear z1 z2 k11 _t t11) | (have _t := t12; go_at_call 23; refine SM11.out.mono ?_; rintro en w12 ⟨rfl, k12⟩; have K12 := Lib.hid (K11.out.trans k12); clear k12 _t t12))
      go_roundw
      case rel => exact ⟨m + 1, by omega, by go_num, HKZ.out.trans K12.out⟩
      case measure => simp [intOf]; omega
    · obtain rfl : m = l.length := by omega
      go_wp2
      go_ret
      exact ⟨rfl, HKZ.out⟩
end Go.Proofs.YtnefbeplgfdkkaaGreatDoor
/-
  FarmJobs: plain facts for its walk.
-/
namespace Go.Proofs.YtnefbeplgfdkkaaGreatDoor
open Go.RowKit

def ptCells (x : Pt) : List Value := [.bool x.copy, .int .i64 x.film, .int .i64 x.len, .string x.media, .int .i64 x.from_]
theorem parts_of {w : World} {base : Nat} {v : Value} {qs : List Pt} (h : w.ownsRow base 33 5 v qs.length (qs.flatMap ptCells)) : PartsOf w none_ v qs := by
  obtain ⟨A, c, rfl, r⟩ := own_row (S := none_) h (fun _ _ e => e)
  refine ElemsOf.of_row (css := qs.map ptCells) rfl (by simp) (fun x hx => ?_) (by rw [← List.flatMap_def]; exact r) (fun i cs x hi hx => ?_)
  · obtain ⟨y, -, rfl⟩ := List.mem_map.1 hx
    rfl
  · rw [List.getElem?_map, hx] at hi
    simp only [Option.map_some, Option.some.injEq] at hi
    exact hi.symm
theorem pt_info : (Tryz.prog.info? 33).map (fun i => (i.zero, i.size, i.bytes)) = some (some (.agg #[.bool false, .int .i64 0, .int .i64 0, .string ⟨#[]⟩, .int .i64 0]), 5, 48) := by kernel_rfl
theorem plan_info : (Tryz.prog.info? 24).map (fun i => (i.zero, i.size, i.bytes)) = some (some (.agg #[.slice none 0 0]), 1, 24) := by kernel_rfl
theorem bits_and255 (x : Int) : ∃ r : Nat, bits BinOp.and IntKind.i64 x 255 = (r : Int) ∧ r < 256 := by
  have h : (BitVec.ofInt 64 x &&& BitVec.ofInt 64 255).toNat ≤ 255 := by
    rw [BitVec.toNat_and]
    exact Nat.and_le_right
  refine ⟨(BitVec.ofInt 64 x &&& BitVec.ofInt 64 255).toNat, ?_, by omega⟩
  show IntKind.i64.wrap ((BitVec.ofInt 64 x &&& BitVec.ofInt 64 255).toNat : Int) = _
  generalize (BitVec.ofInt 64 x &&& BitVec.ofInt 64 255).toNat = m at h
  have : ∀ m : Fin 256, IntKind.i64.wrap ((m.1 : Nat) : Int) = ((m.1 : Nat) : Int) := by decide +kernel
  exact this ⟨m, by omega⟩
theorem jobsOut_none (es : List Ex) (ps : List Pt) : ∀ e ∈ (jobsOut es ps).1, e.items = [] := by
  have h : ∀ e ∈ jobEvs es ps, e.items = [] := fun e he => by
    unfold jobEvs at he
    obtain ⟨x, -, rfl⟩ := List.mem_map.1 he
    rfl
  unfold jobsOut
  split
  · split
    · exact h
    · exact fun e he => (by cases he)
  · exact fun e he => (by cases he)
/-- Old blocks that Exprs has left, and what comes later. -/
def LS (g k : Nat) : Nat → Prop := orr (one g) k
end Go.Proofs.YtnefbeplgfdkkaaGreatDoor
