/-
  Names: timeline.ValidName, farm.validNames.
-/
import Derived.Test.YtnefbeplgfdkkaaGreatDoorJb03
namespace Go.Proofs.YtnefbeplgfdkkaaGreatDoor
open Go.RowKit

/-- 23.1: the bytes of a name. -/
def okByte (c : UInt8) : Bool := (decide (97 ≤ c.toNat) && decide (c.toNat ≤ 122)) || (decide (48 ≤ c.toNat) && decide (c.toNat ≤ 57)) || decide (c.toNat = 45) || decide (c.toNat = 95) || decide (c.toNat = 46)
def nameOk (s : ByteArray) : Bool := decide (1 ≤ s.size) && decide (s.size ≤ 32) && s.data.toList.all okByte
theorem take_snoc (s : ByteArray) (k : Nat) (h : k < s.size) : s.data.toList.take (k + 1) = s.data.toList.take k ++ [s[k]] := by
  rw [List.take_succ_eq_append_getElem (by simpa using h)]; rfl
theorem all_part {α : Type} (p : α → Bool) (l : List α) (k : Nat) (h : (l.take k).all p = false) : l.all p = false := by
  rw [← List.take_append_drop k l, List.all_append, h]
  rfl

set_option maxHeartbeats 400000 in
theorem validName_any (s : ByteArray) (w : World) : Calls Tryz.prog 42 #[.string s] w fun e w' => e = .returned (.bool (nameOk s)) ∧ w = w' := by
  by_cases h1 : 1 ≤ s.size
  · by_cases h2 : s.size ≤ 32
    · have h1' : decide ((s.size : Int) < 1) = false := decide_eq_false (by omega)
      have h2' : decide ((32 : Int) < s.size) = false := decide_eq_false (by omega)
      have ans : nameOk s = s.data.toList.all okByte := by simp [nameOk, h1, h2]
      have ANS := Lib.hid ans
      clear ans
      go_enter Tryz.func42, Tryz.ntmps42
      go_wp2
      go_loop [15] (fun i => ∃ k : Nat, k ≤ s.size ∧ i = .int .i64 k ∧ (s.data.toList.take k).all okByte = true) (fun i => s.size - (intOf i).toNat)
      case atStart => exact ⟨0, Nat.zero_le _, rfl, rfl⟩
      case round =>
        obtain ⟨k, hk, rfl, hall⟩ := hrel
        by_cases hlt : k < s.size
        · have hsn : (s.data.toList.take (k + 1)).all okByte = okByte s[k] := by rw [take_snoc s k hlt, List.all_append, hall]; simp
          have HS := Lib.hid hsn
          have HA := Lib.hid hall
          clear hsn hall
          generalize hc : s[k] = c at HS
          go_wp2
          all_goals first
            | (go_round
               case rel => exact ⟨k + 1, by omega, by go_num, by rw [HS.out]; unfold okByte; simp at *; omega⟩
               case measure => simp [intOf]; omega)
            | (go_ret
               exact ⟨ret_bool (by rw [ANS.out, all_part okByte _ (k + 1) (by rw [HS.out]; unfold okByte; simp at *; omega)]), rfl⟩)
        · have HA := Lib.hid hall
          clear hall
          go_wp2
          go_ret
          exact ⟨ret_bool (by rw [ANS.out]; have := HA.out; rw [List.take_of_length_le (by simp; omega)] at this; exact this.symm), rfl⟩
    · have ans : nameOk s = false := by simp [nameOk, h2]
      have h1' : decide ((s.size : Int) < 1) = false := decide_eq_false (by omega)
      have h2' : decide ((32 : Int) < s.size) = true := decide_eq_true (by omega)
      rw [ans]
      go_enter Tryz.func42, Tryz.ntmps42
      go_wp2
      go_ret
      exact ⟨rfl, rfl⟩
  · have ans : nameOk s = false := by simp [nameOk, h1]
    have h1' : decide ((s.size : Int) < 1) = true := decide_eq_true (by omega)
    rw [ans]
    go_enter Tryz.func42, Tryz.ntmps42
    go_wp2
    go_ret
    exact ⟨rfl, rfl⟩

/-- A slice of strings. -/
def StrsOf (w : World) (S : Nat → Prop) (v : Value) (l : List ByteArray) : Prop := ∃ A n c, v = .slice A n c ∧ Row w S 1 A n c (l.map Value.string)
def strLe (a b : ByteArray) : Bool := Op.bytesLess a.toList b.toList || a.toList == b.toList
def strLt (a b : ByteArray) : Bool := Op.bytesLess a.toList b.toList
def strEq (a b : ByteArray) : Bool := a.toList == b.toList
/-- Name k is valid and greater than the one before it. -/
def goodAt (l : List ByteArray) (k : Nat) : Bool := nameOk (l.getD k .empty) && (k == 0 || !strLe (l.getD k .empty) (l.getD (k - 1) .empty))
def namesOk (l : List ByteArray) : Bool := (List.range l.length).all (goodAt l) && decide (l.length ≤ 16)
theorem Row.strs {w : World} {S : Nat → Prop} {A : Option Addr} {n c : Nat} {l : List ByteArray} (h : Row w S 1 A n c (l.map Value.string)) (hn : 0 < n) : ∃ b o, A = some ⟨b, o, none⟩ ∧ ¬ S b ∧ ∀ j, j < n → w.cell? ⟨b, o + j, none⟩ = some (.string (l.getD j .empty)) := by
  obtain ⟨b, o, e, hb, hc⟩ := h.at_ hn
  refine ⟨b, o, e, hb, fun j hj => hc j _ ?_⟩
  have hl : j < l.length := by have := h.len; simp at this; omega
  simp [hl]
theorem range_all_succ (p : Nat → Bool) (k : Nat) : (List.range (k + 1)).all p = ((List.range k).all p && p k) := by simp [List.range_succ, List.all_append]
theorem range_all_part (p : Nat → Bool) (k n : Nat) (hk : k < n) (h : p k = false) : (List.range n).all p = false := by
  rw [List.all_eq_false]
  exact ⟨k, by simp [hk], by simp [h]⟩

set_option maxHeartbeats 400000 in
theorem validNames_any (l : List ByteArray) (v : Value) (S : Nat → Prop) (w : World) (h : StrsOf w S v l) : Calls Tryz.prog 41 #[v] w fun e w' => e = .returned (.bool (namesOk l)) ∧ w = w' := by
  obtain ⟨A, n, c, rfl, hr⟩ := h
  have hl : l.length = n := by have := hr.len; simp at this; omega
  have hcap := hr.cap
  have hle := hr.le
  unfold maxLen at hcap
  have HL := Lib.hid hl
  have HR := Lib.hid hr
  clear hl hr
  go_enter Tryz.func41, Tryz.ntmps41
  go_wp2
  go_loop [7] (fun i => ∃ k : Nat, k ≤ n ∧ i = .int .i64 k ∧ (List.range k).all (goodAt l) = true) (fun i => n - (intOf i).toNat)
  case atStart => exact ⟨0, Nat.zero_le _, rfl, rfl⟩
  case round =>
    obtain ⟨k, hk, rfl, hall⟩ := hrel
    have HA := Lib.hid hall
    clear hall
    by_cases hlt : k < n
    · obtain ⟨b, o, rfl, -, hc⟩ := HR.out.strs (by omega)
      have c0 := hc k hlt
      have hlt' : (k : Int) < n := by omega
      cases hn : nameOk (l.getD k .empty) with
      | false =>
        have bad : goodAt l k = false := by unfold goodAt; rw [hn]; rfl
        have BAD := Lib.hid bad
        have NO := validName_any (l.getD k .empty) w
        rw [hn] at NO
        have HN := Lib.hid NO
        generalize l.getD k .empty = x at c0 HN
        clear hn bad NO hc
        go_wp2_with (go_at_call 42; refine HN.out.mono ?_; rintro e w' ⟨rfl, rfl⟩)
        go_ret
        exact ⟨ret_bool (by unfold namesOk; rw [HL.out, range_all_part _ k n hlt BAD.out]; rfl), rfl⟩
      | true =>
        have NO := validName_any (l.getD k .empty) w
        rw [hn] at NO
        have HN := Lib.hid NO
        clear NO
        by_cases hk0 : k = 0
        · subst hk0
          rw [Nat.add_zero] at c0
          have good : goodAt l 0 = true := by unfold goodAt; rw [hn]; rfl
          have GOOD := Lib.hid good
          generalize l.getD 0 .empty = x at c0 HN
          clear hn good hc
          go_wp2_with (go_at_call 42; refine HN.out.mono ?_; rintro e w' ⟨rfl, rfl⟩)
          go_round
          case rel => exact ⟨1, by omega, by go_num, by rw [range_all_succ, GOOD.out, HA.out]; rfl⟩
          case measure => simp [intOf]; omega
        · have c1 := hc (k - 1) (by omega)
          have hk1 : (0 : Int) < k := by omega
          have e1 : (k : Int) - 1 = ((k - 1 : Nat) : Int) := by omega
          have gd : goodAt l k = !strLe (l.getD k .empty) (l.getD (k - 1) .empty) := by unfold goodAt; rw [hn]; simp [hk0]
          have GD := Lib.hid gd
          generalize l.getD k .empty = x at c0 HN GD
          generalize l.getD (k - 1) .empty = y at c1 GD
          obtain ⟨j, hj⟩ : ∃ j, j = k - 1 := ⟨_, rfl⟩
          rw [← hj] at c1 e1
          clear hn gd hc
          cases hs : strLe x y with
          | true =>
            have hs' : (Op.bytesLess x.toList y.toList || x.toList == y.toList) = true := hs
            have BAD := Lib.hid (show goodAt l k = false by rw [GD.out, hs]; rfl)
            have HJ := Lib.hid hj
            clear hs hj
            have hj' : j < n := by have := HJ.out; omega
            go_wp2_with (go_at_call 42; refine HN.out.mono ?_; rintro e w' ⟨rfl, rfl⟩)
            go_ret
            exact ⟨ret_bool (by unfold namesOk; rw [HL.out, range_all_part _ k n hlt BAD.out]; rfl), rfl⟩
          | false =>
            have hs' : (Op.bytesLess x.toList y.toList || x.toList == y.toList) = false := hs
            have GOOD := Lib.hid (show goodAt l k = true by rw [GD.out, hs]; rfl)
            have HJ := Lib.hid hj
            clear hs hj
            have hj' : j < n := by have := HJ.out; omega
            go_wp2_with (go_at_call 42; refine HN.out.mono ?_; rintro e w' ⟨rfl, rfl⟩)
            go_round
            case rel => exact ⟨k + 1, by omega, by go_num, by rw [range_all_succ, GOOD.out, HA.out]; rfl⟩
            case measure => simp [intOf]; omega
    · obtain rfl : k = n := by omega
      go_wp2
      go_ret
      exact ⟨ret_bool (by unfold namesOk; rw [HL.out, HA.out, Bool.true_and]; rw [Bool.eq_iff_iff]; simp; omega), rfl⟩
end Go.Proofs.YtnefbeplgfdkkaaGreatDoor
/-
  Maps from strings to bools that a call has made.
-/
namespace Go.Proofs.YtnefbeplgfdkkaaGreatDoor
open Go.RowKit

theorem beq_bytes (a b : ByteArray) : (a == b) = strEq a b := beq_toListBytes a b
theorem strEq_iff {a b : ByteArray} : strEq a b = true ↔ a = b := by
  unfold strEq
  rw [beq_iff_eq, ByteArray.toList_eq, ByteArray.toList_eq]
  constructor
  · intro h
    obtain ⟨⟨x⟩⟩ := a
    obtain ⟨⟨y⟩⟩ := b
    simp at h
    rw [h]
  · rintro rfl; rfl
theorem strEq_self (a : ByteArray) : strEq a a = true := strEq_iff.2 rfl
theorem strEq_comm (a b : ByteArray) : strEq a b = strEq b a := by
  rw [Bool.eq_iff_iff, strEq_iff, strEq_iff]
  exact eq_comm

/-- What the entries say of a key. -/
def look : List MapEntry → ByteArray → Option Bool
  | [], _ => none
  | e :: es, k => match e.key, e.val with
    | .string s, .bool v => if strEq k s then some v else look es k
    | _, _ => look es k
/-- All entries are strings with bools. -/
def SB (es : List MapEntry) : Prop := ∀ e ∈ es, ∃ s v, e.key = .string s ∧ e.val = .bool v
/-- Block b is a map from strings to bools that reads as M. -/
def SMap (w : World) (b : Nat) (M : ByteArray → Option Bool) : Prop := ∃ es clock, w.heap[b]? = some (.map es clock) ∧ SB es.toList ∧ ∀ k, look es.toList k = M k

theorem SMap.keep {w w' : World} {S : Nat → Prop} {b : Nat} {M : ByteArray → Option Bool} (h : SMap w b M) (k : Keep S w w') (hS : ¬ S b) : SMap w' b M := by
  obtain ⟨es, clock, hb, h1, h2⟩ := h
  have hlt : b < w.heap.size := (Array.getElem?_eq_some_iff.1 hb).1
  exact ⟨es, clock, (k.block b hlt hS).trans hb, h1, h2⟩
theorem SMap.lt {w : World} {b : Nat} {M : ByteArray → Option Bool} (h : SMap w b M) : b < w.heap.size := by
  obtain ⟨es, clock, hb, h1, h2⟩ := h
  exact (Array.getElem?_eq_some_iff.1 hb).1
theorem SMap.new (w : World) : SMap (w.alloc (.map #[] 0)) w.heap.size (fun _ => none) :=
  ⟨#[], 0, heap_alloc_new w _, fun e h => by simp at h, fun _ => rfl⟩

/-- Where the first entry of a key lies. -/
def spot : List MapEntry → ByteArray → Nat → Option (Nat × Value)
  | [], _, _ => none
  | e :: es, k, i => match e.key with
    | .string s => if strEq k s then some (i, e.val) else spot es k (i + 1)
    | _ => spot es k (i + 1)
theorem find_spot (k : ByteArray) : ∀ (es : List MapEntry) (i : Nat), SB es → Instr.findNow .string (.string k) es i = some (spot es k i)
  | [], _, _ => rfl
  | e :: es, i, h => by
    obtain ⟨s, v, hk, hv⟩ := h e (List.mem_cons_self ..)
    have ih := find_spot k es (i + 1) fun e he => h e (List.mem_cons_of_mem _ he)
    unfold Instr.findNow spot
    rw [hk]
    simp only [Instr.sameNow, beq_bytes]
    cases strEq k s <;> simp [ih]
theorem spot_look (k : ByteArray) : ∀ (es : List MapEntry) (i : Nat), SB es → look es k = match spot es k i with
    | some (_, .bool v) => some v
    | _ => none
  | [], _, _ => rfl
  | e :: es, i, h => by
    obtain ⟨s, v, hk, hv⟩ := h e (List.mem_cons_self ..)
    have ih := spot_look k es (i + 1) fun e he => h e (List.mem_cons_of_mem _ he)
    unfold look spot
    rw [hk, hv]
    simp only
    cases strEq k s
    · simpa using ih
    · rfl
theorem spot_bool (k : ByteArray) : ∀ (es : List MapEntry) (i : Nat), SB es → ∀ j u, spot es k i = some (j, u) → ∃ v, u = .bool v
  | [], _, _, _, _, h => by simp [spot] at h
  | e :: es, i, h, j, u, hs => by
    obtain ⟨s, v, hk, hv⟩ := h e (List.mem_cons_self ..)
    unfold spot at hs
    rw [hk] at hs
    simp only at hs
    split at hs
    · simp only [Option.some.injEq, Prod.mk.injEq] at hs
      exact ⟨v, by rw [← hs.2, hv]⟩
    · exact spot_bool k es (i + 1) (fun e he => h e (List.mem_cons_of_mem _ he)) j u hs

section
variable {P : Program} {w : World} {b : Nat} {M : ByteArray → Option Bool}
theorem run_findKey {K : TypeId} (hK : P.underlying K = some .string) (k : ByteArray) (es : List MapEntry) (h : SB es) : (Instr.findKey K (.string k) es).run P w = .ok (spot es k 0) w := by
  unfold Instr.findKey
  simp [run_underlying hK, find_spot k es 0 h]
theorem run_checkKey {K : TypeId} (hK : P.underlying K = some .string) (k : ByteArray) (e : Bool) (n : Nat) : (Instr.checkKey e (n + 1) K (.string k)).run P w = .ok () w := by
  unfold Instr.checkKey
  simp [run_underlying hK]
theorem SMap.lookup (h : SMap w b M) {t K E : TypeId} (ht : P.underlying t = some (.map K E)) (hK : P.underlying K = some .string) (hz : ∀ w, (zeroValue E).run P w = .ok (.bool false) w) (k : ByteArray) (ok : Bool) :
    (Instr.lookup t (.map (some b)) (.string k) ok).run P w = .ok (if ok then .tuple #[.bool ((M k).getD false), .bool (M k).isSome] else .bool ((M k).getD false)) w := by
  obtain ⟨es, clock, hb, hs, hl⟩ := h
  have hg : (getObj b).run P w = .ok (.map es clock) w := by simp [getObj, Sem.run, hb]
  have hl' := hl k
  rw [spot_look k es.toList 0 hs] at hl'
  have hc := run_checkKey (w := w) hK k es.isEmpty 9999
  unfold Instr.lookup
  simp only [Sem.run_bind, run_underlying ht, Result.andThen_ok, hg, Sem.run_pure, hc, run_findKey hK k es.toList hs]
  cases hsp : spot es.toList k 0 with
  | none =>
    rw [hsp] at hl'
    simp only at hl'
    simp [hz, ← hl']
  | some y =>
    obtain ⟨j, u⟩ := y
    obtain ⟨v, rfl⟩ := spot_bool k es.toList 0 hs j u hsp
    rw [hsp] at hl'
    simp only at hl'
    simp [← hl']
theorem spot_lt (k : ByteArray) : ∀ (es : List MapEntry) (i j : Nat) (u : Value), spot es k i = some (j, u) → i ≤ j ∧ j - i < es.length ∧ ∃ e s, es[j - i]? = some e ∧ e.key = .string s ∧ strEq k s = true
  | [], _, _, _, h => by simp [spot] at h
  | e :: es, i, j, u, h => by
    unfold spot at h
    have rec_ : spot es k (i + 1) = some (j, u) → i ≤ j ∧ j - i < (e :: es).length ∧ ∃ e' s, (e :: es)[j - i]? = some e' ∧ e'.key = .string s ∧ strEq k s = true := fun h => by
      obtain ⟨h1, h2, e', s, h3, h4, h5⟩ := spot_lt k es (i + 1) j u h
      refine ⟨by omega, by simp; omega, e', s, ?_, h4, h5⟩
      rw [show j - i = (j - (i + 1)) + 1 by omega, List.getElem?_cons_succ]
      exact h3
    split at h
    · rename_i s hs
      split at h
      · rename_i he
        simp only [Option.some.injEq, Prod.mk.injEq] at h
        obtain ⟨rfl, -⟩ := h
        exact ⟨Nat.le_refl _, by simp, e, s, by simp, hs, he⟩
      · exact rec_ h
    · exact rec_ h
theorem look_modify (k x : ByteArray) (v : Bool) : ∀ (es : List MapEntry) (i j : Nat) (u : Value), SB es → spot es k i = some (j, u) → look (es.modify (j - i) fun e => { e with key := .string k, val := .bool v }) x = if strEq x k then some v else look es x
  | [], _, _, _, _, h => by simp [spot] at h
  | e :: es, i, j, u, hs, h => by
    obtain ⟨s, v0, hk, hv⟩ := hs e (List.mem_cons_self ..)
    unfold spot at h
    rw [hk] at h
    simp only at h
    split at h
    · rename_i he
      simp only [Option.some.injEq, Prod.mk.injEq] at h
      obtain ⟨rfl, -⟩ := h
      have hks := strEq_iff.1 he
      rw [Nat.sub_self]
      simp only [List.modify_zero_cons, look, hk, hv]
      rw [hks]
      split <;> rfl
    · rename_i he
      obtain ⟨h1, -⟩ := spot_lt k es (i + 1) j u h
      have ih := look_modify k x v es (i + 1) j u (fun e he => hs e (List.mem_cons_of_mem _ he)) h
      rw [show j - i = (j - (i + 1)) + 1 by omega, List.modify_succ_cons]
      simp only [look, hk, hv, ih]
      by_cases hx : strEq x s = true
      · have hxk : strEq x k = false := by
          rw [strEq_iff.1 hx, strEq_comm]
          simpa using he
        simp [hx, hxk]
      · simp [hx]
theorem look_push (k x : ByteArray) (v : Bool) (clock : Nat) : ∀ (es : List MapEntry) (i : Nat), SB es → spot es k i = none → look (es ++ [{ key := .string k, val := .bool v, born := clock }]) x = if strEq x k then some v else look es x
  | [], _, _, _ => by simp [look]
  | e :: es, i, hs, h => by
    obtain ⟨s, v0, hk, hv⟩ := hs e (List.mem_cons_self ..)
    unfold spot at h
    rw [hk] at h
    simp only at h
    split at h
    · simp at h
    · rename_i he
      have ih := look_push k x v clock es (i + 1) (fun e he => hs e (List.mem_cons_of_mem _ he)) h
      rw [List.cons_append]
      simp only [look, hk, hv, ih]
      by_cases hx : strEq x s = true
      · have hxk : strEq x k = false := by
          rw [strEq_iff.1 hx, strEq_comm]
          simpa using he
        simp [hx, hxk]
      · simp [hx]
theorem keep_setObj (w : World) (b : Nat) (o : Obj) : Keep (one b) w { w with heap := w.heap.setIfInBounds b o } :=
  ⟨rfl, rfl, rfl, by simp, fun k _ hn => by simp [Array.getElem?_setIfInBounds_ne (fun e : b = k => hn e.symm)]⟩
theorem SMap.update (h : SMap w b M) {t K E : TypeId} (ht : P.underlying t = some (.map K E)) (hK : P.underlying K = some .string) (k : ByteArray) (v : Bool) :
    ∃ w', (Instr.mapUpdate t (.map (some b)) (.string k) (.bool v)).run P w = .ok () w' ∧ SMap w' b (fun x => if strEq x k then some v else M x) ∧ Keep (one b) w w' := by
  have hlt := h.lt
  obtain ⟨es, clock, hb, hs, hl⟩ := h
  have hg : (getObj b).run P w = .ok (.map es clock) w := by simp [getObj, Sem.run, hb]
  have hset : ∀ o, (setObj b o).run P w = .ok () { w with heap := w.heap.setIfInBounds b o } := fun o => by simp [setObj, Sem.run, hb]
  have hc := run_checkKey (w := w) hK k false 9999
  unfold Instr.mapUpdate
  simp only [Sem.run_bind, run_underlying ht, Result.andThen_ok, hg, hc, run_findKey hK k es.toList hs]
  cases hsp : spot es.toList k 0 with
  | none =>
    simp only [hset]
    refine ⟨_, rfl, ⟨es.push { key := .string k, val := .bool v, born := clock }, clock + 1, by simp [hlt], fun e he => ?_, fun x => ?_⟩, keep_setObj _ _ _⟩
    · rw [Array.toList_push, List.mem_append] at he
      rcases he with he | he
      · exact hs e he
      · simp at he
        exact ⟨k, v, by rw [he], by rw [he]⟩
    · rw [Array.toList_push, look_push k x v clock es.toList 0 hs hsp, hl]
  | some y =>
    obtain ⟨j, u⟩ := y
    obtain ⟨-, h2, e, s, h3, h4, h5⟩ := spot_lt k es.toList 0 j u hsp
    rw [Nat.sub_zero] at h2 h3
    have he : es[j]? = some e := by simpa using h3
    have hkt : (Instr.keyThatStays (((es[j]?).map (·.key)).getD (.string k)) (.string k)).run P w = .ok (.string k) w := by
      rw [he]
      simp only [Option.map_some, Option.getD_some, h4]
      unfold Instr.keyThatStays
      rw [if_pos (by simp only [Instr.sameBits, beq_bytes]; rw [strEq_comm]; exact h5)]
      rfl
    simp only [Sem.run_bind, hkt, Result.andThen_ok, hset]
    refine ⟨_, rfl, ⟨es.modify j fun e => { e with key := .string k, val := .bool v }, clock, by simp [hlt], fun e he => ?_, fun x => ?_⟩, keep_setObj _ _ _⟩
    · rw [Array.toList_modify] at he
      obtain ⟨i, hi⟩ := List.getElem?_of_mem he
      rw [List.getElem?_modify] at hi
      cases hei : es.toList[i]? with
      | none => simp [hei] at hi
      | some e0 =>
        rw [hei] at hi
        have h0 := hs e0 (List.mem_of_getElem? hei)
        by_cases hij : j = i
        · simp [hij] at hi
          exact ⟨k, v, by rw [← hi], by rw [← hi]⟩
        · simp [hij] at hi
          rw [← hi]
          exact h0
    · rw [Array.toList_modify]
      have := look_modify k x v es.toList 0 j u hs hsp
      rw [Nat.sub_zero] at this
      rw [this, hl]
end
section
variable {P : Program} {ops : Array Oper} {rest : List Oper} {op : Oper} {a : Act} {w : World} {Q : Exit → Act → World → Prop} {b : Nat} {M : ByteArray → Option Bool}
/-- 'm[k]' and 'v, ok := m[k]'. -/
theorem wpList_smap_lookup (t : TypeId) (m x : Operand) (ok : Bool) (ho : op.op = .lookup t m x ok) (hgd : op.guard = none) (K E : TypeId) (ht : P.underlying t = some (.map K E)) (hK : P.underlying K = some .string) (hz : ∀ w, (zeroValue E).run P w = .ok (.bool false) w)
    (hm : a.eval m = .map (some b)) (h : SMap w b M) (k : ByteArray) (hx : a.eval x = .string k) (v : Value) (hv : v = if ok then .tuple #[.bool ((M k).getD false), .bool (M k).isSome] else .bool ((M k).getD false))
    (hn : wpList P ops Q rest (a.put op.dst v) w) : wpList P ops Q (op :: rest) a w :=
  wpList_plain hgd fun K' hK' => by
    subst hv
    unfold Oper.wp execOp
    simp only [ho, hm, hx, Sem.run_bind, h.lookup ht hK hz k ok, Result.andThen_ok, Sem.run_pure]
    exact hK' _ _ hn
/-- 'm[k] = v'. -/
theorem wpList_smap_update (t : TypeId) (m x y : Operand) (ho : op.op = .mapUpdate t m x y) (hgd : op.guard = none) (K E : TypeId) (ht : P.underlying t = some (.map K E)) (hK : P.underlying K = some .string)
    (hm : a.eval m = .map (some b)) (h : SMap w b M) (k : ByteArray) (hx : a.eval x = .string k) (v : Bool) (hy : a.eval y = .bool v)
    (hn : ∀ w', SMap w' b (fun x => if strEq x k then some v else M x) → Keep (one b) w w' → wpList P ops Q rest (a.put op.dst undef) w') : wpList P ops Q (op :: rest) a w :=
  wpList_plain hgd fun K' hK' => by
    obtain ⟨w', hrun, h1, h2⟩ := h.update ht hK k v
    unfold Oper.wp execOp
    simp only [ho, hm, hx, hy, Sem.run_bind, hrun, Result.andThen_ok, Sem.run_pure]
    exact hK' _ _ (hn w' h1 h2)
end
end Go.Proofs.YtnefbeplgfdkkaaGreatDoor
