/-
  The state of a farm as it lies in memory, and which states are valid.
-/
import Derived.Test.YtnefbeplgfdkkaaGreatDoorJb04
namespace Go.Proofs.YtnefbeplgfdkkaaGreatDoor
open Go.RowKit

/-- A slice whose elements take 'size' cells each; of each element R is known. -/
def ElemsOf {α : Type} (w : World) (S : Nat → Prop) (size : Nat) (R : List Value → α → Prop) (v : Value) (l : List α) : Prop :=
  ∃ A n c, v = .slice A n c ∧ n ≤ c ∧ c ≤ maxLen ∧ l.length = n ∧ (0 < n → ∃ b o, A = some ⟨b, o, none⟩ ∧ ¬ S b ∧ ∀ i (h : i < l.length), ∃ cs, cs.length = size ∧ w.rangeAt b (o + i * size) cs ∧ R cs l[i])
theorem ElemsOf.keep {α : Type} {w w' : World} {S S' : Nat → Prop} {size : Nat} {R R' : List Value → α → Prop} {v : Value} {l : List α} (h : ElemsOf w S size R v l) (k : Keep S' w w') (hS : ∀ b, S' b → S b) (hR : ∀ cs x, R cs x → R' cs x) : ElemsOf w' S size R' v l := by
  obtain ⟨A, n, c, e, h1, h2, h3, h4⟩ := h
  refine ⟨A, n, c, e, h1, h2, h3, fun hn => ?_⟩
  obtain ⟨b, o, e, hb, hc⟩ := h4 hn
  refine ⟨b, o, e, hb, fun i hi => ?_⟩
  obtain ⟨cs, h5, h6, h7⟩ := hc i hi
  exact ⟨cs, h5, rangeAt_keep h6 k (fun x => hb (hS _ x)), hR _ _ h7⟩
/-- What the call makes later lies elsewhere. -/
theorem ElemsOf.fresh {α : Type} {w : World} {S : Nat → Prop} {size : Nat} {R R' : List Value → α → Prop} {v : Value} {l : List α} (h : ElemsOf w S size R v l) (hsz : 0 < size) (hR : ∀ cs x, R cs x → R' cs x) : ElemsOf w (ge w.heap.size) size R' v l := by
  obtain ⟨A, n, c, e, h1, h2, h3, h4⟩ := h
  refine ⟨A, n, c, e, h1, h2, h3, fun hn => ?_⟩
  obtain ⟨b, o, e, hb, hc⟩ := h4 hn
  refine ⟨b, o, e, fun hge => ?_, fun i hi => ?_⟩
  · obtain ⟨cs, h5, h6, h7⟩ := hc 0 (by omega)
    have := World.block_lt_of_cell? w _ (h6 0 cs[0] (List.getElem?_eq_getElem (by omega)))
    unfold ge at hge
    simp at this
    omega
  · obtain ⟨cs, h5, h6, h7⟩ := hc i hi
    exact ⟨cs, h5, h6, hR _ _ h7⟩
theorem StrsOf.keep {w w' : World} {S : Nat → Prop} {v : Value} {l : List ByteArray} (h : StrsOf w S v l) (k : Keep S w w') : StrsOf w' S v l := by
  obtain ⟨A, n, c, e, hr⟩ := h
  exact ⟨A, n, c, e, hr.keep k⟩
theorem StrsOf.fresh {w : World} {S : Nat → Prop} {v : Value} {l : List ByteArray} (h : StrsOf w S v l) : StrsOf w (ge w.heap.size) v l := by
  obtain ⟨A, n, c, e, hr⟩ := h
  exact ⟨A, n, c, e, hr.free.fresh (fun k h => h) (by decide)⟩

/-- An item of a stream: its numbers and bools, its user data and its slices, its stuffing. -/
structure Itm where
  flat : List Value
  user : List (List Int)
  slices : List (Int × List Int)
  pad : Int
def BytesAt (w : World) (S : Nat → Prop) (v : Value) (zs : List Int) : Prop := ∃ A n c, v = .slice A n c ∧ Row w S 1 A n c (zs.map (Value.int .u8))
def ItmOf (w : World) (S : Nat → Prop) (cs : List Value) (x : Itm) : Prop :=
  ∃ u s, cs = x.flat ++ [u, s, .int .i64 x.pad] ∧ x.flat.length = 145 ∧ (∀ v ∈ x.flat, v.oneCell' = true) ∧
    ElemsOf w S 1 (fun cs z => ∃ v, cs = [v] ∧ BytesAt w S v z) u x.user ∧ ElemsOf w S 2 (fun cs z => ∃ v, cs = [.int .i64 z.1, v] ∧ BytesAt w S v z.2) s x.slices
def ItemsOf (w : World) (S : Nat → Prop) (v : Value) (l : List Itm) : Prop := ElemsOf w S 148 (ItmOf w S) v l
theorem BytesAt.keep {w w' : World} {S : Nat → Prop} {v : Value} {zs : List Int} (h : BytesAt w S v zs) (k : Keep S w w') : BytesAt w' S v zs := by
  obtain ⟨A, n, c, e, hr⟩ := h
  exact ⟨A, n, c, e, hr.keep k⟩
theorem BytesAt.fresh {w : World} {S : Nat → Prop} {v : Value} {zs : List Int} (h : BytesAt w S v zs) : BytesAt w (ge w.heap.size) v zs := by
  obtain ⟨A, n, c, e, hr⟩ := h
  exact ⟨A, n, c, e, hr.free.fresh (fun k h => h) (by decide)⟩
theorem ItmOf.keep {w w' : World} {S : Nat → Prop} {cs : List Value} {x : Itm} (h : ItmOf w S cs x) (k : Keep S w w') : ItmOf w' S cs x := by
  obtain ⟨u, s, e, h1, h2, h3, h4⟩ := h
  exact ⟨u, s, e, h1, h2, h3.keep k (fun _ e => e) (fun cs x ⟨v, e, hb⟩ => ⟨v, e, hb.keep k⟩), h4.keep k (fun _ e => e) (fun cs x ⟨v, e, hb⟩ => ⟨v, e, hb.keep k⟩)⟩
theorem ItmOf.fresh {w : World} {S : Nat → Prop} {cs : List Value} {x : Itm} (h : ItmOf w S cs x) : ItmOf w (ge w.heap.size) cs x := by
  obtain ⟨u, s, e, h1, h2, h3, h4⟩ := h
  exact ⟨u, s, e, h1, h2, h3.fresh (by decide) (fun cs x ⟨v, e, hb⟩ => ⟨v, e, hb.fresh⟩), h4.fresh (by decide) (fun cs x ⟨v, e, hb⟩ => ⟨v, e, hb.fresh⟩)⟩
theorem ItemsOf.keep {w w' : World} {S : Nat → Prop} {v : Value} {l : List Itm} (h : ItemsOf w S v l) (k : Keep S w w') : ItemsOf w' S v l := ElemsOf.keep h k (fun _ e => e) (fun _ _ h => h.keep k)
theorem ItemsOf.fresh {w : World} {S : Nat → Prop} {v : Value} {l : List Itm} (h : ItemsOf w S v l) : ItemsOf w (ge w.heap.size) v l := ElemsOf.fresh h (by decide) (fun _ _ h => h.fresh)

theorem ElemsOf.weak {α : Type} {w : World} {S : Nat → Prop} {size : Nat} {R R' : List Value → α → Prop} {v : Value} {l : List α} (h : ElemsOf w S size R v l) (hR : ∀ cs x, R cs x → R' cs x) : ElemsOf w none_ size R' v l := by
  obtain ⟨A, n, c, e, h1, h2, h3, h4⟩ := h
  refine ⟨A, n, c, e, h1, h2, h3, fun hn => ?_⟩
  obtain ⟨b, o, e, hb, hc⟩ := h4 hn
  refine ⟨b, o, e, fun e => e, fun i hi => ?_⟩
  obtain ⟨cs, h5, h6, h7⟩ := hc i hi
  exact ⟨cs, h5, h6, hR _ _ h7⟩
theorem BytesAt.weak {w : World} {S : Nat → Prop} {v : Value} {zs : List Int} (h : BytesAt w S v zs) : BytesAt w none_ v zs := by
  obtain ⟨A, n, c, e, hr⟩ := h
  exact ⟨A, n, c, e, hr.free⟩
theorem ItmOf.weak {w : World} {S : Nat → Prop} {cs : List Value} {x : Itm} (h : ItmOf w S cs x) : ItmOf w none_ cs x := by
  obtain ⟨u, s, e, h1, h2, h3, h4⟩ := h
  exact ⟨u, s, e, h1, h2, h3.weak (fun cs x ⟨v, e, hb⟩ => ⟨v, e, hb.weak⟩), h4.weak (fun cs x ⟨v, e, hb⟩ => ⟨v, e, hb.weak⟩)⟩
theorem ItemsOf.weak {w : World} {S : Nat → Prop} {v : Value} {l : List Itm} (h : ItemsOf w S v l) : ItemsOf w none_ v l := ElemsOf.weak h (fun _ _ h => h.weak)

structure Jb where
  name : ByteArray
  needs : List ByteArray
  worker : ByteArray
  until_ : Int
  tries : Int
  done : Bool
  items : List Itm
structure Wk where
  name : ByteArray
  dead : Bool
structure St where
  now : Int
  present : List ByteArray
  jobs : List Jb
  workers : List Wk
def JbOf (w : World) (S : Nat → Prop) (cs : List Value) (j : Jb) : Prop :=
  ∃ vn vi, cs = [.string j.name, vn, .string j.worker, .int .i64 j.until_, .int .i64 j.tries, .bool j.done, vi] ∧ StrsOf w S vn j.needs ∧ ItemsOf w S vi j.items
def WkOf (cs : List Value) (x : Wk) : Prop := cs = [.string x.name, .bool x.dead]
def JobsOf (w : World) (S : Nat → Prop) (v : Value) (l : List Jb) : Prop := ElemsOf w S 7 (JbOf w S) v l
def WorkersOf (w : World) (S : Nat → Prop) (v : Value) (l : List Wk) : Prop := ElemsOf w S 2 WkOf v l
def StateOf (w : World) (S : Nat → Prop) (v : Value) (s : St) : Prop :=
  ∃ vp vj vw, v = .agg #[.int .i64 s.now, vp, vj, vw] ∧ StrsOf w S vp s.present ∧ JobsOf w S vj s.jobs ∧ WorkersOf w S vw s.workers
theorem JbOf.keep {w w' : World} {S : Nat → Prop} {cs : List Value} {x : Jb} (h : JbOf w S cs x) (k : Keep S w w') : JbOf w' S cs x := by
  obtain ⟨vn, vi, e, h1, h2⟩ := h
  exact ⟨vn, vi, e, h1.keep k, h2.keep k⟩
theorem JbOf.fresh {w : World} {S : Nat → Prop} {cs : List Value} {x : Jb} (h : JbOf w S cs x) : JbOf w (ge w.heap.size) cs x := by
  obtain ⟨vn, vi, e, h1, h2⟩ := h
  exact ⟨vn, vi, e, h1.fresh, h2.fresh⟩
theorem JobsOf.keep {w w' : World} {S : Nat → Prop} {v : Value} {l : List Jb} (h : JobsOf w S v l) (k : Keep S w w') : JobsOf w' S v l := ElemsOf.keep h k (fun _ e => e) (fun _ _ h => h.keep k)
theorem JobsOf.fresh {w : World} {S : Nat → Prop} {v : Value} {l : List Jb} (h : JobsOf w S v l) : JobsOf w (ge w.heap.size) v l := ElemsOf.fresh h (by decide) (fun _ _ h => h.fresh)
theorem WorkersOf.keep {w w' : World} {S : Nat → Prop} {v : Value} {l : List Wk} (h : WorkersOf w S v l) (k : Keep S w w') : WorkersOf w' S v l := ElemsOf.keep h k (fun _ e => e) (fun _ _ h => h)
theorem WorkersOf.fresh {w : World} {S : Nat → Prop} {v : Value} {l : List Wk} (h : WorkersOf w S v l) : WorkersOf w (ge w.heap.size) v l := ElemsOf.fresh h (by decide) (fun _ _ h => h)
theorem StateOf.keep {w w' : World} {S : Nat → Prop} {v : Value} {s : St} (h : StateOf w S v s) (k : Keep S w w') : StateOf w' S v s := by
  obtain ⟨a, b, c, e, h1, h2, h3⟩ := h
  exact ⟨a, b, c, e, h1.keep k, h2.keep k, h3.keep k⟩
theorem StateOf.fresh {w : World} {S : Nat → Prop} {v : Value} {s : St} (h : StateOf w S v s) : StateOf w (ge w.heap.size) v s := by
  obtain ⟨a, b, c, e, h1, h2, h3⟩ := h
  exact ⟨a, b, c, e, h1.fresh, h2.fresh, h3.fresh⟩

/-- 37.2: which states are valid. -/
def giftOk (j : Jb) (now : Int) : Bool := !j.done && decide (now < j.until_) && decide (j.until_ ≤ now + 10) && decide (j.tries < 3)
def wkGood (ws : List Wk) (k : Nat) : Bool := match ws[k]? with
  | some x => !(ws.take k).any (fun y => strEq x.name y.name) && nameOk x.name
  | none => true
def wkFree (s : St) (k : Nat) (x : ByteArray) : Bool := s.workers.any (fun y => strEq x y.name) && !(s.jobs.take k).any (fun j => strEq x j.worker)
def jobBase (s : St) (k : Nat) (j : Jb) : Bool := !(s.jobs.take k).any (fun y => strEq j.name y.name) && nameOk j.name && namesOk j.needs && decide (0 ≤ j.tries) && decide (j.tries ≤ 3) && (j.done || decide (j.items.length = 0))
def jobGood (s : St) (k : Nat) : Bool := match s.jobs[k]? with
  | some j => jobBase s k j && (if strEq j.worker ⟨#[]⟩ then decide (j.until_ = 0) else wkFree s k j.worker && giftOk j s.now)
  | none => true
def headOk (s : St) : Bool := decide (0 ≤ s.now) && decide (s.now ≤ 1099511627776) && namesOk s.present && decide (s.jobs.length ≤ 64) && decide (s.workers.length ≤ 32)
def validF (s : St) : Bool := headOk s && (List.range s.workers.length).all (wkGood s.workers) && (List.range s.jobs.length).all (jobGood s)

set_option maxHeartbeats 400000 in
theorem validGift_any (j : Jb) (vn vi : Value) (now : Int) (w : World) (hn : now ≤ 9223372036854775797) (hn0 : 0 ≤ now) :
    Calls Tryz.prog 43 #[.agg #[.string j.name, vn, .string j.worker, .int .i64 j.until_, .int .i64 j.tries, .bool j.done, vi], .int .i64 now] w fun e w' => e = .returned (.bool (giftOk j now)) ∧ Keep none_ w w' := by
  obtain ⟨name, needs, worker, u, t, d, items⟩ := j
  simp only
  have k0 : Keep none_ w (w.alloc (.cells #[.string name, vn, .string worker, .int .i64 u, .int .i64 t, .bool d, vi] 57)) := (Keep.refl _ _).alloc _
  have e1 : now + 10 ≤ 9223372036854775807 := by omega
  have ans : giftOk ⟨name, needs, worker, u, t, d, items⟩ now = (!d && decide (now < u) && decide (u ≤ now + 10) && decide (t < 3)) := rfl
  have ANS := Lib.hid ans
  clear ans
  cases d with
  | true =>
    go_enter Tryz.func43, Tryz.ntmps43
    go_wp2
    go_ret
    exact ⟨ret_bool (by rw [ANS.out]; rfl), k0⟩
  | false =>
    by_cases h1 : now < u
    · by_cases h2 : u ≤ now + 10
      · go_enter Tryz.func43, Tryz.ntmps43
        go_wp2
        go_ret
        exact ⟨ret_bool (by rw [ANS.out]; simp [h1, h2]), k0⟩
      · have h2' : decide (u ≤ now + 10) = false := decide_eq_false h2
        go_enter Tryz.func43, Tryz.ntmps43
        go_wp2
        go_ret
        exact ⟨ret_bool (by rw [ANS.out, h2']; simp), k0⟩
    · have h1' : decide (now < u) = false := decide_eq_false h1
      go_enter Tryz.func43, Tryz.ntmps43
      go_wp2
      go_ret
      exact ⟨ret_bool (by rw [ANS.out, h1']; simp), k0⟩
end Go.Proofs.YtnefbeplgfdkkaaGreatDoor
