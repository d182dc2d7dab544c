/-
  Expressions in memory; denote.Valid.
-/
import Derived.Test.YtnefbeplgfdkkaaGreatDoorJb29
import Derived.Test.YtnefbeplgfdkkaaGreatDoorJb33
import Derived.Test.YtnefbeplgfdkkaaGreatDoorJb19
import Derived.Sort.Walk0
namespace Go.Proofs.YtnefbeplgfdkkaaGreatDoor
open Go.RowKit

/-- An expression of at most d layers, as it lies in memory. -/
def ExAt : Nat → World → (Nat → Prop) → List Value → Ex → Prop
  | 0, _, _, _, _ => False
  | d + 1, w, S, cs, x => ∃ v, cs = [.int .i64 x.op, .string x.media, .int .i64 x.frame, .int .i64 x.num, .int .i64 x.den, .int .i64 x.param, .string x.text, v] ∧ Szd x.media ∧ Szd x.text ∧ ElemsOf w S 8 (ExAt d w S) v x.args
theorem ExAt.keep {w w' : World} {S : Nat → Prop} (k : Keep S w w') : ∀ {d : Nat} {cs : List Value} {x : Ex}, ExAt d w S cs x → ExAt d w' S cs x
  | 0, _, _, h => h.elim
  | _ + 1, _, _, ⟨v, e, h1, h2, h3⟩ => ⟨v, e, h1, h2, h3.keep k (fun _ e => e) (fun _ _ h => ExAt.keep k h)⟩
theorem ExAt.sub {w : World} {S S' : Nat → Prop} (hS : ∀ b, S' b → S b) : ∀ {d : Nat} {cs : List Value} {x : Ex}, ExAt d w S cs x → ExAt d w S' cs x
  | 0, _, _, h => h.elim
  | _ + 1, _, _, ⟨v, e, h1, h2, h3⟩ => ⟨v, e, h1, h2, h3.sub hS (fun _ _ h => ExAt.sub hS h)⟩
theorem ExAt.fresh {w : World} {S : Nat → Prop} : ∀ {d : Nat} {cs : List Value} {x : Ex}, ExAt d w S cs x → ExAt d w (ge w.heap.size) cs x
  | 0, _, _, h => h.elim
  | _ + 1, _, _, ⟨v, e, h1, h2, h3⟩ => ⟨v, e, h1, h2, h3.fresh (by decide) (fun _ _ h => ExAt.fresh h)⟩
theorem ExAt.orr {w : World} {S : Nat → Prop} : ∀ {d : Nat} {cs : List Value} {x : Ex}, ExAt d w S cs x → ExAt d w (orr S w.heap.size) cs x
  | 0, _, _, h => h.elim
  | _ + 1, _, _, ⟨v, e, h1, h2, h3⟩ => ⟨v, e, h1, h2, h3.orr (by decide) (fun _ _ h => ExAt.orr h)⟩
theorem ElemsOf.imp {α : Type} {w : World} {S : Nat → Prop} {size : Nat} {R R' : List Value → α → Prop} {v : Value} {l : List α} (h : ElemsOf w S size R v l) (hR : ∀ cs x, R cs x → R' cs x) : ElemsOf w S size R' v l := ElemsOf.sub h (fun _ e => e) hR
theorem ExAt.up {w : World} {S : Nat → Prop} : ∀ {d d' : Nat} {cs : List Value} {x : Ex}, d ≤ d' → ExAt d w S cs x → ExAt d' w S cs x
  | 0, _, _, _, _, h => h.elim
  | _ + 1, 0, _, _, hd, _ => absurd hd (by omega)
  | _ + 1, _ + 1, _, _, hd, ⟨v, e, h1, h2, h3⟩ => ⟨v, e, h1, h2, h3.imp (fun _ _ h => ExAt.up (by omega) h)⟩
def ExsAt (d : Nat) (w : World) (S : Nat → Prop) (v : Value) (l : List Ex) : Prop := ElemsOf w S 8 (ExAt d w S) v l
theorem ExsAt.keep {d : Nat} {w w' : World} {S : Nat → Prop} {v : Value} {l : List Ex} (h : ExsAt d w S v l) (k : Keep S w w') : ExsAt d w' S v l := ElemsOf.keep h k (fun _ e => e) (fun _ _ h => ExAt.keep k h)
theorem ExsAt.fresh {d : Nat} {w : World} {S : Nat → Prop} {v : Value} {l : List Ex} (h : ExsAt d w S v l) : ExsAt d w (ge w.heap.size) v l := ElemsOf.fresh h (by decide) (fun _ _ h => ExAt.fresh h)
theorem ExsAt.sub {d : Nat} {w : World} {S S' : Nat → Prop} {v : Value} {l : List Ex} (h : ExsAt d w S v l) (hS : ∀ b, S' b → S b) : ExsAt d w S' v l := ElemsOf.sub h hS (fun _ _ h => ExAt.sub hS h)

mutual
/-- 25.1: which expressions are valid. -/
def exOk : Ex → Bool
  | .mk op md fr num den pr tx xs => fOk (.mk op md fr num den pr tx xs) xs.length && exsOk xs
def exsOk : List Ex → Bool
  | [] => true
  | x :: r => exOk x && exsOk r
end
theorem exOk_eq (x : Ex) : exOk x = (fOk x x.args.length && exsOk x.args) := by
  cases x
  rw [exOk]
  rfl
theorem exsOk_all : ∀ l : List Ex, exsOk l = l.all exOk
  | [] => rfl
  | x :: r => by rw [exsOk, exsOk_all r]; rfl
theorem exs_snoc {l : List Ex} {k : Nat} (hk : k < l.length) (h : (l.take k).all exOk = true) : (l.take (k + 1)).all exOk = exOk l[k] := by
  rw [List.take_succ_eq_append_getElem hk, List.all_append, h]
  simp
theorem ex_one {d : Nat} {w : World} {S : Nat → Prop} {cs : List Value} {x : Ex} (h : ExAt d w S cs x) : ∀ v ∈ cs, v.oneCell' = true := by
  cases d with
  | zero => exact h.elim
  | succ d =>
    obtain ⟨v, rfl, -, -, A, n, c, rfl, -⟩ := h
    simp [Value.oneCell']

set_option maxRecDepth 100000 in
set_option maxHeartbeats 1000000 in
theorem exOk_any : ∀ (d : Nat) (x : Ex) (cs : Array Value) (S : Nat → Prop) (w : World), ExAt d w S cs.toList x → Calls Tryz.prog 31 #[.agg cs] w fun e w' => e = .returned (.bool (exOk x)) ∧ Keep none_ w w'
  | 0, _, _, _, _, h => h.elim
  | d + 1, x, cs, S, w, h => by
    have IH := Lib.hid (exOk_any d)
    obtain ⟨v, ecs, hm, ht, ha⟩ := h
    obtain ⟨A, na, c, rfl, hc1, hc2, hl, -⟩ := (id ha : ElemsOf w S 8 (ExAt d w S) v x.args)
    unfold maxLen at hc2
    obtain rfl : cs = #[.int .i64 x.op, .string x.media, .int .i64 x.frame, .int .i64 x.num, .int .i64 x.den, .int .i64 x.param, .string x.text, .slice A na c] := Array.toList_inj.1 ecs
    have ANS := Lib.hid (show exOk x = (fOk x na && x.args.all exOk) by rw [exOk_eq, hl, exsOk_all])
    obtain ⟨W0, hW0⟩ : ∃ W0, W0 = w.alloc (.cells #[.int .i64 x.op, .string x.media, .int .i64 x.frame, .int .i64 x.num, .int .i64 x.den, .int .i64 x.param, .string x.text, .slice A na c] 89) := ⟨_, rfl⟩
    have k0 : Keep none_ w W0 := hW0 ▸ (Keep.refl _ _).alloc _
    have b0 : Blk W0 w.heap.size 89 #[.int .i64 x.op, .string x.media, .int .i64 x.frame, .int .i64 x.num, .int .i64 x.den, .int .i64 x.param, .string x.text, .slice A na c] := hW0 ▸ Blk.new _ _ _
    have HA := Lib.hid (ExsAt.keep ha k0.weak)
    have B0 := Lib.hid b0
    have K0 := Lib.hid k0
    have VF := Lib.hid (vfields_any x A na c W0 ht)
    clear ha b0 k0 ecs hm ht
    go_enter Tryz.func31, Tryz.ntmps31
    go_upto_region 1 with (fail)
    rw [← hW0]
    clear hW0
    have t1 : True := trivial
    cases hf : fOk x na with
    | false =>
      rw [hf] at VF
      have Q := Lib.hid (show exOk x = false by rw [ANS.out, hf]; rfl)
      clear hf
      go_wp2_with (first | (have _t := t1; refine wpList_load_part 89 (.tmp 1) rfl rfl w.heap.size 0 rfl #[.int .i64 x.op, .string x.media, .int .i64 x.frame, .int .i64 x.num, .int .i64 x.den, .int .i64 x.param, .string x.text, .slice A na c] _ B0.out.rangeAt Tryz.underlying89 rfl (by kernel_rfl) ?_; go_frame; clear _t t1) | (go_at_call 60; refine VF.out.mono ?_; rintro e w2 ⟨rfl, k2⟩; have K2 := Lib.hid k2; clear k2))
      go_ret
      exact ⟨ret_bool Q.out.symm, K0.out.trans K2.out⟩
    | true =>
      rw [hf] at VF
      have AN2 := Lib.hid (show exOk x = x.args.all exOk by rw [ANS.out, hf]; rfl)
      clear hf
      go_upto_region 3 with (first | (have _t := t1; refine wpList_load_part 89 (.tmp 1) rfl rfl w.heap.size 0 rfl #[.int .i64 x.op, .string x.media, .int .i64 x.frame, .int .i64 x.num, .int .i64 x.den, .int .i64 x.param, .string x.text, .slice A na c] _ B0.out.rangeAt Tryz.underlying89 rfl (by kernel_rfl) ?_; go_frame; clear _t t1) | (go_at_call 60; refine VF.out.mono ?_; rintro e w2 ⟨rfl, k2⟩; have K2 := Lib.hid k2; clear k2))
      have c7 : w2.cell? ⟨w.heap.size, 7, none⟩ = some (.slice A na c) := (B0.out.keep K2.out (fun e => e)).cell 7
      have HA2 := Lib.hid (HA.out.keep K2.out.weak)
      have KK := Lib.hid (K0.out.trans K2.out)
      clear HA K0 K2 B0
      go_wp2_with (fail)
      clear c7
      go_loopw [11] (fun i wr => ∃ k : Nat, k ≤ na ∧ i = .int .i64 k ∧ (x.args.take k).all exOk = true ∧ Keep none_ w2 wr) (fun i _ => na - (intOf i).toNat)
      case atStart => exact ⟨0, Nat.zero_le _, rfl, rfl, Keep.refl _ _⟩
      case round =>
        obtain ⟨k, hk, rfl, hall, hkr⟩ := hrel
        have HK := Lib.hid hkr
        have HAL := Lib.hid hall
        clear hall
        by_cases hlt : k < na
        · have hlt' : (k : Int) < na := by omega
          obtain ⟨b, o, rfl, -, hkl, cs, hcl, hrg, he⟩ := ElemsOf.elem (HA2.out.keep hkr.weak) k hlt
          have SN := Lib.hid (exs_snoc hkl HAL.out)
          generalize x.args[k] = y at he SN
          obtain ⟨ca, rfl⟩ : ∃ ca : Array Value, cs = ca.toList := ⟨cs.toArray, by simp⟩
          have SZ := Lib.hid (show ca.size = 8 by simpa using hcl)
          have ON := Lib.hid (ex_one he)
          have RG := Lib.hid hrg
          have HE := Lib.hid he
          clear hcl hrg he hkr
          have t2 : True := trivial
          have t3 : True := trivial
          go_upto_region 6 with (first | (have _t := t2; refine wpList_load_part 89 (.tmp 13) rfl rfl b (o + k * 8) (by first | rfl | simp) ca _ RG.out Tryz.underlying89 rfl (by rw [SZ.out]; kernel_rfl) ?_; go_frame; clear _t t2) | (have _t := t3; refine wpList_store_blk rfl 89 (.tmp 4) (.tmp 14) rfl wr.heap.size 89 _ ca rfl rfl (Blk.new _ _ _) (by rw [SZ.out]; rfl) (by rw [SZ.out]; kernel_rfl) (by rw [← Array.all_toList]; exact List.all_eq_true.2 ON.out) ?_; intro w3 b3 k3 s3; go_frame; clear _t t3))
          have kr3 : Keep none_ wr w3 := ((Keep.refl none_ wr).alloc _).own k3 (Nat.le_refl _)
          have B3 := Lib.hid b3
          have K3 := Lib.hid (HK.out.trans kr3)
          have CL := Lib.hid (IH.out y ca S w3 (HE.out.keep kr3.weak))
          clear b3 k3 s3 kr3 RG HE
          have t4 : True := trivial
          cases hy : exOk y with
          | false =>
            have Q := Lib.hid (show exOk x = false by rw [AN2.out]; exact all_part exOk _ (k + 1) (by rw [SN.out, hy]))
            rw [hy] at CL
            clear hy
            go_wp2_with (first | (have _t := t4; refine wpList_load_part 89 (.tmp 4) rfl rfl wr.heap.size 0 rfl ca _ B3.out.rangeAt Tryz.underlying89 rfl (by rw [SZ.out]; kernel_rfl) ?_; go_frame; clear _t t4) | (go_at_call 31; refine CL.out.mono ?_; rintro e w4 ⟨rfl, k4⟩; have K4 := Lib.hid (K3.out.trans k4); clear k4))
            go_ret
            exact ⟨ret_bool Q.out.symm, KK.out.trans K4.out⟩
          | true =>
            rw [hy] at CL SN
            clear hy
            go_wp2_with (first | (have _t := t4; refine wpList_load_part 89 (.tmp 4) rfl rfl wr.heap.size 0 rfl ca _ B3.out.rangeAt Tryz.underlying89 rfl (by rw [SZ.out]; kernel_rfl) ?_; go_frame; clear _t t4) | (go_at_call 31; refine CL.out.mono ?_; rintro e w4 ⟨rfl, k4⟩; have K4 := Lib.hid (K3.out.trans k4); clear k4))
            go_roundw
            case rel => exact ⟨k + 1, hlt, by go_num, SN.out, K4.out⟩
            case measure => simp [intOf]; omega
        · obtain rfl : na = k := by omega
          have Q := Lib.hid (show exOk x = true by rw [AN2.out]; have := HAL.out; rwa [List.take_of_length_le (by omega)] at this)
          clear hkr hlt
          go_wp2
          go_ret
          exact ⟨ret_bool Q.out.symm, KK.out.trans HK.out⟩
end Go.Proofs.YtnefbeplgfdkkaaGreatDoor
/-
  The media that expressions name, in ascending order, each once: plain facts.
-/
namespace Go.Proofs.YtnefbeplgfdkkaaGreatDoor
open Go.RowKit

mutual
/-- The media that an expression names, in the order of its text. -/
def exMedia : Ex → List ByteArray
  | .mk op md _ _ _ _ _ xs => (if op = 1 then [md] else []) ++ exsMedia xs
def exsMedia : List Ex → List ByteArray
  | [] => []
  | x :: r => exMedia x ++ exsMedia r
end
theorem exMedia_eq (x : Ex) : exMedia x = (if x.op = 1 then [x.media] else []) ++ exsMedia x.args := by
  cases x
  rw [exMedia]
  rfl
theorem exsMedia_append : ∀ a b : List Ex, exsMedia (a ++ b) = exsMedia a ++ exsMedia b
  | [], b => rfl
  | x :: a, b => by rw [List.cons_append, exsMedia, exsMedia, exsMedia_append a b, List.append_assoc]
theorem exsMedia_snoc {l : List Ex} {k : Nat} (hk : k < l.length) : exsMedia (l.take (k + 1)) = exsMedia (l.take k) ++ exMedia l[k] := by
  rw [List.take_succ_eq_append_getElem hk, exsMedia_append]
  simp [exsMedia]
theorem there_iff {l : List ByteArray} {x : ByteArray} : there l x = true ↔ x ∈ l := by
  unfold there
  rw [List.any_eq_true]
  constructor
  · rintro ⟨y, hy, e⟩
    rw [← strEq_iff.1 e]
    exact hy
  · exact fun h => ⟨x, h, strEq_iff.2 rfl⟩
/-- A name put into an ascending list. -/
def insN (l : List ByteArray) (x : ByteArray) : List ByteArray := if there l x then l else insAt l x
theorem mem_insAt {l : List ByteArray} {x y : ByteArray} : y ∈ insAt l x ↔ y = x ∨ y ∈ l := by
  unfold insAt
  conv => rhs; rw [← List.take_append_drop (place l x) l]
  simp only [List.mem_append, List.mem_cons]
  constructor
  · rintro (h | h | h)
    · exact .inr (.inl h)
    · exact .inl h
    · exact .inr (.inr h)
  · rintro (h | h | h)
    · exact .inr (.inl h)
    · exact .inl h
    · exact .inr (.inr h)
theorem mem_insN {l : List ByteArray} {x y : ByteArray} : y ∈ insN l x ↔ y = x ∨ y ∈ l := by
  unfold insN
  split
  · rename_i h
    constructor
    · exact .inr
    · rintro (rfl | h')
      · exact there_iff.1 h
      · exact h'
  · exact mem_insAt
theorem asc_insN {l : List ByteArray} (h : Asc l) (x : ByteArray) : Asc (insN l x) := by
  unfold insN
  cases ht : there l x with
  | true => exact h
  | false =>
    have h2 := (asc_pw l).1 h
    rw [if_neg (by decide), asc_pw]
    unfold insAt
    rw [List.pairwise_append, List.pairwise_cons]
    refine ⟨h2.sublist (List.take_sublist _ _), ⟨place_after l x h ht, h2.sublist (List.drop_sublist _ _)⟩, fun a ha b hb => ?_⟩
    have hax := place_before l x a ha
    rcases List.mem_cons.1 hb with rfl | hb
    · exact hax
    · exact strLt_trans hax (place_after l x h ht b hb)
theorem insN_len (l : List ByteArray) (x : ByteArray) : (insN l x).length ≤ l.length + 1 := by
  unfold insN
  split
  · omega
  · rw [insAt_len]
    exact Nat.le_refl _
theorem asc_ins_all : ∀ (ms : List ByteArray) {l : List ByteArray}, Asc l → Asc (ms.foldl insN l)
  | [], _, h => h
  | x :: ms, _, h => asc_ins_all ms (asc_insN h x)
theorem ins_all_len : ∀ (ms l : List ByteArray), (ms.foldl insN l).length ≤ l.length + ms.length
  | [], l => Nat.le_refl _
  | x :: ms, l => by
    have h1 := ins_all_len ms (insN l x)
    have h2 := insN_len l x
    simp only [List.foldl_cons, List.length_cons]
    omega
theorem mem_ins_all : ∀ (ms : List ByteArray) {l : List ByteArray} {y : ByteArray}, y ∈ ms.foldl insN l ↔ y ∈ ms ∨ y ∈ l
  | [], l, y => by simp
  | x :: ms, l, y => by
    rw [List.foldl_cons, mem_ins_all ms, mem_insN, List.mem_cons]
    constructor
    · rintro (h | h | h)
      · exact .inl (.inr h)
      · exact .inl (.inl h)
      · exact .inr h
    · rintro ((h | h) | h)
      · exact .inr (.inl h)
      · exact .inl h
      · exact .inr (.inr h)
theorem asc_nil : Asc [] := fun _ _ _ h => absurd h (by simp)
/-- What a job needs. -/
def needsOf (ms : List ByteArray) : List ByteArray := ms.foldl insN []
theorem needsOf_asc (ms : List ByteArray) : Asc (needsOf ms) := asc_ins_all ms asc_nil
/-- A key put into a map. -/
def addK (l : List ByteArray) (x : ByteArray) : List ByteArray := if there l x then l else l ++ [x]
theorem mem_addK {l : List ByteArray} {x y : ByteArray} : y ∈ addK l x ↔ y = x ∨ y ∈ l := by
  unfold addK
  split
  · rename_i h
    constructor
    · exact .inr
    · rintro (rfl | h')
      · exact there_iff.1 h
      · exact h'
  · simp [or_comm]
theorem addK_nodup {l : List ByteArray} (h : l.Nodup) (x : ByteArray) : (addK l x).Nodup := by
  unfold addK
  split
  · exact h
  · rename_i hx
    rw [List.nodup_append]
    refine ⟨h, by simp, fun a ha b hb e => hx ?_⟩
    simp only [List.mem_cons, List.not_mem_nil, or_false] at hb
    rw [there_iff, ← hb, ← e]
    exact ha
theorem addK_len (l : List ByteArray) (x : ByteArray) : (addK l x).length ≤ l.length + 1 := by
  unfold addK
  split <;> simp
theorem mem_add_all : ∀ (ms : List ByteArray) {l : List ByteArray} {y : ByteArray}, y ∈ ms.foldl addK l ↔ y ∈ ms ∨ y ∈ l
  | [], l, y => by simp
  | x :: ms, l, y => by
    rw [List.foldl_cons, mem_add_all ms, mem_addK, List.mem_cons]
    constructor
    · rintro (h | h | h)
      · exact .inl (.inr h)
      · exact .inl (.inl h)
      · exact .inr h
    · rintro ((h | h) | h)
      · exact .inr (.inl h)
      · exact .inl h
      · exact .inr (.inr h)
theorem add_all_nodup : ∀ (ms : List ByteArray) {l : List ByteArray}, l.Nodup → (ms.foldl addK l).Nodup
  | [], _, h => h
  | x :: ms, _, h => add_all_nodup ms (addK_nodup h x)
theorem add_all_len : ∀ (ms l : List ByteArray), (ms.foldl addK l).length ≤ l.length + ms.length
  | [], l => Nat.le_refl _
  | x :: ms, l => by
    have h1 := add_all_len ms (addK l x)
    have h2 := addK_len l x
    simp only [List.foldl_cons, List.length_cons]
    omega
/-- Two ascending lists of the same names are one list. -/
theorem pw_eq : ∀ {a b : List ByteArray}, a.Pairwise (fun x y => strLt x y = true) → b.Pairwise (fun x y => strLt x y = true) → (∀ x, x ∈ a ↔ x ∈ b) → a = b
  | [], [], _, _, _ => rfl
  | [], y :: b, _, _, h => absurd ((h y).2 List.mem_cons_self) (by simp)
  | x :: a, [], _, _, h => absurd ((h x).1 List.mem_cons_self) (by simp)
  | x :: a, y :: b, h1, h2, h => by
    rw [List.pairwise_cons] at h1 h2
    have hxy : x = y := by
      rcases List.mem_cons.1 ((h x).1 List.mem_cons_self) with e | e
      · exact e
      · rcases List.mem_cons.1 ((h y).2 List.mem_cons_self) with e' | e'
        · exact e'.symm
        · have := strLt_trans (h1.1 y e') (h2.1 x e)
          rw [strLt_irrefl] at this
          cases this
    subst hxy
    rw [pw_eq h1.2 h2.2 (fun z => ?_)]
    constructor
    · intro hz
      rcases List.mem_cons.1 ((h z).1 (List.mem_cons_of_mem _ hz)) with rfl | e
      · have := h1.1 z hz
        rw [strLt_irrefl] at this
        cases this
      · exact e
    · intro hz
      rcases List.mem_cons.1 ((h z).2 (List.mem_cons_of_mem _ hz)) with rfl | e
      · have := h2.1 z hz
        rw [strLt_irrefl] at this
        cases this
      · exact e
def ofBytes (l : List UInt8) : ByteArray := ⟨l.toArray⟩
theorem ofBytes_toList (l : List UInt8) : (ofBytes l).toList = l := by rw [ByteArray.toList_eq]; simp [ofBytes]
/-- The keys of the map, sorted, are what the job needs. -/
theorem sorted_needs {ks xs ms : List ByteArray} (hk : ks = ms.foldl addK []) (hp : xs.Perm ks) : ((xs.map (fun x => x.data.toList)).mergeSort fun x y => decide (x ≤ y)).map ofBytes = needsOf ms := by
  have hnd : ks.Nodup := hk ▸ add_all_nodup ms List.nodup_nil
  obtain ⟨ss, hss⟩ : ∃ ss, ss = (xs.map (fun x => x.data.toList)).mergeSort fun x y => decide (x ≤ y) := ⟨_, rfl⟩
  rw [← hss]
  have hperm : ss.Perm (xs.map (fun x => x.data.toList)) := hss ▸ List.mergeSort_perm _ _
  have hback : ∀ x : ByteArray, ofBytes x.data.toList = x := fun x => by cases x; rfl
  have hpm : (ss.map ofBytes).Perm ks := by
    have := hperm.map ofBytes
    rw [List.map_map, show (ofBytes ∘ fun x : ByteArray => x.data.toList) = id from funext hback, List.map_id] at this
    exact this.trans hp
  refine pw_eq ?_ ((asc_pw _).1 (needsOf_asc ms)) (fun x => ?_)
  · have hpw : ss.Pairwise (fun a b => decide (a ≤ b) = true) := by
      rw [hss]
      refine List.pairwise_mergeSort (fun a b c h1 h2 => ?_) (fun a b => ?_) _
      · simp only [decide_eq_true_eq] at *
        exact List.le_trans h1 h2
      · simp only [Bool.or_eq_true, decide_eq_true_eq]
        exact List.le_total a b
    have hnd2 : (ss.map ofBytes).Nodup := hpm.nodup_iff.2 hnd
    rw [List.pairwise_map]
    have hne : ss.Pairwise (fun a b => ofBytes a ≠ ofBytes b) := by
      unfold List.Nodup at hnd2
      rwa [List.pairwise_map] at hnd2
    refine (hpw.and hne).imp (fun {a b} h => ?_)
    obtain ⟨h1, h2⟩ := h
    have h3 : Op.bytesLess b a = false := by
      rw [bytesLess_eq]
      simp only [decide_eq_true_eq] at h1
      exact decide_eq_false (List.not_lt.2 h1)
    unfold strLt
    rw [ofBytes_toList, ofBytes_toList]
    exact bl_total b a h3 (fun e => h2 (by rw [e]))
  · rw [hpm.mem_iff, hk, mem_add_all]
    unfold needsOf
    rw [mem_ins_all]
end Go.Proofs.YtnefbeplgfdkkaaGreatDoor
