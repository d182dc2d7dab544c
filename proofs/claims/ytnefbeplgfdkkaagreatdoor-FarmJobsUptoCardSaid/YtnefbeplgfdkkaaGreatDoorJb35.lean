/-
  A map whose keys are names; farm.collect.
-/
import Derived.Test.YtnefbeplgfdkkaaGreatDoorJb34
namespace Go.Proofs.YtnefbeplgfdkkaaGreatDoor
open Go.RowKit

/-- Block b is a map from the names ks, in the order in which they came, to true. -/
def KMap (w : World) (b : Nat) (ks : List ByteArray) : Prop :=
  ∃ es clock, w.heap[b]? = some (.map es clock) ∧ es.toList.map MapEntry.key = ks.map Value.string ∧ (∀ e ∈ es.toList, e.val = .bool true ∧ e.born < clock) ∧ (es.toList.map MapEntry.born).Nodup
theorem KMap.keep {w w' : World} {S : Nat → Prop} {b : Nat} {ks : List ByteArray} (h : KMap w b ks) (k : Keep S w w') (hS : ¬ S b) : KMap w' b ks := by
  obtain ⟨es, clock, hb, h1⟩ := h
  have hlt : b < w.heap.size := (Array.getElem?_eq_some_iff.1 hb).1
  exact ⟨es, clock, (k.block b hlt hS).trans hb, h1⟩
theorem KMap.lt {w : World} {b : Nat} {ks : List ByteArray} (h : KMap w b ks) : b < w.heap.size := by
  obtain ⟨es, clock, hb, h1⟩ := h
  exact (Array.getElem?_eq_some_iff.1 hb).1
theorem KMap.new (w : World) : KMap (w.alloc (.map #[] 0)) w.heap.size [] :=
  ⟨#[], 0, heap_alloc_new w _, rfl, fun e h => by simp at h, by simp⟩
theorem KMap.no_cells {w : World} {b : Nat} {ks : List ByteArray} {t : TypeId} {cs : Array Value} (h : KMap w b ks) (h' : Blk w b t cs) : False := by
  obtain ⟨es, clock, hb, -⟩ := h
  unfold Blk at h'
  rw [hb] at h'
  cases h'
theorem keys_sb {es : List MapEntry} {ks : List ByteArray} {clock : Nat} (hk : es.map MapEntry.key = ks.map Value.string) (hv : ∀ e ∈ es, e.val = .bool true ∧ e.born < clock) : SB es := fun e he => by
  have : e.key ∈ ks.map Value.string := hk ▸ List.mem_map.2 ⟨e, he, rfl⟩
  obtain ⟨s, -, hs⟩ := List.mem_map.1 this
  exact ⟨s, true, hs.symm, (hv e he).1⟩
theorem spot_none {k : ByteArray} : ∀ {es : List MapEntry} {i : Nat}, SB es → spot es k i = none → ∀ e ∈ es, e.key ≠ .string k
  | [], _, _, _, _, he => by cases he
  | e :: es, i, hs, h, e', he => by
    obtain ⟨s, v, hk, hv⟩ := hs e (List.mem_cons_self ..)
    unfold spot at h
    rw [hk] at h
    simp only at h
    split at h
    · cases h
    · rename_i hn
      rcases List.mem_cons.1 he with rfl | he
      · rw [hk]
        intro e
        injection e with e
        subst e
        rw [strEq_self] at hn
        exact hn rfl
      · exact spot_none (fun e he => hs e (List.mem_cons_of_mem _ he)) h e' he
theorem mem_keys {es : List MapEntry} {ks : List ByteArray} (hk : es.map MapEntry.key = ks.map Value.string) {k : ByteArray} : k ∈ ks ↔ ∃ e ∈ es, e.key = .string k := by
  constructor
  · intro h
    have : Value.string k ∈ es.map MapEntry.key := hk ▸ List.mem_map.2 ⟨k, h, rfl⟩
    obtain ⟨e, he, hek⟩ := List.mem_map.1 this
    exact ⟨e, he, hek⟩
  · rintro ⟨e, he, hek⟩
    have : Value.string k ∈ ks.map Value.string := hk ▸ List.mem_map.2 ⟨e, he, hek⟩
    obtain ⟨s, hs, e1⟩ := List.mem_map.1 this
    injection e1 with e1
    exact e1 ▸ hs
section
variable {P : Program} {w : World} {b : Nat} {ks : List ByteArray}
theorem KMap.update (h : KMap w b ks) {t K E : TypeId} (ht : P.underlying t = some (.map K E)) (hK : P.underlying K = some .string) (k : ByteArray) :
    ∃ w', (Instr.mapUpdate t (.map (some b)) (.string k) (.bool true)).run P w = .ok () w' ∧ KMap w' b (addK ks k) ∧ Keep (one b) w w' := by
  have hlt := h.lt
  obtain ⟨es, clock, hb, hkk, hv, hnd⟩ := h
  have hs := keys_sb hkk hv
  have hg : (getObj b).run P w = .ok (.map es clock) w := by simp [getObj, Sem.run, hb]
  have hset : ∀ o, (setObj b o).run P w = .ok () { w with heap := w.heap.setIfInBounds b o } := fun o => by simp [setObj, Sem.run, hb]
  have hc := run_checkKey (w := w) hK k false 9999
  unfold Instr.mapUpdate
  simp only [Sem.run_bind, run_underlying ht, Result.andThen_ok, hg, hc, run_findKey hK k es.toList hs]
  cases hsp : spot es.toList k 0 with
  | none =>
    have hno : there ks k = false := by
      rw [Bool.eq_false_iff]
      intro hth
      obtain ⟨e, he, hek⟩ := (mem_keys hkk).1 (there_iff.1 hth)
      exact spot_none hs hsp e he hek
    simp only [hset]
    refine ⟨_, rfl, ⟨es.push { key := .string k, val := .bool true, born := clock }, clock + 1, by simp [hlt], ?_, fun e he => ?_, ?_⟩, keep_setObj _ _ _⟩
    · unfold addK
      rw [hno, if_neg (by decide), Array.toList_push, List.map_append, List.map_append, hkk]
      rfl
    · rw [Array.toList_push, List.mem_append] at he
      rcases he with he | he
      · exact ⟨(hv e he).1, by have := (hv e he).2; omega⟩
      · simp at he
        rw [he]
        exact ⟨rfl, Nat.lt_succ_self _⟩
    · rw [Array.toList_push, List.map_append, List.nodup_append]
      refine ⟨hnd, by simp, fun a ha c hc' e => ?_⟩
      obtain ⟨e1, he1, rfl⟩ := List.mem_map.1 ha
      simp at hc'
      have := (hv e1 he1).2
      omega
  | some y =>
    obtain ⟨j, u⟩ := y
    obtain ⟨-, h2, e, s, h3, h4, h5⟩ := spot_lt k es.toList 0 j u hsp
    rw [Nat.sub_zero] at h2 h3
    have he : es[j]? = some e := by simpa using h3
    have hks : k = s := strEq_iff.1 h5
    subst hks
    have hyes : there ks k = true := there_iff.2 ((mem_keys hkk).2 ⟨e, List.mem_of_getElem? h3, h4⟩)
    have hkt : (Instr.keyThatStays (((es[j]?).map (·.key)).getD (.string k)) (.string k)).run P w = .ok (.string k) w := by
      rw [he]
      simp only [Option.map_some, Option.getD_some, h4]
      unfold Instr.keyThatStays
      rw [if_pos (by simp only [Instr.sameBits, beq_bytes]; exact strEq_self k)]
      rfl
    have hsame : (es.modify j fun e => { e with key := .string k, val := .bool true }) = es := by
      apply Array.ext_getElem?
      intro i
      rw [Array.getElem?_modify]
      by_cases hij : j = i
      · subst hij
        rw [if_pos rfl, he]
        have h6 := (hv e (List.mem_of_getElem? h3)).1
        obtain ⟨ek, ev, eb⟩ := e
        simp only at h4 h6
        subst h4 h6
        rfl
      · rw [if_neg hij]
    simp only [Sem.run_bind, hkt, Result.andThen_ok, hset]
    refine ⟨_, rfl, ⟨es, clock, by rw [hsame]; simp [hlt], ?_, hv, hnd⟩, keep_setObj _ _ _⟩
    unfold addK
    rw [hyes]
    exact hkk
end
section
variable {P : Program} {ops : Array Oper} {rest : List Oper} {op : Oper} {a : Act} {w : World} {Q : Exit → Act → World → Prop} {b : Nat} {ks : List ByteArray}
/-- 'm[k] = true'. -/
theorem wpList_kmap_update (t : TypeId) (m x y : Operand) (ho : op.op = .mapUpdate t m x y) (hgd : op.guard = none) (K E : TypeId) (ht : P.underlying t = some (.map K E)) (hK : P.underlying K = some .string)
    (hm : a.eval m = .map (some b)) (h : KMap w b ks) (k : ByteArray) (hx : a.eval x = .string k) (hy : a.eval y = .bool true)
    (hn : ∀ w', KMap w' b (addK ks k) → Keep (one b) w w' → wpList P ops Q rest (a.put op.dst undef) w') : wpList P ops Q (op :: rest) a w :=
  wpList_plain hgd fun K' hK' => by
    obtain ⟨w', hrun, h1, h2⟩ := h.update ht hK k
    unfold Oper.wp execOp
    simp only [ho, hm, hx, hy, Sem.run_bind, hrun, Result.andThen_ok, Sem.run_pure]
    exact hK' _ _ (hn w' h1 h2)
end

set_option maxRecDepth 100000 in
set_option maxHeartbeats 1000000 in
theorem collect_any : ∀ (d : Nat) (x : Ex) (cs : Array Value) (ks : List ByteArray) (bm : Nat) (S : Nat → Prop) (w : World), ExAt d w S cs.toList x → S bm → KMap w bm ks →
    Calls Tryz.prog 32 #[.agg cs, .map (some bm)] w fun e w' => e = .returned (.tuple #[]) ∧ KMap w' bm ((exMedia x).foldl addK ks) ∧ Keep (one bm) w w'
  | 0, _, _, _, _, _, _, h, _, _ => h.elim
  | d + 1, x, cs, ks, bm, S, w, h, hSb, hkm => by
    have IH := Lib.hid (collect_any d)
    obtain ⟨vl, ecs, hm, ht, ha⟩ := h
    obtain ⟨A, na, c, rfl, hc1, hc2, hl, -⟩ := (id ha : ElemsOf w S 8 (ExAt d w S) vl x.args)
    unfold maxLen at hc2
    obtain rfl : cs = #[.int .i64 x.op, .string x.media, .int .i64 x.frame, .int .i64 x.num, .int .i64 x.den, .int .i64 x.param, .string x.text, .slice A na c] := Array.toList_inj.1 ecs
    obtain ⟨W0, hW0⟩ : ∃ W0, W0 = w.alloc (.cells #[.int .i64 x.op, .string x.media, .int .i64 x.frame, .int .i64 x.num, .int .i64 x.den, .int .i64 x.param, .string x.text, .slice A na c] 89) := ⟨_, rfl⟩
    have k0 : Keep none_ w W0 := hW0 ▸ (Keep.refl _ _).alloc _
    have b0 : Blk W0 w.heap.size 89 #[.int .i64 x.op, .string x.media, .int .i64 x.frame, .int .i64 x.num, .int .i64 x.den, .int .i64 x.param, .string x.text, .slice A na c] := hW0 ▸ Blk.new _ _ _
    have c0 : W0.cell? ⟨w.heap.size, 0, none⟩ = some (.int .i64 x.op) := b0.cell 0
    have c1 : W0.cell? ⟨w.heap.size, 1, none⟩ = some (.string x.media) := b0.cell 1
    have lb := hkm.lt
    have HS1 := Lib.hid (show ∀ r, one bm r → S r from fun r e => by cases e; exact hSb)
    have HA := Lib.hid (ExsAt.keep ha k0.weak)
    have HM := Lib.hid (hkm.keep k0 (fun e => e))
    have B0 := Lib.hid b0
    have K0 := Lib.hid k0
    obtain ⟨l0, hl0⟩ : ∃ l0, l0 = (if x.op = 1 then [x.media] else []).foldl addK ks := ⟨_, rfl⟩
    have ANS := Lib.hid (show (exMedia x).foldl addK ks = (exsMedia x.args).foldl addK l0 by rw [exMedia_eq, List.foldl_append, hl0])
    have HL0 := Lib.hid hl0
    clear ha b0 k0 ecs hm ht hl0 hkm hSb
    go_enter Tryz.func32, Tryz.ntmps32
    go_upto_region 1 with (fail)
    rw [← hW0]
    clear hW0
    go_upto_if 8 with (fail)
    go_cut [] (fun wx => KMap wx bm l0 ∧ Keep (one bm) W0 wx)
    case first =>
      by_cases h1 : x.op = 1
      · have E0 := Lib.hid (show l0 = addK ks x.media by rw [HL0.out, if_pos h1]; rfl)
        have h1' : (x.op == 1) = true := beq_iff_eq.2 h1
        clear h1
        have t1 : True := trivial
        go_wp2_with (have _t := t1; refine wpList_kmap_update 93 (.tmp 9) (.tmp 11) _ rfl rfl 9 4 Tryz.underlying93 Tryz.underlying9 rfl HM.out x.media rfl rfl ?_; intro w2 h2 k2; have H2 := Lib.hid h2; have K2 := Lib.hid k2; clear h2 k2; go_frame; clear _t t1)
        go_meet
        exact ⟨by rw [E0.out]; exact H2.out, K2.out⟩
      · have E0 := Lib.hid (show l0 = ks by rw [HL0.out, if_neg h1]; rfl)
        have h1' : (x.op == 1) = false := beq_eq_false_iff_ne.2 h1
        clear h1
        go_wp2
        go_meet
        exact ⟨by rw [E0.out]; exact HM.out, Keep.refl _ _⟩
    case rest =>
      obtain ⟨hy, hk⟩ := hcut
      have HY := Lib.hid hy
      have HA2 := Lib.hid (HA.out.keep (hk.mono HS1.out))
      have B2 := Lib.hid (B0.out.keep hk (fun e => by unfold one at e; omega))
      have KK := Lib.hid (K0.out.weak.trans hk)
      have c7 : wc.cell? ⟨w.heap.size, 7, none⟩ = some (.slice A na c) := B2.out.cell 7
      have lw := hk.size
      clear hy hk c0 c1 HM HA B0 K0 HL0
      go_wp2_with (fail)
      clear c7
      go_loopw [15] (fun i wr => ∃ k : Nat, k ≤ na ∧ i = .int .i64 k ∧ KMap wr bm ((exsMedia (x.args.take k)).foldl addK l0) ∧ Keep (one bm) wc wr) (fun i _ => na - (intOf i).toNat)
      case atStart => exact ⟨0, Nat.zero_le _, rfl, HY.out, Keep.refl _ _⟩
      case round =>
        obtain ⟨k, hk, rfl, hu, hkr⟩ := hrel
        have HK := Lib.hid hkr
        have HU := Lib.hid hu
        have lwr := hkr.size
        have lbm := hu.lt
        clear hu
        by_cases hlt : k < na
        · have hlt' : (k : Int) < na := by omega
          obtain ⟨b, o, rfl, hbS, hkl, cs, hcl, hrg, he⟩ := ElemsOf.elem (HA2.out.keep (hkr.mono HS1.out)) k hlt
          have SN := Lib.hid (exsMedia_snoc hkl)
          generalize x.args[k] = y at he SN
          obtain ⟨ca, rfl⟩ : ∃ ca : Array Value, cs = ca.toList := ⟨cs.toArray, by simp⟩
          have SZ := Lib.hid (show ca.size = 8 by simpa using hcl)
          have ON := Lib.hid (ex_one he)
          have RG := Lib.hid hrg
          have HE := Lib.hid he
          clear hcl hrg he hkr
          have t2 : True := trivial
          have t3 : True := trivial
          go_upto_region 6 with (first | (have _t := t2; refine wpList_load_part 89 (.tmp 17) rfl rfl b (o + k * 8) (by first | rfl | simp) ca _ RG.out Tryz.underlying89 rfl (by rw [SZ.out]; kernel_rfl) ?_; go_frame; clear _t t2) | (have _t := t3; refine wpList_store_blk rfl 89 (.tmp 5) (.tmp 18) rfl wr.heap.size 89 _ ca rfl rfl (Blk.new _ _ _) (by rw [SZ.out]; rfl) (by rw [SZ.out]; kernel_rfl) (by rw [← Array.all_toList]; exact List.all_eq_true.2 ON.out) ?_; intro w3 b3 k3 s3; go_frame; clear _t t3))
          have kr3 : Keep none_ wr w3 := ((Keep.refl none_ wr).alloc _).own k3 (Nat.le_refl _)
          have B3 := Lib.hid b3
          have K3 := Lib.hid (HK.out.trans kr3.weak)
          have CL := Lib.hid (collect_any d y ca _ bm S w3 (HE.out.keep kr3.weak) (HS1.out bm rfl) (HU.out.keep kr3 (fun e => e)))
          clear b3 k3 s3 kr3 RG HE
          have t4 : True := trivial
          go_wp2_with (first | (have _t := t4; refine wpList_load_part 89 (.tmp 5) rfl rfl wr.heap.size 0 rfl ca _ B3.out.rangeAt Tryz.underlying89 rfl (by rw [SZ.out]; kernel_rfl) ?_; go_frame; clear _t t4) | (go_at_call 32; refine CL.out.mono ?_; rintro e w4 ⟨rfl, h4, k4⟩; have H4 := Lib.hid h4; have K4 := Lib.hid (K3.out.trans k4); clear k4 h4))
          go_roundw
          case rel => exact ⟨k + 1, hlt, by go_num, by rw [SN.out, List.foldl_append]; exact H4.out, K4.out⟩
          case measure => simp [intOf]; omega
        · obtain rfl : na = k := by omega
          have Q := Lib.hid (show (exMedia x).foldl addK ks = (exsMedia (x.args.take na)).foldl addK l0 by rw [ANS.out, List.take_of_length_le (by omega)])
          clear hkr hlt
          go_wp2
          go_end0
          exact ⟨rfl, by rw [Q.out]; exact HU.out, KK.out.trans HK.out⟩
end Go.Proofs.YtnefbeplgfdkkaaGreatDoor
