/-
  farm.Valid.
-/
import Derived.Test.YtnefbeplgfdkkaaGreatDoorJb05
namespace Go.Proofs.YtnefbeplgfdkkaaGreatDoor
open Go.RowKit

/-- What the map of workers says behind k workers. -/
def wkMap (ws : List Wk) (k : Nat) : ByteArray → Option Bool := fun x => if (ws.take k).any (fun y => strEq x y.name) then some true else none
/-- .. and behind k jobs. -/
def jobMap (s : St) (k : Nat) : ByteArray → Option Bool := fun x => if s.workers.any (fun y => strEq x y.name) then some (!(s.jobs.take k).any (fun j => strEq x j.worker)) else none
def nmMap (s : St) (k : Nat) : ByteArray → Option Bool := fun x => if (s.jobs.take k).any (fun j => strEq x j.name) then some true else none
theorem take_any_succ {α : Type} (p : α → Bool) (l : List α) (k : Nat) (h : k < l.length) : (l.take (k + 1)).any p = ((l.take k).any p || p l[k]) := by
  rw [List.take_succ_eq_append_getElem h, List.any_append]
  simp
theorem wkMap_succ (ws : List Wk) (k : Nat) (h : k < ws.length) : (fun x => if strEq x ws[k].name then some true else wkMap ws k x) = wkMap ws (k + 1) := by
  funext x
  unfold wkMap
  rw [take_any_succ _ ws k h]
  cases strEq x ws[k].name <;> simp
theorem nmMap_succ (s : St) (k : Nat) (h : k < s.jobs.length) : (fun x => if strEq x s.jobs[k].name then some true else nmMap s k x) = nmMap s (k + 1) := by
  funext x
  unfold nmMap
  rw [take_any_succ _ s.jobs k h]
  cases strEq x s.jobs[k].name <;> simp
theorem wkMap_all (s : St) : wkMap s.workers s.workers.length = jobMap s 0 := by
  funext x
  unfold wkMap jobMap
  rw [List.take_of_length_le (Nat.le_refl _)]
  simp
theorem nameOk_ne {x : ByteArray} (h : nameOk x = true) : strEq x ⟨#[]⟩ = false := by
  cases he : strEq x ⟨#[]⟩ with
  | false => rfl
  | true => rw [strEq_iff.1 he] at h; exact absurd h (by decide)
theorem jobMap_none (s : St) (k : Nat) (h : k < s.jobs.length) (hw : ∀ y ∈ s.workers, nameOk y.name = true) (he : strEq s.jobs[k].worker ⟨#[]⟩ = true) : jobMap s (k + 1) = jobMap s k := by
  funext x
  unfold jobMap
  rw [take_any_succ _ s.jobs k h]
  cases ha : s.workers.any (fun y => strEq x y.name) with
  | false => rfl
  | true =>
    obtain ⟨y, hy, hxy⟩ := List.any_eq_true.1 ha
    have := nameOk_ne (hw y hy)
    rw [← strEq_iff.1 hxy] at this
    rw [strEq_iff.1 he, this]
    simp
theorem jobMap_some (s : St) (k : Nat) (h : k < s.jobs.length) (hf : s.workers.any (fun y => strEq s.jobs[k].worker y.name) = true) : (fun x => if strEq x s.jobs[k].worker then some false else jobMap s k x) = jobMap s (k + 1) := by
  funext x
  unfold jobMap
  rw [take_any_succ _ s.jobs k h]
  cases hx : strEq x s.jobs[k].worker with
  | false => simp
  | true => rw [strEq_iff.1 hx, hf]; simp
theorem wkGood_at (ws : List Wk) (k : Nat) (h : k < ws.length) : wkGood ws k = (!(ws.take k).any (fun y => strEq ws[k].name y.name) && nameOk ws[k].name) := by
  unfold wkGood
  rw [List.getElem?_eq_getElem h]
theorem jobGood_at (s : St) (k : Nat) (h : k < s.jobs.length) : jobGood s k = (jobBase s k s.jobs[k] && (if strEq s.jobs[k].worker ⟨#[]⟩ then decide (s.jobs[k].until_ = 0) else wkFree s k s.jobs[k].worker && giftOk s.jobs[k] s.now)) := by
  unfold jobGood
  rw [List.getElem?_eq_getElem h]
theorem names_of_good {ws : List Wk} (h : (List.range ws.length).all (wkGood ws) = true) : ∀ y ∈ ws, nameOk y.name = true := by
  intro y hy
  obtain ⟨k, hk, rfl⟩ := List.getElem_of_mem hy
  have := List.all_eq_true.1 h k (by simpa using hk)
  rw [wkGood_at _ _ hk] at this
  simp only [Bool.and_eq_true] at this
  exact this.2
theorem wkFree_look (s : St) (k : Nat) (x : ByteArray) : (jobMap s k x).getD false = wkFree s k x := by
  unfold jobMap wkFree
  cases s.workers.any (fun y => strEq x y.name) <;> rfl
theorem zero_bool (w : World) : (zeroValue 4).run Tryz.prog w = .ok (.bool false) w := by kernel_rfl

set_option maxRecDepth 100000 in
set_option maxHeartbeats 4000000 in
theorem valid_any (s : St) (v : Value) (S : Nat → Prop) (w : World) (h : StateOf w S v s) : Calls Tryz.prog 17 #[v] w fun e w' => e = .returned (.bool (validF s)) ∧ Keep none_ w w' := by
  obtain ⟨vp, vj, vw, rfl, hp, hj, hw⟩ := h.fresh
  have HP := Lib.hid hp
  obtain ⟨Ap, np, cp, rfl, rp⟩ := hp
  obtain ⟨Aj, nj, cj, rfl, jc1, jc2, jl, hjj⟩ := hj
  obtain ⟨Aw, nw, cw, rfl, wc1, wc2, wl, hww⟩ := hw
  unfold maxLen at jc2 wc2
  have JL := Lib.hid jl
  have WL := Lib.hid wl
  have JJ := Lib.hid hjj
  have WW := Lib.hid hww
  clear jl wl hjj hww rp h
  have hmm := @run_makeMap Tryz.prog
  obtain ⟨W0, hW0⟩ : ∃ W0, W0 = w.alloc (.cells #[.int .i64 s.now, .slice Ap np cp, .slice Aj nj cj, .slice Aw nw cw] 48) := ⟨_, rfl⟩
  have k0 : Keep none_ w W0 := hW0 ▸ (Keep.refl _ _).alloc _
  have b0 : Blk W0 w.heap.size 48 #[.int .i64 s.now, .slice Ap np cp, .slice Aj nj cj, .slice Aw nw cw] := hW0 ▸ Blk.new _ _ _
  have c0 := b0.cell 0
  have c1 := b0.cell 1
  have c2 := b0.cell 2
  have c3 := b0.cell 3
  simp only [List.getElem?_toArray, List.getElem?_cons_zero, List.getElem?_cons_succ] at c0 c1 c2 c3
  go_enter Tryz.func17, Tryz.ntmps17
  go_upto_region 1 with (fail)
  rw [← hW0]
  clear hW0
  have ans : headOk s = (decide (0 ≤ s.now) && decide (s.now ≤ 1099511627776) && namesOk s.present && decide (nj ≤ 64) && decide (nw ≤ 32)) := by unfold headOk; rw [JL.out, WL.out]
  have ANS := Lib.hid ans
  clear ans
  have HN := Lib.hid (validNames_any s.present (.slice Ap np cp) (ge w.heap.size) W0 (HP.out.keep k0.weak))
  go_cut [36] (fun x wx => x = .bool (!headOk s) ∧ W0 = wx)
  case first =>
    by_cases h1 : 0 ≤ s.now
    · have h1' : decide (s.now < 0) = false := decide_eq_false (by omega)
      by_cases h2 : s.now ≤ 1099511627776
      · have h2' : decide (1099511627776 < s.now) = false := decide_eq_false (by omega)
        cases h3 : namesOk s.present with
        | false =>
          rw [h3] at HN ANS
          clear h3
          go_wp2_with (go_at_call 41; refine HN.out.mono ?_; rintro e w' ⟨rfl, rfl⟩)
          go_meet
          exact ⟨by rw [ANS.out]; simp, rfl⟩
        | true =>
          rw [h3] at HN ANS
          clear h3
          by_cases h4 : nj ≤ 64
          · have h4' : decide ((64 : Int) < nj) = false := decide_eq_false (by omega)
            by_cases h5 : nw ≤ 32
            · have h5' : decide ((32 : Int) < nw) = false := decide_eq_false (by omega)
              go_wp2_with (go_at_call 41; refine HN.out.mono ?_; rintro e w' ⟨rfl, rfl⟩)
              go_meet
              exact ⟨by rw [ANS.out]; simp [h1, h2, h4, h5], rfl⟩
            · have h5' : decide ((32 : Int) < nw) = true := decide_eq_true (by omega)
              go_wp2_with (go_at_call 41; refine HN.out.mono ?_; rintro e w' ⟨rfl, rfl⟩)
              go_meet
              exact ⟨by rw [ANS.out]; simp [h5], rfl⟩
          · have h4' : decide ((64 : Int) < nj) = true := decide_eq_true (by omega)
            go_wp2_with (go_at_call 41; refine HN.out.mono ?_; rintro e w' ⟨rfl, rfl⟩)
            go_meet
            exact ⟨by rw [ANS.out]; simp [h4], rfl⟩
      · have h2' : decide (1099511627776 < s.now) = true := decide_eq_true (by omega)
        go_wp2
        go_meet
        exact ⟨by rw [ANS.out]; simp [h2], rfl⟩
    · have h1' : decide (s.now < 0) = true := decide_eq_true (by omega)
      go_wp2
      go_meet
      exact ⟨by rw [ANS.out]; simp [h1], rfl⟩
  case rest =>
    obtain ⟨rfl, rfl⟩ := hcut
    clear HN
    cases hh : headOk s with
    | false =>
      have vf : validF s = false := by unfold validF; rw [hh]; rfl
      have VF := Lib.hid vf
      clear vf hh ANS
      go_wp2
      go_ret
      exact ⟨ret_bool VF.out.symm, k0⟩
    | true =>
      have ans := ANS.out
      rw [hh] at ans
      have h5 : (0 ≤ s.now ∧ s.now ≤ 1099511627776) ∧ nj ≤ 64 ∧ nw ≤ 32 := by
        have := ans.symm
        simp only [Bool.and_eq_true, decide_eq_true_eq] at this
        omega
      obtain ⟨⟨h1, h2⟩, h4, h5⟩ := h5
      have vf : validF s = ((List.range nw).all (wkGood s.workers) && (List.range nj).all (jobGood s)) := by unfold validF; rw [hh, WL.out, JL.out]; rfl
      have VF := Lib.hid vf
      clear vf ans ANS hh
      go_upto_region 4 with (fail)
      obtain ⟨W1, hW1⟩ : ∃ W1, W1 = W0.alloc (.map #[] 0) := ⟨_, rfl⟩
      have k01 : Keep none_ W0 W1 := hW1 ▸ (Keep.refl _ _).alloc _
      have m1 : SMap W1 W0.heap.size (wkMap s.workers 0) := hW1 ▸ SMap.new W0
      have l0 : w.heap.size < W0.heap.size := b0.lt
      have sz1 : W1.heap.size = W0.heap.size + 1 := by rw [hW1]; simp
      rw [← hW1]
      clear hW1
      obtain ⟨bm, hbm⟩ : ∃ bm, bm = W0.heap.size := ⟨_, rfl⟩
      rw [← hbm] at m1 l0 sz1
      rw [← hbm]
      clear hbm
      replace c0 := k01.cell c0 (fun e => e)
      replace c1 := k01.cell c1 (fun e => e)
      replace c2 := k01.cell c2 (fun e => e)
      replace c3 := k01.cell c3 (fun e => e)
      replace k0 := k0.trans k01
      clear b0 k01
      have HJ := Lib.hid (show JobsOf W1 (ge w.heap.size) (.slice Aj nj cj) s.jobs from JobsOf.keep ⟨Aj, nj, cj, rfl, jc1, by unfold maxLen; omega, JL.out, JJ.out⟩ k0.weak)
      have HW := Lib.hid (show WorkersOf W1 (ge w.heap.size) (.slice Aw nw cw) s.workers from WorkersOf.keep ⟨Aw, nw, cw, rfl, wc1, by unfold maxLen; omega, WL.out, WW.out⟩ k0.weak)
      clear JJ WW HP hmm
      have hmm := @run_makeMap Tryz.prog
      go_upto_region 5 with (fail)
      go_loopw [41] (fun i wr => ∃ k : Nat, k ≤ nw ∧ i = .int .i64 k ∧ (List.range k).all (wkGood s.workers) = true ∧ SMap wr bm (wkMap s.workers k) ∧ Keep (one bm) W1 wr) (fun i _ => nw - (intOf i).toNat)
      case atStart => exact ⟨0, by omega, rfl, rfl, m1, Keep.refl _ _⟩
      case round =>
        clear m1
        obtain ⟨k, hk, rfl, hall, hM, hkr⟩ := hrel
        have ALL := Lib.hid hall
        clear hall
        by_cases hlt : k < nw
        · have hlt' : (k : Int) < nw := by omega
          obtain ⟨A', n', c', e', -, -, hl', hat⟩ := HW.out
          simp only [Value.slice.injEq] at e'
          obtain ⟨rfl, rfl, rfl⟩ := e'
          obtain ⟨bw, ow, rfl, hbw, hc⟩ := hat (by omega)
          obtain ⟨cs, hcl, hrg, hcs⟩ := hc k (by omega)
          have good := wkGood_at s.workers k (by omega)
          have mnext := wkMap_succ s.workers k (by omega)
          generalize s.workers[k] = x at hcs good mnext
          subst hcs
          have ng : ¬ one bm bw := fun e => hbw (by unfold one at e; unfold ge; omega)
          have HRG := Lib.hid (rangeAt_keep hrg hkr ng)
          have GOOD := Lib.hid good
          have MN := Lib.hid mnext
          have MM := Lib.hid hM
          clear hat hc hcl hrg good mnext hM hl'
          have t1 : True := trivial
          have t2 : True := trivial
          go_upto_region 7 with (first | (have _t := t1; refine wpList_load_part 107 (.tmp 43) rfl rfl bw (ow + k * 2) (by first | rfl | simp) #[.string x.name, .bool x.dead] _ HRG.out Tryz.underlying107 rfl (by kernel_rfl) ?_; go_frame; clear _t t1) | (have _t := t2; refine wpList_store_blk rfl 107 (.tmp 5) (.tmp 44) rfl wr.heap.size 107 _ _ rfl rfl (Blk.new _ _ _) rfl (by kernel_rfl) (by simp [Value.oneCell']) ?_; intro w5 b5 k5 s5; go_frame; clear _t t2))
          have kr5 : Keep none_ wr w5 := ((Keep.refl none_ wr).alloc _).own k5 (Nat.le_refl _)
          have M5 := Lib.hid (MM.out.keep kr5 (fun e => e))
          have y0 := b5.cell 0
          simp only [List.getElem?_toArray, List.getElem?_cons_zero] at y0
          have l5 := MM.out.lt
          clear k5 s5 MM
          have NM := Lib.hid (validName_any x.name w5)
          have t1 : True := trivial
          cases hs : (s.workers.take k).any (fun y => strEq x.name y.name) with
          | true =>
            have lk := Lib.hid (show (.tuple #[.bool true, .bool true] : Value) = if true = true then .tuple #[.bool ((wkMap s.workers k x.name).getD false), .bool (wkMap s.workers k x.name).isSome] else .bool ((wkMap s.workers k x.name).getD false) by simp [wkMap, hs])
            have BAD := Lib.hid (show wkGood s.workers k = false by rw [GOOD.out, hs]; rfl)
            clear hs
            go_wp2_with (have _t := t1; refine wpList_smap_lookup 93 (.tmp 46) (.tmp 48) true rfl rfl 9 4 Tryz.underlying93 Tryz.underlying9 zero_bool rfl M5.out x.name rfl _ lk.out ?_; go_frame; clear _t t1)
            go_ret
            exact ⟨ret_bool (by rw [VF.out, range_all_part _ k nw hlt BAD.out]; rfl), (k0.own hkr (Nat.le_of_lt l0)).trans kr5⟩
          | false =>
            have lk := Lib.hid (show (.tuple #[.bool false, .bool false] : Value) = if true = true then .tuple #[.bool ((wkMap s.workers k x.name).getD false), .bool (wkMap s.workers k x.name).isSome] else .bool ((wkMap s.workers k x.name).getD false) by simp [wkMap, hs])
            have good2 : wkGood s.workers k = nameOk x.name := by rw [GOOD.out, hs]; rfl
            have G2 := Lib.hid good2
            clear hs good2
            cases hn : nameOk x.name with
            | false =>
              rw [hn] at NM G2
              clear hn
              go_wp2_with (first | (have _t := t1; refine wpList_smap_lookup 93 (.tmp 46) (.tmp 48) true rfl rfl 9 4 Tryz.underlying93 Tryz.underlying9 zero_bool rfl M5.out x.name rfl _ lk.out ?_; go_frame; clear _t t1) | (go_at_call 42; refine NM.out.mono ?_; rintro e w' ⟨rfl, rfl⟩))
              go_ret
              exact ⟨ret_bool (by rw [VF.out, range_all_part _ k nw hlt G2.out]; rfl), (k0.own hkr (Nat.le_of_lt l0)).trans kr5⟩
            | true =>
              rw [hn] at NM G2
              clear hn
              have t2 : True := trivial
              go_wp2_with (first | (have _t := t1; refine wpList_smap_lookup 93 (.tmp 46) (.tmp 48) true rfl rfl 9 4 Tryz.underlying93 Tryz.underlying9 zero_bool rfl M5.out x.name rfl _ lk.out ?_; go_frame; clear _t t1) | (go_at_call 42; refine NM.out.mono ?_; rintro e w' ⟨rfl, rfl⟩) | (have _t := t2; refine wpList_smap_update 93 (.tmp 59) (.tmp 61) (.const (.bool true)) rfl rfl 9 4 Tryz.underlying93 Tryz.underlying9 rfl M5.out x.name rfl true rfl ?_; intro w6 m6 k6; go_frame; clear _t t2))
              rw [MN.out] at m6
              go_roundw
              case rel =>
                (repeat apply Exists.intro)
                exact ⟨⟨k + 1, by omega, by go_num, by rw [range_all_succ, ALL.out, G2.out]; rfl, m6, (hkr.trans kr5.weak).trans k6⟩, rfl⟩
              case measure => simp [intOf]; omega
        · obtain rfl : k = nw := by omega
          have kw2 : Keep none_ w wr := k0.own hkr (Nat.le_of_lt l0)
          have HJ2 := Lib.hid (HJ.out.keep (hkr.mono (fun x e => by cases e; exact Nat.le_of_lt l0)))
          have nb : ¬ one bm w.heap.size := fun e => by unfold one at e; omega
          replace c0 := hkr.cell c0 nb
          replace c1 := hkr.cell c1 nb
          replace c2 := hkr.cell c2 nb
          replace c3 := hkr.cell c3 nb
          have NW := Lib.hid (names_of_good (ws := s.workers) (by rw [WL.out]; exact ALL.out))
          have hM2 : SMap wr bm (jobMap s 0) := by
            have := hM
            rw [← WL.out, wkMap_all] at this
            exact this
          have vf2 : validF s = (List.range nj).all (jobGood s) := by rw [VF.out, ALL.out]; rfl
          have VF2 := Lib.hid vf2
          have l1 := hkr.size
          have hbw := hM.lt
          clear vf2 VF ALL hM hkr k0 HW HJ WL
          obtain ⟨w2, hw2⟩ : ∃ w2, w2 = wr := ⟨_, rfl⟩
          rw [← hw2] at kw2 HJ2 c0 c1 c2 c3 hM2 hbw
          go_upto_region 13 with (fail)
          rw [← hw2]
          clear hw2 l1
          obtain ⟨W3, hW3⟩ : ∃ W3, W3 = w2.alloc (.map #[] 0) := ⟨_, rfl⟩
          have k23 : Keep none_ w2 W3 := hW3 ▸ (Keep.refl _ _).alloc _
          have m3 : SMap W3 w2.heap.size (nmMap s 0) := hW3 ▸ SMap.new w2
          rw [← hW3]
          clear hW3
          obtain ⟨bn, hbn⟩ : ∃ bn, bn = w2.heap.size := ⟨_, rfl⟩
          rw [← hbn] at m3 hbw
          rw [← hbn]
          have hM3 := hM2.keep k23 (fun e => e)
          replace c0 := k23.cell c0 (fun e => e)
          replace c2 := k23.cell c2 (fun e => e)
          have HJ3 := Lib.hid (HJ2.out.keep k23.weak)
          have kw3 : Keep none_ w W3 := kw2.trans k23
          have lnn : w.heap.size ≤ bn := by have := kw2.size; omega
          clear hM2 k23 HJ2 kw2 hbn c1 c3 hmm
          obtain ⟨SS, hSS⟩ : ∃ SS : Nat → Prop, SS = fun x => x = bm ∨ x = bn := ⟨_, rfl⟩
          have SSm : SS bm := by rw [hSS]; exact .inl rfl
          have SSn : SS bn := by rw [hSS]; exact .inr rfl
          have SSg : ∀ x, SS x → w.heap.size < x := fun x e => by rw [hSS] at e; rcases e with e | e <;> omega
          clear hSS
          go_upto_region 14 with (fail)
          go_loopw [67] (fun i wr => ∃ k : Nat, k ≤ nj ∧ i = .int .i64 k ∧ (List.range k).all (jobGood s) = true ∧ SMap wr bm (jobMap s k) ∧ SMap wr bn (nmMap s k) ∧ Keep SS W3 wr) (fun i _ => nj - (intOf i).toNat)
          case atStart => (first | exact ⟨0, by omega, rfl, rfl, hM3, m3, Keep.refl _ _⟩ | ((repeat apply Exists.intro); exact ⟨⟨0, by omega, rfl, rfl, hM3, m3, Keep.refl _ _⟩, rfl⟩))
          case round =>
            clear m3 hM3
            obtain ⟨i, hi, rfl, hall, hM, hN, hkr⟩ := hrel
            have ALL := Lib.hid hall
            clear hall
            by_cases hlt : i < nj
            · have hlt' : (i : Int) < nj := by omega
              obtain ⟨A', n', c', e', -, -, hl', hat⟩ := HJ3.out
              simp only [Value.slice.injEq] at e'
              obtain ⟨rfl, rfl, rfl⟩ := e'
              obtain ⟨bj, oj, rfl, hbj, hc⟩ := hat (by omega)
              obtain ⟨cs, hcl, hrg, vn, vi, hcs, hns, his⟩ := hc i (by omega)
              have hil : i < s.jobs.length := by omega
              have good := jobGood_at s i hil
              have mnext := nmMap_succ s i hil
              have jn1 := fun h => jobMap_none s i hil NW.out h
              have jn2 := fun h => jobMap_some s i hil h
              generalize s.jobs[i] = j at hcs hns his good mnext jn1 jn2
              subst hcs
              obtain ⟨An, nn, cn, rfl, -⟩ : ∃ An nn cn, vn = .slice An nn cn ∧ True := by obtain ⟨A, n, c, e, -⟩ := hns; exact ⟨A, n, c, e, trivial⟩
              obtain ⟨Ai, ni, ci, rfl, ic1, ic2, ilen, -⟩ := (id his : ItemsOf _ _ _ _)
              have ng : ¬ SS bj := fun e => hbj (Nat.le_of_lt (SSg _ e))
              have HRG := Lib.hid (rangeAt_keep hrg hkr ng)
              have GOOD := Lib.hid good
              have MN := Lib.hid mnext
              have J1 := Lib.hid jn1
              have J2 := Lib.hid jn2
              have HNS := Lib.hid (hns.keep (hkr.mono (fun x e => Nat.le_of_lt (SSg x e))))
              have IL := Lib.hid ilen
              have MM := Lib.hid hM
              have NN := Lib.hid hN
              clear hat hc hcl hrg good mnext hM hN hl' hns his ilen jn1 jn2 hil
              unfold maxLen at ic2
              have t1 : True := trivial
              have t2 : True := trivial
              go_upto_region 16 with (first | (have _t := t1; refine wpList_load_part 57 (.tmp 69) rfl rfl bj (oj + i * 7) (by first | rfl | simp) #[.string j.name, .slice An nn cn, .string j.worker, .int .i64 j.until_, .int .i64 j.tries, .bool j.done, .slice Ai ni ci] _ HRG.out Tryz.underlying57 rfl (by kernel_rfl) ?_; go_frame; clear _t t1) | (have _t := t2; refine wpList_store_blk rfl 57 (.tmp 10) (.tmp 70) rfl wr.heap.size 57 _ _ rfl rfl (Blk.new _ _ _) rfl (by kernel_rfl) (by simp [Value.oneCell']) ?_; intro w5 b5 k5 s5; go_frame; clear _t t2))
              have kr5 : Keep none_ wr w5 := ((Keep.refl none_ wr).alloc _).own k5 (Nat.le_refl _)
              have MW5 := Lib.hid (MM.out.keep kr5 (fun e => e))
              have MN5 := Lib.hid (NN.out.keep kr5 (fun e => e))
              have HNS5 := Lib.hid (HNS.out.keep kr5.weak)
              have y0 := b5.cell 0
              have y1 := b5.cell 1
              have y2 := b5.cell 2
              have y3 := b5.cell 3
              have y4 := b5.cell 4
              have y5 := b5.cell 5
              have y6 := b5.cell 6
              simp only [List.getElem?_toArray, List.getElem?_cons_zero, List.getElem?_cons_succ] at y0 y1 y2 y3 y4 y5 y6
              have B5 := Lib.hid b5
              have kW5 := hkr.trans kr5.weak
              have z0 := kW5.cell c0 (fun e => by have := SSg _ e; simp at this)
              have lr5 := MM.out.lt
              have lr6 := NN.out.lt
              clear k5 s5 MM NN HNS b5 HRG
              have NM := Lib.hid (validName_any j.name w5)
              have NS := Lib.hid (validNames_any j.needs (.slice An nn cn) (ge w.heap.size) w5 HNS5.out)
              have ansb : jobBase s i j = (!(s.jobs.take i).any (fun y => strEq j.name y.name) && nameOk j.name && namesOk j.needs && decide (0 ≤ j.tries) && decide (j.tries ≤ 3) && (j.done || decide (ni = 0))) := by unfold jobBase; rw [IL.out]
              have ANSB := Lib.hid ansb
              clear ansb
              go_cut [107] (fun x wx => x = .bool (!jobBase s i j) ∧ w5 = wx)
              case first =>
                have t1 : True := trivial
                cases hs : (s.jobs.take i).any (fun y => strEq j.name y.name) with
                | true =>
                  have lk := Lib.hid (show (.bool true : Value) = if false = true then .tuple #[.bool ((nmMap s i j.name).getD false), .bool (nmMap s i j.name).isSome] else .bool ((nmMap s i j.name).getD false) by simp [nmMap, hs])
                  rw [hs] at ANSB
                  clear hs
                  go_wp2_with (first | (have _t := t1; refine wpList_smap_lookup 93 (.tmp 71) (.tmp 73) false rfl rfl 9 4 Tryz.underlying93 Tryz.underlying9 zero_bool rfl MN5.out j.name rfl _ lk.out ?_; go_frame; clear _t t1) | (go_at_call 42; refine NM.out.mono ?_; rintro e w' ⟨rfl, rfl⟩) | (go_at_call 41; refine NS.out.mono ?_; rintro e w' ⟨rfl, rfl⟩))
                  go_meet
                  exact ⟨by rw [ANSB.out]; simp, rfl⟩
                | false =>
                  have lk := Lib.hid (show (.bool false : Value) = if false = true then .tuple #[.bool ((nmMap s i j.name).getD false), .bool (nmMap s i j.name).isSome] else .bool ((nmMap s i j.name).getD false) by simp [nmMap, hs])
                  rw [hs] at ANSB
                  clear hs
                  cases hn : nameOk j.name with
                  | false =>
                    rw [hn] at NM ANSB
                    clear hn
                    go_wp2_with (first | (have _t := t1; refine wpList_smap_lookup 93 (.tmp 71) (.tmp 73) false rfl rfl 9 4 Tryz.underlying93 Tryz.underlying9 zero_bool rfl MN5.out j.name rfl _ lk.out ?_; go_frame; clear _t t1) | (go_at_call 42; refine NM.out.mono ?_; rintro e w' ⟨rfl, rfl⟩) | (go_at_call 41; refine NS.out.mono ?_; rintro e w' ⟨rfl, rfl⟩))
                    go_meet
                    exact ⟨by rw [ANSB.out]; simp, rfl⟩
                  | true =>
                    rw [hn] at NM ANSB
                    clear hn
                    cases hs2 : namesOk j.needs with
                    | false =>
                      rw [hs2] at NS ANSB
                      clear hs2
                      go_wp2_with (first | (have _t := t1; refine wpList_smap_lookup 93 (.tmp 71) (.tmp 73) false rfl rfl 9 4 Tryz.underlying93 Tryz.underlying9 zero_bool rfl MN5.out j.name rfl _ lk.out ?_; go_frame; clear _t t1) | (go_at_call 42; refine NM.out.mono ?_; rintro e w' ⟨rfl, rfl⟩) | (go_at_call 41; refine NS.out.mono ?_; rintro e w' ⟨rfl, rfl⟩))
                      go_meet
                      exact ⟨by rw [ANSB.out]; simp, rfl⟩
                    | true =>
                      rw [hs2] at NS ANSB
                      clear hs2
                      by_cases h6 : 0 ≤ j.tries
                      · have h6' : decide (j.tries < 0) = false := decide_eq_false (by omega)
                        by_cases h7 : j.tries ≤ 3
                        · have h7' : decide (3 < j.tries) = false := decide_eq_false (by omega)
                          cases hd : j.done with
                          | true =>
                            rw [hd] at y5 ANSB
                            clear hd
                            go_wp2_with (first | (have _t := t1; refine wpList_smap_lookup 93 (.tmp 71) (.tmp 73) false rfl rfl 9 4 Tryz.underlying93 Tryz.underlying9 zero_bool rfl MN5.out j.name rfl _ lk.out ?_; go_frame; clear _t t1) | (go_at_call 42; refine NM.out.mono ?_; rintro e w' ⟨rfl, rfl⟩) | (go_at_call 41; refine NS.out.mono ?_; rintro e w' ⟨rfl, rfl⟩))
                            go_meet
                            exact ⟨by rw [ANSB.out]; simp [h6, h7], rfl⟩
                          | false =>
                            rw [hd] at y5 ANSB
                            clear hd
                            by_cases h8 : ni = 0
                            · subst h8
                              go_wp2_with (first | (have _t := t1; refine wpList_smap_lookup 93 (.tmp 71) (.tmp 73) false rfl rfl 9 4 Tryz.underlying93 Tryz.underlying9 zero_bool rfl MN5.out j.name rfl _ lk.out ?_; go_frame; clear _t t1) | (go_at_call 42; refine NM.out.mono ?_; rintro e w' ⟨rfl, rfl⟩) | (go_at_call 41; refine NS.out.mono ?_; rintro e w' ⟨rfl, rfl⟩))
                              go_meet
                              exact ⟨by rw [ANSB.out]; simp [h6, h7], rfl⟩
                            · have h8' : ((ni : Int) != 0) = true := by simpa using h8
                              go_wp2_with (first | (have _t := t1; refine wpList_smap_lookup 93 (.tmp 71) (.tmp 73) false rfl rfl 9 4 Tryz.underlying93 Tryz.underlying9 zero_bool rfl MN5.out j.name rfl _ lk.out ?_; go_frame; clear _t t1) | (go_at_call 42; refine NM.out.mono ?_; rintro e w' ⟨rfl, rfl⟩) | (go_at_call 41; refine NS.out.mono ?_; rintro e w' ⟨rfl, rfl⟩))
                              go_meet
                              exact ⟨by rw [ANSB.out]; simp [h8], rfl⟩
                        · have h7' : decide (3 < j.tries) = true := decide_eq_true (by omega)
                          go_wp2_with (first | (have _t := t1; refine wpList_smap_lookup 93 (.tmp 71) (.tmp 73) false rfl rfl 9 4 Tryz.underlying93 Tryz.underlying9 zero_bool rfl MN5.out j.name rfl _ lk.out ?_; go_frame; clear _t t1) | (go_at_call 42; refine NM.out.mono ?_; rintro e w' ⟨rfl, rfl⟩) | (go_at_call 41; refine NS.out.mono ?_; rintro e w' ⟨rfl, rfl⟩))
                          go_meet
                          exact ⟨by rw [ANSB.out]; simp [h7], rfl⟩
                      · have h6' : decide (j.tries < 0) = true := decide_eq_true (by omega)
                        go_wp2_with (first | (have _t := t1; refine wpList_smap_lookup 93 (.tmp 71) (.tmp 73) false rfl rfl 9 4 Tryz.underlying93 Tryz.underlying9 zero_bool rfl MN5.out j.name rfl _ lk.out ?_; go_frame; clear _t t1) | (go_at_call 42; refine NM.out.mono ?_; rintro e w' ⟨rfl, rfl⟩) | (go_at_call 41; refine NS.out.mono ?_; rintro e w' ⟨rfl, rfl⟩))
                        go_meet
                        exact ⟨by rw [ANSB.out]; simp [h6], rfl⟩
              case rest =>
                obtain ⟨rfl, rfl⟩ := hcut
                clear NM NS ANSB y1 y4 y5 y6 HNS5
                have kw5 : Keep none_ w w5 := kw3.then kW5 (fun x e => .inr (Nat.le_of_lt (SSg x e)))
                cases hb : jobBase s i j with
                | false =>
                  have BAD := Lib.hid (show jobGood s i = false by rw [GOOD.out, hb]; rfl)
                  clear hb
                  go_wp2
                  go_ret
                  exact ⟨ret_bool (by rw [VF2.out, range_all_part _ i nj hlt BAD.out]), kw5⟩
                | true =>
                  have good2 := GOOD.out
                  rw [hb, Bool.true_and] at good2
                  have G2 := Lib.hid good2
                  clear hb good2 GOOD
                  have t1 : True := trivial
                  go_upto_region 19 with (have _t := t1; refine wpList_smap_update 93 (.tmp 108) (.tmp 110) (.const (.bool true)) rfl rfl 9 4 Tryz.underlying93 Tryz.underlying9 rfl MN5.out j.name rfl true rfl ?_; intro w6 m6 k6; go_frame; clear _t t1)
                  rw [MN.out] at m6
                  have nbm : ¬ one bn bm := fun e => by unfold one at e; omega
                  have nbr : ¬ one bn wr.heap.size := fun e => by unfold one at e; omega
                  have MW6 := Lib.hid (MW5.out.keep k6 nbm)
                  have M6 := Lib.hid m6
                  have B6 := Lib.hid (B5.out.keep k6 nbr)
                  replace y2 := k6.cell y2 nbr
                  replace y3 := k6.cell y3 nbr
                  replace z0 := k6.cell z0 (fun e => by unfold one at e; simp at e; omega)
                  have kW6 := kW5.trans (k6.mono (fun x e => by cases e; exact SSn))
                  have kw6 : Keep none_ w w6 := kw5.own k6 lnn
                  clear MN5 MW5 B5 m6 MN k6 kW5 kw5 y0
                  cases he : strEq j.worker ⟨#[]⟩ with
                  | true =>
                    have e1 : j.worker = ⟨#[]⟩ := strEq_iff.1 he
                    have JN := Lib.hid (J1.out he)
                    rw [he, if_pos rfl] at G2
                    rw [e1] at y2
                    clear he e1 J1 J2
                    by_cases hu : j.until_ = 0
                    · have hu' : (j.until_ != 0) = false := by simp [hu]
                      have GD := Lib.hid (show jobGood s i = true by rw [G2.out]; simp [hu])
                      rw [hu] at y3
                      clear hu hu'
                      go_wp2
                      go_roundw
                      case rel =>
                        exact ⟨i + 1, by omega, by go_num, by rw [range_all_succ, ALL.out, GD.out]; rfl, by rw [JN.out]; exact MW6.out, M6.out, kW6⟩
                      case measure => simp [intOf]; omega
                    · have hu' : (j.until_ != 0) = true := by simpa using hu
                      have BAD := Lib.hid (show jobGood s i = false by rw [G2.out]; simp [hu])
                      go_wp2
                      go_ret
                      exact ⟨ret_bool (by rw [VF2.out, range_all_part _ i nj hlt BAD.out]), kw6⟩
                  | false =>
                    rw [he] at G2
                    have ne0 : j.worker.toList ≠ [] := fun h => by
                      have : strEq j.worker ⟨#[]⟩ = true := by unfold strEq; rw [h, ByteArray.toList_eq]; rfl
                      rw [he] at this
                      cases this
                    have ne1 : (j.worker.toList == []) = false := by simpa using ne0
                    have ne2 : j.worker.toList.isEmpty = false := by simpa using ne0
                    cases hf : wkFree s i j.worker with
                    | false =>
                      have lk := Lib.hid (show (.bool false : Value) = if false = true then .tuple #[.bool ((jobMap s i j.worker).getD false), .bool (jobMap s i j.worker).isSome] else .bool ((jobMap s i j.worker).getD false) by simp [wkFree_look, hf])
                      have BAD := Lib.hid (show jobGood s i = false by rw [G2.out, hf]; simp)
                      clear hf he ne0 J1 J2
                      have t1 : True := trivial
                      go_wp2_with (have _t := t1; refine wpList_smap_lookup 93 (.tmp 117) (.tmp 119) false rfl rfl 9 4 Tryz.underlying93 Tryz.underlying9 zero_bool rfl MW6.out j.worker rfl _ lk.out ?_; go_frame; clear _t t1)
                      go_ret
                      exact ⟨ret_bool (by rw [VF2.out, range_all_part _ i nj hlt BAD.out]), kw6⟩
                    | true =>
                      have lk := Lib.hid (show (.bool true : Value) = if false = true then .tuple #[.bool ((jobMap s i j.worker).getD false), .bool (jobMap s i j.worker).isSome] else .bool ((jobMap s i j.worker).getD false) by simp [wkFree_look, hf])
                      have gg : jobGood s i = giftOk j s.now := by rw [G2.out, hf]; simp
                      have GG := Lib.hid gg
                      have hwa : s.workers.any (fun y => strEq j.worker y.name) = true := by
                        unfold wkFree at hf
                        simp only [Bool.and_eq_true] at hf
                        exact hf.1
                      have JS := Lib.hid (J2.out hwa)
                      clear hf he ne0 J1 J2 hwa gg
                      have VG := Lib.hid (validGift_any j (.slice An nn cn) (.slice Ai ni ci) s.now w6 (by omega) (by omega))
                      have t1 : True := trivial
                      have t2 : True := trivial
                      cases hg : giftOk j s.now with
                      | false =>
                        rw [hg] at VG GG
                        clear hg
                        go_wp2_with (first | (have _t := t1; refine wpList_smap_lookup 93 (.tmp 117) (.tmp 119) false rfl rfl 9 4 Tryz.underlying93 Tryz.underlying9 zero_bool rfl MW6.out j.worker rfl _ lk.out ?_; go_frame; clear _t t1) | (have _t := t2; refine wpList_load_part 57 (.tmp 10) rfl rfl wr.heap.size 0 rfl #[.string j.name, .slice An nn cn, .string j.worker, .int .i64 j.until_, .int .i64 j.tries, .bool j.done, .slice Ai ni ci] _ B6.out.rangeAt Tryz.underlying57 rfl (by kernel_rfl) ?_; go_frame; clear _t t2) | (go_at_call 43; refine VG.out.mono ?_; rintro e w7 ⟨rfl, k7⟩))
                        go_ret
                        exact ⟨ret_bool (by rw [VF2.out, range_all_part _ i nj hlt GG.out]), kw6.trans k7⟩
                      | true =>
                        rw [hg] at VG GG
                        clear hg
                        go_upto_region 24 with (first | (have _t := t1; refine wpList_smap_lookup 93 (.tmp 117) (.tmp 119) false rfl rfl 9 4 Tryz.underlying93 Tryz.underlying9 zero_bool rfl MW6.out j.worker rfl _ lk.out ?_; go_frame; clear _t t1) | (have _t := t2; refine wpList_load_part 57 (.tmp 10) rfl rfl wr.heap.size 0 rfl #[.string j.name, .slice An nn cn, .string j.worker, .int .i64 j.until_, .int .i64 j.tries, .bool j.done, .slice Ai ni ci] _ B6.out.rangeAt Tryz.underlying57 rfl (by kernel_rfl) ?_; go_frame; clear _t t2) | (go_at_call 43; refine VG.out.mono ?_; rintro e w7 ⟨rfl, k7⟩))
                        have MW7 := Lib.hid (MW6.out.keep k7 (fun e => e))
                        have M7 := Lib.hid (M6.out.keep k7 (fun e => e))
                        replace y2 := k7.cell y2 (fun e => e)
                        have kW7 := kW6.trans k7.weak
                        have t3 : True := trivial
                        go_wp2_with (have _t := t3; refine wpList_smap_update 93 (.tmp 129) (.tmp 131) (.const (.bool false)) rfl rfl 9 4 Tryz.underlying93 Tryz.underlying9 rfl MW7.out j.worker rfl false rfl ?_; intro w8 m8 k8; go_frame; clear _t t3)
                        rw [JS.out] at m8
                        have M8 := M7.out.keep k8 (fun e => by unfold one at e; omega)
                        go_roundw
                        case rel =>
                          (repeat apply Exists.intro)
                          exact ⟨⟨i + 1, by omega, by go_num, by rw [range_all_succ, ALL.out, GG.out]; rfl, m8, M8, kW7.trans (k8.mono (fun x e => by cases e; exact SSm))⟩, rfl⟩
                        case measure => simp [intOf]; omega
            · obtain rfl : i = nj := by omega
              go_wp2
              go_ret
              exact ⟨ret_bool (by rw [VF2.out, ALL.out]), kw3.then hkr (fun x e => .inr (Nat.le_of_lt (SSg x e)))⟩
end Go.Proofs.YtnefbeplgfdkkaaGreatDoor
