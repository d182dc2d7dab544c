/-
  cutroomref37.Same of equal states.
-/
import Derived.Test.YtnefbeplgfdkkaaGreatDoorRu28
import Derived.Test.YtnefbeplgfdkkaaGreatDoorRu34
import Derived.Test.YtnefbeplgfdkkaaGreatDoorRu26
import Derived.Test.YtnefbeplgfdkkaaGreatDoorRu29
namespace Go.Proofs.YtnefbeplgfdkkaaGreatDoor
open Go.RowKit

theorem wk_eq (x : ByteArray) (b : Bool) : ∀ w, (Op.equalIn 10000 107 (.agg #[.string x, .bool b]) (.agg #[.string x, .bool b])).run Tryz.prog w = .ok true w := by
  obtain ⟨r, h1, h2⟩ : EqOk Tryz.prog (9998 + 1 + 1) 107 (.agg #[.string x, .bool b]) (.agg #[.string x, .bool b]) := by
    refine eqOk_struct _ _ Tryz.underlying107 (by kernel_rfl) fun f hf => ?_
    simp only [List.mem_cons, List.not_mem_nil, or_false] at hf
    rcases hf with rfl | rfl
    · exact ⟨.string x, .string x, PartIs.one Tryz.underlying9 rfl rfl, PartIs.one Tryz.underlying9 rfl rfl, fun _ => rfl, eqOk_string _ _ Tryz.underlying9⟩
    · exact ⟨.bool b, .bool b, PartIs.one Tryz.underlying4 rfl rfl, PartIs.one Tryz.underlying4 rfl rfl, fun _ => rfl, eqOk_bool _ _ Tryz.underlying4⟩
  intro w
  rw [h2 w, h1 rfl]

set_option maxRecDepth 100000 in
set_option maxHeartbeats 2000000 in
theorem same_any (s : St) (hs : ∀ j ∈ s.jobs, ∀ x ∈ j.items, SameOk x) (v v' : Value) (S S' : Nat → Prop) (w : World) (h : StateOf w S v s) (h' : StateOf w S' v' s) :
    Calls Tryz.prog 25 #[v, v'] w fun e w' => e = .returned (.bool true) ∧ Keep none_ w w' := by
  obtain ⟨P1, P2, P3, P4, P5, P6, P7, P8, P9, rfl, hp, hj, hw⟩ := h.lists
  obtain ⟨Q1, Q2, Q3, Q4, Q5, Q6, Q7, Q8, Q9, rfl, hp', hj', hw'⟩ := h'.lists
  obtain ⟨e1, e2, e3⟩ := ElemsOf.facts hj
  obtain ⟨f1, f2, f3⟩ := ElemsOf.facts hj'
  obtain ⟨e4, e5, e6⟩ := ElemsOf.facts hw
  obtain ⟨f4, f5, f6⟩ := ElemsOf.facts hw'
  obtain rfl : P5 = Q5 := by omega
  obtain rfl : P8 = Q8 := by omega
  unfold maxLen at e3 f3 e6 f6
  obtain ⟨W1, hW1⟩ : ∃ W1, W1 = (w.alloc (.cells #[.int .i64 s.now, .slice P1 P2 P3, .slice P4 P5 P6, .slice P7 P8 P9] 48)).alloc (.cells #[.int .i64 s.now, .slice Q1 Q2 Q3, .slice Q4 P5 Q6, .slice Q7 P8 Q9] 48) := ⟨_, rfl⟩
  obtain ⟨b0, b1, k1⟩ := two (w := w) (t0 := 48) (c0 := #[.int .i64 s.now, .slice P1 P2 P3, .slice P4 P5 P6, .slice P7 P8 P9]) (t1 := 48) (c1 := #[.int .i64 s.now, .slice Q1 Q2 Q3, .slice Q4 P5 Q6, .slice Q7 P8 Q9]) (w1 := W1) (hW1 ▸ Keep.refl none_ W1)
  have ST := Lib.hid (strings_any s.present _ _ _ _ W1 (hp.keep k1.weak) (hp'.keep k1.weak))
  have HJ := Lib.hid (show JobsOf W1 none_ _ _ from ElemsOf.sub (hj.keep k1.weak) (fun _ e => e.elim) (fun _ _ h => h.sub (fun _ e => e.elim)))
  have HJ' := Lib.hid (show JobsOf W1 none_ _ _ from ElemsOf.sub (hj'.keep k1.weak) (fun _ e => e.elim) (fun _ _ h => h.sub (fun _ e => e.elim)))
  have HW := Lib.hid (show WorkersOf W1 none_ _ _ from ElemsOf.sub (hw.keep k1.weak) (fun _ e => e.elim) (fun _ _ h => h))
  have HW' := Lib.hid (show WorkersOf W1 none_ _ _ from ElemsOf.sub (hw'.keep k1.weak) (fun _ e => e.elim) (fun _ _ h => h))
  have HS := Lib.hid hs
  have K1 := Lib.hid k1
  have B0 := Lib.hid b0
  have B1 := Lib.hid b1
  have c0 : W1.cell? ⟨w.heap.size, 0, none⟩ = some (.int .i64 s.now) := b0.cell 0
  have c1 : W1.cell? ⟨w.heap.size, 1, none⟩ = some (.slice P1 P2 P3) := b0.cell 1
  have c2 : W1.cell? ⟨w.heap.size, 2, none⟩ = some (.slice P4 P5 P6) := b0.cell 2
  have c3 : W1.cell? ⟨w.heap.size, 3, none⟩ = some (.slice P7 P8 P9) := b0.cell 3
  have d0 : W1.cell? ⟨w.heap.size + 1, 0, none⟩ = some (.int .i64 s.now) := b1.cell 0
  have d1 : W1.cell? ⟨w.heap.size + 1, 1, none⟩ = some (.slice Q1 Q2 Q3) := b1.cell 1
  have d2 : W1.cell? ⟨w.heap.size + 1, 2, none⟩ = some (.slice Q4 P5 Q6) := b1.cell 2
  have d3 : W1.cell? ⟨w.heap.size + 1, 3, none⟩ = some (.slice Q7 P8 Q9) := b1.cell 3
  have lw := b1.lt
  clear h h' hp hp' hj hj' hw hw' hs k1 b0 b1 e1 f1 e4 f4
  go_enter Tryz.func25, Tryz.ntmps25
  go_upto_region 1 with (fail)
  rw [← hW1]
  clear hW1
  have t1 : True := trivial
  go_wp2_with (have _t := t1; go_at_call 19; refine ST.out.mono ?_; rintro en w2 ⟨rfl, k2⟩; have c2 := k2.cell c2 (fun e => e); have c3 := k2.cell c3 (fun e => e); have d2 := k2.cell d2 (fun e => e); have d3 := k2.cell d3 (fun e => e); have K2 := Lib.hid k2; clear k2 _t t1)
  clear ST c0 c1 d0 d1
  have JS := Lib.hid (HJ.out.keep K2.out)
  have JT := Lib.hid (HJ'.out.keep K2.out)
  have WS := Lib.hid (HW.out.keep K2.out)
  have WT := Lib.hid (HW'.out.keep K2.out)
  have KK := Lib.hid (K1.out.trans K2.out)
  have C2 := Lib.hid c2
  have D2 := Lib.hid d2
  have C3 := Lib.hid c3
  have D3 := Lib.hid d3
  clear HJ HJ' HW HW' K1 K2 B0 B1 c2 d2 c3 d3
  go_loopw [5] (fun i wr => ∃ m : Nat, m ≤ P5 ∧ i = .int .i64 m ∧ Keep none_ w2 wr) (fun i _ => P5 - (intOf i).toNat)
  case atStart => exact ⟨0, Nat.zero_le _, rfl, Keep.refl _ _⟩
  case round =>
    obtain ⟨m, hm, rfl, hkz⟩ := hrel
    have HKZ := Lib.hid hkz
    have y1 : wr.cell? ⟨w.heap.size, 2, none⟩ = some (.slice P4 P5 P6) := hkz.cell C2.out (fun e => e)
    have y2 : wr.cell? ⟨w.heap.size + 1, 2, none⟩ = some (.slice Q4 P5 Q6) := hkz.cell D2.out (fun e => e)
    clear hkz
    by_cases hlt : m < P5
    · have hlt' : (m : Int) < P5 := by omega
      obtain ⟨ba, oa, rfl, -, hkl, csa, hcl, hrg, vna, via, hcsa, hnsa, hisa⟩ := ElemsOf.elem (JS.out.keep HKZ.out) m hlt
      obtain ⟨bb, ob, rfl, -, hkl', csb, hcl', hrg', vnb, vib, hcsb, hnsb, hisb⟩ := ElemsOf.elem (JT.out.keep HKZ.out) m hlt
      have na := HS.out _ (List.getElem_mem hkl)
      generalize s.jobs[m] = ja at hcsa hnsa hisa hcsb hnsb hisb na
      subst hcsa hcsb
      obtain ⟨Ana, nna, cna, rfl, -⟩ := (id hnsa : StrsOf wr none_ vna ja.needs)
      obtain ⟨Anb, nnb, cnb, rfl, -⟩ := (id hnsb : StrsOf wr none_ vnb ja.needs)
      obtain ⟨Aia, nia, cia, rfl, -⟩ := (id hisa : ItemsOf wr none_ via ja.items)
      obtain ⟨Aib, nib, cib, rfl, -⟩ := (id hisb : ItemsOf wr none_ vib ja.items)
      have NS := Lib.hid hnsa
      have NT := Lib.hid hnsb
      have IS := Lib.hid hisa
      have IT := Lib.hid hisb
      have RA := Lib.hid hrg
      have RB := Lib.hid hrg'
      have NA := Lib.hid na
      clear hcl hcl' hrg hrg' hisa hisb hnsa hnsb na
      have zj := zero_job
      go_upto_region 6 with (fail)
      have gd := pvCalm_good wr 57 7 10 11 12
      have ne := pvCalm_some wr 57 7 10 11 12
      have x1 := fun y => (pvCalm_at (wr := wr) (t := 57) (n := 7) (k1 := 10) (k2 := 11) (k3 := 12) y).cell y1 (fun e => e)
      have x2 := fun y => (pvCalm_at (wr := wr) (t := 57) (n := 7) (k1 := 10) (k2 := 11) (k3 := 12) y).cell y2 (fun e => e)
      have x3 := Lib.hid (fun y => rangeAt_keep RA.out (pvCalm_at (wr := wr) (t := 57) (n := 7) (k1 := 10) (k2 := 11) (k3 := 12) y) (fun e => e))
      have x4 := Lib.hid (fun y => rangeAt_keep RB.out (pvCalm_at (wr := wr) (t := 57) (n := 7) (k1 := 10) (k2 := 11) (k3 := 12) y) (fun e => e))
      clear y1 y2
      refine wp_region_calm (pvCalm wr 57 7 10 11 12) [0, 1, 2, 3, 4, 5, 6, 7, 8, 9, 10, 11, 12] [13] 124 (by kernel_rfl) (by kernel_rfl) rfl gd (Keep.refl _ _).drew ?_
      simp only [pairs, List.filterMap_cons, List.filterMap_nil, List.getElem?_toArray, List.getElem?_cons_succ, List.getElem?_cons_zero, Option.map_some]
      repeat (refine Calm.walk_quiet ne rfl rfl rfl (fun K hK => ?_); go_big_quiet_op; refine hK _ ?_; clear hK K)
      refine Calm.walk_load 57 (.tmp 50) rfl ne rfl rfl ba (oa + m * 7) (by first | rfl | simp) #[.string ja.name, .slice Ana nna cna, .string ja.worker, .int .i64 ja.until_, .int .i64 ja.tries, .bool ja.done, .slice Aia nia cia] _ x3.out Tryz.underlying57 rfl (by kernel_rfl) ?_
      go_frame
      repeat (refine Calm.walk_quiet ne rfl rfl rfl (fun K hK => ?_); go_big_quiet_op; refine hK _ ?_; clear hK K)
      refine Calm.walk_load 57 (.tmp 55) rfl ne rfl rfl bb (ob + m * 7) (by first | rfl | simp) #[.string ja.name, .slice Anb nnb cnb, .string ja.worker, .int .i64 ja.until_, .int .i64 ja.tries, .bool ja.done, .slice Aib nib cib] _ x4.out Tryz.underlying57 rfl (by kernel_rfl) ?_
      go_frame
      refine Calm.walk_eff rfl rfl (fun n wy hn hG _ => ?_) ?_
      · have hG' : Keep none_ wr wy := hG
        unfold gives
        go_simp
        exact ⟨⟨wy.heap.size, hG'.size, rfl, _, rfl, Blk.new _ _ _⟩, (Keep.refl _ _).alloc _, hG'.alloc _, fun b h => ⟨Nat.le_of_eq (show b = _ from h.2).symm, by rw [show b = wy.heap.size from h.2]; simp⟩⟩
      intro vq wy hT
      obtain ⟨b1, hb1, rfl, -⟩ : ∃ b, wr.heap.size ≤ b ∧ vq = .pointer (some ⟨b, 0, none⟩) ∧ VarT wy b 57 7 := hT
      clear wy
      go_frame
      refine Calm.walk_eff rfl rfl (fun n wy hn hG _ => ?_) ?_
      · have hG' : Keep none_ wr wy := hG
        unfold gives
        go_simp
        exact ⟨⟨wy.heap.size, hG'.size, rfl, _, rfl, Blk.new _ _ _⟩, (Keep.refl _ _).alloc _, hG'.alloc _, fun b h => ⟨Nat.le_of_eq (show b = _ from h.2).symm, by rw [show b = wy.heap.size from h.2]; simp⟩⟩
      intro vq wy hT
      obtain ⟨b2, hb2, rfl, -⟩ : ∃ b, wr.heap.size ≤ b ∧ vq = .pointer (some ⟨b, 0, none⟩) ∧ VarT wy b 57 7 := hT
      clear wy
      go_frame
      refine Calm.walk_eff rfl rfl (fun n wy hn hG hAF => ?_) ?_
      · have hG' : Keep none_ wr wy := hG
        obtain ⟨b1', g1, g2, csv, g3, g4⟩ : ∃ b, wr.heap.size ≤ b ∧ Value.pointer (some ⟨b1, 0, none⟩) = .pointer (some ⟨b, 0, none⟩) ∧ VarT wy b 57 7 := (hAF 10 List.mem_cons_self _ rfl ⟨rfl, rfl⟩).1
        obtain rfl : b1 = b1' := by simpa using g2
        refine gives_store_blk 57 (.tmp 6) (.tmp 51) rfl b1 57 _ #[.string ja.name, .slice Ana nna cna, .string ja.worker, .int .i64 ja.until_, .int .i64 ja.tries, .bool ja.done, .slice Aia nia cia] rfl rfl g4 g3 (by kernel_rfl) (by simp [Value.oneCell']) (fun wz bz kz => ?_)
        exact ⟨⟨b1, _, rfl, rfl, bz⟩, ⟨b1, g1, ⟨csv, g3, g4⟩, ⟨_, rfl, bz⟩, kz⟩, hG'.own kz g1, fun _ h => (h.1 rfl).elim⟩
      rintro vq wy -
      clear wy
      go_frame
      repeat (refine Calm.walk_quiet ne rfl rfl rfl (fun K hK => ?_); go_big_quiet_op; refine hK _ ?_; clear hK K)
      intro w9 hG hD
      have k9 : Keep none_ wr w9 := hG
      obtain ⟨b1', xs', e1, e2, ba9⟩ : ∃ b xs, Value.pointer (some ⟨b1, 0, none⟩) = .pointer (some ⟨b, 0, none⟩) ∧ Value.agg #[.string ja.name, .slice Ana nna cna, .string ja.worker, .int .i64 ja.until_, .int .i64 ja.tries, .bool ja.done, .slice Aia nia cia] = .agg xs ∧ Blk w9 b 57 xs := (hD.1 12 rfl _ rfl ⟨rfl, rfl⟩).1
      obtain rfl : b1 = b1' := by simpa using e1
      injection e2 with e2
      subst e2
      obtain ⟨b2', -, e3, csv, g3, bb9⟩ : ∃ b, wr.heap.size ≤ b ∧ Value.pointer (some ⟨b2, 0, none⟩) = .pointer (some ⟨b, 0, none⟩) ∧ VarT w9 b 57 7 := (hD.1 11 rfl _ rfl ⟨rfl, rfl⟩).1
      obtain rfl : b2 = b2' := by simpa using e3
      have d12 : b1 ≠ b2 := fun e => hD.2 10 11 rfl rfl (by decide) _ _ rfl rfl ⟨rfl, rfl⟩ ⟨rfl, rfl⟩ b1 ⟨by decide, rfl⟩ ⟨by decide, e⟩
      clear hG hD gd ne x1 x2 x3 x4 e1 e3
      simp only [pickOps, List.filterMap_cons, List.filterMap_nil, List.getElem?_toArray, List.getElem?_cons_succ, List.getElem?_cons_zero]
      have B1 := Lib.hid ba9
      have B2 := Lib.hid bb9
      have G3 := Lib.hid g3
      have K9 := Lib.hid k9
      clear ba9 bb9 g3 k9
      have t9 : True := trivial
      go_upto_region 7 with (have _t := t9; refine wpList_store_blk rfl 57 (.tmp 7) (.tmp 56) rfl b2 57 _ _ rfl rfl B2.out G3.out (by kernel_rfl) (by simp [Value.oneCell']) ?_; intro w10 b10 k10 s10; go_frame; clear _t t9)
      have K10 := Lib.hid (K9.out.own k10 hb2)
      have y1 := B1.out.keep k10 d12
      have y2 := b10
      clear k10 s10 b10 B1 B2 G3 K9
      have Y1 := Lib.hid y1
      have Y2 := Lib.hid y2
      have p0 := y1.cell 0
      have p1 := y1.cell 1
      have q0 := y2.cell 0
      have q1 := y2.cell 1
      simp only [List.getElem?_toArray, List.getElem?_cons_zero, List.getElem?_cons_succ] at p0 p1 q0 q1
      have SN := Lib.hid (strings_any ja.needs _ _ _ _ w10 (NS.out.keep K10.out) (NT.out.keep K10.out))
      have SM := Lib.hid (fun (wx : World) (kx : Keep none_ w10 wx) => sameItems_any ja.items NA.out _ _ _ _ wx ((IS.out.keep K10.out).keep kx) ((IT.out.keep K10.out).keep kx))
      have hnm : (ja.name.toList == ja.name.toList) = true := by simp
      have hwm : (ja.worker.toList == ja.worker.toList) = true := by simp
      clear y1 y2 NS NT IS IT
      have t11 : True := trivial
      have t12 : True := trivial
      go_wp2_with (first | (have _t := t11; go_at_call 19; refine SN.out.mono ?_; rintro en w11 ⟨rfl, k11⟩; have z1 := Y1.out.keep k11 (fun e => e); have z2 := Y2.out.keep k11 (fun e => e); have p2 := z1.cell 2; have q2 := z2.cell 2; have p3 := z1.cell 3; have q3 := z2.cell 3; have p4 := z1.cell 4; have q4 := z2.cell 4; have p5 := z1.cell 5; have q5 := z2.cell 5; have p6 := z1.cell 6; have q6 := z2.cell 6; simp only [List.getElem?_toArray, List.getElem?_cons_zero, List.getElem?_cons_succ] at p2 q2 p3 q3 p4 q4 p5 q5 p6 q6; have SM11 := Lib.hid (SM.out w11 k11); have K11 := Lib.hid (K10.out.trans k11); clear z1 z2 k11 _t t11) | (have _t := t12; go_at_call 23; refine SM11.out.mono ?_; rintro en w12 ⟨rfl, k12⟩; have K12 := Lib.hid (K11.out.trans k12); clear k12 _t t12))
      go_roundw
      case rel => exact ⟨m + 1, by omega, by go_num, HKZ.out.trans K12.out⟩
      case measure => simp [intOf]; omega
    · obtain rfl : m = P5 := by omega
      go_wp2_with (fail)
      obtain ⟨wo, hwo⟩ : ∃ wo, wo = wr := ⟨_, rfl⟩
      subst hwo
      clear y1 y2
      go_loopw [8] (fun i wr => ∃ m : Nat, m ≤ P8 ∧ i = .int .i64 m ∧ Keep none_ wo wr) (fun i _ => P8 - (intOf i).toNat)
      case atStart => exact ⟨0, Nat.zero_le _, rfl, Keep.refl _ _⟩
      case round =>
        obtain ⟨m, hm, rfl, hkz⟩ := hrel
        have hkz0 := Lib.hid hkz
        have HKY := Lib.hid (HKZ.out.trans hkz)
        clear hkz
        have y1 : wr.cell? ⟨w.heap.size, 3, none⟩ = some (.slice P7 P8 P9) := HKY.out.cell C3.out (fun e => e)
        have y2 : wr.cell? ⟨w.heap.size + 1, 3, none⟩ = some (.slice Q7 P8 Q9) := HKY.out.cell D3.out (fun e => e)
        by_cases hlt : m < P8
        · have hlt' : (m : Int) < P8 := by omega
          obtain ⟨ba, oa, rfl, -, hkl, csa, hcl, hrg, hcsa⟩ := ElemsOf.elem (WS.out.keep HKY.out) m hlt
          obtain ⟨bb, ob, rfl, -, hkl', csb, hcl', hrg', hcsb⟩ := ElemsOf.elem (WT.out.keep HKY.out) m hlt
          unfold WkOf at hcsa hcsb
          generalize s.workers[m] = x at hcsa hcsb
          subst hcsa hcsb
          have R1 := Lib.hid hrg
          have R2 := Lib.hid hrg'
          clear hrg hrg' hcl hcl'
          go_upto_region 12 with (fail)
          have gd := still_good wr.drew
          have ne := still_some wr.drew
          have hx := still_at wr.drew
          refine wp_region_calm (stillCalm wr.drew) [0, 1, 2, 3, 4, 5, 6, 7, 8, 9, 10] [] 124 (by kernel_rfl) (by kernel_rfl) rfl gd rfl ?_
          simp only [pairs, List.filterMap_cons, List.filterMap_nil, List.getElem?_toArray, List.getElem?_cons_succ, List.getElem?_cons_zero, Option.map_some]
          repeat (refine Calm.walk_quiet ne rfl rfl rfl (fun K hK => ?_); go_big_quiet_op; refine hK _ ?_; clear hK K)
          refine Calm.walk_load 107 (.tmp 116) rfl ne rfl rfl ba (oa + m * 2) (by first | rfl | simp) #[.string x.name, .bool x.dead] _ (fun y => by rw [hx y]; exact fun r u hu => (Keep.refl none_ wr).drew.cell (R1.out r u hu) (fun e => e)) Tryz.underlying107 rfl (by kernel_rfl) ?_
          go_frame
          repeat (refine Calm.walk_quiet ne rfl rfl rfl (fun K hK => ?_); go_big_quiet_op; refine hK _ ?_; clear hK K)
          refine Calm.walk_load 107 (.tmp 121) rfl ne rfl rfl bb (ob + m * 2) (by first | rfl | simp) #[.string x.name, .bool x.dead] _ (fun y => by rw [hx y]; exact fun r u hu => (Keep.refl none_ wr).drew.cell (R2.out r u hu) (fun e => e)) Tryz.underlying107 rfl (by kernel_rfl) ?_
          go_frame
          refine Calm.walk_neq_agg 107 (.tmp 117) (.tmp 122) _ rfl ne rfl rfl #[.string x.name, .bool x.dead] #[.string x.name, .bool x.dead] rfl rfl (by kernel_rfl) true (wk_eq _ _) ?_
          go_frame
          intro w' hR _
          obtain rfl : w' = wr.drew := hR.symm
          simp only [pickOps, List.filterMap_nil]
          clear gd ne hx hR
          have HK9 := Lib.hid ((Keep.refl none_ wr).drew)
          clear y1 y2
          go_wp2
          go_roundw
          case rel => exact ⟨m + 1, by omega, by go_num, hkz0.out.trans HK9.out⟩
          case measure => simp [intOf]; omega
        · obtain rfl : m = P8 := by omega
          go_wp2
          go_ret
          exact ⟨rfl, KK.out.trans HKY.out⟩
end Go.Proofs.YtnefbeplgfdkkaaGreatDoor
