/-
  FarmDone: the walk.
-/
import Derived.Test.YtnefbeplgfdkkaaGreatDoorDoneP
import Derived.Test.YtnefbeplgfdkkaaGreatDoorSmI
import Derived.Test.YtnefbeplgfdkkaaGreatDoorEvs
import Derived.Test.YtnefbeplgfdkkaaGreatDoorOff
namespace Go.Proofs.YtnefbeplgfdkkaaGreatDoor
open Go.RowKit

theorem StateOf.jobsIn {w : World} {S : Nat → Prop} {v vp vj vw : Value} {s : St} (h : StateOf w S (.agg #[v, vp, vj, vw]) s) : JobsOf w S vj s.jobs := by
  obtain ⟨p6, j6, q6, e, g1, g2, g3⟩ := h
  simp only [Value.agg.injEq, Array.mk.injEq, List.cons.injEq, and_true] at e
  obtain ⟨-, -, rfl, -⟩ := e
  exact g2
theorem StateOf.parts {w : World} {S : Nat → Prop} {v : Value} {s : St} (h : StateOf w S v s) : ∃ P1 P2 P3 P4 P5 P6 P7 P8 P9, v = .agg #[.int .i64 s.now, .slice P1 P2 P3, .slice P4 P5 P6, .slice P7 P8 P9] := by
  obtain ⟨p6, j6, q6, rfl, g1, g2, g3⟩ := h
  obtain ⟨P1, P2, P3, rfl, -⟩ := g1
  obtain ⟨P4, P5, P6, rfl, hj⟩ := g2
  obtain ⟨P7, P8, P9, rfl, -⟩ := g3
  exact ⟨_, _, _, _, _, _, _, _, _, rfl⟩
theorem EvOwn.csO {w : World} {S : Nat → Prop} {lo : Nat} (hS : ∀ b, lo ≤ b → ¬ S b) {cs : List Value} {e : Ev} (h : EvOwn w lo cs e) : EvCs w S cs e := by
  obtain ⟨vn, vi, icss, e1, h1, h2, h3, h4⟩ := h
  obtain ⟨A, c, rfl, r⟩ := own_row (S := S) h1 hS
  obtain ⟨B, d, rfl, r2⟩ := own_row (S := S) h2 hS
  exact ⟨_, _, e1, ⟨_, _, _, rfl, r⟩, ElemsOf.of_row rfl h3.1 h3.len r2 (fun i cs x hi hx => (h3.2 i cs x hi hx).itm (h4 x (List.mem_of_getElem? hx)).1 (h4 x (List.mem_of_getElem? hx)).2)⟩
theorem EvsOf.ownO {w : World} {S : Nat → Prop} {base : Nat} (hS : ∀ b, base ≤ b → ¬ S b) {v : Value} {css : List (List Value)} {l : List Ev} (h : w.ownsRow base 78 6 v l.length css.flatten) (h2 : All2 (EvCs w S) css l) : EvsOf w S v l := by
  obtain ⟨A, c, rfl, hr⟩ := own_row (S := S) h hS
  obtain ⟨g1, g2⟩ := h2.get
  refine ElemsOf.of_row rfl g1 (fun x hx => ?_) hr g2
  obtain ⟨i, hi, rfl⟩ := List.mem_iff_getElem.1 hx
  exact EvCs.len (g2 i _ _ (List.getElem?_eq_getElem hi) (List.getElem?_eq_getElem (by rw [← g1]; exact hi)))

/-- A variable of n cells of type t. -/
def VarT (w : World) (b : Nat) (t : TypeId) (n : Nat) : Prop := ∃ cs : Array Value, cs.size = n ∧ Blk w b t cs
theorem VarT.keep {w w' : World} {S : Nat → Prop} {b : Nat} {t : TypeId} {n : Nat} (h : VarT w b t n) (k : Keep S w w') (hb : ¬ S b) : VarT w' b t n := by
  obtain ⟨cs, h1, h2⟩ := h
  exact ⟨cs, h1, h2.keep k hb⟩
/-- The facts of 'a, b := x, y': operations k1 and k2 make the variables, k3 stores into the first. -/
def pvR (n0 : Nat) (t : TypeId) (n k3 : Nat) (i : Nat) (a b : World) : Prop := if i = k3 then ∃ bk, n0 ≤ bk ∧ VarT a bk t n ∧ VarT b bk t n ∧ Keep (one bk) a b else Keep none_ a b
def pvCalm (wr : World) (t : TypeId) (n k1 k2 k3 : Nat) : Calm where
  R := pvR wr.heap.size t n k3
  G := fun _ => Keep none_ wr
  eff := [k1, k2, k3]
  T := fun k vs v w' => if k = k3 then ∃ b xs, vs.getD 0 undef = .pointer (some ⟨b, 0, none⟩) ∧ vs.getD 1 undef = .agg xs ∧ Blk w' b t xs else ∃ b, wr.heap.size ≤ b ∧ v = .pointer (some ⟨b, 0, none⟩) ∧ VarT w' b t n
  anc := fun k => if k = k3 then [k1] else []
  own := fun k v b => k ≠ k3 ∧ ownBlk v b
theorem pvCalm_good (wr : World) (t : TypeId) (n k1 k2 k3 : Nat) : (pvCalm wr t n k1 k2 k3).Good where
  mono := fun _ _ h => h
  size := fun i _ _ h => by
    simp only [pvCalm, pvR] at h
    split at h
    · obtain ⟨_, _, _, _, h⟩ := h; exact h.size
    · exact h.size
  stable := fun i k _ _ w1 w2 he hne h hR => by
    simp only [pvCalm, pvR] at h hR ⊢
    by_cases e : k = k3
    · rw [if_pos e] at h ⊢
      rw [if_neg (fun e' => hne (e'.trans e.symm))] at hR
      obtain ⟨b, xs, h1, h2, h3⟩ := h
      exact ⟨b, xs, h1, h2, h3.keep hR (fun e => e)⟩
    · rw [if_neg e] at h ⊢
      obtain ⟨b, h1, h2, h3⟩ := h
      refine ⟨b, h1, h2, ?_⟩
      split at hR
      · obtain ⟨bk, g1, g2, g3, g4⟩ := hR
        by_cases eb : b = bk
        · rw [eb]; exact g3
        · exact h3.keep g4 eb
      · exact h3.keep hR (fun e => e)
theorem pvCalm_at {wr : World} {t : TypeId} {n k1 k2 k3 : Nat} (x : (pvCalm wr t n k1 k2 k3).Sub) : Keep none_ wr ((pvCalm wr t n k1 k2 k3).at_ x) := by
  obtain ⟨x, n, _, h⟩ := x
  exact h
theorem pvCalm_some (wr : World) (t : TypeId) (n k1 k2 k3 : Nat) : Nonempty (pvCalm wr t n k1 k2 k3).Sub := ⟨⟨wr, 0, Nat.zero_le _, Keep.refl _ _⟩⟩
theorem zero_job (w : World) : (zeroValue 57).run Tryz.prog w = .ok (.agg #[.string ⟨#[]⟩, .slice none 0 0, .string ⟨#[]⟩, .int .i64 0, .int .i64 0, .bool false, .slice none 0 0]) w := by kernel_rfl

set_option maxRecDepth 100000 in
set_option maxHeartbeats 4000000 in
theorem done_any (A : Option Addr) (n c : Nat) (zs : List Int) (w : World) (hr : Row w none_ 1 A n c (zs.map (Value.int .i64))) (hz : I64s zs) :
    Calls Tryz.prog 5 #[.slice A n c] w fun e w' => e = .returned (.bool true) ∧ Keep none_ w w' := by
  have ht : TapeAt (w.alloc (.cells #[.slice A n c, .int .i64 0] 29)) w.heap.size 0 := ⟨A, n, c, 0, zs, Blk.new _ _ _, Nat.le_refl _, ((hr.fresh (S := ge w.heap.size) (fun k e => e) (by decide)).keep ((Keep.refl _ _).alloc _)), hz⟩
  have k0 : Keep none_ w (w.alloc (.cells #[.slice A n c, .int .i64 0] 29)) := (Keep.refl _ _).alloc _
  have ze := zero_event
  have zs := zero_state
  obtain ⟨W0, hW0⟩ : ∃ W0, W0 = w.alloc (.cells #[.slice A n c, .int .i64 0] 29) := ⟨_, rfl⟩
  rw [← hW0] at ht k0
  have lT : w.heap.size < W0.heap.size := ht.lt
  obtain ⟨bs, hbs⟩ : ∃ bs, bs = w.heap.size + 1 := ⟨_, rfl⟩
  have hbs0 : bs = W0.heap.size := by rw [hbs, hW0, World.size_alloc]
  obtain ⟨W1, hW1⟩ : ∃ W1, W1 = W0.alloc (.cells #[.int .i64 0, .slice none 0 0, .slice none 0 0, .slice none 0 0] 48) := ⟨_, rfl⟩
  have k1 : Keep none_ W0 W1 := hW1 ▸ (Keep.refl none_ W0).alloc _
  have b1 : Blk W1 bs 48 #[.int .i64 0, .slice none 0 0, .slice none 0 0, .slice none 0 0] := hW1 ▸ hbs0 ▸ Blk.new _ _ _
  have EV := Lib.hid (events_any w.heap.size 0 30 W1 (TapeAt.far ht k1 (fun b e => e.elim)) (by decide) (by decide))
  have K0 := Lib.hid (k0.trans k1)
  have B1 := Lib.hid b1
  have l1 := b1.lt
  have wb : w.heap.size < bs := by omega
  clear hbs0
  clear hr hz ht k0 k1 b1
  go_enter Tryz.func5, Tryz.ntmps5
  go_upto_region 3 with (fail)
  rw [← hW0, ← hbs, ← hW1]
  clear hW0 hbs hW1 lT
  have t1 : True := trivial
  go_upto_region 4 with (have _t := t1; go_at_call 16; refine EV.out.mono ?_; rintro e w1 ⟨vl, l, css, rfl, ho, hE, hl, hg, -, k1⟩; have hSS : ∀ b, W1.heap.size ≤ b → ¬ one bs b := (fun b h1 h2 => by unfold one at h2; omega); obtain ⟨LA, lc, rfl, -⟩ := own_row (S := none_) ho (fun _ _ e => e); have EO := Lib.hid (EvsOf.ownO hSS ho (hE.imp (fun _ _ h => h.csO hSS))); have K1 := Lib.hid (K0.out.own k1 (Nat.le_refl _)); have BS := Lib.hid (B1.out.keep k1 (fun e => by unfold one at e; omega)); have HG := Lib.hid hg; clear ho hE k1 hg hSS _t t1)
  clear EV K0 B1 l1
  have hlen : l.length ≤ 30 := hl
  clear hl
  go_loopw [20] (fun i wr => ∃ (k : Nat) (s : St) (P1 : Option Addr) (P2 P3 : Nat) (P4 : Option Addr) (P5 P6 : Nat) (P7 : Option Addr) (P8 P9 : Nat), k ≤ l.length ∧ i = .int .i64 k ∧ V s ∧ ItsOk s ∧ EndS s ∧ Blk wr bs 48 #[.int .i64 s.now, .slice P1 P2 P3, .slice P4 P5 P6, .slice P7 P8 P9] ∧ StateOf wr (one bs) (.agg #[.int .i64 s.now, .slice P1 P2 P3, .slice P4 P5 P6, .slice P7 P8 P9]) s ∧ EvsOf wr (one bs) (.slice LA l.length lc) l ∧ Keep none_ w wr) (fun i _ => l.length - (intOf i).toNat)
  case atStart => exact ⟨0, zeroSt, _, _, _, _, _, _, _, _, _, Nat.zero_le _, rfl, V.zero, ItsOk.zero, (fun _ h => by cases h), BS.out, zeroSt_of _ _, EO.out, K1.out⟩
  case round =>
    clear BS EO K1
    obtain ⟨k, s, P1, P2, P3, P4, P5, P6, P7, P8, P9, hk, rfl, hv, hi, hen, hB, hS, hE, hkr⟩ := hrel
    have HV := Lib.hid hv
    have HI := Lib.hid hi
    have HN := Lib.hid hen
    have HB := Lib.hid hB
    have HS := Lib.hid hS
    have HE := Lib.hid hE
    have HK := Lib.hid hkr
    have lbs := hB.lt
    have lw := hkr.size
    by_cases hlt : k < l.length
    · have hlt' : (k : Int) < l.length := by omega
      obtain ⟨be, oe, rfl, hbe, hkl2, cs, hcl, hrg, vn, vi, hcs, hns, his⟩ := hE.elem k hlt
      have hgk := HG.out l[k] (List.getElem_mem hlt)
      generalize l[k] = e at hcs hns his hgk
      subst hcs
      obtain ⟨An, nn, cn, rfl, hns'⟩ := hns
      obtain ⟨Ai, ni, ci, rfl, his'⟩ : ∃ Ai ni ci, vi = .slice Ai ni ci ∧ ItemsOf wr (one bs) vi e.items := by obtain ⟨A, n, c, e, h⟩ := (id his : ItemsOf wr (one bs) vi e.items); exact ⟨A, n, c, e, his⟩
      have HNS := Lib.hid (show StrsOf wr (one bs) (.slice An nn cn) e.needs from ⟨_, _, _, rfl, hns'⟩)
      have HIS := Lib.hid his'
      have HRG := Lib.hid hrg
      have HGK := Lib.hid hgk
      clear hv hi hen hB hS hE hkr hrg hns' his his' hgk hcl
      have t1 : True := trivial
      have t2 : True := trivial
      go_upto_region 6 with (first | (have _t := t1; refine wpList_load_part 78 (.tmp 22) rfl rfl be (oe + k * 6) (by first | rfl | simp) #[.int .i64 e.kind, .string e.name, .string e.worker, .slice An nn cn, .int .i64 e.ticks, .slice Ai ni ci] _ HRG.out Tryz.underlying78 rfl (by kernel_rfl) ?_; go_frame; clear _t t1) | (have _t := t2; refine wpList_store_blk rfl 78 (.tmp 6) (.tmp 23) rfl wr.heap.size 78 _ _ rfl rfl (Blk.new _ _ _) rfl (by kernel_rfl) (by simp [Value.oneCell']) ?_; intro w5 b5 k5 s5; go_frame; clear _t t2))
      have kr5 : Keep none_ wr w5 := ((Keep.refl none_ wr).alloc _).own k5 (Nat.le_refl _)
      have B5 := Lib.hid b5
      have KR5 := Lib.hid kr5
      have HB5 := Lib.hid (HB.out.keep kr5 (fun e => e))
      have HS5 := Lib.hid (HS.out.keep kr5.weak)
      have HNS5 := Lib.hid (HNS.out.keep kr5.weak)
      have HIS5 := Lib.hid (HIS.out.keep kr5.weak)
      have l5 := kr5.size
      have lb5 := b5.lt
      clear k5 s5 b5 kr5 HNS HIS HRG
      have ST := Lib.hid (step_new s e (.agg #[.int .i64 s.now, .slice P1 P2 P3, .slice P4 P5 P6, .slice P7 P8 P9]) (.agg #[.int .i64 e.kind, .string e.name, .string e.worker, .slice An nn cn, .int .i64 e.ticks, .slice Ai ni ci]) (one bs) (one bs) w5 HS5.out ⟨_, _, rfl, HNS5.out, HIS5.out⟩ HI.out HGK.out.items)
      have t5 : True := trivial
      have t6 : True := trivial
      have t7 : True := trivial
      have t8 : True := trivial
      go_upto_region 7 with (first | (have _t := t5; refine wpList_load_part 48 (.tmp 4) rfl rfl bs 0 rfl #[.int .i64 s.now, .slice P1 P2 P3, .slice P4 P5 P6, .slice P7 P8 P9] _ HB5.out.rangeAt Tryz.underlying48 rfl (by kernel_rfl) ?_; go_frame; clear _t t5) | (have _t := t6; refine wpList_load_part 78 (.tmp 6) rfl rfl wr.heap.size 0 rfl #[.int .i64 e.kind, .string e.name, .string e.worker, .slice An nn cn, .int .i64 e.ticks, .slice Ai ni ci] _ B5.out.rangeAt Tryz.underlying78 rfl (by kernel_rfl) ?_; go_frame; clear _t t6) | (have _t := t7; go_at_call 22; refine ST.out.mono ?_; rintro en w7 ⟨v7, vo7, rfl, h7, o7, k7⟩; obtain ⟨O7a, O7c, rfl, -⟩ := o7; obtain ⟨Q1, Q2, Q3, Q4, Q5, Q6, Q7, Q8, Q9, rfl⟩ := h7.parts; have H7 := Lib.hid (h7.sub (S' := one bs) (fun x e => by unfold one at e; unfold bel; omega)); have K7 := Lib.hid k7; clear h7 k7 _t t7) | (have _t := t8; refine wpList_store_blk rfl 48 (.tmp 7) (.tmp 28) rfl w7.heap.size 48 _ _ rfl rfl (Blk.new _ _ _) rfl (by kernel_rfl) (by simp [Value.oneCell']) ?_; intro w8 b8 k8 s8; go_frame; clear _t t8))
      have k78 : Keep none_ w7 w8 := ((Keep.refl none_ w7).alloc _).own k8 (Nat.le_refl _)
      have kr8 : Keep none_ wr w8 := (KR5.out.trans K7.out).trans k78
      have HB8 := Lib.hid (HB.out.keep kr8 (fun e => e))
      have HS8 := Lib.hid (HS.out.keep kr8.weak)
      have HE8 := Lib.hid (HE.out.keep kr8.weak)
      have KR8 := Lib.hid (HK.out.trans kr8)
      have H8 := Lib.hid (H7.out.keep k78.weak)
      have B8 := Lib.hid b8
      have E8 := Lib.hid (B5.out.keep (K7.out.trans k78) (fun e => e))
      have HIS8 := Lib.hid (HIS5.out.keep (K7.out.trans k78).weak)
      have l8 := kr8.size
      have lw7 := b8.lt
      clear b8 k8 s8 k78 kr8 HB HS HE HK HB5 HS5 B5 KR5 K7 H7 HNS5 HIS5 ST l5
      by_cases h0 : stepE s e = 0
      · have HVt := Lib.hid (step_V HV.out h0)
        have HIt := Lib.hid (HI.out.step HGK.out.items (s := s))
        have HNt := Lib.hid (step_End HV.out h0 HN.out HGK.out.ends)
        obtain ⟨hdl, hdr, -⟩ := step_DR HV.out h0
        have HDR := Lib.hid hdr
        rw [h0]
        obtain ⟨t, ht⟩ : ∃ t, stepS s e = t := ⟨_, rfl⟩
        rw [ht] at H8 B8 HVt HIt HNt HDR hdl ⊢
        clear ht h0 hdr
        have JS := Lib.hid HS8.out.jobsIn
        have JT := Lib.hid H8.out.jobsIn
        obtain ⟨hp5, hp6, hp7⟩ := JS.out.facts
        obtain ⟨hq5, hq6, hq7⟩ := JT.out.facts
        unfold maxLen at hp7 hq7
        have y1 : w8.cell? ⟨bs, 2, none⟩ = some (.slice P4 P5 P6) := HB8.out.cell 2
        have y2 : w8.cell? ⟨w7.heap.size, 2, none⟩ = some (.slice Q4 Q5 Q6) := B8.out.cell 2
        have hpq : ¬ (Q5 : Int) < P5 := by omega
        have hpq2 : decide (Q5 < P5) = false := decide_eq_false (by omega)
        go_upto_region 11 with (fail)
        clear y1 y2
        go_loopw [43] (fun i wz => ∃ m : Nat, m ≤ P5 ∧ i = .int .i64 m ∧ Keep none_ w8 wz) (fun i _ => P5 - (intOf i).toNat)
        case atStart => exact ⟨0, Nat.zero_le _, rfl, Keep.refl _ _⟩
        case round =>
          obtain ⟨m, hm, rfl, hkz⟩ := hrel
          have HKZ := Lib.hid hkz
          clear hkz
          by_cases hlt : m < P5
          · have hlt' : (m : Int) < P5 := by omega
            obtain ⟨ba, oa, rfl, -, hkl, csa, hcl, hrg, vna, via, hcsa, hnsa, hisa⟩ := ElemsOf.elem (JS.out.keep HKZ.out.weak) m hlt
            obtain ⟨bb, ob, rfl, -, hkl', csb, hcl', hrg', vnb, vib, hcsb, hnsb, hisb⟩ := ElemsOf.elem (JT.out.keep HKZ.out.weak) m (show m < Q5 by omega)
            obtain ⟨j1, j2, j3⟩ := HDR.out m _ _ (List.getElem?_eq_getElem hkl) (List.getElem?_eq_getElem hkl')
            have na := HN.out _ (List.getElem_mem hkl)
            generalize s.jobs[m] = ja at hcsa hnsa hisa j1 j2 j3 na
            generalize t.jobs[m] = jb at hcsb hnsb hisb j1 j2 j3
            subst hcsa hcsb
            obtain ⟨Ana, nna, cna, rfl, -⟩ := hnsa
            obtain ⟨Anb, nnb, cnb, rfl, -⟩ := hnsb
            obtain ⟨Aia, nia, cia, rfl, hisa'⟩ : ∃ Ai ni ci, via = .slice Ai ni ci ∧ ItemsOf wr (one bs) via ja.items := by obtain ⟨A, n, c, e, h⟩ := (id hisa : ItemsOf wr (one bs) via ja.items); exact ⟨A, n, c, e, hisa⟩
            obtain ⟨Aib, nib, cib, rfl, hisb'⟩ : ∃ Ai ni ci, vib = .slice Ai ni ci ∧ ItemsOf wr (one bs) vib jb.items := by obtain ⟨A, n, c, e, h⟩ := (id hisb : ItemsOf wr (one bs) vib jb.items); exact ⟨A, n, c, e, hisb⟩
            have HA := Lib.hid hisa'
            have HBi := Lib.hid hisb'
            have RA := Lib.hid hrg
            have RB := Lib.hid hrg'
            have J2 := Lib.hid j2
            have J3 := Lib.hid j3
            have NA := Lib.hid na
            have hltq : (m : Int) < Q5 := by omega
            have y1 : wr.cell? ⟨bs, 2, none⟩ = some (.slice (some ⟨ba, oa, none⟩) P5 P6) := (HB8.out.keep HKZ.out (fun e => e)).cell 2
            have y2 : wr.cell? ⟨w7.heap.size, 2, none⟩ = some (.slice (some ⟨bb, ob, none⟩) Q5 Q6) := (B8.out.keep HKZ.out (fun e => e)).cell 2
            have EZ := Lib.hid (E8.out.keep HKZ.out (fun e => e))
            have HIZ := Lib.hid (HIS8.out.keep HKZ.out.weak)
            clear hcl hcl' hrg hrg' hisa hisb hisa' hisb' j2 j3 na
            have zj := zero_job
            go_upto_region 13 with (fail)
            have gd := pvCalm_good wr 57 7 10 11 12
            have ne := pvCalm_some wr 57 7 10 11 12
            have x1 := fun y => (pvCalm_at (wr := wr) (t := 57) (n := 7) (k1 := 10) (k2 := 11) (k3 := 12) y).cell y1 (fun e => e)
            have x2 := fun y => (pvCalm_at (wr := wr) (t := 57) (n := 7) (k1 := 10) (k2 := 11) (k3 := 12) y).cell y2 (fun e => e)
            have x3 := Lib.hid (fun y => rangeAt_keep RA.out (pvCalm_at (wr := wr) (t := 57) (n := 7) (k1 := 10) (k2 := 11) (k3 := 12) y) (fun e => e))
            have x4 := Lib.hid (fun y => rangeAt_keep RB.out (pvCalm_at (wr := wr) (t := 57) (n := 7) (k1 := 10) (k2 := 11) (k3 := 12) y) (fun e => e))
            clear y1 y2
            refine wp_region_calm (pvCalm wr 57 7 10 11 12) [0, 1, 2, 3, 4, 5, 6, 7, 8, 9, 10, 11, 12] [13] 118 (by kernel_rfl) (by kernel_rfl) rfl gd (Keep.refl _ _).drew ?_
            simp only [pairs, List.filterMap_cons, List.filterMap_nil, List.getElem?_toArray, List.getElem?_cons_succ, List.getElem?_cons_zero, Option.map_some]
            repeat (refine Calm.walk_quiet ne rfl rfl rfl (fun K hK => ?_); go_big_quiet_op; refine hK _ ?_; clear hK K)
            refine Calm.walk_load 57 (.tmp 49) rfl ne rfl rfl ba (oa + m * 7) (by first | rfl | simp) #[.string ja.name, .slice Ana nna cna, .string ja.worker, .int .i64 ja.until_, .int .i64 ja.tries, .bool ja.done, .slice Aia nia cia] _ x3.out Tryz.underlying57 rfl (by kernel_rfl) ?_
            go_frame
            repeat (refine Calm.walk_quiet ne rfl rfl rfl (fun K hK => ?_); go_big_quiet_op; refine hK _ ?_; clear hK K)
            refine Calm.walk_load 57 (.tmp 54) rfl ne rfl rfl bb (ob + m * 7) (by first | rfl | simp) #[.string jb.name, .slice Anb nnb cnb, .string jb.worker, .int .i64 jb.until_, .int .i64 jb.tries, .bool jb.done, .slice Aib nib cib] _ x4.out Tryz.underlying57 rfl (by kernel_rfl) ?_
            go_frame
            refine Calm.walk_eff rfl rfl (fun n wy hn hG _ => ?_) ?_
            · have hG' : Keep none_ wr wy := hG
              unfold gives
              go_simp
              exact ⟨⟨wy.heap.size, hG'.size, rfl, _, rfl, Blk.new _ _ _⟩, (Keep.refl _ _).alloc _, hG'.alloc _, fun b h => ⟨Nat.le_of_eq (show b = _ from h.2).symm, by rw [show b = wy.heap.size from h.2]; simp⟩⟩
            intro vq wy hT
            obtain ⟨b1, hb1, rfl, -⟩ : ∃ b, wr.heap.size ≤ b ∧ vq = .pointer (some ⟨b, 0, none⟩) ∧ VarT wy b 57 7 := hT
            clear wy
            go_frame
            refine Calm.walk_eff rfl rfl (fun n wy hn hG _ => ?_) ?_
            · have hG' : Keep none_ wr wy := hG
              unfold gives
              go_simp
              exact ⟨⟨wy.heap.size, hG'.size, rfl, _, rfl, Blk.new _ _ _⟩, (Keep.refl _ _).alloc _, hG'.alloc _, fun b h => ⟨Nat.le_of_eq (show b = _ from h.2).symm, by rw [show b = wy.heap.size from h.2]; simp⟩⟩
            intro vq wy hT
            obtain ⟨b2, hb2, rfl, -⟩ : ∃ b, wr.heap.size ≤ b ∧ vq = .pointer (some ⟨b, 0, none⟩) ∧ VarT wy b 57 7 := hT
            clear wy
            go_frame
            refine Calm.walk_eff rfl rfl (fun n wy hn hG hAF => ?_) ?_
            · have hG' : Keep none_ wr wy := hG
              obtain ⟨b1', g1, g2, csv, g3, g4⟩ : ∃ b, wr.heap.size ≤ b ∧ Value.pointer (some ⟨b1, 0, none⟩) = .pointer (some ⟨b, 0, none⟩) ∧ VarT wy b 57 7 := (hAF 10 List.mem_cons_self _ rfl ⟨rfl, rfl⟩).1
              obtain rfl : b1 = b1' := by simpa using g2
              refine gives_store_blk 57 (.tmp 11) (.tmp 50) rfl b1 57 _ #[.string ja.name, .slice Ana nna cna, .string ja.worker, .int .i64 ja.until_, .int .i64 ja.tries, .bool ja.done, .slice Aia nia cia] rfl rfl g4 g3 (by kernel_rfl) (by simp [Value.oneCell']) (fun wz bz kz => ?_)
              exact ⟨⟨b1, _, rfl, rfl, bz⟩, ⟨b1, g1, ⟨csv, g3, g4⟩, ⟨_, rfl, bz⟩, kz⟩, hG'.own kz g1, fun _ h => (h.1 rfl).elim⟩
            rintro vq wy -
            clear wy
            go_frame
            repeat (refine Calm.walk_quiet ne rfl rfl rfl (fun K hK => ?_); go_big_quiet_op; refine hK _ ?_; clear hK K)
            intro w9 hG hD
            have k9 : Keep none_ wr w9 := hG
            obtain ⟨b1', xs', e1, e2, ba9⟩ : ∃ b xs, Value.pointer (some ⟨b1, 0, none⟩) = .pointer (some ⟨b, 0, none⟩) ∧ Value.agg #[.string ja.name, .slice Ana nna cna, .string ja.worker, .int .i64 ja.until_, .int .i64 ja.tries, .bool ja.done, .slice Aia nia cia] = .agg xs ∧ Blk w9 b 57 xs := (hD.1 12 rfl _ rfl ⟨rfl, rfl⟩).1
            obtain rfl : b1 = b1' := by simpa using e1
            injection e2 with e2
            subst e2
            obtain ⟨b2', -, e3, csv, g3, bb9⟩ : ∃ b, wr.heap.size ≤ b ∧ Value.pointer (some ⟨b2, 0, none⟩) = .pointer (some ⟨b, 0, none⟩) ∧ VarT w9 b 57 7 := (hD.1 11 rfl _ rfl ⟨rfl, rfl⟩).1
            obtain rfl : b2 = b2' := by simpa using e3
            have d12 : b1 ≠ b2 := fun e => hD.2 10 11 rfl rfl (by decide) _ _ rfl rfl ⟨rfl, rfl⟩ ⟨rfl, rfl⟩ b1 ⟨by decide, rfl⟩ ⟨by decide, e⟩
            clear hG hD gd ne x1 x2 x3 x4 e1 e3
            simp only [pickOps, List.filterMap_cons, List.filterMap_nil, List.getElem?_toArray, List.getElem?_cons_succ, List.getElem?_cons_zero]
            have B1 := Lib.hid ba9
            have B2 := Lib.hid bb9
            have G3 := Lib.hid g3
            have K9 := Lib.hid k9
            clear ba9 bb9 g3 k9
            have t9 : True := trivial
            go_upto_region 14 with (have _t := t9; refine wpList_store_blk rfl 57 (.tmp 12) (.tmp 55) rfl b2 57 _ _ rfl rfl B2.out G3.out (by kernel_rfl) (by simp [Value.oneCell']) ?_; intro w10 b10 k10 s10; go_frame; clear _t t9)
            have K10 := Lib.hid (K9.out.own k10 hb2)
            have y1 := B1.out.keep k10 d12
            have y2 := b10
            clear k10 s10 b10 B1 B2 G3 K9
            have p0 := y1.cell 0
            have p5 := y1.cell 5
            have p6 := y1.cell 6
            have p2 := y1.cell 2
            have q0 := y2.cell 0
            have q5 := y2.cell 5
            have q6 := y2.cell 6
            have e0 := (EZ.out.keep K10.out (fun e => e)).cell 0
            have e1 := (EZ.out.keep K10.out (fun e => e)).cell 1
            have e2 := (EZ.out.keep K10.out (fun e => e)).cell 2
            have e5 := (EZ.out.keep K10.out (fun e => e)).cell 5
            simp only [List.getElem?_toArray, List.getElem?_cons_zero, List.getElem?_cons_succ] at p0 p5 p6 p2 q0 q5 q6 e0 e1 e2 e5
            rw [← j1] at q0
            have HA10 := Lib.hid (HA.out.keep K10.out.weak)
            have HB10 := Lib.hid (HBi.out.keep K10.out.weak)
            have HE10 := Lib.hid (HIZ.out.keep K10.out.weak)
            have hnm : (ja.name.toList == ja.name.toList) = true := by simp
            clear y1 y2 HA HBi HIZ EZ
            cases hda : ja.done with
            | true =>
              obtain ⟨r1, r2⟩ := J2.out hda
              rw [hda] at p5
              rw [r1] at q5
              rw [r2] at HB10
              have SM := Lib.hid (sameItems_any ja.items (fun x hx => sameItem_end x (NA.out x hx)) _ _ _ _ w10 HA10.out HB10.out)
              clear hda r1 r2 J2 J3
              have t11 : True := trivial
              go_wp2_with (have _t := t11; go_at_call 23; refine SM.out.mono ?_; rintro en w11 ⟨rfl, k11⟩; have p5' := k11.cell p5 (fun e => e); have K11 := Lib.hid (K10.out.trans k11); clear k11 _t t11)
              go_roundw
              case rel => exact ⟨m + 1, by omega, by go_num, HKZ.out.trans K11.out⟩
              case measure => simp [intOf]; omega
            | false =>
              cases hdb : jb.done with
              | false =>
                rw [hda] at p5
                rw [hdb] at q5
                clear hda hdb J2 J3
                go_wp2
                go_roundw
                case rel => exact ⟨m + 1, by omega, by go_num, HKZ.out.trans K10.out⟩
                case measure => simp [intOf]; omega
              | true =>
                obtain ⟨r1, r2, r3, r4⟩ := J3.out hda hdb
                rw [hda] at p5
                rw [hdb] at q5
                rw [r1] at e0
                rw [r2] at e1
                rw [r3] at e2
                rw [r4] at HB10
                have hwm : (ja.worker.toList == ja.worker.toList) = true := by simp
                have SM := Lib.hid (sameItems_any e.items (fun x hx => sameItem_end x (HGK.out.ends x hx)) _ _ _ _ w10 HB10.out HE10.out)
                clear hda hdb r1 r2 r3 r4 J2 J3
                have t11 : True := trivial
                go_wp2_with (have _t := t11; go_at_call 23; refine SM.out.mono ?_; rintro en w11 ⟨rfl, k11⟩; have K11 := Lib.hid (K10.out.trans k11); clear k11 _t t11)
                go_roundw
                case rel => exact ⟨m + 1, by omega, by go_num, HKZ.out.trans K11.out⟩
                case measure => simp [intOf]; omega
          · obtain rfl : m = P5 := by omega
            have HBZ := Lib.hid (HB8.out.keep HKZ.out (fun e => e))
            have BZ := Lib.hid (B8.out.keep HKZ.out (fun e => e))
            have t9 : True := trivial
            have t10 : True := trivial
            go_wp2_with (first | (have _t := t9; refine wpList_load_part 48 (.tmp 7) rfl rfl w7.heap.size 0 rfl #[.int .i64 t.now, .slice Q1 Q2 Q3, .slice Q4 Q5 Q6, .slice Q7 Q8 Q9] _ BZ.out.rangeAt Tryz.underlying48 rfl (by kernel_rfl) ?_; go_frame; clear _t t9) | (have _t := t10; refine wpList_store_blk rfl 48 (.tmp 4) (.tmp 115) rfl bs 48 _ _ rfl rfl HBZ.out rfl (by kernel_rfl) (by simp [Value.oneCell']) ?_; intro w10 b10 k10 s10; have B10 := Lib.hid b10; have K10 := Lib.hid k10; clear b10 k10 s10; go_frame; clear _t t10))
            go_roundw
            case rel => exact ⟨k + 1, t, Q1, Q2, Q3, Q4, Q5, Q6, Q7, Q8, Q9, by omega, by go_num, HVt.out, HIt.out, HNt.out, B10.out, (H8.out.keep HKZ.out.weak).keep K10.out, (HE8.out.keep HKZ.out.weak).keep K10.out, (KR8.out.trans HKZ.out).own K10.out (Nat.le_of_lt wb)⟩
            case measure => simp [intOf]; omega
      · have h0' : (stepE s e != 0) = true := by simpa using h0
        go_wp2
        go_roundw
        case rel => exact ⟨k + 1, s, P1, P2, P3, P4, P5, P6, P7, P8, P9, hlt, by go_num, HV.out, HI.out, HN.out, HB8.out, HS8.out, HE8.out, KR8.out⟩
        case measure => simp [intOf]; omega
    · obtain rfl : k = l.length := by omega
      have AW := Lib.hid awake_any
      clear hv hi hen hB hS hE hkr hlt HG
      go_wp2_with (go_at_call 14; refine (AW.out _).mono ?_; rintro e w15 ⟨rfl, k15⟩; have K15 := Lib.hid (HK.out.trans k15); clear k15)
      go_ret
      exact ⟨by rfl, K15.out⟩
end Go.Proofs.YtnefbeplgfdkkaaGreatDoor
