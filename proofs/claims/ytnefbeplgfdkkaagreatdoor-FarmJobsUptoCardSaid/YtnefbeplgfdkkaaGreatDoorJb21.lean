/-
  (*State).poll.
-/
import Derived.Test.YtnefbeplgfdkkaaGreatDoorJb20
namespace Go.Proofs.YtnefbeplgfdkkaaGreatDoor
open Go.RowKit Go.Shelf

attribute [local go_sem] Oper.semAt_some

theorem ready_stops (n bs : Nat) (S : Nat → Prop) (s : St) (vp vj vw : Value) (w : World) (hb : Blk w bs 48 #[.int .i64 s.now, vp, vj, vw]) (hbs : ¬ S bs) (hp : StrsOf w S vp s.present) (hj : JobsOf w S vj s.jobs) (ha : Asc s.present) (h64 : s.present.length ≤ 64) (hl64 : s.jobs.length ≤ 64) :
    SeqStopsK Fence.wide n Tryz.prog 69 #[.pointer (some ⟨bs, 0, none⟩)] (encRd s) (Keep S) (fun xs => xs.map Subtype.val = readyL s) (fun pre => pre.map Subtype.val <+: readyL s) s.jobs.length w :=
  fun l J Jx W hW hJ _ hY h0 => by
    have k := Keep.of_below hW
    exact ready1_in n l bs S s vp vj vw J Jx W (hb.keep k (fun e => e)) hbs (hp.keep k.weak) (hj.keep k.weak) ha h64 hl64 hJ hY h0

/-! What speaks of cells alone. -/
def Odd (S : Nat → Prop) (w : World) : Prop := ∀ r, S r → ∃ o : Obj, w.heap[r]? = some o ∧ o.isCells = false
theorem Odd.blk {S : Nat → Prop} {w : World} {b : Nat} {t : TypeId} {cs : Array Value} (h : Odd S w) (hb : Blk w b t cs) : ¬ S b := fun e => by
  obtain ⟨o, ho, hc⟩ := h b e
  have hb' : w.heap[b]? = _ := hb
  rw [hb'] at ho
  cases ho
  cases hc
theorem Odd.own {S : Nat → Prop} {w : World} {base : Nat} {e : TypeId} {size : Nat} {v : Value} {n : Nat} {xs : List Value} (h : Odd S w) (ho : w.ownsRow base e size v n xs) : ∀ b, v.ownBlock = some b → ¬ S b := fun b hb => by
  rcases ho.2 with ⟨rfl, -⟩ | ⟨g, cap, cur, rfl, -, e3, -⟩
  · cases hb
  · simp only [Value.ownBlock, Option.some.injEq] at hb
    subst hb
    exact h.blk (b := g) e3
theorem Odd.aft {S : Nat → Prop} {w w' : World} {base : Bs} {g : Nat} {vp vj vw : Value} {s : St} (h : Odd S w) (k : Keep S w w') (hS : ∀ r, S r → base ≤ r) (a : Aft w base g vp vj vw s) : Aft w' base g vp vj vw s := by
  obtain ⟨css, j1, j2, j3, j4⟩ := a.jobs
  exact a.far k (h.blk a.blk) hS (h.own a.strs) (h.own j3) (h.own a.wks)
structure Boxes (w : World) (b g : Nat) (x : ByteArray) (r0 r1 : Value) : Prop where
  p2 : Blk w b 123 #[.pointer (some ⟨g, 0, none⟩)]
  p3 : Blk w (b + 1) 9 #[.string x]
  p4 : Blk w (b + 1 + 1) 49 #[r0]
  p5 : Blk w (b + 1 + 1 + 1) 37 #[r1]
theorem Boxes.keep {w w' : World} {b g : Nat} {x : ByteArray} {r0 r1 : Value} (h : Boxes w b g x r0 r1) (k : Keep none_ w w') : Boxes w' b g x r0 r1 := ⟨h.p2.keep k (fun e => e), h.p3.keep k (fun e => e), h.p4.keep k (fun e => e), h.p5.keep k (fun e => e)⟩
theorem Boxes.odd {S : Nat → Prop} {w w' : World} {b g : Nat} {x : ByteArray} {r0 r1 : Value} (h : Boxes w b g x r0 r1) (o : Odd S w) (k : Keep S w w') : Boxes w' b g x r0 r1 := ⟨h.p2.keep k (o.blk h.p2), h.p3.keep k (o.blk h.p3), h.p4.keep k (o.blk h.p4), h.p5.keep k (o.blk h.p5)⟩

theorem Aft.setBox {w : World} {base : Bs} {g : Nat} {vp vj vw : Value} {s : St} (a : Aft w base g vp vj vw s) {b : Nat} {t : TypeId} {cs : Array Value} (hb : Blk w b t cs) (h1 : t ≠ 48) (h2 : t ≠ 9) (h3 : t ≠ 57) (h4 : t ≠ 107) (hbase : base ≤ b) (u : Value) : Aft (w.setCell ⟨b, 0, none⟩ u) base g vp vj vw s ∧ Keep (ge base) w (w.setCell ⟨b, 0, none⟩ u) := by
  obtain ⟨css, j1, j2, j3, j4⟩ := a.jobs
  have k : Keep (one b) w (w.setCell ⟨b, 0, none⟩ u) := (Keep.refl (one b) w).setCell (p := ⟨b, 0, none⟩) (.inl rfl) u
  exact ⟨a.far k (fun e => a.blk.ne_ hb (Ne.symm h1) e) (fun x e => by cases e; exact hbase) (own_apart a.strs hb (Ne.symm h2)) (own_apart j3 hb (Ne.symm h3)) (own_apart a.wks hb (Ne.symm h4)), k.mono (fun x e => by cases e; exact hbase)⟩
theorem Boxes.ret {w : World} {base : Bs} {b g : Nat} {x : ByteArray} {r0 r1 vp vj vw : Value} {s : St} (h : Boxes w b g x r0 r1) (a : Aft w base g vp vj vw s) (hb : base ≤ b) (u0 u1 : Value) :
    Boxes ((w.setCell ⟨b + 1 + 1, 0, none⟩ u0).setCell ⟨b + 1 + 1 + 1, 0, none⟩ u1) b g x u0 u1 ∧ Aft ((w.setCell ⟨b + 1 + 1, 0, none⟩ u0).setCell ⟨b + 1 + 1 + 1, 0, none⟩ u1) base g vp vj vw s ∧ Keep (ge base) w ((w.setCell ⟨b + 1 + 1, 0, none⟩ u0).setCell ⟨b + 1 + 1 + 1, 0, none⟩ u1) := by
  obtain ⟨a1, k1⟩ := a.setBox h.p4 (by decide) (by decide) (by decide) (by decide) (by omega) u0
  have p5 := h.p5.far (p := ⟨b + 1 + 1, 0, none⟩) (by simp) u0
  obtain ⟨a2, k2⟩ := a1.setBox p5 (by decide) (by decide) (by decide) (by decide) (by omega) u1
  refine ⟨⟨(h.p2.far (p := ⟨b + 1 + 1, 0, none⟩) (by simp; omega) u0).far (p := ⟨b + 1 + 1 + 1, 0, none⟩) (by simp; omega) u1, (h.p3.far (p := ⟨b + 1 + 1, 0, none⟩) (by simp) u0).far (p := ⟨b + 1 + 1 + 1, 0, none⟩) (by simp) u1, ?_, ?_⟩, a2, k1.trans k2⟩
  · have := (h.p4.set_ 0 u0).far (p := ⟨b + 1 + 1 + 1, 0, none⟩) (by simp) u1
    simpa using this
  · have := p5.set_ 0 u1
    simpa using this
theorem Boxes.retO {w : World} {base b g : Nat} {x : ByteArray} {r0 r1 v : Value} {n : Nat} {xs : List Value} (h : Boxes w b g x r0 r1) (o : w.ownsRow base 125 3 v n xs) (u0 u1 : Value) : ((w.setCell ⟨b + 1 + 1, 0, none⟩ u0).setCell ⟨b + 1 + 1 + 1, 0, none⟩ u1).ownsRow base 125 3 v n xs := by
  have k1 : Keep (one (b + 1 + 1)) w (w.setCell ⟨b + 1 + 1, 0, none⟩ u0) := (Keep.refl (one (b + 1 + 1)) w).setCell (p := ⟨b + 1 + 1, 0, none⟩) (.inl rfl) u0
  have k2 : Keep (one (b + 1 + 1 + 1)) (w.setCell ⟨b + 1 + 1, 0, none⟩ u0) ((w.setCell ⟨b + 1 + 1, 0, none⟩ u0).setCell ⟨b + 1 + 1 + 1, 0, none⟩ u1) := (Keep.refl (one (b + 1 + 1 + 1)) _).setCell (p := ⟨b + 1 + 1 + 1, 0, none⟩) (.inl rfl) u1
  have o1 := own_keep o k1 (own_apart o h.p4 (by decide))
  exact own_keep o1 k2 (own_apart o1 (h.p5.far (p := ⟨b + 1 + 1, 0, none⟩) (by simp) u0) (by decide))
theorem Boxes.job {w w' : World} {b g b' : Nat} {x : ByteArray} {r0 r1 : Value} {cs : Array Value} (h : Boxes w b g x r0 r1) (hb : Blk w b' 57 cs) (k : Keep (one b') w w') : Boxes w' b g x r0 r1 :=
  ⟨h.p2.keep k (fun e => h.p2.ne_ hb (by decide) e), h.p3.keep k (fun e => h.p3.ne_ hb (by decide) e), h.p4.keep k (fun e => h.p4.ne_ hb (by decide) e), h.p5.keep k (fun e => h.p5.ne_ hb (by decide) e)⟩
theorem Boxes.results {w : World} {b g : Nat} {x : ByteArray} {r0 r1 : Value} (h : Boxes w b g x r0 r1) (tmps : Array Value) (h4 : tmps.getD 4 undef = .pointer (some ⟨b + 1 + 1, 0, none⟩)) (h5 : tmps.getD 5 undef = .pointer (some ⟨b + 1 + 1 + 1, 0, none⟩)) :
    (results Tryz.f79 tmps).run Tryz.prog w = .ok (.tuple #[r0, r1]) w :=
  results_cells Tryz.results79 h4 h5 (run_loadVar_one (by rw [h.p4.cell]; rfl) Tryz.underlying49 rfl) (run_loadVar_one (by rw [h.p5.cell]; rfl) Tryz.underlying37 rfl)

theorem Boxes.facts {w : World} {b g : Nat} {x : ByteArray} {r0 r1 : Value} (h : Boxes w b g x r0 r1) : w.cell? ⟨b + 1 + 1, 0, none⟩ = some r0 ∧ w.frozen? ⟨b + 1 + 1, 0, none⟩ = false ∧ w.cell? ⟨b + 1 + 1 + 1, 0, none⟩ = some r1 ∧ w.frozen? ⟨b + 1 + 1 + 1, 0, none⟩ = false ∧ w.cell? ⟨b, 0, none⟩ = some (.pointer (some ⟨g, 0, none⟩)) ∧ w.cell? ⟨b + 1, 0, none⟩ = some (.string x) :=
  ⟨by rw [h.p4.cell]; rfl, h.p4.frozen 0, by rw [h.p5.cell]; rfl, h.p5.frozen 0, by rw [h.p2.cell]; rfl, by rw [h.p3.cell]; rfl⟩
def PollI (s : St) (base : Bs) (g b : Nat) (x : ByteArray) (vp vj vw : Value) (w : World) (pre : List (Rd s)) (W : World) : Prop :=
  pre = [] ∧ Boxes W b g x (.slice none 0 0) (.int .i64 0) ∧ Aft W base g vp vj vw s ∧ Keep (ge base) w W
def PollX (s : St) (base : Bs) (g b : Nat) (x : ByteArray) (vp vj vw : Value) (w : World) (c : Code) (pre : List (Rd s)) (W : World) : Prop :=
  c = .ret ∧ ∃ y vo, pre = [y] ∧ Boxes W b g x vo (.int .i64 0) ∧ W.ownsRow base 125 3 vo 1 (otCells [⟨1, nameAt s y.1, x⟩]) ∧ Aft W base g vp vj vw (giveS s x y.1) ∧ Keep (ge base) w W
theorem pollI_own (s : St) (base : Bs) (g b B : Nat) (x : ByteArray) (vp vj vw : Value) (w : World) (hB : base ≤ B) : OwnFrom B (PollI s base g b x vp vj vw w) := by
  rintro pre W W' row ⟨h1, h2, h3, h4⟩ hg hr
  have k := Keep.of_grownBy hg
  have o : Odd (fun k => row = some k) W := fun r e => (hr r e).2
  have hS : ∀ r, row = some r → base ≤ r := fun r e => Nat.le_trans hB (hr r e).1
  exact ⟨h1, h2.odd o k, o.aft k hS h3, h4.trans (k.mono hS)⟩
theorem pollX_own (s : St) (base : Bs) (g b B : Nat) (x : ByteArray) (vp vj vw : Value) (w : World) (hB : base ≤ B) (c : Code) : OwnFrom B (PollX s base g b x vp vj vw w c) := by
  rintro pre W W' row ⟨h0, y, vo, h1, h2, h5, h3, h4⟩ hg hr
  have k := Keep.of_grownBy hg
  have o : Odd (fun k => row = some k) W := fun r e => (hr r e).2
  have hS : ∀ r, row = some r → base ≤ r := fun r e => Nat.le_trans hB (hr r e).1
  exact ⟨h0, y, vo, h1, h2.odd o k, own_keep h5 k (o.own h5), o.aft k hS h3, h4.trans (k.mono hS)⟩

theorem poll_out {W : World} {base : Bs} {b g D : Nat} {x : ByteArray} {r0 r1 vp vj vw : Value} {s : St} (h : Boxes W b g x r0 r1) (a : Aft W base g vp vj vw s) {ds : Option (List Deferred)} (hd : W.heap[D]? = some (.deferred ds)) (hD : base ≤ D) : Boxes (W.putObj D (.deferred none)) b g x r0 r1 ∧ Aft (W.putObj D (.deferred none)) base g vp vj vw s ∧ Keep (ge base) W (W.putObj D (.deferred none)) := by
  have k := Keep.of_grownBy (grownBy_putObj' W D (.deferred none))
  have o : Odd (fun k => some D = some k) W := fun r e => by cases e; exact ⟨_, hd, rfl⟩
  have hS : ∀ r, some D = some r → base ≤ r := fun r e => by cases e; exact hD
  exact ⟨h.odd o k, o.aft k hS a, k.mono hS⟩
theorem pollS_cons {s : St} {x : ByteArray} {k : Nat} {rest : List Nat} (p0 : pollE s x = 0) (h : k :: rest = readyL s) : pollS s x = giveS s x k := by unfold pollS; rw [if_pos p0, ← h]
theorem pollO_cons {s : St} {x : ByteArray} {k : Nat} {rest : List Nat} (p0 : pollE s x = 0) (h : k :: rest = readyL s) : pollO s x = [⟨1, nameAt s k, x⟩] := by unfold pollO; rw [if_pos p0, ← h]
theorem KeepsFrom.of_keep {B : Nat} {w w' : World} (h : Keep (fun r => r < B) w w') : KeepsFrom B w w' := ⟨h.size, fun k o hB hk _ => (h.block k (Array.getElem?_eq_some_iff.1 hk).1 (fun e => by omega)).trans hk⟩
theorem giveS_eq {s : St} {x : ByteArray} {k : Nat} (hk : k < s.jobs.length) : giveS s x k = { s with jobs := s.jobs.set k { s.jobs[k] with worker := x, until_ := s.now + 10 } } := by rw [giveS, List.getElem?_eq_getElem hk]

set_option maxRecDepth 100000 in
set_option maxHeartbeats 2000000 in
theorem poll_any (s : St) (vp vj vw : Value) (base : Bs) (g : Nat) (x : ByteArray) (w : World) (h : Aft w base g vp vj vw s) (ha : Asc s.present) (h64 : s.present.length ≤ 64) (hl64 : s.jobs.length ≤ 64) (n0 : 0 ≤ s.now) (n1 : s.now ≤ 1099511627776) :
    Calls Tryz.prog 79 #[.pointer (some ⟨g, 0, none⟩), .string x] w (MethPost2 base g (pollE s x) (pollO s x) (pollS s x) w) := by
  obtain ⟨Aw, cw, rfl, hw⟩ := ElemsOf_wks (S := none_) h.wks (fun _ _ e => e)
  obtain ⟨Aj, cj, rfl, hj⟩ := ElemsOf_jobs h.jobs
  obtain ⟨W1, hW1⟩ : ∃ W1, W1 = (((w.alloc (.cells #[.pointer (some ⟨g, 0, none⟩)] 123)).alloc (.cells #[.string x] 9)).alloc (.cells #[.slice none 0 0] 49)).alloc (.cells #[.int .i64 0] 37) := ⟨_, rfl⟩
  have k1 : Keep none_ w W1 := hW1 ▸ ((((Keep.refl none_ w).alloc _).alloc _).alloc _).alloc _
  have bx : Boxes W1 w.heap.size g x (.slice none 0 0) (.int .i64 0) := by
    rw [hW1]
    refine ⟨(((Blk.new w _ _).alloc _).alloc _).alloc _, ?_, ?_, ?_⟩
    · have := Blk.new (w.alloc (.cells #[.pointer (some ⟨g, 0, none⟩)] 123)) 9 #[.string x]
      simp only [World.size_alloc] at this
      exact (this.alloc _).alloc _
    · have := Blk.new ((w.alloc (.cells #[.pointer (some ⟨g, 0, none⟩)] 123)).alloc (.cells #[.string x] 9)) 49 #[.slice none 0 0]
      simp only [World.size_alloc] at this
      exact this.alloc _
    · have := Blk.new (((w.alloc (.cells #[.pointer (some ⟨g, 0, none⟩)] 123)).alloc (.cells #[.string x] 9)).alloc (.cells #[.slice none 0 0] 49)) 37 #[.int .i64 0]
      simp only [World.size_alloc] at this
      exact this
  have HA := Lib.hid (h.keep k1)
  have K1 := Lib.hid k1
  have BX := Lib.hid bx
  have y2 := bx.p2.cell 0
  have y3 := bx.p3.cell 0
  simp only [List.getElem?_toArray, List.getElem?_cons_zero] at y2 y3
  have c3 := HA.out.blk.cell 3
  have c2 := HA.out.blk.cell 2
  simp only [List.getElem?_toArray, List.getElem?_cons_zero, List.getElem?_cons_succ] at c3 c2
  have AL := Lib.hid (alive_any s.workers Aw s.workers.length cw g none_ x W1 c3 (hw.keep k1))
  have HJ := Lib.hid (hj.keep k1)
  have lw : w.heap.size + 1 + 1 + 1 < W1.heap.size := bx.p5.lt
  have hbg := h.ge_
  have lg := h.blk.lt
  obtain ⟨-, q1, q2⟩ := hj.facts
  unfold maxLen at q2
  have HAS := Lib.hid ha
  clear h bx k1 hw hj ha
  refine (callsIn_wide (n := 3)).1 ?_
  refine callsIn_of_wp_marks Tryz.func79 rfl trivial ?_ rfl
  simp only [Tryz.ntmps79, List.size_toArray, List.length_cons, List.length_nil, Nat.reduceAdd, Nat.reduceSub, Array.replicate_succ, Array.replicate_zero, List.push_toArray, List.append_toArray, List.nil_append, List.cons_append]
  gi_upto_region 1 with (fail)
  rw [← hW1]
  clear hW1
  by_cases h0 : aliveE s.workers x = 0
  · rw [h0] at AL
    gi_upto_region 4 with (refine ⟨trivial, ?_⟩; gi_at_call 101; refine (callsIn_wide.2 AL.out).mono ?_; rintro e w5 ⟨rfl, k5⟩)
    have H5 := Lib.hid (HA.out.keep k5)
    have B5 := Lib.hid (BX.out.keep k5)
    have J5 := Lib.hid (HJ.out.keep k5)
    have z2 := k5.cell y2 (fun e => e)
    have z3 := k5.cell y3 (fun e => e)
    have d2 := k5.cell c2 (fun e => e)
    have K5 := Lib.hid (K1.out.trans k5)
    have E0 := Lib.hid h0
    have l5 := k5.size
    clear y2 y3 c2 c3 k5 HA BX HJ K1 h0 AL
    gi_wp2
    gi_loopw [22] (fun i wr => ∃ k : Nat, k ≤ s.jobs.length ∧ i = .int .i64 k ∧ (s.jobs.take k).all (fun j => !strEq j.worker x) = true ∧ Keep none_ w5 wr) (fun i _ => s.jobs.length - (intOf i).toNat)
    case atStart => exact ⟨0, Nat.zero_le _, rfl, rfl, Keep.refl _ _⟩
    case round =>
      obtain ⟨k, hk, rfl, hall, hkr⟩ := hrel
      have ALL := Lib.hid hall
      have x2 := hkr.cell z2 (fun e => e)
      have x3 := hkr.cell z3 (fun e => e)
      clear hall
      by_cases hlt : k < s.jobs.length
      · have hlt' : (k : Int) < s.jobs.length := by omega
        obtain ⟨bj, oj, rfl, hbj, hkl2, cs, hcl, hrg, vn, vi, hcs, hns, his⟩ := (JobsOf.keep J5.out hkr).elem k hlt
        have nx := take_all_succ (fun j : Jb => !strEq j.worker x) s.jobs k hlt
        have an : strEq s.jobs[k].worker x = true → s.jobs.any (fun j => strEq j.worker x) = true := fun h => List.any_eq_true.2 ⟨_, List.getElem_mem hlt, h⟩
        generalize s.jobs[k] = j at hcs hns his nx an
        subst hcs
        obtain ⟨An, nn, cn, rfl, hns'⟩ := hns
        obtain ⟨Ai, ni, ci, rfl, -⟩ : ∃ Ai ni ci, vi = .slice Ai ni ci ∧ True := by obtain ⟨A, n, c, e, -⟩ := his; exact ⟨A, n, c, e, trivial⟩
        have HRG := Lib.hid hrg
        have NX := Lib.hid nx
        have AN := Lib.hid an
        clear hrg hns' his hcl nx an
        gi_upto_region 6 with (fail)
        refine wpIn_wide.2 (wp_region_lit ?_)
        have t1 : True := trivial
        have t2 : True := trivial
        go_wp2_with (first | (have _t := t1; refine wpList_load_part 57 (.tmp 24) rfl rfl bj (oj + k * 7) (by first | rfl | simp) #[.string j.name, .slice An nn cn, .string j.worker, .int .i64 j.until_, .int .i64 j.tries, .bool j.done, .slice Ai ni ci] _ HRG.out Tryz.underlying57 rfl (by kernel_rfl) ?_; go_frame; clear _t t1) | (have _t := t2; refine wpList_store_blk rfl 57 (.tmp 8) (.tmp 25) rfl wr.heap.size 57 _ _ rfl rfl (Blk.new _ _ _) rfl (by kernel_rfl) (by simp [Value.oneCell']) ?_; intro w6 b6 k6 s6; go_frame; clear _t t2))
        have kr6 : Keep none_ wr w6 := ((Keep.refl none_ wr).alloc _).own k6 (Nat.le_refl _)
        have v2 := b6.cell 2
        simp only [List.getElem?_toArray, List.getElem?_cons_zero, List.getElem?_cons_succ] at v2
        have v3 := kr6.cell x3 (fun e => e)
        have K6 := Lib.hid (hkr.trans kr6)
        clear HRG k6 s6 b6
        cases hwk : strEq j.worker x with
        | true =>
          have hwk' : (j.worker.toList == x.toList) = true := hwk
          have E1 := Lib.hid (show pollE s x = 13 by unfold pollE; rw [if_neg (by rw [E0.out]; decide), if_pos (AN.out hwk)])
          have E2 := Lib.hid (show pollS s x = s by unfold pollS; rw [E1.out]; rfl)
          have E3 := Lib.hid (show pollO s x = [] by unfold pollO; rw [E1.out]; rfl)
          obtain ⟨f1, f2, f3, f4, -, -⟩ := (B5.out.keep K6.out).facts
          clear hwk
          gi_wp2
          obtain ⟨r1, r2, r3⟩ := (B5.out.keep K6.out).ret (H5.out.keep K6.out) (by omega) (.slice none 0 0) (.int .i64 13)
          refine ⟨_, r1.results _ rfl rfl, _, _, _, _, by rw [E1.out], by rw [E3.out]; exact ⟨rfl, .inl ⟨rfl, rfl⟩⟩, by rw [E2.out]; exact r2, (K5.out.trans K6.out).weak.trans r3⟩
        | false =>
          have hwk' : (j.worker.toList == x.toList) = false := hwk
          have NA := Lib.hid (show (s.jobs.take (k + 1)).all (fun j => !strEq j.worker x) = true by rw [NX.out, ALL.out, hwk]; rfl)
          clear hwk
          gi_wp2
          go_roundw
          case rel => exact ⟨k + 1, by omega, by go_num, NA.out, K6.out⟩
          case measure => simp [intOf]; omega
      · obtain rfl : k = s.jobs.length := by omega
        have HR := Lib.hid (H5.out.keep hkr)
        have BR := Lib.hid (B5.out.keep hkr)
        have KR := Lib.hid (K5.out.trans hkr)
        have NOJ := Lib.hid (show s.jobs.any (fun j => strEq j.worker x) = false by
          have := ALL.out
          rw [List.take_length] at this
          rw [List.any_eq_false]
          intro j hj
          have h6 := List.all_eq_true.1 this j hj
          simpa using h6)
        have lr : w.heap.size + 1 + 1 + 1 < wr.heap.size := BR.out.p5.lt
        clear d2 z2 z3 hkr J5 H5 B5 K5 hlt ALL
        gi_upto_region 10 with (fail)
        refine wpIn_wide.2 (wp_region_lit ?_)
        have t1 : True := trivial
        have RA := Lib.hid (ready_any s.now vp (.slice Aj s.jobs.length cj) (.slice Aw s.workers.length cw) wr)
        go_wp2_with (first | (have _t := t1; refine wpList_load_part 48 (.tmp 32) rfl rfl g 0 rfl #[.int .i64 s.now, vp, .slice Aj s.jobs.length cj, .slice Aw s.workers.length cw] _ HR.out.blk.rangeAt Tryz.underlying48 rfl (by kernel_rfl) ?_; go_frame; clear _t t1) | (go_at_call 49; refine RA.out.mono ?_; rintro e w7 ⟨rfl, hw7⟩; have HW7 := Lib.hid hw7; clear hw7))
        gi_wp2
        have k7 : Keep none_ wr w7 := by rw [HW7.out]; exact (Keep.refl none_ wr).alloc _
        have b7 : Blk w7 wr.heap.size 48 #[.int .i64 s.now, vp, .slice Aj s.jobs.length cj, .slice Aw s.workers.length cw] := by rw [HW7.out]; exact Blk.new _ _ _
        have A7 := Lib.hid (HR.out.keep k7)
        have B7 := Lib.hid (BR.out.keep k7)
        have K7 := Lib.hid (KR.out.trans k7)
        have l7 : wr.heap.size < w7.heap.size := b7.lt
        have lbj : ∀ b, (Value.slice Aj s.jobs.length cj).ownBlock = some b → b < wr.heap.size := fun b e => by
          obtain ⟨css, j1, j2, j3, j4⟩ := HR.out.jobs
          exact (j3.lt b e).2
        have LBJ := Lib.hid lbj
        have pz : StrsOf w7 (ge w7.heap.size) vp s.present := by
          obtain ⟨A, c, rfl, hr⟩ := own_row (S := none_) A7.out.strs (fun _ _ e => e)
          exact StrsOf.fresh ⟨A, _, c, rfl, hr⟩
        have jz : JobsOf w7 (ge w7.heap.size) (.slice Aj s.jobs.length cj) s.jobs := by
          obtain ⟨A, c, e, hr⟩ := ElemsOf_jobs A7.out.jobs
          rw [e]
          exact JobsOf.fresh hr
        have ST := ready_stops 2 wr.heap.size (ge w7.heap.size) s vp (.slice Aj s.jobs.length cj) (.slice Aw s.workers.length cw) w7 b7 (fun e => by unfold ge at e; omega) pz jz HAS.out h64 hl64
        clear lbj pz jz b7 k7 HW7 HR BR KR RA
        refine wpIn_rangeFunc_ownG rfl (by decide) (gf := 69) (lb := #[.pointer (some ⟨wr.heap.size, 0, none⟩)]) rfl trivial (enters_of Tryz.func69 (by kernel_rfl) rfl) ST (fun h k => h.trans k) (fun W l o o' hl ho _ _ => (Keep.of_grownBy (grownBy_putObj' W l o')).mono (fun r e => by cases e; exact hl)) (Below.refl _ _) (fun _ => rfl)
          (PollI s base g w.heap.size x vp (.slice Aj s.jobs.length cj) (.slice Aw s.workers.length cw) w) (PollX s base g w.heap.size x vp (.slice Aj s.jobs.length cj) (.slice Aw s.workers.length cw) w)
          (pollI_own _ _ _ _ _ _ _ _ _ _ (by omega)) (pollX_own _ _ _ _ _ _ _ _ _ _ (by omega)) ⟨rfl, B7.out, A7.out, K7.out.weak⟩
          (fun y => { tmps := #[.pointer (some ⟨g, 0, none⟩), .string x, .pointer (some ⟨w.heap.size, 0, none⟩), .pointer (some ⟨w.heap.size + 1, 0, none⟩), .pointer (some ⟨w.heap.size + 1 + 1, 0, none⟩), .pointer (some ⟨w.heap.size + 1 + 1 + 1, 0, none⟩), .int .i64 0, undef, u8, .int .i64 (y.1 : Nat), .string (nameAt s y.1), .pointer (some ⟨g, 0, none⟩), .string x, .int .i64 0, .int .i64 0, .bool false, undef, .pointer (some ⟨g, 0, none⟩), .pointer (some ⟨g, 0, none⟩), .pointer (some ⟨g, 2, none⟩), .slice Aj s.jobs.length cj, .int .i64 s.jobs.length, .int .i64 s.jobs.length, .bool false, u24, u25, u26, u27, u28, u29, u30, .pointer (some ⟨g, 0, none⟩), .pointer (some ⟨g, 0, none⟩), .agg #[.int .i64 s.now, vp, .slice Aj s.jobs.length cj, .slice Aw s.workers.length cw], .func (.func 69) #[] #[.pointer (some ⟨wr.heap.size, 0, none⟩)], .int .i64 (y.1 : Nat), .string (nameAt s y.1), undef, undef, undef, undef, undef, undef, undef, undef, undef, undef, undef, undef, undef, undef, undef, undef, undef, undef, undef, undef, undef, undef, undef, undef], defers := [] }) ?assign ?body ?done ?stop
        case assign =>
          intro l y W K hK
          simp only [encRd]
          gi_wp2
          exact hK
        case body =>
          rintro l pre ⟨k, hkm⟩ W ⟨rfl, hB, hA, hK⟩ -
          obtain ⟨hkl, hrd⟩ := readyL_mem hkm
          have hlt' : (k : Int) < s.jobs.length := by omega
          obtain ⟨css, j1, j2, j3, j4⟩ := hA.jobs
          obtain ⟨bj, cap, cur, eV, hb1, hb2, hb3⟩ := own_cases j3 (by omega)
          simp only [Value.slice.injEq, true_and] at eV
          obtain ⟨rfl, rfl⟩ := eV
          obtain ⟨A', c', eA, hjb⟩ := ElemsOf_jobs hA.jobs
          simp only [Value.slice.injEq, true_and] at eA
          obtain ⟨rfl, rfl⟩ := eA
          obtain ⟨b', o', eA, -, hkl2, cs, -, hrg, vn, vi, hcs, -, -⟩ := hjb.elem k hkl
          simp only [Option.some.injEq, Addr.mk.injEq, and_true] at eA
          obtain ⟨rfl, rfl⟩ := eA
          have r2 : W.cell? ⟨bj, 0 + k * 7 + 2, none⟩ = some (.string s.jobs[k].worker) := hrg 2 _ (by rw [hcs]; rfl)
          have r3 : W.cell? ⟨bj, 0 + k * 7 + 3, none⟩ = some (.int .i64 s.jobs[k].until_) := hrg 3 _ (by rw [hcs]; rfl)
          rw [Nat.zero_add] at r2 r3
          have g2 := hb2.frozen (k * 7 + 2)
          have g3 := hb2.frozen (k * 7 + 3)
          have z0 := hA.blk.cell 0
          have z2 := hA.blk.cell 2
          simp only [List.getElem?_toArray, List.getElem?_cons_zero, List.getElem?_cons_succ] at z0 z2
          obtain ⟨f1, f2, f3, f4, f5, f6⟩ := hB.facts
          have lbj := LBJ.out bj rfl
          have HBx := Lib.hid hB
          have HAx := Lib.hid hA
          have HKx := Lib.hid hK
          have HB2 := Lib.hid hb2
          have nov : s.now + 10 ≤ 9223372036854775807 := by omega
          clear hB hA hK hb2 hb3 hcs hrg hjb j1 j2 j3 j4 hrd ST A7 B7 K7
          gi_upto_region 13 with (fail)
          obtain ⟨W2, hW2⟩ : ∃ W2, W2 = (W.setCell ⟨bj, k * 7 + 2, none⟩ (.string x)).drew := ⟨_, rfl⟩
          have k2 : Keep (one bj) W W2 := hW2 ▸ ((Keep.refl (one bj) W).setCell (p := ⟨bj, k * 7 + 2, none⟩) (.inl rfl) (.string x)).drew
          have sa : ∀ (a : Addr) v, W.cell? a = some v → a.block ≠ bj → ∀ q, ((storeCalm W.drew W2 18).at_ q).cell? a = some v := fun a v ha hne q => by
            rcases store_at _ _ _ q with h | h
            · rw [h]; exact ha
            · rw [h]; exact k2.cell ha hne
          have s1 := sa _ _ f5 (HBx.out.p2.ne_ HB2.out (by decide))
          have s2 := sa _ _ f6 (HBx.out.p3.ne_ HB2.out (by decide))
          have s3 := sa _ _ z0 (HAx.out.blk.ne_ HB2.out (by decide))
          have s4 := sa _ _ z2 (HAx.out.blk.ne_ HB2.out (by decide))
          have gd := store_good W.drew W2 18
          have ne := store_some W.drew W2 18
          have HW2 := Lib.hid hW2
          have K2 := Lib.hid k2
          clear sa k2 hW2
          refine region_round_calm (storeCalm W.drew W2 18) [0, 1, 2, 3, 4, 5, 6, 7, 8, 9, 10, 11, 12, 13, 14, 15, 16, 17, 18, 19, 20] [21] 61 (by rintro ⟨a, w, h⟩; exact h) (by kernel_rfl) (by kernel_rfl) (by kernel_rfl) rfl gd (.inl rfl) ?_
          simp only [pairs, List.filterMap_cons, List.filterMap_nil, List.getElem?_toArray, List.getElem?_cons_succ, List.getElem?_cons_zero, Option.map_some]
          repeat (refine Calm.walk_quiet ne rfl rfl rfl (fun K hK => ?_); go_big_quiet_op; refine hK _ ?_; clear hK K)
          refine Calm.walk_eff rfl rfl (fun n w1 hn hG _ => ?_) ?_
          · have e1 := store_first hn hG
            subst e1
            have e2 := HW2.out
            subst e2
            unfold gives
            go_simp
            exact ⟨rfl, ⟨rfl, by simp⟩, .inr ⟨by omega, rfl⟩, fun _ h => h.elim⟩
          rintro v w1 -
          clear w1
          go_frame
          repeat (refine Calm.walk_quiet ne rfl rfl rfl (fun K hK => ?_); go_big_quiet_op; refine hK _ ?_; clear hK K)
          intro w' hG hD
          have e2 : w' = W2 := (hD.1 18 rfl _ rfl ⟨rfl, rfl⟩).1
          subst e2
          clear hD hG gd ne s1 s2 s3 s4
          simp only [pickOps, List.filterMap_cons, List.filterMap_nil, List.getElem?_toArray, List.getElem?_cons_succ, List.getElem?_cons_zero]
          obtain ⟨a2, -⟩ := HAx.out.setJob k hkl 2 (by decide) (.string x) { s.jobs[k] with worker := x } (fun cs h => by
            obtain ⟨vn, vi, rfl, g1, g2⟩ := h
            exact ⟨vn, vi, rfl, g1, g2⟩)
          have a2' := a2.keep ((Keep.refl none_ _).drew)
          have hl2 : ({ s with jobs := s.jobs.set k { s.jobs[k] with worker := x } } : St).jobs.length = s.jobs.length := by simp
          have b2 : Blk w' bj 57 _ := HW2.out ▸ (HB2.out.set_ (k * 7 + 2) (.string x)).drew
          rw [← HW2.out, ← hl2] at a2'
          obtain ⟨a3, -⟩ := a2'.setJob k (by rw [hl2]; exact hkl) 3 (by decide) (.int .i64 (s.now + 10)) { s.jobs[k] with worker := x, until_ := s.now + 10 } (fun cs h => by
            simp only [List.getElem_set_self] at h
            obtain ⟨vn, vi, rfl, g1, g2⟩ := h
            exact ⟨vn, vi, rfl, g1, g2⟩)
          rw [hl2] at a3
          simp only [List.set_set] at a3
          rw [← giveS_eq hkl] at a3
          have v3 : w'.cell? ⟨bj, k * 7 + 3, none⟩ = some (.int .i64 s.jobs[k].until_) := by
            rw [HB2.out.cell] at r3
            rw [b2.cell, Array.getElem?_setIfInBounds_ne (by omega)]
            exact r3
          have w3 := b2.frozen (k * 7 + 3)
          have bb2 := HBx.out.job HB2.out K2.out
          have bb3 := Lib.hid (bb2.job b2 ((Keep.refl (one bj) w').setCell (p := ⟨bj, k * 7 + 3, none⟩) (.inl rfl) (.int .i64 (s.now + 10))))
          have A3 := Lib.hid a3
          have KF3 : Keep (fun r => r < w7.heap.size) W (w'.setCell ⟨bj, k * 7 + 3, none⟩ (.int .i64 (s.now + 10))) := (K2.out.mono (fun r e => by cases e; omega)).setCell (p := ⟨bj, k * 7 + 3, none⟩) (.inl (by show bj < w7.heap.size; omega)) _
          have KG3 : Keep (ge base) W (w'.setCell ⟨bj, k * 7 + 3, none⟩ (.int .i64 (s.now + 10))) := (K2.out.mono (fun r e => by cases e; exact hb1)).setCell (p := ⟨bj, k * 7 + 3, none⟩) (.inl hb1) _
          have HKF := Lib.hid KF3
          have HKG := Lib.hid KG3
          clear a2 a2' b2 a3 bb2 r2 r3 g2 g3 z0 z2 f1 f2 f3 f4 f5 f6 KF3 KG3
          go_wp2
          gi_upto_region 14 with (fail)
          obtain ⟨W3, hW3⟩ : ∃ W3, W3 = w'.setCell ⟨bj, k * 7 + 3, none⟩ (.int .i64 (s.now + 10)) := ⟨_, rfl⟩
          rw [← hW3] at bb3 A3 HKF HKG ⊢
          clear hW3 v3 w3
          obtain ⟨f1, f2, f3, f4, -, f6⟩ := bb3.out.facts
          have KA : Keep none_ W3 (W3.alloc (.cells #[.int .i64 1, .string (nameAt s k), .string x] 125)) := (Keep.refl none_ W3).alloc _
          obtain ⟨e1, e2, e3, e4, -, -⟩ := (bb3.out.keep KA).facts
          have HKA := Lib.hid KA
          have l3 := bb3.out.p5.lt
          clear KA
          refine region_round_lit (by rintro ⟨a, w, h⟩; exact h) (by kernel_rfl) ?_
          go_wp2
          gi_wp2
          obtain ⟨r1, r2, r3⟩ := (bb3.out.keep HKA.out).ret (A3.out.keep HKA.out) (by omega) (.slice (some ⟨W3.heap.size, 0, none⟩) 1 1) (.int .i64 0)
          refine ⟨KeepsFrom.of_keep ((HKF.out.trans HKA.out.weak).trans (((Keep.refl _ _).setCell (p := ⟨w.heap.size + 1 + 1, 0, none⟩) (.inl (by show w.heap.size + 1 + 1 < w7.heap.size; omega)) _).setCell (p := ⟨w.heap.size + 1 + 1 + 1, 0, none⟩) (.inl (by show w.heap.size + 1 + 1 + 1 < w7.heap.size; omega)) _)), rfl, _, _, rfl, r1, (bb3.out.keep HKA.out).retO (own_one W3 base (by omega) ⟨1, nameAt s k, x⟩) _ _, r2, ((HKx.out.trans HKG.out).trans HKA.out.weak).trans r3⟩
        case done =>
          rintro D ys W hD hys ⟨rfl, hB, hA, hK⟩ hd
          have e0 : readyL s = [] := hys.symm
          have p0 : pollE s x = 0 := by unfold pollE; rw [if_neg (by rw [E0.out]; decide), NOJ.out]; rfl
          have E1 := Lib.hid p0
          have E2 := Lib.hid (show pollS s x = s by unfold pollS; rw [if_pos p0, e0])
          have E3 := Lib.hid (show pollO s x = [] by unfold pollO; rw [if_pos p0, e0])
          obtain ⟨f1, f2, f3, f4, -, -⟩ := hB.facts
          clear e0 p0 hys
          gi_wp2
          obtain ⟨r1, r2, r3⟩ := hB.ret hA (by omega) (.slice none 0 0) (.int .i64 0)
          have hd2 := ((KeepsOthers.setCell W ⟨w.heap.size + 1 + 1, 0, none⟩ (.slice none 0 0)).trans (KeepsOthers.setCell _ ⟨w.heap.size + 1 + 1 + 1, 0, none⟩ (.int .i64 0))).same D _ hd rfl
          refine ⟨by simp, .inl ⟨_, _, rfl, run_takeDeferred hd2, ?_⟩⟩
          obtain ⟨e1, e2, e3⟩ := poll_out r1 r2 hd2 (by omega)
          exact ⟨_, e1.results _ rfl rfl, _, _, _, _, by rw [E1.out], by rw [E3.out]; exact ⟨rfl, .inl ⟨rfl, rfl⟩⟩, by rw [E2.out]; exact e2, (hK.trans r3).trans e3⟩
        case stop =>
          rintro D c pre W hD hpre ⟨rfl, y, vo, rfl, hB, hO, hA, hK⟩ hd
          have p0 : pollE s x = 0 := by unfold pollE; rw [if_neg (by rw [E0.out]; decide), NOJ.out]; rfl
          obtain ⟨rest, e0⟩ := hpre
          simp only [List.map_cons, List.map_nil, List.cons_append, List.nil_append] at e0
          have E1 := Lib.hid p0
          have E2 := Lib.hid (pollS_cons p0 e0)
          have E3 := Lib.hid (pollO_cons p0 e0)
          clear e0 p0
          gi_wp2
          refine ⟨by simp, .inl ⟨_, _, rfl, run_takeDeferred hd, ?_⟩⟩
          obtain ⟨e1, e2, e3⟩ := poll_out hB hA hd (by omega)
          have o : Odd (fun k => some D = some k) W := fun r e => by cases e; exact ⟨_, hd, rfl⟩
          exact ⟨_, e1.results _ rfl rfl, _, _, _, _, by rw [E1.out], by rw [E3.out]; exact own_keep hO (Keep.of_grownBy (grownBy_putObj' W D _)) (o.own hO), by rw [E2.out]; exact e2, hK.trans e3⟩
  · have h0' : (aliveE s.workers x != 0) = true := by simpa using h0
    have e1 : pollE s x = aliveE s.workers x := by unfold pollE; rw [if_pos (by simpa using h0)]
    have h1' : ¬ pollE s x = 0 := by rw [e1]; exact h0
    have E1 := Lib.hid e1
    have E2 := Lib.hid (show pollS s x = s by unfold pollS; rw [if_neg h1'])
    have E3 := Lib.hid (show pollO s x = [] by unfold pollO; rw [if_neg h1'])
    clear e1 h1'
    gi_upto_region 2 with (refine ⟨trivial, ?_⟩; gi_at_call 101; refine (callsIn_wide.2 AL.out).mono ?_; rintro e w5 ⟨rfl, k5⟩)
    obtain ⟨f1, f2, f3, f4, -, -⟩ := (BX.out.keep k5).facts
    gi_wp2
    obtain ⟨r1, r2, r3⟩ := (BX.out.keep k5).ret (HA.out.keep k5) (by omega) (.slice none 0 0) (.int .i64 (aliveE s.workers x))
    refine ⟨_, r1.results _ rfl rfl, _, _, _, _, by rw [E1.out], by rw [E3.out]; exact ⟨rfl, .inl ⟨rfl, rfl⟩⟩, by rw [E2.out]; exact r2, (K1.out.trans k5).weak.trans r3⟩
end Go.Proofs.YtnefbeplgfdkkaaGreatDoor
