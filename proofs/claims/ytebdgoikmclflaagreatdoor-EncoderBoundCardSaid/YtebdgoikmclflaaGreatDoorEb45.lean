/-
  encoder.Picture of the gray frame.
-/
import Derived.Test.YtebdgoikmclflaaGreatDoorEb44
namespace Go.Proofs.YtebdgoikmclflaaGreatDoor
open Go.RowKit
/-- A coded picture with one slice. -/
def cod1 (b c : Nat) : Array Value := #[.int .i64 1, .int .i64 3, .int .i64 0, .bool true, .bool false, .bool false, .slice none 0 0, .slice (some ⟨b, 0, none⟩) 1 c]
def codZ : Array Value := #[.int .i64 0, .int .i64 0, .int .i64 0, .bool false, .bool false, .bool false, .slice none 0 0, .slice none 0 0]
theorem vqE8 (w : World) : Calls Tryz.prog 12 #[.int .i64 8] w fun e w' => e = .returned (.bool true) ∧ w = w' := by
  go_enter Tryz.func12, Tryz.ntmps12
  go_wp2
  go_ret
  exact ⟨rfl, rfl⟩
theorem Keep.lt_ {S : Nat → Prop} {w w' : World} {n : Nat} (k : Keep S w w') (h : n < w.heap.size) : n < w'.heap.size := Nat.lt_of_lt_of_le h k.size
theorem un_info : (Tryz.prog.info? 60).map (fun i => (i.zero, i.size, i.bytes)) = some (some (.agg #[.int .i64 0, .slice none 0 0]), 2, 32) := by kernel_rfl
/-- The coder's block with its result. -/
def CdAt (gc : Nat) (A1 A2 A3 : Option Addr) (c1 c2 c3 : Nat) (w : World) : Prop := ∃ (x : Int) (d1 d2 d3 : Nat), (0 ≤ x ∧ x ≤ 255) ∧ Blk w gc 67 (cdV (srV A1 A2 A3 c1 c2 c3) (frV d1 d2 d3).toList) ∧ NewFr w 0 x d1 d2 d3
def CdDone (gc : Nat) (A1 A2 A3 : Option Addr) (c1 c2 c3 : Nat) (w : World) : Prop := ∃ (d1 d2 d3 : Nat), Blk w gc 67 (cdV (srV A1 A2 A3 c1 c2 c3) (frV d1 d2 d3).toList) ∧ NewFr w 0 128 d1 d2 d3
theorem CdAt.keep {gc : Nat} {A1 A2 A3 : Option Addr} {c1 c2 c3 : Nat} {w w' : World} (h : CdAt gc A1 A2 A3 c1 c2 c3 w) (k : Keep none_ w w') : CdAt gc A1 A2 A3 c1 c2 c3 w' := by
  obtain ⟨x, d1, d2, d3, hx, hb, hn⟩ := h
  exact ⟨x, d1, d2, d3, hx, hb.keep k (fun e => e), hn.keep0 k⟩
theorem CdDone.keep {gc : Nat} {A1 A2 A3 : Option Addr} {c1 c2 c3 : Nat} {w w' : World} (h : CdDone gc A1 A2 A3 c1 c2 c3 w) (k : Keep none_ w w') : CdDone gc A1 A2 A3 c1 c2 c3 w' := by
  obtain ⟨d1, d2, d3, hb, hn⟩ := h
  exact ⟨d1, d2, d3, hb.keep k (fun e => e), hn.keep0 k⟩
theorem CdDone.at_ {gc : Nat} {A1 A2 A3 : Option Addr} {c1 c2 c3 : Nat} {w : World} (h : CdDone gc A1 A2 A3 c1 c2 c3 w) : CdAt gc A1 A2 A3 c1 c2 c3 w := by
  obtain ⟨d1, d2, d3, hb, hn⟩ := h
  exact ⟨128, d1, d2, d3, by decide, hb, hn⟩
/-- One element in a new slice. -/
def OneS (lo : Nat) (t : TypeId) (vs : List Value) (v : Value) (w : World) : Prop := ∃ b cs, v = .slice (some ⟨b, 0, none⟩) 1 1 ∧ lo ≤ b ∧ Blk w b t cs ∧ vs[0]? = some (.agg cs)
theorem OneS.keep {lo : Nat} {t : TypeId} {vs : List Value} {v : Value} {w w' : World} {S : Nat → Prop} (h : OneS lo t vs v w) (k : Keep S w w') (hS : ∀ b, lo ≤ b → ¬ S b) : OneS lo t vs v w' := by
  obtain ⟨b, cs, e, h1, h2, h3⟩ := h
  exact ⟨b, cs, e, h1, h2.keep k (hS b h1), h3⟩
theorem CdAt.past {gc g : Nat} {A1 A2 A3 : Option Addr} {c1 c2 c3 : Nat} {w w' : World} {t : TypeId} {cs : Array Value} (h : CdAt gc A1 A2 A3 c1 c2 c3 w) (hb : Blk w g t cs) (h1 : 5 ≠ t) (h2 : 67 ≠ t) (k : Keep (one g) w w') : CdAt gc A1 A2 A3 c1 c2 c3 w' := by
  obtain ⟨x, d1, d2, d3, hx, hc, hn⟩ := h
  exact ⟨x, d1, d2, d3, hx, hc.keep k (fun e => Blk.ne_ hc hb h2 e), hn.keep k (fun e => Blk.ne_ hn.y.1 hb h1 e) (fun e => Blk.ne_ hn.u.1 hb h1 e) (fun e => Blk.ne_ hn.v.1 hb h1 e)⟩
theorem CdDone.past {gc g : Nat} {A1 A2 A3 : Option Addr} {c1 c2 c3 : Nat} {w w' : World} {t : TypeId} {cs : Array Value} (h : CdDone gc A1 A2 A3 c1 c2 c3 w) (hb : Blk w g t cs) (h1 : 5 ≠ t) (h2 : 67 ≠ t) (k : Keep (one g) w w') : CdDone gc A1 A2 A3 c1 c2 c3 w' := by
  obtain ⟨d1, d2, d3, hc, hn⟩ := h
  exact ⟨d1, d2, d3, hc.keep k (fun e => Blk.ne_ hc hb h2 e), hn.keep k (fun e => Blk.ne_ hn.y.1 hb h1 e) (fun e => Blk.ne_ hn.u.1 hb h1 e) (fun e => Blk.ne_ hn.v.1 hb h1 e)⟩
theorem row_cd (gc : Nat) (A1 A2 A3 : Option Addr) (c1 c2 c3 : Nat) (w : World) (h : CdAt gc A1 A2 A3 c1 c2 c3 w) (hs : FrC w 128 A1 A2 A3 c1 c2 c3) : Calls Tryz.prog 23 #[.pointer (some ⟨gc, 0, none⟩), .int .i64 0] w fun e w' => ∃ u, e = .returned (.agg (unV u)) ∧ CdDone gc A1 A2 A3 c1 c2 c3 w' ∧ Keep (one gc) w w' := by
  obtain ⟨x, d1, d2, d3, hx, hc, hn⟩ := h
  refine (row_any gc A1 A2 A3 c1 c2 c3 d1 d2 d3 x hx w hc hs hn).mono ?_
  rintro e w' ⟨u, q1, q2, q3, rfl, h1, h2, h3⟩
  exact ⟨u, rfl, ⟨q1, q2, q3, h1, h2⟩, h3⟩
theorem results_cells3 {P : Program} {fn : Func} {tmps : Array Value} {w : World} {p q r : Tmp} {ty tz tu : TypeId} {b d f : Nat} {v u x : Value} (h : fn.results = #[.cell p ty, .cell q tz, .cell r tu]) (hp : tmps.getD p undef = .pointer (some ⟨b, 0, none⟩)) (hq : tmps.getD q undef = .pointer (some ⟨d, 0, none⟩)) (hr : tmps.getD r undef = .pointer (some ⟨f, 0, none⟩))
    (hv : (loadVar ty ⟨b, 0, none⟩).run P w = .ok v w) (hu : (loadVar tz ⟨d, 0, none⟩).run P w = .ok u w) (hx : (loadVar tu ⟨f, 0, none⟩).run P w = .ok x w) : (results fn tmps).run P w = .ok (.tuple #[v, u, x]) w := by
  simp only [results, h]
  have hp' : tmps[p]?.getD undef = .pointer (some ⟨b, 0, none⟩) := by simpa using hp
  have hq' : tmps[q]?.getD undef = .pointer (some ⟨d, 0, none⟩) := by simpa using hq
  have hr' : tmps[r]?.getD undef = .pointer (some ⟨f, 0, none⟩) := by simpa using hr
  simp [hp', hq', hr', asAddr, hv, hu, hx]
def PicPost (w : World) (e : Ending) (w' : World) : Prop := ∃ b c d1 d2 d3, e = .returned (.tuple #[.agg (cod1 b c), .agg (frV d1 d2 d3), .int .i64 0]) ∧ NewFr w' 0 128 d1 d2 d3 ∧ Keep none_ w w'
set_option maxRecDepth 100000 in
set_option maxHeartbeats 8000000 in
theorem picture_any (A1 A2 A3 : Option Addr) (c1 c2 c3 : Nat) (w : World) (hs : FrC w 128 A1 A2 A3 c1 c2 c3) : Calls Tryz.prog 8 #[.agg plV, .agg plP, .bool false, .agg (srV A1 A2 A3 c1 c2 c3).toArray, .agg rfV, .int .i64 8] w (PicPost w) := by
  have hmf : ∀ (fn : Fn) (first cap : Array Value) (w : World), (Instr.makeFunc fn first cap).run Tryz.prog w = .ok (.func fn first cap) w := fun _ _ _ _ => rfl
  obtain ⟨Wa, hWa⟩ : ∃ Wa, Wa = ((w.alloc (.cells plV 26)).alloc (.cells plP 35)).alloc (.cells (srV A1 A2 A3 c1 c2 c3).toArray 32) := ⟨_, rfl⟩
  obtain ⟨Wb, hWb⟩ : ∃ Wb, Wb = ((Wa.alloc (.cells rfV 45)).alloc (.cells #[.int .i64 0, .int .i64 0, .int .i64 0, .bool false, .bool false, .bool false, .slice none 0 0, .slice none 0 0] 39)).alloc (.cells #[.int .i64 0, .int .i64 0, .slice none 0 0, .slice none 0 0, .slice none 0 0] 32) := ⟨_, rfl⟩
  obtain ⟨W0, hW0⟩ : ∃ W0, W0 = Wb.alloc (.cells #[.int .i64 0] 40) := ⟨_, rfl⟩
  obtain ⟨s0, p0, f0, ka⟩ := three (Keep.eq_ hWa)
  obtain ⟨r0, c0, g0, kb⟩ := three (Keep.eq_ hWb)
  have kc : Keep none_ Wb W0 := hW0 ▸ (Keep.refl _ _).alloc _
  have sa : Wa.heap.size = w.heap.size + 1 + 1 + 1 := by rw [hWa]; simp
  have sb : Wb.heap.size = w.heap.size + 1 + 1 + 1 + 1 + 1 + 1 := by rw [hWb]; simp [sa]
  have e0 : Blk W0 Wb.heap.size 40 #[.int .i64 0] := hW0 ▸ Blk.new _ _ _
  rw [sa] at r0 c0 g0
  rw [sb] at e0
  have S0 := Lib.hid ((s0.keep kb (fun e => e)).keep kc (fun e => e))
  have P0 := Lib.hid ((p0.keep kb (fun e => e)).keep kc (fun e => e))
  have F0 := Lib.hid ((f0.keep kb (fun e => e)).keep kc (fun e => e))
  have R0 := Lib.hid (r0.keep kc (fun e => e))
  have C0 := Lib.hid (show Blk W0 _ 39 codZ from c0.keep kc (fun e => e))
  have G0 := Lib.hid (g0.keep kc (fun e => e))
  have E0 := Lib.hid e0
  have K0 := Lib.hid ((ka.trans kb).trans kc)
  have HS0 := Lib.hid (((hs.keep ka).keep kb).keep kc)
  rw [hWb, hWa] at hW0
  have HSW := Lib.hid hs
  clear s0 p0 f0 r0 c0 g0 e0 ka kb kc sa sb hs hWa hWb
  go_enter_defers Tryz.func8, Tryz.ntmps8
  go_upto_region 1 with (fail)
  rw [← hW0]
  clear hW0
  have tk1 : True := trivial
  have tk2 : True := trivial
  have tk3 : True := trivial
  have tk4 : True := trivial
  go_upto_region 4 with (first | (have _t := tk1; refine wpList_load_part 26 (.tmp 6) rfl rfl (w.heap.size) (0) rfl (plV) _ (S0.out.rangeAt) Tryz.underlying26 rfl (by rw [plV_size]; kernel_rfl) ?_; go_frame; clear _t tk1) | (have _t := tk2; refine wpList_load_part 35 (.tmp 7) rfl rfl (w.heap.size + 1) (0) rfl (plP) _ (P0.out.rangeAt) Tryz.underlying35 rfl (by kernel_rfl) ?_; go_frame; clear _t tk2) | (have _t := tk3; go_at_call 18; refine (valid_pl _).mono ?_; rintro e w1 ⟨rfl, k⟩; have HS1 := Lib.hid (HS0.out.keep k); have S1 := Lib.hid (S0.out.keep k (fun e => e)); have P1 := Lib.hid (P0.out.keep k (fun e => e)); have F1 := Lib.hid (F0.out.keep k (fun e => e)); have R1 := Lib.hid (R0.out.keep k (fun e => e)); have C1 := Lib.hid (C0.out.keep k (fun e => e)); have G1 := Lib.hid (G0.out.keep k (fun e => e)); have E1 := Lib.hid (E0.out.keep k (fun e => e)); have K1 := Lib.hid (K0.out.trans k); clear k; clear _t tk3) | (have _t := tk4; go_at_call 12; refine (vqE8 _).mono ?_; rintro e w' ⟨rfl, rfl⟩; clear _t tk4))
  clear S0 P0 F0 R0 C0 G0 E0 HS0 K0
  have tk5 : True := trivial
  have tk6 : True := trivial
  have tk7 : True := trivial
  have tk8 : True := trivial
  have tk9 : True := trivial
  go_upto_region 7 with (first | (have _t := tk5; refine wpList_load_part 26 (.tmp 6) rfl rfl (w.heap.size) (0) rfl (plV) _ (S1.out.rangeAt) Tryz.underlying26 rfl (by rw [plV_size]; kernel_rfl) ?_; go_frame; clear _t tk5) | (have _t := tk6; refine wpList_load_part 35 (.tmp 7) rfl rfl (w.heap.size + 1) (0) rfl (plP) _ (P1.out.rangeAt) Tryz.underlying35 rfl (by kernel_rfl) ?_; go_frame; clear _t tk6) | (have _t := tk7; go_at_call 19; refine (rows_pl _).mono ?_; rintro e w2 ⟨rfl, k⟩; have HS2 := Lib.hid (HS1.out.keep k); have x0 : w2.cell? ⟨w.heap.size, 0, none⟩ = some (.int .i64 16) := ((S1.out.keep k (fun e => e)).cell 0).trans (by kernel_rfl); have S2 := Lib.hid (S1.out.keep k (fun e => e)); have P2 := Lib.hid (P1.out.keep k (fun e => e)); have F2 := Lib.hid (F1.out.keep k (fun e => e)); have R2 := Lib.hid (R1.out.keep k (fun e => e)); have C2 := Lib.hid (C1.out.keep k (fun e => e)); have G2 := Lib.hid (G1.out.keep k (fun e => e)); have E2 := Lib.hid (E1.out.keep k (fun e => e)); have K2 := Lib.hid (K1.out.trans k); clear k; clear _t tk7) | (have _t := tk8; refine wpList_load_part 32 (.tmp 9) rfl rfl (w.heap.size + 1 + 1) (0) rfl (#[.int .i64 16, .int .i64 16, .slice A1 256 c1, .slice A2 64 c2, .slice A3 64 c3]) _ (F2.out.rangeAt) Tryz.underlying32 rfl (by kernel_rfl) ?_; go_frame; clear _t tk8) | (have _t := tk9; go_at_call 20; refine (sized_any A1 A2 A3 c1 c2 c3 _).mono ?_; rintro e w3 ⟨rfl, k⟩; have HS3 := Lib.hid (HS2.out.keep k); have S3 := Lib.hid (S2.out.keep k (fun e => e)); have P3 := Lib.hid (P2.out.keep k (fun e => e)); have F3 := Lib.hid (F2.out.keep k (fun e => e)); have R3 := Lib.hid (R2.out.keep k (fun e => e)); have C3 := Lib.hid (C2.out.keep k (fun e => e)); have G3 := Lib.hid (G2.out.keep k (fun e => e)); have E3 := Lib.hid (E2.out.keep k (fun e => e)); have K3 := Lib.hid (K2.out.trans k); clear k; clear _t tk9))
  clear x0 S1 P1 F1 R1 C1 G1 E1 HS1 K1 S2 P2 F2 R2 C2 G2 E2 HS2 K2
  have tk10 : True := trivial
  have tk11 : True := trivial
  have tk12 : True := trivial
  have tk13 : True := trivial
  have tk14 : True := trivial
  have tk15 : True := trivial
  go_upto_region 10 with (first | (have _t := tk10; refine wpList_load_part 26 (.tmp 6) rfl rfl (w.heap.size) (0) rfl (plV) _ (S3.out.rangeAt) Tryz.underlying26 rfl (by rw [plV_size]; kernel_rfl) ?_; go_frame; clear _t tk10) | (have _t := tk11; refine wpList_load_part 35 (.tmp 7) rfl rfl (w.heap.size + 1) (0) rfl (plP) _ (P3.out.rangeAt) Tryz.underlying35 rfl (by kernel_rfl) ?_; go_frame; clear _t tk11) | (have _t := tk12; refine wpList_build_is 39 _ rfl rfl cod0 (by kernel_rfl) ?_; go_frame; clear _t tk12) | (have _t := tk13; refine wpList_load_part 45 (.tmp 10) rfl rfl (w.heap.size + 1 + 1 + 1) (0) rfl (rfV) _ (R3.out.rangeAt) Tryz.underlying45 rfl (by kernel_rfl) ?_; go_frame; clear _t tk13) | (have _t := tk14; go_at_call 21; refine (decode_pl _).mono ?_; rintro e w4 ⟨d1, d2, d3, A, rfl, k⟩; have HS4 := Lib.hid (HS3.out.keep k); have S4 := Lib.hid (S3.out.keep k (fun e => e)); have P4 := Lib.hid (P3.out.keep k (fun e => e)); have F4 := Lib.hid (F3.out.keep k (fun e => e)); have R4 := Lib.hid (R3.out.keep k (fun e => e)); have C4 := Lib.hid (C3.out.keep k (fun e => e)); have G4 := Lib.hid (G3.out.keep k (fun e => e)); have E4 := Lib.hid (E3.out.keep k (fun e => e)); have K4 := Lib.hid (K3.out.trans k); clear k; clear _t tk14) | (have _t := tk15; refine wpList_store_blk rfl 32 (.tmp 16) (.tmp 60) rfl (w4.heap.size) 32 _ (frV d1 d2 d3) rfl rfl (Blk.new _ _ _) (rfl) (by kernel_rfl) (by kernel_rfl) ?_; intro w5 B5_ KX5_ sz_; have B5 := Lib.hid B5_; have KX5 := Lib.hid KX5_; clear B5_ KX5_ sz_; go_frame; clear _t tk15))
  have k45 : Keep none_ w4 w5 := ((Keep.refl none_ w4).alloc _).own KX5.out (Nat.le_refl _)
  have S5 := Lib.hid (S4.out.keep k45 (fun e => e))
  have P5 := Lib.hid (P4.out.keep k45 (fun e => e))
  have F5 := Lib.hid (F4.out.keep k45 (fun e => e))
  have R5 := Lib.hid (R4.out.keep k45 (fun e => e))
  have C5 := Lib.hid (C4.out.keep k45 (fun e => e))
  have G5 := Lib.hid (G4.out.keep k45 (fun e => e))
  have E5 := Lib.hid (E4.out.keep k45 (fun e => e))
  have HS5 := Lib.hid (HS4.out.keep k45)
  have K5 := Lib.hid (K4.out.trans k45)
  clear k45 KX5 B5 S3 P3 F3 R3 C3 G3 E3 HS3 K3 S4 P4 F4 R4 C4 G4 E4 HS4 K4
  have tk16 : True := trivial
  have tk17 : True := trivial
  have tk18 : True := trivial
  have tk19 : True := trivial
  have tk20 : True := trivial
  have tk21 : True := trivial
  have tk22 : True := trivial
  go_upto_region 12 with (first | (have _t := tk16; refine wpList_load_part 26 (.tmp 6) rfl rfl (w.heap.size) (0) rfl (plV) _ (S5.out.rangeAt) Tryz.underlying26 rfl (by rw [plV_size]; kernel_rfl) ?_; go_frame; clear _t tk16) | (have _t := tk17; refine wpList_load_part 35 (.tmp 7) rfl rfl (w.heap.size + 1) (0) rfl (plP) _ (P5.out.rangeAt) Tryz.underlying35 rfl (by kernel_rfl) ?_; go_frame; clear _t tk17) | (have _t := tk18; refine wpList_load_part 32 (.tmp 9) rfl rfl (w.heap.size + 1 + 1) (0) rfl ((srV A1 A2 A3 c1 c2 c3).toArray) _ (F5.out.rangeAt) Tryz.underlying32 rfl (by kernel_rfl) ?_; go_frame; clear _t tk18) | (have _t := tk19; refine wpList_load_part 45 (.tmp 10) rfl rfl (w.heap.size + 1 + 1 + 1) (0) rfl (rfV) _ (R5.out.rangeAt) Tryz.underlying45 rfl (by kernel_rfl) ?_; go_frame; clear _t tk19) | (have _t := tk20; go_at_call 22; refine (newCoder_any A1 A2 A3 c1 c2 c3 _).mono ?_; rintro e w6 ⟨gc, r1, r2, r3, rfl, hg, hb, hn, k⟩; have HS6 := Lib.hid (HS5.out.keep k); have CA6 := Lib.hid (show CdAt gc A1 A2 A3 c1 c2 c3 w6 from ⟨0, r1, r2, r3, by decide, hb, hn.low (Nat.zero_le _)⟩); have LC := Lib.hid (show w.heap.size + 1 + 1 + 1 + 1 + 1 + 1 < gc from Nat.lt_of_lt_of_le E5.out.lt hg); clear hg hb hn; have P6 := Lib.hid (P5.out.keep k (fun e => e)); have C6 := Lib.hid (C5.out.keep k (fun e => e)); have G6 := Lib.hid (G5.out.keep k (fun e => e)); have E6 := Lib.hid (E5.out.keep k (fun e => e)); have K6 := Lib.hid (K5.out.trans k); clear k; clear _t tk20) | (have _t := tk21; refine wpList_load_part 35 (.tmp 7) rfl rfl (w.heap.size + 1) (0) rfl (plP) _ (P6.out.rangeAt) Tryz.underlying35 rfl (by kernel_rfl) ?_; go_frame; clear _t tk21) | (have _t := tk22; refine wpList_store_part rfl 35 (.tmp 76) (.tmp 75) rfl (w.heap.size + 1 + 1 + 1 + 1) 0 39 codZ plP rfl rfl C6.out (by decide) (by kernel_rfl) (by kernel_rfl) ?_; intro w7 c7_ k7_ s7_; have C7 := Lib.hid (show Blk w7 _ 39 cod0 from by rw [show laid codZ 0 plP.toList = cod0 from by kernel_rfl] at c7_; exact c7_); have K7 := Lib.hid k7_; clear c7_ k7_ s7_; go_frame; clear _t tk22))
  obtain ⟨g4, hg4⟩ : ∃ g4, g4 = w.heap.size + 1 + 1 + 1 + 1 := ⟨_, rfl⟩
  have L4 := Lib.hid (show w.heap.size ≤ g4 ∧ g4 + 1 + 1 < gc from ⟨by omega, by have := LC.out; omega⟩)
  have CA7 := Lib.hid (CA6.out.past C6.out (by decide) (by decide) K7.out)
  have G7 := Lib.hid (G6.out.keep K7.out (fun e => by unfold one at e; omega))
  have E7 := Lib.hid (E6.out.keep K7.out (fun e => by unfold one at e; omega))
  have KA7 := Lib.hid (show Keep none_ w w7 from K6.out.own K7.out (by omega))
  rw [← hg4] at C7 G7 E7 ⊢
  clear hg4 K7 CA6 C6 G6 E6 K6 P6 HS6 LC S5 P5 F5 R5 C5 G5 E5 HS5 K5
  go_wp2_with (fail)
  go_loopw [78] (fun i wr => (i = .int .i64 0 ∧ wr = w7) ∨ (i = .int .i64 1 ∧ ∃ b c, Blk wr g4 39 (cod1 b c) ∧ Blk wr (g4 + 1) 32 #[.int .i64 0, .int .i64 0, .slice none 0 0, .slice none 0 0, .slice none 0 0] ∧ Blk wr (g4 + 1 + 1) 40 #[.int .i64 0] ∧ CdDone gc A1 A2 A3 c1 c2 c3 wr ∧ Keep none_ w wr)) (fun i _ => 1 - (intOf i).toNat)
  case atStart => exact .inl ⟨rfl, rfl⟩
  case round =>
    rcases hrel with ⟨rfl, rfl⟩ | ⟨rfl, b, c, hb, hg, he, hd, hk⟩
    · have LG := Lib.hid (show gc < wr.heap.size from by obtain ⟨x, d1, d2, d3, -, hb, -⟩ := CA7.out; exact hb.lt)
      have OG := Lib.hid (show ∀ x, wr.heap.size ≤ x ∨ x < gc → ¬ one gc x from fun x h e => by have := LG.out; unfold one at e; omega)
      have FK : ∀ x y : World, CdAt gc A1 A2 A3 c1 c2 c3 x → Keep none_ x y → CdAt gc A1 A2 A3 c1 c2 c3 y := fun _ _ h k => h.keep k
      have F0 := CA7.out
      have FD : CdAt gc A1 A2 A3 c1 c2 c3 wr.drew := CA7.out.keep (Keep.refl none_ _).drew
      obtain ⟨ie, z, hie, hiz, his⟩ := info_is (P := Tryz.prog) (t := 60) (n := 2) (by kernel_rfl)
      have hs1 : ¬ 1 * ie.size > 2 ^ 24 := by rw [his]; decide
      have hs2 : ¬ 1 * ie.size = 0 := by rw [his]; decide
      have hct : ∀ u, Contig (fun i => some (i * ie.size, ie.size)) 0 [(0, Value.agg (unV u))] := fun u => ⟨by show some (0 * ie.size, ie.size) = some (0, (unV u).size); rw [his]; rfl, trivial⟩
      have hal : ∀ u, (allCells [(0, Value.agg (unV u))]).length = 1 * ie.size := fun u => by rw [his]; rfl
      go_upto_region 15 with (fail)
      obtain ⟨X4, S4, Q4, H4⟩ : ∃ X : List Value → Value → World → Prop, (∀ vs v w w', X vs v w → Keep none_ w w' → X vs v w') ∧ (4 ≠ 4 → ∀ vs v w w', X vs v w → Keep (one gc) w w' → X vs v w') ∧ ∀ vs v w, X vs v w ↔ ((∃ u, v = .agg (unV u)) ∧ CdDone gc A1 A2 A3 c1 c2 c3 w) := ⟨fun vs v w => (∃ u, v = .agg (unV u)) ∧ CdDone gc A1 A2 A3 c1 c2 c3 w, fun vs v w w' h k => by first | exact h | exact ⟨h.1, h.2.keep k⟩, fun e => absurd rfl e, fun _ _ _ => Iff.rfl⟩
      obtain ⟨X5, S5, Q5, H5⟩ : ∃ X : List Value → Value → World → Prop, (∀ vs v w w', X vs v w → Keep none_ w w' → X vs v w') ∧ (5 ≠ 4 → ∀ vs v w w', X vs v w → Keep (one gc) w w' → X vs v w') ∧ ∀ vs v w, X vs v w ↔ (OneS wr.heap.size 60 vs v w) := ⟨fun vs v w => OneS wr.heap.size 60 vs v w, fun vs v w w' h k => by first | exact h | exact OneS.keep h k (fun _ _ e => e), fun _ vs v w w' h k => by first | exact h | exact OneS.keep h k (fun b hb => OG.out b (.inl hb)), fun _ _ _ => Iff.rfl⟩
      obtain ⟨X6, S6, Q6, H6⟩ : ∃ X : List Value → Value → World → Prop, (∀ vs v w w', X vs v w → Keep none_ w w' → X vs v w') ∧ (6 ≠ 4 → ∀ vs v w w', X vs v w → Keep (one gc) w w' → X vs v w') ∧ ∀ vs v w, X vs v w ↔ (∃ b c, v = .slice (some ⟨b, 0, none⟩) 1 c) := ⟨fun vs v w => ∃ b c, v = .slice (some ⟨b, 0, none⟩) 1 c, fun vs v w w' h k => by first | exact h | exact h, fun _ vs v w w' h k => by first | exact h | exact h, fun _ _ _ => Iff.rfl⟩
      have gd : (muCalm (wr) (one gc) (fun w => CdAt gc A1 A2 A3 c1 c2 c3 w) 4 (fun k => if k = 6 then [5] else []) [⟨4, X4, S4, Q4⟩, ⟨5, X5, S5, Q5⟩, ⟨6, X6, S6, Q6⟩]).Good := muCalm_good
      have ne : Nonempty (muCalm (wr) (one gc) (fun w => CdAt gc A1 A2 A3 c1 c2 c3 w) 4 (fun k => if k = 6 then [5] else []) [⟨4, X4, S4, Q4⟩, ⟨5, X5, S5, Q5⟩, ⟨6, X6, S6, Q6⟩]).Sub := muCalm_some F0
      have x7 : ∀ y : (muCalm (wr) (one gc) (fun w => CdAt gc A1 A2 A3 c1 c2 c3 w) 4 (fun k => if k = 6 then [5] else []) [⟨4, X4, S4, Q4⟩, ⟨5, X5, S5, Q5⟩, ⟨6, X6, S6, Q6⟩]).Sub, ((muCalm (wr) (one gc) (fun w => CdAt gc A1 A2 A3 c1 c2 c3 w) 4 (fun k => if k = 6 then [5] else []) [⟨4, X4, S4, Q4⟩, ⟨5, X5, S5, Q5⟩, ⟨6, X6, S6, Q6⟩]).at_ y).cell? ⟨g4, 7, none⟩ = some (.slice none 0 0) := fun y => by have k := muCalm_at y; have fF := muCalm_F y; exact (C7.out.keep k (OG.out _ (.inr (by have := L4.out.2; omega)))).cell 7
      refine wp_region_calm (muCalm (wr) (one gc) (fun w => CdAt gc A1 A2 A3 c1 c2 c3 w) 4 (fun k => if k = 6 then [5] else []) [⟨4, X4, S4, Q4⟩, ⟨5, X5, S5, Q5⟩, ⟨6, X6, S6, Q6⟩]) [0, 1, 2, 3, 4, 5, 6, 7] [8] 95 (by kernel_rfl) (by kernel_rfl) rfl gd ⟨(Keep.refl _ _).drew, FD⟩ ?_
      simp only [pairs, List.filterMap_cons, List.filterMap_nil, List.getElem?_toArray, List.getElem?_cons_succ, List.getElem?_cons_zero, Option.map_some]
      repeat (refine Calm.walk_quiet ne rfl rfl rfl (fun K hK => ?_); go_big_quiet_op; refine hK _ ?_; clear hK K)
      refine Calm.walk_eff rfl rfl (fun n wy _ hR hA => ?_) ?_
      · have kR : Keep (one gc) (wr) wy := hR.1; have fR := hR.2
        unfold gives
        go_simp
        refine (row_cd gc A1 A2 A3 c1 c2 c3 wy fR (HSW.out.keep (KA7.out.own kR (by have := L4.out.1; have := L4.out.2; omega)))).mono ?_
        rintro e wz ⟨u, rfl, hd, hk⟩
        exact ⟨_, rfl, (H4 _ _ _).2 (⟨⟨u, rfl⟩, hd⟩), mu_Rm hk, ⟨kR.trans hk, hd.at_⟩, fun _ h => h.elim⟩
      intro v wy hv
      obtain ⟨⟨u, rfl⟩, -⟩ : (∃ u, v = .agg (unV u)) ∧ CdDone gc A1 A2 A3 c1 c2 c3 wy := (H4 _ _ _).1 hv
      clear hv
      clear wy
      go_frame
      refine Calm.walk_eff rfl rfl (fun n wy _ hR _ => ?_) ?_
      · exact gives_buildSlice 37 60 1 _ rfl Tryz.underlying37 hie hiz hs1 hs2 [(0, .agg (unV u))] rfl (hct u) (hal u) ⟨(H5 _ _ _).2 ⟨_, _, rfl, hR.1.size, Blk.new _ _ _, rfl⟩, mu_R (by decide) ((Keep.refl _ _).alloc _), ⟨hR.1.alloc _, FK _ _ hR.2 ((Keep.refl _ _).alloc _)⟩, fun _ h => h.elim⟩
      intro v wy hv
      obtain ⟨b5, cs5, rfl, -, -, -⟩ := (H5 _ _ _).1 hv
      clear hv wy
      go_frame
      refine Calm.walk_eff rfl rfl (fun n wy _ hR hA => ?_) ?_
      · have AF5 : OneS wr.heap.size 60 [.agg (unV u)] (.slice (some ⟨b5, 0, none⟩) 1 1) wy := (H5 _ _ _).1 (show X5 _ _ wy from (hA 5 (by simp [muCalm]) _ rfl ⟨rfl, rfl⟩).1)
        have hb5 : Blk wy b5 60 (unV u) := by
          obtain ⟨b', cs, e1, -, hb, e2⟩ := AF5
          simp only [Value.slice.injEq, Option.some.injEq, Addr.mk.injEq, and_true] at e1
          simp only [List.getElem?_cons_zero, Option.some.injEq, Value.agg.injEq] at e2
          subst e1; subst e2
          exact hb
        refine gives_mono (gives_append1 (.tmp 82) (.tmp 86) 37 60 rfl wy.heap.size _ 2 32 Tryz.underlying37 un_info rfl (by decide) (.slice none 0 0) 0 [] rfl (World.ownsRow_nil _ _ _ _) b5 (unV u) rfl hb5 rfl (by simp [unV, Value.oneCell']) (by decide) (Nat.le_refl _)) fun v' w' h => ?_
        obtain ⟨h1, h2, -⟩ := h
        have hk : Keep none_ wy w' := h2.mono (fun b e => by cases e)
        obtain ⟨b', c', cur, rfl, -⟩ := own_cases h1 (by decide)
        exact ⟨(H6 _ _ _).2 ⟨b', c', rfl⟩, mu_R (by decide) hk, ⟨hR.1.trans hk.weak, FK _ _ hR.2 hk⟩, fun _ h => h.elim⟩
      intro v wy hv
      obtain ⟨b6, c6, rfl⟩ := (H6 _ _ _).1 hv
      clear hv wy
      go_frame
      repeat (refine Calm.walk_quiet ne rfl rfl rfl (fun K hK => ?_); go_big_quiet_op; refine hK _ ?_; clear hK K)
      intro w8 hG hD
      have K8 := Lib.hid (show Keep (one gc) (wr) w8 from hG.1)
      have FK8 := Lib.hid (show (fun w => CdAt gc A1 A2 A3 c1 c2 c3 w) w8 from hG.2)
      have T4 := Lib.hid ((H4 _ _ _).1 (show X4 _ _ w8 from (hD.1 4 rfl _ rfl ⟨rfl, rfl⟩).1))
      have T5 := Lib.hid ((H5 _ _ _).1 (show X5 _ _ w8 from (hD.1 5 rfl _ rfl ⟨rfl, rfl⟩).1))
      have T6 := Lib.hid ((H6 _ _ _).1 (show X6 _ _ w8 from (hD.1 6 rfl _ rfl ⟨rfl, rfl⟩).1))
      clear hG hD gd ne x7
      clear H4 H5 H6
      clear S4 S5 S6 Q4 Q5 Q6
      clear X4 X5 X6
      simp only [pickOps, List.filterMap_cons, List.filterMap_nil, List.getElem?_toArray, List.getElem?_cons_succ, List.getElem?_cons_zero]
      have D8 := Lib.hid (show CdDone gc A1 A2 A3 c1 c2 c3 w8 from T4.out.2)
      have NG := Lib.hid (show ∀ x, x < gc → ¬ one gc x from fun x h => OG.out x (.inr h))
      have C8 := Lib.hid (C7.out.keep K8.out (NG.out _ (by have := L4.out.2; omega)))
      have G8 := Lib.hid (G7.out.keep K8.out (NG.out _ (by have := L4.out.2; omega)))
      have E8 := Lib.hid (E7.out.keep K8.out (NG.out _ L4.out.2))
      have KA8 := Lib.hid (show Keep none_ w w8 from KA7.out.own K8.out (by have := L4.out.1; have := L4.out.2; omega))
      clear T4 T5 T6 FK F0 FD FK8 hie hiz his hs1 hs2 hct hal C7 G7 E7 KA7
      have x7 : w8.cell? ⟨g4, 7, none⟩ = some (.slice none 0 0) := C8.out.cell 7
      have z7 := Blk.frozen C8.out 7
      go_upto_region 16 with (fail)
      obtain ⟨w9, hw9⟩ : ∃ w9, w9 = w8.setCell ⟨g4, 7, none⟩ (.slice (some ⟨b6, 0, none⟩) 1 c6) := ⟨_, rfl⟩
      rw [← hw9]
      have k9 : Keep (one g4) w8 w9 := hw9 ▸ (Keep.refl (one g4) w8).setCell (p := ⟨g4, 7, none⟩) (.inl rfl) _
      have C9 := Lib.hid (show Blk w9 g4 39 (cod1 b6 c6) from hw9 ▸ C8.out.set_ 7 _)
      have G9 := Lib.hid (G8.out.keep k9 (fun e => by unfold one at e; omega))
      have E9 := Lib.hid (E8.out.keep k9 (fun e => by unfold one at e; omega))
      have D9 := Lib.hid (D8.out.past C8.out (by decide) (by decide) k9)
      have KA9 := Lib.hid (show Keep none_ w w9 from KA8.out.own k9 L4.out.1)
      clear k9 hw9 x7 z7 C8 G8 E8 D8 KA8
      go_wp2_with (fail)
      go_roundw
      case rel => exact .inr ⟨rfl, b6, c6, C9.out, G9.out, E9.out, D9.out, KA9.out⟩
      case measure => simp [intOf]
    · obtain ⟨d1, d2, d3, hdb, hdn⟩ := hd
      have B := Lib.hid hb
      have G := Lib.hid hg
      have E := Lib.hid he
      have DB := Lib.hid hdb
      have DN := Lib.hid hdn
      have K := Lib.hid hk
      clear hb hg he hdb hdn hk
      go_upto_region 17 with (fail)
      obtain ⟨it, hit⟩ : ∃ it : Nat → ResI, it = fun k => if k = 5 then ⟨g4, 39, cod1 b c, cod1 b c⟩ else if k = 6 then ⟨g4 + 1, 32, #[.int .i64 0, .int .i64 0, .slice none 0 0, .slice none 0 0, .slice none 0 0], frV d1 d2 d3⟩ else ⟨g4 + 1 + 1, 40, #[.int .i64 0], #[.int .i64 0]⟩ := ⟨_, rfl⟩
      have i5 : it 5 = ⟨g4, 39, cod1 b c, cod1 b c⟩ := by rw [hit]; rfl
      have i6 : it 6 = ⟨g4 + 1, 32, #[.int .i64 0, .int .i64 0, .slice none 0 0, .slice none 0 0, .slice none 0 0], frV d1 d2 d3⟩ := by rw [hit]; rfl
      have i7 : it 7 = ⟨g4 + 1 + 1, 40, #[.int .i64 0], #[.int .i64 0]⟩ := by rw [hit]; rfl
      clear hit
      have hd : ∀ i k, i ∈ [5, 6, 7] → k ∈ [5, 6, 7] → i ≠ k → (it i).b ≠ (it k).b := fun i k hi hk hne => by
        simp only [List.mem_cons, List.not_mem_nil, or_false] at hi hk
        rcases hi with rfl | rfl | rfl <;> rcases hk with rfl | rfl | rfl <;> first | exact absurd rfl hne | (simp only [i5, i6, i7]; omega)
      have hst : (resCalm wr [5, 6, 7] it).G 0 wr.drew := res_start (fun k hk => by
        simp only [List.mem_cons, List.not_mem_nil, or_false] at hk
        rcases hk with rfl | rfl | rfl
        · rw [i5]; exact B.out
        · rw [i6]; exact G.out
        · rw [i7]; exact E.out)
      have hfar : ∀ x : Nat, ¬ (∃ k, k ∈ [5, 6, 7] ∧ (it k).b = x) ∨ x = g4 ∨ x = g4 + 1 ∨ x = g4 + 1 + 1 := fun x => by
        by_cases h : ∃ k, k ∈ [5, 6, 7] ∧ (it k).b = x
        · obtain ⟨k, hk, e⟩ := h
          simp only [List.mem_cons, List.not_mem_nil, or_false] at hk
          rcases hk with rfl | rfl | rfl
          · rw [i5] at e; exact .inr (.inl e.symm)
          · rw [i6] at e; exact .inr (.inr (.inl e.symm))
          · rw [i7] at e; exact .inr (.inr (.inr e.symm))
        · exact .inl h
      have FAR := Lib.hid hfar
      clear hfar
      have gd := resCalm_good wr [5, 6, 7] it hd
      have ne : Nonempty (resCalm wr [5, 6, 7] it).Sub := ⟨⟨wr.drew, 0, Nat.zero_le _, hst⟩⟩
      have x1 : ∀ x : (resCalm wr [5, 6, 7] it).Sub, ((resCalm wr [5, 6, 7] it).at_ x).rangeAt g4 0 (cod1 b c).toList := fun x => by have h := res_same x 5 (by simp) (by rw [i5]); rw [i5] at h; exact h.rangeAt
      have x2 : ∀ x : (resCalm wr [5, 6, 7] it).Sub, ((resCalm wr [5, 6, 7] it).at_ x).rangeAt gc 196 (frV d1 d2 d3).toList := fun x => (DB.out.keep (res_far x) ((FAR.out gc).resolve_right (by have := L4.out.2; omega))).sub 196 (frV d1 d2 d3).toList (by kernel_rfl)
      refine wp_region_calm (resCalm wr [5, 6, 7] it) [0, 1, 2, 3, 4, 5, 6, 7] [] 95 (by kernel_rfl) (by kernel_rfl) rfl gd hst ?_
      simp only [pairs, List.filterMap_cons, List.filterMap_nil, List.getElem?_toArray, List.getElem?_cons_succ, List.getElem?_cons_zero, Option.map_some]
      refine Calm.walk_load 39 (.tmp 12) rfl ne rfl rfl g4 0 rfl (cod1 b c) _ x1 Tryz.underlying39 rfl (by kernel_rfl) ?_
      go_frame
      repeat (refine Calm.walk_quiet ne rfl rfl rfl (fun K hK => ?_); go_big_quiet_op; refine hK _ ?_; clear hK K)
      refine Calm.walk_load 32 (.tmp 93) rfl ne rfl rfl gc 196 rfl (frV d1 d2 d3) _ x2 Tryz.underlying32 rfl (by kernel_rfl) ?_
      go_frame
      refine Calm.walk_eff rfl rfl (fun n wy hn hG _ => gives_mono (res_step hd (k := 5) (by simp) hG 39 (.tmp 12) (.tmp 90) rfl (by rw [i5]; rfl) (by rw [i5]; rfl) (by rw [i5]) (by rw [i5]; kernel_rfl) (by rw [i5]; kernel_rfl) [] undef) (fun _ _ h => h)) ?_
      rintro vq wy -
      clear wy
      go_frame
      refine Calm.walk_eff rfl rfl (fun n wy hn hG _ => gives_mono (res_step hd (k := 6) (by simp) hG 32 (.tmp 13) (.tmp 94) rfl (by rw [i6]; rfl) (by rw [i6]; rfl) (by rw [i6]; rfl) (by rw [i6]; kernel_rfl) (by rw [i6]; kernel_rfl) [] undef) (fun _ _ h => h)) ?_
      rintro vq wy -
      clear wy
      go_frame
      refine Calm.walk_eff rfl rfl (fun n wy hn hG _ => ?_) ?_
      · obtain ⟨g1, g2⟩ := hG
        have hb7 : Blk wy (g4 + 1 + 1) 40 #[.int .i64 0] := by
          have h := g2 7 (by simp)
          rw [i7] at h
          exact h.elim id id
        have xc : wy.cell? ⟨g4 + 1 + 1, 0, none⟩ = some (.int .i64 0) := hb7.cell 0
        have zf := Blk.frozen hb7 0
        have kS : Keep (one (g4 + 1 + 1)) wy (wy.setCell ⟨g4 + 1 + 1, 0, none⟩ (.int .i64 0)) := (Keep.refl (one (g4 + 1 + 1)) wy).setCell (p := ⟨g4 + 1 + 1, 0, none⟩) (.inl rfl) _
        have fin : (resCalm wr [5, 6, 7] it).T 7 [] undef (wy.setCell ⟨g4 + 1 + 1, 0, none⟩ (.int .i64 0)) ∧ (resCalm wr [5, 6, 7] it).R 7 wy (wy.setCell ⟨g4 + 1 + 1, 0, none⟩ (.int .i64 0)) ∧ (resCalm wr [5, 6, 7] it).G (n + 1) (wy.setCell ⟨g4 + 1 + 1, 0, none⟩ (.int .i64 0)) := by
          have hb8 : Blk (wy.setCell ⟨g4 + 1 + 1, 0, none⟩ (.int .i64 0)) (g4 + 1 + 1) 40 #[.int .i64 0] := hb7.set_ 0 _
          refine ⟨by show Blk _ _ _ _; rw [i7]; exact hb8, kS.mono (fun x e => ⟨by simp, by rw [i7]; exact Eq.symm e⟩), g1.trans (kS.mono (fun x e => ⟨7, by simp, by rw [i7]; exact Eq.symm e⟩)), fun k hk => ?_⟩
          simp only [List.mem_cons, List.not_mem_nil, or_false] at hk
          rcases hk with rfl | rfl | rfl
          · have h := g2 5 (by simp)
            rw [i5] at h ⊢
            exact h.imp (fun h => h.keep kS (fun e => by have e' : g4 = g4 + 1 + 1 := e; omega)) (fun h => h.keep kS (fun e => by have e' : g4 = g4 + 1 + 1 := e; omega))
          · have h := g2 6 (by simp)
            rw [i6] at h ⊢
            exact h.imp (fun h => h.keep kS (fun e => by have e' : g4 + 1 = g4 + 1 + 1 := e; omega)) (fun h => h.keep kS (fun e => by have e' : g4 + 1 = g4 + 1 + 1 := e; omega))
          · rw [i7]; exact .inl hb8
        refine gives_mono (X := fun v w' => v = undef ∧ w' = wy.setCell ⟨g4 + 1 + 1, 0, none⟩ (.int .i64 0)) ?_ ?_
        · unfold gives
          go_simp
          try exact ⟨rfl, rfl⟩
        · rintro _ _ ⟨rfl, rfl⟩
          exact ⟨fin.1, fin.2.1, fin.2.2, fun _ h => h.elim⟩
      rintro vq wy -
      clear wy
      go_frame
      intro v3 hG hD
      have B3 := Lib.hid (show Blk v3 g4 39 (cod1 b c) from by have h : Blk v3 (it 5).b (it 5).t (it 5).cs := (hD.1 5 rfl _ rfl ⟨rfl, rfl⟩).1; rw [i5] at h; exact h)
      have G3 := Lib.hid (show Blk v3 (g4 + 1) 32 (frV d1 d2 d3) from by have h : Blk v3 (it 6).b (it 6).t (it 6).cs := (hD.1 6 rfl _ rfl ⟨rfl, rfl⟩).1; rw [i6] at h; exact h)
      have E3 := Lib.hid (show Blk v3 (g4 + 1 + 1) 40 #[.int .i64 0] from by have h : Blk v3 (it 7).b (it 7).t (it 7).cs := (hD.1 7 rfl _ rfl ⟨rfl, rfl⟩).1; rw [i7] at h; exact h)
      have hk3 : Keep (fun x => x = g4 ∨ x = g4 + 1 ∨ x = g4 + 1 + 1) wr v3 := hG.1.mono (fun x e => (FAR.out x).resolve_left (fun h => h e))
      have K3 := Lib.hid (show Keep none_ w v3 from K.out.then hk3 (fun x e => .inr (by have := L4.out.1; omega)))
      have N3 := Lib.hid (DN.out.keep hk3 (fun e => by
        rcases e with e | e | e
        · exact Blk.ne_ DN.out.y.1 B.out (by decide) e
        · exact Blk.ne_ DN.out.y.1 G.out (by decide) e
        · exact Blk.ne_ DN.out.y.1 E.out (by decide) e) (fun e => by
        rcases e with e | e | e
        · exact Blk.ne_ DN.out.u.1 B.out (by decide) e
        · exact Blk.ne_ DN.out.u.1 G.out (by decide) e
        · exact Blk.ne_ DN.out.u.1 E.out (by decide) e) (fun e => by
        rcases e with e | e | e
        · exact Blk.ne_ DN.out.v.1 B.out (by decide) e
        · exact Blk.ne_ DN.out.v.1 G.out (by decide) e
        · exact Blk.ne_ DN.out.v.1 E.out (by decide) e))
      clear hG hD gd ne x1 x2 hst hd i5 i6 i7 hk3 B G E DB DN K FAR
      simp only [pickOps, List.filterMap_nil]
      go_wp2
      refine leaves_cons (f := 17) (args := #[.pointer (some ⟨g4, 0, none⟩), .pointer (some ⟨g4 + 1, 0, none⟩), .pointer (some ⟨g4 + 1 + 1, 0, none⟩)]) (by simp) (by simp [go_sem]) ?_
      refine (deferred_any _ _ _ _).mono ?_
      rintro e u' w'' ⟨rfl, rfl, rfl⟩
      exact ⟨_, results_cells3 Tryz.results8 rfl rfl rfl (run_loadVar_blk B3.out Tryz.underlying39 rfl (by kernel_rfl)) (run_loadVar_blk G3.out Tryz.underlying32 rfl (by kernel_rfl)) (run_loadVar_one (E3.out.cell 0) Tryz.underlying40 rfl), b, c, d1, d2, d3, rfl, N3.out, K3.out⟩
end Go.Proofs.YtebdgoikmclflaaGreatDoor
