/-
  quant.Scan: 64 numbers, each at least 0 and less than 64.
-/
import Derived.Test.YtebdgoikmclflaaGreatDoorEb27
namespace Go.Proofs.YtebdgoikmclflaaGreatDoor
open Go.RowKit

set_option maxRecDepth 100000 in
set_option maxHeartbeats 1000000 in
theorem len64_any (n : Nat) (hn : n ≤ 8) (w : World) : Calls Tryz.prog 193 #[.int .u64 n] w fun e w' => ∃ r : Int, e = .returned (.int .i64 r) ∧ (n = 1 → r = 1) ∧ w = w' := by
  rcases (show n = 0 ∨ n = 1 ∨ n = 2 ∨ n = 3 ∨ n = 4 ∨ n = 5 ∨ n = 6 ∨ n = 7 ∨ n = 8 by omega) with rfl | rfl | rfl | rfl | rfl | rfl | rfl | rfl | rfl
  all_goals
    go_enter Tryz.func193, Tryz.ntmps193
    go_wp2
    go_ret
    exact ⟨_, rfl, by first | (intro h; exact absurd h (by decide)) | (intro _; kernel_rfl), rfl⟩
set_option maxRecDepth 100000 in
set_option maxHeartbeats 1000000 in
theorem len_any (n : Nat) (hn : n ≤ 8) (w : World) : Calls Tryz.prog 183 #[.int .u64 n] w fun e w' => ∃ r : Int, e = .returned (.int .i64 r) ∧ (n = 1 → r = 1) ∧ w = w' := by
  have hn' : (n : Int) ≤ 8 := by omega
  go_enter Tryz.func183, Tryz.ntmps183
  go_wp2_with (go_at_call 193; refine (len64_any n hn _).mono ?_; rintro e w' ⟨r, rfl, hr, rfl⟩; have HR := Lib.hid hr; clear hr)
  go_ret
  exact ⟨r, rfl, HR.out, rfl⟩
set_option maxRecDepth 100000 in
set_option maxHeartbeats 4000000 in
theorem pdq_any (gx f m c bs : Nat) (s l : Int) (w : World) (ho : OrdB w gx) (hf : f + m ≤ 64) (hm : 1 ≤ m) (hm8 : m ≤ 8) (hs : 0 ≤ s ∧ s < 15) (hc : w.cell? ⟨bs, 0, none⟩ = some (.int .i64 s)) (hne : bs ≠ gx) : Calls Tryz.prog 194 #[.slice (some ⟨gx, f, none⟩) m c, .int .i64 0, .int .i64 m, .int .i64 l, .func (.func 189) #[] #[.pointer (some ⟨bs, 0, none⟩)]] w fun e w' => e = .returned (.tuple #[]) ∧ OrdB w' gx ∧ Keep (one gx) w w' := by
  have HI := Lib.hid (insort_any gx f m c bs s w ho hf hm hs hc hne)
  clear ho hc hne hs hf
  have hm' : (m : Int) ≤ 12 := by omega
  go_enter Tryz.func194, Tryz.ntmps194
  go_wp2_with (fail)
  go_loopw [1, 2] (fun a b wr => a = .int .i64 0 ∧ b = .int .i64 m ∧ w = wr) (fun _ _ _ => 0)
  case atStart => exact ⟨rfl, rfl, by trivial⟩
  case round =>
    obtain ⟨rfl, rfl, rfl⟩ := hrel
    have t1 : True := trivial
    go_wp2_with (have _t := t1; go_at_call 197; refine HI.out.mono ?_; rintro e w2 ⟨rfl, ho2, hk2⟩; have O2 := Lib.hid ho2; have K2 := Lib.hid hk2; clear ho2 hk2 _t t1)
    refine bodyPost_ret (results_none Tryz.results194 _ _ _) rfl ?_
    exact ⟨rfl, O2.out, K2.out⟩
set_option maxRecDepth 100000 in
set_option maxHeartbeats 1000000 in
theorem sortf_any (gx f m c bs : Nat) (s : Int) (w : World) (ho : OrdB w gx) (hf : f + m ≤ 64) (hm : 1 ≤ m) (hm8 : m ≤ 8) (hs : 0 ≤ s ∧ s < 15) (hc : w.cell? ⟨bs, 0, none⟩ = some (.int .i64 s)) (hne : bs ≠ gx) : Calls Tryz.prog 188 #[.slice (some ⟨gx, f, none⟩) m c, .func (.func 189) #[] #[.pointer (some ⟨bs, 0, none⟩)]] w fun e w' => e = .returned (.tuple #[]) ∧ OrdB w' gx ∧ Keep (one gx) w w' := by
  have HI := Lib.hid (fun l => pdq_any gx f m c bs s l w ho hf hm hm8 hs hc hne)
  have HL := Lib.hid (len_any m hm8 w)
  clear ho hc hne hs hf
  have hm' : (m : Int) ≤ 12 := by omega
  have t1 : True := trivial
  have t2 : True := trivial
  go_enter Tryz.func188, Tryz.ntmps188
  go_wp2_with (first | (have _t := t1; go_at_call 183; refine HL.out.mono ?_; rintro e w' ⟨r, rfl, -, rfl⟩; clear _t t1) | (have _t := t2; go_at_call 194; refine (HI.out r).mono ?_; rintro e w2 ⟨rfl, ho2, hk2⟩; have O2 := Lib.hid ho2; have K2 := Lib.hid hk2; clear ho2 hk2 _t t2))
  go_end0
  exact ⟨rfl, O2.out, K2.out⟩
/-- How many numbers lie ahead of diagonal s. -/
def tri (s : Nat) : Nat := if s ≤ 8 then s * (s + 1) / 2 else 64 - (15 - s) * (16 - s) / 2
theorem tri_next (s : Nat) (hs : s < 15) : tri (s + 1) = tri s + (min s 7 + 1 - (s - 7)) ∧ tri (s + 1) ≤ 64 := by
  have : ∀ s : Fin 15, tri (s.1 + 1) = tri s.1 + (min s.1 7 + 1 - (s.1 - 7)) ∧ tri (s.1 + 1) ≤ 64 := by decide +kernel
  exact this ⟨s, hs⟩
set_option maxRecDepth 100000 in
set_option maxHeartbeats 4000000 in
theorem zigzag_any (w : World) : Calls Tryz.prog 178 #[] w fun e w' => ∃ zs : List Int, e = .returned (.agg (zs.map (Value.int .i64)).toArray) ∧ zs.length = 64 ∧ (∀ z ∈ zs, 0 ≤ z ∧ z < 64) ∧ Keep none_ w w' := by
  obtain ⟨zc, hzc⟩ : ∃ zc, zc = A64 0 := ⟨_, rfl⟩
  have ze : ∀ w, (zeroValue 99).run Tryz.prog w = .ok (.agg zc) w := by rw [hzc, ← A64_zero]; exact fun w => by kernel_rfl
  have SZ := Lib.hid (show zc.size = 64 by rw [hzc]; exact A64_size 0)
  obtain ⟨W0, hW0⟩ : ∃ W0, W0 = (w.alloc (.cells zc 99)).alloc (.cells zc 99) := ⟨_, rfl⟩
  obtain ⟨r0, x0, k0⟩ := two (Keep.eq_ hW0)
  have R0 := Lib.hid r0
  have X0 := Lib.hid (show OrdB W0 (w.heap.size + 1) from ⟨List.replicate 64 0, by simp, by rw [hzc] at x0; exact x0, fun z hz => by rw [List.eq_of_mem_replicate hz]; omega⟩)
  have K0 := Lib.hid k0
  clear k0 x0 r0 hzc
  go_enter Tryz.func178, Tryz.ntmps178
  go_upto_region 2 with (fail)
  rw [← hW0]
  clear hW0
  obtain ⟨gx, hgx⟩ : ∃ gx, gx = w.heap.size + 1 := ⟨_, rfl⟩
  have GX := Lib.hid hgx
  rw [← hgx] at X0 ⊢
  clear hgx
  go_wp2_with (fail)
  go_loopw [2, 6] (fun nv i wr => ∃ s : Nat, s ≤ 15 ∧ i = .int .i64 s ∧ nv = .int .i64 (tri s : Nat) ∧ OrdB wr gx ∧ Keep (one gx) W0 wr) (fun _ i _ => 15 - (intOf i).toNat)
  case atStart => exact ⟨0, by decide, rfl, rfl, X0.out, Keep.refl _ _⟩
  case round =>
    obtain ⟨s, hs, rfl, rfl, hO, hkr⟩ := hrel
    obtain ⟨wa, hwa⟩ : ∃ wa, wa = wr := ⟨_, rfl⟩
    subst hwa
    have HOa := Lib.hid hO
    have HKa := Lib.hid hkr
    clear hO hkr
    by_cases hlt : s < 15
    · have hlt' : (s : Int) < 15 := by omega
      obtain ⟨tn, t64⟩ := tri_next s hlt
      obtain ⟨tb, htb⟩ : ∃ tb, tb = tri (s + 1) := ⟨_, rfl⟩
      rw [← htb] at tn t64
      have TN := Lib.hid tn
      have T64 := Lib.hid t64
      have HTB := Lib.hid htb
      clear tn t64 htb
      generalize tri s = ta at *
      go_upto_region 6 with (fail)
      obtain ⟨ws, hws⟩ : ∃ ws, ws = wa.alloc (.cells #[.int .i64 (s : Int)] 3) := ⟨_, rfl⟩
      rw [← hws]
      have ks : Keep none_ wa ws := hws ▸ (Keep.refl none_ wa).alloc _
      have BS := Lib.hid (show Blk ws wa.heap.size 3 #[.int .i64 (s : Int)] from hws ▸ Blk.new _ _ _)
      have Os := Lib.hid (HOa.out.keep ks (fun e => e))
      have Ks := Lib.hid (HKa.out.trans (ks.mono (fun _ e => e.elim)))
      have NE := Lib.hid (show wa.heap.size ≠ gx from by have := HOa.out.lt; omega)
      clear hws ks
      obtain ⟨bs, hbs⟩ : ∃ bs, bs = wa.heap.size := ⟨_, rfl⟩
      rw [← hbs] at BS NE ⊢
      clear hbs
      have xs : ws.cell? ⟨bs, 0, none⟩ = some (.int .i64 (s : Int)) := BS.out.cell 0
      obtain ⟨lo, hlo⟩ : ∃ lo : Nat, lo = s - 7 := ⟨_, rfl⟩
      obtain ⟨hi, hhi⟩ : ∃ hi : Nat, hi = min s 7 := ⟨_, rfl⟩
      have LO := Lib.hid hlo
      have HI := Lib.hid hhi
      have TB := Lib.hid (show tb = ta + (hi + 1 - lo) from by rw [hlo, hhi]; exact TN.out)
      have m1 : max (0 : Int) ((s : Int) - 8 + 1) = (lo : Int) := by omega
      have m2 : min (s : Int) 7 = (hi : Int) := by omega
      have LH := Lib.hid (show lo ≤ hi ∧ hi ≤ 7 ∧ hi ≤ s ∧ s ≤ lo + 7 from by omega)
      clear hlo hhi
      go_upto_region 8 with (fail)
      all_goals
       go_loopw [2, 5] (fun nv rv wy => ∃ r : Nat, lo ≤ r ∧ r ≤ hi + 1 ∧ rv = .int .i64 r ∧ nv = .int .i64 (ta + (r - lo) : Nat) ∧ OrdB wy gx ∧ Keep (one gx) ws wy) (fun _ rv _ => 9 - (intOf rv).toNat)
       case atStart => exact ⟨lo, Nat.le_refl _, by have := LH.out; omega, congrArg _ (by have := LO.out; omega), by rw [Nat.sub_self]; rfl, Os.out, Keep.refl _ _⟩
       case round =>
        obtain ⟨r, hr1, hr2, rfl, rfl, hO, hkr⟩ := hrel
        have HOb := Lib.hid hO
        have HKb := Lib.hid hkr
        clear hO hkr
        have x3 : wr.cell? ⟨bs, 0, none⟩ = some (.int .i64 (s : Int)) := HKb.out.cell (BS.out.cell 0) (fun e => NE.out e)
        obtain ⟨n, hn⟩ : ∃ n : Nat, n = ta + (r - lo) := ⟨_, rfl⟩
        rw [← hn]
        have HN := Lib.hid hn
        clear hn
        obtain ⟨h1, h2, h3, h4⟩ := LH.out
        by_cases hle : r ≤ hi
        · have i1 : (r : Int) ≤ s := by omega
          have i2 : (r : Int) ≤ 7 := by omega
          have n64 : n < 64 := by have := HN.out; have := TB.out; have := T64.out; omega
          have n64' : (n : Int) < 64 := by omega
          obtain ⟨z, c7, -, -⟩ := HOb.out.cell n n64
          have z7 := HOb.out.froz n
          have v0 : (0 : Int) ≤ 8 * (r : Int) + (s : Int) - (r : Int) := by omega
          have v1 : 8 * (r : Int) + (s : Int) - (r : Int) < 64 := by omega
          have OS := Lib.hid (HOb.out.set_ n v0 v1)
          have KS := Lib.hid (show Keep (one gx) ws (wr.setCell ⟨gx, n, none⟩ (.int .i64 (8 * (r : Int) + (s : Int) - (r : Int)))) from HKb.out.setCell (p := ⟨gx, n, none⟩) (.inl rfl) _)
          clear v0 v1
          go_wp2
          all_goals
            go_roundw
            case rel => exact ⟨r + 1, by omega, by omega, by go_num, congrArg _ (by have := HN.out; omega), OS.out, KS.out⟩
            case measure => simp [intOf]; omega
        · have er : r = hi + 1 := by omega
          have en : n = tb := by have := HN.out; have := TB.out; omega
          subst en
          have T1 := Lib.hid (show ta < n ∧ n ≤ 64 ∧ n - ta ≤ 8 from by have := TB.out; have := T64.out; omega)
          obtain ⟨k1, k2, k3⟩ := T1.out
          have k1' : (ta : Int) ≤ n := by omega
          have k2' : (n : Int) ≤ 64 := by omega
          have k4 : ¬ (64 : Int) = ta := by omega
          have SF := Lib.hid (sortf_any gx ta (n - ta) (64 - ta) bs s wr HOb.out (by omega) (by omega) k3 ⟨by omega, by omega⟩ x3 NE.out)
          have OKa := HOa
          by_cases h7 : s ≤ 7
          all_goals
            have f1 : ¬ (r : Int) ≤ min (s : Int) 7 := by omega
            have f2 : min (s : Int) 7 = (hi : Int) := by have := HI.out; omega
            have tk : True := trivial
            go_wp2_with (have _t := tk; go_at_call 188; refine SF.out.mono ?_; rintro e w9 ⟨rfl, ho9, hk9⟩; have O9 := Lib.hid ho9; have K9 := Lib.hid (Ks.out.trans (HKb.out.trans hk9)); clear ho9 hk9 _t tk)
            all_goals
              go_roundw
              case rel => exact ⟨s + 1, by omega, by go_num, by rw [← HTB.out], O9.out, K9.out⟩
              case measure => simp [intOf]; omega
    · obtain rfl : s = 15 := by omega
      have RA := Lib.hid (R0.out.keep HKa.out (fun e => by have := GX.out; unfold one at e; omega))
      have KA := Lib.hid (K0.out.own HKa.out (by have := GX.out; omega))
      have hO := HOa.out
      obtain ⟨zs, hl, hz, hr⟩ := hO
      have HZ := Lib.hid (show Blk wa gx 99 (zs.map (Value.int .i64)).toArray from hz)
      have HR := Lib.hid hr
      have HL := Lib.hid hl
      have AS := Lib.hid (show (zs.map (Value.int .i64)).toArray.size = 64 by simpa using hl)
      have AO := Lib.hid (show (zs.map (Value.int .i64)).toArray.all (·.oneCell') = true by simp [Value.oneCell'])
      clear hz hr hl
      obtain ⟨ac, hac⟩ : ∃ ac, ac = (zs.map (Value.int .i64)).toArray := ⟨_, rfl⟩
      rw [← hac] at HZ AS AO
      have HAC := Lib.hid hac
      clear hac
      have u1 : True := trivial
      have u2 : True := trivial
      clear hlt hs
      go_wp2_with (first | (have _t := u1; refine wpList_load_blk rfl 99 (.tmp 1) rfl gx 99 _ _ rfl HZ.out Tryz.underlying99 rfl (by rw [AS.out]; kernel_rfl) ?_; go_frame; clear _t u1) | (have _t := u2; refine wpList_store_blk rfl 99 (.tmp 0) (.tmp 36) rfl w.heap.size 99 _ _ rfl rfl RA.out (by rw [SZ.out, AS.out]) (by rw [AS.out]; kernel_rfl) AO.out ?_; intro w8 hb8 hk8 hs8; have B8 := Lib.hid hb8; have K8 := Lib.hid hk8; clear hb8 hk8 hs8; go_frame; clear _t u2))
      refine bodyPost_ret (results_cell Tryz.results178 rfl (run_loadVar_blk B8.out Tryz.underlying99 rfl (by rw [AS.out]; kernel_rfl))) rfl ⟨zs, by rw [HAC.out], HL.out, HR.out, KA.out.own K8.out (Nat.le_refl _)⟩
set_option maxRecDepth 100000 in
set_option maxHeartbeats 1000000 in
theorem scan_any (w : World) : Calls Tryz.prog 155 #[.bool false] w fun e w' => ∃ zs : List Int, e = .returned (.agg (zs.map (Value.int .i64)).toArray) ∧ zs.length = 64 ∧ (∀ z ∈ zs, 0 ≤ z ∧ z < 64) ∧ Keep none_ w w' := by
  obtain ⟨zc, hzc⟩ : ∃ zc, zc = A64 0 := ⟨_, rfl⟩
  have ze : ∀ w, (zeroValue 99).run Tryz.prog w = .ok (.agg zc) w := by rw [hzc, ← A64_zero]; exact fun w => by kernel_rfl
  have SZ := Lib.hid (show zc.size = 64 by rw [hzc]; exact A64_size 0)
  obtain ⟨W0, hW0⟩ : ∃ W0, W0 = w.alloc (.cells zc 99) := ⟨_, rfl⟩
  have R0 := Lib.hid (show Blk W0 w.heap.size 99 zc from hW0 ▸ Blk.new _ _ _)
  have K0 := Lib.hid (show Keep none_ w W0 from hW0 ▸ (Keep.refl _ _).alloc _)
  clear hzc
  have u1 : True := trivial
  have u2 : True := trivial
  go_enter Tryz.func155, Tryz.ntmps155
  go_upto_region 1 with (fail)
  rw [← hW0]
  clear hW0
  go_wp2_with (first | (have _t := u1; go_at_call 178; refine (zigzag_any W0).mono ?_; rintro e w2 ⟨zs, rfl, hl, hr, k2⟩; have HR := Lib.hid hr; have HL := Lib.hid hl; have KX := Lib.hid k2; obtain ⟨ac, hac⟩ : ∃ ac, ac = (zs.map (Value.int .i64)).toArray := ⟨_, rfl⟩; have AS := Lib.hid (show ac.size = 64 by rw [hac]; simpa using hl); have AO := Lib.hid (show ac.all (·.oneCell') = true by rw [hac]; simp [Value.oneCell']); rw [← hac]; have HAC := Lib.hid hac; clear hac hr hl k2 _t u1) | (have _t := u2; refine wpList_store_blk rfl 99 (.tmp 2) (.tmp 5) rfl w.heap.size 99 _ _ rfl rfl (R0.out.keep KX.out (fun e => e)) (by rw [SZ.out, AS.out]) (by rw [AS.out]; kernel_rfl) AO.out ?_; intro w8 hb8 hk8 hs8; have B8 := Lib.hid hb8; have K8 := Lib.hid hk8; clear hb8 hk8 hs8; go_frame; clear _t u2))
  refine bodyPost_ret (results_cell Tryz.results155 rfl (run_loadVar_blk B8.out Tryz.underlying99 rfl (by rw [AS.out]; kernel_rfl))) rfl ⟨zs, by rw [HAC.out], HL.out, HR.out, (K0.out.trans KX.out).own K8.out (Nat.le_refl _)⟩
set_option maxRecDepth 100000 in
set_option maxHeartbeats 4000000 in
theorem pToScan (w : World) : Calls Tryz.prog 133 #[.agg (A64 0), .bool false] w fun e w' => e = .returned (.agg (A64 0)) ∧ Keep none_ w w' := by
  obtain ⟨zc, hzc⟩ : ∃ zc, zc = A64 0 := ⟨_, rfl⟩
  have ze : ∀ w, (zeroValue 99).run Tryz.prog w = .ok (.agg zc) w := by rw [hzc, ← A64_zero]; exact fun w => by kernel_rfl
  have SZ := Lib.hid (show zc.size = 64 by rw [hzc]; exact A64_size 0)
  have OZ := Lib.hid (show zc.all (·.oneCell') = true by rw [hzc]; exact A64_one 0)
  rw [← hzc]
  obtain ⟨W0, hW0⟩ : ∃ W0, W0 = ((w.alloc (.cells zc 99)).alloc (.cells zc 99)).alloc (.cells zc 99) := ⟨_, rfl⟩
  obtain ⟨x0, r0, y0, k0⟩ := three (Keep.eq_ hW0)
  have HZC := Lib.hid hzc
  have X0 := Lib.hid (show ZB W0 w.heap.size 99 from by unfold ZB; rw [← hzc]; exact x0)
  have R0 := Lib.hid r0
  have Y0 := Lib.hid (show ZB W0 (w.heap.size + 1 + 1) 99 from by unfold ZB; rw [← hzc]; exact y0)
  have K0 := Lib.hid k0
  clear k0 x0 r0 y0 hzc
  have u1 : True := trivial
  go_enter Tryz.func133, Tryz.ntmps133
  go_upto_region 2 with (fail)
  rw [← hW0]
  clear hW0
  go_wp2_with (have _t := u1; go_at_call 155; refine (scan_any W0).mono ?_; rintro e w2 ⟨zs, rfl, hl, hr, k2⟩; have HR := Lib.hid hr; have HL := Lib.hid hl; have KX := Lib.hid k2; obtain ⟨ac, hac⟩ : ∃ ac, ac = (zs.map (Value.int .i64)).toArray := ⟨_, rfl⟩; have AG := Lib.hid (show ∀ k, k < 64 → ∃ p : Nat, p < 64 ∧ ac[k]? = some (.int .i64 p) from fun k hk => ⟨(zs[k]'(by omega)).toNat, (by have := hr _ (List.getElem_mem (show k < zs.length by omega)); omega), (by rw [hac, List.getElem?_toArray, List.getElem?_map, List.getElem?_eq_getElem (by omega)]; have := hr _ (List.getElem_mem (show k < zs.length by omega)); exact congrArg (fun x => some (Value.int .i64 x)) (by omega))⟩); rw [← hac]; clear hac hr hl k2 _t u1)
  have X2 := Lib.hid (X0.out.keep KX.out (fun e => e))
  have R2 := Lib.hid (R0.out.keep KX.out (fun e => e))
  have Y2 := Lib.hid (Y0.out.keep KX.out (fun e => e))
  have K2 := Lib.hid (K0.out.trans KX.out)
  obtain ⟨gy, hgy⟩ : ∃ gy, gy = w.heap.size + 1 + 1 := ⟨_, rfl⟩
  have GY := Lib.hid hgy
  rw [← hgy] at Y2 ⊢
  clear hgy KX
  go_loopw [10] (fun i wr => ∃ k : Nat, k ≤ 64 ∧ i = .int .i64 k ∧ ZB wr gy 99 ∧ Keep (one gy) w2 wr) (fun i _ => 64 - (intOf i).toNat)
  case atStart => exact ⟨0, by decide, rfl, Y2.out, Keep.refl _ _⟩
  case round =>
    obtain ⟨k, hk, rfl, hZ, hkr⟩ := hrel
    have HZ := Lib.hid hZ
    have HK := Lib.hid hkr
    clear hZ hkr
    by_cases hlt : k < 64
    · have hlt' : (k : Int) < 64 := by omega
      obtain ⟨p, hp, hcp⟩ := AG.out k hlt
      have hp' : (p : Int) < 64 := by omega
      have hc := run_index_i64a ac k _ hlt hcp
      have x1 : wr.cell? ⟨w.heap.size, p, none⟩ = some (.int .i64 0) := (X2.out.keep HK.out (fun e => by have := GY.out; unfold one at e; omega)).cell p (by assumption)
      have c7 := HZ.out.cell k (by assumption)
      have z7 := Blk.frozen HZ.out k
      have ZS := Lib.hid (HZ.out.set_ k)
      have KS := Lib.hid (show Keep (one gy) w2 (wr.setCell ⟨gy, k, none⟩ (.int .i64 0)) from HK.out.setCell (p := ⟨gy, k, none⟩) (.inl rfl) _)
      clear hcp
      go_wp2
      go_roundw
      case rel => exact ⟨k + 1, hlt, by go_num, ZS.out, KS.out⟩
      case measure => simp [intOf]; omega
    · obtain rfl : k = 64 := by omega
      have RA := Lib.hid (R2.out.keep HK.out (fun e => by have := GY.out; unfold one at e; omega))
      have KA := Lib.hid (K2.out.own HK.out (by have := GY.out; omega))
      have YA := Lib.hid (show Blk wr gy 99 zc from by rw [HZC.out]; exact HZ.out)
      have u1 : True := trivial
      have u2 : True := trivial
      clear hlt hk
      go_wp2_with (first | (have _t := u1; refine wpList_load_blk rfl 99 (.tmp 5) rfl gy 99 _ _ rfl YA.out Tryz.underlying99 rfl (by rw [SZ.out]; kernel_rfl) ?_; go_frame; clear _t u1) | (have _t := u2; refine wpList_store_blk rfl 99 (.tmp 4) (.tmp 20) rfl (w.heap.size + 1) 99 _ _ rfl rfl RA.out rfl (by rw [SZ.out]; kernel_rfl) OZ.out ?_; intro w8 hb8 hk8 hs8; have B8 := Lib.hid hb8; have K8 := Lib.hid hk8; clear hb8 hk8 hs8; go_frame; clear _t u2))
      refine bodyPost_ret (results_cell Tryz.results133 rfl (run_loadVar_blk B8.out Tryz.underlying99 rfl (by rw [SZ.out]; kernel_rfl))) rfl ⟨rfl, KA.out.own K8.out (by omega)⟩
set_option maxRecDepth 100000 in
set_option maxHeartbeats 4000000 in
theorem pFromScan (w : World) : Calls Tryz.prog 112 #[.agg (A64 0), .bool false] w fun e w' => e = .returned (.agg (A64 0)) ∧ Keep none_ w w' := by
  obtain ⟨zc, hzc⟩ : ∃ zc, zc = A64 0 := ⟨_, rfl⟩
  have ze : ∀ w, (zeroValue 99).run Tryz.prog w = .ok (.agg zc) w := by rw [hzc, ← A64_zero]; exact fun w => by kernel_rfl
  have SZ := Lib.hid (show zc.size = 64 by rw [hzc]; exact A64_size 0)
  have OZ := Lib.hid (show zc.all (·.oneCell') = true by rw [hzc]; exact A64_one 0)
  rw [← hzc]
  obtain ⟨W0, hW0⟩ : ∃ W0, W0 = ((w.alloc (.cells zc 99)).alloc (.cells zc 99)).alloc (.cells zc 99) := ⟨_, rfl⟩
  obtain ⟨x0, r0, y0, k0⟩ := three (Keep.eq_ hW0)
  have HZC := Lib.hid hzc
  have X0 := Lib.hid (show ZB W0 w.heap.size 99 from by unfold ZB; rw [← hzc]; exact x0)
  have R0 := Lib.hid r0
  have Y0 := Lib.hid (show ZB W0 (w.heap.size + 1 + 1) 99 from by unfold ZB; rw [← hzc]; exact y0)
  have K0 := Lib.hid k0
  clear k0 x0 r0 y0 hzc
  have u1 : True := trivial
  go_enter Tryz.func112, Tryz.ntmps112
  go_upto_region 2 with (fail)
  rw [← hW0]
  clear hW0
  go_wp2_with (have _t := u1; go_at_call 155; refine (scan_any W0).mono ?_; rintro e w2 ⟨zs, rfl, hl, hr, k2⟩; have HR := Lib.hid hr; have HL := Lib.hid hl; have KX := Lib.hid k2; obtain ⟨ac, hac⟩ : ∃ ac, ac = (zs.map (Value.int .i64)).toArray := ⟨_, rfl⟩; have AG := Lib.hid (show ∀ k, k < 64 → ∃ p : Nat, p < 64 ∧ ac[k]? = some (.int .i64 p) from fun k hk => ⟨(zs[k]'(by omega)).toNat, (by have := hr _ (List.getElem_mem (show k < zs.length by omega)); omega), (by rw [hac, List.getElem?_toArray, List.getElem?_map, List.getElem?_eq_getElem (by omega)]; have := hr _ (List.getElem_mem (show k < zs.length by omega)); exact congrArg (fun x => some (Value.int .i64 x)) (by omega))⟩); rw [← hac]; clear hac hr hl k2 _t u1)
  have X2 := Lib.hid (X0.out.keep KX.out (fun e => e))
  have R2 := Lib.hid (R0.out.keep KX.out (fun e => e))
  have Y2 := Lib.hid (Y0.out.keep KX.out (fun e => e))
  have K2 := Lib.hid (K0.out.trans KX.out)
  obtain ⟨gy, hgy⟩ : ∃ gy, gy = w.heap.size + 1 + 1 := ⟨_, rfl⟩
  have GY := Lib.hid hgy
  rw [← hgy] at Y2 ⊢
  clear hgy KX
  go_loopw [10] (fun i wr => ∃ k : Nat, k ≤ 64 ∧ i = .int .i64 k ∧ ZB wr gy 99 ∧ Keep (one gy) w2 wr) (fun i _ => 64 - (intOf i).toNat)
  case atStart => exact ⟨0, by decide, rfl, Y2.out, Keep.refl _ _⟩
  case round =>
    obtain ⟨k, hk, rfl, hZ, hkr⟩ := hrel
    have HZ := Lib.hid hZ
    have HK := Lib.hid hkr
    clear hZ hkr
    by_cases hlt : k < 64
    · have hlt' : (k : Int) < 64 := by omega
      obtain ⟨p, hp, hcp⟩ := AG.out k hlt
      have hp' : (p : Int) < 64 := by omega
      have hc := run_index_i64a ac k _ hlt hcp
      have x1 : wr.cell? ⟨w.heap.size, k, none⟩ = some (.int .i64 0) := (X2.out.keep HK.out (fun e => by have := GY.out; unfold one at e; omega)).cell k (by assumption)
      have c7 := HZ.out.cell p (by assumption)
      have z7 := Blk.frozen HZ.out p
      have ZS := Lib.hid (HZ.out.set_ p)
      have KS := Lib.hid (show Keep (one gy) w2 (wr.setCell ⟨gy, p, none⟩ (.int .i64 0)) from HK.out.setCell (p := ⟨gy, p, none⟩) (.inl rfl) _)
      clear hcp
      go_wp2
      go_roundw
      case rel => exact ⟨k + 1, hlt, by go_num, ZS.out, KS.out⟩
      case measure => simp [intOf]; omega
    · obtain rfl : k = 64 := by omega
      have RA := Lib.hid (R2.out.keep HK.out (fun e => by have := GY.out; unfold one at e; omega))
      have KA := Lib.hid (K2.out.own HK.out (by have := GY.out; omega))
      have YA := Lib.hid (show Blk wr gy 99 zc from by rw [HZC.out]; exact HZ.out)
      have u1 : True := trivial
      have u2 : True := trivial
      clear hlt hk
      go_wp2_with (first | (have _t := u1; refine wpList_load_blk rfl 99 (.tmp 5) rfl gy 99 _ _ rfl YA.out Tryz.underlying99 rfl (by rw [SZ.out]; kernel_rfl) ?_; go_frame; clear _t u1) | (have _t := u2; refine wpList_store_blk rfl 99 (.tmp 4) (.tmp 20) rfl (w.heap.size + 1) 99 _ _ rfl rfl RA.out rfl (by rw [SZ.out]; kernel_rfl) OZ.out ?_; intro w8 hb8 hk8 hs8; have B8 := Lib.hid hb8; have K8 := Lib.hid hk8; clear hb8 hk8 hs8; go_frame; clear _t u2))
      refine bodyPost_ret (results_cell Tryz.results112 rfl (run_loadVar_blk B8.out Tryz.underlying99 rfl (by rw [SZ.out]; kernel_rfl))) rfl ⟨rfl, KA.out.own K8.out (by omega)⟩
end Go.Proofs.YtebdgoikmclflaaGreatDoor
