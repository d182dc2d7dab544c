/-
  strconv.FormatInt at base 10 and slices.Sort at strings, laid at this program (by the kit's lay-plain.mjs).
-/
import Derived.Shelf.LaysM
import Derived.Shelf.Strconv.Itoa4
import Derived.Shelf.Sort.Plain
import Derived.Shelf.Slices.In.SortNone
import Derived.Test.YtnefbeplgfdkkaaGreatDoorProg
import Derived.Laws.BytesArg
import Derived.Test.YtnefbeplgfdkkaaGreatDoorJb03
import Derived.Test.YtnefbeplgfdkkaaGreatDoorJb36
import Derived.Test.YtnefbeplgfdkkaaGreatDoorJb37
import Derived.Test.YtnefbeplgfdkkaaGreatDoorJb38
import Derived.Test.YtnefbeplgfdkkaaGreatDoorJb27
namespace Go.Proofs.YtnefbeplgfdkkaaGreatDoor
open Go.Shelf
def jsItoa_ren : Go.Shelf.Ren := ⟨fun | 173 => 38 | 246 => 68 | 283 => 92 | 284 => 93 | 285 => 94 | 286 => 95 | 129 => 119 | 317 => 120 | 318 => 121 | 319 => 122 | 320 => 123 | 337 => 140 | 338 => 141 | n => n, fun | 2 => 2 | 3 => 3 | 9 => 9 | 4 => 4 | 171 => 149 | 0 => 0 | 53 => 102 | 37 => 131 | 5 => 5 | 173 => 152 | 212 => 179 | 51 => 177 | 20 => 20 | 213 => 180 | 46 => 146 | 232 => 199 | 233 => 60 | n => n, fun | 17 => 0 | 18 => 1 | 19 => 2 | n => n⟩
theorem jsItoa : Go.Proofs.LaysM.n173 Tryz.prog jsItoa_ren := {
  mixed := by kernel_rfl
  f129 := Tryz.func119.trans (congrArg some (by kernel_rfl))
  f173 := Tryz.func38.trans (congrArg some (by kernel_rfl))
  f246 := Tryz.func68.trans (congrArg some (by kernel_rfl))
  f283 := Tryz.func92.trans (congrArg some (by kernel_rfl))
  f284 := Tryz.func93.trans (congrArg some (by kernel_rfl))
  f285 := Tryz.func94.trans (congrArg some (by kernel_rfl))
  f286 := Tryz.func95.trans (congrArg some (by kernel_rfl))
  f317 := Tryz.func120.trans (congrArg some (by kernel_rfl))
  f318 := Tryz.func121.trans (congrArg some (by kernel_rfl))
  f319 := Tryz.func122.trans (congrArg some (by kernel_rfl))
  f320 := Tryz.func123.trans (congrArg some (by kernel_rfl))
  f337 := Tryz.func140.trans (congrArg some (by kernel_rfl))
  f338 := Tryz.func141.trans (congrArg some (by kernel_rfl))
  t0 := Tryz.underlying0
  a0 := Tryz.isAgg0
  z0 := Tryz.sizeOf0
  v0 := Tryz.zeroValue0
  t2 := Tryz.underlying2
  a2 := Tryz.isAgg2
  z2 := Tryz.sizeOf2
  v2 := Tryz.zeroValue2
  t3 := Tryz.underlying3
  a3 := Tryz.isAgg3
  z3 := Tryz.sizeOf3
  v3 := Tryz.zeroValue3
  t4 := Tryz.underlying4
  a4 := Tryz.isAgg4
  z4 := Tryz.sizeOf4
  v4 := Tryz.zeroValue4
  t5 := Tryz.underlying5
  a5 := Tryz.isAgg5
  z5 := Tryz.sizeOf5
  v5 := Tryz.zeroValue5
  t9 := Tryz.underlying9
  a9 := Tryz.isAgg9
  z9 := Tryz.sizeOf9
  v9 := Tryz.zeroValue9
  t20 := Tryz.underlying20
  a20 := Tryz.isAgg20
  z20 := Tryz.sizeOf20
  v20 := Tryz.zeroValue20
  t37 := Tryz.underlying131
  a37 := Tryz.isAgg131
  z37 := Tryz.sizeOf131
  v37 := Tryz.zeroValue131
  t46 := Tryz.underlying146
  a46 := Tryz.isAgg146
  z46 := Tryz.sizeOf146
  v46 := Tryz.zeroValue146
  t51 := Tryz.underlying177
  a51 := Tryz.isAgg177
  z51 := Tryz.sizeOf177
  v51 := Tryz.zeroValue177
  t53 := Tryz.underlying102
  a53 := Tryz.isAgg102
  z53 := Tryz.sizeOf102
  v53 := Tryz.zeroValue102
  t171 := Tryz.underlying149
  a171 := Tryz.isAgg149
  z171 := Tryz.sizeOf149
  v171 := Tryz.zeroValue149
  t173 := Tryz.underlying152
  a173 := Tryz.isAgg152
  z173 := Tryz.sizeOf152
  v173 := Tryz.zeroValue152
  t212 := Tryz.underlying179
  a212 := Tryz.isAgg179
  z212 := Tryz.sizeOf179
  v212 := Tryz.zeroValue179
  t213 := Tryz.underlying180
  a213 := Tryz.isAgg180
  z213 := Tryz.sizeOf180
  t232 := Tryz.underlying199
  a232 := Tryz.isAgg199
  z232 := Tryz.sizeOf199
  v232 := Tryz.zeroValue199
  t233 := Tryz.underlying60
  a233 := Tryz.isAgg60
  z233 := Tryz.sizeOf60
  v233 := Tryz.zeroValue60
  g17 := by kernel_rfl
  g18 := by kernel_rfl
  g19 := by kernel_rfl
  i0 := by kernel_rfl
  i2 := by kernel_rfl
  i3 := by kernel_rfl
  i4 := by kernel_rfl
  i5 := by kernel_rfl
  i9 := by kernel_rfl
  i20 := by kernel_rfl
  i37 := by kernel_rfl
  i46 := by kernel_rfl
  i51 := by kernel_rfl
  i53 := by kernel_rfl
  i171 := by kernel_rfl
  i173 := by kernel_rfl
  i212 := by kernel_rfl
  i232 := by kernel_rfl
  i233 := by kernel_rfl
  m17 := by kernel_rfl
  m18 := by kernel_rfl
  m19 := by kernel_rfl }
def jsSort_ren : Go.Shelf.Ren := ⟨fun | 190 => 62 | 125 => 90 | 258 => 89 | 128 => 118 | 129 => 119 | 302 => 109 | 303 => 110 | 304 => 111 | 305 => 112 | 306 => 113 | 307 => 114 | 308 => 115 | 309 => 116 | 310 => 117 | 333 => 134 | 329 => 135 | 330 => 136 | 334 => 137 | 335 => 138 | 336 => 139 | 344 => 143 | n => n, fun | 31 => 44 | 9 => 9 | 3 => 3 | 46 => 146 | 0 => 0 | 51 => 177 | 53 => 102 | 4 => 4 | 183 => 170 | 182 => 169 | 131 => 154 | 5 => 5 | 218 => 190 | 222 => 194 | 228 => 196 | 229 => 197 | n => n, fun | n => n⟩
theorem jsSort : Go.Proofs.Lays.n190 Tryz.prog jsSort_ren := {
  mixed := by kernel_rfl
  f125 := Tryz.func90.trans (congrArg some (by kernel_rfl))
  f128 := Tryz.func118.trans (congrArg some (by kernel_rfl))
  f129 := Tryz.func119.trans (congrArg some (by kernel_rfl))
  f190 := Tryz.func62.trans (congrArg some (by kernel_rfl))
  f258 := Tryz.func89.trans (congrArg some (by kernel_rfl))
  f302 := Tryz.func109.trans (congrArg some (by kernel_rfl))
  f303 := Tryz.func110.trans (congrArg some (by kernel_rfl))
  f304 := Tryz.func111.trans (congrArg some (by kernel_rfl))
  f305 := Tryz.func112.trans (congrArg some (by kernel_rfl))
  f306 := Tryz.func113.trans (congrArg some (by kernel_rfl))
  f307 := Tryz.func114.trans (congrArg some (by kernel_rfl))
  f308 := Tryz.func115.trans (congrArg some (by kernel_rfl))
  f309 := Tryz.func116.trans (congrArg some (by kernel_rfl))
  f310 := Tryz.func117.trans (congrArg some (by kernel_rfl))
  f329 := Tryz.func135.trans (congrArg some (by kernel_rfl))
  f330 := Tryz.func136.trans (congrArg some (by kernel_rfl))
  f333 := Tryz.func134.trans (congrArg some (by kernel_rfl))
  f334 := Tryz.func137.trans (congrArg some (by kernel_rfl))
  f335 := Tryz.func138.trans (congrArg some (by kernel_rfl))
  f336 := Tryz.func139.trans (congrArg some (by kernel_rfl))
  f344 := Tryz.func143.trans (congrArg some (by kernel_rfl))
  t0 := Tryz.underlying0
  a0 := Tryz.isAgg0
  z0 := Tryz.sizeOf0
  v0 := Tryz.zeroValue0
  t3 := Tryz.underlying3
  a3 := Tryz.isAgg3
  z3 := Tryz.sizeOf3
  v3 := Tryz.zeroValue3
  t4 := Tryz.underlying4
  a4 := Tryz.isAgg4
  z4 := Tryz.sizeOf4
  v4 := Tryz.zeroValue4
  t5 := Tryz.underlying5
  a5 := Tryz.isAgg5
  z5 := Tryz.sizeOf5
  v5 := Tryz.zeroValue5
  t9 := Tryz.underlying9
  a9 := Tryz.isAgg9
  z9 := Tryz.sizeOf9
  v9 := Tryz.zeroValue9
  t31 := Tryz.underlying44
  a31 := Tryz.isAgg44
  z31 := Tryz.sizeOf44
  v31 := Tryz.zeroValue44
  t46 := Tryz.underlying146
  a46 := Tryz.isAgg146
  z46 := Tryz.sizeOf146
  v46 := Tryz.zeroValue146
  t51 := Tryz.underlying177
  a51 := Tryz.isAgg177
  z51 := Tryz.sizeOf177
  v51 := Tryz.zeroValue177
  t53 := Tryz.underlying102
  a53 := Tryz.isAgg102
  z53 := Tryz.sizeOf102
  v53 := Tryz.zeroValue102
  t131 := Tryz.underlying154
  a131 := Tryz.isAgg154
  z131 := Tryz.sizeOf154
  v131 := Tryz.zeroValue154
  t182 := Tryz.underlying169
  a182 := Tryz.isAgg169
  z182 := Tryz.sizeOf169
  v182 := Tryz.zeroValue169
  t183 := Tryz.underlying170
  a183 := Tryz.isAgg170
  z183 := Tryz.sizeOf170
  v183 := Tryz.zeroValue170
  t218 := Tryz.underlying190
  a218 := Tryz.isAgg190
  z218 := Tryz.sizeOf190
  v218 := Tryz.zeroValue190
  t222 := Tryz.underlying194
  a222 := Tryz.isAgg194
  z222 := Tryz.sizeOf194
  v222 := Tryz.zeroValue194
  t228 := Tryz.underlying196
  a228 := Tryz.isAgg196
  z228 := Tryz.sizeOf196
  v228 := Tryz.zeroValue196
  t229 := Tryz.underlying197
  a229 := Tryz.isAgg197
  z229 := Tryz.sizeOf197
  v229 := Tryz.zeroValue197 }

theorem formatInt_any (n : Int) (h0 : -9223372036854775808 ≤ n) (h1 : n ≤ 9223372036854775807) (w : World) (htab : Lib.TabIs Tryz.prog w "internal/strconv.uint64pow10" .u64 Lib.pow10Tab) :
    Calls Tryz.prog 38 #[.int .i64 n, .int .i64 10] w fun e w' => e = .returned (.string ⟨(Lib.itoa n).toArray⟩) ∧ ∃ k os, w' = Go.Sort.grow (w.drewN k) os := Go.Proofs.Any.strconv_FormatInt_10 jsItoa n h0 h1 w htab
theorem sortStr_any (blk off cap : Nat) (ss : List (List UInt8)) (w : World) (hH : Go.Sort.Holds Go.Proofs.encStr w blk off ss.toArray) (hblk : blk < w.heap.size) (hsz : ss.length < 4611686018427387904) :
    Calls Tryz.prog 62 #[.slice (some ⟨blk, off, none⟩) ss.length cap] w fun e w' =>
      e = .returned (.tuple #[]) ∧ ∃ n os, w' = Go.Sort.grow (Go.Sort.putRow Go.Proofs.encStr (Go.Sort.ahead w n) blk off (ss.mergeSort fun x y => decide (x ≤ y)).toArray) os := Go.Proofs.Any.slices_Sort_string jsSort blk off cap ss w hH hblk hsz
theorem sortStr_none (p : Option Addr) (cap : Nat) (w : World) :
    Calls Tryz.prog 62 #[.slice p 0 cap] w fun e w' => e = .returned (.tuple #[]) ∧ w' = w := Go.Proofs.Any.slices_Sort_string_none jsSort p cap w
end Go.Proofs.YtnefbeplgfdkkaaGreatDoor
/-
  The names of jobs: farm.JobName, cutroomref37.JobName.
-/
namespace Go.Proofs.YtnefbeplgfdkkaaGreatDoor
open Go.RowKit

def digits (n : Nat) : ByteArray := ⟨(Lib.decDigits n).toArray⟩
/-- 37.1: a job's name. -/
def jobNm (n : Int) : ByteArray := if n < 0 then ⟨#[]⟩ else ⟨#[112, 97, 114, 116]⟩ ++ digits n.toNat
theorem dec_small {n : Nat} (h : n < 10) : Lib.decDigits n = [UInt8.ofNat (48 + n)] := by rw [Lib.decDigits, dif_pos h]
theorem dec_big {n : Nat} (h : ¬ n < 10) : Lib.decDigits n = Lib.decDigits (n / 10) ++ [UInt8.ofNat (48 + n % 10)] := by rw [Lib.decDigits, dif_neg h]
theorem dec_len : ∀ (k n : Nat), 0 < k → n < 10 ^ k → (Lib.decDigits n).length ≤ k
  | 0, _, h, _ => absurd h (by omega)
  | k + 1, n, _, h => by
    by_cases h10 : n < 10
    · rw [dec_small h10]; simp
    · have hk : 0 < k := by
        rcases Nat.eq_zero_or_pos k with rfl | hk
        · exact absurd h (by omega)
        · exact hk
      have := dec_len k (n / 10) hk (by rw [Nat.pow_succ] at h; omega)
      rw [dec_big h10]
      simp
      omega
/-- The table of powers that strconv reads. -/
def Tab (w : World) : Prop := Lib.TabIs Tryz.prog w "internal/strconv.uint64pow10" .u64 Lib.pow10Tab
theorem Keep.ofGrow (w : World) (k : Nat) (os : Array Obj) : Keep none_ w (Go.Sort.grow (w.drewN k) os) :=
  ⟨rfl, rfl, rfl, by simp [Go.Sort.grow, World.drewN], fun b hb _ => by
    show (w.heap ++ os)[b]? = w.heap[b]?
    rw [Array.getElem?_append_left hb]⟩

set_option maxRecDepth 100000 in
set_option maxHeartbeats 1000000 in
theorem decimal_any (N : Nat) (w : World) (hN : N < 18446744073709551616) : Calls Tryz.prog 39 #[.int .u64 N] w fun e w' => e = .returned (.string (digits N)) ∧ Keep none_ w w' := by
  go_enter Tryz.func39, Tryz.ntmps39
  go_wp2_with (fail)
  go_loopw [0, 3] (fun x y wr => ∃ (n : Nat) (s : ByteArray), x = .int .u64 n ∧ y = .string s ∧ n < 18446744073709551616 ∧ Lib.decDigits N = Lib.decDigits n ++ s.data.toList ∧ Keep none_ w wr) (fun x _ _ => (intOf x).toNat)
  case atStart => exact ⟨N, ⟨#[]⟩, rfl, rfl, hN, by simp, Keep.refl _ _⟩
  case round =>
    obtain ⟨n, s, rfl, rfl, hn, hs, hk⟩ := hrel
    have cv := run_convert_bytes_arg (wr.alloc (.cells #[.int .u8 (48 + (n : Int) % 10)] 5)) 131 5 Tryz.underlying131 Tryz.underlying5 wr.heap.size 0 1 1 [48 + (n : Int) % 10] rfl (fun i hi => by
      obtain rfl : i = 0 := by omega
      exact (Blk.new wr 5 #[.int .u8 (48 + (n : Int) % 10)]).cell 0) 9 Tryz.underlying9
    obtain ⟨st, hst⟩ : ∃ st, st = strOfNums [48 + (n : Int) % 10] := ⟨_, rfl⟩
    rw [← hst] at cv
    have HST := Lib.hid (show st.data.toList = [UInt8.ofNat (48 + n % 10)] by
      rw [hst, strOfNums_data]
      simp only [List.map_cons, List.map_nil]
      congr 2)
    have KA := Lib.hid (hk.alloc (.cells #[.int .u8 (48 + (n : Int) % 10)] 5))
    have HS := Lib.hid hs
    have L20 := dec_len 20 N (by decide) (by omega)
    have hsz : ¬ 9223372036854775807 < st.size + s.size := by
      have e1 : s.data.toList.length = s.size := by simp
      have e2 : st.data.toList.length = st.size := by simp
      rw [HST.out] at e2
      rw [hs, List.length_append] at L20
      simp only [List.length_cons, List.length_nil] at e2
      omega
    clear hst hs hk L20
    by_cases h10 : n < 10
    · have h0 : (n : Int) / 10 = 0 := by omega
      have R := Lib.hid (show st ++ s = digits N by
        unfold digits
        rw [HS.out, dec_small h10]
        have : n % 10 = n := by omega
        rw [this] at HST
        rw [← HST.out]
        apply ByteArray.ext
        simp)
      go_wp2_with (fail)
      go_ret
      exact ⟨by rw [R.out]; rfl, KA.out⟩
    · have h0 : ((n : Int) / 10 == 0) = false := by rw [beq_eq_false_iff_ne]; omega
      have R := Lib.hid (show Lib.decDigits N = Lib.decDigits (n / 10) ++ (st ++ s).data.toList by
        rw [HS.out, dec_big h10, ← HST.out]
        simp)
      go_wp2_with (fail)
      go_roundw
      case rel => exact ⟨n / 10, st ++ s, by simp, rfl, by omega, R.out, KA.out⟩
      case measure => simp [intOf]; omega

set_option maxRecDepth 100000 in
set_option maxHeartbeats 1000000 in
theorem rjobName_any (n : Int) (w : World) (_h1 : -9223372036854775808 ≤ n) (h2 : n ≤ 9223372036854775807) : Calls Tryz.prog 13 #[.int .i64 n] w fun e w' => e = .returned (.string (jobNm n)) ∧ Keep none_ w w' := by
  by_cases h : n < 0
  · have Q := Lib.hid (show jobNm n = ⟨#[]⟩ by unfold jobNm; rw [if_pos h])
    go_enter Tryz.func13, Tryz.ntmps13
    go_wp2
    go_ret
    exact ⟨by rw [Q.out]; rfl, Keep.refl _ _⟩
  · obtain ⟨m, rfl⟩ := Int.eq_ofNat_of_zero_le (show 0 ≤ n by omega)
    have Q := Lib.hid (show jobNm m = ⟨#[112, 97, 114, 116]⟩ ++ digits m by unfold jobNm; rw [if_neg h]; rfl)
    have DC := Lib.hid (decimal_any m w (by omega))
    have hsz : ¬ 9223372036854775807 < 4 + (digits m).size := by
      have := dec_len 20 m (by decide) (by omega)
      have e : (digits m).size = (Lib.decDigits m).length := by simp [digits, ByteArray.size]
      omega
    clear h
    generalize digits m = s at *
    go_enter Tryz.func13, Tryz.ntmps13
    go_wp2_with (go_at_call 39; refine DC.out.mono ?_; rintro e w2 ⟨rfl, k2⟩; have K2 := Lib.hid k2; clear k2)
    go_ret
    exact ⟨by rw [Q.out]; rfl, K2.out⟩

set_option maxRecDepth 100000 in
set_option maxHeartbeats 1000000 in
theorem jobName_any (n : Int) (w : World) (h1 : -9223372036854775808 ≤ n) (h2 : n ≤ 9223372036854775807) (ht : Tab w) : Calls Tryz.prog 12 #[.int .i64 n] w fun e w' => e = .returned (.string (jobNm n)) ∧ Keep none_ w w' := by
  by_cases h : n < 0
  · have Q := Lib.hid (show jobNm n = ⟨#[]⟩ by unfold jobNm; rw [if_pos h])
    go_enter Tryz.func12, Tryz.ntmps12
    go_wp2
    go_ret
    exact ⟨by rw [Q.out]; rfl, Keep.refl _ _⟩
  · obtain ⟨m, rfl⟩ := Int.eq_ofNat_of_zero_le (show 0 ≤ n by omega)
    have Q := Lib.hid (show jobNm m = ⟨#[112, 97, 114, 116]⟩ ++ digits m by unfold jobNm; rw [if_neg h]; rfl)
    have DC := Lib.hid (show Calls Tryz.prog 38 #[.int .i64 m, .int .i64 10] w fun e w' => e = .returned (.string (digits m)) ∧ Keep none_ w w' from (formatInt_any m h1 h2 w ht).mono (by
      rintro e w' ⟨rfl, k, os, rfl⟩
      refine ⟨?_, Keep.ofGrow w k os⟩
      unfold Lib.itoa
      rw [if_neg h]
      rfl))
    have hsz : ¬ 9223372036854775807 < 4 + (digits m).size := by
      have := dec_len 20 m (by decide) (by omega)
      have e : (digits m).size = (Lib.decDigits m).length := by simp [digits, ByteArray.size]
      omega
    clear h ht
    generalize digits m = s at *
    go_enter Tryz.func12, Tryz.ntmps12
    go_wp2_with (go_at_call 38; refine DC.out.mono ?_; rintro e w2 ⟨rfl, k2⟩; have K2 := Lib.hid k2; clear k2)
    go_ret
    exact ⟨by rw [Q.out]; rfl, K2.out⟩
end Go.Proofs.YtnefbeplgfdkkaaGreatDoor
/-
  farm.Jobs and the reference's: what they answer; plain facts.
-/
namespace Go.Proofs.YtnefbeplgfdkkaaGreatDoor
open Go.RowKit

/-- 37.2: the expressions of a part's film. -/
def filmAt (es : List Ex) (x : Pt) : List Ex := (es.drop x.film.toNat).take x.len.toNat
def jobEv (es : List Ex) (x : Pt) : Ev := ⟨1, jobNm x.film, ⟨#[]⟩, needsOf (exsMedia (filmAt es x)), 0, []⟩
def jobEvs (es : List Ex) (ps : List Pt) : List Ev := (ps.filter (fun x => !x.copy)).map (jobEv es)
def inOk (es : List Ex) (ps : List Pt) : Bool := planOk es.length ps && es.all exOk
def jobsOut (es : List Ex) (ps : List Pt) : List Ev × Int := if inOk es ps then (if (jobEvs es ps).length ≤ 64 then (jobEvs es ps, 0) else ([], 5)) else ([], 1)
theorem jobEvs_snoc (es : List Ex) {ps : List Pt} {k : Nat} (hk : k < ps.length) : jobEvs es (ps.take (k + 1)) = jobEvs es (ps.take k) ++ if ps[k].copy then [] else [jobEv es ps[k]] := by
  unfold jobEvs
  rw [List.take_succ_eq_append_getElem hk, List.filter_append, List.map_append]
  cases h : ps[k].copy <;> simp [h]
theorem jobEvs_part (es : List Ex) (ps : List Pt) (k : Nat) : (jobEvs es (ps.take k)).length ≤ (jobEvs es ps).length := by
  conv => rhs; rw [← List.take_append_drop k ps]
  unfold jobEvs
  rw [List.filter_append, List.map_append, List.length_append]
  omega
theorem planFrom_in {n : Int} : ∀ {l : List Pt} {a : Int}, 0 ≤ a → planFrom n a l = some n → ∀ x ∈ l, 0 ≤ x.film ∧ 1 ≤ x.len ∧ x.film + x.len ≤ n
  | [], _, _, _, _, h => by cases h
  | y :: r, a, ha, h, x, hx => by
    unfold planFrom at h
    split at h
    · rename_i hp
      unfold ptOk at hp
      simp only [Bool.and_eq_true, decide_eq_true_eq] at hp
      obtain ⟨⟨⟨h1, h2⟩, h3⟩, -⟩ := hp
      rcases List.mem_cons.1 hx with rfl | hx
      · exact ⟨by omega, h2, by omega⟩
      · exact planFrom_in (by omega) h x hx
    · cases h
/-- Where a part of a valid plan lies. -/
theorem plan_in {es : List Ex} {ps : List Pt} (h : planOk es.length ps = true) : ∀ x ∈ ps, ∃ f m : Nat, x.film = f ∧ x.len = m ∧ 1 ≤ m ∧ f + m ≤ es.length := fun x hx => by
  unfold planOk at h
  rw [decide_eq_true_eq] at h
  obtain ⟨h1, h2, h3⟩ := planFrom_in (Int.le_refl 0) h x hx
  exact ⟨x.film.toNat, x.len.toNat, by omega, by omega, by omega, by omega⟩
/-- The names are few. -/
def FewN (es : List Ex) : Prop := (exsMedia es).length ≤ 1048576 ∧ ∀ m ∈ exsMedia es, m.size ≤ maxLen
theorem exs_part (es : List Ex) (f m : Nat) : exsMedia es = exsMedia (es.take f) ++ exsMedia ((es.drop f).take m) ++ exsMedia ((es.drop f).drop m) := by
  rw [← exsMedia_append, ← exsMedia_append, List.append_assoc, List.take_append_drop, List.take_append_drop]
theorem FewN.film {es : List Ex} (h : FewN es) (x : Pt) : FewN (filmAt es x) := by
  obtain ⟨h1, h2⟩ := h
  have e := exs_part es x.film.toNat x.len.toNat
  unfold filmAt
  refine ⟨?_, fun m hm => h2 m ?_⟩
  · rw [e, List.length_append, List.length_append] at h1
    omega
  · rw [e, List.mem_append, List.mem_append]
    exact .inl (.inr hm)
theorem FewN.take {es : List Ex} (h : FewN es) (k : Nat) : (exsMedia (es.take k)).length ≤ 1048576 := by
  have h1 := h.1
  have e := congrArg List.length (exsMedia_append (es.take k) (es.drop k))
  rw [List.take_append_drop, List.length_append] at e
  omega
theorem film_snoc {es : List Ex} {f m q : Nat} (h1 : f ≤ q) (h2 : q < f + m) (hq : q < es.length) : exsMedia (((es.drop f).take m).take (q + 1 - f)) = exsMedia (((es.drop f).take m).take (q - f)) ++ exMedia es[q] := by
  have hl : q - f < ((es.drop f).take m).length := by rw [List.length_take, List.length_drop]; omega
  have e1 : ((es.drop f).take m)[q - f] = es[q] := by
    rw [List.getElem_take, List.getElem_drop]
    congr 1
    omega
  rw [show q + 1 - f = q - f + 1 by omega, exsMedia_snoc hl, e1]
/-- A part of a slice. -/
theorem ElemsOf.part {α : Type} {w : World} {S : Nat → Prop} {size : Nat} {R : List Value → α → Prop} {b o n c : Nat} {l : List α} (h : ElemsOf w S size R (.slice (some ⟨b, o, none⟩) n c) l) (i m c' : Nat) (hm : i + m ≤ n) (h1 : m ≤ c') (h2 : c' ≤ maxLen) :
    ElemsOf w S size R (.slice (some ⟨b, o + i * size, none⟩) m c') ((l.drop i).take m) := by
  obtain ⟨A, n', c2, e, g1, g2, g3, g4⟩ := h
  cases e
  refine ⟨_, m, c', rfl, h1, h2, by rw [List.length_take, List.length_drop]; omega, fun hn => ?_⟩
  obtain ⟨b', o', e, hb, hc⟩ := g4 (by omega)
  cases e
  refine ⟨b, _, rfl, hb, fun j hj => ?_⟩
  have hj' : j < m := by rw [List.length_take, List.length_drop] at hj; omega
  obtain ⟨cs, e1, e2, e3⟩ := hc (i + j) (by omega)
  refine ⟨cs, e1, ?_, ?_⟩
  · rw [Nat.add_assoc, ← Nat.add_mul]
    exact e2
  · rw [List.getElem_take, List.getElem_drop]
    exact e3
theorem Tab.keep {w w' : World} (h : Tab w) (k : Keep none_ w w') : Tab w' := by
  unfold Tab Lib.TabIs World.var? at h ⊢
  cases hg : Tryz.prog.globalNamed "internal/strconv.uint64pow10" with
  | none => rw [hg] at h; cases h
  | some g =>
    rw [hg] at h
    simp only [Option.bind_some] at h ⊢
    have hlt : g < w.heap.size := by
      rcases Nat.lt_or_ge g w.heap.size with h' | h'
      · exact h'
      · rw [Array.getElem?_eq_none h'] at h; cases h
    rw [k.block g hlt (fun e => e)]
    exact h
/-- A list of events of the call's own. -/
def EvO (w : World) (lo : Nat) (v : Value) (l : List Ev) : Prop := ∃ css, w.ownsRow lo 78 6 v l.length css.flatten ∧ All2 (EvOwn w lo) css l
theorem EvO.nil (w : World) (lo : Nat) : EvO w lo (.slice none 0 0) [] := ⟨[], ⟨rfl, .inl ⟨rfl, rfl⟩⟩, trivial⟩
theorem EvO.keep {w w' : World} {S : Nat → Prop} {lo : Nat} {v : Value} {l : List Ev} (h : EvO w lo v l) (k : Keep S w w') (hS : ∀ b t cs, S b → lo ≤ b → Blk w b t cs → t ≠ 9 ∧ t ≠ 72 ∧ t ≠ 78) : EvO w' lo v l := by
  obtain ⟨css, h1, h2⟩ := h
  exact ⟨css, own_far h1 k (fun b t cs a1 a2 a3 => (hS b t cs a1 a2 a3).2.2), h2.imp (fun _ _ h => h.keep k (fun b t cs a1 a2 a3 => ⟨(hS b t cs a1 a2 a3).1, (hS b t cs a1 a2 a3).2.1⟩))⟩
theorem EvO.keep0 {w w' : World} {lo : Nat} {v : Value} {l : List Ev} (h : EvO w lo v l) (k : Keep none_ w w') : EvO w' lo v l := h.keep k (fun _ _ _ e => e.elim)
theorem EvO.base {w : World} {lo lo' : Nat} {v : Value} {l : List Ev} (h : EvO w lo v l) (hl : lo' ≤ lo) : EvO w lo' v l := by
  obtain ⟨css, h1, h2⟩ := h
  exact ⟨css, own_base h1 hl, h2.imp (fun _ _ ⟨vn, vi, icss, e1, a1, a2, a3⟩ => ⟨vn, vi, icss, e1, own_base a1 hl, own_base a2 hl, a3⟩)⟩
/-- One more event. -/
theorem EvO.snoc {w w' : World} {lo n : Nat} {v : Value} {A' : Option Addr} {c' : Nat} {l : List Ev} {css : List (List Value)} {x : ByteArray} {vn : Value} {ns : List ByteArray} (hr : w.ownsRow lo 78 6 v l.length css.flatten) (h2 : All2 (EvOwn w lo) css l) (hn : OwnS w lo vn ns) (hl : l.length = n)
    (ho : w'.ownsRow lo 78 6 (.slice A' (n + 1) c') (n + 1) (css.flatten ++ [.int .i64 1, .string x, .string ⟨#[]⟩, vn, .int .i64 0, .slice none 0 0])) (k : Keep (ofBlk v) w w') : EvO w' lo (.slice A' (n + 1) c') (l ++ [⟨1, x, ⟨#[]⟩, ns, 0, []⟩]) := by
  have hv : ∀ b t cs, ofBlk v b → lo ≤ b → Blk w b t cs → t ≠ 9 ∧ t ≠ 72 := fun b t cs hb _ hc => by
    rcases hr.2 with ⟨rfl, -⟩ | ⟨g, cap, cur, rfl, e2, e3, r⟩
    · cases hb
    · unfold ofBlk at hb
      simp only [Value.ownBlock, Option.some.injEq] at hb
      subst hb
      have : some (Obj.cells cs t (0, 0)) = some (Obj.cells cur 78 (0, 0)) := hc.symm.trans e3
      cases this
      exact ⟨by decide, by decide⟩
  refine ⟨css ++ [[.int .i64 1, .string x, .string ⟨#[]⟩, vn, .int .i64 0, .slice none 0 0]], ?_, (h2.imp (fun _ _ h => h.keep k hv)).snoc ?_⟩
  · rw [List.length_append, hl, List.flatten_append]
    simpa using ho
  · exact ⟨vn, _, [], rfl, own_far hn k (fun b t cs a1 a2 a3 => (hv b t cs a1 a2 a3).1), ⟨rfl, .inl ⟨rfl, rfl⟩⟩, ⟨rfl, fun i cs x h => by simp at h⟩, fun _ h => (by cases h)⟩
end Go.Proofs.YtnefbeplgfdkkaaGreatDoor
