/-
  Two frames that are equal.
-/
import Derived.Test.YtnpkhbcbbbpjhaaWords
import Derived.Laws.BytesString
namespace Go.Proofs.Ytnpkhbcbbbpjhaa
open Go.RowKit

def strOf (zs : List Int) : ByteArray := zs.foldl (fun r n => r.push (UInt8.ofNat n.toNat)) ByteArray.empty
theorem run_strOf {P : Program} {w : World} {S : Nat → Prop} {src dst e : TypeId} {A : Option Addr} {n c : Nat} {zs : List Int} (hs : P.underlying src = some (.slice e)) (he : P.underlying e = some (.int .u8)) (hd : P.underlying dst = some .string)
    (hr : Row w S 1 A n c (zs.map (Value.int .u8))) : (convert src dst (.slice A n c)).run P w = .ok (.string (strOf zs)) w := by
  rw [run_convert_bytes_string w src dst e A n c hs he hd]
  have hl : zs.length = n := by have := hr.len; simpa using this
  rcases Nat.eq_zero_or_pos n with h0 | h0
  · subst h0
    have : zs = [] := List.eq_nil_of_length_eq_zero hl
    subst this
    cases A with
    | none => simp [Conv.bytesToString, strOf]
    | some a => exact run_bytesToString w a 0 c [] (by simp [loadCells, loadCellsFrom])
  · obtain ⟨b, o, rfl, _, hc⟩ := hr.at_ h0
    have := run_loadCells_list (P := P) w ⟨b, o, none⟩ (zs.map (Value.int .u8)) (fun j v hv => by rw [Addr.add_mid]; exact hc j v hv)
    simp only [List.length_map, hl] at this
    exact run_bytesToString w _ n c zs this

/-- A frame as an argument: five cells, each slice where it lies. -/
theorem same_yes (W H : Int) (A1 A2 A3 B1 B2 B3 : Option Addr) (n1 n2 n3 c1 c2 c3 d1 d2 d3 : Nat) (Y U V : List Int) (S : Nat → Prop) (w : World)
    (r1 : Row w S 1 A1 n1 c1 (Y.map (Value.int .u8))) (r2 : Row w S 1 A2 n2 c2 (U.map (Value.int .u8))) (r3 : Row w S 1 A3 n3 c3 (V.map (Value.int .u8)))
    (s1 : Row w S 1 B1 n1 d1 (Y.map (Value.int .u8))) (s2 : Row w S 1 B2 n2 d2 (U.map (Value.int .u8))) (s3 : Row w S 1 B3 n3 d3 (V.map (Value.int .u8))) :
    Calls Try.prog 9 #[.agg #[.int .i64 W, .int .i64 H, .slice A1 n1 c1, .slice A2 n2 c2, .slice A3 n3 c3], .agg #[.int .i64 W, .int .i64 H, .slice B1 n1 d1, .slice B2 n2 d2, .slice B3 n3 d3]] w fun e w' => e = .returned (.bool true) ∧ Keep none_ w w' := by
  obtain ⟨sy, hsy⟩ : ∃ s, s = strOf Y := ⟨_, rfl⟩
  obtain ⟨su, hsu⟩ : ∃ s, s = strOf U := ⟨_, rfl⟩
  obtain ⟨sv, hsv⟩ : ∃ s, s = strOf V := ⟨_, rfl⟩
  have hW : (W == W) = true := by simp
  have hH : (H == H) = true := by simp
  have key : ∀ {A n c zs s} (o1 o2 : Obj), s = strOf zs → Row w S 1 A n c (zs.map (Value.int .u8)) → (convert 22 9 (.slice A n c)).run Try.prog ((w.alloc o1).alloc o2) = .ok (.string s) ((w.alloc o1).alloc o2) := by
    intro A n c zs s o1 o2 e hr
    rw [e]
    exact run_strOf Try.underlying22 Try.underlying5 Try.underlying9 (hr.keep (((Keep.refl S w).alloc o1).alloc o2))
  have a1 := fun o1 o2 => key o1 o2 hsy r1
  have a2 := fun o1 o2 => key o1 o2 hsu r2
  have a3 := fun o1 o2 => key o1 o2 hsv r3
  have b1 := fun o1 o2 => key o1 o2 hsy s1
  have b2 := fun o1 o2 => key o1 o2 hsu s2
  have b3 := fun o1 o2 => key o1 o2 hsv s3
  clear key r1 r2 r3 s1 s2 s3 hsy hsu hsv
  go_enter Try.func9, Try.ntmps9
  go_wp2
  go_ret
  exact ⟨rfl, ((Keep.refl _ _).alloc _).alloc _⟩
end Go.Proofs.Ytnpkhbcbbbpjhaa
