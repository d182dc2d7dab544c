/-
  No cell of these rows narrows 'for every input' (looked for: loops, veiled, ifaces, maps, wideKeys, modest, calm, conditions, laid).
  DERIVED. THE GIVEN ROWS OF THIS SEAT. 3 by the template 'for every input the law returns true; each argument reads behind the call as it read before'; 0 by the template 'total and deterministic' (their statements: YtnpkhbcbbbpjhaaTotals.lean).
  GIVEN WITH THE SEED: the statements are not yours to turn. If you find one false, say at which input.
  Laid BY PROGRAM, IN A SANDBOX (cutbox-rows.mjs): the forced cells as the released guide's own fill.sh prints them over the translation f433282629c52f22… (all of the seat's roots in one cut). By AI agents, Wed Nov 11 2026. No macro, syntax, notation, axiom, sorry.
-/
import Derived.Test.YtnpkhbcbbbpjhaaChecked
import GoSem.Claim
import GoSem.ClaimJoined
import GoSem.ClaimMapViews
import Derived.JoinedTies
import Derived.KernelRfl
namespace Go.Proofs.Ytnpkhbcbbbpjhaa
/- THE CELL 'sum', in the pinned program and in every row, IS THE sha256 OF THE DUMP (.gsa) THAT YtnpkhbcbbbpjhaaProg.lean LOADS. Nothing in Lean hashes anything: it is a label: what it is worth is what the hold of that sum in a sandbox is worth. -/
noncomputable def Try.pinned : Pinned := { name := "ytnpkhbcbbbpjhaa", sum := "f433282629c52f2246dc482c8029b6e6d6ad8d372bcf8a5fb781c34d9389a147", checked := Try.checked }
namespace Rows
def none {H : Type} : Left H := { results := [], args := [] }

/-- 'cutroomlaw22.ProxyReduces': WHATEVER THE INPUT: true; the input reads as it did. -/
def proxyReducesSpec : ChangeSpec := { name := "proxyReduces", fn := fun _ => fun
  | [d1, d2] => { results := [.lit (.bool true)], args := [d1, d2] }
  | _ => none }
def proxyReducesRow : OpenClaim := { program := "ytnpkhbcbbbpjhaa", sum := "f433282629c52f2246dc482c8029b6e6d6ad8d372bcf8a5fb781c34d9389a147", func := "cutroom/cutroomlaw22.ProxyReduces", spec := "proxyReduces", unfollowed := true, recurses := true, apart := false }
def ProxyReducesSaid : Prop := proxyReducesRow.holds Try.pinned (OpenSpec.ofChange proxyReducesSpec)

/-- ITS FALSE NEIGHBOUR: 'it returns false'. Refute it at one input. -/
def proxyReducesWrong : ChangeSpec := { name := "proxyReduces", fn := fun _ => fun
  | [d1, d2] => { results := [.lit (.bool false)], args := [d1, d2] }
  | _ => none }
def ProxyReducesWrongFalsely : Prop := proxyReducesRow.holds Try.pinned (OpenSpec.ofChange proxyReducesWrong)

/-- 'cutroomlaw22.ProxyMeans': WHATEVER THE INPUT: true; the input reads as it did. -/
def proxyMeansSpec : ChangeSpec := { name := "proxyMeans", fn := fun _ => fun
  | [d] => { results := [.lit (.bool true)], args := [d] }
  | _ => none }
def proxyMeansRow : OpenClaim := { program := "ytnpkhbcbbbpjhaa", sum := "f433282629c52f2246dc482c8029b6e6d6ad8d372bcf8a5fb781c34d9389a147", func := "cutroom/cutroomlaw22.ProxyMeans", spec := "proxyMeans", unfollowed := true, recurses := true, apart := false }
def ProxyMeansSaid : Prop := proxyMeansRow.holds Try.pinned (OpenSpec.ofChange proxyMeansSpec)

/-- ITS FALSE NEIGHBOUR: 'it returns false'. Refute it at one input. -/
def proxyMeansWrong : ChangeSpec := { name := "proxyMeans", fn := fun _ => fun
  | [d] => { results := [.lit (.bool false)], args := [d] }
  | _ => none }
def ProxyMeansWrongFalsely : Prop := proxyMeansRow.holds Try.pinned (OpenSpec.ofChange proxyMeansWrong)

/-- 'cutroomlaw22.ProxyHeaders': WHATEVER THE INPUT: true; the input reads as it did. -/
def proxyHeadersSpec : ChangeSpec := { name := "proxyHeaders", fn := fun _ => fun
  | [d1, d2, d3, d4] => { results := [.lit (.bool true)], args := [d1, d2, d3, d4] }
  | _ => none }
def proxyHeadersRow : OpenClaim := { program := "ytnpkhbcbbbpjhaa", sum := "f433282629c52f2246dc482c8029b6e6d6ad8d372bcf8a5fb781c34d9389a147", func := "cutroom/cutroomlaw22.ProxyHeaders", spec := "proxyHeaders", unfollowed := true, recurses := true, apart := false }
def ProxyHeadersSaid : Prop := proxyHeadersRow.holds Try.pinned (OpenSpec.ofChange proxyHeadersSpec)

/-- ITS FALSE NEIGHBOUR: 'it returns false'. Refute it at one input. -/
def proxyHeadersWrong : ChangeSpec := { name := "proxyHeaders", fn := fun _ => fun
  | [d1, d2, d3, d4] => { results := [.lit (.bool false)], args := [d1, d2, d3, d4] }
  | _ => none }
def ProxyHeadersWrongFalsely : Prop := proxyHeadersRow.holds Try.pinned (OpenSpec.ofChange proxyHeadersWrong)

/- THE SECOND FORM. 'bulk': how many values and letters a reading holds, each counted each time it is reached (what is shared counts as often as it is met; a slice's spare places count too). A statement '..UptoSaid' is the law's where the arguments, and the package variables that the reading takes, are together of bulk at most 1048576: NARROWER than '..Said'. Prove '..Said' where nothing that the law and all that it calls make is longer than what came in: it says more and counts as full. Else prove '..UptoSaid'. A law counts once. -/
mutual
def uptoBulk {H : Type} : DataW H → Nat
  | .lit (.string bytes) => bytes.length + 1
  | .lit _ => 1
  | .nil => 1
  | .ptr d => uptoBulk d + 1
  | .slice elems spare => uptoBulkAll elems + uptoBulkAll spare + 1
  | .agg parts => uptoBulkAll parts + 1
  | .iface _ d => uptoBulk d + 1
  | .map entries => uptoBulkEntries entries + 1
  | .held _ => 1
def uptoBulkAll {H : Type} : List (DataW H) → Nat
  | [] => 0
  | d :: r => uptoBulk d + uptoBulkAll r
def uptoBulkEntries {H : Type} : List (Lit × DataW H) → Nat
  | [] => 0
  | x :: r => uptoBulkEntry x + uptoBulkEntries r
def uptoBulkEntry {H : Type} : Lit × DataW H → Nat
  | (.string bytes, d) => bytes.length + uptoBulk d + 1
  | (_, d) => uptoBulk d + 1
 end
def uptoSmall : (H : Type) → List (DataW H) → Bool := fun _ ds => decide (uptoBulkAll ds ≤ 1048576)
def OpenSpec.upto (s : _root_.Go.ChangeSpec) : _root_.Go.OpenSpec := { _root_.Go.OpenSpec.ofChange s with cond := some uptoSmall }

/-- 'cutroomlaw22.ProxyReduces', WHERE WHAT IT READS IS OF BULK AT MOST 1048576: true; the input reads as it did. -/
def proxyReducesUptoRow : OpenClaim := { program := "ytnpkhbcbbbpjhaa", sum := "f433282629c52f2246dc482c8029b6e6d6ad8d372bcf8a5fb781c34d9389a147", func := "cutroom/cutroomlaw22.ProxyReduces", spec := "proxyReduces", unfollowed := true, recurses := true, apart := false, narrowed := true }
def ProxyReducesUptoSaid : Prop := proxyReducesUptoRow.holds Try.pinned (OpenSpec.upto proxyReducesSpec)

/-- 'cutroomlaw22.ProxyMeans', WHERE WHAT IT READS IS OF BULK AT MOST 1048576: true; the input reads as it did. -/
def proxyMeansUptoRow : OpenClaim := { program := "ytnpkhbcbbbpjhaa", sum := "f433282629c52f2246dc482c8029b6e6d6ad8d372bcf8a5fb781c34d9389a147", func := "cutroom/cutroomlaw22.ProxyMeans", spec := "proxyMeans", unfollowed := true, recurses := true, apart := false, narrowed := true }
def ProxyMeansUptoSaid : Prop := proxyMeansUptoRow.holds Try.pinned (OpenSpec.upto proxyMeansSpec)

/-- 'cutroomlaw22.ProxyHeaders', WHERE WHAT IT READS IS OF BULK AT MOST 1048576: true; the input reads as it did. -/
def proxyHeadersUptoRow : OpenClaim := { program := "ytnpkhbcbbbpjhaa", sum := "f433282629c52f2246dc482c8029b6e6d6ad8d372bcf8a5fb781c34d9389a147", func := "cutroom/cutroomlaw22.ProxyHeaders", spec := "proxyHeaders", unfollowed := true, recurses := true, apart := false, narrowed := true }
def ProxyHeadersUptoSaid : Prop := proxyHeadersUptoRow.holds Try.pinned (OpenSpec.upto proxyHeadersSpec)

end Rows
end Go.Proofs.Ytnpkhbcbbbpjhaa
