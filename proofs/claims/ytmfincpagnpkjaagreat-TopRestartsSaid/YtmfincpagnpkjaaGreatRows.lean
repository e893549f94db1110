/-
  No cell of these rows narrows 'for every input' (looked for: loops, veiled, ifaces, maps, wideKeys, modest, calm, conditions, laid).
  DERIVED. THE GIVEN ROWS OF THIS SEAT. 2 by the template 'for every input the law returns true; each argument reads behind the call as it read before'; 0 by the template 'total and deterministic' (their statements: YtmfincpagnpkjaaGreatTotals.lean).
  GIVEN WITH THE SEED: the statements are not yours to turn. If you find one false, say at which input.
  Laid BY PROGRAM, IN A SANDBOX (cutbox-rows.mjs): the forced cells as the released guide's own fill.sh prints them over the translation f2cd35d03618ad12… (all of the seat's roots in one cut). By AI agents, Wed Nov 11 2026. No macro, syntax, notation, axiom, sorry.
-/
import Derived.Test.YtmfincpagnpkjaaGreatChecked
import GoSem.Claim
import GoSem.ClaimJoined
import GoSem.ClaimMapViews
import Derived.JoinedTies
import Derived.KernelRfl
namespace Go.Proofs.YtmfincpagnpkjaaGreat
/- THE CELL 'sum', in the pinned program and in every row, IS THE sha256 OF THE DUMP (.gsa) THAT YtmfincpagnpkjaaGreatProg.lean LOADS. Nothing in Lean hashes anything: it is a label: what it is worth is what the hold of that sum in a sandbox is worth. -/
noncomputable def Tryz.pinned : Pinned := { name := "ytmfincpagnpkjaagreat", sum := "f2cd35d03618ad122af85a231886a47503b1c5b67b7556f41aec539ad678a80b", checked := Tryz.checked }
namespace Rows
def none {H : Type} : Left H := { results := [], args := [] }

/-- 'windlasstop.TopLost': WHATEVER THE INPUT: true; the input reads as it did. -/
def topLostSpec : ChangeSpec := { name := "topLost", fn := fun _ => fun
  | [d1, d2, d3] => { results := [.lit (.bool true)], args := [d1, d2, d3] }
  | _ => none }
def topLostRow : OpenClaim := { program := "ytmfincpagnpkjaagreat", sum := "f2cd35d03618ad122af85a231886a47503b1c5b67b7556f41aec539ad678a80b", func := "windlass/windlasstop.TopLost", spec := "topLost", inPlace := ["internal/abi.NoEscape", "internal/bytealg.MakeNoZero"], unfollowed := true, recurses := true, apart := false }
def TopLostSaid : Prop := topLostRow.holds Tryz.pinned (OpenSpec.ofChange topLostSpec)

/-- ITS FALSE NEIGHBOUR: 'it returns false'. Refute it at one input. -/
def topLostWrong : ChangeSpec := { name := "topLost", fn := fun _ => fun
  | [d1, d2, d3] => { results := [.lit (.bool false)], args := [d1, d2, d3] }
  | _ => none }
def TopLostWrongFalsely : Prop := topLostRow.holds Tryz.pinned (OpenSpec.ofChange topLostWrong)

/-- 'windlasstop.TopRestarts': WHATEVER THE INPUT: true; the input reads as it did. -/
def topRestartsSpec : ChangeSpec := { name := "topRestarts", fn := fun _ => fun
  | [d1, d2, d3] => { results := [.lit (.bool true)], args := [d1, d2, d3] }
  | _ => none }
def topRestartsRow : OpenClaim := { program := "ytmfincpagnpkjaagreat", sum := "f2cd35d03618ad122af85a231886a47503b1c5b67b7556f41aec539ad678a80b", func := "windlass/windlasstop.TopRestarts", spec := "topRestarts", inPlace := ["internal/abi.NoEscape", "internal/bytealg.MakeNoZero"], unfollowed := true, recurses := true, apart := false }
def TopRestartsSaid : Prop := topRestartsRow.holds Tryz.pinned (OpenSpec.ofChange topRestartsSpec)

/-- ITS FALSE NEIGHBOUR: 'it returns false'. Refute it at one input. -/
def topRestartsWrong : ChangeSpec := { name := "topRestarts", fn := fun _ => fun
  | [d1, d2, d3] => { results := [.lit (.bool false)], args := [d1, d2, d3] }
  | _ => none }
def TopRestartsWrongFalsely : Prop := topRestartsRow.holds Tryz.pinned (OpenSpec.ofChange topRestartsWrong)

/- THE SECOND FORM. 'bulk': how many values and letters a reading holds, each counted each time it is reached (what is shared counts as often as it is met; a slice's spare places count too). A statement '..UptoSaid' is the law's where the arguments, and the package variables that the reading takes, are together of bulk at most 1048576: NARROWER than '..Said'. Prove '..Said' where nothing that the law and all that it calls make is longer than what came in: it says more and counts as full. Else prove '..UptoSaid'. A law counts once. -/
mutual
def uptoBulk {H : Type} : DataW H → Nat
  | .lit (.string bytes) => bytes.length + 1
  | .lit _ => 1
  | .nil => 1
  | .ptr d => uptoBulk d + 1
  | .slice elems spare => uptoBulkAll elems + uptoBulkAll spare + 1
  | .agg parts => uptoBulkAll parts + 1
  | .iface _ d => uptoBulk d + 1
  | .map entries => uptoBulkEntries entries + 1
  | .held _ => 1
def uptoBulkAll {H : Type} : List (DataW H) → Nat
  | [] => 0
  | d :: r => uptoBulk d + uptoBulkAll r
def uptoBulkEntries {H : Type} : List (Lit × DataW H) → Nat
  | [] => 0
  | x :: r => uptoBulkEntry x + uptoBulkEntries r
def uptoBulkEntry {H : Type} : Lit × DataW H → Nat
  | (.string bytes, d) => bytes.length + uptoBulk d + 1
  | (_, d) => uptoBulk d + 1
 end
def uptoSmall : (H : Type) → List (DataW H) → Bool := fun _ ds => decide (uptoBulkAll ds ≤ 1048576)
def OpenSpec.upto (s : _root_.Go.ChangeSpec) : _root_.Go.OpenSpec := { _root_.Go.OpenSpec.ofChange s with cond := some uptoSmall }

/-- 'windlasstop.TopLost', WHERE WHAT IT READS IS OF BULK AT MOST 1048576: true; the input reads as it did. -/
def topLostUptoRow : OpenClaim := { program := "ytmfincpagnpkjaagreat", sum := "f2cd35d03618ad122af85a231886a47503b1c5b67b7556f41aec539ad678a80b", func := "windlass/windlasstop.TopLost", spec := "topLost", inPlace := ["internal/abi.NoEscape", "internal/bytealg.MakeNoZero"], unfollowed := true, recurses := true, apart := false, narrowed := true }
def TopLostUptoSaid : Prop := topLostUptoRow.holds Tryz.pinned (OpenSpec.upto topLostSpec)

/-- 'windlasstop.TopRestarts', WHERE WHAT IT READS IS OF BULK AT MOST 1048576: true; the input reads as it did. -/
def topRestartsUptoRow : OpenClaim := { program := "ytmfincpagnpkjaagreat", sum := "f2cd35d03618ad122af85a231886a47503b1c5b67b7556f41aec539ad678a80b", func := "windlass/windlasstop.TopRestarts", spec := "topRestarts", inPlace := ["internal/abi.NoEscape", "internal/bytealg.MakeNoZero"], unfollowed := true, recurses := true, apart := false, narrowed := true }
def TopRestartsUptoSaid : Prop := topRestartsUptoRow.holds Tryz.pinned (OpenSpec.upto topRestartsSpec)

end Rows
end Go.Proofs.YtmfincpagnpkjaaGreat
