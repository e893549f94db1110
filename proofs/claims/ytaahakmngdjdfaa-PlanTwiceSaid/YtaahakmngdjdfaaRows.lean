/-
  No cell of these rows narrows 'for every input' (looked for: loops, veiled, ifaces, maps, wideKeys, modest, calm, conditions, laid).
  DERIVED. THE GIVEN ROWS OF THIS SEAT. 6 by the template 'for every input the law returns true; each argument reads behind the call as it read before'; 0 by the template 'total and deterministic' (their statements: YtaahakmngdjdfaaTotals.lean).
  GIVEN WITH THE SEED: the statements are not yours to turn. If you find one false, say at which input.
  Laid BY PROGRAM, IN A SANDBOX (cutbox-rows.mjs): the forced cells as the released guide's own fill.sh prints them over the translation 12afed2e09b58147… (all of the seat's roots in one cut). By AI agents, Wed Nov 11 2026. No macro, syntax, notation, axiom, sorry.
-/
import Derived.Test.YtaahakmngdjdfaaChecked
import GoSem.Claim
import GoSem.ClaimJoined
import GoSem.ClaimMapViews
import Derived.JoinedTies
import Derived.KernelRfl
namespace Go.Proofs.Ytaahakmngdjdfaa
/- THE CELL 'sum', in the pinned program and in every row, IS THE sha256 OF THE DUMP (.gsa) THAT YtaahakmngdjdfaaProg.lean LOADS. Nothing in Lean hashes anything: it is a label: what it is worth is what the hold of that sum in a sandbox is worth. -/
noncomputable def Try.pinned : Pinned := { name := "ytaahakmngdjdfaa", sum := "12afed2e09b58147362d42824db046f8d8f3f0b829089df429b8293fdb2b3220", checked := Try.checked }
namespace Rows
def none {H : Type} : Left H := { results := [], args := [] }

/-- 'windlasslaw06.PlanSplits': WHATEVER THE INPUT: true; the input reads as it did. -/
def planSplitsSpec : ChangeSpec := { name := "planSplits", fn := fun _ => fun
  | [d1, d2, d3] => { results := [.lit (.bool true)], args := [d1, d2, d3] }
  | _ => none }
def planSplitsRow : OpenClaim := { program := "ytaahakmngdjdfaa", sum := "12afed2e09b58147362d42824db046f8d8f3f0b829089df429b8293fdb2b3220", func := "windlass/windlasslaw06.PlanSplits", spec := "planSplits", apart := false }
def PlanSplitsSaid : Prop := planSplitsRow.holds Try.pinned (OpenSpec.ofChange planSplitsSpec)

/-- ITS FALSE NEIGHBOUR: 'it returns false'. Refute it at one input. -/
def planSplitsWrong : ChangeSpec := { name := "planSplits", fn := fun _ => fun
  | [d1, d2, d3] => { results := [.lit (.bool false)], args := [d1, d2, d3] }
  | _ => none }
def PlanSplitsWrongFalsely : Prop := planSplitsRow.holds Try.pinned (OpenSpec.ofChange planSplitsWrong)

/-- 'windlasslaw06.PlanNeeds': WHATEVER THE INPUT: true; the input reads as it did. -/
def planNeedsSpec : ChangeSpec := { name := "planNeeds", fn := fun _ => fun
  | [d1, d2, d3] => { results := [.lit (.bool true)], args := [d1, d2, d3] }
  | _ => none }
def planNeedsRow : OpenClaim := { program := "ytaahakmngdjdfaa", sum := "12afed2e09b58147362d42824db046f8d8f3f0b829089df429b8293fdb2b3220", func := "windlass/windlasslaw06.PlanNeeds", spec := "planNeeds", apart := false }
def PlanNeedsSaid : Prop := planNeedsRow.holds Try.pinned (OpenSpec.ofChange planNeedsSpec)

/-- ITS FALSE NEIGHBOUR: 'it returns false'. Refute it at one input. -/
def planNeedsWrong : ChangeSpec := { name := "planNeeds", fn := fun _ => fun
  | [d1, d2, d3] => { results := [.lit (.bool false)], args := [d1, d2, d3] }
  | _ => none }
def PlanNeedsWrongFalsely : Prop := planNeedsRow.holds Try.pinned (OpenSpec.ofChange planNeedsWrong)

/-- 'windlasslaw06.PlanReads': WHATEVER THE INPUT: true; the input reads as it did. -/
def planReadsSpec : ChangeSpec := { name := "planReads", fn := fun _ => fun
  | [d1, d2, d3, d4] => { results := [.lit (.bool true)], args := [d1, d2, d3, d4] }
  | _ => none }
def planReadsRow : OpenClaim := { program := "ytaahakmngdjdfaa", sum := "12afed2e09b58147362d42824db046f8d8f3f0b829089df429b8293fdb2b3220", func := "windlass/windlasslaw06.PlanReads", spec := "planReads", apart := false }
def PlanReadsSaid : Prop := planReadsRow.holds Try.pinned (OpenSpec.ofChange planReadsSpec)

/-- ITS FALSE NEIGHBOUR: 'it returns false'. Refute it at one input. -/
def planReadsWrong : ChangeSpec := { name := "planReads", fn := fun _ => fun
  | [d1, d2, d3, d4] => { results := [.lit (.bool false)], args := [d1, d2, d3, d4] }
  | _ => none }
def PlanReadsWrongFalsely : Prop := planReadsRow.holds Try.pinned (OpenSpec.ofChange planReadsWrong)

/-- 'windlasslaw06.PlanWays': WHATEVER THE INPUT: true; the input reads as it did. -/
def planWaysSpec : ChangeSpec := { name := "planWays", fn := fun _ => fun
  | [d1, d2, d3, d4, d5] => { results := [.lit (.bool true)], args := [d1, d2, d3, d4, d5] }
  | _ => none }
def planWaysRow : OpenClaim := { program := "ytaahakmngdjdfaa", sum := "12afed2e09b58147362d42824db046f8d8f3f0b829089df429b8293fdb2b3220", func := "windlass/windlasslaw06.PlanWays", spec := "planWays", apart := false }
def PlanWaysSaid : Prop := planWaysRow.holds Try.pinned (OpenSpec.ofChange planWaysSpec)

/-- ITS FALSE NEIGHBOUR: 'it returns false'. Refute it at one input. -/
def planWaysWrong : ChangeSpec := { name := "planWays", fn := fun _ => fun
  | [d1, d2, d3, d4, d5] => { results := [.lit (.bool false)], args := [d1, d2, d3, d4, d5] }
  | _ => none }
def PlanWaysWrongFalsely : Prop := planWaysRow.holds Try.pinned (OpenSpec.ofChange planWaysWrong)

/-- 'windlasslaw06.PlanWrites': WHATEVER THE INPUT: true; the input reads as it did. -/
def planWritesSpec : ChangeSpec := { name := "planWrites", fn := fun _ => fun
  | [d1, d2, d3, d4, d5] => { results := [.lit (.bool true)], args := [d1, d2, d3, d4, d5] }
  | _ => none }
def planWritesRow : OpenClaim := { program := "ytaahakmngdjdfaa", sum := "12afed2e09b58147362d42824db046f8d8f3f0b829089df429b8293fdb2b3220", func := "windlass/windlasslaw06.PlanWrites", spec := "planWrites", apart := false }
def PlanWritesSaid : Prop := planWritesRow.holds Try.pinned (OpenSpec.ofChange planWritesSpec)

/-- ITS FALSE NEIGHBOUR: 'it returns false'. Refute it at one input. -/
def planWritesWrong : ChangeSpec := { name := "planWrites", fn := fun _ => fun
  | [d1, d2, d3, d4, d5] => { results := [.lit (.bool false)], args := [d1, d2, d3, d4, d5] }
  | _ => none }
def PlanWritesWrongFalsely : Prop := planWritesRow.holds Try.pinned (OpenSpec.ofChange planWritesWrong)

/-- 'windlasslaw06.PlanTwice': WHATEVER THE INPUT: true; the input reads as it did. -/
def planTwiceSpec : ChangeSpec := { name := "planTwice", fn := fun _ => fun
  | [d1, d2, d3, d4, d5, d6] => { results := [.lit (.bool true)], args := [d1, d2, d3, d4, d5, d6] }
  | _ => none }
def planTwiceRow : OpenClaim := { program := "ytaahakmngdjdfaa", sum := "12afed2e09b58147362d42824db046f8d8f3f0b829089df429b8293fdb2b3220", func := "windlass/windlasslaw06.PlanTwice", spec := "planTwice", unfollowed := true, recurses := true, apart := false }
def PlanTwiceSaid : Prop := planTwiceRow.holds Try.pinned (OpenSpec.ofChange planTwiceSpec)

/-- ITS FALSE NEIGHBOUR: 'it returns false'. Refute it at one input. -/
def planTwiceWrong : ChangeSpec := { name := "planTwice", fn := fun _ => fun
  | [d1, d2, d3, d4, d5, d6] => { results := [.lit (.bool false)], args := [d1, d2, d3, d4, d5, d6] }
  | _ => none }
def PlanTwiceWrongFalsely : Prop := planTwiceRow.holds Try.pinned (OpenSpec.ofChange planTwiceWrong)

/- THE SECOND FORM. 'bulk': how many values and letters a reading holds, each counted each time it is reached (what is shared counts as often as it is met; a slice's spare places count too). A statement '..UptoSaid' is the law's where the arguments, and the package variables that the reading takes, are together of bulk at most 1048576: NARROWER than '..Said'. Prove '..Said' where nothing that the law and all that it calls make is longer than what came in: it says more and counts as full. Else prove '..UptoSaid'. A law counts once. -/
mutual
def uptoBulk {H : Type} : DataW H → Nat
  | .lit (.string bytes) => bytes.length + 1
  | .lit _ => 1
  | .nil => 1
  | .ptr d => uptoBulk d + 1
  | .slice elems spare => uptoBulkAll elems + uptoBulkAll spare + 1
  | .agg parts => uptoBulkAll parts + 1
  | .iface _ d => uptoBulk d + 1
  | .map entries => uptoBulkEntries entries + 1
  | .held _ => 1
def uptoBulkAll {H : Type} : List (DataW H) → Nat
  | [] => 0
  | d :: r => uptoBulk d + uptoBulkAll r
def uptoBulkEntries {H : Type} : List (Lit × DataW H) → Nat
  | [] => 0
  | x :: r => uptoBulkEntry x + uptoBulkEntries r
def uptoBulkEntry {H : Type} : Lit × DataW H → Nat
  | (.string bytes, d) => bytes.length + uptoBulk d + 1
  | (_, d) => uptoBulk d + 1
 end
def uptoSmall : (H : Type) → List (DataW H) → Bool := fun _ ds => decide (uptoBulkAll ds ≤ 1048576)
def OpenSpec.upto (s : _root_.Go.ChangeSpec) : _root_.Go.OpenSpec := { _root_.Go.OpenSpec.ofChange s with cond := some uptoSmall }

/-- 'windlasslaw06.PlanSplits', WHERE WHAT IT READS IS OF BULK AT MOST 1048576: true; the input reads as it did. -/
def planSplitsUptoRow : OpenClaim := { program := "ytaahakmngdjdfaa", sum := "12afed2e09b58147362d42824db046f8d8f3f0b829089df429b8293fdb2b3220", func := "windlass/windlasslaw06.PlanSplits", spec := "planSplits", apart := false, narrowed := true }
def PlanSplitsUptoSaid : Prop := planSplitsUptoRow.holds Try.pinned (OpenSpec.upto planSplitsSpec)

/-- 'windlasslaw06.PlanNeeds', WHERE WHAT IT READS IS OF BULK AT MOST 1048576: true; the input reads as it did. -/
def planNeedsUptoRow : OpenClaim := { program := "ytaahakmngdjdfaa", sum := "12afed2e09b58147362d42824db046f8d8f3f0b829089df429b8293fdb2b3220", func := "windlass/windlasslaw06.PlanNeeds", spec := "planNeeds", apart := false, narrowed := true }
def PlanNeedsUptoSaid : Prop := planNeedsUptoRow.holds Try.pinned (OpenSpec.upto planNeedsSpec)

/-- 'windlasslaw06.PlanReads', WHERE WHAT IT READS IS OF BULK AT MOST 1048576: true; the input reads as it did. -/
def planReadsUptoRow : OpenClaim := { program := "ytaahakmngdjdfaa", sum := "12afed2e09b58147362d42824db046f8d8f3f0b829089df429b8293fdb2b3220", func := "windlass/windlasslaw06.PlanReads", spec := "planReads", apart := false, narrowed := true }
def PlanReadsUptoSaid : Prop := planReadsUptoRow.holds Try.pinned (OpenSpec.upto planReadsSpec)

/-- 'windlasslaw06.PlanWays', WHERE WHAT IT READS IS OF BULK AT MOST 1048576: true; the input reads as it did. -/
def planWaysUptoRow : OpenClaim := { program := "ytaahakmngdjdfaa", sum := "12afed2e09b58147362d42824db046f8d8f3f0b829089df429b8293fdb2b3220", func := "windlass/windlasslaw06.PlanWays", spec := "planWays", apart := false, narrowed := true }
def PlanWaysUptoSaid : Prop := planWaysUptoRow.holds Try.pinned (OpenSpec.upto planWaysSpec)

/-- 'windlasslaw06.PlanWrites', WHERE WHAT IT READS IS OF BULK AT MOST 1048576: true; the input reads as it did. -/
def planWritesUptoRow : OpenClaim := { program := "ytaahakmngdjdfaa", sum := "12afed2e09b58147362d42824db046f8d8f3f0b829089df429b8293fdb2b3220", func := "windlass/windlasslaw06.PlanWrites", spec := "planWrites", apart := false, narrowed := true }
def PlanWritesUptoSaid : Prop := planWritesUptoRow.holds Try.pinned (OpenSpec.upto planWritesSpec)

/-- 'windlasslaw06.PlanTwice', WHERE WHAT IT READS IS OF BULK AT MOST 1048576: true; the input reads as it did. -/
def planTwiceUptoRow : OpenClaim := { program := "ytaahakmngdjdfaa", sum := "12afed2e09b58147362d42824db046f8d8f3f0b829089df429b8293fdb2b3220", func := "windlass/windlasslaw06.PlanTwice", spec := "planTwice", unfollowed := true, recurses := true, apart := false, narrowed := true }
def PlanTwiceUptoSaid : Prop := planTwiceUptoRow.holds Try.pinned (OpenSpec.upto planTwiceSpec)

end Rows
end Go.Proofs.Ytaahakmngdjdfaa
