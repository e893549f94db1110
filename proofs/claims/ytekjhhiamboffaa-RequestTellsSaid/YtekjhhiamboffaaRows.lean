/-
  No cell of these rows narrows 'for every input' (looked for: loops, veiled, ifaces, maps, wideKeys, modest, calm, conditions, laid).
  DERIVED. THE GIVEN ROWS OF THIS SEAT. 5 by the template 'for every input the law returns true; each argument reads behind the call as it read before'; 0 by the template 'total and deterministic' (their statements: YtekjhhiamboffaaTotals.lean).
  GIVEN WITH THE SEED: the statements are not yours to turn. If you find one false, say at which input.
  Laid BY PROGRAM, IN A SANDBOX (cutbox-rows.mjs): the forced cells as the released guide's own fill.sh prints them over the translation ae4d845b00bd2a5a… (all of the seat's roots in one cut). By AI agents, Wed Nov 11 2026. No macro, syntax, notation, axiom, sorry.
-/
import Derived.Test.YtekjhhiamboffaaChecked
import GoSem.Claim
import GoSem.ClaimJoined
import GoSem.ClaimMapViews
import Derived.JoinedTies
import Derived.KernelRfl
namespace Go.Proofs.Ytekjhhiamboffaa
/- THE CELL 'sum', in the pinned program and in every row, IS THE sha256 OF THE DUMP (.gsa) THAT YtekjhhiamboffaaProg.lean LOADS. Nothing in Lean hashes anything: it is a label: what it is worth is what the hold of that sum in a sandbox is worth. -/
noncomputable def Try.pinned : Pinned := { name := "ytekjhhiamboffaa", sum := "ae4d845b00bd2a5a2426be7f4f560b8df509bd5de47c4c2db5d4858db77c1045", checked := Try.checked }
namespace Rows
def none {H : Type} : Left H := { results := [], args := [] }

/-- 'windlasslaw20.RequestTells': WHATEVER THE INPUT: true; the input reads as it did. -/
def requestTellsSpec : ChangeSpec := { name := "requestTells", fn := fun _ => fun
  | [d1, d2, d3, d4, d5, d6, d7, d8] => { results := [.lit (.bool true)], args := [d1, d2, d3, d4, d5, d6, d7, d8] }
  | _ => none }
def requestTellsRow : OpenClaim := { program := "ytekjhhiamboffaa", sum := "ae4d845b00bd2a5a2426be7f4f560b8df509bd5de47c4c2db5d4858db77c1045", func := "windlass/windlasslaw20.RequestTells", spec := "requestTells", apart := false }
def RequestTellsSaid : Prop := requestTellsRow.holds Try.pinned (OpenSpec.ofChange requestTellsSpec)

/-- ITS FALSE NEIGHBOUR: 'it returns false'. Refute it at one input. -/
def requestTellsWrong : ChangeSpec := { name := "requestTells", fn := fun _ => fun
  | [d1, d2, d3, d4, d5, d6, d7, d8] => { results := [.lit (.bool false)], args := [d1, d2, d3, d4, d5, d6, d7, d8] }
  | _ => none }
def RequestTellsWrongFalsely : Prop := requestTellsRow.holds Try.pinned (OpenSpec.ofChange requestTellsWrong)

/-- 'windlasslaw20.RequestOps': WHATEVER THE INPUT: true; the input reads as it did. -/
def requestOpsSpec : ChangeSpec := { name := "requestOps", fn := fun _ => fun
  | [d1, d2, d3, d4, d5] => { results := [.lit (.bool true)], args := [d1, d2, d3, d4, d5] }
  | _ => none }
def requestOpsRow : OpenClaim := { program := "ytekjhhiamboffaa", sum := "ae4d845b00bd2a5a2426be7f4f560b8df509bd5de47c4c2db5d4858db77c1045", func := "windlass/windlasslaw20.RequestOps", spec := "requestOps", apart := false }
def RequestOpsSaid : Prop := requestOpsRow.holds Try.pinned (OpenSpec.ofChange requestOpsSpec)

/-- ITS FALSE NEIGHBOUR: 'it returns false'. Refute it at one input. -/
def requestOpsWrong : ChangeSpec := { name := "requestOps", fn := fun _ => fun
  | [d1, d2, d3, d4, d5] => { results := [.lit (.bool false)], args := [d1, d2, d3, d4, d5] }
  | _ => none }
def RequestOpsWrongFalsely : Prop := requestOpsRow.holds Try.pinned (OpenSpec.ofChange requestOpsWrong)

/-- 'windlasslaw20.RequestBack': WHATEVER THE INPUT: true; the input reads as it did. -/
def requestBackSpec : ChangeSpec := { name := "requestBack", fn := fun _ => fun
  | [d1, d2, d3, d4] => { results := [.lit (.bool true)], args := [d1, d2, d3, d4] }
  | _ => none }
def requestBackRow : OpenClaim := { program := "ytekjhhiamboffaa", sum := "ae4d845b00bd2a5a2426be7f4f560b8df509bd5de47c4c2db5d4858db77c1045", func := "windlass/windlasslaw20.RequestBack", spec := "requestBack", unfollowed := true, recurses := true, apart := false }
def RequestBackSaid : Prop := requestBackRow.holds Try.pinned (OpenSpec.ofChange requestBackSpec)

/-- ITS FALSE NEIGHBOUR: 'it returns false'. Refute it at one input. -/
def requestBackWrong : ChangeSpec := { name := "requestBack", fn := fun _ => fun
  | [d1, d2, d3, d4] => { results := [.lit (.bool false)], args := [d1, d2, d3, d4] }
  | _ => none }
def RequestBackWrongFalsely : Prop := requestBackRow.holds Try.pinned (OpenSpec.ofChange requestBackWrong)

/-- 'windlasslaw20.RequestBad': WHATEVER THE INPUT: true; the input reads as it did. -/
def requestBadSpec : ChangeSpec := { name := "requestBad", fn := fun _ => fun
  | [d1, d2, d3, d4] => { results := [.lit (.bool true)], args := [d1, d2, d3, d4] }
  | _ => none }
def requestBadRow : OpenClaim := { program := "ytekjhhiamboffaa", sum := "ae4d845b00bd2a5a2426be7f4f560b8df509bd5de47c4c2db5d4858db77c1045", func := "windlass/windlasslaw20.RequestBad", spec := "requestBad", apart := false }
def RequestBadSaid : Prop := requestBadRow.holds Try.pinned (OpenSpec.ofChange requestBadSpec)

/-- ITS FALSE NEIGHBOUR: 'it returns false'. Refute it at one input. -/
def requestBadWrong : ChangeSpec := { name := "requestBad", fn := fun _ => fun
  | [d1, d2, d3, d4] => { results := [.lit (.bool false)], args := [d1, d2, d3, d4] }
  | _ => none }
def RequestBadWrongFalsely : Prop := requestBadRow.holds Try.pinned (OpenSpec.ofChange requestBadWrong)

/-- 'windlasslaw20.RequestWhole': WHATEVER THE INPUT: true; the input reads as it did. -/
def requestWholeSpec : ChangeSpec := { name := "requestWhole", fn := fun _ => fun
  | [d1, d2, d3, d4] => { results := [.lit (.bool true)], args := [d1, d2, d3, d4] }
  | _ => none }
def requestWholeRow : OpenClaim := { program := "ytekjhhiamboffaa", sum := "ae4d845b00bd2a5a2426be7f4f560b8df509bd5de47c4c2db5d4858db77c1045", func := "windlass/windlasslaw20.RequestWhole", spec := "requestWhole", apart := false }
def RequestWholeSaid : Prop := requestWholeRow.holds Try.pinned (OpenSpec.ofChange requestWholeSpec)

/-- ITS FALSE NEIGHBOUR: 'it returns false'. Refute it at one input. -/
def requestWholeWrong : ChangeSpec := { name := "requestWhole", fn := fun _ => fun
  | [d1, d2, d3, d4] => { results := [.lit (.bool false)], args := [d1, d2, d3, d4] }
  | _ => none }
def RequestWholeWrongFalsely : Prop := requestWholeRow.holds Try.pinned (OpenSpec.ofChange requestWholeWrong)

/- THE SECOND FORM. 'bulk': how many values and letters a reading holds, each counted each time it is reached (what is shared counts as often as it is met; a slice's spare places count too). A statement '..UptoSaid' is the law's where the arguments, and the package variables that the reading takes, are together of bulk at most 1048576: NARROWER than '..Said'. Prove '..Said' where nothing that the law and all that it calls make is longer than what came in: it says more and counts as full. Else prove '..UptoSaid'. A law counts once. -/
mutual
def uptoBulk {H : Type} : DataW H → Nat
  | .lit (.string bytes) => bytes.length + 1
  | .lit _ => 1
  | .nil => 1
  | .ptr d => uptoBulk d + 1
  | .slice elems spare => uptoBulkAll elems + uptoBulkAll spare + 1
  | .agg parts => uptoBulkAll parts + 1
  | .iface _ d => uptoBulk d + 1
  | .map entries => uptoBulkEntries entries + 1
  | .held _ => 1
def uptoBulkAll {H : Type} : List (DataW H) → Nat
  | [] => 0
  | d :: r => uptoBulk d + uptoBulkAll r
def uptoBulkEntries {H : Type} : List (Lit × DataW H) → Nat
  | [] => 0
  | x :: r => uptoBulkEntry x + uptoBulkEntries r
def uptoBulkEntry {H : Type} : Lit × DataW H → Nat
  | (.string bytes, d) => bytes.length + uptoBulk d + 1
  | (_, d) => uptoBulk d + 1
 end
def uptoSmall : (H : Type) → List (DataW H) → Bool := fun _ ds => decide (uptoBulkAll ds ≤ 1048576)
def OpenSpec.upto (s : _root_.Go.ChangeSpec) : _root_.Go.OpenSpec := { _root_.Go.OpenSpec.ofChange s with cond := some uptoSmall }

/-- 'windlasslaw20.RequestTells', WHERE WHAT IT READS IS OF BULK AT MOST 1048576: true; the input reads as it did. -/
def requestTellsUptoRow : OpenClaim := { program := "ytekjhhiamboffaa", sum := "ae4d845b00bd2a5a2426be7f4f560b8df509bd5de47c4c2db5d4858db77c1045", func := "windlass/windlasslaw20.RequestTells", spec := "requestTells", apart := false, narrowed := true }
def RequestTellsUptoSaid : Prop := requestTellsUptoRow.holds Try.pinned (OpenSpec.upto requestTellsSpec)

/-- 'windlasslaw20.RequestOps', WHERE WHAT IT READS IS OF BULK AT MOST 1048576: true; the input reads as it did. -/
def requestOpsUptoRow : OpenClaim := { program := "ytekjhhiamboffaa", sum := "ae4d845b00bd2a5a2426be7f4f560b8df509bd5de47c4c2db5d4858db77c1045", func := "windlass/windlasslaw20.RequestOps", spec := "requestOps", apart := false, narrowed := true }
def RequestOpsUptoSaid : Prop := requestOpsUptoRow.holds Try.pinned (OpenSpec.upto requestOpsSpec)

/-- 'windlasslaw20.RequestBack', WHERE WHAT IT READS IS OF BULK AT MOST 1048576: true; the input reads as it did. -/
def requestBackUptoRow : OpenClaim := { program := "ytekjhhiamboffaa", sum := "ae4d845b00bd2a5a2426be7f4f560b8df509bd5de47c4c2db5d4858db77c1045", func := "windlass/windlasslaw20.RequestBack", spec := "requestBack", unfollowed := true, recurses := true, apart := false, narrowed := true }
def RequestBackUptoSaid : Prop := requestBackUptoRow.holds Try.pinned (OpenSpec.upto requestBackSpec)

/-- 'windlasslaw20.RequestBad', WHERE WHAT IT READS IS OF BULK AT MOST 1048576: true; the input reads as it did. -/
def requestBadUptoRow : OpenClaim := { program := "ytekjhhiamboffaa", sum := "ae4d845b00bd2a5a2426be7f4f560b8df509bd5de47c4c2db5d4858db77c1045", func := "windlass/windlasslaw20.RequestBad", spec := "requestBad", apart := false, narrowed := true }
def RequestBadUptoSaid : Prop := requestBadUptoRow.holds Try.pinned (OpenSpec.upto requestBadSpec)

/-- 'windlasslaw20.RequestWhole', WHERE WHAT IT READS IS OF BULK AT MOST 1048576: true; the input reads as it did. -/
def requestWholeUptoRow : OpenClaim := { program := "ytekjhhiamboffaa", sum := "ae4d845b00bd2a5a2426be7f4f560b8df509bd5de47c4c2db5d4858db77c1045", func := "windlass/windlasslaw20.RequestWhole", spec := "requestWhole", apart := false, narrowed := true }
def RequestWholeUptoSaid : Prop := requestWholeUptoRow.holds Try.pinned (OpenSpec.upto requestWholeSpec)

end Rows
end Go.Proofs.Ytekjhhiamboffaa
