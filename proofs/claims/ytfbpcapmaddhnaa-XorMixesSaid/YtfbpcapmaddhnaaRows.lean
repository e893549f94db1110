/-
  No cell of these rows narrows 'for every input' (looked for: loops, veiled, ifaces, maps, wideKeys, modest, calm, conditions, laid).
  DERIVED. THE GIVEN ROWS OF THIS SEAT. 9 by the template 'for every input the law returns true; each argument reads behind the call as it read before'; 0 by the template 'total and deterministic' (their statements: YtfbpcapmaddhnaaTotals.lean).
  GIVEN WITH THE SEED: the statements are not yours to turn. If you find one false, say at which input.
  Laid BY PROGRAM, IN A SANDBOX (cutbox-rows.mjs): the forced cells as the released guide's own fill.sh prints them over the translation 8c4d4d2f428f422c… (all of the seat's roots in one cut). By AI agents, Wed Nov 11 2026. No macro, syntax, notation, axiom, sorry.
-/
import Derived.Test.YtfbpcapmaddhnaaChecked
import GoSem.Claim
import GoSem.ClaimJoined
import GoSem.ClaimMapViews
import Derived.JoinedTies
import Derived.KernelRfl
namespace Go.Proofs.Ytfbpcapmaddhnaa
/- THE CELL 'sum', in the pinned program and in every row, IS THE sha256 OF THE DUMP (.gsa) THAT YtfbpcapmaddhnaaProg.lean LOADS. Nothing in Lean hashes anything: it is a label: what it is worth is what the hold of that sum in a sandbox is worth. -/
noncomputable def Try.pinned : Pinned := { name := "ytfbpcapmaddhnaa", sum := "8c4d4d2f428f422ca527b69db8b05a4a47e0715dddec0a470d22dd42e9b3de1b", checked := Try.checked }
namespace Rows
def none {H : Type} : Left H := { results := [], args := [] }

/-- 'windlasslaw01.XorTurns': WHATEVER THE INPUT: true; the input reads as it did. -/
def xorTurnsSpec : ChangeSpec := { name := "xorTurns", fn := fun _ => fun
  | [d1, d2, d3, d4] => { results := [.lit (.bool true)], args := [d1, d2, d3, d4] }
  | _ => none }
def xorTurnsRow : OpenClaim := { program := "ytfbpcapmaddhnaa", sum := "8c4d4d2f428f422ca527b69db8b05a4a47e0715dddec0a470d22dd42e9b3de1b", func := "windlass/windlasslaw01.XorTurns", spec := "xorTurns", apart := false }
def XorTurnsSaid : Prop := xorTurnsRow.holds Try.pinned (OpenSpec.ofChange xorTurnsSpec)

/-- ITS FALSE NEIGHBOUR: 'it returns false'. Refute it at one input. -/
def xorTurnsWrong : ChangeSpec := { name := "xorTurns", fn := fun _ => fun
  | [d1, d2, d3, d4] => { results := [.lit (.bool false)], args := [d1, d2, d3, d4] }
  | _ => none }
def XorTurnsWrongFalsely : Prop := xorTurnsRow.holds Try.pinned (OpenSpec.ofChange xorTurnsWrong)

/-- 'windlasslaw01.XorMisses': WHATEVER THE INPUT: true; the input reads as it did. -/
def xorMissesSpec : ChangeSpec := { name := "xorMisses", fn := fun _ => fun
  | [d1, d2, d3, d4] => { results := [.lit (.bool true)], args := [d1, d2, d3, d4] }
  | _ => none }
def xorMissesRow : OpenClaim := { program := "ytfbpcapmaddhnaa", sum := "8c4d4d2f428f422ca527b69db8b05a4a47e0715dddec0a470d22dd42e9b3de1b", func := "windlass/windlasslaw01.XorMisses", spec := "xorMisses", apart := false }
def XorMissesSaid : Prop := xorMissesRow.holds Try.pinned (OpenSpec.ofChange xorMissesSpec)

/-- ITS FALSE NEIGHBOUR: 'it returns false'. Refute it at one input. -/
def xorMissesWrong : ChangeSpec := { name := "xorMisses", fn := fun _ => fun
  | [d1, d2, d3, d4] => { results := [.lit (.bool false)], args := [d1, d2, d3, d4] }
  | _ => none }
def XorMissesWrongFalsely : Prop := xorMissesRow.holds Try.pinned (OpenSpec.ofChange xorMissesWrong)

/-- 'windlasslaw01.XorParts': WHATEVER THE INPUT: true; the input reads as it did. -/
def xorPartsSpec : ChangeSpec := { name := "xorParts", fn := fun _ => fun
  | [d1, d2, d3, d4] => { results := [.lit (.bool true)], args := [d1, d2, d3, d4] }
  | _ => none }
def xorPartsRow : OpenClaim := { program := "ytfbpcapmaddhnaa", sum := "8c4d4d2f428f422ca527b69db8b05a4a47e0715dddec0a470d22dd42e9b3de1b", func := "windlass/windlasslaw01.XorParts", spec := "xorParts", apart := false }
def XorPartsSaid : Prop := xorPartsRow.holds Try.pinned (OpenSpec.ofChange xorPartsSpec)

/-- ITS FALSE NEIGHBOUR: 'it returns false'. Refute it at one input. -/
def xorPartsWrong : ChangeSpec := { name := "xorParts", fn := fun _ => fun
  | [d1, d2, d3, d4] => { results := [.lit (.bool false)], args := [d1, d2, d3, d4] }
  | _ => none }
def XorPartsWrongFalsely : Prop := xorPartsRow.holds Try.pinned (OpenSpec.ofChange xorPartsWrong)

/-- 'windlasslaw01.XorZero': WHATEVER THE INPUT: true; the input reads as it did. -/
def xorZeroSpec : ChangeSpec := { name := "xorZero", fn := fun _ => fun
  | [d1, d2, d3] => { results := [.lit (.bool true)], args := [d1, d2, d3] }
  | _ => none }
def xorZeroRow : OpenClaim := { program := "ytfbpcapmaddhnaa", sum := "8c4d4d2f428f422ca527b69db8b05a4a47e0715dddec0a470d22dd42e9b3de1b", func := "windlass/windlasslaw01.XorZero", spec := "xorZero", apart := false }
def XorZeroSaid : Prop := xorZeroRow.holds Try.pinned (OpenSpec.ofChange xorZeroSpec)

/-- ITS FALSE NEIGHBOUR: 'it returns false'. Refute it at one input. -/
def xorZeroWrong : ChangeSpec := { name := "xorZero", fn := fun _ => fun
  | [d1, d2, d3] => { results := [.lit (.bool false)], args := [d1, d2, d3] }
  | _ => none }
def XorZeroWrongFalsely : Prop := xorZeroRow.holds Try.pinned (OpenSpec.ofChange xorZeroWrong)

/-- 'windlasslaw01.XorUndo': WHATEVER THE INPUT: true; the input reads as it did. -/
def xorUndoSpec : ChangeSpec := { name := "xorUndo", fn := fun _ => fun
  | [d1, d2, d3] => { results := [.lit (.bool true)], args := [d1, d2, d3] }
  | _ => none }
def xorUndoRow : OpenClaim := { program := "ytfbpcapmaddhnaa", sum := "8c4d4d2f428f422ca527b69db8b05a4a47e0715dddec0a470d22dd42e9b3de1b", func := "windlass/windlasslaw01.XorUndo", spec := "xorUndo", apart := false }
def XorUndoSaid : Prop := xorUndoRow.holds Try.pinned (OpenSpec.ofChange xorUndoSpec)

/-- ITS FALSE NEIGHBOUR: 'it returns false'. Refute it at one input. -/
def xorUndoWrong : ChangeSpec := { name := "xorUndo", fn := fun _ => fun
  | [d1, d2, d3] => { results := [.lit (.bool false)], args := [d1, d2, d3] }
  | _ => none }
def XorUndoWrongFalsely : Prop := xorUndoRow.holds Try.pinned (OpenSpec.ofChange xorUndoWrong)

/-- 'windlasslaw01.XorTells': WHATEVER THE INPUT: true; the input reads as it did. -/
def xorTellsSpec : ChangeSpec := { name := "xorTells", fn := fun _ => fun
  | [d1, d2, d3, d4] => { results := [.lit (.bool true)], args := [d1, d2, d3, d4] }
  | _ => none }
def xorTellsRow : OpenClaim := { program := "ytfbpcapmaddhnaa", sum := "8c4d4d2f428f422ca527b69db8b05a4a47e0715dddec0a470d22dd42e9b3de1b", func := "windlass/windlasslaw01.XorTells", spec := "xorTells", apart := false }
def XorTellsSaid : Prop := xorTellsRow.holds Try.pinned (OpenSpec.ofChange xorTellsSpec)

/-- ITS FALSE NEIGHBOUR: 'it returns false'. Refute it at one input. -/
def xorTellsWrong : ChangeSpec := { name := "xorTells", fn := fun _ => fun
  | [d1, d2, d3, d4] => { results := [.lit (.bool false)], args := [d1, d2, d3, d4] }
  | _ => none }
def XorTellsWrongFalsely : Prop := xorTellsRow.holds Try.pinned (OpenSpec.ofChange xorTellsWrong)

/-- 'windlasslaw01.XorMixes': WHATEVER THE INPUT: true; the input reads as it did. -/
def xorMixesSpec : ChangeSpec := { name := "xorMixes", fn := fun _ => fun
  | [d1, d2, d3] => { results := [.lit (.bool true)], args := [d1, d2, d3] }
  | _ => none }
def xorMixesRow : OpenClaim := { program := "ytfbpcapmaddhnaa", sum := "8c4d4d2f428f422ca527b69db8b05a4a47e0715dddec0a470d22dd42e9b3de1b", func := "windlass/windlasslaw01.XorMixes", spec := "xorMixes", apart := false }
def XorMixesSaid : Prop := xorMixesRow.holds Try.pinned (OpenSpec.ofChange xorMixesSpec)

/-- ITS FALSE NEIGHBOUR: 'it returns false'. Refute it at one input. -/
def xorMixesWrong : ChangeSpec := { name := "xorMixes", fn := fun _ => fun
  | [d1, d2, d3] => { results := [.lit (.bool false)], args := [d1, d2, d3] }
  | _ => none }
def XorMixesWrongFalsely : Prop := xorMixesRow.holds Try.pinned (OpenSpec.ofChange xorMixesWrong)

/-- 'windlasslaw01.XorMoves': WHATEVER THE INPUT: true; the input reads as it did. -/
def xorMovesSpec : ChangeSpec := { name := "xorMoves", fn := fun _ => fun
  | [d1, d2, d3, d4, d5] => { results := [.lit (.bool true)], args := [d1, d2, d3, d4, d5] }
  | _ => none }
def xorMovesRow : OpenClaim := { program := "ytfbpcapmaddhnaa", sum := "8c4d4d2f428f422ca527b69db8b05a4a47e0715dddec0a470d22dd42e9b3de1b", func := "windlass/windlasslaw01.XorMoves", spec := "xorMoves", apart := false }
def XorMovesSaid : Prop := xorMovesRow.holds Try.pinned (OpenSpec.ofChange xorMovesSpec)

/-- ITS FALSE NEIGHBOUR: 'it returns false'. Refute it at one input. -/
def xorMovesWrong : ChangeSpec := { name := "xorMoves", fn := fun _ => fun
  | [d1, d2, d3, d4, d5] => { results := [.lit (.bool false)], args := [d1, d2, d3, d4, d5] }
  | _ => none }
def XorMovesWrongFalsely : Prop := xorMovesRow.holds Try.pinned (OpenSpec.ofChange xorMovesWrong)

/-- 'windlasslaw01.XorTwice': WHATEVER THE INPUT: true; the input reads as it did. -/
def xorTwiceSpec : ChangeSpec := { name := "xorTwice", fn := fun _ => fun
  | [d1, d2, d3, d4] => { results := [.lit (.bool true)], args := [d1, d2, d3, d4] }
  | _ => none }
def xorTwiceRow : OpenClaim := { program := "ytfbpcapmaddhnaa", sum := "8c4d4d2f428f422ca527b69db8b05a4a47e0715dddec0a470d22dd42e9b3de1b", func := "windlass/windlasslaw01.XorTwice", spec := "xorTwice", apart := false }
def XorTwiceSaid : Prop := xorTwiceRow.holds Try.pinned (OpenSpec.ofChange xorTwiceSpec)

/-- ITS FALSE NEIGHBOUR: 'it returns false'. Refute it at one input. -/
def xorTwiceWrong : ChangeSpec := { name := "xorTwice", fn := fun _ => fun
  | [d1, d2, d3, d4] => { results := [.lit (.bool false)], args := [d1, d2, d3, d4] }
  | _ => none }
def XorTwiceWrongFalsely : Prop := xorTwiceRow.holds Try.pinned (OpenSpec.ofChange xorTwiceWrong)

/- THE SECOND FORM. 'bulk': how many values and letters a reading holds, each counted each time it is reached (what is shared counts as often as it is met; a slice's spare places count too). A statement '..UptoSaid' is the law's where the arguments, and the package variables that the reading takes, are together of bulk at most 1048576: NARROWER than '..Said'. Prove '..Said' where nothing that the law and all that it calls make is longer than what came in: it says more and counts as full. Else prove '..UptoSaid'. A law counts once. -/
mutual
def uptoBulk {H : Type} : DataW H → Nat
  | .lit (.string bytes) => bytes.length + 1
  | .lit _ => 1
  | .nil => 1
  | .ptr d => uptoBulk d + 1
  | .slice elems spare => uptoBulkAll elems + uptoBulkAll spare + 1
  | .agg parts => uptoBulkAll parts + 1
  | .iface _ d => uptoBulk d + 1
  | .map entries => uptoBulkEntries entries + 1
  | .held _ => 1
def uptoBulkAll {H : Type} : List (DataW H) → Nat
  | [] => 0
  | d :: r => uptoBulk d + uptoBulkAll r
def uptoBulkEntries {H : Type} : List (Lit × DataW H) → Nat
  | [] => 0
  | x :: r => uptoBulkEntry x + uptoBulkEntries r
def uptoBulkEntry {H : Type} : Lit × DataW H → Nat
  | (.string bytes, d) => bytes.length + uptoBulk d + 1
  | (_, d) => uptoBulk d + 1
 end
def uptoSmall : (H : Type) → List (DataW H) → Bool := fun _ ds => decide (uptoBulkAll ds ≤ 1048576)
def OpenSpec.upto (s : _root_.Go.ChangeSpec) : _root_.Go.OpenSpec := { _root_.Go.OpenSpec.ofChange s with cond := some uptoSmall }

/-- 'windlasslaw01.XorTurns', WHERE WHAT IT READS IS OF BULK AT MOST 1048576: true; the input reads as it did. -/
def xorTurnsUptoRow : OpenClaim := { program := "ytfbpcapmaddhnaa", sum := "8c4d4d2f428f422ca527b69db8b05a4a47e0715dddec0a470d22dd42e9b3de1b", func := "windlass/windlasslaw01.XorTurns", spec := "xorTurns", apart := false, narrowed := true }
def XorTurnsUptoSaid : Prop := xorTurnsUptoRow.holds Try.pinned (OpenSpec.upto xorTurnsSpec)

/-- 'windlasslaw01.XorMisses', WHERE WHAT IT READS IS OF BULK AT MOST 1048576: true; the input reads as it did. -/
def xorMissesUptoRow : OpenClaim := { program := "ytfbpcapmaddhnaa", sum := "8c4d4d2f428f422ca527b69db8b05a4a47e0715dddec0a470d22dd42e9b3de1b", func := "windlass/windlasslaw01.XorMisses", spec := "xorMisses", apart := false, narrowed := true }
def XorMissesUptoSaid : Prop := xorMissesUptoRow.holds Try.pinned (OpenSpec.upto xorMissesSpec)

/-- 'windlasslaw01.XorParts', WHERE WHAT IT READS IS OF BULK AT MOST 1048576: true; the input reads as it did. -/
def xorPartsUptoRow : OpenClaim := { program := "ytfbpcapmaddhnaa", sum := "8c4d4d2f428f422ca527b69db8b05a4a47e0715dddec0a470d22dd42e9b3de1b", func := "windlass/windlasslaw01.XorParts", spec := "xorParts", apart := false, narrowed := true }
def XorPartsUptoSaid : Prop := xorPartsUptoRow.holds Try.pinned (OpenSpec.upto xorPartsSpec)

/-- 'windlasslaw01.XorZero', WHERE WHAT IT READS IS OF BULK AT MOST 1048576: true; the input reads as it did. -/
def xorZeroUptoRow : OpenClaim := { program := "ytfbpcapmaddhnaa", sum := "8c4d4d2f428f422ca527b69db8b05a4a47e0715dddec0a470d22dd42e9b3de1b", func := "windlass/windlasslaw01.XorZero", spec := "xorZero", apart := false, narrowed := true }
def XorZeroUptoSaid : Prop := xorZeroUptoRow.holds Try.pinned (OpenSpec.upto xorZeroSpec)

/-- 'windlasslaw01.XorUndo', WHERE WHAT IT READS IS OF BULK AT MOST 1048576: true; the input reads as it did. -/
def xorUndoUptoRow : OpenClaim := { program := "ytfbpcapmaddhnaa", sum := "8c4d4d2f428f422ca527b69db8b05a4a47e0715dddec0a470d22dd42e9b3de1b", func := "windlass/windlasslaw01.XorUndo", spec := "xorUndo", apart := false, narrowed := true }
def XorUndoUptoSaid : Prop := xorUndoUptoRow.holds Try.pinned (OpenSpec.upto xorUndoSpec)

/-- 'windlasslaw01.XorTells', WHERE WHAT IT READS IS OF BULK AT MOST 1048576: true; the input reads as it did. -/
def xorTellsUptoRow : OpenClaim := { program := "ytfbpcapmaddhnaa", sum := "8c4d4d2f428f422ca527b69db8b05a4a47e0715dddec0a470d22dd42e9b3de1b", func := "windlass/windlasslaw01.XorTells", spec := "xorTells", apart := false, narrowed := true }
def XorTellsUptoSaid : Prop := xorTellsUptoRow.holds Try.pinned (OpenSpec.upto xorTellsSpec)

/-- 'windlasslaw01.XorMixes', WHERE WHAT IT READS IS OF BULK AT MOST 1048576: true; the input reads as it did. -/
def xorMixesUptoRow : OpenClaim := { program := "ytfbpcapmaddhnaa", sum := "8c4d4d2f428f422ca527b69db8b05a4a47e0715dddec0a470d22dd42e9b3de1b", func := "windlass/windlasslaw01.XorMixes", spec := "xorMixes", apart := false, narrowed := true }
def XorMixesUptoSaid : Prop := xorMixesUptoRow.holds Try.pinned (OpenSpec.upto xorMixesSpec)

/-- 'windlasslaw01.XorMoves', WHERE WHAT IT READS IS OF BULK AT MOST 1048576: true; the input reads as it did. -/
def xorMovesUptoRow : OpenClaim := { program := "ytfbpcapmaddhnaa", sum := "8c4d4d2f428f422ca527b69db8b05a4a47e0715dddec0a470d22dd42e9b3de1b", func := "windlass/windlasslaw01.XorMoves", spec := "xorMoves", apart := false, narrowed := true }
def XorMovesUptoSaid : Prop := xorMovesUptoRow.holds Try.pinned (OpenSpec.upto xorMovesSpec)

/-- 'windlasslaw01.XorTwice', WHERE WHAT IT READS IS OF BULK AT MOST 1048576: true; the input reads as it did. -/
def xorTwiceUptoRow : OpenClaim := { program := "ytfbpcapmaddhnaa", sum := "8c4d4d2f428f422ca527b69db8b05a4a47e0715dddec0a470d22dd42e9b3de1b", func := "windlass/windlasslaw01.XorTwice", spec := "xorTwice", apart := false, narrowed := true }
def XorTwiceUptoSaid : Prop := xorTwiceUptoRow.holds Try.pinned (OpenSpec.upto xorTwiceSpec)

end Rows
end Go.Proofs.Ytfbpcapmaddhnaa
