/-
  No cell of these rows narrows 'for every input' (looked for: loops, veiled, ifaces, maps, wideKeys, modest, calm, conditions, laid).
  DERIVED. THE GIVEN ROWS OF THIS SEAT. 8 by the template 'for every input the law returns true; each argument reads behind the call as it read before'; 0 by the template 'total and deterministic' (their statements: YtnaanfkiljhmeaaTotals.lean).
  GIVEN WITH THE SEED: the statements are not yours to turn. If you find one false, say at which input.
  Laid BY PROGRAM, IN A SANDBOX (cutbox-rows.mjs): the forced cells as the released guide's own fill.sh prints them over the translation 1555e2cd686e490e… (all of the seat's roots in one cut). By AI agents, Wed Nov 11 2026. No macro, syntax, notation, axiom, sorry.
-/
import Derived.Test.YtnaanfkiljhmeaaChecked
import GoSem.Claim
import GoSem.ClaimJoined
import GoSem.ClaimMapViews
import Derived.JoinedTies
import Derived.KernelRfl
namespace Go.Proofs.Ytnaanfkiljhmeaa
/- THE CELL 'sum', in the pinned program and in every row, IS THE sha256 OF THE DUMP (.gsa) THAT YtnaanfkiljhmeaaProg.lean LOADS. Nothing in Lean hashes anything: it is a label: what it is worth is what the hold of that sum in a sandbox is worth. -/
noncomputable def Try.pinned : Pinned := { name := "ytnaanfkiljhmeaa", sum := "1555e2cd686e490e06f37bb19d903292212e51b17f5b5346643579aa0b504d04", checked := Try.checked }
namespace Rows
def none {H : Type} : Left H := { results := [], args := [] }

/-- 'windlasslaw05.PlatTurns': WHATEVER THE INPUT: true; the input reads as it did. -/
def platTurnsSpec : ChangeSpec := { name := "platTurns", fn := fun _ => fun
  | [d1, d2, d3] => { results := [.lit (.bool true)], args := [d1, d2, d3] }
  | _ => none }
def platTurnsRow : OpenClaim := { program := "ytnaanfkiljhmeaa", sum := "1555e2cd686e490e06f37bb19d903292212e51b17f5b5346643579aa0b504d04", func := "windlass/windlasslaw05.PlatTurns", spec := "platTurns", apart := false }
def PlatTurnsSaid : Prop := platTurnsRow.holds Try.pinned (OpenSpec.ofChange platTurnsSpec)

/-- ITS FALSE NEIGHBOUR: 'it returns false'. Refute it at one input. -/
def platTurnsWrong : ChangeSpec := { name := "platTurns", fn := fun _ => fun
  | [d1, d2, d3] => { results := [.lit (.bool false)], args := [d1, d2, d3] }
  | _ => none }
def PlatTurnsWrongFalsely : Prop := platTurnsRow.holds Try.pinned (OpenSpec.ofChange platTurnsWrong)

/-- 'windlasslaw05.PlatOrder': WHATEVER THE INPUT: true; the input reads as it did. -/
def platOrderSpec : ChangeSpec := { name := "platOrder", fn := fun _ => fun
  | [d1, d2, d3] => { results := [.lit (.bool true)], args := [d1, d2, d3] }
  | _ => none }
def platOrderRow : OpenClaim := { program := "ytnaanfkiljhmeaa", sum := "1555e2cd686e490e06f37bb19d903292212e51b17f5b5346643579aa0b504d04", func := "windlass/windlasslaw05.PlatOrder", spec := "platOrder", apart := false }
def PlatOrderSaid : Prop := platOrderRow.holds Try.pinned (OpenSpec.ofChange platOrderSpec)

/-- ITS FALSE NEIGHBOUR: 'it returns false'. Refute it at one input. -/
def platOrderWrong : ChangeSpec := { name := "platOrder", fn := fun _ => fun
  | [d1, d2, d3] => { results := [.lit (.bool false)], args := [d1, d2, d3] }
  | _ => none }
def PlatOrderWrongFalsely : Prop := platOrderRow.holds Try.pinned (OpenSpec.ofChange platOrderWrong)

/-- 'windlasslaw05.PlatOnce': WHATEVER THE INPUT: true; the input reads as it did. -/
def platOnceSpec : ChangeSpec := { name := "platOnce", fn := fun _ => fun
  | [d1, d2, d3] => { results := [.lit (.bool true)], args := [d1, d2, d3] }
  | _ => none }
def platOnceRow : OpenClaim := { program := "ytnaanfkiljhmeaa", sum := "1555e2cd686e490e06f37bb19d903292212e51b17f5b5346643579aa0b504d04", func := "windlass/windlasslaw05.PlatOnce", spec := "platOnce", apart := false }
def PlatOnceSaid : Prop := platOnceRow.holds Try.pinned (OpenSpec.ofChange platOnceSpec)

/-- ITS FALSE NEIGHBOUR: 'it returns false'. Refute it at one input. -/
def platOnceWrong : ChangeSpec := { name := "platOnce", fn := fun _ => fun
  | [d1, d2, d3] => { results := [.lit (.bool false)], args := [d1, d2, d3] }
  | _ => none }
def PlatOnceWrongFalsely : Prop := platOnceRow.holds Try.pinned (OpenSpec.ofChange platOnceWrong)

/-- 'windlasslaw05.PlatNodes': WHATEVER THE INPUT: true; the input reads as it did. -/
def platNodesSpec : ChangeSpec := { name := "platNodes", fn := fun _ => fun
  | [d1, d2, d3, d4] => { results := [.lit (.bool true)], args := [d1, d2, d3, d4] }
  | _ => none }
def platNodesRow : OpenClaim := { program := "ytnaanfkiljhmeaa", sum := "1555e2cd686e490e06f37bb19d903292212e51b17f5b5346643579aa0b504d04", func := "windlass/windlasslaw05.PlatNodes", spec := "platNodes", apart := false }
def PlatNodesSaid : Prop := platNodesRow.holds Try.pinned (OpenSpec.ofChange platNodesSpec)

/-- ITS FALSE NEIGHBOUR: 'it returns false'. Refute it at one input. -/
def platNodesWrong : ChangeSpec := { name := "platNodes", fn := fun _ => fun
  | [d1, d2, d3, d4] => { results := [.lit (.bool false)], args := [d1, d2, d3, d4] }
  | _ => none }
def PlatNodesWrongFalsely : Prop := platNodesRow.holds Try.pinned (OpenSpec.ofChange platNodesWrong)

/-- 'windlasslaw05.PlatAll': WHATEVER THE INPUT: true; the input reads as it did. -/
def platAllSpec : ChangeSpec := { name := "platAll", fn := fun _ => fun
  | [d] => { results := [.lit (.bool true)], args := [d] }
  | _ => none }
def platAllRow : OpenClaim := { program := "ytnaanfkiljhmeaa", sum := "1555e2cd686e490e06f37bb19d903292212e51b17f5b5346643579aa0b504d04", func := "windlass/windlasslaw05.PlatAll", spec := "platAll", apart := false }
def PlatAllSaid : Prop := platAllRow.holds Try.pinned (OpenSpec.ofChange platAllSpec)

/-- ITS FALSE NEIGHBOUR: 'it returns false'. Refute it at one input. -/
def platAllWrong : ChangeSpec := { name := "platAll", fn := fun _ => fun
  | [d] => { results := [.lit (.bool false)], args := [d] }
  | _ => none }
def PlatAllWrongFalsely : Prop := platAllRow.holds Try.pinned (OpenSpec.ofChange platAllWrong)

/-- 'windlasslaw05.PlatTells': WHATEVER THE INPUT: true; the input reads as it did. -/
def platTellsSpec : ChangeSpec := { name := "platTells", fn := fun _ => fun
  | [d1, d2, d3, d4] => { results := [.lit (.bool true)], args := [d1, d2, d3, d4] }
  | _ => none }
def platTellsRow : OpenClaim := { program := "ytnaanfkiljhmeaa", sum := "1555e2cd686e490e06f37bb19d903292212e51b17f5b5346643579aa0b504d04", func := "windlass/windlasslaw05.PlatTells", spec := "platTells", apart := false }
def PlatTellsSaid : Prop := platTellsRow.holds Try.pinned (OpenSpec.ofChange platTellsSpec)

/-- ITS FALSE NEIGHBOUR: 'it returns false'. Refute it at one input. -/
def platTellsWrong : ChangeSpec := { name := "platTells", fn := fun _ => fun
  | [d1, d2, d3, d4] => { results := [.lit (.bool false)], args := [d1, d2, d3, d4] }
  | _ => none }
def PlatTellsWrongFalsely : Prop := platTellsRow.holds Try.pinned (OpenSpec.ofChange platTellsWrong)

/-- 'windlasslaw05.PlatPlaces': WHATEVER THE INPUT: true; the input reads as it did. -/
def platPlacesSpec : ChangeSpec := { name := "platPlaces", fn := fun _ => fun
  | [d1, d2, d3, d4] => { results := [.lit (.bool true)], args := [d1, d2, d3, d4] }
  | _ => none }
def platPlacesRow : OpenClaim := { program := "ytnaanfkiljhmeaa", sum := "1555e2cd686e490e06f37bb19d903292212e51b17f5b5346643579aa0b504d04", func := "windlass/windlasslaw05.PlatPlaces", spec := "platPlaces", apart := false }
def PlatPlacesSaid : Prop := platPlacesRow.holds Try.pinned (OpenSpec.ofChange platPlacesSpec)

/-- ITS FALSE NEIGHBOUR: 'it returns false'. Refute it at one input. -/
def platPlacesWrong : ChangeSpec := { name := "platPlaces", fn := fun _ => fun
  | [d1, d2, d3, d4] => { results := [.lit (.bool false)], args := [d1, d2, d3, d4] }
  | _ => none }
def PlatPlacesWrongFalsely : Prop := platPlacesRow.holds Try.pinned (OpenSpec.ofChange platPlacesWrong)

/-- 'windlasslaw05.PlatBeyond': WHATEVER THE INPUT: true; the input reads as it did. -/
def platBeyondSpec : ChangeSpec := { name := "platBeyond", fn := fun _ => fun
  | [d1, d2] => { results := [.lit (.bool true)], args := [d1, d2] }
  | _ => none }
def platBeyondRow : OpenClaim := { program := "ytnaanfkiljhmeaa", sum := "1555e2cd686e490e06f37bb19d903292212e51b17f5b5346643579aa0b504d04", func := "windlass/windlasslaw05.PlatBeyond", spec := "platBeyond", apart := false }
def PlatBeyondSaid : Prop := platBeyondRow.holds Try.pinned (OpenSpec.ofChange platBeyondSpec)

/-- ITS FALSE NEIGHBOUR: 'it returns false'. Refute it at one input. -/
def platBeyondWrong : ChangeSpec := { name := "platBeyond", fn := fun _ => fun
  | [d1, d2] => { results := [.lit (.bool false)], args := [d1, d2] }
  | _ => none }
def PlatBeyondWrongFalsely : Prop := platBeyondRow.holds Try.pinned (OpenSpec.ofChange platBeyondWrong)

/- THE SECOND FORM. 'bulk': how many values and letters a reading holds, each counted each time it is reached (what is shared counts as often as it is met; a slice's spare places count too). A statement '..UptoSaid' is the law's where the arguments, and the package variables that the reading takes, are together of bulk at most 1048576: NARROWER than '..Said'. Prove '..Said' where nothing that the law and all that it calls make is longer than what came in: it says more and counts as full. Else prove '..UptoSaid'. A law counts once. -/
mutual
def uptoBulk {H : Type} : DataW H → Nat
  | .lit (.string bytes) => bytes.length + 1
  | .lit _ => 1
  | .nil => 1
  | .ptr d => uptoBulk d + 1
  | .slice elems spare => uptoBulkAll elems + uptoBulkAll spare + 1
  | .agg parts => uptoBulkAll parts + 1
  | .iface _ d => uptoBulk d + 1
  | .map entries => uptoBulkEntries entries + 1
  | .held _ => 1
def uptoBulkAll {H : Type} : List (DataW H) → Nat
  | [] => 0
  | d :: r => uptoBulk d + uptoBulkAll r
def uptoBulkEntries {H : Type} : List (Lit × DataW H) → Nat
  | [] => 0
  | x :: r => uptoBulkEntry x + uptoBulkEntries r
def uptoBulkEntry {H : Type} : Lit × DataW H → Nat
  | (.string bytes, d) => bytes.length + uptoBulk d + 1
  | (_, d) => uptoBulk d + 1
 end
def uptoSmall : (H : Type) → List (DataW H) → Bool := fun _ ds => decide (uptoBulkAll ds ≤ 1048576)
def OpenSpec.upto (s : _root_.Go.ChangeSpec) : _root_.Go.OpenSpec := { _root_.Go.OpenSpec.ofChange s with cond := some uptoSmall }

/-- 'windlasslaw05.PlatTurns', WHERE WHAT IT READS IS OF BULK AT MOST 1048576: true; the input reads as it did. -/
def platTurnsUptoRow : OpenClaim := { program := "ytnaanfkiljhmeaa", sum := "1555e2cd686e490e06f37bb19d903292212e51b17f5b5346643579aa0b504d04", func := "windlass/windlasslaw05.PlatTurns", spec := "platTurns", apart := false, narrowed := true }
def PlatTurnsUptoSaid : Prop := platTurnsUptoRow.holds Try.pinned (OpenSpec.upto platTurnsSpec)

/-- 'windlasslaw05.PlatOrder', WHERE WHAT IT READS IS OF BULK AT MOST 1048576: true; the input reads as it did. -/
def platOrderUptoRow : OpenClaim := { program := "ytnaanfkiljhmeaa", sum := "1555e2cd686e490e06f37bb19d903292212e51b17f5b5346643579aa0b504d04", func := "windlass/windlasslaw05.PlatOrder", spec := "platOrder", apart := false, narrowed := true }
def PlatOrderUptoSaid : Prop := platOrderUptoRow.holds Try.pinned (OpenSpec.upto platOrderSpec)

/-- 'windlasslaw05.PlatOnce', WHERE WHAT IT READS IS OF BULK AT MOST 1048576: true; the input reads as it did. -/
def platOnceUptoRow : OpenClaim := { program := "ytnaanfkiljhmeaa", sum := "1555e2cd686e490e06f37bb19d903292212e51b17f5b5346643579aa0b504d04", func := "windlass/windlasslaw05.PlatOnce", spec := "platOnce", apart := false, narrowed := true }
def PlatOnceUptoSaid : Prop := platOnceUptoRow.holds Try.pinned (OpenSpec.upto platOnceSpec)

/-- 'windlasslaw05.PlatNodes', WHERE WHAT IT READS IS OF BULK AT MOST 1048576: true; the input reads as it did. -/
def platNodesUptoRow : OpenClaim := { program := "ytnaanfkiljhmeaa", sum := "1555e2cd686e490e06f37bb19d903292212e51b17f5b5346643579aa0b504d04", func := "windlass/windlasslaw05.PlatNodes", spec := "platNodes", apart := false, narrowed := true }
def PlatNodesUptoSaid : Prop := platNodesUptoRow.holds Try.pinned (OpenSpec.upto platNodesSpec)

/-- 'windlasslaw05.PlatAll', WHERE WHAT IT READS IS OF BULK AT MOST 1048576: true; the input reads as it did. -/
def platAllUptoRow : OpenClaim := { program := "ytnaanfkiljhmeaa", sum := "1555e2cd686e490e06f37bb19d903292212e51b17f5b5346643579aa0b504d04", func := "windlass/windlasslaw05.PlatAll", spec := "platAll", apart := false, narrowed := true }
def PlatAllUptoSaid : Prop := platAllUptoRow.holds Try.pinned (OpenSpec.upto platAllSpec)

/-- 'windlasslaw05.PlatTells', WHERE WHAT IT READS IS OF BULK AT MOST 1048576: true; the input reads as it did. -/
def platTellsUptoRow : OpenClaim := { program := "ytnaanfkiljhmeaa", sum := "1555e2cd686e490e06f37bb19d903292212e51b17f5b5346643579aa0b504d04", func := "windlass/windlasslaw05.PlatTells", spec := "platTells", apart := false, narrowed := true }
def PlatTellsUptoSaid : Prop := platTellsUptoRow.holds Try.pinned (OpenSpec.upto platTellsSpec)

/-- 'windlasslaw05.PlatPlaces', WHERE WHAT IT READS IS OF BULK AT MOST 1048576: true; the input reads as it did. -/
def platPlacesUptoRow : OpenClaim := { program := "ytnaanfkiljhmeaa", sum := "1555e2cd686e490e06f37bb19d903292212e51b17f5b5346643579aa0b504d04", func := "windlass/windlasslaw05.PlatPlaces", spec := "platPlaces", apart := false, narrowed := true }
def PlatPlacesUptoSaid : Prop := platPlacesUptoRow.holds Try.pinned (OpenSpec.upto platPlacesSpec)

/-- 'windlasslaw05.PlatBeyond', WHERE WHAT IT READS IS OF BULK AT MOST 1048576: true; the input reads as it did. -/
def platBeyondUptoRow : OpenClaim := { program := "ytnaanfkiljhmeaa", sum := "1555e2cd686e490e06f37bb19d903292212e51b17f5b5346643579aa0b504d04", func := "windlass/windlasslaw05.PlatBeyond", spec := "platBeyond", apart := false, narrowed := true }
def PlatBeyondUptoSaid : Prop := platBeyondUptoRow.holds Try.pinned (OpenSpec.upto platBeyondSpec)

end Rows
end Go.Proofs.Ytnaanfkiljhmeaa
