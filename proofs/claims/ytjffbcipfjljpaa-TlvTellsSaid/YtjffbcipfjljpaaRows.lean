/-
  No cell of these rows narrows 'for every input' (looked for: loops, veiled, ifaces, maps, wideKeys, modest, calm, conditions, laid).
  DERIVED. THE GIVEN ROWS OF THIS SEAT. 7 by the template 'for every input the law returns true; each argument reads behind the call as it read before'; 0 by the template 'total and deterministic' (their statements: YtjffbcipfjljpaaTotals.lean).
  GIVEN WITH THE SEED: the statements are not yours to turn. If you find one false, say at which input.
  Laid BY PROGRAM, IN A SANDBOX (cutbox-rows.mjs): the forced cells as the released guide's own fill.sh prints them over the translation f2dae337ae95cfd9… (all of the seat's roots in one cut). By AI agents, Wed Nov 11 2026. No macro, syntax, notation, axiom, sorry.
-/
import Derived.Test.YtjffbcipfjljpaaChecked
import GoSem.Claim
import GoSem.ClaimJoined
import GoSem.ClaimMapViews
import Derived.JoinedTies
import Derived.KernelRfl
namespace Go.Proofs.Ytjffbcipfjljpaa
/- THE CELL 'sum', in the pinned program and in every row, IS THE sha256 OF THE DUMP (.gsa) THAT YtjffbcipfjljpaaProg.lean LOADS. Nothing in Lean hashes anything: it is a label: what it is worth is what the hold of that sum in a sandbox is worth. -/
noncomputable def Try.pinned : Pinned := { name := "ytjffbcipfjljpaa", sum := "f2dae337ae95cfd9e49d7f0fffe5fabbb99e4f66bdb0d291b0675fe29086501b", checked := Try.checked }
namespace Rows
def none {H : Type} : Left H := { results := [], args := [] }

/-- 'windlasslaw03.TlvTells': WHATEVER THE INPUT: true; the input reads as it did. -/
def tlvTellsSpec : ChangeSpec := { name := "tlvTells", fn := fun _ => fun
  | [d1, d2, d3] => { results := [.lit (.bool true)], args := [d1, d2, d3] }
  | _ => none }
def tlvTellsRow : OpenClaim := { program := "ytjffbcipfjljpaa", sum := "f2dae337ae95cfd9e49d7f0fffe5fabbb99e4f66bdb0d291b0675fe29086501b", func := "windlass/windlasslaw03.TlvTells", spec := "tlvTells", apart := false }
def TlvTellsSaid : Prop := tlvTellsRow.holds Try.pinned (OpenSpec.ofChange tlvTellsSpec)

/-- ITS FALSE NEIGHBOUR: 'it returns false'. Refute it at one input. -/
def tlvTellsWrong : ChangeSpec := { name := "tlvTells", fn := fun _ => fun
  | [d1, d2, d3] => { results := [.lit (.bool false)], args := [d1, d2, d3] }
  | _ => none }
def TlvTellsWrongFalsely : Prop := tlvTellsRow.holds Try.pinned (OpenSpec.ofChange tlvTellsWrong)

/-- 'windlasslaw03.TlvBack': WHATEVER THE INPUT: true; the input reads as it did. -/
def tlvBackSpec : ChangeSpec := { name := "tlvBack", fn := fun _ => fun
  | [d1, d2] => { results := [.lit (.bool true)], args := [d1, d2] }
  | _ => none }
def tlvBackRow : OpenClaim := { program := "ytjffbcipfjljpaa", sum := "f2dae337ae95cfd9e49d7f0fffe5fabbb99e4f66bdb0d291b0675fe29086501b", func := "windlass/windlasslaw03.TlvBack", spec := "tlvBack", apart := false }
def TlvBackSaid : Prop := tlvBackRow.holds Try.pinned (OpenSpec.ofChange tlvBackSpec)

/-- ITS FALSE NEIGHBOUR: 'it returns false'. Refute it at one input. -/
def tlvBackWrong : ChangeSpec := { name := "tlvBack", fn := fun _ => fun
  | [d1, d2] => { results := [.lit (.bool false)], args := [d1, d2] }
  | _ => none }
def TlvBackWrongFalsely : Prop := tlvBackRow.holds Try.pinned (OpenSpec.ofChange tlvBackWrong)

/-- 'windlasslaw03.TlvForth': WHATEVER THE INPUT: true; the input reads as it did. -/
def tlvForthSpec : ChangeSpec := { name := "tlvForth", fn := fun _ => fun
  | [d1, d2, d3, d4] => { results := [.lit (.bool true)], args := [d1, d2, d3, d4] }
  | _ => none }
def tlvForthRow : OpenClaim := { program := "ytjffbcipfjljpaa", sum := "f2dae337ae95cfd9e49d7f0fffe5fabbb99e4f66bdb0d291b0675fe29086501b", func := "windlass/windlasslaw03.TlvForth", spec := "tlvForth", apart := false }
def TlvForthSaid : Prop := tlvForthRow.holds Try.pinned (OpenSpec.ofChange tlvForthSpec)

/-- ITS FALSE NEIGHBOUR: 'it returns false'. Refute it at one input. -/
def tlvForthWrong : ChangeSpec := { name := "tlvForth", fn := fun _ => fun
  | [d1, d2, d3, d4] => { results := [.lit (.bool false)], args := [d1, d2, d3, d4] }
  | _ => none }
def TlvForthWrongFalsely : Prop := tlvForthRow.holds Try.pinned (OpenSpec.ofChange tlvForthWrong)

/-- 'windlasslaw03.TlvParts': WHATEVER THE INPUT: true; the input reads as it did. -/
def tlvPartsSpec : ChangeSpec := { name := "tlvParts", fn := fun _ => fun
  | [d1, d2] => { results := [.lit (.bool true)], args := [d1, d2] }
  | _ => none }
def tlvPartsRow : OpenClaim := { program := "ytjffbcipfjljpaa", sum := "f2dae337ae95cfd9e49d7f0fffe5fabbb99e4f66bdb0d291b0675fe29086501b", func := "windlass/windlasslaw03.TlvParts", spec := "tlvParts", apart := false }
def TlvPartsSaid : Prop := tlvPartsRow.holds Try.pinned (OpenSpec.ofChange tlvPartsSpec)

/-- ITS FALSE NEIGHBOUR: 'it returns false'. Refute it at one input. -/
def tlvPartsWrong : ChangeSpec := { name := "tlvParts", fn := fun _ => fun
  | [d1, d2] => { results := [.lit (.bool false)], args := [d1, d2] }
  | _ => none }
def TlvPartsWrongFalsely : Prop := tlvPartsRow.holds Try.pinned (OpenSpec.ofChange tlvPartsWrong)

/-- 'windlasslaw03.TlvNums': WHATEVER THE INPUT: true; the input reads as it did. -/
def tlvNumsSpec : ChangeSpec := { name := "tlvNums", fn := fun _ => fun
  | [d1, d2, d3] => { results := [.lit (.bool true)], args := [d1, d2, d3] }
  | _ => none }
def tlvNumsRow : OpenClaim := { program := "ytjffbcipfjljpaa", sum := "f2dae337ae95cfd9e49d7f0fffe5fabbb99e4f66bdb0d291b0675fe29086501b", func := "windlass/windlasslaw03.TlvNums", spec := "tlvNums", apart := false }
def TlvNumsSaid : Prop := tlvNumsRow.holds Try.pinned (OpenSpec.ofChange tlvNumsSpec)

/-- ITS FALSE NEIGHBOUR: 'it returns false'. Refute it at one input. -/
def tlvNumsWrong : ChangeSpec := { name := "tlvNums", fn := fun _ => fun
  | [d1, d2, d3] => { results := [.lit (.bool false)], args := [d1, d2, d3] }
  | _ => none }
def TlvNumsWrongFalsely : Prop := tlvNumsRow.holds Try.pinned (OpenSpec.ofChange tlvNumsWrong)

/-- 'windlasslaw03.TlvCut': WHATEVER THE INPUT: true; the input reads as it did. -/
def tlvCutSpec : ChangeSpec := { name := "tlvCut", fn := fun _ => fun
  | [d1, d2] => { results := [.lit (.bool true)], args := [d1, d2] }
  | _ => none }
def tlvCutRow : OpenClaim := { program := "ytjffbcipfjljpaa", sum := "f2dae337ae95cfd9e49d7f0fffe5fabbb99e4f66bdb0d291b0675fe29086501b", func := "windlass/windlasslaw03.TlvCut", spec := "tlvCut", apart := false }
def TlvCutSaid : Prop := tlvCutRow.holds Try.pinned (OpenSpec.ofChange tlvCutSpec)

/-- ITS FALSE NEIGHBOUR: 'it returns false'. Refute it at one input. -/
def tlvCutWrong : ChangeSpec := { name := "tlvCut", fn := fun _ => fun
  | [d1, d2] => { results := [.lit (.bool false)], args := [d1, d2] }
  | _ => none }
def TlvCutWrongFalsely : Prop := tlvCutRow.holds Try.pinned (OpenSpec.ofChange tlvCutWrong)

/-- 'windlasslaw03.TlvLong': WHATEVER THE INPUT: true; the input reads as it did. -/
def tlvLongSpec : ChangeSpec := { name := "tlvLong", fn := fun _ => fun
  | [d1, d2, d3] => { results := [.lit (.bool true)], args := [d1, d2, d3] }
  | _ => none }
def tlvLongRow : OpenClaim := { program := "ytjffbcipfjljpaa", sum := "f2dae337ae95cfd9e49d7f0fffe5fabbb99e4f66bdb0d291b0675fe29086501b", func := "windlass/windlasslaw03.TlvLong", spec := "tlvLong", apart := false }
def TlvLongSaid : Prop := tlvLongRow.holds Try.pinned (OpenSpec.ofChange tlvLongSpec)

/-- ITS FALSE NEIGHBOUR: 'it returns false'. Refute it at one input. -/
def tlvLongWrong : ChangeSpec := { name := "tlvLong", fn := fun _ => fun
  | [d1, d2, d3] => { results := [.lit (.bool false)], args := [d1, d2, d3] }
  | _ => none }
def TlvLongWrongFalsely : Prop := tlvLongRow.holds Try.pinned (OpenSpec.ofChange tlvLongWrong)

/- THE SECOND FORM. 'bulk': how many values and letters a reading holds, each counted each time it is reached (what is shared counts as often as it is met; a slice's spare places count too). A statement '..UptoSaid' is the law's where the arguments, and the package variables that the reading takes, are together of bulk at most 1048576: NARROWER than '..Said'. Prove '..Said' where nothing that the law and all that it calls make is longer than what came in: it says more and counts as full. Else prove '..UptoSaid'. A law counts once. -/
mutual
def uptoBulk {H : Type} : DataW H → Nat
  | .lit (.string bytes) => bytes.length + 1
  | .lit _ => 1
  | .nil => 1
  | .ptr d => uptoBulk d + 1
  | .slice elems spare => uptoBulkAll elems + uptoBulkAll spare + 1
  | .agg parts => uptoBulkAll parts + 1
  | .iface _ d => uptoBulk d + 1
  | .map entries => uptoBulkEntries entries + 1
  | .held _ => 1
def uptoBulkAll {H : Type} : List (DataW H) → Nat
  | [] => 0
  | d :: r => uptoBulk d + uptoBulkAll r
def uptoBulkEntries {H : Type} : List (Lit × DataW H) → Nat
  | [] => 0
  | x :: r => uptoBulkEntry x + uptoBulkEntries r
def uptoBulkEntry {H : Type} : Lit × DataW H → Nat
  | (.string bytes, d) => bytes.length + uptoBulk d + 1
  | (_, d) => uptoBulk d + 1
 end
def uptoSmall : (H : Type) → List (DataW H) → Bool := fun _ ds => decide (uptoBulkAll ds ≤ 1048576)
def OpenSpec.upto (s : _root_.Go.ChangeSpec) : _root_.Go.OpenSpec := { _root_.Go.OpenSpec.ofChange s with cond := some uptoSmall }

/-- 'windlasslaw03.TlvTells', WHERE WHAT IT READS IS OF BULK AT MOST 1048576: true; the input reads as it did. -/
def tlvTellsUptoRow : OpenClaim := { program := "ytjffbcipfjljpaa", sum := "f2dae337ae95cfd9e49d7f0fffe5fabbb99e4f66bdb0d291b0675fe29086501b", func := "windlass/windlasslaw03.TlvTells", spec := "tlvTells", apart := false, narrowed := true }
def TlvTellsUptoSaid : Prop := tlvTellsUptoRow.holds Try.pinned (OpenSpec.upto tlvTellsSpec)

/-- 'windlasslaw03.TlvBack', WHERE WHAT IT READS IS OF BULK AT MOST 1048576: true; the input reads as it did. -/
def tlvBackUptoRow : OpenClaim := { program := "ytjffbcipfjljpaa", sum := "f2dae337ae95cfd9e49d7f0fffe5fabbb99e4f66bdb0d291b0675fe29086501b", func := "windlass/windlasslaw03.TlvBack", spec := "tlvBack", apart := false, narrowed := true }
def TlvBackUptoSaid : Prop := tlvBackUptoRow.holds Try.pinned (OpenSpec.upto tlvBackSpec)

/-- 'windlasslaw03.TlvForth', WHERE WHAT IT READS IS OF BULK AT MOST 1048576: true; the input reads as it did. -/
def tlvForthUptoRow : OpenClaim := { program := "ytjffbcipfjljpaa", sum := "f2dae337ae95cfd9e49d7f0fffe5fabbb99e4f66bdb0d291b0675fe29086501b", func := "windlass/windlasslaw03.TlvForth", spec := "tlvForth", apart := false, narrowed := true }
def TlvForthUptoSaid : Prop := tlvForthUptoRow.holds Try.pinned (OpenSpec.upto tlvForthSpec)

/-- 'windlasslaw03.TlvParts', WHERE WHAT IT READS IS OF BULK AT MOST 1048576: true; the input reads as it did. -/
def tlvPartsUptoRow : OpenClaim := { program := "ytjffbcipfjljpaa", sum := "f2dae337ae95cfd9e49d7f0fffe5fabbb99e4f66bdb0d291b0675fe29086501b", func := "windlass/windlasslaw03.TlvParts", spec := "tlvParts", apart := false, narrowed := true }
def TlvPartsUptoSaid : Prop := tlvPartsUptoRow.holds Try.pinned (OpenSpec.upto tlvPartsSpec)

/-- 'windlasslaw03.TlvNums', WHERE WHAT IT READS IS OF BULK AT MOST 1048576: true; the input reads as it did. -/
def tlvNumsUptoRow : OpenClaim := { program := "ytjffbcipfjljpaa", sum := "f2dae337ae95cfd9e49d7f0fffe5fabbb99e4f66bdb0d291b0675fe29086501b", func := "windlass/windlasslaw03.TlvNums", spec := "tlvNums", apart := false, narrowed := true }
def TlvNumsUptoSaid : Prop := tlvNumsUptoRow.holds Try.pinned (OpenSpec.upto tlvNumsSpec)

/-- 'windlasslaw03.TlvCut', WHERE WHAT IT READS IS OF BULK AT MOST 1048576: true; the input reads as it did. -/
def tlvCutUptoRow : OpenClaim := { program := "ytjffbcipfjljpaa", sum := "f2dae337ae95cfd9e49d7f0fffe5fabbb99e4f66bdb0d291b0675fe29086501b", func := "windlass/windlasslaw03.TlvCut", spec := "tlvCut", apart := false, narrowed := true }
def TlvCutUptoSaid : Prop := tlvCutUptoRow.holds Try.pinned (OpenSpec.upto tlvCutSpec)

/-- 'windlasslaw03.TlvLong', WHERE WHAT IT READS IS OF BULK AT MOST 1048576: true; the input reads as it did. -/
def tlvLongUptoRow : OpenClaim := { program := "ytjffbcipfjljpaa", sum := "f2dae337ae95cfd9e49d7f0fffe5fabbb99e4f66bdb0d291b0675fe29086501b", func := "windlass/windlasslaw03.TlvLong", spec := "tlvLong", apart := false, narrowed := true }
def TlvLongUptoSaid : Prop := tlvLongUptoRow.holds Try.pinned (OpenSpec.upto tlvLongSpec)

end Rows
end Go.Proofs.Ytjffbcipfjljpaa
