/-
  The contract of the laws' helper Fit: whatever fields, what comes out are at most 20 right ones. Condition: numbers and lengths are Go's.
-/
import Derived.Test.YtekjhhiamboffaaTlvTake
import Derived.Deep.RegionHeld3
namespace Go.Proofs.Ytekjhhiamboffaa
open Go.RowKit

/-- fields that a slice of Go's may hold -/
def goF (l : List Fld) : Prop := ∀ f ∈ l, -9223372036854775808 ≤ f.1 ∧ f.1 ≤ 9223372036854775807 ∧ f.2.size ≤ 9223372036854775807

theorem fit_ok {L : List Fld} {x : Int} {s : ByteArray} (h : allOk L) (h1 : 0 ≤ x) (h2 : x < 255) (h3 : s.size ≤ 400) : allOk (L ++ [(1 + x, s)]) := by
  intro f hf
  rcases List.mem_append.1 hf with h' | h'
  · exact h f h'
  · rw [List.mem_singleton.1 h']; exact okF_iff.2 ⟨show 1 ≤ 1 + x by omega, show 1 + x ≤ 255 by omega, h3⟩

end Go.Proofs.Ytekjhhiamboffaa
