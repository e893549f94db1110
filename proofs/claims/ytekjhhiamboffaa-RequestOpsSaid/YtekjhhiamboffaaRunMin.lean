/-
  'min(4, n)' of a number that is not negative, as an equation. No condition.
-/
import Derived.Test.YtekjhhiamboffaaWords
namespace Go.Proofs.Ytekjhhiamboffaa
open Go.RowKit

theorem run_min4 {P : Program} (T : Nat) (ats : Array TypeId) (t : TypeId) (W : World) : (Builtin.min_ ats t #[.int .i64 4, .int .i64 (T : Int)]).run P W = .ok (.int .i64 ((min 4 T : Nat) : Int)) W := by
  have e : ((min 4 T : Nat) : Int) = if (T : Int) < 4 then (T : Int) else 4 := by split <;> omega
  rw [e]
  simp [Builtin.min_, Builtin.min2]
end Go.Proofs.Ytekjhhiamboffaa
