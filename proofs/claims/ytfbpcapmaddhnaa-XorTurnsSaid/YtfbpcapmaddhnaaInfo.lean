/-
  Closed facts on the table of types: sizes and zero values. No condition.
-/
import Derived.Test.YtfbpcapmaddhnaaWords
import Derived.Test.YtfbpcapmaddhnaaProg
import Derived.KernelRfl
namespace Go.Proofs.Ytfbpcapmaddhnaa
theorem u8_info : (Try.prog.info? 5).map (fun i => (i.zero, i.size, i.bytes)) = some (some (.int .u8 0), 1, 1) := by kernel_rfl
theorem u8_one : (Try.prog.info? 5).map (·.size) = some 1 := by kernel_rfl
theorem string_info : (Try.prog.info? 9).map (fun i => (i.zero, i.size, i.bytes)) = some (some (.string ⟨#[]⟩), 1, 16) := by kernel_rfl
end Go.Proofs.Ytfbpcapmaddhnaa
