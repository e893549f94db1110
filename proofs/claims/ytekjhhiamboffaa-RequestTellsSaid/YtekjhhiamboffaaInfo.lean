/-
  Closed facts on the table of types: sizes and zero values. No condition.
-/
import Derived.Test.YtekjhhiamboffaaXorMath
import Derived.Test.YtekjhhiamboffaaTlvNum
import Derived.Test.YtekjhhiamboffaaProg
import Derived.KernelRfl
namespace Go.Proofs.Ytekjhhiamboffaa
theorem u8_one : (Try.prog.info? 5).map (·.size) = some 1 := by kernel_rfl
theorem string_info : (Try.prog.info? 9).map (fun i => (i.zero, i.size, i.bytes)) = some (some (.string ⟨#[]⟩), 1, 16) := by kernel_rfl
/-- n noughts as cells -/
def zeroRow (n : Nat) : Array Value := (cells8 (List.replicate n 0)).toArray
/-- 'make([]byte, n)', as an equation -/
theorem run_make8 (n : Nat) (hn : n ≤ 140737488351232) (W : World) : (Instr.makeSlice 51 (.int .i64 (n : Int)) (.int .i64 (n : Int))).run Try.prog W = .ok (.slice (some ⟨W.heap.size, 0, none⟩) n n) (W.alloc (.cells (zeroRow n) 5)) := by
  obtain ⟨i8, hi, hz, hs, hb⟩ := info_parts u8_info
  have hr := run_make (P := Try.prog) W 51 5 i8 (.int .u8 0) Try.underlying51 hi hz .i64 .i64 n n (by omega) (by omega) (by rw [hb]; omega) (by omega)
  rw [hr]
  have e : madeCells (Value.int .u8 0).cells (n * i8.size) = zeroRow n := by
    apply Array.ext'
    rw [hs, made8]
    rfl
  simp only [Int.toNat_natCast, e]
/-- 'string(make([]byte, n))' -/
theorem run_zero_string (n : Nat) (W : World) : (convert 51 9 (.slice (some ⟨W.heap.size, 0, none⟩) n n)).run Try.prog (W.alloc (.cells (zeroRow n) 5)) = .ok (.string (zeroB n)) (W.alloc (.cells (zeroRow n) 5)) := by
  refine run_row8_string (P := Try.prog) Try.underlying51 Try.underlying5 Try.underlying9 (l := List.replicate n 0) ?_ n n (by simp)
  intro j b hb
  constructor
  · rw [World.cell?_alloc_mark, zeroRow]
    simp only [List.getElem?_toArray, cells8, List.getElem?_map, hb, Option.map_some]
  · rw [World.frozen?_alloc_mark]
    simp
end Go.Proofs.Ytekjhhiamboffaa
