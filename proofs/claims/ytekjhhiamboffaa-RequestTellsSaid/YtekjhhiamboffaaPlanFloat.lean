/-
  Small whole numbers as floats: what plan.Split reckons with. No condition.
-/
import Derived.KernelRfl
import Derived.Laws.ComplexArith
namespace Go.Proofs.Ytekjhhiamboffaa

/-- a whole number's bits -/
abbrev fb (n : Nat) : Nat := floatOfInt .f64 (n : Int)
theorem fb_zero : fb 0 = 0 := by kernel_rfl
theorem fb_back_all : ((List.range 12).all fun n => floatToIntVal .f64 (floatOfInt .f64 (n : Int)) .i64 == some (n : Int)) = true := by kernel_rfl
theorem fb_plus0_all : ((List.range 12).all fun n => floatBits .add .f64 (floatOfInt .f64 (n : Int)) 0 == some (floatOfInt .f64 (n : Int))) = true := by kernel_rfl
theorem fb_plus1_all : ((List.range 12).all fun n => floatBits .add .f64 (floatOfInt .f64 (n : Int)) 4607182418800017408 == some (floatOfInt .f64 ((n + 1 : Nat) : Int))) = true := by kernel_rfl
theorem fb_back {n : Nat} (h : n < 12) : floatToIntVal .f64 (fb n) .i64 = some (n : Int) := eq_of_beq (List.all_eq_true.1 fb_back_all n (List.mem_range.2 h))
theorem fb_plus0 {n : Nat} (h : n < 12) : floatBits .add .f64 (fb n) 0 = some (fb n) := eq_of_beq (List.all_eq_true.1 fb_plus0_all n (List.mem_range.2 h))
theorem fb_plus1 {n : Nat} (h : n < 12) : floatBits .add .f64 (fb n) 4607182418800017408 = some (fb (n + 1)) := eq_of_beq (List.all_eq_true.1 fb_plus1_all n (List.mem_range.2 h))
end Go.Proofs.Ytekjhhiamboffaa
