/-
  The contracts of the laws' own helper: pick (a raw number, brought below n) . Condition: n is at least 1; counts and lengths are small.
-/
import Derived.Test.YtekjhhiamboffaaWords
import Derived.Test.YtekjhhiamboffaaProg
namespace Go.Proofs.Ytekjhhiamboffaa
open Go.RowKit

def pick20Z (c n : Int) : Int := (if c < 0 then -(c + 1) else c).tmod n
theorem pick20Z_range (c n : Int) (hn : 1 ≤ n) : 0 ≤ pick20Z c n ∧ pick20Z c n < n := by
  unfold pick20Z
  have h : 0 ≤ (if c < 0 then -(c + 1) else c) := by split <;> omega
  generalize (if c < 0 then -(c + 1) else c) = x at *
  rw [Int.tmod_eq_emod_of_nonneg h]
  exact ⟨Int.emod_nonneg _ (by omega), Int.emod_lt_of_pos _ (by omega)⟩

theorem pick20_calls (c n : Int) (w : World) (hc1 : -9223372036854775808 ≤ c) (hc2 : c ≤ 9223372036854775807) (hn1 : 1 ≤ n) (hn2 : n ≤ 9223372036854775807) :
    Calls Try.prog 21 #[.int .i64 c, .int .i64 n] w fun e w' => e = .returned (.int .i64 (pick20Z c n)) ∧ w = w' := by
  by_cases h0 : c < 0
  · go_enter Try.func21, Try.ntmps21
    go_wp2
    go_ret
    refine ⟨?_, rfl⟩
    unfold pick20Z
    rw [if_pos h0, Int.neg_tmod]
    rfl
  · go_enter Try.func21, Try.ntmps21
    go_wp2
    go_ret
    refine ⟨?_, rfl⟩
    unfold pick20Z
    rw [if_neg (by omega), Int.tmod_eq_emod_of_nonneg (by omega)]
    rfl
/-- as a natural number -/
theorem pick20_nat (c : Int) (n : Nat) (w : World) (hc1 : -9223372036854775808 ≤ c) (hc2 : c ≤ 9223372036854775807) (hn1 : 1 ≤ n) (hn2 : n ≤ 9223372036854775807) :
    Calls Try.prog 21 #[.int .i64 c, .int .i64 n] w fun e w' => ∃ k : Nat, k < n ∧ e = .returned (.int .i64 k) ∧ w = w' := by
  have h := pick20Z_range c n (by omega)
  refine (pick20_calls c n w hc1 hc2 (by omega) (by omega)).mono fun e w' ⟨he, hw⟩ => ⟨(pick20Z c n).toNat, by omega, ?_, hw⟩
  rw [he, Int.toNat_of_nonneg h.1]
theorem pick20_int (c n : Int) (w : World) (hc1 : -9223372036854775808 ≤ c) (hc2 : c ≤ 9223372036854775807) (hn1 : 1 ≤ n) (hn2 : n ≤ 9223372036854775807) :
    Calls Try.prog 21 #[.int .i64 c, .int .i64 n] w fun e w' => ∃ k : Int, 0 ≤ k ∧ k < n ∧ e = .returned (.int .i64 k) ∧ w = w' := by
  have h := pick20Z_range c n (by omega)
  exact (pick20_calls c n w hc1 hc2 hn1 hn2).mono fun e w' ⟨he, hw⟩ => ⟨pick20Z c n, h.1, h.2, he, hw⟩
theorem pick20_arg (c : Int) (ni : Int) (n : Nat) (w : World) (hni : ni = n) (hc1 : -9223372036854775808 ≤ c) (hc2 : c ≤ 9223372036854775807) (hn1 : 1 ≤ n) (hn2 : n ≤ 9223372036854775807) :
    Calls Try.prog 21 #[.int .i64 c, .int .i64 ni] w fun e w' => ∃ k : Nat, k < n ∧ e = .returned (.int .i64 k) ∧ w = w' := by
  subst hni
  exact pick20_nat c n w hc1 hc2 hn1 hn2
end Go.Proofs.Ytekjhhiamboffaa
