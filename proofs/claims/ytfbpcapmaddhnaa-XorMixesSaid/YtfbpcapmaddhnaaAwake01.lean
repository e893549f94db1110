/-
  The contract of layer 1's awake: chapter 1's examples come out as they stand there. No condition.
-/
import Derived.Test.YtfbpcapmaddhnaaXorWalks
import Derived.Test.YtfbpcapmaddhnaaInfo
namespace Go.Proofs.Ytfbpcapmaddhnaa
open Go.RowKit

theorem awake_a : twoR ⟨#[97, 98]⟩ ⟨#[98, 32]⟩ = (⟨#[3, 66]⟩, 0) := by rfl
theorem awake_b : missR ⟨#[97]⟩ [⟨#[98]⟩, ⟨#[99]⟩] = (⟨#[96]⟩, 0) := by rfl
theorem awake_c : missR ⟨#[96]⟩ [⟨#[97]⟩, ⟨#[99]⟩] = (⟨#[98]⟩, 0) := by rfl
theorem awake_h : twoR ⟨#[97]⟩ ⟨#[]⟩ = (⟨#[]⟩, 10) := by rfl

theorem awake01_calls (w : World) : Calls Try.prog 12 #[] w fun e w' => e = .returned (.bool true) ∧ Below w.heap.size w w' := by
  have ha := fun w => two_any ⟨#[97, 98]⟩ ⟨#[98, 32]⟩ w (by decide)
  have hh := fun w => two_any ⟨#[97]⟩ ⟨#[]⟩ w (by decide)
  have hb := fun w => all_some ⟨#[97]⟩ [⟨#[98]⟩, ⟨#[99]⟩] _ 3 3 _ (rd_texts w [⟨#[97]⟩, ⟨#[98]⟩, ⟨#[99]⟩] 9) (by decide) (by decide) (by decide) rfl
  have hc := fun w => missing_any ⟨#[96]⟩ [⟨#[97]⟩, ⟨#[99]⟩] _ 2 2 _ (rd_texts w [⟨#[97]⟩, ⟨#[99]⟩] 9) (by decide) (by decide) rfl
  rw [awake_a] at ha
  rw [awake_h] at hh
  rw [awake_b] at hb
  rw [awake_c] at hc
  have Ha := Lib.hid ha
  have Hh := Lib.hid hh
  have Hb := Lib.hid hb
  have Hc := Lib.hid hc
  clear ha hh hb hc
  go_enter Try.func12, Try.ntmps12
  go_wp2_with (first
    | (go_at_call_of 16 (Value.string ⟨#[97, 98]⟩); refine (Ha.out _).mono ?_; rintro e w1 ⟨rfl, hb1⟩)
    | (go_at_call_of 16 (Value.string ⟨#[97]⟩); (refine (Hh.out _).mono ?_); rintro e w4 ⟨rfl, hb4⟩)
    | (go_at_call 15; (refine (Hb.out _).mono ?_); rintro e w2 ⟨rfl, hb2⟩)
    | (go_at_call 17; (refine (Hc.out _).mono ?_); rintro e w3 ⟨rfl, hb3⟩))
  go_ret
  exact ⟨rfl, bel_call (bel_call (bel_alloc (bel_call (bel_alloc hb1 _) hb2) _) hb3) hb4⟩
end Go.Proofs.Ytfbpcapmaddhnaa
