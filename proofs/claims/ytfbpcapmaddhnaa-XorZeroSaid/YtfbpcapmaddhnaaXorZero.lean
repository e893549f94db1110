/-
  XorZero: a text put together with noughts is itself, with itself noughts, and three may be put together in either order: for any three texts. No condition.
-/
import Derived.Test.YtfbpcapmaddhnaaAwake01
import Derived.Deep.DeepCutAuto
namespace Go.Proofs.Ytfbpcapmaddhnaa
open Go.RowKit

set_option maxRecDepth 100000 in
set_option maxHeartbeats 1000000 in
theorem xorZero_walk (a b c : ByteArray) (w : World) (ha : a.size ≤ 140737488351232) (_hb : b.size ≤ 140737488351232) (_hc : c.size ≤ 140737488351232) :
    Calls Try.prog 6 #[.string a, .string b, .string c] w fun e w' => e = .returned (.bool true) ∧ Below w.heap.size w w' := by
  go_enter Try.func6, Try.ntmps6
  go_upto_region 2 with (go_at_call 12; refine (awake01_calls _).mono ?_; rintro e w0 ⟨rfl, hb0⟩)
  go_cut [8] (fun s8 wx => ∃ n : Nat, s8 = .int .i64 n ∧ n ≤ a.size ∧ n ≤ b.size ∧ n ≤ c.size ∧ Below w.heap.size w wx)
  case first =>
    go_wp2
    all_goals go_meet
    all_goals exact ⟨_, rfl, by omega, by omega, by omega, hb0⟩
  case rest =>
    obtain ⟨n, rfl, h1, h2, h3, hb0⟩ := hcut
    have HX := Lib.hid (extract_size a n h1)
    have HY := Lib.hid (extract_size b n h2)
    have HZ := Lib.hid (extract_size c n h3)
    obtain ⟨i8, hi8, hz8, hs8, hb8⟩ := info_parts u8_info
    have HB8 := Lib.hid hb8
    clear hb8
    have E1 : (xorB (a.extract 0 n) (zeroB n)).toList = (a.extract 0 n).toList := by rw [xorB_zero _ _ (Nat.le_of_eq HX.out)]
    have E2 : (xorB (a.extract 0 n) (a.extract 0 n)).toList = (zeroB n).toList := by rw [xorB_self, HX.out]
    have E3 : (xorB (xorB (a.extract 0 n) (b.extract 0 n)) (c.extract 0 n)).toList = (xorB (a.extract 0 n) (xorB (b.extract 0 n) (c.extract 0 n))).toList := by rw [xorB_assoc]
    go_wp2_with (first
      | (at_make; (refine wpList_make_full _ rfl _ _ 32 rfl wc.heap.size 5 i8 (.int .u8 0) 1 Try.underlying32 hi8 hz8 hs8 _ _ _ _ n rfl rfl rfl rfl (by rw [HB8.out]; omega) (by unfold maxLen; omega) (Nat.le_refl _) ?_); intro w1 hown1 hgrow1; rw [made8] at hown1; replace hb0 := bel_call hb0 (grown_none_below hgrow1); have hcv : (convert 32 9 (.slice (some ⟨wc.heap.size, 0, none⟩) n n)).run Try.prog w1 = .ok (.string (zeroB n)) w1 := run_row8_string (P := Try.prog) Try.underlying32 Try.underlying5 Try.underlying9 (Row8.of_own hown1) n n (by simp); clear hown1 hgrow1)
      | (go_at_call 16; (refine (two_n n _ _ _ (by repeat (first | exact HX.out | exact HY.out | exact HZ.out | exact zeroB_size _ | refine sz_xor ?_ ?_)) (by repeat (first | exact HX.out | exact HY.out | exact HZ.out | exact zeroB_size _ | refine sz_xor ?_ ?_)) (by unfold maxLen; omega)).mono ?_); rintro e w2 ⟨rfl, hk⟩; replace hb0 := bel_call hb0 hk; clear hk))
    go_ret
    exact ⟨rfl, hb0⟩
end Go.Proofs.Ytfbpcapmaddhnaa
