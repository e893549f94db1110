/-
  XorUndo: Two undoes itself, and unlike texts stay unlike: for any three texts. No condition.
-/
import Derived.Test.YtfbpcapmaddhnaaAwake01
import Derived.Deep.DeepCutAuto
namespace Go.Proofs.Ytfbpcapmaddhnaa
open Go.RowKit

theorem xor_inj {x y z : ByteArray} {n : Nat} (hx : x.size = n) (hy : y.size = n) (hz : z.size = n) (h : xorB x z = xorB y z) : x = y := by
  rw [← xorB_cancel x z (by omega), ← xorB_cancel y z (by omega), h]
set_option maxRecDepth 100000 in
set_option maxHeartbeats 1000000 in
theorem xorUndo_walk (a b c : ByteArray) (w : World) (ha : a.size ≤ 140737488351232) (_hb : b.size ≤ 140737488351232) (_hc : c.size ≤ 140737488351232) :
    Calls Try.prog 7 #[.string a, .string b, .string c] w fun e w' => e = .returned (.bool true) ∧ Below w.heap.size w w' := by
  go_enter Try.func7, Try.ntmps7
  go_upto_region 2 with (go_at_call 12; refine (awake01_calls _).mono ?_; rintro e w0 ⟨rfl, hb0⟩)
  go_cut [8] (fun s8 wx => ∃ n : Nat, s8 = .int .i64 n ∧ n ≤ a.size ∧ n ≤ b.size ∧ n ≤ c.size ∧ Below w.heap.size w wx)
  case first =>
    go_wp2
    all_goals go_meet
    all_goals exact ⟨_, rfl, by omega, by omega, by omega, hb0⟩
  case rest =>
    obtain ⟨n, rfl, h1, h2, h3, hb0⟩ := hcut
    have HX := Lib.hid (extract_size a n h1)
    have HY := Lib.hid (extract_size b n h2)
    have HZ := Lib.hid (extract_size c n h3)
    have E1 : (xorB (xorB (a.extract 0 n) (c.extract 0 n)) (c.extract 0 n)).toList = (a.extract 0 n).toList := by rw [xorB_cancel _ _ (by rw [HX.out, HZ.out]; exact Nat.le_refl _)]
    have E2 : ((xorB (a.extract 0 n) (c.extract 0 n)).toList == (xorB (b.extract 0 n) (c.extract 0 n)).toList) = ((a.extract 0 n).toList == (b.extract 0 n).toList) := by
      rw [Bool.eq_iff_iff, beq_iff_eq, beq_iff_eq]
      exact ⟨fun h => by rw [xor_inj HX.out HY.out HZ.out (toList_inj h)], fun h => by rw [toList_inj h]⟩
    go_wp2_with (go_at_call 16; refine (two_n n _ _ _ (by repeat (first | exact HX.out | exact HY.out | exact HZ.out | refine sz_xor ?_ ?_)) (by repeat (first | exact HX.out | exact HY.out | exact HZ.out | refine sz_xor ?_ ?_)) (by unfold maxLen; omega)).mono ?_; rintro e w2 ⟨rfl, hk⟩; replace hb0 := bel_call hb0 hk; clear hk)
    go_ret
    exact ⟨rfl, hb0⟩
end Go.Proofs.Ytfbpcapmaddhnaa
