/-
  XorTwice: to move a parity there and back is nothing, and to move it for two texts is to move it for one, then the other: for any four texts. No condition.
-/
import Derived.Test.YtfbpcapmaddhnaaAwake01
import Derived.Deep.DeepCutAuto
namespace Go.Proofs.Ytfbpcapmaddhnaa
open Go.RowKit

theorem moved_n (n : Nat) (a b c : ByteArray) (w : World) (ha : a.size = n) (hb : b.size = n) (hc : c.size = n) (hn : n ≤ maxLen) :
    Calls Try.prog 20 #[.string a, .string b, .string c] w fun e w' => e = .returned (.tuple #[.string (xorB (xorB a b) c), .int .i64 0]) ∧ Below w.heap.size w w' := by
  subst ha
  exact moved_yes a b c w ⟨hb, hc⟩ hn

theorem run_min4 {P : Program} (a b c d : Nat) : ∃ m : Nat, m ≤ a ∧ m ≤ b ∧ m ≤ c ∧ m ≤ d ∧
    ∀ (ts : Array TypeId) (t : TypeId) (W : World), (Builtin.min_ ts t #[.int .i64 a, .int .i64 b, .int .i64 c, .int .i64 d]).run P W = .ok (.int .i64 m) W := by
  refine ⟨min (min (min a b) c) d, by omega, by omega, by omega, by omega, fun ts t W => ?_⟩
  simp only [Builtin.min_, List.foldlM, Builtin.min2, pure_bind, Sem.run_pure]
  congr 2
  repeat' split
  all_goals omega

set_option maxRecDepth 100000 in
set_option maxHeartbeats 1000000 in
theorem xorTwice_walk (all a b c : ByteArray) (w : World) (ha : all.size ≤ 140737488351232) (_ha : a.size ≤ 140737488351232) (_hb : b.size ≤ 140737488351232) (_hc : c.size ≤ 140737488351232) :
    Calls Try.prog 11 #[.string all, .string a, .string b, .string c] w fun e w' => e = .returned (.bool true) ∧ Below w.heap.size w w' := by
  obtain ⟨m, k0, k1, k2, k3, hmin⟩ := run_min4 (P := Try.prog) all.size a.size b.size c.size
  go_enter Try.func11, Try.ntmps11
  go_upto_region 2 with (go_at_call 12; refine (awake01_calls _).mono ?_; rintro e w0 ⟨rfl, hb0⟩)
  go_cut [10] (fun s8 wx => ∃ n : Nat, s8 = .int .i64 n ∧ n ≤ all.size ∧ n ≤ a.size ∧ n ≤ b.size ∧ n ≤ c.size ∧ Below w.heap.size w wx)
  case first =>
    all_goals go_wp2
    all_goals go_meet
    all_goals exact ⟨_, rfl, by omega, by omega, by omega, by omega, hb0⟩
  case rest =>
    obtain ⟨n, rfl, h0, h1, h2, h3, hb0⟩ := hcut
    have HW := Lib.hid (extract_size all n h0)
    have HX := Lib.hid (extract_size a n h1)
    have HY := Lib.hid (extract_size b n h2)
    have HZ := Lib.hid (extract_size c n h3)
    have E1 : (xorB (xorB (xorB (xorB (all.extract 0 n) (a.extract 0 n)) (b.extract 0 n)) (b.extract 0 n)) (a.extract 0 n)).toList = (all.extract 0 n).toList := by
      rw [xorB_cancel _ _ (by rw [sz_xor HW.out HX.out, HY.out]; exact Nat.le_refl _), xorB_cancel _ _ (by rw [HW.out, HX.out]; exact Nat.le_refl _)]
    have E2 : (xorB (xorB (xorB (xorB (all.extract 0 n) (a.extract 0 n)) (b.extract 0 n)) (b.extract 0 n)) (c.extract 0 n)).toList = (xorB (xorB (all.extract 0 n) (a.extract 0 n)) (c.extract 0 n)).toList := by
      rw [xorB_cancel _ _ (by rw [sz_xor HW.out HX.out, HY.out]; exact Nat.le_refl _)]
    go_wp2_with (go_at_call 20; refine (moved_n n _ _ _ _ (by repeat (first | exact HW.out | exact HX.out | exact HY.out | exact HZ.out | refine sz_xor ?_ ?_)) (by repeat (first | exact HX.out | exact HY.out | exact HZ.out | refine sz_xor ?_ ?_)) (by repeat (first | exact HX.out | exact HY.out | exact HZ.out | refine sz_xor ?_ ?_)) (by unfold maxLen; omega)).mono ?_; rintro e w2 ⟨rfl, hk⟩; replace hb0 := bel_call hb0 hk; clear hk)
    go_ret
    exact ⟨rfl, hb0⟩
end Go.Proofs.Ytfbpcapmaddhnaa
