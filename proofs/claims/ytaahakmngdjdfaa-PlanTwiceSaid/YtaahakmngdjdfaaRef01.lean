/-
  The contracts of the document's own answer for layer 1: bit, Two, All, Moved and Missing compute what package xor computes. Condition: lengths are Go's, and a list's new length fits.
-/
import Derived.Test.YtaahakmngdjdfaaXorMath
import Derived.Test.YtaahakmngdjdfaaInfo
import Derived.RegionTactic
import Derived.Deep.RegionWith
namespace Go.Proofs.Ytaahakmngdjdfaa
open Go.RowKit

theorem xor_step (a b i : Nat) : (a ^^^ b) % 2 ^ (i + 1) = (a ^^^ b) % 2 ^ i + (if (a / 2 ^ i) % 2 = (b / 2 ^ i) % 2 then 0 else 2 ^ i) := by
  rw [Nat.mod_pow_succ]
  have h : (a ^^^ b) / 2 ^ i % 2 = if (a / 2 ^ i) % 2 = (b / 2 ^ i) % 2 then 0 else 1 := by
    rw [← Nat.shiftRight_eq_div_pow, Nat.shiftRight_xor_distrib, Nat.shiftRight_eq_div_pow, Nat.shiftRight_eq_div_pow]
    generalize a / 2 ^ i = x
    generalize b / 2 ^ i = y
    have h := @Nat.xor_mod_two_eq_one x y
    split <;> omega
  rw [h]
  split <;> simp

theorem bit_calls (a b : Nat) (ha : a < 256) (hb : b < 256) (w : World) :
    Calls Try.prog 43 #[.int .u8 a, .int .u8 b] w fun e w' => e = .returned (.int .u8 ((a ^^^ b : Nat) : Int)) ∧ w = w' := by
  go_enter Try.func43, Try.ntmps43
  go_wp2
  go_loop [5, 6, 7, 8, 9] (fun n u x y i => ∃ k N U X Y : Nat, k ≤ 8 ∧ N < 256 ∧ U ≤ 256 ∧ X < 256 ∧ Y < 256 ∧ n = .int .i64 N ∧ u = .int .i64 U ∧ x = .int .i64 X ∧ y = .int .i64 Y ∧ i = .int .i64 k ∧ Hid (N = (a ^^^ b) % 2 ^ k ∧ U = 2 ^ k ∧ X = a / 2 ^ k ∧ Y = b / 2 ^ k))
    (fun _ _ _ _ i => 8 - (intOf i).toNat)
  case atStart =>
    exact ⟨0, 0, 1, a, b, by omega, by omega, by omega, ha, hb, rfl, rfl, by first | rfl | go_num, by first | rfl | go_num, rfl, Lib.hid ⟨by rw [Nat.pow_zero, Nat.mod_one], rfl, by simp, by simp⟩⟩
  case round =>
    obtain ⟨k, N, U, X, Y, hk, hN, hU, hX, hY, rfl, rfl, rfl, rfl, rfl, H⟩ := hrel
    by_cases hlt : k < 8
    · have hU2 : U ≤ 128 := by
        rw [H.out.2.1]
        exact Nat.pow_le_pow_right (by omega) (show k ≤ 7 by omega)
      have hN2 : N < U := by rw [H.out.1, H.out.2.1]; exact Nat.mod_lt _ (Nat.pow_pos (by omega))
      by_cases hxy : X % 2 = Y % 2
      · have hne : (((X : Int) % 2) != ((Y : Int) % 2)) = false := by simp; omega
        have HXY := Lib.hid hxy
        clear hxy
        go_wp2
        go_round
        case rel => exact ⟨k + 1, N, 2 * U, X / 2, Y / 2, by omega, hN, by omega, by omega, by omega, rfl, by go_num, by go_num, by go_num, by go_num, Lib.hid (by
          obtain ⟨h1, h2, h3, h4⟩ := H.out
          refine ⟨?_, by rw [h2, Nat.pow_succ, Nat.mul_comm], by rw [h3, Nat.div_div_eq_div_mul, Nat.pow_succ], by rw [h4, Nat.div_div_eq_div_mul, Nat.pow_succ]⟩
          rw [xor_step, ← h3, ← h4, if_pos HXY.out, ← h1]
          rfl)⟩
        case measure => simp [intOf]; omega
      · have hne : (((X : Int) % 2) != ((Y : Int) % 2)) = true := by simp; omega
        have HXY := Lib.hid hxy
        clear hxy
        go_wp2
        go_round
        case rel => exact ⟨k + 1, N + U, 2 * U, X / 2, Y / 2, by omega, by omega, by omega, by omega, by omega, by go_num, by go_num, by go_num, by go_num, by go_num, Lib.hid (by
          obtain ⟨h1, h2, h3, h4⟩ := H.out
          refine ⟨?_, by rw [h2, Nat.pow_succ, Nat.mul_comm], by rw [h3, Nat.div_div_eq_div_mul, Nat.pow_succ], by rw [h4, Nat.div_div_eq_div_mul, Nat.pow_succ]⟩
          rw [xor_step, ← h3, ← h4, if_neg HXY.out, ← h1, h2])⟩
        case measure => simp [intOf]; omega
    · have hk8 : k = 8 := by omega
      have HK := Lib.hid hk8
      clear hk8
      go_wp2
      go_ret
      refine ⟨?_, rfl⟩
      have h1 := H.out.1
      rw [HK.out, Nat.mod_eq_of_lt (Nat.xor_lt_two_pow (n := 8) ha hb)] at h1
      rw [← h1]
      rfl

set_option maxHeartbeats 400000 in
theorem ref_two_yes (a b : ByteArray) (w : World) (h : a.size = b.size) (hs : a.size ≤ maxLen) :
    Calls Try.prog 39 #[.string a, .string b] w fun e w' => e = .returned (.tuple #[.string (xorB a b), .int .i64 0]) ∧ Below w.heap.size w w' := by
  have hne : ((a.size : Int) != (b.size : Int)) = false := by simp; omega
  have H := Lib.hid h
  unfold maxLen at hs
  clear h
  have hbs := fun w => run_bytes_of_string (P := Try.prog) w 9 51 5 a Try.underlying9 Try.underlying51 Try.underlying5
  go_enter Try.func39, Try.ntmps39
  go_wp2
  clear hbs
  go_loopw [7] (fun v wr => ∃ m : Nat, m ≤ a.size ∧ v = .int .i64 m ∧ Row8 wr w.heap.size ((xorL a.data.toList b.data.toList).take m ++ a.data.toList.drop m) ∧ Below w.heap.size w wr)
    (fun v _ => a.size - (intOf v).toNat)
  case atStart => exact ⟨0, Nat.zero_le _, rfl, by simpa using (Row8.ofString w a _ _).drew, ((Below.refl _ _).alloc (Nat.le_refl _) _).drew⟩
  case round =>
    obtain ⟨m, hm, rfl, hrow, hb⟩ := hrel
    by_cases hmt : m < a.size
    · have hal : m < a.data.toList.length := by rw [byteList_size]; exact hmt
      have hbl : m < b.data.toList.length := by rw [byteList_size, ← H.out]; exact hmt
      have hbs : m < b.size := by rw [← H.out]; exact hmt
      have hx : a.data.toList[m]? = some a[m] := by rw [List.getElem?_eq_getElem hal]; rfl
      have hy : b.data.toList[m]? = some b[m] := by rw [List.getElem?_eq_getElem hbl]; rfl
      obtain ⟨hc2, hf2⟩ := hrow m a[m] (mixAt _ _ _ _ hx hbl)
      have Hrow := Lib.hid hrow
      have Hstep := Lib.hid (mixStep _ _ _ _ _ hx hy)
      have ha8 := a[m].toNat_lt
      have hb8 := b[m].toNat_lt
      clear hrow hx hy
      go_wp2_with fail
      go_region_with (go_at_call 43; refine (bit_calls a[m].toNat b[m].toNat ha8 hb8 _).mono ?_; rintro e w' ⟨rfl, rfl⟩)
      all_goals
        go_wp2
        go_roundw
        case rel => exact ⟨m + 1, by omega, by go_num, by
          rw [← Hstep.out]
          exact Hrow.out.set_ m (a[m] ^^^ b[m]) _ (by rw [UInt8.toNat_xor]), hb.drew.setCell (p := ⟨w.heap.size, m, none⟩) (Nat.le_refl _) _⟩
        case measure => simp [intOf]; omega
    · have h1 : (xorL a.data.toList b.data.toList).length = a.size := by rw [xorL_length, byteList_size, byteList_size, ← H.out]; omega
      rw [List.take_of_length_le (by omega), List.drop_of_length_le (by rw [byteList_size]; omega), List.append_nil, ← xorB_toList] at hrow
      have hcv := run_row8_string (P := Try.prog) Try.underlying51 Try.underlying5 Try.underlying9 hrow a.size (grownCap w a.size 0 5) (by
        rw [xorB_toList]; exact h1)
      rw [mk_toList] at hcv
      clear hrow h1
      go_wp2
      go_ret2
      exact ⟨rfl, hb⟩

theorem ref_two_no (a b : ByteArray) (w : World) (h : a.size ≠ b.size) :
    Calls Try.prog 39 #[.string a, .string b] w fun e w' => e = .returned (.tuple #[.string ⟨#[]⟩, .int .i64 10]) ∧ Below w.heap.size w w' := by
  have hb : ((a.size : Int) != (b.size : Int)) = true := by simp; omega
  clear h
  go_enter Try.func39, Try.ntmps39
  go_wp2
  go_ret2
  exact ⟨rfl, Below.refl _ _⟩

theorem ref_two_any (a b : ByteArray) (w : World) (hs : a.size ≤ maxLen) :
    Calls Try.prog 39 #[.string a, .string b] w fun e w' => e = .returned (.tuple #[.string (twoR a b).1, .int .i64 (twoR a b).2]) ∧ Below w.heap.size w w' := by
  by_cases h : a.size = b.size
  · rw [twoR, if_pos h]; exact ref_two_yes a b w h hs
  · rw [twoR, if_neg h]; exact ref_two_no a b w h

theorem ref_all_none (A : Option Addr) (c : Nat) (w : World) :
    Calls Try.prog 22 #[.slice A 0 c] w fun e w' => e = .returned (.tuple #[.string ⟨#[]⟩, .int .i64 10]) ∧ Below w.heap.size w w' := by
  go_enter Try.func22, Try.ntmps22
  go_wp2
  go_ret2
  exact ⟨rfl, Below.refl _ _⟩

theorem ref_all_some (first : ByteArray) (l : List ByteArray) (A : Option Addr) (n c : Nat) (w : World) (hr : Rd w w.heap.size A ((first :: l).map Value.string))
    (hs : first.size ≤ maxLen) (hn : n ≤ maxLen) (hln : l.length + 1 = n) :
    Calls Try.prog 22 #[.slice A n c] w fun e w' => e = .returned (.tuple #[.string (missR first l).1, .int .i64 (missR first l).2]) ∧ Below w.heap.size w w' := by
  obtain ⟨b, off, rfl, hbB, hcell⟩ := hr.at_ (k := 0) (u := .string first) rfl
  rw [Nat.add_zero] at hcell
  have h0 : (0 : Int) < n := by omega
  have h1 : ((n : Int) == 0) = false := by simp; omega
  have HR := Lib.hid hr
  have HN := Lib.hid hln
  have HS := Lib.hid hs
  unfold maxLen at hn
  clear hr hln hs
  go_enter Try.func22, Try.ntmps22
  go_wp2
  go_loopw [4, 5, 6] (fun s e i wr => ∃ k : Nat, k + 1 ≤ n ∧ i = .int .i64 (k + 1 : Nat) ∧ s = .string (missR first (l.take k)).1 ∧ e = .int .i64 (missR first (l.take k)).2 ∧ Below w.heap.size w wr) (fun _ _ i _ => n - (intOf i).toNat)
  case atStart => exact ⟨0, by omega, rfl, rfl, rfl, Below.refl _ _⟩
  case round =>
    obtain ⟨k, hk, rfl, rfl, rfl, hb⟩ := hrel
    by_cases hall : ∀ s ∈ l.take k, s.size = first.size
    · rw [missR_ok hall]
      have HA := Lib.hid hall
      have HZ : Hid ((foldX first (l.take k)).size ≤ maxLen) := Lib.hid (by rw [foldX_size _ _ hall]; exact HS.out)
      clear hall
      by_cases hlt : k + 1 < n
      · have hkl : k < l.length := by have := HN.out; omega
        have hc := (HR.out.below hb).at_ (k := k + 1) (u := .string l[k]) (by simp [hkl])
        obtain ⟨b', off', hA, _, hc⟩ := hc
        injection hA with hA
        injection hA with h1 h2 _
        subst h1 h2
        have HT : Hid (missR first (l.take (k + 1)) = twoR (foldX first (l.take k)) l[k]) := Lib.hid (by
          rw [List.take_succ_eq_append_getElem hkl]; exact missR_snoc HA.out)
        go_wp2_with (go_at_call 39; (refine (ref_two_any (foldX first (l.take k)) l[k] _ HZ.out).mono ?_); rintro e w' ⟨rfl, hb2⟩)
        go_roundw
        case rel => exact ⟨k + 1, by omega, by go_num, by rw [HT.out], by rw [HT.out], hb.trans (hb2.mono hb.size)⟩
        case measure => simp [intOf]; omega
      · have HF : Hid (missR first l = (foldX first (l.take k), 0)) := Lib.hid (by
          have h := HA.out
          rw [List.take_of_length_le (by have := HN.out; omega)] at h ⊢
          exact missR_ok h)
        go_wp2
        go_ret2
        rw [HF.out]
        exact ⟨rfl, hb⟩
    · have HF := Lib.hid (missR_more hall)
      rw [missR_no hall]
      clear hall
      by_cases hlt : k + 1 < n
      · go_wp2
        go_ret2
        rw [HF.out]
        exact ⟨rfl, hb⟩
      · go_wp2
        go_ret2
        rw [HF.out]
        exact ⟨rfl, hb⟩

end Go.Proofs.Ytaahakmngdjdfaa
