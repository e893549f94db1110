/-
  RequestBack: Hear undoes Tell; unlike answers are laid unlike: for any raw numbers and texts. No condition.
-/
import Derived.Test.YtekjhhiamboffaaReqMade
namespace Go.Proofs.Ytekjhhiamboffaa
open Go.RowKit

set_option maxRecDepth 100000 in
set_option maxHeartbeats 4000000 in
theorem requestBack_walk (le : List Int) (A : Option Addr) (n c : Nat) (lt : List ByteArray) (B : Option Addr) (m cb : Nat) (lo : List Int) (A2 : Option Addr) (n2 c2 : Nat) (lm : List ByteArray) (B2 : Option Addr) (m2 cb2 : Nat) (w : World)
    (hra : Rd w w.heap.size A (intCells le)) (hE : le.length = n) (_hnc : n ≤ c) (_hc : c * 8 ≤ 140737488351232) (hwf : ∀ z ∈ le, -9223372036854775808 ≤ z ∧ z ≤ 9223372036854775807)
    (hrb : Rd w w.heap.size B (lt.map Value.string)) (hD : lt.length = m) (_hmc : m ≤ cb) (_hcb : cb * 16 ≤ 140737488351232) (hs : ∀ s ∈ lt, s.size ≤ maxLen)
    (hra2 : Rd w w.heap.size A2 (intCells lo)) (hE2 : lo.length = n2) (_hnc2 : n2 ≤ c2) (_hc2 : c2 * 8 ≤ 140737488351232) (hwf2 : ∀ z ∈ lo, -9223372036854775808 ≤ z ∧ z ≤ 9223372036854775807)
    (hrb2 : Rd w w.heap.size B2 (lm.map Value.string)) (hD2 : lm.length = m2) (_hmc2 : m2 ≤ cb2) (_hcb2 : cb2 * 16 ≤ 140737488351232) (hs2 : ∀ s ∈ lm, s.size ≤ maxLen) :
    Calls Try.prog 5 #[.slice A n c, .slice B m cb, .slice A2 n2 c2, .slice B2 m2 cb2] w fun e w' => e = .returned (.bool true) ∧ Below w.heap.size w w' := by
  clear _hnc _hc _hmc _hcb _hnc2 _hc2 _hmc2 _hcb2
  unfold maxLen at hs hs2
  have H1 := Lib.hid hra
  have H2 := Lib.hid hE
  have H3 := Lib.hid hwf
  have H4 := Lib.hid hrb
  have H5 := Lib.hid hD
  have H6 := Lib.hid hs
  have K1 := Lib.hid hra2
  have K2 := Lib.hid hE2
  have K3 := Lib.hid hwf2
  have K4 := Lib.hid hrb2
  have K5 := Lib.hid hD2
  have K6 := Lib.hid hs2
  clear hra hE hwf hrb hD hs hra2 hE2 hwf2 hrb2 hD2 hs2
  go_enter Try.func5, Try.ntmps5
  go_wp2_with (go_at_call 8; refine (awake20_calls _).mono ?_; rintro e w1 ⟨rfl, hb⟩)
  refine (made20_calls le lt A B n m c cb _ (rdi_call H1.out hb) (rdi_call H4.out hb) H2.out H5.out H3.out H6.out).mono ?_
  rintro e w2 ⟨E, D, A3, B3, k, c3, cb3, hT, hEl, hDl, hk4, rfl, r1, r2, hk⟩
  replace hb := bel_call hb hk
  have T1 := Lib.hid hT
  have EL := Lib.hid hEl
  have DL := Lib.hid hDl
  have R1 := Lib.hid r1
  have R2 := Lib.hid r2
  clear hT hEl hDl r1 r2 hk
  go_wp2_with fail
  refine (made20_calls lo lm A2 B2 n2 m2 c2 cb2 _ (rdi_call K1.out hb) (rdi_call K4.out hb) K2.out K5.out K3.out K6.out).mono ?_
  rintro e w3 ⟨E', D', A4, B4, k', c4, cb4, hT, hEl, hDl, hk4', rfl, r1, r2, hk⟩
  replace hb := bel_call hb hk
  have T2 := Lib.hid hT
  have EL' := Lib.hid hEl
  have DL' := Lib.hid hDl
  have R3 := Lib.hid r1
  have R4 := Lib.hid r2
  have R5 := Lib.hid (rdi_call R1.out hk)
  have R6 := Lib.hid (rdi_call R2.out hk)
  obtain ⟨s, hs⟩ : ∃ s, s = layB (tellF (E.zip D)) := ⟨_, rfl⟩
  obtain ⟨t, ht⟩ : ∃ s, s = layB (tellF (E'.zip D')) := ⟨_, rfl⟩
  have S1 := Lib.hid hs
  have S2 := Lib.hid ht
  clear hT hEl hDl r1 r2 hk hs ht
  go_wp2_with fail
  refine (tell_v E D s A3 B3 k c3 cb3 _ T1.out S1.out R5.out R6.out EL.out).mono ?_
  rintro e w4 ⟨rfl, hk⟩
  replace hb := bel_call hb hk
  have R7 := Lib.hid (rdi_call R3.out hk)
  have R8 := Lib.hid (rdi_call R4.out hk)
  have Q5 := Lib.hid (rdi_call R5.out hk)
  have Q6 := Lib.hid (rdi_call R6.out hk)
  clear hk
  go_wp2_with fail
  refine (tell_v E' D' t A4 B4 k' c4 cb4 _ T2.out S2.out R7.out R8.out EL'.out).mono ?_
  rintro e w5 ⟨rfl, hk⟩
  replace hb := bel_call hb hk
  have P7 := Lib.hid (rdi_call R7.out hk)
  have P8 := Lib.hid (rdi_call R8.out hk)
  have P5 := Lib.hid (rdi_call Q5.out hk)
  have P6 := Lib.hid (rdi_call Q6.out hk)
  clear hk
  go_wp2_with fail
  refine (hear_yes E D s k _ T1.out S1.out EL.out).mono ?_
  rintro e w6 ⟨A5, B5, c5, cb5, rfl, r1, r2, hk⟩
  replace hb := bel_call hb hk
  have O7 := Lib.hid (rdi_call P7.out hk)
  have O8 := Lib.hid (rdi_call P8.out hk)
  have O5 := Lib.hid (rdi_call P5.out hk)
  have O6 := Lib.hid (rdi_call P6.out hk)
  have X1 := Lib.hid r1
  have X2 := Lib.hid r2
  clear hk r1 r2
  have heq : (E = E' ∧ D = D' ∧ s = t) ∨ (E = E' ∧ D ≠ D' ∧ (s.toList == t.toList) = false) ∨ (E ≠ E' ∧ (s.toList == t.toList) = false) := by
    have hno : ¬ (E = E' ∧ D = D') → (s.toList == t.toList) = false := by
      intro h
      rw [beq_eq_false_iff_ne, Lib.toList_data, Lib.toList_data]
      intro h2
      exact h (ans_inj T1.out T2.out (by rw [← S1.out, ← S2.out]; exact ba_eq h2))
    by_cases h1 : E = E'
    · by_cases h2 : D = D'
      · exact .inl ⟨h1, h2, by rw [S1.out, S2.out, h1, h2]⟩
      · exact .inr (.inl ⟨h1, h2, hno fun h => h2 h.2⟩)
    · exact .inr (.inr ⟨h1, hno fun h => h1 h.1⟩)
  go_wp2_with fail
  refine (errs_calls E E A5 A3 k k c5 c3 _ X1.out O5.out EL.out EL.out (by omega) (by omega)).mono ?_
  rw [decide_eq_true (rfl : E = E)]
  rintro e w7 ⟨rfl, hk⟩
  replace hb := bel_call hb hk
  have N7 := Lib.hid (rdi_call O7.out hk)
  have N8 := Lib.hid (rdi_call O8.out hk)
  have N5 := Lib.hid (rdi_call O5.out hk)
  have N6 := Lib.hid (rdi_call O6.out hk)
  have Y2 := Lib.hid (rdi_call X2.out hk)
  clear hk
  go_wp2_with fail
  refine (texts20_calls D D B5 B3 k k cb5 cb3 _ Y2.out N6.out DL.out DL.out (by omega) (by omega)).mono ?_
  rw [decide_eq_true (rfl : D = D)]
  rintro e w8 ⟨rfl, hk⟩
  replace hb := bel_call hb hk
  have M7 := Lib.hid (rdi_call N7.out hk)
  have M8 := Lib.hid (rdi_call N8.out hk)
  have M5 := Lib.hid (rdi_call N5.out hk)
  have M6 := Lib.hid (rdi_call N6.out hk)
  clear hk
  rcases heq with ⟨e1, e2, e3⟩ | ⟨e1, e2, e3⟩ | ⟨e1, e3⟩
  · have E1 := Lib.hid e1
    have E2 := Lib.hid e2
    subst e3
    clear e1 e2
    go_wp2_with fail
    refine (errs_calls E E' A3 A4 k k' c3 c4 _ M5.out M7.out EL.out EL'.out (by omega) (by omega)).mono ?_
    rw [decide_eq_true E1.out]
    rintro e w9 ⟨rfl, hk⟩
    replace hb := bel_call hb hk
    have L8 := Lib.hid (rdi_call M8.out hk)
    have L6 := Lib.hid (rdi_call M6.out hk)
    clear hk
    go_wp2_with fail
    refine (texts20_calls D D' B3 B4 k k' cb3 cb4 _ L6.out L8.out DL.out DL'.out (by omega) (by omega)).mono ?_
    rw [decide_eq_true E2.out]
    rintro e w10 ⟨rfl, hk⟩
    replace hb := bel_call hb hk
    clear hk
    go_wp2
    go_ret
    exact ⟨by rfl, hb⟩
  · have E1 := Lib.hid e1
    have E2 := Lib.hid e2
    clear e1 e2
    go_wp2_with fail
    refine (errs_calls E E' A3 A4 k k' c3 c4 _ M5.out M7.out EL.out EL'.out (by omega) (by omega)).mono ?_
    rw [decide_eq_true E1.out]
    rintro e w9 ⟨rfl, hk⟩
    replace hb := bel_call hb hk
    have L8 := Lib.hid (rdi_call M8.out hk)
    have L6 := Lib.hid (rdi_call M6.out hk)
    clear hk
    go_wp2_with fail
    refine (texts20_calls D D' B3 B4 k k' cb3 cb4 _ L6.out L8.out DL.out DL'.out (by omega) (by omega)).mono ?_
    rw [decide_eq_false E2.out]
    rintro e w10 ⟨rfl, hk⟩
    replace hb := bel_call hb hk
    clear hk
    go_wp2
    go_ret
    exact ⟨by rfl, hb⟩
  · have E1 := Lib.hid e1
    clear e1
    go_wp2_with fail
    refine (errs_calls E E' A3 A4 k k' c3 c4 _ M5.out M7.out EL.out EL'.out (by omega) (by omega)).mono ?_
    rw [decide_eq_false E1.out]
    rintro e w9 ⟨rfl, hk⟩
    replace hb := bel_call hb hk
    clear hk
    go_wp2
    go_ret
    exact ⟨by rfl, hb⟩
end Go.Proofs.Ytekjhhiamboffaa
