/-
  The contracts of package request's right and of the document's, whatever they are asked. Condition: none but Go's numbers and lengths.
-/
import Derived.Test.YtekjhhiamboffaaReqBase
import Derived.Test.YtekjhhiamboffaaReqMath
namespace Go.Proofs.Ytekjhhiamboffaa
open Go.RowKit

theorem emptyT {d : ByteArray} (h : d.size = 0) : d.toList.isEmpty = true := by rw [emptyB h, ByteArray.toList_eq]; rfl

set_option maxHeartbeats 2000000 in
theorem right20_calls (k a c : Int) (d : ByteArray) (w : World) (hd : d.size ≤ 140737488351232) :
    Calls Try.prog 25 #[.int .i64 k, .int .i64 a, .int .i64 c, .string d] w fun e w' => e = .returned (.bool (reqOk k a c d)) ∧ w = w' := by
  rcases (show a < 0 ∨ 1099511627776 < a ∨ (0 ≤ a ∧ a ≤ 1099511627776) by omega) with h | h | ⟨a1, a2⟩
  · have ha : decide (a < 0) = true := decide_eq_true h
    have hf : reqOk k a c d = false := reqOk_no (by unfold ReqP; omega)
    rw [hf]
    clear hf
    go_enter Try.func25, Try.ntmps25
    go_wp2
    go_ret
    exact ⟨rfl, rfl⟩
  · have ha : decide (1099511627776 < a) = true := decide_eq_true h
    have hf : reqOk k a c d = false := reqOk_no (by unfold ReqP; omega)
    have h0 : decide (a < 0) = false := decide_eq_false (by omega)
    rw [hf]
    clear hf
    go_enter Try.func25, Try.ntmps25
    go_wp2
    go_ret
    exact ⟨rfl, rfl⟩
  · have h0 : decide (a < 0) = false := decide_eq_false (by omega)
    have h1 : decide (1099511627776 < a) = false := decide_eq_false (by omega)
    rcases (show c < 1 ∨ 4 < c ∨ (1 ≤ c ∧ c ≤ 4) by omega) with hc | hc | ⟨c1, c2⟩
    · skip
      rcases (show k = 1 ∨ k = 2 ∨ k = 3 ∨ (k ≠ 1 ∧ k ≠ 2 ∧ k ≠ 3) by omega) with rfl | rfl | rfl | ⟨kn1, kn2, kn3⟩
      · skip
        have hf : reqOk 1 a c d = false := reqOk_no (by unfold ReqP; omega)
        have q1 : decide (1 ≤ c) = false := decide_eq_false (by omega)
        have q2 : decide (c < 1) = true := decide_eq_true hc
        have q3 : (c == 1) = false := by rw [beq_eq_false_iff_ne]; omega
        rw [hf]
        clear hf
        go_enter Try.func25, Try.ntmps25
        go_wp2
        go_ret
        exact ⟨rfl, rfl⟩
      · skip
        have hf : reqOk 2 a c d = false := reqOk_no (by unfold ReqP; omega)
        have q1 : decide (1 ≤ c) = false := decide_eq_false (by omega)
        have q2 : decide (c < 1) = true := decide_eq_true hc
        have q3 : (c == 1) = false := by rw [beq_eq_false_iff_ne]; omega
        rw [hf]
        clear hf
        go_enter Try.func25, Try.ntmps25
        go_wp2
        go_ret
        exact ⟨rfl, rfl⟩
      · skip
        have hf : reqOk 3 a c d = false := reqOk_no (by unfold ReqP; omega)
        have q1 : decide (1 ≤ c) = false := decide_eq_false (by omega)
        have q2 : decide (c < 1) = true := decide_eq_true hc
        have q3 : (c == 1) = false := by rw [beq_eq_false_iff_ne]; omega
        rw [hf]
        clear hf
        go_enter Try.func25, Try.ntmps25
        go_wp2
        go_ret
        exact ⟨rfl, rfl⟩
      · skip
        have k1 : (k == 1) = false := by rw [beq_eq_false_iff_ne]; exact kn1
        have k2 : (k == 2) = false := by rw [beq_eq_false_iff_ne]; exact kn2
        have k3 : (k == 3) = false := by rw [beq_eq_false_iff_ne]; exact kn3
        have hf : reqOk k a c d = false := reqOk_no (by unfold ReqP; omega)
        rw [hf]
        clear hf kn1 kn2 kn3
        go_enter Try.func25, Try.ntmps25
        go_wp2
        go_ret
        exact ⟨rfl, rfl⟩
    · skip
      rcases (show k = 1 ∨ k = 2 ∨ k = 3 ∨ (k ≠ 1 ∧ k ≠ 2 ∧ k ≠ 3) by omega) with rfl | rfl | rfl | ⟨kn1, kn2, kn3⟩
      · skip
        have hf : reqOk 1 a c d = false := reqOk_no (by unfold ReqP; omega)
        have q1 : decide (1 ≤ c) = true := decide_eq_true (by omega)
        have q2 : decide (c < 1) = false := decide_eq_false (by omega)
        have q3 : (c == 1) = false := by rw [beq_eq_false_iff_ne]; omega
        have q4 : decide (c ≤ 4) = false := decide_eq_false (by omega)
        have q5 : decide (4 < c) = true := decide_eq_true hc
        rw [hf]
        clear hf
        go_enter Try.func25, Try.ntmps25
        go_wp2
        go_ret
        exact ⟨rfl, rfl⟩
      · skip
        have hf : reqOk 2 a c d = false := reqOk_no (by unfold ReqP; omega)
        have q1 : decide (1 ≤ c) = true := decide_eq_true (by omega)
        have q2 : decide (c < 1) = false := decide_eq_false (by omega)
        have q3 : (c == 1) = false := by rw [beq_eq_false_iff_ne]; omega
        have q4 : decide (c ≤ 4) = false := decide_eq_false (by omega)
        have q5 : decide (4 < c) = true := decide_eq_true hc
        rw [hf]
        clear hf
        go_enter Try.func25, Try.ntmps25
        go_wp2
        go_ret
        exact ⟨rfl, rfl⟩
      · skip
        have hf : reqOk 3 a c d = false := reqOk_no (by unfold ReqP; omega)
        have q1 : decide (1 ≤ c) = true := decide_eq_true (by omega)
        have q2 : decide (c < 1) = false := decide_eq_false (by omega)
        have q3 : (c == 1) = false := by rw [beq_eq_false_iff_ne]; omega
        have q4 : decide (c ≤ 4) = false := decide_eq_false (by omega)
        have q5 : decide (4 < c) = true := decide_eq_true hc
        rw [hf]
        clear hf
        go_enter Try.func25, Try.ntmps25
        go_wp2
        go_ret
        exact ⟨rfl, rfl⟩
      · skip
        have k1 : (k == 1) = false := by rw [beq_eq_false_iff_ne]; exact kn1
        have k2 : (k == 2) = false := by rw [beq_eq_false_iff_ne]; exact kn2
        have k3 : (k == 3) = false := by rw [beq_eq_false_iff_ne]; exact kn3
        have hf : reqOk k a c d = false := reqOk_no (by unfold ReqP; omega)
        rw [hf]
        clear hf kn1 kn2 kn3
        go_enter Try.func25, Try.ntmps25
        go_wp2
        go_ret
        exact ⟨rfl, rfl⟩
    · skip
      rcases (show k = 1 ∨ k = 2 ∨ k = 3 ∨ (k ≠ 1 ∧ k ≠ 2 ∧ k ≠ 3) by omega) with rfl | rfl | rfl | ⟨kn1, kn2, kn3⟩
      · skip
        by_cases he : d.size = 0
        · skip
          have hf : reqOk 1 a c d = true := reqOk_iff.2 (by unfold ReqP; omega)
          have q1 : decide (1 ≤ c) = true := decide_eq_true c1
          have q2 : decide (c < 1) = false := decide_eq_false (by omega)
          have q4 : decide (c ≤ 4) = true := decide_eq_true c2
          have q5 : decide (4 < c) = false := decide_eq_false (by omega)
          have z1 := emptyT he
          rw [hf]
          clear hf he
          go_enter Try.func25, Try.ntmps25
          go_wp2
          go_ret
          exact ⟨rfl, rfl⟩
        · skip
          have hf : reqOk 1 a c d = false := reqOk_no (by unfold ReqP; omega)
          have q1 : decide (1 ≤ c) = true := decide_eq_true c1
          have q2 : decide (c < 1) = false := decide_eq_false (by omega)
          have q4 : decide (c ≤ 4) = true := decide_eq_true c2
          have q5 : decide (4 < c) = false := decide_eq_false (by omega)
          have z1 := notEmpty (s := d) (by omega)
          rw [hf]
          clear hf he
          go_enter Try.func25, Try.ntmps25
          go_wp2
          go_ret
          exact ⟨rfl, rfl⟩
      · skip
        by_cases he : (d.size : Int) = 16 * c
        · skip
          have hf : reqOk 2 a c d = true := reqOk_iff.2 (by unfold ReqP; omega)
          have q1 : decide (1 ≤ c) = true := decide_eq_true c1
          have q2 : decide (c < 1) = false := decide_eq_false (by omega)
          have q4 : decide (c ≤ 4) = true := decide_eq_true c2
          have q5 : decide (4 < c) = false := decide_eq_false (by omega)
          have z1 : ((d.size : Int) == c * 16) = true := by rw [beq_iff_eq]; omega
          have z2 : ((d.size : Int) == 16 * c) = true := by rw [beq_iff_eq]; omega
          rw [hf]
          clear hf he
          go_enter Try.func25, Try.ntmps25
          go_wp2
          go_ret
          exact ⟨rfl, rfl⟩
        · skip
          have hf : reqOk 2 a c d = false := reqOk_no (by unfold ReqP; omega)
          have q1 : decide (1 ≤ c) = true := decide_eq_true c1
          have q2 : decide (c < 1) = false := decide_eq_false (by omega)
          have q4 : decide (c ≤ 4) = true := decide_eq_true c2
          have q5 : decide (4 < c) = false := decide_eq_false (by omega)
          have z1 : ((d.size : Int) == c * 16) = false := by rw [beq_eq_false_iff_ne]; omega
          have z2 : ((d.size : Int) == 16 * c) = false := by rw [beq_eq_false_iff_ne]; omega
          rw [hf]
          clear hf he
          go_enter Try.func25, Try.ntmps25
          go_wp2
          go_ret
          exact ⟨rfl, rfl⟩
      · skip
        by_cases he : d.size = 0
        · have z1 := emptyT he
          by_cases hc1 : c = 1
          · have q3 : (c == 1) = true := by rw [beq_iff_eq]; exact hc1
            have hf : reqOk 3 a c d = true := reqOk_iff.2 (by unfold ReqP; omega)
            have q1 : decide (1 ≤ c) = true := decide_eq_true c1
            have q2 : decide (c < 1) = false := decide_eq_false (by omega)
            have q4 : decide (c ≤ 4) = true := decide_eq_true c2
            have q5 : decide (4 < c) = false := decide_eq_false (by omega)
            rw [hf]
            clear hf he hc1
            go_enter Try.func25, Try.ntmps25
            go_wp2
            go_ret
            exact ⟨rfl, rfl⟩
          · have q3 : (c == 1) = false := by rw [beq_eq_false_iff_ne]; exact hc1
            have hf : reqOk 3 a c d = false := reqOk_no (by unfold ReqP; omega)
            have q1 : decide (1 ≤ c) = true := decide_eq_true c1
            have q2 : decide (c < 1) = false := decide_eq_false (by omega)
            have q4 : decide (c ≤ 4) = true := decide_eq_true c2
            have q5 : decide (4 < c) = false := decide_eq_false (by omega)
            rw [hf]
            clear hf he hc1
            go_enter Try.func25, Try.ntmps25
            go_wp2
            go_ret
            exact ⟨rfl, rfl⟩
        · have z1 := notEmpty (s := d) (by omega)
          by_cases hc1 : c = 1
          · have q3 : (c == 1) = true := by rw [beq_iff_eq]; exact hc1
            have hf : reqOk 3 a c d = false := reqOk_no (by unfold ReqP; omega)
            have q1 : decide (1 ≤ c) = true := decide_eq_true c1
            have q2 : decide (c < 1) = false := decide_eq_false (by omega)
            have q4 : decide (c ≤ 4) = true := decide_eq_true c2
            have q5 : decide (4 < c) = false := decide_eq_false (by omega)
            rw [hf]
            clear hf he hc1
            go_enter Try.func25, Try.ntmps25
            go_wp2
            go_ret
            exact ⟨rfl, rfl⟩
          · have q3 : (c == 1) = false := by rw [beq_eq_false_iff_ne]; exact hc1
            have hf : reqOk 3 a c d = false := reqOk_no (by unfold ReqP; omega)
            have q1 : decide (1 ≤ c) = true := decide_eq_true c1
            have q2 : decide (c < 1) = false := decide_eq_false (by omega)
            have q4 : decide (c ≤ 4) = true := decide_eq_true c2
            have q5 : decide (4 < c) = false := decide_eq_false (by omega)
            rw [hf]
            clear hf he hc1
            go_enter Try.func25, Try.ntmps25
            go_wp2
            go_ret
            exact ⟨rfl, rfl⟩
      · skip
        have k1 : (k == 1) = false := by rw [beq_eq_false_iff_ne]; exact kn1
        have k2 : (k == 2) = false := by rw [beq_eq_false_iff_ne]; exact kn2
        have k3 : (k == 3) = false := by rw [beq_eq_false_iff_ne]; exact kn3
        have hf : reqOk k a c d = false := reqOk_no (by unfold ReqP; omega)
        rw [hf]
        clear hf kn1 kn2 kn3
        go_enter Try.func25, Try.ntmps25
        go_wp2
        go_ret
        exact ⟨rfl, rfl⟩

set_option maxHeartbeats 2000000 in
theorem rright20_calls (k a c : Int) (d : ByteArray) (w : World) (hd : d.size ≤ 140737488351232) :
    Calls Try.prog 28 #[.int .i64 k, .int .i64 a, .int .i64 c, .string d] w fun e w' => e = .returned (.bool (reqOk k a c d)) ∧ w = w' := by
  rcases (show a < 0 ∨ 1099511627776 < a ∨ (0 ≤ a ∧ a ≤ 1099511627776) by omega) with h | h | ⟨a1, a2⟩
  · have ha : decide (a < 0) = true := decide_eq_true h
    have hf : reqOk k a c d = false := reqOk_no (by unfold ReqP; omega)
    rw [hf]
    clear hf
    go_enter Try.func28, Try.ntmps28
    go_wp2
    go_ret
    exact ⟨rfl, rfl⟩
  · have ha : decide (1099511627776 < a) = true := decide_eq_true h
    have hf : reqOk k a c d = false := reqOk_no (by unfold ReqP; omega)
    have h0 : decide (a < 0) = false := decide_eq_false (by omega)
    rw [hf]
    clear hf
    go_enter Try.func28, Try.ntmps28
    go_wp2
    go_ret
    exact ⟨rfl, rfl⟩
  · have h0 : decide (a < 0) = false := decide_eq_false (by omega)
    have h1 : decide (1099511627776 < a) = false := decide_eq_false (by omega)
    rcases (show c < 1 ∨ 4 < c ∨ (1 ≤ c ∧ c ≤ 4) by omega) with hc | hc | ⟨c1, c2⟩
    · skip
      rcases (show k = 1 ∨ k = 2 ∨ k = 3 ∨ (k ≠ 1 ∧ k ≠ 2 ∧ k ≠ 3) by omega) with rfl | rfl | rfl | ⟨kn1, kn2, kn3⟩
      · skip
        have hf : reqOk 1 a c d = false := reqOk_no (by unfold ReqP; omega)
        have q1 : decide (1 ≤ c) = false := decide_eq_false (by omega)
        have q2 : decide (c < 1) = true := decide_eq_true hc
        have q3 : (c == 1) = false := by rw [beq_eq_false_iff_ne]; omega
        rw [hf]
        clear hf
        go_enter Try.func28, Try.ntmps28
        go_wp2
        go_ret
        exact ⟨rfl, rfl⟩
      · skip
        have hf : reqOk 2 a c d = false := reqOk_no (by unfold ReqP; omega)
        have q1 : decide (1 ≤ c) = false := decide_eq_false (by omega)
        have q2 : decide (c < 1) = true := decide_eq_true hc
        have q3 : (c == 1) = false := by rw [beq_eq_false_iff_ne]; omega
        rw [hf]
        clear hf
        go_enter Try.func28, Try.ntmps28
        go_wp2
        go_ret
        exact ⟨rfl, rfl⟩
      · skip
        have hf : reqOk 3 a c d = false := reqOk_no (by unfold ReqP; omega)
        have q1 : decide (1 ≤ c) = false := decide_eq_false (by omega)
        have q2 : decide (c < 1) = true := decide_eq_true hc
        have q3 : (c == 1) = false := by rw [beq_eq_false_iff_ne]; omega
        rw [hf]
        clear hf
        go_enter Try.func28, Try.ntmps28
        go_wp2
        go_ret
        exact ⟨rfl, rfl⟩
      · skip
        have k1 : (k == 1) = false := by rw [beq_eq_false_iff_ne]; exact kn1
        have k2 : (k == 2) = false := by rw [beq_eq_false_iff_ne]; exact kn2
        have k3 : (k == 3) = false := by rw [beq_eq_false_iff_ne]; exact kn3
        have hf : reqOk k a c d = false := reqOk_no (by unfold ReqP; omega)
        rw [hf]
        clear hf kn1 kn2 kn3
        go_enter Try.func28, Try.ntmps28
        go_wp2
        go_ret
        exact ⟨rfl, rfl⟩
    · skip
      rcases (show k = 1 ∨ k = 2 ∨ k = 3 ∨ (k ≠ 1 ∧ k ≠ 2 ∧ k ≠ 3) by omega) with rfl | rfl | rfl | ⟨kn1, kn2, kn3⟩
      · skip
        have hf : reqOk 1 a c d = false := reqOk_no (by unfold ReqP; omega)
        have q1 : decide (1 ≤ c) = true := decide_eq_true (by omega)
        have q2 : decide (c < 1) = false := decide_eq_false (by omega)
        have q3 : (c == 1) = false := by rw [beq_eq_false_iff_ne]; omega
        have q4 : decide (c ≤ 4) = false := decide_eq_false (by omega)
        have q5 : decide (4 < c) = true := decide_eq_true hc
        rw [hf]
        clear hf
        go_enter Try.func28, Try.ntmps28
        go_wp2
        go_ret
        exact ⟨rfl, rfl⟩
      · skip
        have hf : reqOk 2 a c d = false := reqOk_no (by unfold ReqP; omega)
        have q1 : decide (1 ≤ c) = true := decide_eq_true (by omega)
        have q2 : decide (c < 1) = false := decide_eq_false (by omega)
        have q3 : (c == 1) = false := by rw [beq_eq_false_iff_ne]; omega
        have q4 : decide (c ≤ 4) = false := decide_eq_false (by omega)
        have q5 : decide (4 < c) = true := decide_eq_true hc
        rw [hf]
        clear hf
        go_enter Try.func28, Try.ntmps28
        go_wp2
        go_ret
        exact ⟨rfl, rfl⟩
      · skip
        have hf : reqOk 3 a c d = false := reqOk_no (by unfold ReqP; omega)
        have q1 : decide (1 ≤ c) = true := decide_eq_true (by omega)
        have q2 : decide (c < 1) = false := decide_eq_false (by omega)
        have q3 : (c == 1) = false := by rw [beq_eq_false_iff_ne]; omega
        have q4 : decide (c ≤ 4) = false := decide_eq_false (by omega)
        have q5 : decide (4 < c) = true := decide_eq_true hc
        rw [hf]
        clear hf
        go_enter Try.func28, Try.ntmps28
        go_wp2
        go_ret
        exact ⟨rfl, rfl⟩
      · skip
        have k1 : (k == 1) = false := by rw [beq_eq_false_iff_ne]; exact kn1
        have k2 : (k == 2) = false := by rw [beq_eq_false_iff_ne]; exact kn2
        have k3 : (k == 3) = false := by rw [beq_eq_false_iff_ne]; exact kn3
        have hf : reqOk k a c d = false := reqOk_no (by unfold ReqP; omega)
        rw [hf]
        clear hf kn1 kn2 kn3
        go_enter Try.func28, Try.ntmps28
        go_wp2
        go_ret
        exact ⟨rfl, rfl⟩
    · skip
      rcases (show k = 1 ∨ k = 2 ∨ k = 3 ∨ (k ≠ 1 ∧ k ≠ 2 ∧ k ≠ 3) by omega) with rfl | rfl | rfl | ⟨kn1, kn2, kn3⟩
      · skip
        by_cases he : d.size = 0
        · skip
          have hf : reqOk 1 a c d = true := reqOk_iff.2 (by unfold ReqP; omega)
          have q1 : decide (1 ≤ c) = true := decide_eq_true c1
          have q2 : decide (c < 1) = false := decide_eq_false (by omega)
          have q4 : decide (c ≤ 4) = true := decide_eq_true c2
          have q5 : decide (4 < c) = false := decide_eq_false (by omega)
          have z1 := emptyT he
          rw [hf]
          clear hf he
          go_enter Try.func28, Try.ntmps28
          go_wp2
          go_ret
          exact ⟨rfl, rfl⟩
        · skip
          have hf : reqOk 1 a c d = false := reqOk_no (by unfold ReqP; omega)
          have q1 : decide (1 ≤ c) = true := decide_eq_true c1
          have q2 : decide (c < 1) = false := decide_eq_false (by omega)
          have q4 : decide (c ≤ 4) = true := decide_eq_true c2
          have q5 : decide (4 < c) = false := decide_eq_false (by omega)
          have z1 := notEmpty (s := d) (by omega)
          rw [hf]
          clear hf he
          go_enter Try.func28, Try.ntmps28
          go_wp2
          go_ret
          exact ⟨rfl, rfl⟩
      · skip
        by_cases he : (d.size : Int) = 16 * c
        · skip
          have hf : reqOk 2 a c d = true := reqOk_iff.2 (by unfold ReqP; omega)
          have q1 : decide (1 ≤ c) = true := decide_eq_true c1
          have q2 : decide (c < 1) = false := decide_eq_false (by omega)
          have q4 : decide (c ≤ 4) = true := decide_eq_true c2
          have q5 : decide (4 < c) = false := decide_eq_false (by omega)
          have z1 : ((d.size : Int) == c * 16) = true := by rw [beq_iff_eq]; omega
          have z2 : ((d.size : Int) == 16 * c) = true := by rw [beq_iff_eq]; omega
          rw [hf]
          clear hf he
          go_enter Try.func28, Try.ntmps28
          go_wp2
          go_ret
          exact ⟨rfl, rfl⟩
        · skip
          have hf : reqOk 2 a c d = false := reqOk_no (by unfold ReqP; omega)
          have q1 : decide (1 ≤ c) = true := decide_eq_true c1
          have q2 : decide (c < 1) = false := decide_eq_false (by omega)
          have q4 : decide (c ≤ 4) = true := decide_eq_true c2
          have q5 : decide (4 < c) = false := decide_eq_false (by omega)
          have z1 : ((d.size : Int) == c * 16) = false := by rw [beq_eq_false_iff_ne]; omega
          have z2 : ((d.size : Int) == 16 * c) = false := by rw [beq_eq_false_iff_ne]; omega
          rw [hf]
          clear hf he
          go_enter Try.func28, Try.ntmps28
          go_wp2
          go_ret
          exact ⟨rfl, rfl⟩
      · skip
        by_cases he : d.size = 0
        · have z1 := emptyT he
          by_cases hc1 : c = 1
          · have q3 : (c == 1) = true := by rw [beq_iff_eq]; exact hc1
            have hf : reqOk 3 a c d = true := reqOk_iff.2 (by unfold ReqP; omega)
            have q1 : decide (1 ≤ c) = true := decide_eq_true c1
            have q2 : decide (c < 1) = false := decide_eq_false (by omega)
            have q4 : decide (c ≤ 4) = true := decide_eq_true c2
            have q5 : decide (4 < c) = false := decide_eq_false (by omega)
            rw [hf]
            clear hf he hc1
            go_enter Try.func28, Try.ntmps28
            go_wp2
            go_ret
            exact ⟨rfl, rfl⟩
          · have q3 : (c == 1) = false := by rw [beq_eq_false_iff_ne]; exact hc1
            have hf : reqOk 3 a c d = false := reqOk_no (by unfold ReqP; omega)
            have q1 : decide (1 ≤ c) = true := decide_eq_true c1
            have q2 : decide (c < 1) = false := decide_eq_false (by omega)
            have q4 : decide (c ≤ 4) = true := decide_eq_true c2
            have q5 : decide (4 < c) = false := decide_eq_false (by omega)
            rw [hf]
            clear hf he hc1
            go_enter Try.func28, Try.ntmps28
            go_wp2
            go_ret
            exact ⟨rfl, rfl⟩
        · have z1 := notEmpty (s := d) (by omega)
          by_cases hc1 : c = 1
          · have q3 : (c == 1) = true := by rw [beq_iff_eq]; exact hc1
            have hf : reqOk 3 a c d = false := reqOk_no (by unfold ReqP; omega)
            have q1 : decide (1 ≤ c) = true := decide_eq_true c1
            have q2 : decide (c < 1) = false := decide_eq_false (by omega)
            have q4 : decide (c ≤ 4) = true := decide_eq_true c2
            have q5 : decide (4 < c) = false := decide_eq_false (by omega)
            rw [hf]
            clear hf he hc1
            go_enter Try.func28, Try.ntmps28
            go_wp2
            go_ret
            exact ⟨rfl, rfl⟩
          · have q3 : (c == 1) = false := by rw [beq_eq_false_iff_ne]; exact hc1
            have hf : reqOk 3 a c d = false := reqOk_no (by unfold ReqP; omega)
            have q1 : decide (1 ≤ c) = true := decide_eq_true c1
            have q2 : decide (c < 1) = false := decide_eq_false (by omega)
            have q4 : decide (c ≤ 4) = true := decide_eq_true c2
            have q5 : decide (4 < c) = false := decide_eq_false (by omega)
            rw [hf]
            clear hf he hc1
            go_enter Try.func28, Try.ntmps28
            go_wp2
            go_ret
            exact ⟨rfl, rfl⟩
      · skip
        have k1 : (k == 1) = false := by rw [beq_eq_false_iff_ne]; exact kn1
        have k2 : (k == 2) = false := by rw [beq_eq_false_iff_ne]; exact kn2
        have k3 : (k == 3) = false := by rw [beq_eq_false_iff_ne]; exact kn3
        have hf : reqOk k a c d = false := reqOk_no (by unfold ReqP; omega)
        rw [hf]
        clear hf kn1 kn2 kn3
        go_enter Try.func28, Try.ntmps28
        go_wp2
        go_ret
        exact ⟨rfl, rfl⟩

end Go.Proofs.Ytekjhhiamboffaa
