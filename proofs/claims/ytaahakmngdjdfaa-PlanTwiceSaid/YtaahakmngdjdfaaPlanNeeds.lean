/-
  PlanNeeds: a block is written by two nodes at most and read by all but one: for any raw geometry and numbers.
-/
import Derived.Test.YtaahakmngdjdfaaAwake06
import Derived.Test.YtaahakmngdjdfaaPick06
namespace Go.Proofs.Ytaahakmngdjdfaa
open Go.RowKit

theorem fit_n (a0 b0 : Int) (w : World) (ha1 : -9223372036854775808 ≤ a0) (ha2 : a0 ≤ 9223372036854775807) (hb1 : -9223372036854775808 ≤ b0) (hb2 : b0 ≤ 9223372036854775807) :
    Calls Try.prog 10 #[.agg #[.int .i64 a0, .int .i64 b0]] w fun e w' => ∃ N S : Nat, 3 ≤ N ∧ N ≤ 6 ∧ 1 ≤ S ∧ S ≤ 8 ∧ e = .returned (.agg #[.int .i64 N, .int .i64 S]) ∧ Below w.heap.size w w' := by
  refine (fit_calls a0 b0 w ha1 ha2 hb1 hb2).mono ?_
  rintro e w' ⟨N, S, n1, n2, s1, s2, rfl, hk⟩
  obtain ⟨N', rfl⟩ := Int.eq_ofNat_of_zero_le (show 0 ≤ N by omega)
  obtain ⟨S', rfl⟩ := Int.eq_ofNat_of_zero_le (show 0 ≤ S by omega)
  exact ⟨N', S', by omega, by omega, by omega, by omega, rfl, hk⟩

theorem othersL_len {n : Nat} {c : Int} (h1 : n ≤ 6) (c1 : 0 ≤ c) (c2 : c < n) : (othersL n c).length = n - 1 := by
  rcases (show n = 0 ∨ n = 1 ∨ n = 2 ∨ n = 3 ∨ n = 4 ∨ n = 5 ∨ n = 6 by omega) with rfl | rfl | rfl | rfl | rfl | rfl | rfl <;>
    rcases (show c = 0 ∨ c = 1 ∨ c = 2 ∨ c = 3 ∨ c = 4 ∨ c = 5 by omega) with rfl | rfl | rfl | rfl | rfl | rfl <;> first | rfl | (exfalso; omega)
theorem needs_law {N : Nat} {c o : Int} (n1 : 3 ≤ N) (n2 : N ≤ 6) (c1 : 0 ≤ c) (c2 : c < (N : Int) - 1) :
    (updW N c o).any (· == (N : Int) - 1) = (o != (N : Int) - 1) ∧ (updW N c o).any (· == c) = (o != c) ∧ 1 ≤ (updW N c o).length ∧ (updW N c o).length ≤ 2 ∧
      1 ≤ (fetchR N c o).length ∧ (fetchR N c o).length < N ∧ (updR N c o).length < N ∧ (o = -1 → (fetchR N c o).length = 1 ∧ (fetchB N c o).length = 1) ∧ (o ≠ -1 → (fetchB N c o).length = 0) := by
  have e1 := othersL_len (n := N) (c := c) n2 c1 (by omega)
  have e2 := othersL_len (n := N - 1) (c := c) (by omega) c1 (by omega)
  have hcn : (c == (N : Int) - 1) = false := by rw [beq_eq_false_iff_ne]; omega
  have hnc : ((N : Int) - 1 == c) = false := by rw [beq_eq_false_iff_ne]; omega
  unfold updW updR fetchR fetchB
  rcases (show o = (N : Int) - 1 ∨ (o ≠ (N : Int) - 1 ∧ o = c) ∨ (o ≠ (N : Int) - 1 ∧ o ≠ c) by omega) with g | ⟨g, g2⟩ | ⟨g, g2⟩
  · have g3 : o ≠ c := by omega
    have g4 : o ≠ -1 := by omega
    simp only [if_pos g, if_neg g3, if_neg g4]
    simp [g, hcn]
    omega
  · have g4 : o ≠ -1 := by omega
    simp only [if_neg g, if_pos g2, if_neg g4, e1, e2]
    simp [g2, hnc]
    omega
  · simp only [if_neg g, if_neg g2]
    by_cases g4 : o = -1
    · simp only [if_pos g4]
      simp [g, g2, hcn, hnc]
      omega
    · simp only [if_neg g4]
      simp [g, g2, g4, hcn, hnc]
      omega

set_option maxRecDepth 100000 in
set_option maxHeartbeats 4000000 in
theorem planNeeds_walk (a0 b0 : Int) (p q : Int) (w : World) (ha1 : -9223372036854775808 ≤ a0) (ha2 : a0 ≤ 9223372036854775807) (hb1 : -9223372036854775808 ≤ b0) (hb2 : b0 ≤ 9223372036854775807)
    (p1 : -9223372036854775808 ≤ p) (p2 : p ≤ 9223372036854775807) (q1 : -9223372036854775808 ≤ q) (q2 : q ≤ 9223372036854775807) :
    Calls Try.prog 4 #[.agg #[.int .i64 a0, .int .i64 b0], .int .i64 p, .int .i64 q] w fun e w' => e = .returned (.bool true) ∧ Below w.heap.size w w' := by
  go_enter Try.func4, Try.ntmps4
  go_wp2_with (first
    | (go_at_call 9; refine (awake06_calls _).mono ?_; rintro e w1 ⟨rfl, hk⟩; have hR : Below (w.alloc (geoBox a0 b0)).heap.size (w.alloc (geoBox a0 b0)) w1 := hk; have r0 := geo0 hR; have r1 := geo1 hR; clear hk)
    | (go_at_call 10; (refine (fit_n a0 b0 _ ha1 ha2 hb1 hb2).mono ?_); rintro e w2 ⟨N, S, n1, n2, s1, s2, rfl, hk⟩; replace hR := bel_call hR hk; have hG : Below (w2.alloc (geoBox N S)).heap.size (w2.alloc (geoBox N S)) (w2.alloc (geoBox N S)) := Below.refl _ _; clear hk)
    | (go_at_call_of 12 (Value.int .i64 p); (refine (pick06_int p _ _ p1 p2 (by omega) (by omega)).mono ?_); rintro e w' ⟨c, hc1, hc2, rfl, rfl⟩)
    | (go_at_call_of 12 (Value.int .i64 q); (refine (pick06_int q _ _ q1 q2 (by omega) (by omega)).mono ?_); rintro e w' ⟨o, ho1, ho2, rfl, rfl⟩)
    | (go_at_call 15; refine (fetch_yes N S c (o - 1) _ n1 n2 (by omega) (by omega) hc1 hc2 (by omega) (by omega)).mono ?_; rintro e w3 ⟨A1, A2, c1, c2, rfl, f1, f2, hk⟩; replace hG := bel_call hG hk; have g2 := geo0 hG; have g3 := geo1 hG; clear hk)
    | (go_at_call 16; refine (update_yes N S c (o - 1) _ n1 n2 (by omega) (by omega) hc1 hc2 (by omega) (by omega)).mono ?_; rintro e w4 ⟨A3, A4, c3, c4, rfl, u1, u2, hk⟩; replace hG := bel_call hG hk; clear hk))
  obtain ⟨W, hW⟩ : ∃ W, W = updW N c (o - 1) := ⟨_, rfl⟩
  rw [← hW] at u2 ⊢
  have hWl : W.length ≤ 2 := by rw [hW]; unfold updW; split; (· simp); split <;> simp
  have HW := Lib.hid hW
  have HR := Lib.hid hR
  clear hW hR
  go_loopw [15, 16, 17] (fun pv ov i wr => ∃ j : Nat, j ≤ W.length ∧ i = .int .i64 j ∧ pv = .bool ((W.take j).any (· == (N : Int) - 1)) ∧ ov = .bool ((W.take j).any (· == c)) ∧ Rd wr wr.heap.size A4 (intCells W) ∧ Below (w2.alloc (geoBox N S)).heap.size (w2.alloc (geoBox N S)) wr) (fun _ _ i _ => W.length - (intOf i).toNat)
  case atStart => exact ⟨0, Nat.zero_le _, rfl, rfl, rfl, u2, hG⟩
  case round =>
    clear hG u2
    obtain ⟨j, hj, rfl, rfl, rfl, u2, hG⟩ := hrel
    have g2 := geo0 hG
    have g3 := geo1 hG
    by_cases hlt : j < W.length
    · obtain ⟨b, off, rfl, hbB, hc⟩ := u2.at_ (intCells_at hlt)
      obtain ⟨x, hx⟩ : ∃ x, x = W[j] := ⟨_, rfl⟩
      rw [← hx] at hc
      have hP : (W.take (j + 1)).any (· == (N : Int) - 1) = ((W.take j).any (· == (N : Int) - 1) || (x == (N : Int) - 1)) := by
        rw [List.take_succ_eq_append_getElem hlt, List.any_append, hx]; simp
      have hO : (W.take (j + 1)).any (· == c) = ((W.take j).any (· == c) || (x == c)) := by
        rw [List.take_succ_eq_append_getElem hlt, List.any_append, hx]; simp
      have HP := Lib.hid hP
      have HO := Lib.hid hO
      have hjw : (j : Int) < (W.length : Int) := by omega
      clear hx hP hO
      cases hp : (W.take j).any (· == (N : Int) - 1) <;> cases ho : (W.take j).any (· == c)
      all_goals
        have HP2 := Lib.hid hp
        have HO2 := Lib.hid ho
        clear hp ho
        go_wp2
        go_quiet (fail)
        go_wp2
        go_roundw
        case rel => exact ⟨j + 1, by omega, by go_num, by rw [HP.out, HP2.out]; simp, by rw [HO.out, HO2.out]; simp, u2, below_drewN hG nq⟩
        case measure => simp [intOf]; omega
    · have hj2 : decide (j < W.length) = false := decide_eq_false hlt
      have htk : W.take j = W := List.take_of_length_le (by omega)
      have hlaw := needs_law (o := o - 1) n1 n2 hc1 hc2
      rw [← HW.out] at hlaw
      obtain ⟨l1, l2, l3, l4, l5, l6, l7, l8, l9⟩ := hlaw
      obtain ⟨rl, hrl⟩ : ∃ t, t = (fetchR N c (o - 1)).length := ⟨_, rfl⟩
      obtain ⟨bl, hbl⟩ : ∃ t, t = (fetchB N c (o - 1)).length := ⟨_, rfl⟩
      obtain ⟨ql, hql⟩ : ∃ t, t = (updR N c (o - 1)).length := ⟨_, rfl⟩
      rw [htk, l1, l2, ← hrl, ← hbl, ← hql]
      rw [← hrl] at l5 l6 l8
      rw [← hbl] at l8 l9
      rw [← hql] at l7
      have HRR := HR.out
      obtain ⟨t, ht⟩ : ∃ t, t = o - 1 := ⟨_, rfl⟩
      rw [← ht]
      rw [← ht] at l8 l9
      have i3 : (1 : Int) ≤ (W.length : Int) := by omega
      have i4 : (W.length : Int) ≤ 2 := by omega
      have i5 : (1 : Int) ≤ (rl : Int) := by omega
      have i6 : (rl : Int) < (N : Int) := by omega
      have i7 : (ql : Int) < (N : Int) := by omega
      have i8 : (1 : Int) < (N : Int) := by omega
      clear ht hrl hbl hql htk l1 l2 HW HR f1 f2 u1 u2 hlt ho1 ho2 hWl l3 l4 l5 l6 l7
      by_cases ho0 : t = -1
      · obtain ⟨m1, m2⟩ := l8 ho0
        subst m1 m2
        have k1 : (t != -1) = false := by rw [ho0]; rfl
        have k2 : (t == -1) = true := by rw [ho0]; rfl
        clear l8 l9 ho0
        go_wp2
        go_ret
        exact ⟨by rfl, bel_call (geo_below HRR) (geo_below hG)⟩
      · have m2 := l9 ho0
        subst m2
        have k1 : (t != -1) = true := by rw [bne_iff_ne]; exact ho0
        have k2 : (t == -1) = false := by rw [beq_eq_false_iff_ne]; exact ho0
        clear l8 l9 ho0
        go_wp2
        go_ret
        exact ⟨by rfl, bel_call (geo_below HRR) (geo_below hG)⟩
end Go.Proofs.Ytaahakmngdjdfaa
