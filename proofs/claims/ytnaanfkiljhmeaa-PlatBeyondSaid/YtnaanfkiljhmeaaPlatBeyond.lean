/-
  PlatBeyond: what a geometry does not have is told by nothing: for any raw geometry and number. No condition.
-/
import Derived.Test.YtnaanfkiljhmeaaFit05
namespace Go.Proofs.Ytnaanfkiljhmeaa
open Go.RowKit

theorem block_b (N S s c : Int) (bb : Bool) (w : World) (h : bearsZ N S s c = bb) :
    Calls Try.prog 18 #[.agg #[.int .i64 N, .int .i64 S], .int .i64 s, .int .i64 c] w fun e w' => e = .returned (.tuple #[.int .i64 (blockV N S s c), .bool bb]) ∧ Below w.heap.size w w' := by
  subst h
  exact block_calls N S s c w
theorem node_sign (N S s c : Int) : (hasZ N S s c = true ∧ 0 ≤ nodeZ N S s c) ∨ (hasZ N S s c = false ∧ nodeZ N S s c = -1) := by
  cases h : hasZ N S s c with
  | true =>
    obtain ⟨⟨h1, h2, h3, h4⟩, s1, s2, n1, n2⟩ := has_iff.1 h
    refine Or.inl ⟨rfl, ?_⟩
    unfold nodeZ
    rw [if_pos h]
    exact Int.emod_nonneg _ (by omega)
  | false => exact Or.inr ⟨rfl, by unfold nodeZ; rw [if_neg (by rw [h]; simp)]⟩
theorem col_sign (N S s c : Int) : (hasZ N S s c = true ∧ 0 ≤ colZ N S s c) ∨ (hasZ N S s c = false ∧ colZ N S s c = -1) := by
  cases h : hasZ N S s c with
  | true =>
    obtain ⟨⟨h1, h2, h3, h4⟩, s1, s2, n1, n2⟩ := has_iff.1 h
    refine Or.inl ⟨rfl, ?_⟩
    unfold colZ
    rw [if_pos h]
    exact Int.emod_nonneg _ (by omega)
  | false => exact Or.inr ⟨rfl, by unfold colZ; rw [if_neg (by rw [h]; simp)]⟩
theorem node_s (N S s c : Int) (bb : Bool) (w : World) (h : hasZ N S s c = bb) :
    Calls Try.prog 14 #[.agg #[.int .i64 N, .int .i64 S], .int .i64 s, .int .i64 c] w fun e w' => ∃ v : Int, e = .returned (.int .i64 v) ∧ decide (0 ≤ v) = bb ∧ Below w.heap.size w w' := by
  refine (node_calls N S s c w).mono ?_
  rintro e w' ⟨rfl, hk⟩
  refine ⟨_, rfl, ?_, hk⟩
  rcases node_sign N S s c with ⟨h1, h2⟩ | ⟨h1, h2⟩
  · rw [← h, h1]; exact decide_eq_true h2
  · rw [← h, h1, h2]; rfl
theorem col_s (N S s c : Int) (bb : Bool) (w : World) (h : hasZ N S s c = bb) :
    Calls Try.prog 19 #[.agg #[.int .i64 N, .int .i64 S], .int .i64 s, .int .i64 c] w fun e w' => ∃ v : Int, e = .returned (.int .i64 v) ∧ decide (0 ≤ v) = bb ∧ Below w.heap.size w w' := by
  refine (col_calls N S s c w).mono ?_
  rintro e w' ⟨rfl, hk⟩
  refine ⟨_, rfl, ?_, hk⟩
  rcases col_sign N S s c with ⟨h1, h2⟩ | ⟨h1, h2⟩
  · rw [← h, h1]; exact decide_eq_true h2
  · rw [← h, h1, h2]; rfl
theorem of_s (N S b : Int) (w : World) (h : inZ N S b = true) :
    Calls Try.prog 17 #[.agg #[.int .i64 N, .int .i64 S], .int .i64 b] w fun e w' => ∃ q r d : Int, e = .returned (.tuple #[.agg #[.int .i64 q, .int .i64 r, .int .i64 d], .int .i64 0]) ∧ Below w.heap.size w w' := by
  obtain ⟨⟨h1, h2, h3, h4⟩, b1, b2⟩ := in_iff.1 h
  refine (of_yes N S b w h1 h2 h3 h4 b1 b2).mono ?_
  rintro e w' ⟨rfl, hk⟩
  exact ⟨_, _, _, rfl, hk⟩

/-- what the geometry has at n: the block, the stripe, the node, the column of a block -/
theorem beyond_facts {N S n : Int} (n1 : 3 ≤ N) (n2 : N ≤ 6) (s1 : 1 ≤ S) (s2 : S ≤ 8) :
    (inZ N S n = true ↔ 0 ≤ n ∧ n < S * (N - 1)) ∧ (hasZ N S n 0 = true ↔ 0 ≤ n ∧ n < S) ∧ (hasZ N S 0 n = true ↔ 0 ≤ n ∧ n < N) ∧ (bearsZ N S n 0 = true ↔ 0 ≤ n ∧ n < S) ∧ (bearsZ N S 0 n = true ↔ 0 ≤ n ∧ n < N - 1) := by
  refine ⟨?_, ?_, ?_, ?_, ?_⟩
  · rw [in_iff]; exact ⟨fun h => h.2, fun h => ⟨⟨n1, n2, s1, s2⟩, h⟩⟩
  · rw [has_iff]; omega
  · rw [has_iff]; omega
  · rw [bears_iff, has_iff]; omega
  · rw [bears_iff, has_iff]; omega
theorem beyond_cases {N S n : Int} (n1 : 3 ≤ N) (n2 : N ≤ 6) (s1 : 1 ≤ S) (s2 : S ≤ 8) :
    n < 0 ∨ (0 ≤ n ∧ n < S * (N - 1) ∧ n < S ∧ n < N - 1) ∨ (0 ≤ n ∧ n < S * (N - 1) ∧ n < S ∧ n = N - 1) ∨ (0 ≤ n ∧ n < S * (N - 1) ∧ n < S ∧ N ≤ n) ∨
      (0 ≤ n ∧ n < S * (N - 1) ∧ S ≤ n ∧ n < N - 1) ∨ (0 ≤ n ∧ n < S * (N - 1) ∧ S ≤ n ∧ n = N - 1) ∨ (0 ≤ n ∧ n < S * (N - 1) ∧ S ≤ n ∧ N ≤ n) ∨
      (0 ≤ n ∧ S * (N - 1) ≤ n ∧ S ≤ n ∧ n = N - 1) ∨ (0 ≤ n ∧ S * (N - 1) ≤ n ∧ S ≤ n ∧ N ≤ n) := by
  rcases (show N = 3 ∨ N = 4 ∨ N = 5 ∨ N = 6 by omega) with rfl | rfl | rfl | rfl <;> omega
theorem bool_of {b : Bool} {p : Prop} (h : b = true ↔ p) (hp : ¬ p) : b = false := by
  cases b with
  | true => exact absurd (h.1 rfl) hp
  | false => rfl

set_option maxRecDepth 100000 in
set_option maxHeartbeats 4000000 in
theorem platBeyond_walk (a0 b0 : Int) (n : Int) (w : World) (ha1 : -9223372036854775808 ≤ a0) (ha2 : a0 ≤ 9223372036854775807) (hb1 : -9223372036854775808 ≤ b0) (hb2 : b0 ≤ 9223372036854775807)
    (x1 : -9223372036854775808 ≤ n) (x2 : n ≤ 9223372036854775807) :
    Calls Try.prog 10 #[.agg #[.int .i64 a0, .int .i64 b0], .int .i64 n] w fun e w' => e = .returned (.bool true) ∧ Below w.heap.size w w' := by
  go_enter Try.func10, Try.ntmps10
  go_wp2_with (first
    | (go_at_call 11; refine (awake05_calls _).mono ?_; rintro e w1 ⟨rfl, hk⟩; have hR : Below (w.alloc (geoBox a0 b0)).heap.size (w.alloc (geoBox a0 b0)) w1 := hk; have r0 := geo0 hR; have r1 := geo1 hR; clear hk)
    | (go_at_call 12; (refine (fit_calls a0 b0 _ ha1 ha2 hb1 hb2).mono ?_); rintro e w2 ⟨N, S, n1, n2, s1, s2, rfl, hk⟩; replace hR := bel_call hR hk; have hG : Below (w2.alloc (geoBox N S)).heap.size (w2.alloc (geoBox N S)) (w2.alloc (geoBox N S)) := Below.refl _ _; clear hk))
  obtain ⟨f1, f2, f3, f4, f5⟩ := beyond_facts (n := n) n1 n2 s1 s2
  rcases beyond_cases (n := n) n1 n2 s1 s2 with g1 | ⟨g1, g2, g3, g4⟩ | ⟨g1, g2, g3, g4⟩ | ⟨g1, g2, g3, g4⟩ | ⟨g1, g2, g3, g4⟩ | ⟨g1, g2, g3, g4⟩ | ⟨g1, g2, g3, g4⟩ | ⟨g1, g2, g3, g4⟩ | ⟨g1, g2, g3, g4⟩
  · have F1 := bool_of f1 (by omega)
    have F2 := bool_of f2 (by omega)
    have F3 := bool_of f3 (by omega)
    have F4 := bool_of f4 (by omega)
    have F5 := bool_of f5 (by omega)
    clear f1 f2 f3 f4 f5
    go_wp2_with (first
      | (go_at_call 17; (refine (of_no N S _ _ F1).mono ?_); rintro e w3 ⟨rfl, hk⟩; replace hG := bel_call hG hk; have hP : Below (w3.alloc (placeBox 0 0 0)).heap.size (w3.alloc (placeBox 0 0 0)) (w3.alloc (placeBox 0 0 0)) := Below.refl _ _; have p0 := pl0 hP; have p1 := pl1 hP; have p2 := pl2 hP; unfold placeBox at p0 p1 p2; replace hG := bel_alloc hG (placeBox 0 0 0); have c0 := geo0 hG; have c1 := geo1 hG; unfold placeBox at c0 c1; clear hk)
      | (go_at_call 18; (refine (block_b N S _ _ _ _ (by first | exact F4 | exact F5)).mono ?_); rintro e w5 ⟨rfl, hk⟩; replace hG := bel_call hG hk; have e0 := geo0 hG; have e1 := geo1 hG; clear hk)
      | (go_at_call 14; (refine (node_s N S _ _ _ _ (by first | exact F2 | exact F3)).mono ?_); rintro e w7 ⟨v1, rfl, hv1, hk⟩; replace hG := bel_call hG hk; have i0 := geo0 hG; have i1 := geo1 hG; clear hk)
      | (go_at_call 19; (refine (col_s N S _ _ _ _ (by first | exact F2 | exact F3)).mono ?_); rintro e w9 ⟨v3, rfl, hv3, hk⟩; replace hG := bel_call hG hk; have k0 := geo0 hG; have k1 := geo1 hG; clear hk))
    go_ret
    exact ⟨by rfl, bel_call (geo_below hR) (geo_below hG)⟩
  · have F1 := f1.2 (by omega)
    have F2 := f2.2 (by omega)
    have F3 := f3.2 (by omega)
    have F4 := f4.2 (by omega)
    have F5 := f5.2 (by omega)
    have q0 : 0 ≤ n := by omega
    have q1 : decide (n < S * (N - 1)) = true := decide_eq_true (by omega)
    have q2 : decide (n < S) = true := decide_eq_true (by omega)
    have q3 : decide (n < N) = true := decide_eq_true (by omega)
    clear f1 f2 f3 f4 f5
    have hp : (n != N - 1) = true := by rw [bne_iff_ne]; omega
    clear g1 g2 g3 g4
    go_wp2_with (first
      | (go_at_call 17; (refine (of_s N S _ _ F1).mono ?_); rintro e w3 ⟨q, r, d, rfl, hk⟩; replace hG := bel_call hG hk; replace hG := bel_alloc hG (placeBox q r d); have c0 := geo0 hG; have c1 := geo1 hG; unfold placeBox at c0 c1; clear hk)
      | (go_at_call 16; (refine (blocks_yes N S _ n1 n2 s1 s2).mono ?_); rintro e w4 ⟨rfl, hk⟩; replace hG := bel_call hG hk; have d0 := geo0 hG; have d1 := geo1 hG; clear hk)
      | (go_at_call 18; (refine (block_b N S _ _ _ _ (by first | exact F4 | exact F5)).mono ?_); rintro e w5 ⟨rfl, hk⟩; replace hG := bel_call hG hk; have e0 := geo0 hG; have e1 := geo1 hG; clear hk)
      | (go_at_call 14; (refine (node_s N S _ _ _ _ (by first | exact F2 | exact F3)).mono ?_); rintro e w7 ⟨v1, rfl, hv1, hk⟩; replace hG := bel_call hG hk; have i0 := geo0 hG; have i1 := geo1 hG; clear hk)
      | (go_at_call 19; (refine (col_s N S _ _ _ _ (by first | exact F2 | exact F3)).mono ?_); rintro e w9 ⟨v3, rfl, hv3, hk⟩; replace hG := bel_call hG hk; have k0 := geo0 hG; have k1 := geo1 hG; clear hk))
    go_ret
    exact ⟨by rfl, bel_call (geo_below hR) (geo_below hG)⟩
  · have F1 := f1.2 (by omega)
    have F2 := f2.2 (by omega)
    have F3 := f3.2 (by omega)
    have F4 := f4.2 (by omega)
    have F5 := bool_of f5 (by omega)
    have q0 : 0 ≤ n := by omega
    have q1 : decide (n < S * (N - 1)) = true := decide_eq_true (by omega)
    have q2 : decide (n < S) = true := decide_eq_true (by omega)
    have q3 : decide (n < N) = true := decide_eq_true (by omega)
    clear f1 f2 f3 f4 f5
    subst g4
    clear g1 g2 g3
    go_wp2_with (first
      | (go_at_call 17; (refine (of_s N S _ _ F1).mono ?_); rintro e w3 ⟨q, r, d, rfl, hk⟩; replace hG := bel_call hG hk; replace hG := bel_alloc hG (placeBox q r d); have c0 := geo0 hG; have c1 := geo1 hG; unfold placeBox at c0 c1; clear hk)
      | (go_at_call 16; (refine (blocks_yes N S _ n1 n2 s1 s2).mono ?_); rintro e w4 ⟨rfl, hk⟩; replace hG := bel_call hG hk; have d0 := geo0 hG; have d1 := geo1 hG; clear hk)
      | (go_at_call 18; (refine (block_b N S _ _ _ _ (by first | exact F4 | exact F5)).mono ?_); rintro e w5 ⟨rfl, hk⟩; replace hG := bel_call hG hk; have e0 := geo0 hG; have e1 := geo1 hG; clear hk)
      | (go_at_call 14; (refine (node_s N S _ _ _ _ (by first | exact F2 | exact F3)).mono ?_); rintro e w7 ⟨v1, rfl, hv1, hk⟩; replace hG := bel_call hG hk; have i0 := geo0 hG; have i1 := geo1 hG; clear hk)
      | (go_at_call 19; (refine (col_s N S _ _ _ _ (by first | exact F2 | exact F3)).mono ?_); rintro e w9 ⟨v3, rfl, hv3, hk⟩; replace hG := bel_call hG hk; have k0 := geo0 hG; have k1 := geo1 hG; clear hk))
    go_ret
    exact ⟨by rfl, bel_call (geo_below hR) (geo_below hG)⟩
  · have F1 := f1.2 (by omega)
    have F2 := f2.2 (by omega)
    have F3 := bool_of f3 (by omega)
    have F4 := f4.2 (by omega)
    have F5 := bool_of f5 (by omega)
    have q0 : 0 ≤ n := by omega
    have q1 : decide (n < S * (N - 1)) = true := decide_eq_true (by omega)
    have q2 : decide (n < S) = true := decide_eq_true (by omega)
    have q3 : decide (n < N) = false := decide_eq_false (by omega)
    clear f1 f2 f3 f4 f5
    have hp : (n != N - 1) = true := by rw [bne_iff_ne]; omega
    clear g1 g2 g3 g4
    go_wp2_with (first
      | (go_at_call 17; (refine (of_s N S _ _ F1).mono ?_); rintro e w3 ⟨q, r, d, rfl, hk⟩; replace hG := bel_call hG hk; replace hG := bel_alloc hG (placeBox q r d); have c0 := geo0 hG; have c1 := geo1 hG; unfold placeBox at c0 c1; clear hk)
      | (go_at_call 16; (refine (blocks_yes N S _ n1 n2 s1 s2).mono ?_); rintro e w4 ⟨rfl, hk⟩; replace hG := bel_call hG hk; have d0 := geo0 hG; have d1 := geo1 hG; clear hk)
      | (go_at_call 18; (refine (block_b N S _ _ _ _ (by first | exact F4 | exact F5)).mono ?_); rintro e w5 ⟨rfl, hk⟩; replace hG := bel_call hG hk; have e0 := geo0 hG; have e1 := geo1 hG; clear hk)
      | (go_at_call 14; (refine (node_s N S _ _ _ _ (by first | exact F2 | exact F3)).mono ?_); rintro e w7 ⟨v1, rfl, hv1, hk⟩; replace hG := bel_call hG hk; have i0 := geo0 hG; have i1 := geo1 hG; clear hk)
      | (go_at_call 19; (refine (col_s N S _ _ _ _ (by first | exact F2 | exact F3)).mono ?_); rintro e w9 ⟨v3, rfl, hv3, hk⟩; replace hG := bel_call hG hk; have k0 := geo0 hG; have k1 := geo1 hG; clear hk))
    go_ret
    exact ⟨by rfl, bel_call (geo_below hR) (geo_below hG)⟩
  · have F1 := f1.2 (by omega)
    have F2 := bool_of f2 (by omega)
    have F3 := f3.2 (by omega)
    have F4 := bool_of f4 (by omega)
    have F5 := f5.2 (by omega)
    have q0 : 0 ≤ n := by omega
    have q1 : decide (n < S * (N - 1)) = true := decide_eq_true (by omega)
    have q2 : decide (n < S) = false := decide_eq_false (by omega)
    have q3 : decide (n < N) = true := decide_eq_true (by omega)
    clear f1 f2 f3 f4 f5
    have hp : (n != N - 1) = true := by rw [bne_iff_ne]; omega
    clear g1 g2 g3 g4
    go_wp2_with (first
      | (go_at_call 17; (refine (of_s N S _ _ F1).mono ?_); rintro e w3 ⟨q, r, d, rfl, hk⟩; replace hG := bel_call hG hk; replace hG := bel_alloc hG (placeBox q r d); have c0 := geo0 hG; have c1 := geo1 hG; unfold placeBox at c0 c1; clear hk)
      | (go_at_call 16; (refine (blocks_yes N S _ n1 n2 s1 s2).mono ?_); rintro e w4 ⟨rfl, hk⟩; replace hG := bel_call hG hk; have d0 := geo0 hG; have d1 := geo1 hG; clear hk)
      | (go_at_call 18; (refine (block_b N S _ _ _ _ (by first | exact F4 | exact F5)).mono ?_); rintro e w5 ⟨rfl, hk⟩; replace hG := bel_call hG hk; have e0 := geo0 hG; have e1 := geo1 hG; clear hk)
      | (go_at_call 14; (refine (node_s N S _ _ _ _ (by first | exact F2 | exact F3)).mono ?_); rintro e w7 ⟨v1, rfl, hv1, hk⟩; replace hG := bel_call hG hk; have i0 := geo0 hG; have i1 := geo1 hG; clear hk)
      | (go_at_call 19; (refine (col_s N S _ _ _ _ (by first | exact F2 | exact F3)).mono ?_); rintro e w9 ⟨v3, rfl, hv3, hk⟩; replace hG := bel_call hG hk; have k0 := geo0 hG; have k1 := geo1 hG; clear hk))
    go_ret
    exact ⟨by rfl, bel_call (geo_below hR) (geo_below hG)⟩
  · have F1 := f1.2 (by omega)
    have F2 := bool_of f2 (by omega)
    have F3 := f3.2 (by omega)
    have F4 := bool_of f4 (by omega)
    have F5 := bool_of f5 (by omega)
    have q0 : 0 ≤ n := by omega
    have q1 : decide (n < S * (N - 1)) = true := decide_eq_true (by omega)
    have q2 : decide (n < S) = false := decide_eq_false (by omega)
    have q3 : decide (n < N) = true := decide_eq_true (by omega)
    clear f1 f2 f3 f4 f5
    subst g4
    clear g1 g2 g3
    go_wp2_with (first
      | (go_at_call 17; (refine (of_s N S _ _ F1).mono ?_); rintro e w3 ⟨q, r, d, rfl, hk⟩; replace hG := bel_call hG hk; replace hG := bel_alloc hG (placeBox q r d); have c0 := geo0 hG; have c1 := geo1 hG; unfold placeBox at c0 c1; clear hk)
      | (go_at_call 16; (refine (blocks_yes N S _ n1 n2 s1 s2).mono ?_); rintro e w4 ⟨rfl, hk⟩; replace hG := bel_call hG hk; have d0 := geo0 hG; have d1 := geo1 hG; clear hk)
      | (go_at_call 18; (refine (block_b N S _ _ _ _ (by first | exact F4 | exact F5)).mono ?_); rintro e w5 ⟨rfl, hk⟩; replace hG := bel_call hG hk; have e0 := geo0 hG; have e1 := geo1 hG; clear hk)
      | (go_at_call 14; (refine (node_s N S _ _ _ _ (by first | exact F2 | exact F3)).mono ?_); rintro e w7 ⟨v1, rfl, hv1, hk⟩; replace hG := bel_call hG hk; have i0 := geo0 hG; have i1 := geo1 hG; clear hk)
      | (go_at_call 19; (refine (col_s N S _ _ _ _ (by first | exact F2 | exact F3)).mono ?_); rintro e w9 ⟨v3, rfl, hv3, hk⟩; replace hG := bel_call hG hk; have k0 := geo0 hG; have k1 := geo1 hG; clear hk))
    go_ret
    exact ⟨by rfl, bel_call (geo_below hR) (geo_below hG)⟩
  · have F1 := f1.2 (by omega)
    have F2 := bool_of f2 (by omega)
    have F3 := bool_of f3 (by omega)
    have F4 := bool_of f4 (by omega)
    have F5 := bool_of f5 (by omega)
    have q0 : 0 ≤ n := by omega
    have q1 : decide (n < S * (N - 1)) = true := decide_eq_true (by omega)
    have q2 : decide (n < S) = false := decide_eq_false (by omega)
    have q3 : decide (n < N) = false := decide_eq_false (by omega)
    clear f1 f2 f3 f4 f5
    have hp : (n != N - 1) = true := by rw [bne_iff_ne]; omega
    clear g1 g2 g3 g4
    go_wp2_with (first
      | (go_at_call 17; (refine (of_s N S _ _ F1).mono ?_); rintro e w3 ⟨q, r, d, rfl, hk⟩; replace hG := bel_call hG hk; replace hG := bel_alloc hG (placeBox q r d); have c0 := geo0 hG; have c1 := geo1 hG; unfold placeBox at c0 c1; clear hk)
      | (go_at_call 16; (refine (blocks_yes N S _ n1 n2 s1 s2).mono ?_); rintro e w4 ⟨rfl, hk⟩; replace hG := bel_call hG hk; have d0 := geo0 hG; have d1 := geo1 hG; clear hk)
      | (go_at_call 18; (refine (block_b N S _ _ _ _ (by first | exact F4 | exact F5)).mono ?_); rintro e w5 ⟨rfl, hk⟩; replace hG := bel_call hG hk; have e0 := geo0 hG; have e1 := geo1 hG; clear hk)
      | (go_at_call 14; (refine (node_s N S _ _ _ _ (by first | exact F2 | exact F3)).mono ?_); rintro e w7 ⟨v1, rfl, hv1, hk⟩; replace hG := bel_call hG hk; have i0 := geo0 hG; have i1 := geo1 hG; clear hk)
      | (go_at_call 19; (refine (col_s N S _ _ _ _ (by first | exact F2 | exact F3)).mono ?_); rintro e w9 ⟨v3, rfl, hv3, hk⟩; replace hG := bel_call hG hk; have k0 := geo0 hG; have k1 := geo1 hG; clear hk))
    go_ret
    exact ⟨by rfl, bel_call (geo_below hR) (geo_below hG)⟩
  · have F1 := bool_of f1 (by omega)
    have F2 := bool_of f2 (by omega)
    have F3 := f3.2 (by omega)
    have F4 := bool_of f4 (by omega)
    have F5 := bool_of f5 (by omega)
    have q0 : 0 ≤ n := by omega
    have q1 : decide (n < S * (N - 1)) = false := decide_eq_false (by omega)
    have q2 : decide (n < S) = false := decide_eq_false (by omega)
    have q3 : decide (n < N) = true := decide_eq_true (by omega)
    clear f1 f2 f3 f4 f5
    subst g4
    clear g1 g2 g3
    go_wp2_with (first
      | (go_at_call 17; (refine (of_no N S _ _ F1).mono ?_); rintro e w3 ⟨rfl, hk⟩; replace hG := bel_call hG hk; have hP : Below (w3.alloc (placeBox 0 0 0)).heap.size (w3.alloc (placeBox 0 0 0)) (w3.alloc (placeBox 0 0 0)) := Below.refl _ _; have p0 := pl0 hP; have p1 := pl1 hP; have p2 := pl2 hP; unfold placeBox at p0 p1 p2; replace hG := bel_alloc hG (placeBox 0 0 0); have c0 := geo0 hG; have c1 := geo1 hG; unfold placeBox at c0 c1; clear hk)
      | (go_at_call 16; (refine (blocks_yes N S _ n1 n2 s1 s2).mono ?_); rintro e w4 ⟨rfl, hk⟩; replace hG := bel_call hG hk; replace hP := bel_call hP hk; have d0 := geo0 hG; have d1 := geo1 hG; have d2 := pl0 hP; have d3 := pl1 hP; have d4 := pl2 hP; clear hk)
      | (go_at_call 18; (refine (block_b N S _ _ _ _ (by first | exact F4 | exact F5)).mono ?_); rintro e w5 ⟨rfl, hk⟩; replace hG := bel_call hG hk; have e0 := geo0 hG; have e1 := geo1 hG; clear hk)
      | (go_at_call 14; (refine (node_s N S _ _ _ _ (by first | exact F2 | exact F3)).mono ?_); rintro e w7 ⟨v1, rfl, hv1, hk⟩; replace hG := bel_call hG hk; have i0 := geo0 hG; have i1 := geo1 hG; clear hk)
      | (go_at_call 19; (refine (col_s N S _ _ _ _ (by first | exact F2 | exact F3)).mono ?_); rintro e w9 ⟨v3, rfl, hv3, hk⟩; replace hG := bel_call hG hk; have k0 := geo0 hG; have k1 := geo1 hG; clear hk))
    go_ret
    exact ⟨by rfl, bel_call (geo_below hR) (geo_below hG)⟩
  · have F1 := bool_of f1 (by omega)
    have F2 := bool_of f2 (by omega)
    have F3 := bool_of f3 (by omega)
    have F4 := bool_of f4 (by omega)
    have F5 := bool_of f5 (by omega)
    have q0 : 0 ≤ n := by omega
    have q1 : decide (n < S * (N - 1)) = false := decide_eq_false (by omega)
    have q2 : decide (n < S) = false := decide_eq_false (by omega)
    have q3 : decide (n < N) = false := decide_eq_false (by omega)
    clear f1 f2 f3 f4 f5
    have hp : (n != N - 1) = true := by rw [bne_iff_ne]; omega
    clear g1 g2 g3 g4
    go_wp2_with (first
      | (go_at_call 17; (refine (of_no N S _ _ F1).mono ?_); rintro e w3 ⟨rfl, hk⟩; replace hG := bel_call hG hk; have hP : Below (w3.alloc (placeBox 0 0 0)).heap.size (w3.alloc (placeBox 0 0 0)) (w3.alloc (placeBox 0 0 0)) := Below.refl _ _; have p0 := pl0 hP; have p1 := pl1 hP; have p2 := pl2 hP; unfold placeBox at p0 p1 p2; replace hG := bel_alloc hG (placeBox 0 0 0); have c0 := geo0 hG; have c1 := geo1 hG; unfold placeBox at c0 c1; clear hk)
      | (go_at_call 16; (refine (blocks_yes N S _ n1 n2 s1 s2).mono ?_); rintro e w4 ⟨rfl, hk⟩; replace hG := bel_call hG hk; replace hP := bel_call hP hk; have d0 := geo0 hG; have d1 := geo1 hG; have d2 := pl0 hP; have d3 := pl1 hP; have d4 := pl2 hP; clear hk)
      | (go_at_call 18; (refine (block_b N S _ _ _ _ (by first | exact F4 | exact F5)).mono ?_); rintro e w5 ⟨rfl, hk⟩; replace hG := bel_call hG hk; have e0 := geo0 hG; have e1 := geo1 hG; clear hk)
      | (go_at_call 14; (refine (node_s N S _ _ _ _ (by first | exact F2 | exact F3)).mono ?_); rintro e w7 ⟨v1, rfl, hv1, hk⟩; replace hG := bel_call hG hk; have i0 := geo0 hG; have i1 := geo1 hG; clear hk)
      | (go_at_call 19; (refine (col_s N S _ _ _ _ (by first | exact F2 | exact F3)).mono ?_); rintro e w9 ⟨v3, rfl, hv3, hk⟩; replace hG := bel_call hG hk; have k0 := geo0 hG; have k1 := geo1 hG; clear hk))
    go_ret
    exact ⟨by rfl, bel_call (geo_below hR) (geo_below hG)⟩
end Go.Proofs.Ytnaanfkiljhmeaa
