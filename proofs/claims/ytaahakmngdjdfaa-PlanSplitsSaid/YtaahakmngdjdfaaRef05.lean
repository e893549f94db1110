/-
  The contracts of the document's answer to layer 5: the same numbers as package plat's, for all geometries and numbers. No condition.
-/
import Derived.Test.YtaahakmngdjdfaaPlatWalks
namespace Go.Proofs.Ytaahakmngdjdfaa
open Go.RowKit

theorem rright_yes (N S : Int) (w : World) (h1 : 3 ≤ N) (h2 : N ≤ 6) (h3 : 1 ≤ S) (h4 : S ≤ 8) :
    Calls Try.prog 27 #[.agg #[.int .i64 N, .int .i64 S]] w fun e w' => e = .returned (.bool true) ∧ Below w.heap.size w w' := by
  go_enter Try.func27, Try.ntmps27
  go_wp2
  go_ret
  exact ⟨rfl, bel_alloc (Below.refl _ _) _⟩
theorem rright_no (N S : Int) (w : World) (h : rightZ N S = false) :
    Calls Try.prog 27 #[.agg #[.int .i64 N, .int .i64 S]] w fun e w' => e = .returned (.bool false) ∧ Below w.heap.size w w' := by
  have h' := not_right h
  clear h
  rcases (show N < 3 ∨ 6 < N ∨ (3 ≤ N ∧ N ≤ 6 ∧ S < 1) ∨ (3 ≤ N ∧ N ≤ 6 ∧ 8 < S) by omega) with g | g | ⟨g1, g2, g⟩ | ⟨g1, g2, g⟩
  all_goals
    clear h'
    by_cases k1 : S < 1 <;> by_cases k2 : 8 < S
    all_goals first | (exfalso; omega) | skip
    all_goals
      go_enter Try.func27, Try.ntmps27
      go_wp2
      go_ret
      refine ⟨?_, bel_alloc (Below.refl _ _) _⟩
      first | rfl | (simp; omega)
theorem rright_calls (N S : Int) (w : World) :
    Calls Try.prog 27 #[.agg #[.int .i64 N, .int .i64 S]] w fun e w' => e = .returned (.bool (rightZ N S)) ∧ Below w.heap.size w w' := by
  cases h : rightZ N S with
  | true => obtain ⟨h1, h2, h3, h4⟩ := right_iff.1 h; exact rright_yes N S w h1 h2 h3 h4
  | false => exact rright_no N S w h

theorem rblocks_calls (N S : Int) (w : World) :
    Calls Try.prog 11 #[.agg #[.int .i64 N, .int .i64 S]] w fun e w' => e = .returned (.int .i64 (blocksZ N S)) ∧ Below w.heap.size w w' := by
  cases h : rightZ N S with
  | true =>
    obtain ⟨h1, h2, h3, h4⟩ := right_iff.1 h
    unfold blocksZ
    rw [if_pos h]
    have k1 := prod_bounds h1 h2 h3 h4
    go_enter Try.func11, Try.ntmps11
    go_wp2_with (go_at_call 27; refine (rright_yes N S _ h1 h2 h3 h4).mono ?_; rintro e w1 ⟨rfl, hb⟩; have hc0 := geo0 hb; have hc1 := geo1 hb)
    go_ret
    exact ⟨rfl, geo_below hb⟩
  | false =>
    unfold blocksZ
    rw [if_neg (by rw [h]; simp)]
    go_enter Try.func11, Try.ntmps11
    go_wp2_with (go_at_call 27; refine (rright_no N S _ h).mono ?_; rintro e w1 ⟨rfl, hb⟩)
    go_ret
    exact ⟨rfl, geo_below hb⟩
theorem rparity_calls (N S : Int) (w : World) :
    Calls Try.prog 32 #[.agg #[.int .i64 N, .int .i64 S]] w fun e w' => e = .returned (.int .i64 (parityZ N S)) ∧ Below w.heap.size w w' := by
  cases h : rightZ N S with
  | true =>
    obtain ⟨h1, h2, h3, h4⟩ := right_iff.1 h
    unfold parityZ
    rw [if_pos h]
    go_enter Try.func32, Try.ntmps32
    go_wp2_with (go_at_call 27; refine (rright_yes N S _ h1 h2 h3 h4).mono ?_; rintro e w1 ⟨rfl, hb⟩; have hc0 := geo0 hb; have hc1 := geo1 hb)
    go_ret
    exact ⟨rfl, geo_below hb⟩
  | false =>
    unfold parityZ
    rw [if_neg (by rw [h]; simp)]
    go_enter Try.func32, Try.ntmps32
    go_wp2_with (go_at_call 27; refine (rright_no N S _ h).mono ?_; rintro e w1 ⟨rfl, hb⟩)
    go_ret
    exact ⟨rfl, geo_below hb⟩

/-- where a stripe or a column is lacking, five ways -/
theorem lacks {N S s n : Int} (h : hasZ N S s n = false) : rightZ N S = false ∨ (rightZ N S = true ∧ (3 ≤ N ∧ N ≤ 6 ∧ 1 ≤ S ∧ S ≤ 8) ∧ (s < 0 ∨ (0 ≤ s ∧ S ≤ s) ∨ (0 ≤ s ∧ s < S ∧ n < 0) ∨ (0 ≤ s ∧ s < S ∧ 0 ≤ n ∧ N ≤ n))) := by
  have h' := not_has h
  cases hr : rightZ N S with
  | false => exact Or.inl rfl
  | true => exact Or.inr ⟨rfl, right_iff.1 hr, by have := right_iff.1 hr; omega⟩

theorem rnode_yes (N S s n : Int) (w : World) (h1 : 3 ≤ N) (h2 : N ≤ 6) (h3 : 1 ≤ S) (h4 : S ≤ 8) (s1 : 0 ≤ s) (s2 : s < S) (n1 : 0 ≤ n) (n2 : n < N) :
    Calls Try.prog 31 #[.agg #[.int .i64 N, .int .i64 S], .int .i64 s, .int .i64 n] w fun e w' => e = .returned (.int .i64 ((n + s) % N)) ∧ Below w.heap.size w w' := by
  have d1 : decide (s < 0) = false := decide_eq_false (by omega)
  have d2 : decide (S ≤ s) = false := decide_eq_false (by omega)
  have d3 : decide (n < 0) = false := decide_eq_false (by omega)
  have d4 : decide (N ≤ n) = false := decide_eq_false (by omega)
  have t1 : (s + n).tmod N = (n + s) % N := by rw [Int.add_comm, Int.tmod_eq_emod_of_nonneg (by omega)]
  have n0 : ¬ N = 0 := by omega
  go_enter Try.func31, Try.ntmps31
  go_wp2_with (go_at_call 27; refine (rright_yes N S _ h1 h2 h3 h4).mono ?_; rintro e w1 ⟨rfl, hb⟩; have hc0 := geo0 hb; have hc1 := geo1 hb)
  go_ret
  exact ⟨rfl, geo_below hb⟩
theorem rnode_no (N S s n : Int) (w : World) (h : hasZ N S s n = false) :
    Calls Try.prog 31 #[.agg #[.int .i64 N, .int .i64 S], .int .i64 s, .int .i64 n] w fun e w' => e = .returned (.int .i64 (-1)) ∧ Below w.heap.size w w' := by
  rcases lacks h with hr | ⟨hr, ⟨h1, h2, h3, h4⟩, g | ⟨g1, g⟩ | ⟨g1, g2, g⟩ | ⟨g1, g2, g3, g⟩⟩
  · clear h
    go_enter Try.func31, Try.ntmps31
    go_wp2_with (go_at_call 27; refine (rright_no N S _ hr).mono ?_; rintro e w1 ⟨rfl, hb⟩; have hc0 := geo0 hb; have hc1 := geo1 hb)
    go_ret
    exact ⟨rfl, geo_below hb⟩
  all_goals
    clear h hr
    go_enter Try.func31, Try.ntmps31
    go_wp2_with (go_at_call 27; refine (rright_yes N S _ h1 h2 h3 h4).mono ?_; rintro e w1 ⟨rfl, hb⟩; have hc0 := geo0 hb; have hc1 := geo1 hb)
    go_ret
    exact ⟨rfl, geo_below hb⟩
theorem rnode_calls (N S s n : Int) (w : World) :
    Calls Try.prog 31 #[.agg #[.int .i64 N, .int .i64 S], .int .i64 s, .int .i64 n] w fun e w' => e = .returned (.int .i64 (nodeZ N S s n)) ∧ Below w.heap.size w w' := by
  cases h : hasZ N S s n with
  | true => obtain ⟨⟨h1, h2, h3, h4⟩, s1, s2, n1, n2⟩ := has_iff.1 h; unfold nodeZ; rw [if_pos h]; exact rnode_yes N S s n w h1 h2 h3 h4 s1 s2 n1 n2
  | false => unfold nodeZ; rw [if_neg (by rw [h]; simp)]; exact rnode_no N S s n w h

theorem rcol_hit {N s n c d : Int} (h1 : 3 ≤ N) (h2 : N ≤ 6) (n1 : 0 ≤ n) (n2 : n < N) (c1 : 0 ≤ c) (c2 : c < N) (hd : d = (n + N - s % N) % N) : ((c + s) % N == n) = decide (c = d) := by
  rw [Bool.eq_iff_iff, beq_iff_eq, decide_eq_true_iff]
  subst hd
  rcases (show N = 3 ∨ N = 4 ∨ N = 5 ∨ N = 6 by omega) with rfl | rfl | rfl | rfl <;> omega
/-- where a block stands, number by number -/
def ofQ (N S b : Int) : Int := if inZ N S b then b / (N - 1) else 0
def ofR (N S b : Int) : Int := if inZ N S b then b % (N - 1) else 0
def ofD (N S b : Int) : Int := if inZ N S b then (b % (N - 1) + b / (N - 1)) % N else 0
def ofE (N S b : Int) : Int := if inZ N S b then 0 else 50
theorem of_calls (N S b : Int) (w : World) :
    Calls Try.prog 29 #[.agg #[.int .i64 N, .int .i64 S], .int .i64 b] w fun e w' => e = .returned (.tuple #[.agg #[.int .i64 (ofQ N S b), .int .i64 (ofR N S b), .int .i64 (ofD N S b)], .int .i64 (ofE N S b)]) ∧ Below w.heap.size w w' := by
  unfold ofQ ofR ofD ofE
  cases h : inZ N S b with
  | true => obtain ⟨⟨h1, h2, h3, h4⟩, b1, b2⟩ := in_iff.1 h; exact of_yes N S b w h1 h2 h3 h4 b1 b2
  | false => exact of_no N S b w h

set_option maxHeartbeats 1000000 in
theorem rblock_calls (N S s c : Int) (w : World) :
    Calls Try.prog 14 #[.agg #[.int .i64 N, .int .i64 S], .int .i64 s, .int .i64 c] w fun e w' => e = .returned (.tuple #[.int .i64 (blockV N S s c), .bool (bearsZ N S s c)]) ∧ Below w.heap.size w w' := by
  cases hh : hasZ N S s c with
  | false =>
    have hb : bearsZ N S s c = false := by simp [bearsZ, hh]
    unfold blockV
    rw [hb, if_neg (by simp)]
    clear hb
    go_enter Try.func14, Try.ntmps14
    go_wp2_with (go_at_call 31; refine (rnode_no N S s c _ hh).mono ?_; rintro e w1 ⟨rfl, hb⟩)
    go_ret2
    exact ⟨rfl, geo_below hb⟩
  | true =>
    obtain ⟨⟨h1, h2, h3, h4⟩, s1, s2, n1, n2⟩ := has_iff.1 hh
    have hP : parityZ N S = N - 1 := by unfold parityZ; rw [if_pos (right_iff.2 ⟨h1, h2, h3, h4⟩)]
    have k0 : 0 ≤ (c + s) % N := Int.emod_nonneg _ (by omega)
    have k1 : 0 ≤ s * (N - 1) := Int.mul_nonneg (by omega) (by omega)
    have k2 : s * (N - 1) ≤ 40 := Int.le_trans (Int.mul_le_mul (show s ≤ 8 by omega) (show N - 1 ≤ 5 by omega) (by omega) (by omega)) (by omega)
    by_cases hc : c = N - 1
    · have hb : bearsZ N S s c = false := by simp [bearsZ, hc]
      unfold blockV
      rw [hb, if_neg (by simp)]
      subst hc
      clear hb hh
      go_enter Try.func14, Try.ntmps14
      go_wp2_with (first
        | (go_at_call 31; refine (rnode_yes N S s (N - 1) _ h1 h2 h3 h4 s1 s2 n1 n2).mono ?_; rintro e w1 ⟨rfl, hb⟩; have hc0 := geo0 hb; have hc1 := geo1 hb)
        | (go_at_call 32; refine (rparity_calls N S _).mono ?_; rw [hP]; rintro e w2 ⟨rfl, hk⟩; replace hb := hb.trans (hk.mono hb.size)))
      go_ret2
      exact ⟨rfl, geo_below hb⟩
    · have hb : bearsZ N S s c = true := bears_iff.2 ⟨hh, hc⟩
      have hne : (c == N - 1) = false := by rw [beq_eq_false_iff_ne]; exact hc
      unfold blockV
      rw [hb, if_pos rfl]
      clear hb hh hc
      go_enter Try.func14, Try.ntmps14
      go_wp2_with (first
        | (go_at_call 31; refine (rnode_yes N S s c _ h1 h2 h3 h4 s1 s2 n1 n2).mono ?_; rintro e w1 ⟨rfl, hb⟩; have hc0 := geo0 hb; have hc1 := geo1 hb)
        | (go_at_call 32; refine (rparity_calls N S _).mono ?_; rw [hP]; rintro e w2 ⟨rfl, hk⟩; replace hb := hb.trans (hk.mono hb.size); have hd0 := geo0 hb; have hd1 := geo1 hb; clear hk))
      go_ret2
      exact ⟨rfl, geo_below hb⟩
end Go.Proofs.Ytaahakmngdjdfaa
