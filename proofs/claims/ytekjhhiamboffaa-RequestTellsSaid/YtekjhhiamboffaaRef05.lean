/-
  The contracts of the document's answer to layer 5: the same numbers as package plat's, for all geometries and numbers. No condition.
-/
import Derived.Test.YtekjhhiamboffaaPlatWalks
namespace Go.Proofs.Ytekjhhiamboffaa
open Go.RowKit

theorem rright_yes (N S : Int) (w : World) (h1 : 3 ≤ N) (h2 : N ≤ 6) (h3 : 1 ≤ S) (h4 : S ≤ 8) :
    Calls Try.prog 36 #[.agg #[.int .i64 N, .int .i64 S]] w fun e w' => e = .returned (.bool true) ∧ Below w.heap.size w w' := by
  go_enter Try.func36, Try.ntmps36
  go_wp2
  go_ret
  exact ⟨rfl, bel_alloc (Below.refl _ _) _⟩
theorem rright_no (N S : Int) (w : World) (h : rightZ N S = false) :
    Calls Try.prog 36 #[.agg #[.int .i64 N, .int .i64 S]] w fun e w' => e = .returned (.bool false) ∧ Below w.heap.size w w' := by
  have h' := not_right h
  clear h
  rcases (show N < 3 ∨ 6 < N ∨ (3 ≤ N ∧ N ≤ 6 ∧ S < 1) ∨ (3 ≤ N ∧ N ≤ 6 ∧ 8 < S) by omega) with g | g | ⟨g1, g2, g⟩ | ⟨g1, g2, g⟩
  all_goals
    clear h'
    by_cases k1 : S < 1 <;> by_cases k2 : 8 < S
    all_goals first | (exfalso; omega) | skip
    all_goals
      go_enter Try.func36, Try.ntmps36
      go_wp2
      go_ret
      refine ⟨?_, bel_alloc (Below.refl _ _) _⟩
      first | rfl | (simp; omega)
theorem rright_calls (N S : Int) (w : World) :
    Calls Try.prog 36 #[.agg #[.int .i64 N, .int .i64 S]] w fun e w' => e = .returned (.bool (rightZ N S)) ∧ Below w.heap.size w w' := by
  cases h : rightZ N S with
  | true => obtain ⟨h1, h2, h3, h4⟩ := right_iff.1 h; exact rright_yes N S w h1 h2 h3 h4
  | false => exact rright_no N S w h

theorem rblocks_calls (N S : Int) (w : World) :
    Calls Try.prog 22 #[.agg #[.int .i64 N, .int .i64 S]] w fun e w' => e = .returned (.int .i64 (blocksZ N S)) ∧ Below w.heap.size w w' := by
  cases h : rightZ N S with
  | true =>
    obtain ⟨h1, h2, h3, h4⟩ := right_iff.1 h
    unfold blocksZ
    rw [if_pos h]
    have k1 := prod_bounds h1 h2 h3 h4
    go_enter Try.func22, Try.ntmps22
    go_wp2_with (go_at_call 36; refine (rright_yes N S _ h1 h2 h3 h4).mono ?_; rintro e w1 ⟨rfl, hb⟩; have hc0 := geo0 hb; have hc1 := geo1 hb)
    go_ret
    exact ⟨rfl, geo_below hb⟩
  | false =>
    unfold blocksZ
    rw [if_neg (by rw [h]; simp)]
    go_enter Try.func22, Try.ntmps22
    go_wp2_with (go_at_call 36; refine (rright_no N S _ h).mono ?_; rintro e w1 ⟨rfl, hb⟩)
    go_ret
    exact ⟨rfl, geo_below hb⟩
/-- where a stripe or a column is lacking, five ways -/
theorem lacks {N S s n : Int} (h : hasZ N S s n = false) : rightZ N S = false ∨ (rightZ N S = true ∧ (3 ≤ N ∧ N ≤ 6 ∧ 1 ≤ S ∧ S ≤ 8) ∧ (s < 0 ∨ (0 ≤ s ∧ S ≤ s) ∨ (0 ≤ s ∧ s < S ∧ n < 0) ∨ (0 ≤ s ∧ s < S ∧ 0 ≤ n ∧ N ≤ n))) := by
  have h' := not_has h
  cases hr : rightZ N S with
  | false => exact Or.inl rfl
  | true => exact Or.inr ⟨rfl, right_iff.1 hr, by have := right_iff.1 hr; omega⟩

theorem rnode_yes (N S s n : Int) (w : World) (h1 : 3 ≤ N) (h2 : N ≤ 6) (h3 : 1 ≤ S) (h4 : S ≤ 8) (s1 : 0 ≤ s) (s2 : s < S) (n1 : 0 ≤ n) (n2 : n < N) :
    Calls Try.prog 49 #[.agg #[.int .i64 N, .int .i64 S], .int .i64 s, .int .i64 n] w fun e w' => e = .returned (.int .i64 ((n + s) % N)) ∧ Below w.heap.size w w' := by
  have d1 : decide (s < 0) = false := decide_eq_false (by omega)
  have d2 : decide (S ≤ s) = false := decide_eq_false (by omega)
  have d3 : decide (n < 0) = false := decide_eq_false (by omega)
  have d4 : decide (N ≤ n) = false := decide_eq_false (by omega)
  have t1 : (s + n).tmod N = (n + s) % N := by rw [Int.add_comm, Int.tmod_eq_emod_of_nonneg (by omega)]
  have n0 : ¬ N = 0 := by omega
  go_enter Try.func49, Try.ntmps49
  go_wp2_with (go_at_call 36; refine (rright_yes N S _ h1 h2 h3 h4).mono ?_; rintro e w1 ⟨rfl, hb⟩; have hc0 := geo0 hb; have hc1 := geo1 hb)
  go_ret
  exact ⟨rfl, geo_below hb⟩
theorem rnode_no (N S s n : Int) (w : World) (h : hasZ N S s n = false) :
    Calls Try.prog 49 #[.agg #[.int .i64 N, .int .i64 S], .int .i64 s, .int .i64 n] w fun e w' => e = .returned (.int .i64 (-1)) ∧ Below w.heap.size w w' := by
  rcases lacks h with hr | ⟨hr, ⟨h1, h2, h3, h4⟩, g | ⟨g1, g⟩ | ⟨g1, g2, g⟩ | ⟨g1, g2, g3, g⟩⟩
  · clear h
    go_enter Try.func49, Try.ntmps49
    go_wp2_with (go_at_call 36; refine (rright_no N S _ hr).mono ?_; rintro e w1 ⟨rfl, hb⟩; have hc0 := geo0 hb; have hc1 := geo1 hb)
    go_ret
    exact ⟨rfl, geo_below hb⟩
  all_goals
    clear h hr
    go_enter Try.func49, Try.ntmps49
    go_wp2_with (go_at_call 36; refine (rright_yes N S _ h1 h2 h3 h4).mono ?_; rintro e w1 ⟨rfl, hb⟩; have hc0 := geo0 hb; have hc1 := geo1 hb)
    go_ret
    exact ⟨rfl, geo_below hb⟩
theorem rnode_calls (N S s n : Int) (w : World) :
    Calls Try.prog 49 #[.agg #[.int .i64 N, .int .i64 S], .int .i64 s, .int .i64 n] w fun e w' => e = .returned (.int .i64 (nodeZ N S s n)) ∧ Below w.heap.size w w' := by
  cases h : hasZ N S s n with
  | true => obtain ⟨⟨h1, h2, h3, h4⟩, s1, s2, n1, n2⟩ := has_iff.1 h; unfold nodeZ; rw [if_pos h]; exact rnode_yes N S s n w h1 h2 h3 h4 s1 s2 n1 n2
  | false => unfold nodeZ; rw [if_neg (by rw [h]; simp)]; exact rnode_no N S s n w h

theorem rcol_hit {N s n c d : Int} (h1 : 3 ≤ N) (h2 : N ≤ 6) (n1 : 0 ≤ n) (n2 : n < N) (c1 : 0 ≤ c) (c2 : c < N) (hd : d = (n + N - s % N) % N) : ((c + s) % N == n) = decide (c = d) := by
  rw [Bool.eq_iff_iff, beq_iff_eq, decide_eq_true_iff]
  subst hd
  rcases (show N = 3 ∨ N = 4 ∨ N = 5 ∨ N = 6 by omega) with rfl | rfl | rfl | rfl <;> omega
/-- where a block stands, number by number -/
def ofQ (N S b : Int) : Int := if inZ N S b then b / (N - 1) else 0
def ofR (N S b : Int) : Int := if inZ N S b then b % (N - 1) else 0
def ofD (N S b : Int) : Int := if inZ N S b then (b % (N - 1) + b / (N - 1)) % N else 0
def ofE (N S b : Int) : Int := if inZ N S b then 0 else 50
theorem of_calls (N S b : Int) (w : World) :
    Calls Try.prog 45 #[.agg #[.int .i64 N, .int .i64 S], .int .i64 b] w fun e w' => e = .returned (.tuple #[.agg #[.int .i64 (ofQ N S b), .int .i64 (ofR N S b), .int .i64 (ofD N S b)], .int .i64 (ofE N S b)]) ∧ Below w.heap.size w w' := by
  unfold ofQ ofR ofD ofE
  cases h : inZ N S b with
  | true => obtain ⟨⟨h1, h2, h3, h4⟩, b1, b2⟩ := in_iff.1 h; exact of_yes N S b w h1 h2 h3 h4 b1 b2
  | false => exact of_no N S b w h

set_option maxHeartbeats 1000000 in
theorem rof_yes (N S b : Int) (w : World) (h1 : 3 ≤ N) (h2 : N ≤ 6) (h3 : 1 ≤ S) (h4 : S ≤ 8) (b1 : 0 ≤ b) (b2 : b < S * (N - 1)) :
    Calls Try.prog 47 #[.agg #[.int .i64 N, .int .i64 S], .int .i64 b] w fun e w' => e = .returned (.tuple #[.agg #[.int .i64 (b / (N - 1)), .int .i64 (b % (N - 1)), .int .i64 ((b % (N - 1) + b / (N - 1)) % N)], .int .i64 0]) ∧ Below w.heap.size w w' := by
  have k := prod_bounds h1 h2 h3 h4
  obtain ⟨q1, q2, q3, q4⟩ := block_bounds N S b h1 b1 b2
  have hB : blocksZ N S = S * (N - 1) := by unfold blocksZ; rw [if_pos (right_iff.2 ⟨h1, h2, h3, h4⟩)]
  have d1 : decide (b < 0) = false := decide_eq_false (by omega)
  have d2 : decide (S * (N - 1) ≤ b) = false := decide_eq_false (by omega)
  have hd0 : ¬ N - 1 = 0 := by omega
  have hd1 : (N - 1 == 0) = false := by simp; omega
  have hw1 : IntKind.i64.wrap (b.tdiv (N - 1)) = b / (N - 1) := IntWalk.i64_quo _ _ (by omega)
  have hw2 : b.tmod (N - 1) = b % (N - 1) := IntWalk.rem_in _ _ b1
  go_enter Try.func47, Try.ntmps47
  go_wp2_with (first
    | (go_at_call 22; refine (rblocks_calls N S _).mono ?_; rw [hB]; rintro e w1 ⟨rfl, hb⟩; have hbb : Below (ofBoxes w N S).heap.size (ofBoxes w N S) w1 := hb; clear hb; have hc0 := of_geo0 hbb; have hc1 := of_geo1 hbb)
    | (go_at_call 49; refine (rnode_yes N S (b / (N - 1)) (b % (N - 1)) _ h1 h2 h3 h4 q1 q2 q3 (by omega)).mono ?_; rintro e w3 ⟨rfl, hk⟩; have hbn := hbb.trans (hk.mono hbb.size); have hr0 := of_res hbn 0 (by decide); have hr1 := of_res hbn 1 (by decide); have hr2 := of_res hbn 2 (by decide); have hf0 := of_free hbn 0; have hf1 := of_free hbn 1; have hf2 := of_free hbn 2; clear hk))
  refine bodyPost_ret (v := .tuple #[.agg #[.int .i64 (b / (N - 1)), .int .i64 (b % (N - 1)), .int .i64 ((b % (N - 1) + b / (N - 1)) % N)], .int .i64 0]) (by simp [results, Try.results47, go_sem, hr0, hr1, hr2]) rfl ⟨rfl, ?_⟩
  have hfin := of_below hbn
  exact ((hfin.setCell (p := ⟨w.heap.size + 1, 0, none⟩) (by simp) _).setCell (p := ⟨w.heap.size + 1, 1, none⟩) (by simp) _).setCell (p := ⟨w.heap.size + 1, 2, none⟩) (by simp) _
theorem rof_no (N S b : Int) (w : World) (h : inZ N S b = false) :
    Calls Try.prog 47 #[.agg #[.int .i64 N, .int .i64 S], .int .i64 b] w fun e w' => e = .returned (.tuple #[.agg #[.int .i64 0, .int .i64 0, .int .i64 0], .int .i64 50]) ∧ Below w.heap.size w w' := by
  have hn : ¬ (0 ≤ b ∧ b < blocksZ N S) := of_decide_eq_false h
  clear h
  by_cases b0 : b < 0
  · clear hn
    go_enter Try.func47, Try.ntmps47
    go_wp2
    refine bodyPost_ret (v := .tuple #[.agg #[.int .i64 0, .int .i64 0, .int .i64 0], .int .i64 50]) (by simp [results, Try.results47, go_sem]) rfl ⟨rfl, ?_⟩
    go_grown
  · have hge : blocksZ N S ≤ b := by omega
    clear hn
    obtain ⟨B, hB⟩ : ∃ B, B = blocksZ N S := ⟨_, rfl⟩
    have HB := Lib.hid hB
    rw [← hB] at hge
    clear hB
    have d1 : decide (b < 0) = false := by simp; omega
    have d2 : decide (B ≤ b) = true := by simp; omega
    go_enter Try.func47, Try.ntmps47
    go_wp2_with (go_at_call 22; refine (rblocks_calls N S _).mono ?_; rintro e w1 ⟨rfl, hb⟩; rw [← HB.out]; have hbn : Below (ofBoxes w N S).heap.size (ofBoxes w N S) w1 := hb; have hr0 := of_res hbn 0 (by decide); have hr1 := of_res hbn 1 (by decide); have hr2 := of_res hbn 2 (by decide); have hf0 := of_free hbn 0; have hf1 := of_free hbn 1; have hf2 := of_free hbn 2; clear hb)
    refine bodyPost_ret (v := .tuple #[.agg #[.int .i64 0, .int .i64 0, .int .i64 0], .int .i64 50]) (by simp [results, Try.results47, go_sem, hr0, hr1, hr2]) rfl ⟨rfl, ?_⟩
    have hfin := of_below hbn
    exact ((hfin.setCell (p := ⟨w.heap.size + 1, 0, none⟩) (by simp) _).setCell (p := ⟨w.heap.size + 1, 1, none⟩) (by simp) _).setCell (p := ⟨w.heap.size + 1, 2, none⟩) (by simp) _
theorem rof_calls (N S b : Int) (w : World) :
    Calls Try.prog 47 #[.agg #[.int .i64 N, .int .i64 S], .int .i64 b] w fun e w' => e = .returned (.tuple #[.agg #[.int .i64 (ofQ N S b), .int .i64 (ofR N S b), .int .i64 (ofD N S b)], .int .i64 (ofE N S b)]) ∧ Below w.heap.size w w' := by
  unfold ofQ ofR ofD ofE
  cases h : inZ N S b with
  | true => obtain ⟨⟨h1, h2, h3, h4⟩, b1, b2⟩ := in_iff.1 h; exact rof_yes N S b w h1 h2 h3 h4 b1 b2
  | false => exact rof_no N S b w h

end Go.Proofs.Ytekjhhiamboffaa
