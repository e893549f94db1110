/-
  The contracts of package plat: Right, Blocks, Parity, has, NodeOf, ColumnOf, Of, Block, for all geometries and numbers. Condition: the numbers are Go's.
-/
import Derived.Test.YtekjhhiamboffaaPlatMath
import Derived.Test.YtekjhhiamboffaaProg
import Derived.Deep.QuietTactic
import Derived.BigQuiet
import Derived.Deep.RegionHeld3
namespace Go.Proofs.Ytekjhhiamboffaa
open Go.RowKit

theorem right_yes (N S : Int) (w : World) (h1 : 3 ≤ N) (h2 : N ≤ 6) (h3 : 1 ≤ S) (h4 : S ≤ 8) :
    Calls Try.prog 32 #[.agg #[.int .i64 N, .int .i64 S]] w fun e w' => e = .returned (.bool true) ∧ Below w.heap.size w w' := by
  go_enter Try.func32, Try.ntmps32
  go_wp2
  go_ret
  exact ⟨rfl, bel_alloc (Below.refl _ _) _⟩
theorem right_no (N S : Int) (w : World) (h : rightZ N S = false) :
    Calls Try.prog 32 #[.agg #[.int .i64 N, .int .i64 S]] w fun e w' => e = .returned (.bool false) ∧ Below w.heap.size w w' := by
  have h' := not_right h
  clear h
  rcases (show N < 3 ∨ 6 < N ∨ (3 ≤ N ∧ N ≤ 6 ∧ S < 1) ∨ (3 ≤ N ∧ N ≤ 6 ∧ 8 < S) by omega) with g | g | ⟨g1, g2, g⟩ | ⟨g1, g2, g⟩
  all_goals
    clear h'
    by_cases k1 : S < 1 <;> by_cases k2 : 8 < S
    all_goals first | (exfalso; omega) | skip
    all_goals
      go_enter Try.func32, Try.ntmps32
      go_wp2
      go_ret
      refine ⟨?_, bel_alloc (Below.refl _ _) _⟩
      first | rfl | (simp; omega)
theorem right_calls (N S : Int) (w : World) :
    Calls Try.prog 32 #[.agg #[.int .i64 N, .int .i64 S]] w fun e w' => e = .returned (.bool (rightZ N S)) ∧ Below w.heap.size w w' := by
  cases h : rightZ N S with
  | true => obtain ⟨h1, h2, h3, h4⟩ := right_iff.1 h; exact right_yes N S w h1 h2 h3 h4
  | false => exact right_no N S w h

/-- the geometry that was handed in, in the box that the call makes of it -/
def geoBox (N S : Int) : Obj := .cells #[.int .i64 N, .int .i64 S] 23
theorem geo0 {w w1 : World} {N S : Int} (hb : Below (w.alloc (geoBox N S)).heap.size (w.alloc (geoBox N S)) w1) : w1.cell? ⟨w.heap.size, 0, none⟩ = some (.int .i64 N) :=
  (hb.cell (p := ⟨w.heap.size, 0, none⟩) (by simp)).trans (World.cell?_alloc_mark w _ _ _ 0)
theorem geo1 {w w1 : World} {N S : Int} (hb : Below (w.alloc (geoBox N S)).heap.size (w.alloc (geoBox N S)) w1) : w1.cell? ⟨w.heap.size, 1, none⟩ = some (.int .i64 S) :=
  (hb.cell (p := ⟨w.heap.size, 1, none⟩) (by simp)).trans (World.cell?_alloc_mark w _ _ _ 1)
theorem geo_below {w w1 : World} {N S : Int} (hb : Below (w.alloc (geoBox N S)).heap.size (w.alloc (geoBox N S)) w1) : Below w.heap.size w w1 := bel_call (bel_alloc (Below.refl _ _) _) hb

theorem blocks_yes (N S : Int) (w : World) (h1 : 3 ≤ N) (h2 : N ≤ 6) (h3 : 1 ≤ S) (h4 : S ≤ 8) :
    Calls Try.prog 44 #[.agg #[.int .i64 N, .int .i64 S]] w fun e w' => e = .returned (.int .i64 (S * (N - 1))) ∧ Below w.heap.size w w' := by
  have k1 : 0 ≤ S * (N - 1) := Int.mul_nonneg (by omega) (by omega)
  have k2 : S * (N - 1) ≤ 40 := Int.le_trans (Int.mul_le_mul h4 (show N - 1 ≤ 5 by omega) (by omega) (by omega)) (by omega)
  go_enter Try.func44, Try.ntmps44
  go_wp2_with (go_at_call 32; refine (right_yes N S _ h1 h2 h3 h4).mono ?_; rintro e w1 ⟨rfl, hb⟩; have hc0 := geo0 hb; have hc1 := geo1 hb)
  go_ret
  exact ⟨rfl, geo_below hb⟩
theorem blocks_calls (N S : Int) (w : World) :
    Calls Try.prog 44 #[.agg #[.int .i64 N, .int .i64 S]] w fun e w' => e = .returned (.int .i64 (blocksZ N S)) ∧ Below w.heap.size w w' := by
  cases h : rightZ N S with
  | true => obtain ⟨h1, h2, h3, h4⟩ := right_iff.1 h; unfold blocksZ; rw [if_pos h]; exact blocks_yes N S w h1 h2 h3 h4
  | false =>
    unfold blocksZ
    rw [if_neg (by rw [h]; simp)]
    go_enter Try.func44, Try.ntmps44
    go_wp2_with (go_at_call 32; refine (right_no N S _ h).mono ?_; rintro e w1 ⟨rfl, hb⟩)
    go_ret
    exact ⟨rfl, geo_below hb⟩

theorem parity_yes (N S : Int) (w : World) (h1 : 3 ≤ N) (h2 : N ≤ 6) (h3 : 1 ≤ S) (h4 : S ≤ 8) :
    Calls Try.prog 46 #[.agg #[.int .i64 N, .int .i64 S]] w fun e w' => e = .returned (.int .i64 (N - 1)) ∧ Below w.heap.size w w' := by
  go_enter Try.func46, Try.ntmps46
  go_wp2_with (go_at_call 32; refine (right_yes N S _ h1 h2 h3 h4).mono ?_; rintro e w1 ⟨rfl, hb⟩; have hc0 := geo0 hb; have hc1 := geo1 hb)
  go_ret
  exact ⟨rfl, geo_below hb⟩
theorem parity_calls (N S : Int) (w : World) :
    Calls Try.prog 46 #[.agg #[.int .i64 N, .int .i64 S]] w fun e w' => e = .returned (.int .i64 (parityZ N S)) ∧ Below w.heap.size w w' := by
  cases h : rightZ N S with
  | true => obtain ⟨h1, h2, h3, h4⟩ := right_iff.1 h; unfold parityZ; rw [if_pos h]; exact parity_yes N S w h1 h2 h3 h4
  | false =>
    unfold parityZ
    rw [if_neg (by rw [h]; simp)]
    go_enter Try.func46, Try.ntmps46
    go_wp2_with (go_at_call 32; refine (right_no N S _ h).mono ?_; rintro e w1 ⟨rfl, hb⟩)
    go_ret
    exact ⟨rfl, geo_below hb⟩

theorem has_yes (N S s n : Int) (w : World) (h1 : 3 ≤ N) (h2 : N ≤ 6) (h3 : 1 ≤ S) (h4 : S ≤ 8) (s1 : 0 ≤ s) (s2 : s < S) (n1 : 0 ≤ n) (n2 : n < N) :
    Calls Try.prog 50 #[.agg #[.int .i64 N, .int .i64 S], .int .i64 s, .int .i64 n] w fun e w' => e = .returned (.bool true) ∧ Below w.heap.size w w' := by
  go_enter Try.func50, Try.ntmps50
  go_wp2_with (go_at_call 32; refine (right_yes N S _ h1 h2 h3 h4).mono ?_; rintro e w1 ⟨rfl, hb⟩; have hc0 := geo0 hb; have hc1 := geo1 hb)
  go_ret
  exact ⟨rfl, geo_below hb⟩
theorem has_no (N S s n : Int) (w : World) (hh : hasZ N S s n = false) :
    Calls Try.prog 50 #[.agg #[.int .i64 N, .int .i64 S], .int .i64 s, .int .i64 n] w fun e w' => e = .returned (.bool false) ∧ Below w.heap.size w w' := by
  have hh' := not_has hh
  clear hh
  cases h : rightZ N S with
  | false =>
    clear hh'
    go_enter Try.func50, Try.ntmps50
    go_wp2_with (go_at_call 32; refine (right_no N S _ h).mono ?_; rintro e w1 ⟨rfl, hb⟩)
    go_ret
    exact ⟨rfl, geo_below hb⟩
  | true =>
    obtain ⟨h1, h2, h3, h4⟩ := right_iff.1 h
    clear h
    rcases (show s < 0 ∨ (0 ≤ s ∧ S ≤ s) ∨ (0 ≤ s ∧ s < S ∧ n < 0) ∨ (0 ≤ s ∧ s < S ∧ 0 ≤ n ∧ N ≤ n) by omega) with g | ⟨g1, g⟩ | ⟨g1, g2, g⟩ | ⟨g1, g2, g3, g⟩
    all_goals
      clear hh'
      go_enter Try.func50, Try.ntmps50
      go_wp2_with (go_at_call 32; refine (right_yes N S _ h1 h2 h3 h4).mono ?_; rintro e w1 ⟨rfl, hb⟩; have hc0 := geo0 hb; have hc1 := geo1 hb)
      go_ret
      refine ⟨?_, geo_below hb⟩
      first
        | rfl
        | (show Ending.returned (.bool (decide (n < N))) = _; rw [decide_eq_false (by omega)])

theorem node_yes (N S s n : Int) (w : World) (h1 : 3 ≤ N) (h2 : N ≤ 6) (h3 : 1 ≤ S) (h4 : S ≤ 8) (s1 : 0 ≤ s) (s2 : s < S) (n1 : 0 ≤ n) (n2 : n < N) :
    Calls Try.prog 48 #[.agg #[.int .i64 N, .int .i64 S], .int .i64 s, .int .i64 n] w fun e w' => e = .returned (.int .i64 ((n + s) % N)) ∧ Below w.heap.size w w' := by
  go_enter Try.func48, Try.ntmps48
  go_wp2_with (go_at_call 50; refine (has_yes N S s n _ h1 h2 h3 h4 s1 s2 n1 n2).mono ?_; rintro e w1 ⟨rfl, hb⟩; have hc0 := geo0 hb)
  go_ret
  exact ⟨rfl, geo_below hb⟩
theorem node_calls (N S s n : Int) (w : World) :
    Calls Try.prog 48 #[.agg #[.int .i64 N, .int .i64 S], .int .i64 s, .int .i64 n] w fun e w' => e = .returned (.int .i64 (nodeZ N S s n)) ∧ Below w.heap.size w w' := by
  cases h : hasZ N S s n with
  | true => obtain ⟨⟨h1, h2, h3, h4⟩, s1, s2, n1, n2⟩ := has_iff.1 h; unfold nodeZ; rw [if_pos h]; exact node_yes N S s n w h1 h2 h3 h4 s1 s2 n1 n2
  | false =>
    unfold nodeZ
    rw [if_neg (by rw [h]; simp)]
    go_enter Try.func48, Try.ntmps48
    go_wp2_with (go_at_call 50; refine (has_no N S s n _ h).mono ?_; rintro e w1 ⟨rfl, hb⟩)
    go_ret
    exact ⟨rfl, geo_below hb⟩

theorem block_bounds (N S b : Int) (h1 : 3 ≤ N) (b1 : 0 ≤ b) (b2 : b < S * (N - 1)) : 0 ≤ b / (N - 1) ∧ b / (N - 1) < S ∧ 0 ≤ b % (N - 1) ∧ b % (N - 1) < N - 1 :=
  ⟨Int.ediv_nonneg b1 (by omega), Int.ediv_lt_of_lt_mul (by omega) b2, Int.emod_nonneg _ (by omega), Int.emod_lt_of_pos _ (by omega)⟩

/-- a place in a box of its own -/
def placeBox (s c n : Int) : Obj := .cells #[.int .i64 s, .int .i64 c, .int .i64 n] 73
theorem pl0 {w w1 : World} {s c n : Int} (hb : Below (w.alloc (placeBox s c n)).heap.size (w.alloc (placeBox s c n)) w1) : w1.cell? ⟨w.heap.size, 0, none⟩ = some (.int .i64 s) :=
  (hb.cell (p := ⟨w.heap.size, 0, none⟩) (by simp)).trans (World.cell?_alloc_mark w _ _ _ 0)
theorem pl1 {w w1 : World} {s c n : Int} (hb : Below (w.alloc (placeBox s c n)).heap.size (w.alloc (placeBox s c n)) w1) : w1.cell? ⟨w.heap.size, 1, none⟩ = some (.int .i64 c) :=
  (hb.cell (p := ⟨w.heap.size, 1, none⟩) (by simp)).trans (World.cell?_alloc_mark w _ _ _ 1)
theorem pl2 {w w1 : World} {s c n : Int} (hb : Below (w.alloc (placeBox s c n)).heap.size (w.alloc (placeBox s c n)) w1) : w1.cell? ⟨w.heap.size, 2, none⟩ = some (.int .i64 n) :=
  (hb.cell (p := ⟨w.heap.size, 2, none⟩) (by simp)).trans (World.cell?_alloc_mark w _ _ _ 2)

/-- the box of the geometry, and the box of the place that is answered -/
def ofBoxes (w : World) (N S : Int) : World := (w.alloc (geoBox N S)).alloc (.cells #[.int .i64 0, .int .i64 0, .int .i64 0] 73)
theorem ofBoxes_size (w : World) (N S : Int) : (ofBoxes w N S).heap.size = w.heap.size + 2 := by simp [ofBoxes]
theorem of_geo0 {w w1 : World} {N S : Int} (hb : Below (ofBoxes w N S).heap.size (ofBoxes w N S) w1) : w1.cell? ⟨w.heap.size, 0, none⟩ = some (.int .i64 N) := by
  refine (hb.cell (p := ⟨w.heap.size, 0, none⟩) (by rw [ofBoxes_size]; simp)).trans ?_
  unfold ofBoxes
  rw [World.cell?_alloc_lt _ _ _ (by simp)]
  exact World.cell?_alloc_mark w _ _ _ 0
theorem of_geo1 {w w1 : World} {N S : Int} (hb : Below (ofBoxes w N S).heap.size (ofBoxes w N S) w1) : w1.cell? ⟨w.heap.size, 1, none⟩ = some (.int .i64 S) := by
  refine (hb.cell (p := ⟨w.heap.size, 1, none⟩) (by rw [ofBoxes_size]; simp)).trans ?_
  unfold ofBoxes
  rw [World.cell?_alloc_lt _ _ _ (by simp)]
  exact World.cell?_alloc_mark w _ _ _ 1
theorem of_res {w w1 : World} {N S : Int} (hb : Below (ofBoxes w N S).heap.size (ofBoxes w N S) w1) (j : Nat) (hj : j < 3) : w1.cell? ⟨w.heap.size + 1, j, none⟩ = some (.int .i64 0) := by
  refine (hb.cell (p := ⟨w.heap.size + 1, j, none⟩) (by rw [ofBoxes_size]; simp)).trans ?_
  unfold ofBoxes
  have h := World.cell?_alloc_mark (w.alloc (geoBox N S)) #[.int .i64 0, .int .i64 0, .int .i64 0] 73 (0, 0) j
  rw [World.size_alloc] at h
  rw [h]
  match j, hj with
  | 0, _ => rfl
  | 1, _ => rfl
  | 2, _ => rfl
theorem of_free {w w1 : World} {N S : Int} (hb : Below (ofBoxes w N S).heap.size (ofBoxes w N S) w1) (j : Nat) : w1.frozen? ⟨w.heap.size + 1, j, none⟩ = false := by
  refine (hb.frozen (p := ⟨w.heap.size + 1, j, none⟩) (by rw [ofBoxes_size]; simp)).trans ?_
  unfold ofBoxes
  have h := World.frozen?_alloc_mark (w.alloc (geoBox N S)) #[.int .i64 0, .int .i64 0, .int .i64 0] 73 0 0 j
  rw [World.size_alloc] at h
  rw [h]
  simp
theorem of_below {w w1 : World} {N S : Int} (hb : Below (ofBoxes w N S).heap.size (ofBoxes w N S) w1) : Below w.heap.size w w1 :=
  bel_call (bel_alloc (bel_alloc (Below.refl _ _) _) _) hb

set_option maxHeartbeats 1000000 in
theorem of_yes (N S b : Int) (w : World) (h1 : 3 ≤ N) (h2 : N ≤ 6) (h3 : 1 ≤ S) (h4 : S ≤ 8) (b1 : 0 ≤ b) (b2 : b < S * (N - 1)) :
    Calls Try.prog 45 #[.agg #[.int .i64 N, .int .i64 S], .int .i64 b] w fun e w' => e = .returned (.tuple #[.agg #[.int .i64 (b / (N - 1)), .int .i64 (b % (N - 1)), .int .i64 ((b % (N - 1) + b / (N - 1)) % N)], .int .i64 0]) ∧ Below w.heap.size w w' := by
  have k1 : 0 ≤ S * (N - 1) := Int.mul_nonneg (by omega) (by omega)
  have k2 : S * (N - 1) ≤ 40 := Int.le_trans (Int.mul_le_mul h4 (show N - 1 ≤ 5 by omega) (by omega) (by omega)) (by omega)
  obtain ⟨q1, q2, q3, q4⟩ := block_bounds N S b h1 b1 b2
  have d1 : decide (b < 0) = false := by simp; omega
  have d2 : decide (S * (N - 1) ≤ b) = false := by simp; omega
  have hd0 : ¬ N - 1 = 0 := by omega
  have hd1 : (N - 1 == 0) = false := by simp; omega
  have hw1 : IntKind.i64.wrap (b.tdiv (N - 1)) = b / (N - 1) := IntWalk.i64_quo _ _ (by omega)
  have hw2 : b.tmod (N - 1) = b % (N - 1) := IntWalk.rem_in _ _ b1
  go_enter Try.func45, Try.ntmps45
  go_wp2_with (first
    | (go_at_call 44; refine (blocks_yes N S _ h1 h2 h3 h4).mono ?_; rintro e w1 ⟨rfl, hb⟩; have hbb : Below (ofBoxes w N S).heap.size (ofBoxes w N S) w1 := hb; clear hb))
  have hc0 := of_geo0 hbb
  have hc1 := of_geo1 hbb
  go_region_held3 (fun w' => w'.cell? ⟨w.heap.size, 0, none⟩ = some (.int .i64 N) ∧ w'.cell? ⟨w.heap.size, 1, none⟩ = some (.int .i64 S) ∧ Below (ofBoxes w N S).heap.size (ofBoxes w N S) w')
    (first
      | exact ⟨hc0, hc1, hbb.drew⟩
      | exact ⟨hc0, hc1, hbb⟩
      | (refine ⟨?_, ?_, ?_⟩ <;> assumption))
    (first
      | (go_at_call 46; go_split_ands; refine (parity_yes N S _ h1 h2 h3 h4).mono ?_; rintro e w2 ⟨rfl, hk⟩; have hbk := Below.trans (by assumption : Below (ofBoxes w N S).heap.size (ofBoxes w N S) _) (hk.mono (Below.size (by assumption : Below (ofBoxes w N S).heap.size (ofBoxes w N S) _))); have hck0 := of_geo0 hbk; have hck1 := of_geo1 hbk; clear hk))
  have hnode : IntKind.i64.wrap (b % (N - 1) + b / (N - 1)) = b % (N - 1) + b / (N - 1) := IntWalk.i64_in _ (by omega)
  go_wp2_with (go_at_call 48; refine (node_yes N S (b / (N - 1)) (b % (N - 1)) _ h1 h2 h3 h4 q1 q2 q3 (by omega)).mono ?_; rintro e w3 ⟨rfl, hk⟩; have hbn := hbk.trans (hk.mono hbk.size); have hr0 := of_res hbn 0 (by decide); have hr1 := of_res hbn 1 (by decide); have hr2 := of_res hbn 2 (by decide); have hf0 := of_free hbn 0; have hf1 := of_free hbn 1; have hf2 := of_free hbn 2; clear hk)
  refine bodyPost_ret (v := .tuple #[.agg #[.int .i64 (b / (N - 1)), .int .i64 (b % (N - 1)), .int .i64 ((b % (N - 1) + b / (N - 1)) % N)], .int .i64 0]) (by simp [results, Try.results45, go_sem, hr0, hr1, hr2]) rfl ⟨rfl, ?_⟩
  have hfin := of_below hbn
  exact ((hfin.setCell (p := ⟨w.heap.size + 1, 0, none⟩) (by simp) _).setCell (p := ⟨w.heap.size + 1, 1, none⟩) (by simp) _).setCell (p := ⟨w.heap.size + 1, 2, none⟩) (by simp) _

theorem of_no (N S b : Int) (w : World) (h : inZ N S b = false) :
    Calls Try.prog 45 #[.agg #[.int .i64 N, .int .i64 S], .int .i64 b] w fun e w' => e = .returned (.tuple #[.agg #[.int .i64 0, .int .i64 0, .int .i64 0], .int .i64 50]) ∧ Below w.heap.size w w' := by
  have hn : ¬ (0 ≤ b ∧ b < blocksZ N S) := of_decide_eq_false h
  clear h
  by_cases b0 : b < 0
  · clear hn
    go_enter Try.func45, Try.ntmps45
    go_wp2
    refine bodyPost_ret (v := .tuple #[.agg #[.int .i64 0, .int .i64 0, .int .i64 0], .int .i64 50]) (by simp [results, Try.results45, go_sem]) rfl ⟨rfl, ?_⟩
    go_grown
  · have hge : blocksZ N S ≤ b := by omega
    clear hn
    obtain ⟨B, hB⟩ : ∃ B, B = blocksZ N S := ⟨_, rfl⟩
    have HB := Lib.hid hB
    rw [← hB] at hge
    clear hB
    have d1 : decide (b < 0) = false := by simp; omega
    have d2 : decide (B ≤ b) = true := by simp; omega
    go_enter Try.func45, Try.ntmps45
    go_wp2_with (go_at_call 44; refine (blocks_calls N S _).mono ?_; rintro e w1 ⟨rfl, hb⟩; rw [← HB.out]; have hbn : Below (ofBoxes w N S).heap.size (ofBoxes w N S) w1 := hb; have hr0 := of_res hbn 0 (by decide); have hr1 := of_res hbn 1 (by decide); have hr2 := of_res hbn 2 (by decide); have hf0 := of_free hbn 0; have hf1 := of_free hbn 1; have hf2 := of_free hbn 2; clear hb)
    refine bodyPost_ret (v := .tuple #[.agg #[.int .i64 0, .int .i64 0, .int .i64 0], .int .i64 50]) (by simp [results, Try.results45, go_sem, hr0, hr1, hr2]) rfl ⟨rfl, ?_⟩
    have hfin := of_below hbn
    exact ((hfin.setCell (p := ⟨w.heap.size + 1, 0, none⟩) (by simp) _).setCell (p := ⟨w.heap.size + 1, 1, none⟩) (by simp) _).setCell (p := ⟨w.heap.size + 1, 2, none⟩) (by simp) _

/-- where a block stands, and the error's number -/
def ofZ (N S b : Int) : Value := if inZ N S b then .tuple #[.agg #[.int .i64 (b / (N - 1)), .int .i64 (b % (N - 1)), .int .i64 ((b % (N - 1) + b / (N - 1)) % N)], .int .i64 0] else .tuple #[.agg #[.int .i64 0, .int .i64 0, .int .i64 0], .int .i64 50]
theorem in_iff {N S b : Int} : inZ N S b = true ↔ (3 ≤ N ∧ N ≤ 6 ∧ 1 ≤ S ∧ S ≤ 8) ∧ 0 ≤ b ∧ b < S * (N - 1) := by
  unfold inZ blocksZ
  rw [decide_eq_true_iff]
  by_cases h : rightZ N S = true
  · rw [if_pos h]; exact ⟨fun h' => ⟨right_iff.1 h, h'⟩, fun h' => h'.2⟩
  · rw [if_neg h]; exact ⟨fun h' => by omega, fun h' => absurd (right_iff.2 h'.1) h⟩

theorem bears_iff {N S s c : Int} : bearsZ N S s c = true ↔ hasZ N S s c = true ∧ c ≠ N - 1 := by simp [bearsZ]

/-- which block stands there, and whether one does -/
def blockV (N S s c : Int) : Int := if bearsZ N S s c then s * (N - 1) + c else 0
theorem of_v (N S b q r d : Int) (w : World) (hs : Stands N b q r d) (h1 : 3 ≤ N) (h2 : N ≤ 6) (h3 : 1 ≤ S) (h4 : S ≤ 8) (b1 : 0 ≤ b) (b2 : b < S * (N - 1)) :
    Calls Try.prog 45 #[.agg #[.int .i64 N, .int .i64 S], .int .i64 b] w fun e w' => e = .returned (.tuple #[.agg #[.int .i64 q, .int .i64 r, .int .i64 d], .int .i64 0]) ∧ Below w.heap.size w w' := by
  obtain ⟨rfl, rfl, rfl⟩ := hs
  exact of_yes N S b w h1 h2 h3 h4 b1 b2
theorem stands (N S b : Int) (h1 : 3 ≤ N) (h2 : N ≤ 6) (b1 : 0 ≤ b) (b2 : b < S * (N - 1)) : ∃ q r d : Int, Stands N b q r d ∧ 0 ≤ q ∧ q < S ∧ 0 ≤ r ∧ r < N - 1 ∧ 0 ≤ d ∧ d < N := by
  obtain ⟨q1, q2, q3, q4⟩ := block_bounds N S b h1 b1 b2
  exact ⟨_, _, _, ⟨rfl, rfl, rfl⟩, q1, q2, q3, q4, Int.emod_nonneg _ (by omega), Int.emod_lt_of_pos _ (by omega)⟩

theorem node_v (N S s n d : Int) (w : World) (hd : d = (n + s) % N) (h1 : 3 ≤ N) (h2 : N ≤ 6) (h3 : 1 ≤ S) (h4 : S ≤ 8) (s1 : 0 ≤ s) (s2 : s < S) (n1 : 0 ≤ n) (n2 : n < N) :
    Calls Try.prog 48 #[.agg #[.int .i64 N, .int .i64 S], .int .i64 s, .int .i64 n] w fun e w' => e = .returned (.int .i64 d) ∧ Below w.heap.size w w' := by
  subst hd
  exact node_yes N S s n w h1 h2 h3 h4 s1 s2 n1 n2
theorem geoS {w w1 : World} {N S : Int} (hb : Below (w.alloc (geoBox N S)).heap.size (w.alloc (geoBox N S)) w1) :
    w1.cell? ⟨w.heap.size, 0, none⟩ = some (.int .i64 N) ∧ w1.cell? ⟨w.heap.size, 1, none⟩ = some (.int .i64 S) ∧ Below (w.alloc (geoBox N S)).heap.size (w.alloc (geoBox N S)) w1 := ⟨geo0 hb, geo1 hb, hb⟩
end Go.Proofs.Ytekjhhiamboffaa
