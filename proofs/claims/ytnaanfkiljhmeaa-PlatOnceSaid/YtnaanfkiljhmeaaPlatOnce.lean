/-
  PlatOnce: no two blocks stand in one place, and Block undoes Of: for any raw geometry and numbers. No condition.
-/
import Derived.Test.YtnaanfkiljhmeaaFit05
import Derived.Test.YtnaanfkiljhmeaaTakes
namespace Go.Proofs.Ytnaanfkiljhmeaa
open Go.RowKit

theorem once_law {N x y q r d q' r' d' : Int} (n1 : 3 ≤ N) (n2 : N ≤ 6) (hx : Stands N x q r d) (hy : Stands N y q' r' d') : (x = y ∧ q = q' ∧ r = r' ∧ d = d') ∨ (x ≠ y ∧ q ≠ q') ∨ (x ≠ y ∧ q = q' ∧ r ≠ r' ∧ d ≠ d') := by
  obtain ⟨rfl, rfl, rfl⟩ := hx
  obtain ⟨rfl, rfl, rfl⟩ := hy
  rcases (show N = 3 ∨ N = 4 ∨ N = 5 ∨ N = 6 by omega) with rfl | rfl | rfl | rfl <;> omega
theorem onceS {w w4 w5 w' : World} {N S q r d q' r' d' : Int} (hG : Below (w.alloc (geoBox N S)).heap.size (w.alloc (geoBox N S)) w4) (hP : Below (w4.alloc (placeBox q r d)).heap.size (w4.alloc (placeBox q r d)) w5)
    (hQ : Below (w5.alloc (placeBox q' r' d')).heap.size (w5.alloc (placeBox q' r' d')) w') :
    w'.cell? ⟨w.heap.size, 0, none⟩ = some (.int .i64 N) ∧ w'.cell? ⟨w.heap.size, 1, none⟩ = some (.int .i64 S) ∧ w'.cell? ⟨w4.heap.size, 0, none⟩ = some (.int .i64 q) ∧ w'.cell? ⟨w4.heap.size, 1, none⟩ = some (.int .i64 r) ∧ w'.cell? ⟨w4.heap.size, 2, none⟩ = some (.int .i64 d) ∧
      w'.cell? ⟨w5.heap.size, 0, none⟩ = some (.int .i64 q') ∧ w'.cell? ⟨w5.heap.size, 1, none⟩ = some (.int .i64 r') ∧ w'.cell? ⟨w5.heap.size, 2, none⟩ = some (.int .i64 d') ∧ Below (w5.alloc (placeBox q' r' d')).heap.size (w5.alloc (placeBox q' r' d')) w' := by
  have h1 := bel_call (bel_alloc hP _) hQ
  have h0 := bel_call (bel_alloc hG _) h1
  exact ⟨geo0 h0, geo1 h0, pl0 h1, pl1 h1, pl2 h1, pl0 hQ, pl1 hQ, pl2 hQ, hQ⟩
theorem block_v (N S b q r d : Int) (w : World) (hs : Stands N b q r d) (h1 : 3 ≤ N) (h2 : N ≤ 6) (h3 : 1 ≤ S) (h4 : S ≤ 8) (b1 : 0 ≤ b) (b2 : b < S * (N - 1)) :
    Calls Try.prog 18 #[.agg #[.int .i64 N, .int .i64 S], .int .i64 q, .int .i64 r] w fun e w' => e = .returned (.tuple #[.int .i64 b, .bool true]) ∧ Below w.heap.size w w' := by
  obtain ⟨q1, q2, q3, q4⟩ := block_bounds N S b h1 b1 b2
  obtain ⟨rfl, rfl, rfl⟩ := hs
  refine (block_yes N S _ _ w h1 h2 h3 h4 q1 q2 q3 q4).mono ?_
  rintro e w' ⟨rfl, hk⟩
  refine ⟨?_, hk⟩
  rw [Int.mul_comm, Int.mul_ediv_add_emod]

set_option maxRecDepth 100000 in
set_option maxHeartbeats 2000000 in
theorem platOnce_walk (a0 b0 : Int) (a b : Int) (w : World) (ha1 : -9223372036854775808 ≤ a0) (ha2 : a0 ≤ 9223372036854775807) (hb1 : -9223372036854775808 ≤ b0) (hb2 : b0 ≤ 9223372036854775807)
    (x1 : -9223372036854775808 ≤ a) (x2 : a ≤ 9223372036854775807) (y1 : -9223372036854775808 ≤ b) (y2 : b ≤ 9223372036854775807) :
    Calls Try.prog 5 #[.agg #[.int .i64 a0, .int .i64 b0], .int .i64 a, .int .i64 b] w fun e w' => e = .returned (.bool true) ∧ Below w.heap.size w w' := by
  go_enter Try.func5, Try.ntmps5
  go_wp2_with (first
    | (go_at_call 11; refine (awake05_calls _).mono ?_; rintro e w1 ⟨rfl, hk⟩; have hR : Below (w.alloc (geoBox a0 b0)).heap.size (w.alloc (geoBox a0 b0)) w1 := hk; have r0 := geo0 hR; have r1 := geo1 hR; clear hk)
    | (go_at_call 12; (refine (fit_calls a0 b0 _ ha1 ha2 hb1 hb2).mono ?_); rintro e w2 ⟨N, S, n1, n2, s1, s2, rfl, hk⟩; replace hR := bel_call hR hk; have hG : Below (w2.alloc (geoBox N S)).heap.size (w2.alloc (geoBox N S)) (w2.alloc (geoBox N S)) := Below.refl _ _; obtain ⟨k1, k2⟩ := prod_bounds n1 n2 s1 s2; clear hk)
    | (go_at_call 16; (refine (blocks_yes N S _ n1 n2 s1 s2).mono ?_); rintro e w3 ⟨rfl, hk⟩; replace hG := bel_call hG hk; have g0 := geo0 hG; have g1 := geo1 hG; clear hk)
    | (go_at_call_of 13 (Value.int .i64 a); (refine (pick05_int a _ _ x1 x2 (by omega) (by omega)).mono ?_); rintro e w' ⟨x, hx1, hx2, rfl, rfl⟩; obtain ⟨q, r, d, hst, hq1, hq2, hr1, hr2, hd1, hd2⟩ := stands N S x n1 n2 hx1 hx2; have HST := Lib.hid hst; clear hst)
    | (go_at_call_of 13 (Value.int .i64 b); (refine (pick05_int b _ _ y1 y2 (by omega) (by omega)).mono ?_); rintro e w' ⟨y, hy1, hy2, rfl, rfl⟩; obtain ⟨q', r', d', hst', hq1', hq2', hr1', hr2', hd1', hd2'⟩ := stands N S y n1 n2 hy1 hy2; have HST' := Lib.hid hst'; clear hst')
    | (go_at_call_of 17 (Value.int .i64 x); (refine (of_v N S x q r d _ HST.out n1 n2 s1 s2 hx1 hx2).mono ?_); rintro e w4 ⟨rfl, hk⟩; replace hG := bel_call hG hk; have hP : Below (w4.alloc (placeBox q r d)).heap.size (w4.alloc (placeBox q r d)) (w4.alloc (placeBox q r d)) := Below.refl _ _; have g2 := geo0 (bel_alloc hG (placeBox q r d)); have g3 := geo1 (bel_alloc hG (placeBox q r d)); unfold placeBox at g2 g3; clear hk)
    | (go_at_call_of 17 (Value.int .i64 y); (refine (of_v N S y q' r' d' _ HST'.out n1 n2 s1 s2 hy1 hy2).mono ?_); rintro e w5 ⟨rfl, hk⟩; replace hP := bel_call hP hk; have hQ : Below (w5.alloc (placeBox q' r' d')).heap.size (w5.alloc (placeBox q' r' d')) (w5.alloc (placeBox q' r' d')) := Below.refl _ _; have hc := onceS hG hP hQ; unfold placeBox at hc; obtain ⟨c0, c1, c2, c3, c4, c5, c6, c7, -⟩ := hc; clear hk)
    | (go_at_call 18; (refine (block_v N S x q r d _ HST.out n1 n2 s1 s2 hx1 hx2).mono ?_); rintro e w6 ⟨rfl, hk⟩; replace hQ := bel_call hQ hk; clear hk))
  clear c0 c1 c2 c3 c4 c5 c6 c7 g0 g1 g2 g3
  have hrN : r ≠ N - 1 := by omega
  rcases once_law n1 n2 HST.out HST'.out with ⟨e1, e2, e3, e4⟩ | ⟨e1, e2⟩ | ⟨e1, e2, e3, e4⟩
  · have b1 : (x == y) = true := by rw [beq_iff_eq]; exact e1
    have b2 : (q == q') = true := by rw [beq_iff_eq]; exact e2
    have b3 : (r == r') = true := by rw [beq_iff_eq]; exact e3
    have b4 : (d == d') = true := by rw [beq_iff_eq]; exact e4
    clear e1 e2 e3 e4
    go_region_held3 (fun w' => w'.cell? ⟨w2.heap.size, 0, none⟩ = some (.int .i64 N) ∧ w'.cell? ⟨w2.heap.size, 1, none⟩ = some (.int .i64 S) ∧ w'.cell? ⟨w4.heap.size, 0, none⟩ = some (.int .i64 q) ∧ w'.cell? ⟨w4.heap.size, 1, none⟩ = some (.int .i64 r) ∧ w'.cell? ⟨w4.heap.size, 2, none⟩ = some (.int .i64 d) ∧
      w'.cell? ⟨w5.heap.size, 0, none⟩ = some (.int .i64 q') ∧ w'.cell? ⟨w5.heap.size, 1, none⟩ = some (.int .i64 r') ∧ w'.cell? ⟨w5.heap.size, 2, none⟩ = some (.int .i64 d') ∧ Below (w5.alloc (placeBox q' r' d')).heap.size (w5.alloc (placeBox q' r' d')) w')
      (first | exact onceS hG hP hQ.drew | exact onceS hG hP hbx)
      (first
        | (go_at_call 15; go_split_ands; refine (parity_yes N S _ n1 n2 s1 s2).mono ?_; rintro e w7 ⟨rfl, hk⟩; have hbx := bel_call (by assumption : Below (w5.alloc (placeBox q' r' d')).heap.size (w5.alloc (placeBox q' r' d')) _) hk; clear hk))
    go_wp2_with fail
    go_ret
    exact ⟨congrArg (fun t => Ending.returned (Value.bool t)) (bne_iff_ne.2 hrN), bel_call (geo_below hR) (bel_call (geo_below hG) (bel_call (bel_call (bel_alloc (Below.refl _ _) _) hP) (bel_call (bel_alloc (Below.refl _ _) _) (by assumption))))⟩
  · have b1 : (x == y) = false := by rw [beq_eq_false_iff_ne]; exact e1
    have b2 : (q == q') = false := by rw [beq_eq_false_iff_ne]; exact e2
    clear e1 e2
    refine wp_region_held_drew (S := (fun w' => w'.cell? ⟨w2.heap.size, 0, none⟩ = some (.int .i64 N) ∧ w'.cell? ⟨w2.heap.size, 1, none⟩ = some (.int .i64 S) ∧ w'.cell? ⟨w4.heap.size, 0, none⟩ = some (.int .i64 q) ∧ w'.cell? ⟨w4.heap.size, 1, none⟩ = some (.int .i64 r) ∧ w'.cell? ⟨w4.heap.size, 2, none⟩ = some (.int .i64 d) ∧ w'.cell? ⟨w5.heap.size, 0, none⟩ = some (.int .i64 q') ∧ w'.cell? ⟨w5.heap.size, 1, none⟩ = some (.int .i64 r') ∧ w'.cell? ⟨w5.heap.size, 2, none⟩ = some (.int .i64 d') ∧ Below (w5.alloc (placeBox q' r' d')).heap.size (w5.alloc (placeBox q' r' d')) w')) (by kernel_rfl) (by first | exact onceS hG hP hQ.drew | exact onceS hG hP hbx) (fun hHeld => ?_)
    refine take_ok 0 (v := ?v0) rfl (by kernel_rfl) (by kernel_rfl) (by kernel_rfl) (fun _ _ _ h => h) (by rfl) ?y0 (by assumption) ?r0
    case y0 => (intro w hSw; (try dsimp only at hSw); go_simp); with_reducible rfl
    simp only [Act.put, List.setIfInBounds_toArray, List.set_cons_zero, List.set_cons_succ]
    refine take_ok 1 (v := ?v1) rfl (by kernel_rfl) (by kernel_rfl) (by kernel_rfl) (fun _ _ _ h => h) (by rfl) ?y1 (by assumption) ?r1
    case y1 => (intro w hSw; (try dsimp only at hSw); go_simp); with_reducible rfl
    simp only [Act.put, List.setIfInBounds_toArray, List.set_cons_zero, List.set_cons_succ]
    refine take_ok 2 (v := ?v2) rfl (by kernel_rfl) (by kernel_rfl) (by kernel_rfl) (fun _ _ _ h => h) (by rfl) ?y2 (by assumption) ?r2
    case y2 => (intro w hSw; (try dsimp only at hSw); go_simp); with_reducible rfl
    simp only [Act.put, List.setIfInBounds_toArray, List.set_cons_zero, List.set_cons_succ]
    refine take_ok 3 (v := ?v3) rfl (by kernel_rfl) (by kernel_rfl) (by kernel_rfl) (fun _ _ _ h => h) (by rfl) ?y3 (by assumption) ?r3
    case y3 => (intro w hSw; (try dsimp only at hSw); go_simp); with_reducible rfl
    simp only [Act.put, List.setIfInBounds_toArray, List.set_cons_zero, List.set_cons_succ]
    refine take_ok 4 (v := ?v4) rfl (by kernel_rfl) (by kernel_rfl) (by kernel_rfl) (fun _ _ _ h => h) (by rfl) ?y4 (by assumption) ?r4
    case y4 => (intro w hSw; (try dsimp only at hSw); go_simp); with_reducible rfl
    simp only [Act.put, List.setIfInBounds_toArray, List.set_cons_zero, List.set_cons_succ]
    refine take_ok 5 (v := ?v5) rfl (by kernel_rfl) (by kernel_rfl) (by kernel_rfl) (fun _ _ _ h => h) (by rfl) ?y5 (by assumption) ?r5
    case y5 => (intro w hSw; (try dsimp only at hSw); go_simp); with_reducible rfl
    simp only [Act.put, List.setIfInBounds_toArray, List.set_cons_zero, List.set_cons_succ]
    refine take_ok 6 (v := ?v6) rfl (by kernel_rfl) (by kernel_rfl) (by kernel_rfl) (fun _ _ _ h => h) (by rfl) ?y6 (by assumption) ?r6
    case y6 => (intro w hSw; (try dsimp only at hSw); go_simp); with_reducible rfl
    simp only [Act.put, List.setIfInBounds_toArray, List.set_cons_zero, List.set_cons_succ]
    refine take_ok 7 (v := ?v7) rfl (by kernel_rfl) (by kernel_rfl) (by kernel_rfl) (fun _ _ _ h => h) (by rfl) ?y7 (by assumption) ?r7
    case y7 => (intro w hSw; (try dsimp only at hSw); go_simp); with_reducible rfl
    simp only [Act.put, List.setIfInBounds_toArray, List.set_cons_zero, List.set_cons_succ]
    refine take_ok 8 (v := ?v8) rfl (by kernel_rfl) (by kernel_rfl) (by kernel_rfl) (fun _ _ _ h => h) (by rfl) ?y8 (by assumption) ?r8
    case y8 => (intro w hSw; (try dsimp only at hSw); go_simp); with_reducible rfl
    simp only [Act.put, List.setIfInBounds_toArray, List.set_cons_zero, List.set_cons_succ]
    refine take_ok 9 (v := ?v9) rfl (by kernel_rfl) (by kernel_rfl) (by kernel_rfl) (fun _ _ _ h => h) (by rfl) ?y9 (by assumption) ?r9
    case y9 => (intro w hSw; (try dsimp only at hSw); go_simp); with_reducible rfl
    simp only [Act.put, List.setIfInBounds_toArray, List.set_cons_zero, List.set_cons_succ]
    refine take_ok 10 (v := ?v10) rfl (by kernel_rfl) (by kernel_rfl) (by kernel_rfl) (fun _ _ _ h => h) (by rfl) ?y10 (by assumption) ?r10
    case y10 => (intro w hSw; (try dsimp only at hSw); go_simp); with_reducible rfl
    simp only [Act.put, List.setIfInBounds_toArray, List.set_cons_zero, List.set_cons_succ]
    refine take_ok 11 (v := ?v11) rfl (by kernel_rfl) (by kernel_rfl) (by kernel_rfl) (fun _ _ _ h => h) (by rfl) ?y11 (by assumption) ?r11
    case y11 => (intro w hSw; (try dsimp only at hSw); go_simp); with_reducible rfl
    simp only [Act.put, List.setIfInBounds_toArray, List.set_cons_zero, List.set_cons_succ]
    refine take_ok 12 (v := ?v12) rfl (by kernel_rfl) (by kernel_rfl) (by kernel_rfl) (fun _ _ _ h => h) (by rfl) ?y12 (by assumption) ?r12
    case y12 => (intro w hSw; (try dsimp only at hSw); go_simp); with_reducible rfl
    simp only [Act.put, List.setIfInBounds_toArray, List.set_cons_zero, List.set_cons_succ]
    refine take_ok 13 (v := ?v13) rfl (by kernel_rfl) (by kernel_rfl) (by kernel_rfl) (fun _ _ _ h => h) (by rfl) ?y13 (by assumption) ?r13
    case y13 => (intro w hSw; (try dsimp only at hSw); go_simp); with_reducible rfl
    simp only [Act.put, List.setIfInBounds_toArray, List.set_cons_zero, List.set_cons_succ]
    refine take_ok 14 (v := ?v14) rfl (by kernel_rfl) (by kernel_rfl) (by kernel_rfl) (fun _ _ _ h => h) (by rfl) ?y14 (by assumption) ?r14
    case y14 => (intro w hSw; (try dsimp only at hSw); go_simp); with_reducible rfl
    simp only [Act.put, List.setIfInBounds_toArray, List.set_cons_zero, List.set_cons_succ]
    refine take_ok 15 (v := ?v15) rfl (by kernel_rfl) (by kernel_rfl) (by kernel_rfl) (fun _ _ _ h => h) (by rfl) ?y15 (by assumption) ?r15
    case y15 => (intro w hSw; (try dsimp only at hSw); go_simp); with_reducible rfl
    simp only [Act.put, List.setIfInBounds_toArray, List.set_cons_zero, List.set_cons_succ]
    refine take_ok 16 (v := ?v16) rfl (by kernel_rfl) (by kernel_rfl) (by kernel_rfl) (fun _ _ _ h => h) (by rfl) ?y16 (by assumption) ?r16
    case y16 => (intro w hSw; (try dsimp only at hSw); go_simp); with_reducible rfl
    simp only [Act.put, List.setIfInBounds_toArray, List.set_cons_zero, List.set_cons_succ]
    refine take_ok 17 (v := ?v17) rfl (by kernel_rfl) (by kernel_rfl) (by kernel_rfl) (fun _ _ _ h => h) (by rfl) ?y17 (by assumption) ?r17
    case y17 => (intro w hSw; (try dsimp only at hSw); go_simp); with_reducible rfl
    simp only [Act.put, List.setIfInBounds_toArray, List.set_cons_zero, List.set_cons_succ]
    refine take_ok 18 (v := ?v18) rfl (by kernel_rfl) (by kernel_rfl) (by kernel_rfl) (fun _ _ _ h => h) (by rfl) ?y18 (by assumption) ?r18
    case y18 => (intro w hSw; (try dsimp only at hSw); go_simp); with_reducible rfl
    simp only [Act.put, List.setIfInBounds_toArray, List.set_cons_zero, List.set_cons_succ]
    refine take_ok 19 (v := ?v19) rfl (by kernel_rfl) (by kernel_rfl) (by kernel_rfl) (fun _ _ _ h => h) (by rfl) ?y19 (by assumption) ?r19
    case y19 => (intro w hSw; (try dsimp only at hSw); go_simp); with_reducible rfl
    simp only [Act.put, List.setIfInBounds_toArray, List.set_cons_zero, List.set_cons_succ]
    refine take_ok 20 (v := ?v20) rfl (by kernel_rfl) (by kernel_rfl) (by kernel_rfl) (fun _ _ _ h => h) (by rfl) ?y20 (by assumption) ?r20
    case y20 => (intro w hSw; (try dsimp only at hSw); go_simp); with_reducible rfl
    simp only [Act.put, List.setIfInBounds_toArray, List.set_cons_zero, List.set_cons_succ]
    refine take_ok 21 (v := ?v21) rfl (by kernel_rfl) (by kernel_rfl) (by kernel_rfl) (fun _ _ _ h => h) (by rfl) ?y21 (by assumption) ?r21
    case y21 => (intro w hSw; (try dsimp only at hSw); go_simp); with_reducible rfl
    simp only [Act.put, List.setIfInBounds_toArray, List.set_cons_zero, List.set_cons_succ]
    refine take_ok 22 (v := ?v22) rfl (by kernel_rfl) (by kernel_rfl) (by kernel_rfl) (fun _ _ _ h => h) (by rfl) ?y22 (by assumption) ?r22
    case y22 => (intro w hSw; (try dsimp only at hSw); go_simp); with_reducible rfl
    simp only [Act.put, List.setIfInBounds_toArray, List.set_cons_zero, List.set_cons_succ]
    refine take_ok 23 (v := ?v23) rfl (by kernel_rfl) (by kernel_rfl) (by kernel_rfl) (fun _ _ _ h => h) (by rfl) ?y23 (by assumption) ?r23
    case y23 => (intro w hSw; (try dsimp only at hSw); go_simp); with_reducible rfl
    simp only [Act.put, List.setIfInBounds_toArray, List.set_cons_zero, List.set_cons_succ]
    refine take_ok 24 (v := ?v24) rfl (by kernel_rfl) (by kernel_rfl) (by kernel_rfl) (fun _ _ _ h => h) (by rfl) ?y24 (by assumption) ?r24
    case y24 => (intro w hSw; (try dsimp only at hSw); go_simp); with_reducible rfl
    simp only [Act.put, List.setIfInBounds_toArray, List.set_cons_zero, List.set_cons_succ]
    refine take_ok 25 (v := ?v25) rfl (by kernel_rfl) (by kernel_rfl) (by kernel_rfl) (fun _ _ _ h => h) (by rfl) ?y25 (by assumption) ?r25
    case y25 => (intro w hSw; (try dsimp only at hSw); go_simp); with_reducible rfl
    simp only [Act.put, List.setIfInBounds_toArray, List.set_cons_zero, List.set_cons_succ]
    refine take_ok 26 (v := ?v26) rfl (by kernel_rfl) (by kernel_rfl) (by kernel_rfl) (fun _ _ _ h => h) (by rfl) ?y26 (by assumption) ?r26
    case y26 => (intro w hSw; (try dsimp only at hSw); go_simp); with_reducible rfl
    simp only [Act.put, List.setIfInBounds_toArray, List.set_cons_zero, List.set_cons_succ]
    refine take_ok 27 (v := ?v27) rfl (by kernel_rfl) (by kernel_rfl) (by kernel_rfl) (fun _ _ _ h => h) (by rfl) ?y27 (by assumption) ?r27
    case y27 => (intro w hSw; (try dsimp only at hSw); go_simp); with_reducible rfl
    simp only [Act.put, List.setIfInBounds_toArray, List.set_cons_zero, List.set_cons_succ]
    refine take_ok 28 (v := ?v28) rfl (by kernel_rfl) (by kernel_rfl) (by kernel_rfl) (fun _ _ _ h => h) (by rfl) ?y28 (by assumption) ?r28
    case y28 => (intro w hSw; (try dsimp only at hSw); go_simp); with_reducible rfl
    simp only [Act.put, List.setIfInBounds_toArray, List.set_cons_zero, List.set_cons_succ]
    refine take_ok 29 (v := ?v29) rfl (by kernel_rfl) (by kernel_rfl) (by kernel_rfl) (fun _ _ _ h => h) (by rfl) ?y29 (by assumption) ?r29
    case y29 => (intro w hSw; (try dsimp only at hSw); go_simp); with_reducible rfl
    simp only [Act.put, List.setIfInBounds_toArray, List.set_cons_zero, List.set_cons_succ]
    refine take_ok 30 (v := ?v30) rfl (by kernel_rfl) (by kernel_rfl) (by kernel_rfl) (fun _ _ _ h => h) (by rfl) ?y30 (by assumption) ?r30
    case y30 => (intro w hSw; (try dsimp only at hSw); go_simp); with_reducible rfl
    simp only [Act.put, List.setIfInBounds_toArray, List.set_cons_zero, List.set_cons_succ]
    refine take_ok 31 (v := ?v31) rfl (by kernel_rfl) (by kernel_rfl) (by kernel_rfl) (fun _ _ _ h => h) (by rfl) ?y31 (by assumption) ?r31
    case y31 => (intro w hSw; (try dsimp only at hSw); go_simp); with_reducible rfl
    simp only [Act.put, List.setIfInBounds_toArray, List.set_cons_zero, List.set_cons_succ]
    refine take_ok 32 (v := ?v32) rfl (by kernel_rfl) (by kernel_rfl) (by kernel_rfl) (fun _ _ _ h => h) (by rfl) ?y32 (by assumption) ?r32
    case y32 => (intro w hSw; (try dsimp only at hSw); go_simp); with_reducible rfl
    simp only [Act.put, List.setIfInBounds_toArray, List.set_cons_zero, List.set_cons_succ]
    refine take_no 33 rfl (by kernel_rfl) (by kernel_rfl) (by kernel_rfl) (fun _ _ _ h => h) (by rfl) (by assumption) ?_
    simp only [Act.put, List.setIfInBounds_toArray, List.set_cons_zero, List.set_cons_succ]
    refine take_no 34 rfl (by kernel_rfl) (by kernel_rfl) (by kernel_rfl) (fun _ _ _ h => h) (by rfl) (by assumption) ?_
    simp only [Act.put, List.setIfInBounds_toArray, List.set_cons_zero, List.set_cons_succ]
    refine take_no 35 rfl (by kernel_rfl) (by kernel_rfl) (by kernel_rfl) (fun _ _ _ h => h) (by rfl) (by assumption) ?_
    simp only [Act.put, List.setIfInBounds_toArray, List.set_cons_zero, List.set_cons_succ]
    refine take_no 36 rfl (by kernel_rfl) (by kernel_rfl) (by kernel_rfl) (fun _ _ _ h => h) (by rfl) (by assumption) ?_
    simp only [Act.put, List.setIfInBounds_toArray, List.set_cons_zero, List.set_cons_succ]
    refine take_no 37 rfl (by kernel_rfl) (by kernel_rfl) (by kernel_rfl) (fun _ _ _ h => h) (by rfl) (by assumption) ?_
    simp only [Act.put, List.setIfInBounds_toArray, List.set_cons_zero, List.set_cons_succ]
    refine take_ok 38 (v := ?v38) rfl (by kernel_rfl) (by kernel_rfl) (by kernel_rfl) (fun _ _ _ h => h) (by rfl) ?y38 (by assumption) ?r38
    case y38 => (intro w hSw; (try dsimp only at hSw); go_simp); with_reducible rfl
    simp only [Act.put, List.setIfInBounds_toArray, List.set_cons_zero, List.set_cons_succ]
    refine take_ok 39 (v := ?v39) rfl (by kernel_rfl) (by kernel_rfl) (by kernel_rfl) (fun _ _ _ h => h) (by rfl) ?y39 (by assumption) ?r39
    case y39 => (intro w hSw; (try dsimp only at hSw); go_simp); with_reducible rfl
    simp only [Act.put, List.setIfInBounds_toArray, List.set_cons_zero, List.set_cons_succ]
    refine take_ok 40 (v := ?v40) rfl (by kernel_rfl) (by kernel_rfl) (by kernel_rfl) (fun _ _ _ h => h) (by rfl) ?y40 (by assumption) ?r40
    case y40 => (intro w hSw; (try dsimp only at hSw); go_simp); with_reducible rfl
    simp only [Act.put, List.setIfInBounds_toArray, List.set_cons_zero, List.set_cons_succ]
    refine take_ok 41 (v := ?v41) rfl (by kernel_rfl) (by kernel_rfl) (by kernel_rfl) (fun _ _ _ h => h) (by rfl) ?y41 (by assumption) ?r41
    case y41 => (intro w hSw; (try dsimp only at hSw); go_simp); with_reducible rfl
    simp only [Act.put, List.setIfInBounds_toArray, List.set_cons_zero, List.set_cons_succ]
    refine take_ok 42 (v := ?v42) rfl (by kernel_rfl) (by kernel_rfl) (by kernel_rfl) (fun _ _ _ h => h) (by rfl) ?y42 (by assumption) ?r42
    case y42 => (intro w hSw; (try dsimp only at hSw); go_simp); with_reducible rfl
    simp only [Act.put, List.setIfInBounds_toArray, List.set_cons_zero, List.set_cons_succ]
    refine take_ok 43 (v := ?v43) rfl (by kernel_rfl) (by kernel_rfl) (by kernel_rfl) (fun _ _ _ h => h) (by rfl) ?y43 (by assumption) ?r43
    case y43 => (intro w hSw; (try dsimp only at hSw); go_simp); with_reducible rfl
    simp only [Act.put, List.setIfInBounds_toArray, List.set_cons_zero, List.set_cons_succ]
    refine take_ok 44 (v := ?v44) rfl (by kernel_rfl) (by kernel_rfl) (by kernel_rfl) (fun _ _ _ h => h) (by rfl) ?y44 (by assumption) ?r44
    case y44 => (intro w hSw; (try dsimp only at hSw); go_simp); with_reducible rfl
    simp only [Act.put, List.setIfInBounds_toArray, List.set_cons_zero, List.set_cons_succ]
    refine take_ok 45 (v := ?v45) rfl (by kernel_rfl) (by kernel_rfl) (by kernel_rfl) (fun _ _ _ h => h) (by rfl) ?y45 (by assumption) ?r45
    case y45 => (intro w hSw; (try dsimp only at hSw); go_simp); with_reducible rfl
    simp only [Act.put, List.setIfInBounds_toArray, List.set_cons_zero, List.set_cons_succ]
    refine take_ok 46 (v := ?v46) rfl (by kernel_rfl) (by kernel_rfl) (by kernel_rfl) (fun _ _ _ h => h) (by rfl) ?y46 (by assumption) ?r46
    case y46 => (intro w hSw; (try dsimp only at hSw); go_simp); with_reducible rfl
    simp only [Act.put, List.setIfInBounds_toArray, List.set_cons_zero, List.set_cons_succ]
    refine take_ok 47 (v := ?v47) rfl (by kernel_rfl) (by kernel_rfl) (by kernel_rfl) (fun _ _ _ h => h) (by rfl) ?y47 (by assumption) ?r47
    case y47 => (intro w hSw; (try dsimp only at hSw); go_simp); with_reducible rfl
    simp only [Act.put, List.setIfInBounds_toArray, List.set_cons_zero, List.set_cons_succ]
    refine take_call 48 rfl (by kernel_rfl) (by rfl) (fun K hK => ?_)
    go_simp
    (go_at_call 15; go_split_ands; refine (parity_yes N S _ n1 n2 s1 s2).mono ?_; rintro e w7 ⟨rfl, hk⟩; have hbx := bel_call (by assumption : Below (w5.alloc (placeBox q' r' d')).heap.size (w5.alloc (placeBox q' r' d')) _) hk; clear hk)
    go_wp2_with fail
    refine hK.out _ _ (by first | exact onceS hG hP hQ.drew | exact onceS hG hP hbx) (fun hHeld => ?_)
    clear hK K
    try simp only [Act.put, List.setIfInBounds_toArray, List.set_cons_zero, List.set_cons_succ]
    refine take_ok 49 (v := ?v49) rfl (by kernel_rfl) (by kernel_rfl) (by kernel_rfl) (fun _ _ _ h => h) (by rfl) ?y49 (by assumption) ?r49
    case y49 => (intro w hSw; (try dsimp only at hSw); go_simp); with_reducible rfl
    simp only [Act.put, List.setIfInBounds_toArray, List.set_cons_zero, List.set_cons_succ]
    refine take_ok 50 (v := ?v50) rfl (by kernel_rfl) (by kernel_rfl) (by kernel_rfl) (fun _ _ _ h => h) (by rfl) ?y50 (by assumption) ?r50
    case y50 => (intro w hSw; (try dsimp only at hSw); go_simp); with_reducible rfl
    simp only [Act.put, List.setIfInBounds_toArray, List.set_cons_zero, List.set_cons_succ]
    refine take_ok 51 (v := ?v51) rfl (by kernel_rfl) (by kernel_rfl) (by kernel_rfl) (fun _ _ _ h => h) (by rfl) ?y51 (by assumption) ?r51
    case y51 => (intro w hSw; (try dsimp only at hSw); go_simp); with_reducible rfl
    simp only [Act.put, List.setIfInBounds_toArray, List.set_cons_zero, List.set_cons_succ]
    refine wpAnyH_done (by kernel_rfl) ?_ _
    go_wp2_with fail
    go_ret
    exact ⟨congrArg (fun t => Ending.returned (Value.bool t)) (bne_iff_ne.2 hrN), bel_call (geo_below hR) (bel_call (geo_below hG) (bel_call (bel_call (bel_alloc (Below.refl _ _) _) hP) (bel_call (bel_alloc (Below.refl _ _) _) (by assumption))))⟩
  · have b1 : (x == y) = false := by rw [beq_eq_false_iff_ne]; exact e1
    have b2 : (q == q') = true := by rw [beq_iff_eq]; exact e2
    have b3 : (r == r') = false := by rw [beq_eq_false_iff_ne]; exact e3
    have b4 : (d == d') = false := by rw [beq_eq_false_iff_ne]; exact e4
    clear e1 e2 e3 e4
    go_region_held3 (fun w' => w'.cell? ⟨w2.heap.size, 0, none⟩ = some (.int .i64 N) ∧ w'.cell? ⟨w2.heap.size, 1, none⟩ = some (.int .i64 S) ∧ w'.cell? ⟨w4.heap.size, 0, none⟩ = some (.int .i64 q) ∧ w'.cell? ⟨w4.heap.size, 1, none⟩ = some (.int .i64 r) ∧ w'.cell? ⟨w4.heap.size, 2, none⟩ = some (.int .i64 d) ∧
      w'.cell? ⟨w5.heap.size, 0, none⟩ = some (.int .i64 q') ∧ w'.cell? ⟨w5.heap.size, 1, none⟩ = some (.int .i64 r') ∧ w'.cell? ⟨w5.heap.size, 2, none⟩ = some (.int .i64 d') ∧ Below (w5.alloc (placeBox q' r' d')).heap.size (w5.alloc (placeBox q' r' d')) w')
      (first | exact onceS hG hP hQ.drew | exact onceS hG hP hbx)
      (first
        | (go_at_call 15; go_split_ands; refine (parity_yes N S _ n1 n2 s1 s2).mono ?_; rintro e w7 ⟨rfl, hk⟩; have hbx := bel_call (by assumption : Below (w5.alloc (placeBox q' r' d')).heap.size (w5.alloc (placeBox q' r' d')) _) hk; clear hk))
    go_wp2_with fail
    go_ret
    exact ⟨congrArg (fun t => Ending.returned (Value.bool t)) (bne_iff_ne.2 hrN), bel_call (geo_below hR) (bel_call (geo_below hG) (bel_call (bel_call (bel_alloc (Below.refl _ _) _) hP) (bel_call (bel_alloc (Below.refl _ _) _) (by assumption))))⟩
end Go.Proofs.Ytnaanfkiljhmeaa
