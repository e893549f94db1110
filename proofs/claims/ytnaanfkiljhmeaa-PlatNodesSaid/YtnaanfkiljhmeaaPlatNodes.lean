/-
  PlatNodes: the columns of a stripe stand on unlike nodes, and ColumnOf undoes NodeOf: for any raw geometry and numbers. No condition.
-/
import Derived.Test.YtnaanfkiljhmeaaFit05
namespace Go.Proofs.Ytnaanfkiljhmeaa
open Go.RowKit

theorem nodes_law {N s a b x y : Int} (n1 : 3 ≤ N) (n2 : N ≤ 6) (a1 : 0 ≤ a) (a2 : a < N) (b1 : 0 ≤ b) (b2 : b < N) (hx : x = (a + s) % N) (hy : y = (b + s) % N) : x = y ↔ a = b := by
  subst hx hy
  rcases (show N = 3 ∨ N = 4 ∨ N = 5 ∨ N = 6 by omega) with rfl | rfl | rfl | rfl <;> omega
theorem nodes_back {N s a x : Int} (n1 : 3 ≤ N) (n2 : N ≤ 6) (a1 : 0 ≤ a) (a2 : a < N) (hx : x = (a + s) % N) : a = (x + N - s % N) % N := by
  subst hx
  rcases (show N = 3 ∨ N = 4 ∨ N = 5 ∨ N = 6 by omega) with rfl | rfl | rfl | rfl <;> omega
theorem nodes_fore {N s b k : Int} (n1 : 3 ≤ N) (n2 : N ≤ 6) (b1 : 0 ≤ b) (b2 : b < N) (hk : k = (b + N - s % N) % N) : b = (k + s) % N := by
  subst hk
  rcases (show N = 3 ∨ N = 4 ∨ N = 5 ∨ N = 6 by omega) with rfl | rfl | rfl | rfl <;> omega
theorem col_v (N S s n d : Int) (w : World) (hd : d = (n + N - s % N) % N) (h1 : 3 ≤ N) (h2 : N ≤ 6) (h3 : 1 ≤ S) (h4 : S ≤ 8) (s1 : 0 ≤ s) (s2 : s < S) (n1 : 0 ≤ n) (n2 : n < N) :
    Calls Try.prog 19 #[.agg #[.int .i64 N, .int .i64 S], .int .i64 s, .int .i64 n] w fun e w' => e = .returned (.int .i64 d) ∧ Below w.heap.size w w' := by
  subst hd
  exact col_yes N S s n w h1 h2 h3 h4 s1 s2 n1 n2

set_option maxRecDepth 100000 in
set_option maxHeartbeats 4000000 in
theorem platNodes_walk (a0 b0 : Int) (p a b : Int) (w : World) (ha1 : -9223372036854775808 ≤ a0) (ha2 : a0 ≤ 9223372036854775807) (hb1 : -9223372036854775808 ≤ b0) (hb2 : b0 ≤ 9223372036854775807)
    (p1 : -9223372036854775808 ≤ p) (p2 : p ≤ 9223372036854775807) (x1 : -9223372036854775808 ≤ a) (x2 : a ≤ 9223372036854775807) (y1 : -9223372036854775808 ≤ b) (y2 : b ≤ 9223372036854775807) :
    Calls Try.prog 6 #[.agg #[.int .i64 a0, .int .i64 b0], .int .i64 p, .int .i64 a, .int .i64 b] w fun e w' => e = .returned (.bool true) ∧ Below w.heap.size w w' := by
  go_enter Try.func6, Try.ntmps6
  go_wp2_with (first
    | (go_at_call 11; refine (awake05_calls _).mono ?_; rintro e w1 ⟨rfl, hk⟩; have hR : Below (w.alloc (geoBox a0 b0)).heap.size (w.alloc (geoBox a0 b0)) w1 := hk; have r0 := geo0 hR; have r1 := geo1 hR; clear hk)
    | (go_at_call 12; (refine (fit_calls a0 b0 _ ha1 ha2 hb1 hb2).mono ?_); rintro e w2 ⟨N, S, n1, n2, s1, s2, rfl, hk⟩; replace hR := bel_call hR hk; have hG : Below (w2.alloc (geoBox N S)).heap.size (w2.alloc (geoBox N S)) (w2.alloc (geoBox N S)) := Below.refl _ _; have g0 := geo0 hG; have g1 := geo1 hG; unfold geoBox at g0 g1; clear hk)
    | (go_at_call_of 13 (Value.int .i64 p); (refine (pick05_int p _ _ p1 p2 (by omega) (by omega)).mono ?_); rintro e w' ⟨s, hs1, hs2, rfl, rfl⟩)
    | (go_at_call_of 13 (Value.int .i64 a); (refine (pick05_int a _ _ x1 x2 (by omega) (by omega)).mono ?_); rintro e w' ⟨u, hu1, hu2, rfl, rfl⟩; obtain ⟨x, hx⟩ : ∃ x, x = (u + s) % N := ⟨_, rfl⟩; have hx1 : 0 ≤ x := (by rw [hx]; exact Int.emod_nonneg _ (by omega)); have hx2 : x < N := (by rw [hx]; exact Int.emod_lt_of_pos _ (by omega)); have HX := Lib.hid hx; clear hx)
    | (go_at_call_of 13 (Value.int .i64 b); (refine (pick05_int b _ _ y1 y2 (by omega) (by omega)).mono ?_); rintro e w' ⟨v, hv1, hv2, rfl, rfl⟩; obtain ⟨y, hy⟩ : ∃ y, y = (v + s) % N := ⟨_, rfl⟩; have HY := Lib.hid hy; clear hy; obtain ⟨k, hk⟩ : ∃ k, k = (v + N - s % N) % N := ⟨_, rfl⟩; have hk1 : 0 ≤ k := (by rw [hk]; exact Int.emod_nonneg _ (by omega)); have hk2 : k < N := (by rw [hk]; exact Int.emod_lt_of_pos _ (by omega)); have HK := Lib.hid hk; clear hk)
    | (go_at_call_of 14 (Value.int .i64 u); (refine (node_v N S s u x _ HX.out n1 n2 s1 s2 hs1 hs2 hu1 hu2).mono ?_); rintro e w3 ⟨rfl, hk⟩; replace hG := bel_call hG hk; have g2 := geo0 hG; have g3 := geo1 hG; clear hk)
    | (go_at_call_of 14 (Value.int .i64 v); (refine (node_v N S s v y _ HY.out n1 n2 s1 s2 hs1 hs2 hv1 hv2).mono ?_); rintro e w4 ⟨rfl, hk⟩; replace hG := bel_call hG hk; clear hk))
  clear g0 g1 g2 g3
  rcases (show (x = y ∧ u = v) ∨ (x ≠ y ∧ u ≠ v) by have := nodes_law n1 n2 hu1 hu2 hv1 hv2 HX.out HY.out; omega) with ⟨e1, e2⟩ | ⟨e1, e2⟩
  · have b1 : (x == y) = true := by rw [beq_iff_eq]; exact e1
    have b2 : (u == v) = true := by rw [beq_iff_eq]; exact e2
    clear e1 e2
    go_region_held3 (fun w' => w'.cell? ⟨w2.heap.size, 0, none⟩ = some (.int .i64 N) ∧ w'.cell? ⟨w2.heap.size, 1, none⟩ = some (.int .i64 S) ∧ Below (w2.alloc (geoBox N S)).heap.size (w2.alloc (geoBox N S)) w')
      (first | exact geoS hG.drew | exact geoS hbx)
      (first
        | (go_at_call_of 19 (Value.int .i64 x); go_split_ands; refine (col_v N S s x u _ (nodes_back n1 n2 hu1 hu2 HX.out) n1 n2 s1 s2 hs1 hs2 hx1 hx2).mono ?_; rintro e w5 ⟨rfl, hk⟩; have hbx := bel_call (by assumption : Below (w2.alloc (geoBox N S)).heap.size (w2.alloc (geoBox N S)) _) hk; clear hk)
        | (go_at_call_of 19 (Value.int .i64 v); go_split_ands; refine (col_v N S s v k _ HK.out n1 n2 s1 s2 hs1 hs2 hv1 hv2).mono ?_; rintro e w6 ⟨rfl, hk⟩; have hbx := bel_call (by assumption : Below (w2.alloc (geoBox N S)).heap.size (w2.alloc (geoBox N S)) _) hk; clear hk)
        | (go_at_call 14; go_split_ands; refine (node_v N S s k v _ (nodes_fore n1 n2 hv1 hv2 HK.out) n1 n2 s1 s2 hs1 hs2 hk1 hk2).mono ?_; rintro e w7 ⟨rfl, hk⟩; have hbx := bel_call (by assumption : Below (w2.alloc (geoBox N S)).heap.size (w2.alloc (geoBox N S)) _) hk; clear hk))
    go_wp2_with fail
    go_ret
    exact ⟨by rfl, bel_call (geo_below hR) (geo_below (by assumption))⟩
  · have b1 : (x == y) = false := by rw [beq_eq_false_iff_ne]; exact e1
    have b2 : (u == v) = false := by rw [beq_eq_false_iff_ne]; exact e2
    clear e1 e2
    go_region_held3 (fun w' => w'.cell? ⟨w2.heap.size, 0, none⟩ = some (.int .i64 N) ∧ w'.cell? ⟨w2.heap.size, 1, none⟩ = some (.int .i64 S) ∧ Below (w2.alloc (geoBox N S)).heap.size (w2.alloc (geoBox N S)) w')
      (first | exact geoS hG.drew | exact geoS hbx)
      (first
        | (go_at_call_of 19 (Value.int .i64 x); go_split_ands; refine (col_v N S s x u _ (nodes_back n1 n2 hu1 hu2 HX.out) n1 n2 s1 s2 hs1 hs2 hx1 hx2).mono ?_; rintro e w5 ⟨rfl, hk⟩; have hbx := bel_call (by assumption : Below (w2.alloc (geoBox N S)).heap.size (w2.alloc (geoBox N S)) _) hk; clear hk)
        | (go_at_call_of 19 (Value.int .i64 v); go_split_ands; refine (col_v N S s v k _ HK.out n1 n2 s1 s2 hs1 hs2 hv1 hv2).mono ?_; rintro e w6 ⟨rfl, hk⟩; have hbx := bel_call (by assumption : Below (w2.alloc (geoBox N S)).heap.size (w2.alloc (geoBox N S)) _) hk; clear hk)
        | (go_at_call 14; go_split_ands; refine (node_v N S s k v _ (nodes_fore n1 n2 hv1 hv2 HK.out) n1 n2 s1 s2 hs1 hs2 hk1 hk2).mono ?_; rintro e w7 ⟨rfl, hk⟩; have hbx := bel_call (by assumption : Below (w2.alloc (geoBox N S)).heap.size (w2.alloc (geoBox N S)) _) hk; clear hk))
    go_wp2_with fail
    go_ret
    exact ⟨by rfl, bel_call (geo_below hR) (geo_below (by assumption))⟩
end Go.Proofs.Ytnaanfkiljhmeaa
