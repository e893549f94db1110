/-
  PlatOrder: blocks rise stripe by stripe, column by column: for any raw geometry and numbers. No condition.
-/
import Derived.Test.YtnaanfkiljhmeaaFit05
namespace Go.Proofs.Ytnaanfkiljhmeaa
open Go.RowKit

set_option maxRecDepth 100000 in
set_option maxHeartbeats 2000000 in
theorem platOrder_walk (a0 b0 : Int) (a b : Int) (w : World) (ha1 : -9223372036854775808 ≤ a0) (ha2 : a0 ≤ 9223372036854775807) (hb1 : -9223372036854775808 ≤ b0) (hb2 : b0 ≤ 9223372036854775807)
    (x1 : -9223372036854775808 ≤ a) (x2 : a ≤ 9223372036854775807) (y1 : -9223372036854775808 ≤ b) (y2 : b ≤ 9223372036854775807) :
    Calls Try.prog 4 #[.agg #[.int .i64 a0, .int .i64 b0], .int .i64 a, .int .i64 b] w fun e w' => e = .returned (.bool true) ∧ Below w.heap.size w w' := by
  go_enter Try.func4, Try.ntmps4
  go_wp2_with (first
    | (go_at_call 11; refine (awake05_calls _).mono ?_; rintro e w1 ⟨rfl, hk⟩; have hR : Below (w.alloc (geoBox a0 b0)).heap.size (w.alloc (geoBox a0 b0)) w1 := hk; have r0 := geo0 hR; have r1 := geo1 hR; clear hk)
    | (go_at_call 12; (refine (fit_calls a0 b0 _ ha1 ha2 hb1 hb2).mono ?_); rintro e w2 ⟨N, S, n1, n2, s1, s2, rfl, hk⟩; replace hR := bel_call hR hk; have hG : Below (w2.alloc (geoBox N S)).heap.size (w2.alloc (geoBox N S)) (w2.alloc (geoBox N S)) := Below.refl _ _; obtain ⟨k1, k2⟩ := prod_bounds n1 n2 s1 s2; clear hk)
    | (go_at_call 16; (refine (blocks_yes N S _ n1 n2 s1 s2).mono ?_); rintro e w3 ⟨rfl, hk⟩; replace hG := bel_call hG hk; have g0 := geo0 hG; have g1 := geo1 hG; clear hk)
    | (go_at_call_of 13 (Value.int .i64 a); (refine (pick05_int a _ _ x1 x2 (by omega) (by omega)).mono ?_); rintro e w' ⟨x, hx1, hx2, rfl, rfl⟩; obtain ⟨q, r, d, hst, hq1, hq2, hr1, hr2, hd1, hd2⟩ := stands N S x n1 n2 hx1 hx2; have HST := Lib.hid hst; clear hst)
    | (go_at_call_of 13 (Value.int .i64 b); (refine (pick05_int b _ _ y1 y2 (by omega) (by omega)).mono ?_); rintro e w' ⟨y, hy1, hy2, rfl, rfl⟩; obtain ⟨q', r', d', hst', hq1', hq2', hr1', hr2', hd1', hd2'⟩ := stands N S y n1 n2 hy1 hy2; have HST' := Lib.hid hst'; clear hst')
    | (go_at_call_of 17 (Value.int .i64 x); (refine (of_v N S x q r d _ HST.out n1 n2 s1 s2 hx1 hx2).mono ?_); rintro e w4 ⟨rfl, hk⟩; replace hG := bel_alloc (bel_call hG hk) (placeBox q r d); have hP : Below (w4.alloc (placeBox q r d)).heap.size (w4.alloc (placeBox q r d)) (w4.alloc (placeBox q r d)) := Below.refl _ _; have g2 := geo0 hG; have g3 := geo1 hG; unfold placeBox at g2 g3; clear hk)
    | (go_at_call_of 17 (Value.int .i64 y); (refine (of_v N S y q' r' d' _ HST'.out n1 n2 s1 s2 hy1 hy2).mono ?_); rintro e w5 ⟨rfl, hk⟩; replace hG := bel_alloc (bel_call hG hk) (placeBox q' r' d'); replace hP := bel_alloc (bel_call hP hk) (placeBox q' r' d'); have p0 := pl0 hP; have p1 := pl1 hP; unfold placeBox at p0 p1; clear hk))
  all_goals
    go_ret
    have ho := order_law n1 n2 HST.out HST'.out
    refine ⟨congrArg (fun t => Ending.returned (Value.bool t)) (?_ : _ = true), bel_call (geo_below hR) (geo_below hG)⟩
    first
      | (rw [beq_iff_eq, decide_eq_decide]; omega)
      | (rw [decide_eq_true_iff]; omega)
end Go.Proofs.Ytnaanfkiljhmeaa
