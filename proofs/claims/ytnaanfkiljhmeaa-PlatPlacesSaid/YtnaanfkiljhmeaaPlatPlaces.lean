/-
  PlatPlaces: the same of right geometries, blocks and columns that there are: for any raw geometry and numbers. No condition.
-/
import Derived.Test.YtnaanfkiljhmeaaPlatTells
namespace Go.Proofs.Ytnaanfkiljhmeaa
open Go.RowKit

set_option maxRecDepth 100000 in
set_option maxHeartbeats 4000000 in
theorem platPlaces_walk (a0 b0 : Int) (p a b : Int) (w : World) (ha1 : -9223372036854775808 ≤ a0) (ha2 : a0 ≤ 9223372036854775807) (hb1 : -9223372036854775808 ≤ b0) (hb2 : b0 ≤ 9223372036854775807)
    (p1 : -9223372036854775808 ≤ p) (p2 : p ≤ 9223372036854775807) (x1 : -9223372036854775808 ≤ a) (x2 : a ≤ 9223372036854775807) (y1 : -9223372036854775808 ≤ b) (y2 : b ≤ 9223372036854775807) :
    Calls Try.prog 9 #[.agg #[.int .i64 a0, .int .i64 b0], .int .i64 p, .int .i64 a, .int .i64 b] w fun e w' => e = .returned (.bool true) ∧ Below w.heap.size w w' := by
  go_enter Try.func9, Try.ntmps9
  go_wp2_with (first
    | (go_at_call 12; (refine (fit_calls a0 b0 _ ha1 ha2 hb1 hb2).mono ?_); rintro e w2 ⟨N, S, n1, n2, s1, s2, rfl, hk⟩; have hR : Below (w.alloc (geoBox a0 b0)).heap.size (w.alloc (geoBox a0 b0)) w2 := hk; have hG : Below (w2.alloc (geoBox N S)).heap.size (w2.alloc (geoBox N S)) (w2.alloc (geoBox N S)) := Below.refl _ _; clear hk))
  have hB : blocksZ N S = S * (N - 1) := by unfold blocksZ; rw [if_pos (right_iff.2 ⟨n1, n2, s1, s2⟩)]
  have HB := Lib.hid hB
  clear hB
  obtain ⟨k1, k2⟩ := prod_bounds n1 n2 s1 s2
  go_region_held3 (fun w' => w'.cell? ⟨w2.heap.size, 0, none⟩ = some (.int .i64 N) ∧ w'.cell? ⟨w2.heap.size, 1, none⟩ = some (.int .i64 S) ∧ Below (w2.alloc (geoBox N S)).heap.size (w2.alloc (geoBox N S)) w')
    (first | exact geoS hG.drew | exact geoS hbx | exact geoS hG | (refine ⟨?_, ?_, ?_⟩ <;> assumption))
    (first
      | (go_at_call 24; go_split_ands; refine (rblocks_calls N S _).mono ?_; rw [HB.out]; rintro e w7 ⟨rfl, hk⟩; have hbx := bel_call (by assumption : Below (w2.alloc (geoBox N S)).heap.size (w2.alloc (geoBox N S)) _) hk; clear hk)
      | (go_at_call_of 13 (Value.int .i64 p); go_split_ands; (refine (pick05_int p _ _ p1 p2 (by omega) (by omega)).mono ?_); rintro e w' ⟨x, hx1, hx2, rfl, rfl⟩)
      | (go_at_call_of 13 (Value.int .i64 a); go_split_ands; (refine (pick05_int a _ _ x1 x2 (by omega) (by omega)).mono ?_); rintro e w' ⟨y, hy1, hy2, rfl, rfl⟩)
      | (go_at_call_of 13 (Value.int .i64 b); go_split_ands; (refine (pick05_int b _ _ y1 y2 (by omega) (by omega)).mono ?_); rintro e w' ⟨z, hz1, hz2, rfl, rfl⟩)
      | (go_at_call 8; go_split_ands; refine (tells_calls N S _ _ _ _).mono ?_; rintro e w7 ⟨rfl, hk⟩; have hbx := bel_call (by assumption : Below (w2.alloc (geoBox N S)).heap.size (w2.alloc (geoBox N S)) _) hk; clear hk))
  go_wp2_with fail
  go_ret
  exact ⟨by rfl, bel_call (geo_below hR) (geo_below (by assumption))⟩
end Go.Proofs.Ytnaanfkiljhmeaa
