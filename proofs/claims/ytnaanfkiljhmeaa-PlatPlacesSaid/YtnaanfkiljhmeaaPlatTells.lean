/-
  PlatTells: whatever geometry there is, its blocks stand where the document says: for any geometry and numbers. No condition.
-/
import Derived.Test.YtnaanfkiljhmeaaFit05
import Derived.Test.YtnaanfkiljhmeaaRef05
namespace Go.Proofs.Ytnaanfkiljhmeaa
open Go.RowKit

theorem twoS {w w4 w5 w' : World} {N S q r d q' r' d' : Int} (hG : Below (w.alloc (geoBox N S)).heap.size (w.alloc (geoBox N S)) w4) (hP : Below (w4.alloc (placeBox q r d)).heap.size (w4.alloc (placeBox q r d)) w5)
    (hQ : Below (w5.alloc (placeBox q' r' d')).heap.size (w5.alloc (placeBox q' r' d')) w') :
    w'.cell? ⟨w.heap.size, 0, none⟩ = some (.int .i64 N) ∧ w'.cell? ⟨w.heap.size, 1, none⟩ = some (.int .i64 S) ∧ w'.cell? ⟨w4.heap.size, 0, none⟩ = some (.int .i64 q) ∧ w'.cell? ⟨w4.heap.size, 1, none⟩ = some (.int .i64 r) ∧ w'.cell? ⟨w4.heap.size, 2, none⟩ = some (.int .i64 d) ∧
      w'.cell? ⟨w5.heap.size, 0, none⟩ = some (.int .i64 q') ∧ w'.cell? ⟨w5.heap.size, 1, none⟩ = some (.int .i64 r') ∧ w'.cell? ⟨w5.heap.size, 2, none⟩ = some (.int .i64 d') ∧ Below (w5.alloc (placeBox q' r' d')).heap.size (w5.alloc (placeBox q' r' d')) w' := by
  have h1 := bel_call (bel_alloc hP _) hQ
  have h0 := bel_call (bel_alloc hG _) h1
  exact ⟨geo0 h0, geo1 h0, pl0 h1, pl1 h1, pl2 h1, pl0 hQ, pl1 hQ, pl2 hQ, hQ⟩
theorem twoG {w w4 w5 w' : World} {N S q r d q' r' d' : Int} (hG : Below (w.alloc (geoBox N S)).heap.size (w.alloc (geoBox N S)) w4) (hP : Below (w4.alloc (placeBox q r d)).heap.size (w4.alloc (placeBox q r d)) w5)
    (hQ : Below (w5.alloc (placeBox q' r' d')).heap.size (w5.alloc (placeBox q' r' d')) w') :
    w'.cell? ⟨w.heap.size, 0, none⟩ = some (.int .i64 N) ∧ w'.cell? ⟨w.heap.size, 1, none⟩ = some (.int .i64 S) ∧ Below (w5.alloc (placeBox q' r' d')).heap.size (w5.alloc (placeBox q' r' d')) w' := by
  obtain ⟨h0, h1, -, -, -, -, -, -, h⟩ := twoS hG hP hQ
  exact ⟨h0, h1, h⟩

set_option maxRecDepth 100000 in
set_option maxHeartbeats 4000000 in
theorem tells_calls (N S b s c : Int) (w : World) :
    Calls Try.prog 8 #[.agg #[.int .i64 N, .int .i64 S], .int .i64 b, .int .i64 s, .int .i64 c] w fun e w' => e = .returned (.bool true) ∧ Below w.heap.size w w' := by
  obtain ⟨q, hq⟩ : ∃ q, q = ofQ N S b := ⟨_, rfl⟩
  obtain ⟨r, hr⟩ : ∃ r, r = ofR N S b := ⟨_, rfl⟩
  obtain ⟨d, hd⟩ : ∃ d, d = ofD N S b := ⟨_, rfl⟩
  obtain ⟨f, hf⟩ : ∃ f, f = ofE N S b := ⟨_, rfl⟩
  have HQ := Lib.hid hq
  have HR := Lib.hid hr
  have HD := Lib.hid hd
  have HF := Lib.hid hf
  clear hq hr hd hf
  go_enter Try.func8, Try.ntmps8
  go_wp2_with (first
    | (go_at_call 11; refine (awake05_calls _).mono ?_; rintro e w1 ⟨rfl, hk⟩; have hG : Below (w.alloc (geoBox N S)).heap.size (w.alloc (geoBox N S)) w1 := hk; have r0 := geo0 hG; have r1 := geo1 hG; clear hk)
    | (go_at_call 17; refine (of_calls N S b _).mono ?_; rw [← HQ.out, ← HR.out, ← HD.out, ← HF.out]; rintro e w2 ⟨rfl, hk⟩; replace hG := bel_call hG hk; have hP : Below (w2.alloc (placeBox q r d)).heap.size (w2.alloc (placeBox q r d)) (w2.alloc (placeBox q r d)) := Below.refl _ _; have r2 := geo0 (bel_alloc hG (placeBox q r d)); have r3 := geo1 (bel_alloc hG (placeBox q r d)); unfold placeBox at r2 r3; clear hk)
    | (go_at_call 20; refine (rof_calls N S b _).mono ?_; rw [← HQ.out, ← HR.out, ← HD.out, ← HF.out]; rintro e w3 ⟨rfl, hk⟩; replace hP := bel_call hP hk; have hQ : Below (w3.alloc (placeBox q r d)).heap.size (w3.alloc (placeBox q r d)) (w3.alloc (placeBox q r d)) := Below.refl _ _; have hc := twoG hG hP hQ; unfold placeBox at hc; obtain ⟨r4, r5, -⟩ := hc; clear hk)
    | (go_at_call 18; refine (block_calls N S s c _).mono ?_; rintro e w4 ⟨rfl, hk⟩; replace hQ := bel_call hQ hk; have hc := twoG hG hP hQ; obtain ⟨r6, r7, -⟩ := hc; clear hk)
    | (go_at_call 21; refine (rblock_calls N S s c _).mono ?_; rintro e w5 ⟨rfl, hk⟩; replace hQ := bel_call hQ hk; clear hk))
  clear r0 r1 r2 r3 r4 r5 r6 r7
  go_region_held3 (fun w' => w'.cell? ⟨w.heap.size, 0, none⟩ = some (.int .i64 N) ∧ w'.cell? ⟨w.heap.size, 1, none⟩ = some (.int .i64 S) ∧ Below (w3.alloc (placeBox q r d)).heap.size (w3.alloc (placeBox q r d)) w')
    (first | exact twoG hG hP hQ.drew | exact twoG hG hP hbx)
    (first
      | (go_at_call 22; go_split_ands; refine (right_calls N S _).mono ?_; rintro e w7 ⟨rfl, hk⟩; have hbx := bel_call (by assumption : Below (w3.alloc (placeBox q r d)).heap.size (w3.alloc (placeBox q r d)) _) hk; clear hk)
      | (go_at_call 23; go_split_ands; refine (rright_calls N S _).mono ?_; rintro e w7 ⟨rfl, hk⟩; have hbx := bel_call (by assumption : Below (w3.alloc (placeBox q r d)).heap.size (w3.alloc (placeBox q r d)) _) hk; clear hk)
      | (go_at_call 16; go_split_ands; refine (blocks_calls N S _).mono ?_; rintro e w7 ⟨rfl, hk⟩; have hbx := bel_call (by assumption : Below (w3.alloc (placeBox q r d)).heap.size (w3.alloc (placeBox q r d)) _) hk; clear hk)
      | (go_at_call 24; go_split_ands; refine (rblocks_calls N S _).mono ?_; rintro e w7 ⟨rfl, hk⟩; have hbx := bel_call (by assumption : Below (w3.alloc (placeBox q r d)).heap.size (w3.alloc (placeBox q r d)) _) hk; clear hk)
      | (go_at_call 15; go_split_ands; refine (parity_calls N S _).mono ?_; rintro e w7 ⟨rfl, hk⟩; have hbx := bel_call (by assumption : Below (w3.alloc (placeBox q r d)).heap.size (w3.alloc (placeBox q r d)) _) hk; clear hk)
      | (go_at_call 25; go_split_ands; refine (rparity_calls N S _).mono ?_; rintro e w7 ⟨rfl, hk⟩; have hbx := bel_call (by assumption : Below (w3.alloc (placeBox q r d)).heap.size (w3.alloc (placeBox q r d)) _) hk; clear hk))
  replace hQ := (by assumption : Below (w3.alloc (placeBox q r d)).heap.size (w3.alloc (placeBox q r d)) _)
  go_wp2_with fail
  go_region_held3 (fun w' => w'.cell? ⟨w.heap.size, 0, none⟩ = some (.int .i64 N) ∧ w'.cell? ⟨w.heap.size, 1, none⟩ = some (.int .i64 S) ∧ w'.cell? ⟨w2.heap.size, 0, none⟩ = some (.int .i64 q) ∧ w'.cell? ⟨w2.heap.size, 1, none⟩ = some (.int .i64 r) ∧ w'.cell? ⟨w2.heap.size, 2, none⟩ = some (.int .i64 d) ∧
      w'.cell? ⟨w3.heap.size, 0, none⟩ = some (.int .i64 q) ∧ w'.cell? ⟨w3.heap.size, 1, none⟩ = some (.int .i64 r) ∧ w'.cell? ⟨w3.heap.size, 2, none⟩ = some (.int .i64 d) ∧ Below (w3.alloc (placeBox q r d)).heap.size (w3.alloc (placeBox q r d)) w')
    (first | exact twoS hG hP hQ.drew | exact twoS hG hP hbx)
    (first
      | (go_at_call 14; go_split_ands; refine (node_calls N S s c _).mono ?_; rintro e w8 ⟨rfl, hk⟩; have hbx := bel_call (by assumption : Below (w3.alloc (placeBox q r d)).heap.size (w3.alloc (placeBox q r d)) _) hk; clear hk)
      | (go_at_call 26; go_split_ands; refine (rnode_calls N S s c _).mono ?_; rintro e w8 ⟨rfl, hk⟩; have hbx := bel_call (by assumption : Below (w3.alloc (placeBox q r d)).heap.size (w3.alloc (placeBox q r d)) _) hk; clear hk)
      | (go_at_call 19; go_split_ands; refine (col_calls N S s c _).mono ?_; rintro e w8 ⟨rfl, hk⟩; have hbx := bel_call (by assumption : Below (w3.alloc (placeBox q r d)).heap.size (w3.alloc (placeBox q r d)) _) hk; clear hk)
      | (go_at_call 27; go_split_ands; refine (rcol_calls N S s c _).mono ?_; rintro e w8 ⟨rfl, hk⟩; have hbx := bel_call (by assumption : Below (w3.alloc (placeBox q r d)).heap.size (w3.alloc (placeBox q r d)) _) hk; clear hk))
  go_wp2_with fail
  go_ret
  exact ⟨by rfl, bel_call (geo_below hG) (bel_call (bel_call (bel_alloc (Below.refl _ _) _) hP) (bel_call (bel_alloc (Below.refl _ _) _) (by assumption)))⟩
theorem platTells_walk (a0 b0 : Int) (b s c : Int) (w : World) (_ha1 : -9223372036854775808 ≤ a0) (_ha2 : a0 ≤ 9223372036854775807) (_hb1 : -9223372036854775808 ≤ b0) (_hb2 : b0 ≤ 9223372036854775807)
    (_p1 : -9223372036854775808 ≤ b) (_p2 : b ≤ 9223372036854775807) (_x1 : -9223372036854775808 ≤ s) (_x2 : s ≤ 9223372036854775807) (_y1 : -9223372036854775808 ≤ c) (_y2 : c ≤ 9223372036854775807) :
    Calls Try.prog 8 #[.agg #[.int .i64 a0, .int .i64 b0], .int .i64 b, .int .i64 s, .int .i64 c] w fun e w' => e = .returned (.bool true) ∧ Below w.heap.size w w' := tells_calls a0 b0 b s c w
end Go.Proofs.Ytnaanfkiljhmeaa
