/-
  PlatAll: all places are told just once, blocks and parities together are as many as columns: for any raw geometry. No condition.
-/
import Derived.Test.YtnaanfkiljhmeaaFit05
namespace Go.Proofs.Ytnaanfkiljhmeaa
open Go.RowKit

theorem all_stands {N K k j d : Int} (n1 : 3 ≤ N) (n2 : N ≤ 6) (hK : K = k * (N - 1)) (j1 : 0 ≤ j) (j2 : j < N - 1) (hd : d = (j + k) % N) : Stands N (K + j) k j d := by
  subst hK
  unfold Stands
  rcases (show N = 3 ∨ N = 4 ∨ N = 5 ∨ N = 6 by omega) with rfl | rfl | rfl | rfl <;> refine ⟨by omega, by omega, hd⟩
theorem all_bounds {N S K k : Int} (n1 : 3 ≤ N) (n2 : N ≤ 6) (s2 : S ≤ 8) (hK : K = k * (N - 1)) (k1 : 0 ≤ k) (k2 : k < S) : 0 ≤ K ∧ K ≤ 40 ∧ K + (N - 1) ≤ S * (N - 1) := by
  subst hK
  rcases (show N = 3 ∨ N = 4 ∨ N = 5 ∨ N = 6 by omega) with rfl | rfl | rfl | rfl <;> omega
theorem all_next {N K k : Int} (hK : K = k * (N - 1)) : (k + 1) * (N - 1) = K + (N - 1) := by
  subst hK
  rw [Int.add_mul, Int.one_mul]
theorem all_end {N S : Int} (n1 : 3 ≤ N) (n2 : N ≤ 6) (s1 : 1 ≤ S) (s2 : S ≤ 8) : S * (N - 1) + S = S * N ∧ 0 ≤ S * N ∧ S * N ≤ 48 := by
  rcases (show N = 3 ∨ N = 4 ∨ N = 5 ∨ N = 6 by omega) with rfl | rfl | rfl | rfl <;> omega
theorem block_k (N S s c K : Int) (w : World) (hK : K = s * (N - 1)) (h1 : 3 ≤ N) (h2 : N ≤ 6) (h3 : 1 ≤ S) (h4 : S ≤ 8) (s1 : 0 ≤ s) (s2 : s < S) (n1 : 0 ≤ c) (n2 : c < N - 1) :
    Calls Try.prog 18 #[.agg #[.int .i64 N, .int .i64 S], .int .i64 s, .int .i64 c] w fun e w' => e = .returned (.tuple #[.int .i64 (K + c), .bool true]) ∧ Below w.heap.size w w' := by
  subst hK
  exact block_yes N S s c w h1 h2 h3 h4 s1 s2 n1 n2
theorem block_p (N S s : Int) (w : World) :
    Calls Try.prog 18 #[.agg #[.int .i64 N, .int .i64 S], .int .i64 s, .int .i64 (N - 1)] w fun e w' => e = .returned (.tuple #[.int .i64 0, .bool false]) ∧ Below w.heap.size w w' := by
  refine block_no N S s (N - 1) w ?_
  cases h : bearsZ N S s (N - 1) with
  | true => exact absurd rfl (bears_iff.1 h).2
  | false => rfl
theorem allS {w w4 w' : World} {N S q r d : Int} (hG : Below (w.alloc (geoBox N S)).heap.size (w.alloc (geoBox N S)) w4) (hP : Below (w4.alloc (placeBox q r d)).heap.size (w4.alloc (placeBox q r d)) w') :
    w'.cell? ⟨w.heap.size, 0, none⟩ = some (.int .i64 N) ∧ w'.cell? ⟨w.heap.size, 1, none⟩ = some (.int .i64 S) ∧ w'.cell? ⟨w4.heap.size, 0, none⟩ = some (.int .i64 q) ∧ w'.cell? ⟨w4.heap.size, 1, none⟩ = some (.int .i64 r) ∧ w'.cell? ⟨w4.heap.size, 2, none⟩ = some (.int .i64 d) ∧
      Below (w4.alloc (placeBox q r d)).heap.size (w4.alloc (placeBox q r d)) w' := by
  have h0 := bel_call (bel_alloc hG _) hP
  exact ⟨geo0 h0, geo1 h0, pl0 hP, pl1 hP, pl2 hP, hP⟩

set_option maxRecDepth 100000 in
set_option maxHeartbeats 4000000 in
theorem platAll_walk (a0 b0 : Int) (w : World) (ha1 : -9223372036854775808 ≤ a0) (ha2 : a0 ≤ 9223372036854775807) (hb1 : -9223372036854775808 ≤ b0) (hb2 : b0 ≤ 9223372036854775807) :
    Calls Try.prog 7 #[.agg #[.int .i64 a0, .int .i64 b0]] w fun e w' => e = .returned (.bool true) ∧ Below w.heap.size w w' := by
  go_enter Try.func7, Try.ntmps7
  go_wp2_with (first
    | (go_at_call 11; refine (awake05_calls _).mono ?_; rintro e w1 ⟨rfl, hk⟩; have hR : Below (w.alloc (geoBox a0 b0)).heap.size (w.alloc (geoBox a0 b0)) w1 := hk; have r0 := geo0 hR; have r1 := geo1 hR; clear hk)
    | (go_at_call 12; (refine (fit_calls a0 b0 _ ha1 ha2 hb1 hb2).mono ?_); rintro e w2 ⟨N, S, n1, n2, s1, s2, rfl, hk⟩; replace hR := bel_call hR hk; have hG : Below (w2.alloc (geoBox N S)).heap.size (w2.alloc (geoBox N S)) (w2.alloc (geoBox N S)) := Below.refl _ _; clear hk))
  go_loopw [5, 6] (fun m i wr => ∃ M k : Int, 0 ≤ k ∧ k ≤ S ∧ m = .int .i64 M ∧ i = .int .i64 k ∧ M = k * (N - 1) ∧ Below (w2.alloc (geoBox N S)).heap.size (w2.alloc (geoBox N S)) wr) (fun _ i _ => (S - intOf i).toNat)
  case atStart => exact ⟨0, 0, by omega, by omega, rfl, rfl, by omega, hG⟩
  case round =>
    clear hG
    obtain ⟨K, k, hk0, hkS, rfl, rfl, hK, hG⟩ := hrel
    have g0 := geo0 hG
    have g1 := geo1 hG
    by_cases hlt : k < S
    · obtain ⟨b1, b2, b3⟩ := all_bounds n1 n2 s2 hK hk0 hlt
      have HK := Lib.hid hK
      clear hK
      go_wp2
      go_loopw [5, 7] (fun m i wr => ∃ M j : Int, 0 ≤ j ∧ j ≤ N ∧ m = .int .i64 M ∧ i = .int .i64 j ∧ (j < N → M = K + j) ∧ (j = N → M = K + (N - 1)) ∧ Below (w2.alloc (geoBox N S)).heap.size (w2.alloc (geoBox N S)) wr) (fun _ i _ => (N - intOf i).toNat)
      case atStart => exact ⟨K, 0, by omega, by omega, rfl, rfl, by omega, by omega, hG⟩
      case round =>
        clear hG g0 g1
        obtain ⟨M, j, hj0, hjN, rfl, rfl, hMa, hMb, hG⟩ := hrel
        have g0 := geo0 hG
        have g1 := geo1 hG
        by_cases hjt : j < N
        · obtain rfl : M = K + j := hMa hjt
          clear hMa hMb
          by_cases hc : j < N - 1
          · obtain ⟨d, hd⟩ : ∃ d, d = (j + k) % N := ⟨_, rfl⟩
            have HST := Lib.hid (all_stands n1 n2 HK.out hj0 hc hd)
            have HD := Lib.hid hd
            clear hd
            have hne : (j != N - 1) = true := by rw [bne_iff_ne]; omega
            go_wp2_with (first
              | (go_at_call 18; (refine (block_k N S k j K _ HK.out n1 n2 s1 s2 hk0 hlt hj0 hc).mono ?_); rintro e w3 ⟨rfl, hk⟩; replace hG := bel_call hG hk; have g2 := geo0 hG; have g3 := geo1 hG; clear hk)
              | (go_at_call 15; (refine (parity_yes N S _ n1 n2 s1 s2).mono ?_); rintro e w4 ⟨rfl, hk⟩; replace hG := bel_call hG hk; have g4 := geo0 hG; have g5 := geo1 hG; clear hk)
              | (go_at_call 17; (refine (of_v N S (K + j) k j d _ HST.out n1 n2 s1 s2 (by omega) (by omega)).mono ?_); rintro e w5 ⟨rfl, hk⟩; replace hG := bel_call hG hk; have hP : Below (w5.alloc (placeBox k j d)).heap.size (w5.alloc (placeBox k j d)) (w5.alloc (placeBox k j d)) := Below.refl _ _; have hS := allS hG hP; unfold placeBox at hS; obtain ⟨c0, c1, c2, c3, c4, -⟩ := hS; clear hk))
            go_region_held3 (fun w' => w'.cell? ⟨w2.heap.size, 0, none⟩ = some (.int .i64 N) ∧ w'.cell? ⟨w2.heap.size, 1, none⟩ = some (.int .i64 S) ∧ w'.cell? ⟨w5.heap.size, 0, none⟩ = some (.int .i64 k) ∧ w'.cell? ⟨w5.heap.size, 1, none⟩ = some (.int .i64 j) ∧ w'.cell? ⟨w5.heap.size, 2, none⟩ = some (.int .i64 d) ∧
                Below (w5.alloc (placeBox k j d)).heap.size (w5.alloc (placeBox k j d)) w')
              (first | exact allS hG hP.drew | exact allS hG hbx)
              (first
                | (go_at_call 14; go_split_ands; refine (node_v N S k j d _ HD.out n1 n2 s1 s2 hk0 hlt hj0 hjt).mono ?_; rintro e w6 ⟨rfl, hk⟩; have hbx := bel_call (by assumption : Below (w5.alloc (placeBox k j d)).heap.size (w5.alloc (placeBox k j d)) _) hk; clear hk))
            go_wp2_with fail
            go_roundw
            case rel => exact ⟨K + j + 1, j + 1, by omega, by omega, rfl, rfl, fun h => by omega, fun h => by omega, bel_call (bel_alloc hG _) (by assumption)⟩
            case measure => simp [intOf]; omega
          · obtain rfl : j = N - 1 := by omega
            go_wp2_with (first
              | (go_at_call 18; (refine (block_p N S k _).mono ?_); rintro e w3 ⟨rfl, hk⟩; replace hG := bel_call hG hk; have g2 := geo0 hG; have g3 := geo1 hG; clear hk)
              | (go_at_call 15; (refine (parity_yes N S _ n1 n2 s1 s2).mono ?_); rintro e w4 ⟨rfl, hk⟩; replace hG := bel_call hG hk; clear hk))
            go_roundw
            case rel => exact ⟨K + (N - 1), N, by omega, by omega, rfl, rfl, fun h => by omega, fun _ => rfl, hG⟩
            case measure => simp [intOf]; omega
        · obtain rfl : M = K + (N - 1) := hMb (by omega)
          clear hMa hMb
          go_wp2
          go_roundw
          case rel => exact ⟨K + (N - 1), k + 1, by omega, by omega, rfl, rfl, (all_next HK.out).symm, hG⟩
          case measure => simp [intOf]; omega
    · obtain rfl : k = S := by omega
      obtain ⟨e1, e2, e3⟩ := all_end n1 n2 s1 s2
      have k1 := prod_bounds n1 n2 s1 s2
      have w1 : IntKind.i64.wrap (k * (N - 1) + k) = k * N := by rw [e1]; exact IntWalk.i64_in _ (by omega)
      have w2 : IntKind.i64.wrap (k * N) = k * N := IntWalk.i64_in _ (by omega)
      subst hK
      clear e1 e2 e3 k1 hlt
      go_wp2_with (go_at_call 16; (refine (blocks_yes N k _ n1 n2 s1 s2).mono ?_); rintro e w3 ⟨rfl, hk⟩; replace hG := bel_call hG hk; have d0 := geo0 hG; have d1 := geo1 hG; clear hk)
      go_ret
      exact ⟨by rfl, bel_call (geo_below hR) (geo_below hG)⟩
end Go.Proofs.Ytnaanfkiljhmeaa
