/-
  PlatTurns: over as many stripes as there are nodes each node has the parity just once: for any raw geometry and numbers. No condition.
-/
import Derived.Test.YtnaanfkiljhmeaaFit05
namespace Go.Proofs.Ytnaanfkiljhmeaa
open Go.RowKit

set_option maxRecDepth 100000 in
set_option maxHeartbeats 4000000 in
theorem platTurns_walk (a0 b0 : Int) (a b : Int) (w : World) (ha1 : -9223372036854775808 ≤ a0) (ha2 : a0 ≤ 9223372036854775807) (hb1 : -9223372036854775808 ≤ b0) (hb2 : b0 ≤ 9223372036854775807)
    (x1 : -9223372036854775808 ≤ a) (x2 : a ≤ 9223372036854775807) (y1 : -9223372036854775808 ≤ b) (y2 : b ≤ 9223372036854775807) :
    Calls Try.prog 3 #[.agg #[.int .i64 a0, .int .i64 b0], .int .i64 a, .int .i64 b] w fun e w' => e = .returned (.bool true) ∧ Below w.heap.size w w' := by
  go_enter Try.func3, Try.ntmps3
  go_wp2_with (first
    | (go_at_call 11; refine (awake05_calls _).mono ?_; rintro e w1 ⟨rfl, hk⟩; have hR : Below (w.alloc (geoBox a0 b0)).heap.size (w.alloc (geoBox a0 b0)) w1 := hk; have r0 := geo0 hR; have r1 := geo1 hR; clear hk)
    | (go_at_call 12; (refine (fit_calls a0 b0 _ ha1 ha2 hb1 hb2).mono ?_); rintro e w2 ⟨N, S, n1, n2, s1, s2, rfl, hk⟩; replace hR := bel_call hR hk; have hG : Below (w2.alloc (geoBox N S)).heap.size (w2.alloc (geoBox N S)) (w2.alloc (geoBox N S)) := Below.refl _ _; clear hk)
    | (go_at_call_of 13 (Value.int .i64 a); (refine (pick05_int a _ _ x1 x2 (by omega) (by omega)).mono ?_); rintro e w' ⟨x, hx1, hx2, rfl, rfl⟩)
    | (go_at_call_of 13 (Value.int .i64 b); (refine (pick05_int b _ _ y1 y2 (by omega) (by omega)).mono ?_); rintro e w' ⟨c, hc1, hc2, rfl, rfl⟩))
  obtain ⟨t, ht⟩ : ∃ t, t = turnS N x := ⟨_, rfl⟩
  obtain ⟨ht1, ht2⟩ := turn_range (node := x) n1
  have HT := Lib.hid ht
  rw [← ht] at ht1 ht2
  clear ht
  go_loopw [9, 10] (fun m i wr => ∃ M s : Int, 0 ≤ s ∧ s ≤ S ∧ 0 ≤ M ∧ M ≤ 1 ∧ m = .int .i64 M ∧ i = .int .i64 s ∧ (t < s → M = 1) ∧ (s ≤ t → M = 0) ∧ Below (w2.alloc (geoBox N S)).heap.size (w2.alloc (geoBox N S)) wr) (fun _ i _ => (S - intOf i).toNat)
  case atStart => exact ⟨0, 0, by omega, by omega, by omega, by omega, rfl, rfl, fun h => by omega, fun _ => rfl, hG⟩
  case round =>
    clear hG
    obtain ⟨M, s, hs0, hsS, hM0, hM1, rfl, rfl, hMa, hMb, hG⟩ := hrel
    have g0 := geo0 hG
    have g1 := geo1 hG
    by_cases hlt : s < S
    · have hnext : ∀ (M' : Int) (wr' : World), 0 ≤ M' → M' ≤ 1 → (t < s + 1 → M' = 1) → (s + 1 ≤ t → M' = 0) → Below (w2.alloc (geoBox N S)).heap.size (w2.alloc (geoBox N S)) wr' →
          ∃ M s_1 : Int, 0 ≤ s_1 ∧ s_1 ≤ S ∧ 0 ≤ M ∧ M ≤ 1 ∧ Value.int .i64 M' = .int .i64 M ∧ Value.int .i64 (s + 1) = .int .i64 s_1 ∧ (t < s_1 → M = 1) ∧ (s_1 ≤ t → M = 0) ∧ Below (w2.alloc (geoBox N S)).heap.size (w2.alloc (geoBox N S)) wr' :=
        fun M' wr' h1 h2 h3 h4 h5 => ⟨M', s + 1, by omega, by omega, h1, h2, rfl, rfl, h3, h4, h5⟩
      have HN := Lib.hid hnext
      have HMa := Lib.hid hMa
      have HMb := Lib.hid hMb
      clear hnext hMa hMb
      obtain ⟨d, hd⟩ : ∃ d, d = (N - 1 + s) % N := ⟨_, rfl⟩
      have HD := Lib.hid hd
      obtain ⟨u, hu⟩ : ∃ u, u = (c + s) % N := ⟨_, rfl⟩
      obtain ⟨v, hv⟩ : ∃ v, v = (c + (s - 1)) % N := ⟨_, rfl⟩
      have HU := Lib.hid hu
      have HV := Lib.hid hv
      have hv0 : 0 ≤ v := by rw [hv]; exact Int.emod_nonneg _ (by omega)
      have hvN : v < N := by rw [hv]; exact Int.emod_lt_of_pos _ (by omega)
      have hvu : (v + 1).tmod N = u := turn_next n1 n2 hu hv
      have hwv : IntKind.i64.wrap (v + 1) = v + 1 := IntWalk.i64_in _ (by omega)
      have hws : IntKind.i64.wrap (s - 1) = s - 1 := IntWalk.i64_in _ (by omega)
      have hN0 : ¬ N = 0 := by omega
      have hdx : s < N → (d = x ↔ s = t) := fun h => by rw [hd, HT.out]; exact turn_iff n1 n2 hs0 h hx1 hx2
      clear hd hu hv
      rcases (show (s < N ∧ s = t) ∨ (s < N ∧ s ≠ t) ∨ N ≤ s by omega) with ⟨hsN, hst⟩ | ⟨hsN, hst⟩ | hsN
      · by_cases hz : s = 0
        · have hq : (d == x) = true := by rw [beq_iff_eq]; exact (hdx hsN).2 hst
          have hM : M = 0 := HMb.out (by omega)
          subst hM
          have HST : Hid (s = t) := Lib.hid hst
          clear hdx hst
          have hzz : decide (0 < s) = false := by simp; omega
          have HZ := Lib.hid hz
          clear hz
          go_wp2_with fail
          go_region_held3 (fun w' => w'.cell? ⟨w2.heap.size, 0, none⟩ = some (.int .i64 N) ∧ w'.cell? ⟨w2.heap.size, 1, none⟩ = some (.int .i64 S) ∧ Below (w2.alloc (geoBox N S)).heap.size (w2.alloc (geoBox N S)) w')
            (first | exact geoS hG.drew | exact geoS hbx)
            (first
              | (go_at_call 15; go_split_ands; refine (parity_yes N S _ n1 n2 s1 s2).mono ?_; rintro e w4 ⟨rfl, hk⟩; have hbx := bel_call (by assumption : Below (w2.alloc (geoBox N S)).heap.size (w2.alloc (geoBox N S)) _) hk; clear hk)
              | (go_at_call 14; go_split_ands; refine (node_v N S s (N - 1) d _ HD.out n1 n2 s1 s2 hs0 hlt (by omega) (by omega)).mono ?_; rintro e w5 ⟨rfl, hk⟩; have hbx := bel_call (by assumption : Below (w2.alloc (geoBox N S)).heap.size (w2.alloc (geoBox N S)) _) hk; clear hk))
          replace hG := (by assumption : Below (w2.alloc (geoBox N S)).heap.size (w2.alloc (geoBox N S)) w5)
          have g2 := geo0 hG
          have g3 := geo1 hG
          go_wp2_with fail
          go_quiet (fail)
          replace hG := below_drewN hG nq
          go_wp2
          all_goals
            go_roundw
            case rel => exact HN.out 1 _ (by omega) (by omega) (fun _ => rfl) (fun h => by have := HST.out; omega) (by assumption)
            case measure => simp [intOf]; omega
        · have hq : (d == x) = true := by rw [beq_iff_eq]; exact (hdx hsN).2 hst
          have hM : M = 0 := HMb.out (by omega)
          subst hM
          have HST : Hid (s = t) := Lib.hid hst
          clear hdx hst
          have hzz : 0 < s := by omega
          have HZ := Lib.hid hz
          clear hz
          go_wp2_with fail
          go_region_held3 (fun w' => w'.cell? ⟨w2.heap.size, 0, none⟩ = some (.int .i64 N) ∧ w'.cell? ⟨w2.heap.size, 1, none⟩ = some (.int .i64 S) ∧ Below (w2.alloc (geoBox N S)).heap.size (w2.alloc (geoBox N S)) w')
            (first | exact geoS hG.drew | exact geoS hbx)
            (first
              | (go_at_call 15; go_split_ands; refine (parity_yes N S _ n1 n2 s1 s2).mono ?_; rintro e w4 ⟨rfl, hk⟩; have hbx := bel_call (by assumption : Below (w2.alloc (geoBox N S)).heap.size (w2.alloc (geoBox N S)) _) hk; clear hk)
              | (go_at_call 14; go_split_ands; refine (node_v N S s (N - 1) d _ HD.out n1 n2 s1 s2 hs0 hlt (by omega) (by omega)).mono ?_; rintro e w5 ⟨rfl, hk⟩; have hbx := bel_call (by assumption : Below (w2.alloc (geoBox N S)).heap.size (w2.alloc (geoBox N S)) _) hk; clear hk))
          replace hG := (by assumption : Below (w2.alloc (geoBox N S)).heap.size (w2.alloc (geoBox N S)) w5)
          have g2 := geo0 hG
          have g3 := geo1 hG
          go_wp2_with fail
          go_region_held3 (fun w' => w'.cell? ⟨w2.heap.size, 0, none⟩ = some (.int .i64 N) ∧ w'.cell? ⟨w2.heap.size, 1, none⟩ = some (.int .i64 S) ∧ Below (w2.alloc (geoBox N S)).heap.size (w2.alloc (geoBox N S)) w')
            (first | exact geoS hG.drew | exact geoS hbx)
            (first
              | (go_at_call_of 14 (Value.int .i64 s); go_split_ands; refine (node_v N S s c u _ HU.out n1 n2 s1 s2 hs0 hlt hc1 hc2).mono ?_; rintro e w6 ⟨rfl, hk⟩; have hbx := bel_call (by assumption : Below (w2.alloc (geoBox N S)).heap.size (w2.alloc (geoBox N S)) _) hk; clear hk)
              | (go_at_call 14; go_split_ands; refine (node_v N S (s - 1) c v _ HV.out n1 n2 s1 s2 (by omega) (by omega) hc1 hc2).mono ?_; rintro e w7 ⟨rfl, hk⟩; have hbx := bel_call (by assumption : Below (w2.alloc (geoBox N S)).heap.size (w2.alloc (geoBox N S)) _) hk; clear hk))
          all_goals go_wp2
          all_goals
            go_roundw
            case rel => exact HN.out 1 _ (by omega) (by omega) (fun _ => rfl) (fun h => by have := HST.out; omega) (by assumption)
            case measure => simp [intOf]; omega
      · by_cases hz : s = 0
        · have hq : (d == x) = false := by rw [beq_eq_false_iff_ne]; exact fun h => hst ((hdx hsN).1 h)
          have HST : Hid (s ≠ t) := Lib.hid hst
          clear hdx hst
          have hzz : decide (0 < s) = false := by simp; omega
          have HZ := Lib.hid hz
          clear hz
          go_wp2_with fail
          go_region_held3 (fun w' => w'.cell? ⟨w2.heap.size, 0, none⟩ = some (.int .i64 N) ∧ w'.cell? ⟨w2.heap.size, 1, none⟩ = some (.int .i64 S) ∧ Below (w2.alloc (geoBox N S)).heap.size (w2.alloc (geoBox N S)) w')
            (first | exact geoS hG.drew | exact geoS hbx)
            (first
              | (go_at_call 15; go_split_ands; refine (parity_yes N S _ n1 n2 s1 s2).mono ?_; rintro e w4 ⟨rfl, hk⟩; have hbx := bel_call (by assumption : Below (w2.alloc (geoBox N S)).heap.size (w2.alloc (geoBox N S)) _) hk; clear hk)
              | (go_at_call 14; go_split_ands; refine (node_v N S s (N - 1) d _ HD.out n1 n2 s1 s2 hs0 hlt (by omega) (by omega)).mono ?_; rintro e w5 ⟨rfl, hk⟩; have hbx := bel_call (by assumption : Below (w2.alloc (geoBox N S)).heap.size (w2.alloc (geoBox N S)) _) hk; clear hk))
          replace hG := (by assumption : Below (w2.alloc (geoBox N S)).heap.size (w2.alloc (geoBox N S)) w5)
          have g2 := geo0 hG
          have g3 := geo1 hG
          go_wp2_with fail
          go_quiet (fail)
          replace hG := below_drewN hG nq
          go_wp2
          all_goals
            go_roundw
            case rel => exact HN.out M _ hM0 hM1 (fun h => HMa.out (by have := HST.out; omega)) (fun h => HMb.out (by omega)) (by assumption)
            case measure => simp [intOf]; omega
        · have hq : (d == x) = false := by rw [beq_eq_false_iff_ne]; exact fun h => hst ((hdx hsN).1 h)
          have HST : Hid (s ≠ t) := Lib.hid hst
          clear hdx hst
          have hzz : 0 < s := by omega
          have HZ := Lib.hid hz
          clear hz
          go_wp2_with fail
          go_region_held3 (fun w' => w'.cell? ⟨w2.heap.size, 0, none⟩ = some (.int .i64 N) ∧ w'.cell? ⟨w2.heap.size, 1, none⟩ = some (.int .i64 S) ∧ Below (w2.alloc (geoBox N S)).heap.size (w2.alloc (geoBox N S)) w')
            (first | exact geoS hG.drew | exact geoS hbx)
            (first
              | (go_at_call 15; go_split_ands; refine (parity_yes N S _ n1 n2 s1 s2).mono ?_; rintro e w4 ⟨rfl, hk⟩; have hbx := bel_call (by assumption : Below (w2.alloc (geoBox N S)).heap.size (w2.alloc (geoBox N S)) _) hk; clear hk)
              | (go_at_call 14; go_split_ands; refine (node_v N S s (N - 1) d _ HD.out n1 n2 s1 s2 hs0 hlt (by omega) (by omega)).mono ?_; rintro e w5 ⟨rfl, hk⟩; have hbx := bel_call (by assumption : Below (w2.alloc (geoBox N S)).heap.size (w2.alloc (geoBox N S)) _) hk; clear hk))
          replace hG := (by assumption : Below (w2.alloc (geoBox N S)).heap.size (w2.alloc (geoBox N S)) w5)
          have g2 := geo0 hG
          have g3 := geo1 hG
          go_wp2_with fail
          go_region_held3 (fun w' => w'.cell? ⟨w2.heap.size, 0, none⟩ = some (.int .i64 N) ∧ w'.cell? ⟨w2.heap.size, 1, none⟩ = some (.int .i64 S) ∧ Below (w2.alloc (geoBox N S)).heap.size (w2.alloc (geoBox N S)) w')
            (first | exact geoS hG.drew | exact geoS hbx)
            (first
              | (go_at_call_of 14 (Value.int .i64 s); go_split_ands; refine (node_v N S s c u _ HU.out n1 n2 s1 s2 hs0 hlt hc1 hc2).mono ?_; rintro e w6 ⟨rfl, hk⟩; have hbx := bel_call (by assumption : Below (w2.alloc (geoBox N S)).heap.size (w2.alloc (geoBox N S)) _) hk; clear hk)
              | (go_at_call 14; go_split_ands; refine (node_v N S (s - 1) c v _ HV.out n1 n2 s1 s2 (by omega) (by omega) hc1 hc2).mono ?_; rintro e w7 ⟨rfl, hk⟩; have hbx := bel_call (by assumption : Below (w2.alloc (geoBox N S)).heap.size (w2.alloc (geoBox N S)) _) hk; clear hk))
          all_goals go_wp2
          all_goals
            go_roundw
            case rel => exact HN.out M _ hM0 hM1 (fun h => HMa.out (by have := HST.out; omega)) (fun h => HMb.out (by omega)) (by assumption)
            case measure => simp [intOf]; omega
      · by_cases hz : s = 0
        · exact absurd hsN (by omega)
        · have hq : decide (s < N) = false := by simp; omega
          have HST : Hid (N ≤ s) := Lib.hid hsN
          clear hdx
          have hzz : 0 < s := by omega
          have HZ := Lib.hid hz
          clear hz
          go_wp2_with fail
          go_quiet (fail)
          replace hG := below_drewN hG nq
          have g2 := geo0 hG
          have g3 := geo1 hG
          go_wp2_with fail
          go_region_held3 (fun w' => w'.cell? ⟨w2.heap.size, 0, none⟩ = some (.int .i64 N) ∧ w'.cell? ⟨w2.heap.size, 1, none⟩ = some (.int .i64 S) ∧ Below (w2.alloc (geoBox N S)).heap.size (w2.alloc (geoBox N S)) w')
            (first | exact geoS hG.drew | exact geoS hbx)
            (first
              | (go_at_call_of 14 (Value.int .i64 s); go_split_ands; refine (node_v N S s c u _ HU.out n1 n2 s1 s2 hs0 hlt hc1 hc2).mono ?_; rintro e w6 ⟨rfl, hk⟩; have hbx := bel_call (by assumption : Below (w2.alloc (geoBox N S)).heap.size (w2.alloc (geoBox N S)) _) hk; clear hk)
              | (go_at_call 14; go_split_ands; refine (node_v N S (s - 1) c v _ HV.out n1 n2 s1 s2 (by omega) (by omega) hc1 hc2).mono ?_; rintro e w7 ⟨rfl, hk⟩; have hbx := bel_call (by assumption : Below (w2.alloc (geoBox N S)).heap.size (w2.alloc (geoBox N S)) _) hk; clear hk))
          all_goals go_wp2
          all_goals
            go_roundw
            case rel => exact HN.out M _ hM0 hM1 (fun h => HMa.out (by have := HST.out; omega)) (fun h => HMb.out (by omega)) (by assumption)
            case measure => simp [intOf]; omega
    · have hsS : s = S := by omega
      have HSS := Lib.hid hsS
      by_cases hSN : S < N
      · clear hsS hMa hMb
        go_wp2
        go_ret
        exact ⟨rfl, bel_call (geo_below hR) (geo_below hG)⟩
      · obtain rfl : M = 1 := hMa (by omega)
        clear hsS hMa hMb
        have d1 : decide (S < N) = false := by simp; omega
        go_wp2
        go_ret
        exact ⟨rfl, bel_call (geo_below hR) (geo_below hG)⟩
end Go.Proofs.Ytnaanfkiljhmeaa
