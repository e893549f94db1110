/-
  PlanWays: a block that is fetched is the same, whichever column is out: for any raw geometry, texts and numbers. No condition.
-/
import Derived.Test.YtaahakmngdjdfaaPlanReads
namespace Go.Proofs.Ytaahakmngdjdfaa
open Go.RowKit

set_option maxRecDepth 100000 in
set_option maxHeartbeats 4000000 in
theorem planWays_walk (a0 b0 : Int) (raw : List ByteArray) (A : Option Addr) (n cap : Nat) (p q z : Int) (w : World) (ha1 : -9223372036854775808 ≤ a0) (ha2 : a0 ≤ 9223372036854775807) (hb1 : -9223372036854775808 ≤ b0) (hb2 : b0 ≤ 9223372036854775807)
    (hr : Rd w w.heap.size A (raw.map Value.string)) (hln : raw.length = n) (_hnc : n ≤ cap) (hc : cap * 16 ≤ 140737488351232) (_hs : ∀ s ∈ raw, s.size ≤ maxLen)
    (p1 : -9223372036854775808 ≤ p) (p2 : p ≤ 9223372036854775807) (q1 : -9223372036854775808 ≤ q) (q2 : q ≤ 9223372036854775807) (z1 : -9223372036854775808 ≤ z) (z2 : z ≤ 9223372036854775807) :
    Calls Try.prog 6 #[.agg #[.int .i64 a0, .int .i64 b0], .slice A n cap, .int .i64 p, .int .i64 q, .int .i64 z] w fun e w' => e = .returned (.bool true) ∧ Below w.heap.size w w' := by
  have HR := Lib.hid hr
  have HN := Lib.hid hln
  have hnm : n ≤ maxLen := by unfold maxLen; omega
  have HNM := Lib.hid hnm
  clear hr hln hnm hc _hnc _hs
  go_enter Try.func6, Try.ntmps6
  go_wp2_with (first
    | (go_at_call 9; refine (awake06_calls _).mono ?_; rintro e w1 ⟨rfl, hk⟩; have hR : Below (w.alloc (geoBox a0 b0)).heap.size (w.alloc (geoBox a0 b0)) w1 := hk; have r0 := geo0 hR; have r1 := geo1 hR; clear hk)
    | (go_at_call 10; (refine (fit_n a0 b0 _ ha1 ha2 hb1 hb2).mono ?_); rintro e w2 ⟨N, S, n1, n2, s1, s2, rfl, hk⟩; replace hR := bel_call hR hk; clear hk)
    | (go_at_call 17; (refine (stripe_yes N S raw A n cap _ n1 n2 (rdi_alloc (rdi_call HR.out (geo_below hR)) _) HN.out HNM.out).mono ?_); rintro e w3 ⟨g, cc, L, rfl, hg1, hg2, hcc1, hcc2, hL, hLs, hLz, hown, hk⟩; have hG : Below (w2.alloc (geoBox N S)).heap.size (w2.alloc (geoBox N S)) w3 := hk; have g0 := geo0 hG; have g1 := geo1 hG; have HL := Lib.hid hL; have HLS := Lib.hid hLs; have HLZ := Lib.hid hLz; have HRL := Lib.hid (Rd.of_own hown); clear hL hLs hLz hown hk hcc2)
    | (go_at_call_of 12 (Value.int .i64 p); (refine (pick06_arg p _ (N - 1) _ (by omega) p1 p2 (by omega) (by omega)).mono ?_); rintro e w' ⟨c, hc, rfl, rfl⟩)
    | (go_at_call_of 12 (Value.int .i64 q); (refine (pick06_int q _ _ q1 q2 (by omega) (by omega)).mono ?_); rintro e w' ⟨o, ho1, ho2, rfl, rfl⟩; obtain ⟨t, ht⟩ : ∃ t, o - 1 = t := ⟨_, rfl⟩; obtain ⟨m, hm⟩ : ∃ m, (fetchR N c t).length = m := ⟨_, rfl⟩; have HM := Lib.hid hm; have ht1 : -1 ≤ t := (by omega); have ht2 : t ≤ (N : Int) - 1 := (by omega); clear hm)
    | (go_at_call_of 12 (Value.int .i64 z); (refine (pick06_int z _ _ z1 z2 (by omega) (by omega)).mono ?_); rintro e w' ⟨o', ho1', ho2', rfl, rfl⟩; obtain ⟨t', ht'⟩ : ∃ t', o' - 1 = t' := ⟨_, rfl⟩; obtain ⟨m', hm'⟩ : ∃ m', (fetchR N c t').length = m' := ⟨_, rfl⟩; have HM' := Lib.hid hm'; have ht1' : -1 ≤ t' := (by omega); have ht2' : t' ≤ (N : Int) - 1 := (by omega); clear hm'))
  go_wp2_with fail
  refine (fetch_m N m S c t _ HM.out n1 n2 (by omega) (by omega) (by omega) (by omega) ht1 ht2).mono ?_
  rintro e w4 ⟨A1, A2, c1, c2, bl, -, rfl, f1, -, hk⟩
  have HK := Lib.hid hk
  replace hG := bel_call hG hk
  have g2 := geo0 hG
  have g3 := geo1 hG
  have F1 := Lib.hid f1
  clear hk f1
  go_wp2_with fail
  refine (fetch_m N m' S c t' _ HM'.out n1 n2 (by omega) (by omega) (by omega) (by omega) ht1' ht2').mono ?_
  rintro e w5 ⟨A1', A2', c1', c2', bl', -, rfl, f1, -, hk⟩
  have HK' := Lib.hid (bel_call HK.out hk)
  have F1' := Lib.hid f1
  have F1a := Lib.hid (rdi_call F1.out hk)
  replace hG := bel_call hG hk
  clear hk f1
  go_wp2_with fail
  obtain ⟨x, hx⟩ : ∃ x, x = L.getD c ⟨#[]⟩ := ⟨_, rfl⟩
  have hGL : gotV c t (pickL L (fetchR N c t)) = x := by rw [got_law HL.out n2 HLS.out HLZ.out (by omega) (by omega), Int.toNat_natCast, hx]
  have hGL' : gotV c t' (pickL L (fetchR N c t')) = x := by rw [got_law HL.out n2 HLS.out HLZ.out (by omega) (by omega), Int.toNat_natCast, hx]
  clear hx
  have hIN : ∀ x ∈ fetchR N c t, 0 ≤ x ∧ x < (N : Int) := fetchR_in (by omega) (by omega)
  have hIN' : ∀ x ∈ fetchR N c t', 0 ≤ x ∧ x < (N : Int) := fetchR_in (by omega) (by omega)
  have HP := Lib.hid (pickL_size HLS.out (by rw [HL.out]; exact hIN))
  have HP' := Lib.hid (pickL_size HLS.out (by rw [HL.out]; exact hIN'))
  have HGL := Lib.hid hGL
  have HGL' := Lib.hid hGL'
  have HRL4 := Lib.hid (rdi_call HRL.out HK'.out)
  have HIN := Lib.hid hIN
  have HIN' := Lib.hid hIN'
  have hm6 : m ≤ 6 := by rw [← HM.out]; exact Nat.le_trans (fetchR_len c t (by omega)) n2
  have hm6' : m' ≤ 6 := by rw [← HM'.out]; exact Nat.le_trans (fetchR_len c t' (by omega)) n2
  have g4 := geo0 hG
  have g5 := geo1 hG
  clear hGL hGL' hIN hIN' g0 g1 g2 g3
  go_region_held3 (fun w' => w'.cell? ⟨w2.heap.size, 0, none⟩ = some (.int .i64 (N : Int)) ∧ w'.cell? ⟨w2.heap.size, 1, none⟩ = some (.int .i64 (S : Int)) ∧ Below w5.heap.size w5 w')
    (first | exact stS hG (Below.refl _ _).drew | exact stS hG hbx)
    (first
      | (go_at_call 19; go_split_ands; (refine (named_yes L (fetchR N c t) _ A1 N m _ c1 _ (rdi_call HRL4.out (by assumption)) (rdi_call F1a.out (by assumption)) HL.out HM.out (by omega) (by omega) HIN.out).mono ?_); rintro e w6 ⟨C, cc6, rfl, hq1, hq2, hrc, hk⟩; have hbx := bel_call (by assumption : Below w5.heap.size w5 _) hk; have HRC := Lib.hid hrc; have HQ2 := Lib.hid hq2; clear hk hrc hq2)
      | (go_at_call 18; go_split_ands; (refine (got_yes N m S c t (pickL L (fetchR N c t)) _ cc6 _ HM.out (by rw [pickL_length]; exact HM.out) HP.out (by first | exact HRC.out | exact HRC.out.drew) hq1 HQ2.out n1 n2 (by omega) (by omega) (by omega) (by omega) ht1 ht2).mono ?_); rw [HGL.out]; rintro e w7 ⟨rfl, hk⟩; have hbx := bel_call (by assumption : Below w5.heap.size w5 _) hk; clear hk))
  have HBX := Lib.hid hbx
  clear hbx g4 g5
  go_wp2
  have hG7 := bel_call hG HBX.out
  have g6 := geo0 hG7
  have g7 := geo1 hG7
  have HRL7 := Lib.hid (rdi_call HRL4.out HBX.out)
  have F1b := Lib.hid (rdi_call F1'.out HBX.out)
  clear hG
  go_region_held3 (fun w' => w'.cell? ⟨w2.heap.size, 0, none⟩ = some (.int .i64 (N : Int)) ∧ w'.cell? ⟨w2.heap.size, 1, none⟩ = some (.int .i64 (S : Int)) ∧ Below w7.heap.size w7 w')
    (first | exact stS hG7 (Below.refl _ _).drew | exact stS hG7 hbx)
    (first
      | (go_at_call 19; go_split_ands; (refine (named_yes L (fetchR N c t') _ A1' N m' _ c1' _ (rdi_call HRL7.out (by assumption)) (rdi_call F1b.out (by assumption)) HL.out HM'.out (by omega) (by omega) HIN'.out).mono ?_); rintro e w8 ⟨C', cc8, rfl, hq1', hq2', hrc, hk⟩; have hbx := bel_call (by assumption : Below w7.heap.size w7 _) hk; have HRC' := Lib.hid hrc; have HQ2' := Lib.hid hq2'; clear hk hrc hq2')
      | (go_at_call 18; go_split_ands; (refine (got_yes N m' S c t' (pickL L (fetchR N c t')) _ cc8 _ HM'.out (by rw [pickL_length]; exact HM'.out) HP'.out (by first | exact HRC'.out | exact HRC'.out.drew) hq1' HQ2'.out n1 n2 (by omega) (by omega) (by omega) (by omega) ht1' ht2').mono ?_); rw [HGL'.out]; rintro e w9 ⟨rfl, hk⟩; have hbx := bel_call (by assumption : Below w7.heap.size w7 _) hk; clear hk))
  have hfin := bel_call (geo_below hR) (geo_below (bel_call hG7 hbx))
  clear hbx
  go_wp2
  go_ret
  exact ⟨by rfl, hfin⟩
end Go.Proofs.Ytaahakmngdjdfaa
