/-
  PlanReads: whichever one column is out, Got of what Fetch reads is the block: for any raw geometry, texts and numbers. No condition.
-/
import Derived.Test.YtaahakmngdjdfaaPlanGot
import Derived.Test.YtaahakmngdjdfaaPick06
import Derived.Test.YtaahakmngdjdfaaAwake06
namespace Go.Proofs.Ytaahakmngdjdfaa
open Go.RowKit

theorem fetchR_ne {N : Nat} {c o : Int} : ∀ x ∈ fetchR N c o, (x == o) = false := by
  unfold fetchR
  by_cases h : o = c
  · rw [if_pos h, h]; exact othersL_ne
  · rw [if_neg h]
    intro x hx
    rw [List.mem_singleton.1 hx, beq_eq_false_iff_ne]
    exact fun e => h e.symm
theorem fetchB_ne {N : Nat} {c o : Int} (c1 : 0 ≤ c) (c2 : c < (N : Int) - 1) : ∀ x ∈ fetchB N c o, (x == c) = false ∧ (x == o) = false := by
  unfold fetchB
  by_cases h : o = -1
  · rw [if_pos h, h]
    intro x hx
    rw [List.mem_singleton.1 hx, beq_eq_false_iff_ne, beq_eq_false_iff_ne]
    have e : (c + 1) % (N : Int) = c + 1 := Int.emod_eq_of_lt (by omega) (by omega)
    rw [e]
    omega
  · rw [if_neg h]; intro x hx; simp at hx
theorem fetch_two {N : Nat} {c o : Int} {m bl : Nat} (hm : (fetchR N c o).length = m) (hb : bl = (fetchB N c o).length) (c1 : 0 ≤ c) : (o != -1) = true ∨ ((o != -1) = false ∧ m = 1 ∧ bl = 1) := by
  by_cases h : o = -1
  · right
    subst hb
    have e : o ≠ c := by omega
    refine ⟨by rw [h]; rfl, ?_, ?_⟩
    · rw [← hm]; unfold fetchR; rw [if_neg e]; rfl
    · unfold fetchB; rw [if_pos h]; rfl
  · left; rw [bne_iff_ne]; exact h
/-- what the regions with named and Got keep -/
theorem stS {w2 wX w' : World} {N S : Int} (hG : Below (w2.alloc (geoBox N S)).heap.size (w2.alloc (geoBox N S)) wX) (h : Below wX.heap.size wX w') :
    w'.cell? ⟨w2.heap.size, 0, none⟩ = some (.int .i64 N) ∧ w'.cell? ⟨w2.heap.size, 1, none⟩ = some (.int .i64 S) ∧ Below wX.heap.size wX w' :=
  ⟨geo0 (bel_call hG h), geo1 (bel_call hG h), h⟩

set_option maxRecDepth 100000 in
set_option maxHeartbeats 4000000 in
theorem planReads_walk (a0 b0 : Int) (raw : List ByteArray) (A : Option Addr) (n cap : Nat) (p q : Int) (w : World) (ha1 : -9223372036854775808 ≤ a0) (ha2 : a0 ≤ 9223372036854775807) (hb1 : -9223372036854775808 ≤ b0) (hb2 : b0 ≤ 9223372036854775807)
    (hr : Rd w w.heap.size A (raw.map Value.string)) (hln : raw.length = n) (_hnc : n ≤ cap) (hc : cap * 16 ≤ 140737488351232) (_hs : ∀ s ∈ raw, s.size ≤ maxLen)
    (p1 : -9223372036854775808 ≤ p) (p2 : p ≤ 9223372036854775807) (q1 : -9223372036854775808 ≤ q) (q2 : q ≤ 9223372036854775807) :
    Calls Try.prog 5 #[.agg #[.int .i64 a0, .int .i64 b0], .slice A n cap, .int .i64 p, .int .i64 q] w fun e w' => e = .returned (.bool true) ∧ Below w.heap.size w w' := by
  have HR := Lib.hid hr
  have HN := Lib.hid hln
  have hnm : n ≤ maxLen := by unfold maxLen; omega
  have HNM := Lib.hid hnm
  clear hr hln hnm hc _hnc _hs
  go_enter Try.func5, Try.ntmps5
  go_wp2_with (first
    | (go_at_call 9; refine (awake06_calls _).mono ?_; rintro e w1 ⟨rfl, hk⟩; have hR : Below (w.alloc (geoBox a0 b0)).heap.size (w.alloc (geoBox a0 b0)) w1 := hk; have r0 := geo0 hR; have r1 := geo1 hR; clear hk)
    | (go_at_call 10; (refine (fit_n a0 b0 _ ha1 ha2 hb1 hb2).mono ?_); rintro e w2 ⟨N, S, n1, n2, s1, s2, rfl, hk⟩; replace hR := bel_call hR hk; clear hk)
    | (go_at_call 17; (refine (stripe_yes N S raw A n cap _ n1 n2 (rdi_alloc (rdi_call HR.out (geo_below hR)) _) HN.out HNM.out).mono ?_); rintro e w3 ⟨g, cc, L, rfl, hg1, hg2, hcc1, hcc2, hL, hLs, hLz, hown, hk⟩; have hG : Below (w2.alloc (geoBox N S)).heap.size (w2.alloc (geoBox N S)) w3 := hk; have g0 := geo0 hG; have g1 := geo1 hG; have HL := Lib.hid hL; have HLS := Lib.hid hLs; have HLZ := Lib.hid hLz; have HRL := Lib.hid (Rd.of_own hown); clear hL hLs hLz hown hk hcc2)
    | (go_at_call_of 12 (Value.int .i64 p); (refine (pick06_arg p _ (N - 1) _ (by omega) p1 p2 (by omega) (by omega)).mono ?_); rintro e w' ⟨c, hc, rfl, rfl⟩)
    | (go_at_call_of 12 (Value.int .i64 q); (refine (pick06_int q _ _ q1 q2 (by omega) (by omega)).mono ?_); rintro e w' ⟨o, ho1, ho2, rfl, rfl⟩; obtain ⟨t, ht⟩ : ∃ t, o - 1 = t := ⟨_, rfl⟩; obtain ⟨m, hm⟩ : ∃ m, (fetchR N c t).length = m := ⟨_, rfl⟩; have HM := Lib.hid hm; have ht1 : -1 ≤ t := (by omega); have ht2 : t ≤ (N : Int) - 1 := (by omega); clear hm)
    | (go_at_call 15; (refine (fetch_m N m S c t _ HM.out n1 n2 (by omega) (by omega) (by omega) (by omega) ht1 ht2).mono ?_); rintro e w4 ⟨A1, A2, c1, c2, bl, hbl, rfl, f1, f2, hk⟩; have HK := Lib.hid hk; replace hG := bel_call hG hk; have HBL := Lib.hid hbl; have F1 := Lib.hid f1; have F2 := Lib.hid f2; clear hk hbl f1 f2))
  have hHP : ∀ s ∈ pickL L (fetchR N c t), s.size = 16 := pickL_size HLS.out (by rw [HL.out]; exact fetchR_in (by omega) (by omega))
  have hGL : gotV c t (pickL L (fetchR N c t)) = L.getD (c : Int).toNat ⟨#[]⟩ := got_law HL.out n2 HLS.out HLZ.out (by omega) (by omega)
  rw [Int.toNat_natCast] at hGL
  obtain ⟨x, hx⟩ : ∃ x, x = L.getD c ⟨#[]⟩ := ⟨_, rfl⟩
  rw [← hx] at hGL
  have HX := Lib.hid hx
  clear hx
  have HP := Lib.hid hHP
  have HGL := Lib.hid hGL
  have HRL4 := Lib.hid (rdi_call HRL.out HK.out)
  have hIN : ∀ x ∈ fetchR N c t, 0 ≤ x ∧ x < (N : Int) := fetchR_in (by omega) (by omega)
  have HIN := Lib.hid hIN
  have hm6 : m ≤ 6 := by rw [← HM.out]; exact Nat.le_trans (fetchR_len c t (by omega)) n2
  have g4 := geo0 hG
  have g5 := geo1 hG
  clear hHP hGL hIN g0 g1
  go_region_held3 (fun w' => w'.cell? ⟨w2.heap.size, 0, none⟩ = some (.int .i64 (N : Int)) ∧ w'.cell? ⟨w2.heap.size, 1, none⟩ = some (.int .i64 (S : Int)) ∧ Below w4.heap.size w4 w')
    (first | exact stS hG (Below.refl _ _).drew | exact stS hG hbx)
    (first
      | (go_at_call 19; go_split_ands; (refine (named_yes L (fetchR N c t) _ A1 N m _ c1 _ (rdi_call HRL4.out (by assumption)) (rdi_call F1.out (by assumption)) HL.out HM.out (by omega) (by omega) HIN.out).mono ?_); rintro e w6 ⟨C, cc6, rfl, hq1, hq2, hrc, hk⟩; have hbx := bel_call (by assumption : Below w4.heap.size w4 _) hk; have HRC := Lib.hid hrc; have HQ2 := Lib.hid hq2; clear hk hrc hq2)
      | (go_at_call 18; go_split_ands; (refine (got_yes N m S c t (pickL L (fetchR N c t)) _ cc6 _ HM.out (by rw [pickL_length]; exact HM.out) HP.out (by first | exact HRC.out | exact HRC.out.drew) hq1 HQ2.out n1 n2 (by omega) (by omega) (by omega) (by omega) ht1 ht2).mono ?_); rw [HGL.out]; rintro e w7 ⟨rfl, hk⟩; have hbx := bel_call (by assumption : Below w4.heap.size w4 _) hk; clear hk))
  go_wp2
  have HF1 := Lib.hid (rdi_call F1.out hbx)
  have HF2 := Lib.hid (rdi_call F2.out hbx)
  have hcl : c < L.length := by rw [HL.out]; omega
  have hcx : w7.cell? ⟨g, c, none⟩ = some (.string x) := by
    have h := (rdi_call HRL4.out hbx).cell_ (k := c) (u := .string x) (by rw [HX.out, col_eq hcl]; simp [hcl])
    rwa [Nat.zero_add] at h
  have hfin := bel_call (geo_below hR) (geo_below (bel_call hG hbx))
  have htw := fetch_two HM.out HBL.out (by omega)
  have hbl1 : bl ≤ 1 := by rw [HBL.out]; unfold fetchB; split <;> simp
  clear hcl g4 g5 hbx
  go_loop [17] (fun i => ∃ k : Nat, k ≤ m ∧ i = .int .i64 k) (fun i => m - (intOf i).toNat)
  case atStart => exact ⟨0, Nat.zero_le _, rfl⟩
  case round =>
    obtain ⟨k, hk, rfl⟩ := hrel
    by_cases hlt : k < m
    · have hkl : k < (fetchR N c t).length := by rw [HM.out]; exact hlt
      obtain ⟨b, off, rfl, hbB, hc0⟩ := HF1.out.at_ (intCells_at hkl)
      have hne := fetchR_ne _ (List.getElem_mem hkl)
      obtain ⟨y, hy⟩ : ∃ y, y = (fetchR N c t)[k] := ⟨_, rfl⟩
      rw [← hy] at hc0 hne
      have hcw : w7.cell? ⟨b, off + k, none⟩ = _ := hc0
      clear hy htw
      go_wp2
      go_round
      case rel => exact ⟨k + 1, by omega, by go_num⟩
      case measure => simp [intOf]; omega
    · have hlt2 : decide (k < m) = false := decide_eq_false hlt
      clear hlt
      go_wp2
      go_loop [18] (fun i => ∃ k : Nat, k ≤ bl ∧ i = .int .i64 k) (fun i => bl - (intOf i).toNat)
      case atStart => exact ⟨0, Nat.zero_le _, rfl⟩
      case round =>
        obtain ⟨k2, hk2, rfl⟩ := hrel
        by_cases hlt : k2 < bl
        · have hkl : k2 < (fetchB N c t).length := by rw [← HBL.out]; exact hlt
          obtain ⟨b, off, rfl, hbB, hc0⟩ := HF2.out.at_ (intCells_at hkl)
          obtain ⟨hne, hne2⟩ := fetchB_ne (by omega) (by omega) _ (List.getElem_mem hkl)
          obtain ⟨y, hy⟩ : ∃ y, y = (fetchB N c t)[k2] := ⟨_, rfl⟩
          rw [← hy] at hc0 hne hne2
          clear hy htw
          go_wp2
          go_round
          case rel => exact ⟨k2 + 1, by omega, by go_num⟩
          case measure => simp [intOf]; omega
        · have hlt3 : decide (k2 < bl) = false := decide_eq_false hlt
          have hcn : c < N := by omega
          clear hlt
          rcases htw with hto | ⟨hto, hm1, hb1⟩
          · go_wp2
            go_ret
            exact ⟨by rfl, hfin⟩
          · have hsum : (2 : Int) ≤ (m : Int) + (bl : Int) := by omega
            clear hm1 hb1
            go_wp2
            go_ret
            exact ⟨by rfl, hfin⟩
end Go.Proofs.Ytaahakmngdjdfaa
