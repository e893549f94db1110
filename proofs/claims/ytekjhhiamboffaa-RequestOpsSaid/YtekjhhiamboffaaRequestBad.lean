/-
  RequestBad: what a geometry does not have is ErrBad, all that it has is taken: for any raw geometry and numbers. No condition.
-/
import Derived.Test.YtekjhhiamboffaaRequestWhole
namespace Go.Proofs.Ytekjhhiamboffaa
open Go.RowKit

theorem rblocks20 (N S T : Int) (w : World) (hT : T = S * (N - 1)) (h1 : 3 ≤ N) (h2 : N ≤ 6) (h3 : 1 ≤ S) (h4 : S ≤ 8) :
    Calls Try.prog 22 #[.agg #[.int .i64 N, .int .i64 S]] w fun e w' => e = .returned (.int .i64 T) ∧ Below w.heap.size w w' := by
  have h := rblocks_calls N S w
  have e : blocksZ N S = T := by
    unfold blocksZ
    rw [if_pos (right_iff.2 ⟨h1, h2, h3, h4⟩), hT]
  rw [e] at h
  exact h
set_option maxRecDepth 100000 in
set_option maxHeartbeats 4000000 in
theorem requestBad_walk (a0 b0 : Int) (p q r : Int) (w : World) (ha1 : -9223372036854775808 ≤ a0) (ha2 : a0 ≤ 9223372036854775807) (hb1 : -9223372036854775808 ≤ b0) (hb2 : b0 ≤ 9223372036854775807)
    (p1 : -9223372036854775808 ≤ p) (p2 : p ≤ 9223372036854775807) (q1 : -9223372036854775808 ≤ q) (q2 : q ≤ 9223372036854775807) (r1 : -9223372036854775808 ≤ r) (r2 : r ≤ 9223372036854775807) :
    Calls Try.prog 6 #[.agg #[.int .i64 a0, .int .i64 b0], .int .i64 p, .int .i64 q, .int .i64 r] w fun e w' => e = .returned (.bool true) ∧ Below w.heap.size w w' := by
  go_enter Try.func6, Try.ntmps6
  go_wp2_with (first
    | (go_at_call 8; refine (awake20_calls _).mono ?_; rintro e w1 ⟨rfl, hk⟩; have hR : Below (w.alloc (geoBox a0 b0)).heap.size (w.alloc (geoBox a0 b0)) w1 := hk; have s0 := geo0 hR; have s1 := geo1 hR; clear hk)
    | (go_at_call 20; (refine (fit_calls a0 b0 _ ha1 ha2 hb1 hb2).mono ?_); rintro e w2 ⟨N, S, n1, n2, m1, m2, rfl, hk⟩; replace hR := bel_call hR hk; have hG : Below (w2.alloc (geoBox N S)).heap.size (w2.alloc (geoBox N S)) (w2.alloc (geoBox N S)) := Below.refl _ _; clear hk)
    | (go_at_call_of 21 (Value.int .i64 p); (refine (pick20_int p 3 _ p1 p2 (by omega) (by omega)).mono ?_); rintro e w' ⟨k, hk1, hk2, rfl, rfl⟩)
    | (go_at_call_of 21 (Value.int .i64 r); (refine (pick20_nat r 4 _ r1 r2 (by omega) (by omega)).mono ?_); rintro e w' ⟨c, hc2, rfl, rfl⟩)
    | (go_at_call_of 21 (Value.int .i64 q); (refine (pick20_int q 60 _ q1 q2 (by omega) (by omega)).mono ?_); rintro e w' ⟨a, a1, a2, rfl, rfl⟩))
  obtain ⟨T, hT⟩ : ∃ T, T = S * (N - 1) := ⟨_, rfl⟩
  have hpb := prod_bounds n1 n2 m1 m2
  rw [← hT] at hpb
  obtain ⟨t1, t2⟩ := hpb
  have HT := Lib.hid hT
  clear hT
  refine (rblocks20 N S T _ HT.out n1 n2 m1 m2).mono ?_
  rintro e w3 ⟨rfl, hk⟩
  replace hG := bel_call hG hk
  have g0 := geo0 hG
  have g1 := geo1 hG
  clear hk
  have hbz : rightZ N S = true ∧ blocksZ N S = T := ⟨right_iff.2 ⟨n1, n2, m1, m2⟩, by unfold blocksZ; rw [if_pos (right_iff.2 ⟨n1, n2, m1, m2⟩), HT.out]⟩
  have HRZ := Lib.hid hbz.1
  have HBZ := Lib.hid hbz.2
  clear hbz
  rcases (show a + (1 + (c : Int)) ≤ T ∨ (a < T ∧ T < a + (1 + (c : Int))) ∨ T ≤ a by omega) with hM | ⟨hM0, hM⟩ | hM
  · have x1 : decide (a < T) = true := decide_eq_true (by omega)
    have x2 : decide (1 + (c : Int) ≤ T - a) = true := decide_eq_true (by omega)
    rcases (show k = 0 ∨ k = 1 ∨ k = 2 by omega) with rfl | rfl | rfl
    · skip
      skip
      have hP : ReqP 1 a (1 + (c : Int)) ⟨#[]⟩ := by unfold ReqP; have : (⟨#[]⟩ : ByteArray).size = 0 := rfl; omega
      obtain ⟨s, hs⟩ : ∃ s, s = layB (reqF 1 a (1 + (c : Int)) ⟨#[]⟩) := ⟨_, rfl⟩
      have HP := Lib.hid hP
      have HS := Lib.hid hs
      have HTP : Hid (TakeP N S 1 a (1 + (c : Int))) := Lib.hid (by unfold TakeP; rw [HBZ.out]; exact .inr ⟨by decide, by omega⟩)
      clear hP hs hM
      go_wp2_with fail
      refine (lay20_yes 1 a (1 + (c : Int)) ⟨#[]⟩ s _ (by decide) HP.out HS.out).mono ?_
      rintro e w4 ⟨rfl, hk⟩
      have hG4 := bel_call hG hk
      have g2 := geo0 hG4
      have g3 := geo1 hG4
      clear hk
      go_wp2_with fail
      refine (take_ops N S 1 a (1 + (c : Int)) (c + 1) ⟨#[]⟩ s _ (by omega) HP.out HS.out HTP.out).mono ?_
      rintro e w5 ⟨A, cc, rfl, -, hk⟩
      have hcc : ((c : Int) + 1 == 1 + (c : Int)) = true := by rw [beq_iff_eq]; omega
      have hfin := bel_call hG4 hk
      clear hk
      go_wp2
      go_ret
      exact ⟨by rfl, bel_call (geo_below hR) (geo_below hfin)⟩
    · skip
      obtain ⟨nn, hnn⟩ : ∃ nn : Nat, 16 * (1 + (c : Int)) = (nn : Int) := ⟨16 * (1 + c), by omega⟩
      have hmk := fun W => run_make8 nn (by omega) W
      have hzs := fun W => run_zero_string nn W
      have hP : ReqP 2 a (1 + (c : Int)) (zeroB nn) := by unfold ReqP; rw [zeroB_size]; omega
      obtain ⟨s, hs⟩ : ∃ s, s = layB (reqF 2 a (1 + (c : Int)) (zeroB nn)) := ⟨_, rfl⟩
      have HP := Lib.hid hP
      have HS := Lib.hid hs
      have HTP : Hid (TakeP N S 2 a (1 + (c : Int))) := Lib.hid (by unfold TakeP; rw [HBZ.out]; exact .inr ⟨by decide, by omega⟩)
      clear hP hs hM
      go_wp2_with fail
      refine (lay20_yes 2 a (1 + (c : Int)) (zeroB nn) s _ (by rw [zeroB_size]; omega) HP.out HS.out).mono ?_
      rintro e w4 ⟨rfl, hk⟩
      have hG4 := bel_call (bel_alloc hG _) hk
      have g2 := geo0 hG4
      have g3 := geo1 hG4
      clear hk
      go_wp2_with fail
      refine (take_ops N S 2 a (1 + (c : Int)) (c + 1) (zeroB nn) s _ (by omega) HP.out HS.out HTP.out).mono ?_
      rintro e w5 ⟨A, cc, rfl, -, hk⟩
      have hcc : ((c : Int) + 1 == 1 + (c : Int)) = true := by rw [beq_iff_eq]; omega
      have hfin := bel_call hG4 hk
      clear hk
      go_wp2
      go_ret
      exact ⟨by rfl, bel_call (geo_below hR) (geo_below hfin)⟩
    · by_cases haS : a < S
      · have x3 : decide (a < S) = true := decide_eq_true haS
        skip
        have hP : ReqP 3 a 1 ⟨#[]⟩ := by unfold ReqP; have : (⟨#[]⟩ : ByteArray).size = 0 := rfl; omega
        obtain ⟨s, hs⟩ : ∃ s, s = layB (reqF 3 a 1 ⟨#[]⟩) := ⟨_, rfl⟩
        have HP := Lib.hid hP
        have HS := Lib.hid hs
        have HTP : Hid (TakeP N S 3 a 1) := Lib.hid (by unfold TakeP; rw [HBZ.out]; exact .inl ⟨rfl, HRZ.out, haS⟩)
        clear hP hs hM
        go_wp2_with fail
        refine (lay20_yes 3 a 1 ⟨#[]⟩ s _ (by decide) HP.out HS.out).mono ?_
        rintro e w4 ⟨rfl, hk⟩
        have hG4 := bel_call hG hk
        have g2 := geo0 hG4
        have g3 := geo1 hG4
        clear hk
        go_wp2_with fail
        refine (take_ops N S 3 a 1 1 ⟨#[]⟩ s _ (by omega) HP.out HS.out HTP.out).mono ?_
        rintro e w5 ⟨A, cc, rfl, -, hk⟩
        have hfin := bel_call hG4 hk
        clear hk
        go_wp2
        go_ret
        exact ⟨by rfl, bel_call (geo_below hR) (geo_below hfin)⟩
      · have x3 : decide (a < S) = false := decide_eq_false haS
        skip
        have hP : ReqP 3 a 1 ⟨#[]⟩ := by unfold ReqP; have : (⟨#[]⟩ : ByteArray).size = 0 := rfl; omega
        obtain ⟨s, hs⟩ : ∃ s, s = layB (reqF 3 a 1 ⟨#[]⟩) := ⟨_, rfl⟩
        have HP := Lib.hid hP
        have HS := Lib.hid hs
        have HTP : Hid (¬ TakeP N S 3 a 1) := Lib.hid (by unfold TakeP; rw [HBZ.out]; rintro (h | h); exact haS h.2.2; exact absurd rfl h.1)
        clear hP hs hM
        go_wp2_with fail
        refine (lay20_yes 3 a 1 ⟨#[]⟩ s _ (by decide) HP.out HS.out).mono ?_
        rintro e w4 ⟨rfl, hk⟩
        have hG4 := bel_call hG hk
        have g2 := geo0 hG4
        have g3 := geo1 hG4
        clear hk
        go_wp2_with fail
        refine (take_refused N S 3 a 1 ⟨#[]⟩ s _ HP.out HS.out HTP.out).mono ?_
        rintro e w5 ⟨rfl, hk⟩
        have hfin := bel_call hG4 hk
        clear hk
        go_wp2
        go_ret
        exact ⟨by rfl, bel_call (geo_below hR) (geo_below hfin)⟩
  · have x1 : decide (a < T) = true := decide_eq_true (by omega)
    have x2 : decide (1 + (c : Int) ≤ T - a) = false := decide_eq_false (by omega)
    rcases (show k = 0 ∨ k = 1 ∨ k = 2 by omega) with rfl | rfl | rfl
    · skip
      skip
      have hP : ReqP 1 a (1 + (c : Int)) ⟨#[]⟩ := by unfold ReqP; have : (⟨#[]⟩ : ByteArray).size = 0 := rfl; omega
      obtain ⟨s, hs⟩ : ∃ s, s = layB (reqF 1 a (1 + (c : Int)) ⟨#[]⟩) := ⟨_, rfl⟩
      have HP := Lib.hid hP
      have HS := Lib.hid hs
      have HTP : Hid (¬ TakeP N S 1 a (1 + (c : Int))) := Lib.hid (by unfold TakeP; rw [HBZ.out]; rintro (h | h); exact absurd h.1 (by decide); have := h.2; omega)
      clear hP hs hM
      go_wp2_with fail
      refine (lay20_yes 1 a (1 + (c : Int)) ⟨#[]⟩ s _ (by decide) HP.out HS.out).mono ?_
      rintro e w4 ⟨rfl, hk⟩
      have hG4 := bel_call hG hk
      have g2 := geo0 hG4
      have g3 := geo1 hG4
      clear hk
      go_wp2_with fail
      refine (take_refused N S 1 a (1 + (c : Int)) ⟨#[]⟩ s _ HP.out HS.out HTP.out).mono ?_
      rintro e w5 ⟨rfl, hk⟩
      have hcc : ((0 : Int) == 1 + (c : Int)) = false := by rw [beq_eq_false_iff_ne]; omega
      have hfin := bel_call hG4 hk
      clear hk
      go_wp2
      go_ret
      exact ⟨by rfl, bel_call (geo_below hR) (geo_below hfin)⟩
    · skip
      obtain ⟨nn, hnn⟩ : ∃ nn : Nat, 16 * (1 + (c : Int)) = (nn : Int) := ⟨16 * (1 + c), by omega⟩
      have hmk := fun W => run_make8 nn (by omega) W
      have hzs := fun W => run_zero_string nn W
      have hP : ReqP 2 a (1 + (c : Int)) (zeroB nn) := by unfold ReqP; rw [zeroB_size]; omega
      obtain ⟨s, hs⟩ : ∃ s, s = layB (reqF 2 a (1 + (c : Int)) (zeroB nn)) := ⟨_, rfl⟩
      have HP := Lib.hid hP
      have HS := Lib.hid hs
      have HTP : Hid (¬ TakeP N S 2 a (1 + (c : Int))) := Lib.hid (by unfold TakeP; rw [HBZ.out]; rintro (h | h); exact absurd h.1 (by decide); have := h.2; omega)
      clear hP hs hM
      go_wp2_with fail
      refine (lay20_yes 2 a (1 + (c : Int)) (zeroB nn) s _ (by rw [zeroB_size]; omega) HP.out HS.out).mono ?_
      rintro e w4 ⟨rfl, hk⟩
      have hG4 := bel_call (bel_alloc hG _) hk
      have g2 := geo0 hG4
      have g3 := geo1 hG4
      clear hk
      go_wp2_with fail
      refine (take_refused N S 2 a (1 + (c : Int)) (zeroB nn) s _ HP.out HS.out HTP.out).mono ?_
      rintro e w5 ⟨rfl, hk⟩
      have hcc : ((0 : Int) == 1 + (c : Int)) = false := by rw [beq_eq_false_iff_ne]; omega
      have hfin := bel_call hG4 hk
      clear hk
      go_wp2
      go_ret
      exact ⟨by rfl, bel_call (geo_below hR) (geo_below hfin)⟩
    · by_cases haS : a < S
      · have x3 : decide (a < S) = true := decide_eq_true haS
        skip
        have hP : ReqP 3 a 1 ⟨#[]⟩ := by unfold ReqP; have : (⟨#[]⟩ : ByteArray).size = 0 := rfl; omega
        obtain ⟨s, hs⟩ : ∃ s, s = layB (reqF 3 a 1 ⟨#[]⟩) := ⟨_, rfl⟩
        have HP := Lib.hid hP
        have HS := Lib.hid hs
        have HTP : Hid (TakeP N S 3 a 1) := Lib.hid (by unfold TakeP; rw [HBZ.out]; exact .inl ⟨rfl, HRZ.out, haS⟩)
        clear hP hs hM
        go_wp2_with fail
        refine (lay20_yes 3 a 1 ⟨#[]⟩ s _ (by decide) HP.out HS.out).mono ?_
        rintro e w4 ⟨rfl, hk⟩
        have hG4 := bel_call hG hk
        have g2 := geo0 hG4
        have g3 := geo1 hG4
        clear hk
        go_wp2_with fail
        refine (take_ops N S 3 a 1 1 ⟨#[]⟩ s _ (by omega) HP.out HS.out HTP.out).mono ?_
        rintro e w5 ⟨A, cc, rfl, -, hk⟩
        have hfin := bel_call hG4 hk
        clear hk
        go_wp2
        go_ret
        exact ⟨by rfl, bel_call (geo_below hR) (geo_below hfin)⟩
      · have x3 : decide (a < S) = false := decide_eq_false haS
        skip
        have hP : ReqP 3 a 1 ⟨#[]⟩ := by unfold ReqP; have : (⟨#[]⟩ : ByteArray).size = 0 := rfl; omega
        obtain ⟨s, hs⟩ : ∃ s, s = layB (reqF 3 a 1 ⟨#[]⟩) := ⟨_, rfl⟩
        have HP := Lib.hid hP
        have HS := Lib.hid hs
        have HTP : Hid (¬ TakeP N S 3 a 1) := Lib.hid (by unfold TakeP; rw [HBZ.out]; rintro (h | h); exact haS h.2.2; exact absurd rfl h.1)
        clear hP hs hM
        go_wp2_with fail
        refine (lay20_yes 3 a 1 ⟨#[]⟩ s _ (by decide) HP.out HS.out).mono ?_
        rintro e w4 ⟨rfl, hk⟩
        have hG4 := bel_call hG hk
        have g2 := geo0 hG4
        have g3 := geo1 hG4
        clear hk
        go_wp2_with fail
        refine (take_refused N S 3 a 1 ⟨#[]⟩ s _ HP.out HS.out HTP.out).mono ?_
        rintro e w5 ⟨rfl, hk⟩
        have hfin := bel_call hG4 hk
        clear hk
        go_wp2
        go_ret
        exact ⟨by rfl, bel_call (geo_below hR) (geo_below hfin)⟩
  · have x1 : decide (a < T) = false := decide_eq_false (by omega)
    rcases (show k = 0 ∨ k = 1 ∨ k = 2 by omega) with rfl | rfl | rfl
    · skip
      skip
      have hP : ReqP 1 a (1 + (c : Int)) ⟨#[]⟩ := by unfold ReqP; have : (⟨#[]⟩ : ByteArray).size = 0 := rfl; omega
      obtain ⟨s, hs⟩ : ∃ s, s = layB (reqF 1 a (1 + (c : Int)) ⟨#[]⟩) := ⟨_, rfl⟩
      have HP := Lib.hid hP
      have HS := Lib.hid hs
      have HTP : Hid (¬ TakeP N S 1 a (1 + (c : Int))) := Lib.hid (by unfold TakeP; rw [HBZ.out]; rintro (h | h); exact absurd h.1 (by decide); have := h.2; omega)
      clear hP hs hM
      go_wp2_with fail
      refine (lay20_yes 1 a (1 + (c : Int)) ⟨#[]⟩ s _ (by decide) HP.out HS.out).mono ?_
      rintro e w4 ⟨rfl, hk⟩
      have hG4 := bel_call hG hk
      have g2 := geo0 hG4
      have g3 := geo1 hG4
      clear hk
      go_wp2_with fail
      refine (take_refused N S 1 a (1 + (c : Int)) ⟨#[]⟩ s _ HP.out HS.out HTP.out).mono ?_
      rintro e w5 ⟨rfl, hk⟩
      have hcc : ((0 : Int) == 1 + (c : Int)) = false := by rw [beq_eq_false_iff_ne]; omega
      have hfin := bel_call hG4 hk
      clear hk
      go_wp2
      go_ret
      exact ⟨by rfl, bel_call (geo_below hR) (geo_below hfin)⟩
    · skip
      obtain ⟨nn, hnn⟩ : ∃ nn : Nat, 16 * (1 + (c : Int)) = (nn : Int) := ⟨16 * (1 + c), by omega⟩
      have hmk := fun W => run_make8 nn (by omega) W
      have hzs := fun W => run_zero_string nn W
      have hP : ReqP 2 a (1 + (c : Int)) (zeroB nn) := by unfold ReqP; rw [zeroB_size]; omega
      obtain ⟨s, hs⟩ : ∃ s, s = layB (reqF 2 a (1 + (c : Int)) (zeroB nn)) := ⟨_, rfl⟩
      have HP := Lib.hid hP
      have HS := Lib.hid hs
      have HTP : Hid (¬ TakeP N S 2 a (1 + (c : Int))) := Lib.hid (by unfold TakeP; rw [HBZ.out]; rintro (h | h); exact absurd h.1 (by decide); have := h.2; omega)
      clear hP hs hM
      go_wp2_with fail
      refine (lay20_yes 2 a (1 + (c : Int)) (zeroB nn) s _ (by rw [zeroB_size]; omega) HP.out HS.out).mono ?_
      rintro e w4 ⟨rfl, hk⟩
      have hG4 := bel_call (bel_alloc hG _) hk
      have g2 := geo0 hG4
      have g3 := geo1 hG4
      clear hk
      go_wp2_with fail
      refine (take_refused N S 2 a (1 + (c : Int)) (zeroB nn) s _ HP.out HS.out HTP.out).mono ?_
      rintro e w5 ⟨rfl, hk⟩
      have hcc : ((0 : Int) == 1 + (c : Int)) = false := by rw [beq_eq_false_iff_ne]; omega
      have hfin := bel_call hG4 hk
      clear hk
      go_wp2
      go_ret
      exact ⟨by rfl, bel_call (geo_below hR) (geo_below hfin)⟩
    · by_cases haS : a < S
      · have x3 : decide (a < S) = true := decide_eq_true haS
        skip
        have hP : ReqP 3 a 1 ⟨#[]⟩ := by unfold ReqP; have : (⟨#[]⟩ : ByteArray).size = 0 := rfl; omega
        obtain ⟨s, hs⟩ : ∃ s, s = layB (reqF 3 a 1 ⟨#[]⟩) := ⟨_, rfl⟩
        have HP := Lib.hid hP
        have HS := Lib.hid hs
        have HTP : Hid (TakeP N S 3 a 1) := Lib.hid (by unfold TakeP; rw [HBZ.out]; exact .inl ⟨rfl, HRZ.out, haS⟩)
        clear hP hs hM
        go_wp2_with fail
        refine (lay20_yes 3 a 1 ⟨#[]⟩ s _ (by decide) HP.out HS.out).mono ?_
        rintro e w4 ⟨rfl, hk⟩
        have hG4 := bel_call hG hk
        have g2 := geo0 hG4
        have g3 := geo1 hG4
        clear hk
        go_wp2_with fail
        refine (take_ops N S 3 a 1 1 ⟨#[]⟩ s _ (by omega) HP.out HS.out HTP.out).mono ?_
        rintro e w5 ⟨A, cc, rfl, -, hk⟩
        have hfin := bel_call hG4 hk
        clear hk
        go_wp2
        go_ret
        exact ⟨by rfl, bel_call (geo_below hR) (geo_below hfin)⟩
      · have x3 : decide (a < S) = false := decide_eq_false haS
        skip
        have hP : ReqP 3 a 1 ⟨#[]⟩ := by unfold ReqP; have : (⟨#[]⟩ : ByteArray).size = 0 := rfl; omega
        obtain ⟨s, hs⟩ : ∃ s, s = layB (reqF 3 a 1 ⟨#[]⟩) := ⟨_, rfl⟩
        have HP := Lib.hid hP
        have HS := Lib.hid hs
        have HTP : Hid (¬ TakeP N S 3 a 1) := Lib.hid (by unfold TakeP; rw [HBZ.out]; rintro (h | h); exact haS h.2.2; exact absurd rfl h.1)
        clear hP hs hM
        go_wp2_with fail
        refine (lay20_yes 3 a 1 ⟨#[]⟩ s _ (by decide) HP.out HS.out).mono ?_
        rintro e w4 ⟨rfl, hk⟩
        have hG4 := bel_call hG hk
        have g2 := geo0 hG4
        have g3 := geo1 hG4
        clear hk
        go_wp2_with fail
        refine (take_refused N S 3 a 1 ⟨#[]⟩ s _ HP.out HS.out HTP.out).mono ?_
        rintro e w5 ⟨rfl, hk⟩
        have hfin := bel_call hG4 hk
        clear hk
        go_wp2
        go_ret
        exact ⟨by rfl, bel_call (geo_below hR) (geo_below hfin)⟩
end Go.Proofs.Ytekjhhiamboffaa
