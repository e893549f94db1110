/-
  The contract of plan.Split, for runs that there are. Condition: the geometry is right, the run lies in it. (Under way.)
-/
import Derived.Test.YtekjhhiamboffaaPlanSplitMath
import Derived.Laws.FloatArith
namespace Go.Proofs.Ytekjhhiamboffaa
open Go.RowKit

theorem pc_info : (Try.prog.info? 79).map (fun i => (i.zero, i.size, i.bytes)) = some (some (.agg #[.int .i64 0, .int .i64 0, .int .i64 0]), 3, 24) := by kernel_rfl
theorem run_cplus (s c : Nat) (t : TypeId) (hs : s < 12) (hc : c < 12) (W : World) : (binOp .add t (.complex .f64 (fb s) (fb c)) (.complex .f64 0 4607182418800017408)).run Try.prog W = .ok (.complex .f64 (fb s) (fb (c + 1))) W :=
  run_complex_sum W .add (Or.inl rfl) t .f64 _ _ _ _ _ _ (by unfold cSumBits; rw [fb_plus0 hs, fb_plus1 hc]; rfl)

theorem of_n (N S a q r : Nat) (w : World) (hq : q = a / (N - 1)) (hr : r = a % (N - 1)) (h1 : 3 ≤ N) (h2 : N ≤ 6) (h3 : 1 ≤ S) (h4 : S ≤ 8) (b2 : (a : Int) < (S : Int) * ((N : Int) - 1)) :
    Calls Try.prog 45 #[.agg #[.int .i64 N, .int .i64 S], .int .i64 a] w fun e w' => ∃ d : Int, e = .returned (.tuple #[.agg #[.int .i64 q, .int .i64 r, .int .i64 d], .int .i64 0]) ∧ Below w.heap.size w w' := by
  refine (of_yes N S a w (by omega) (by omega) (by omega) (by omega) (by omega) b2).mono ?_
  rintro e w' ⟨rfl, hk⟩
  refine ⟨((a : Int) % ((N : Int) - 1) + (a : Int) / ((N : Int) - 1)) % (N : Int), ?_, hk⟩
  have e1 : (N : Int) - 1 = ((N - 1 : Nat) : Int) := by omega
  rw [e1, hq, hr, Int.natCast_ediv, Int.natCast_emod]
theorem run_fplus (s : Nat) (t : TypeId) (hs : s < 12) (W : World) : (binOp .add t (.float .f64 (fb s)) (.float .f64 4607182418800017408)).run Try.prog W = .ok (.float .f64 (fb (s + 1))) W :=
  run_float_arith W .add t .f64 _ _ _ (fb_plus1 hs)
theorem run_fback (s : Nat) (hs : s < 12) (W : World) : (convert 77 3 (.float .f64 (fb s))).run Try.prog W = .ok (.int .i64 (s : Int)) W :=
  run_convert_float_int W 77 3 .f64 .i64 (fb s) s (by rw [Try.underlying77]; rfl) Try.underlying3 (fb_back hs)

set_option maxRecDepth 100000 in
set_option maxHeartbeats 4000000 in
theorem split_yes (N S : Nat) (a : Nat) (k : Nat) (w : World) (h1 : 3 ≤ N) (h2 : N ≤ 6) (h3 : 1 ≤ S) (h4 : S ≤ 8) (k1 : 1 ≤ k) (k2 : k ≤ 4) (ha : a + k ≤ S * (N - 1)) :
    Calls Try.prog 33 #[.agg #[.int .i64 N, .int .i64 S], .int .i64 a, .int .i64 k] w fun e w' => ∃ (A : Option Addr) (c : Nat), e = .returned (.tuple #[.slice A (splitL N a k).length c, .int .i64 0]) ∧ Rd w' w'.heap.size A (pcCells (splitL N a k)) ∧ Below w.heap.size w w' := by
  obtain ⟨iP, hiP, hzP, hsP, hbP⟩ := info_parts pc_info
  have hSN : (S : Int) * ((N : Int) - 1) = ((S * (N - 1) : Nat) : Int) := by
    rw [show (N : Int) - 1 = ((N - 1 : Nat) : Int) by omega]
    exact (Int.natCast_mul S (N - 1)).symm
  have hp := prod_bounds (N := (N : Int)) (S := (S : Int)) (by omega) (by omega) (by omega) (by omega)
  obtain ⟨T, hT⟩ : ∃ T : Nat, T = S * (N - 1) := ⟨_, rfl⟩
  rw [← hT] at hSN ha
  rw [hSN] at hp
  obtain ⟨q, hq⟩ : ∃ q : Nat, q = a / (N - 1) := ⟨_, rfl⟩
  obtain ⟨r, hr⟩ : ∃ r : Nat, r = a % (N - 1) := ⟨_, rfl⟩
  have HSN := Lib.hid hSN
  have HQ := Lib.hid hq
  have HR := Lib.hid hr
  have hin : (a : Int) < (S : Int) * ((N : Int) - 1) := by rw [hSN]; omega
  have HIN := Lib.hid hin
  have d1 : decide ((k : Int) < 1) = false := decide_eq_false (by omega)
  have d2 : decide ((4 : Int) < (k : Int)) = false := decide_eq_false (by omega)
  have d3 : decide ((T : Int) - (k : Int) < (a : Int)) = false := decide_eq_false (by omega)
  clear hT hq hr hin hSN
  go_enter Try.func33, Try.ntmps33
  go_wp2_with (first
    | (go_at_call 44; refine (blocks_yes N S _ (by omega) (by omega) (by omega) (by omega)).mono ?_; rw [HSN.out]; rintro e w1 ⟨rfl, hk⟩; have hG : Below (w.alloc (geoBox N S)).heap.size (w.alloc (geoBox N S)) w1 := hk; have r0 := geo0 hG; have r1 := geo1 hG; clear hk)
    | (go_at_call 45; refine (of_n N S a q r _ HQ.out HR.out h1 h2 h3 h4 HIN.out).mono ?_; rintro e w2 ⟨d, rfl, hk⟩; replace hG := bel_call hG hk; clear hk))
  have hr5 : r < N - 1 := by rw [HR.out]; exact Nat.mod_lt _ (by omega)
  have hq8 : q < 8 := by
    rw [HQ.out]
    have h5 : (a : Int) < ((S * (N - 1) : Nat) : Int) := by
      have := HIN.out
      rw [show (N : Int) - 1 = ((N - 1 : Nat) : Int) by omega, ← Int.natCast_mul] at this
      exact this
    exact Nat.lt_of_lt_of_le (Nat.div_lt_of_lt_mul (by rw [Nat.mul_comm]; omega)) h4
  have hb := bel_alloc (geo_below hG) (placeBox q r d)
  clear hb
  replace hG := bel_alloc hG (placeBox q r d)
  go_loopw [10, 11, 45] (fun v z i wr => ∃ (j : Nat) (L : List Pc) (x y : Nat), j ≤ k ∧ i = .int .i64 j ∧ Run.steps N j ⟨[], q, r⟩ = ⟨L, x, y⟩ ∧ z = .complex .f64 (fb x) (fb y) ∧ L.length ≤ j ∧ (∀ p ∈ L, p.2.2 ≤ j) ∧ x ≤ q + j ∧ y < N - 1 ∧ wr.ownsRow (w.alloc (geoBox N S)).heap.size 79 3 v L.length (pcCells L) ∧ Below (w.alloc (geoBox N S)).heap.size (w.alloc (geoBox N S)) wr) (fun _ _ i _ => k - (intOf i).toNat)
  case atStart => exact ⟨0, [], q, r, by omega, rfl, rfl, rfl, by simp, by simp, by omega, hr5, World.ownsRow_nil _ _ _ _, hG⟩
  case round =>
    clear hG
    obtain ⟨j, L, x, y, hj, rfl, hrun, rfl, hLj, hpj, hx, hy, hown, hG⟩ := hrel
    have g0 := geo0 hG
    have g1 := geo1 hG
    have HRUN := Lib.hid hrun
    have HO := Lib.hid hown
    clear hrun hown
    by_cases hlt : j < k
    · have hjk : (j : Int) < (k : Int) := by omega
      have fx := run_fback x (by omega)
      have fy := run_fback y (by omega)
      have fy1 := run_fback (y + 1) (by omega)
      have cp := run_cplus x y 76 (by omega) (by omega)
      have fp := run_fplus x 77 (by omega)
      by_cases hA : L = [] ∨ y = 0
      · obtain ⟨A0, cA, rfl, -, -⟩ := own_form HO.out
        have hstep := step_at (N := N) (r := ⟨L, x, y⟩) (M := L) (ps := x) (pc := y) (pn := 0) (by rw [if_pos hA])
        have HST := Lib.hid hstep
        have hap : ∀ z ∈ L ++ [(x, y, 0 + 1)], z.2.2 ≤ j + 1 := by
          intro z hz
          rcases List.mem_append.1 hz with h | h
          · exact Nat.le_succ_of_le (hpj z h)
          · rw [List.mem_singleton.1 h]; exact Nat.succ_le_succ (Nat.zero_le _)
        have HAP := Lib.hid hap
        have ht : ((L.length : Int) == 0) = true ∨ (((L.length : Int) == 0) = false ∧ ((y : Int) == 0) = true) := by
          by_cases hl : L.length = 0
          · exact Or.inl (by rw [beq_iff_eq]; omega)
          · refine Or.inr ⟨by rw [beq_eq_false_iff_ne]; omega, ?_⟩
            rcases hA with h | h
            · rw [h] at hl; simp at hl
            · rw [beq_iff_eq]; omega
        clear hstep hap hA hpj
        rcases ht with ht | ⟨ht, hty⟩
        all_goals
          by_cases hB : y + 1 = N - 1
          · have hyN : ((y : Int) + 1 == (N : Int) - 1) = true := by rw [beq_iff_eq]; omega
            have HB := Lib.hid hB
            clear hB
            go_wp2_with (first
              | (at_builtin; refine wpList_append_rd rfl (.tmp 60) (.tmp 64) 63 rfl (w.alloc (geoBox N S)).heap.size 79 iP _ 3 24 Try.underlying63 hiP hzP hsP hbP rfl (by decide) _ _ _ rfl (HO.out.alloc _) _ _ 1 1 _ rfl (Rd.new _ _ _ (0, 0)) rfl (by simp [Value.oneCell']) (by unfold maxLen; omega) (by omega) (Nat.le_trans hG.size (by simp)) ?_; intro v3 w3 hown3 hg3; have hG3 := (hG.alloc hG.size _).grown hg3 (Nat.le_trans hG.size (by simp)) (fun i hi => (HO.out.lt i hi).1); have ho : w3.ownsRow (w.alloc (geoBox N S)).heap.size 79 3 v3 (L.length + 1) (pcCells (L ++ [(x, y, 0)])) := (by rw [pcCells_append]; exact hown3); obtain ⟨g, cc, rfl, hg1, hg2, hcc1, hcc2⟩ := own_some ho (by omega); obtain ⟨hc, hf⟩ := pc_last ho rfl; have hG2 := hG3.setCell (p := ⟨g, L.length * 3 + 2, none⟩) hg1 (.int .i64 1); have s0 := geo0 hG2; have s1 := geo1 hG2; have HO3 := Lib.hid (pc_stored ho 1 (by omega)); clear ho hown3 hg3)
              | (go_at_call 46; refine (parity_yes N S _ (by omega) (by omega) (by omega) (by omega)).mono ?_; rintro e w5 ⟨rfl, hk⟩; have hG5 := bel_call hG2 hk; have HK := Lib.hid hk; clear hk))
            go_roundw
            case rel =>
              refine ⟨j + 1, L ++ [(x, y, 0 + 1)], x + 1, 0, by omega, by go_num, ?_, by rw [fb_zero], by rw [List.length_append, List.length_singleton]; omega, HAP.out, by omega, by omega, ?_, hG5⟩
              · rw [Run.steps, HRUN.out, HST.out, if_pos HB.out]
              · rw [List.length_append]; exact own_keep_below HO3.out HK.out (Nat.le_refl _)
            case measure => simp [intOf]; omega
          · have hyN : ((y : Int) + 1 == (N : Int) - 1) = false := by rw [beq_eq_false_iff_ne]; omega
            have HB := Lib.hid hB
            have hy2 : y + 1 < N - 1 := by omega
            clear hB
            go_wp2_with (first
              | (at_builtin; refine wpList_append_rd rfl (.tmp 60) (.tmp 64) 63 rfl (w.alloc (geoBox N S)).heap.size 79 iP _ 3 24 Try.underlying63 hiP hzP hsP hbP rfl (by decide) _ _ _ rfl (HO.out.alloc _) _ _ 1 1 _ rfl (Rd.new _ _ _ (0, 0)) rfl (by simp [Value.oneCell']) (by unfold maxLen; omega) (by omega) (Nat.le_trans hG.size (by simp)) ?_; intro v3 w3 hown3 hg3; have hG3 := (hG.alloc hG.size _).grown hg3 (Nat.le_trans hG.size (by simp)) (fun i hi => (HO.out.lt i hi).1); have ho : w3.ownsRow (w.alloc (geoBox N S)).heap.size 79 3 v3 (L.length + 1) (pcCells (L ++ [(x, y, 0)])) := (by rw [pcCells_append]; exact hown3); obtain ⟨g, cc, rfl, hg1, hg2, hcc1, hcc2⟩ := own_some ho (by omega); obtain ⟨hc, hf⟩ := pc_last ho rfl; have hG2 := hG3.setCell (p := ⟨g, L.length * 3 + 2, none⟩) hg1 (.int .i64 1); have s0 := geo0 hG2; have s1 := geo1 hG2; have HO3 := Lib.hid (pc_stored ho 1 (by omega)); clear ho hown3 hg3)
              | (go_at_call 46; refine (parity_yes N S _ (by omega) (by omega) (by omega) (by omega)).mono ?_; rintro e w5 ⟨rfl, hk⟩; have hG5 := bel_call hG2 hk; have HK := Lib.hid hk; clear hk))
            go_roundw
            case rel =>
              refine ⟨j + 1, L ++ [(x, y, 0 + 1)], x, y + 1, by omega, by go_num, ?_, rfl, by rw [List.length_append, List.length_singleton]; omega, HAP.out, by omega, by omega, ?_, hG5⟩
              · rw [Run.steps, HRUN.out, HST.out, if_neg HB.out]
              · rw [List.length_append]; exact own_keep_below HO3.out HK.out (Nat.le_refl _)
            case measure => simp [intOf]; omega
      · obtain ⟨M, p, hMp⟩ : ∃ M p, L = M ++ [p] := by
          rcases List.eq_nil_or_concat L with h | ⟨M, p, h⟩
          · exact absurd (Or.inl h) hA
          · exact ⟨M, p, by rw [h, List.concat_eq_append]⟩
        obtain ⟨ps, pc, pn⟩ := p
        subst hMp
        have hpn : pn ≤ j := hpj (ps, pc, pn) (by simp)
        have hlen : (M ++ [(ps, pc, pn)]).length = M.length + 1 := by rw [List.length_append]; rfl
        have ho := HO.out
        rw [hlen] at ho
        obtain ⟨g, cc, rfl, hg1, hg2, hcc1, hcc2⟩ := own_some ho (by omega)
        obtain ⟨hc, hf⟩ := pc_last ho rfl
        have HO2 := Lib.hid ho
        have HP := Lib.hid hpj
        have hy0 : ((y : Int) == 0) = false := by rw [beq_eq_false_iff_ne]; intro h; exact hA (Or.inr (by omega))
        have hM0 : (((M.length + 1 : Nat) : Int) == 0) = false := by rw [beq_eq_false_iff_ne]; omega
        have hstep := step_at (N := N) (r := ⟨M ++ [(ps, pc, pn)], x, y⟩) (M := M) (ps := ps) (pc := pc) (pn := pn) (by rw [if_neg hA])
        have HST := Lib.hid hstep
        clear ho hpj hA hstep
        have hG2 := hG.setCell (p := ⟨g, M.length * 3 + 2, none⟩) hg1 (.int .i64 ((pn : Int) + 1))
        have s0 := geo0 hG2
        have s1 := geo1 hG2
        have HO3 := Lib.hid (pc_stored HO2.out ((pn : Int) + 1) (by omega))
        have hap : ∀ z ∈ M ++ [(ps, pc, pn + 1)], z.2.2 ≤ j + 1 := by
          intro z hz
          rcases List.mem_append.1 hz with h | h
          · exact Nat.le_succ_of_le (HP.out z (List.mem_append_left _ h))
          · rw [List.mem_singleton.1 h]; exact Nat.succ_le_succ hpn
        have HAP := Lib.hid hap
        clear hap
        have hlen2 : (M ++ [(ps, pc, pn + 1)]).length = M.length + 1 := by rw [List.length_append]; rfl
        have HL2 := Lib.hid hlen2
        have hLj2 : M.length + 1 ≤ j := by rw [← hlen]; exact hLj
        clear hlen2 hlen hLj
        by_cases hB : y + 1 = N - 1
        · have hyN : ((y : Int) + 1 == (N : Int) - 1) = true := by rw [beq_iff_eq]; omega
          have HB := Lib.hid hB
          clear hB
          go_wp2_with (go_at_call 46; refine (parity_yes N S _ (by omega) (by omega) (by omega) (by omega)).mono ?_; rintro e w5 ⟨rfl, hk⟩; have hG5 := bel_call hG2 hk; have HK := Lib.hid hk; clear hk)
          go_roundw
          case rel =>
            refine ⟨j + 1, M ++ [(ps, pc, pn + 1)], x + 1, 0, by omega, by go_num, ?_, by rw [fb_zero], by rw [HL2.out]; omega, HAP.out, by omega, by omega, ?_, hG5⟩
            · rw [Run.steps, HRUN.out, HST.out, if_pos HB.out]
            · rw [HL2.out]; exact own_keep_below HO3.out HK.out (Nat.le_refl _)
          case measure => simp [intOf]; omega
        · have hyN : ((y : Int) + 1 == (N : Int) - 1) = false := by rw [beq_eq_false_iff_ne]; omega
          have HB := Lib.hid hB
          have hy2 : y + 1 < N - 1 := by omega
          clear hB
          go_wp2_with (go_at_call 46; refine (parity_yes N S _ (by omega) (by omega) (by omega) (by omega)).mono ?_; rintro e w5 ⟨rfl, hk⟩; have hG5 := bel_call hG2 hk; have HK := Lib.hid hk; clear hk)
          go_roundw
          case rel =>
            refine ⟨j + 1, M ++ [(ps, pc, pn + 1)], x, y + 1, by omega, by go_num, ?_, rfl, by rw [HL2.out]; omega, HAP.out, by omega, by omega, ?_, hG5⟩
            · rw [Run.steps, HRUN.out, HST.out, if_neg HB.out]
            · rw [HL2.out]; exact own_keep_below HO3.out HK.out (Nat.le_refl _)
          case measure => simp [intOf]; omega
    · obtain rfl : j = k := by omega
      have hjk : decide ((j : Int) < (j : Int)) = false := decide_eq_false (by omega)
      have hsp : splitL N a j = L := by unfold splitL; rw [← HQ.out, ← HR.out, HRUN.out]
      have HSP := Lib.hid hsp
      obtain ⟨A, c, rfl, -, -⟩ := own_form HO.out
      clear hsp
      go_wp2
      go_ret2
      exact ⟨A, c, by rw [HSP.out]; rfl, by rw [HSP.out]; exact Rd.of_own HO.out, geo_below hG⟩
end Go.Proofs.Ytekjhhiamboffaa
