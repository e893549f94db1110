/-
  PlanSplits: a run of blocks, split, is the run: for any raw geometry and numbers. No condition.
-/
import Derived.Test.YtaahakmngdjdfaaAwake06
import Derived.Test.YtaahakmngdjdfaaPick06
import Derived.Test.YtaahakmngdjdfaaPlanSplitsMath
import Derived.Test.YtaahakmngdjdfaaPlanNeeds
import Derived.Test.YtaahakmngdjdfaaRunMin
namespace Go.Proofs.Ytaahakmngdjdfaa
open Go.RowKit

theorem prod_n {N S T : Nat} (hT : T = S * (N - 1)) (h1 : 3 ≤ N) (h2 : N ≤ 6) (h3 : 1 ≤ S) (h4 : S ≤ 8) : 2 ≤ T ∧ T ≤ 40 := by
  subst hT
  exact ⟨Nat.le_trans (show 2 ≤ 1 * (N - 1) by omega) (Nat.mul_le_mul h3 (Nat.le_refl _)), Nat.le_trans (Nat.mul_le_mul h4 (show N - 1 ≤ 5 by omega)) (by decide)⟩
/-- what the round's region keeps -/
theorem spS {w2 wr w' : World} {N S : Int} {b off : Nat} {u v x : Value} (hG : Below (w2.alloc (geoBox N S)).heap.size (w2.alloc (geoBox N S)) wr)
    (hb : b < wr.heap.size) (p0 : wr.cell? ⟨b, off, none⟩ = some u) (p1 : wr.cell? ⟨b, off + 1, none⟩ = some v) (p2 : wr.cell? ⟨b, off + 2, none⟩ = some x) (h : Below wr.heap.size wr w') :
    w'.cell? ⟨w2.heap.size, 0, none⟩ = some (.int .i64 N) ∧ w'.cell? ⟨w2.heap.size, 1, none⟩ = some (.int .i64 S) ∧ w'.cell? ⟨b, off, none⟩ = some u ∧ w'.cell? ⟨b, off + 1, none⟩ = some v ∧ w'.cell? ⟨b, off + 2, none⟩ = some x ∧ Below wr.heap.size wr w' :=
  ⟨geo0 (bel_call hG h), geo1 (bel_call hG h), (h.cell hb).trans p0, (h.cell hb).trans p1, (h.cell hb).trans p2, h⟩

set_option maxRecDepth 100000 in
set_option maxHeartbeats 4000000 in
theorem planSplits_walk (a0 b0 : Int) (p q : Int) (w : World) (ha1 : -9223372036854775808 ≤ a0) (ha2 : a0 ≤ 9223372036854775807) (hb1 : -9223372036854775808 ≤ b0) (hb2 : b0 ≤ 9223372036854775807)
    (p1 : -9223372036854775808 ≤ p) (p2 : p ≤ 9223372036854775807) (q1 : -9223372036854775808 ≤ q) (q2 : q ≤ 9223372036854775807) :
    Calls Try.prog 3 #[.agg #[.int .i64 a0, .int .i64 b0], .int .i64 p, .int .i64 q] w fun e w' => e = .returned (.bool true) ∧ Below w.heap.size w w' := by
  go_enter Try.func3, Try.ntmps3
  go_wp2_with (first
    | (go_at_call 9; refine (awake06_calls _).mono ?_; rintro e w1 ⟨rfl, hk⟩; have hR : Below (w.alloc (geoBox a0 b0)).heap.size (w.alloc (geoBox a0 b0)) w1 := hk; have r0 := geo0 hR; have r1 := geo1 hR; clear hk)
    | (go_at_call 10; (refine (fit_n a0 b0 _ ha1 ha2 hb1 hb2).mono ?_); rintro e w2 ⟨N, S, n1, n2, s1, s2, rfl, hk⟩; replace hR := bel_call hR hk; have hG : Below (w2.alloc (geoBox N S)).heap.size (w2.alloc (geoBox N S)) (w2.alloc (geoBox N S)) := Below.refl _ _; clear hk))
  obtain ⟨T, hT⟩ : ∃ T : Nat, T = S * (N - 1) := ⟨_, rfl⟩
  obtain ⟨t1, t2⟩ := prod_n hT n1 n2 s1 s2
  have HT := Lib.hid hT
  clear hT
  refine (rblocks_n N S T _ HT.out n1 n2 s1 s2).mono ?_
  rintro e w3 ⟨rfl, hk⟩
  replace hG := bel_call hG hk
  have g0 := geo0 hG
  have g1 := geo1 hG
  clear hk
  have hmin := run_min4 (P := Try.prog) T
  obtain ⟨mn, hmn⟩ : ∃ mn, mn = min 4 T := ⟨_, rfl⟩
  rw [← hmn] at hmin
  have hm1 : 1 ≤ mn := by omega
  have hm4 : mn ≤ 4 := by omega
  have hmT : mn ≤ T := by omega
  clear hmn
  go_wp2_with fail
  refine (pick06_arg q _ mn _ rfl q1 q2 (by omega) (by omega)).mono ?_
  rintro e w' ⟨c, hc, rfl, rfl⟩
  have hc4 : c < 4 := by omega
  have hcT : c < T := by omega
  clear hc hmin
  go_wp2_with fail
  refine (pick06_arg p _ (T - c) _ (by omega) p1 p2 (by omega) (by omega)).mono ?_
  rintro e w' ⟨a, ha, rfl, rfl⟩
  go_wp2_with fail
  refine (split_i N S a (c + 1) T _ _ _ (by omega) (by omega) HT.out n1 n2 s1 s2 (by omega) (by omega) (by omega) t2).mono ?_
  rintro e w4 ⟨L, A, cL, rfl, hfit, hr, hk⟩
  replace hG := bel_call hG hk
  have HF := Lib.hid hfit
  clear hk hfit g0 g1
  go_wp2
  go_loopw [12, 13] (fun nx i wr => ∃ m x : Nat, m ≤ L.length ∧ i = .int .i64 m ∧ nx = .int .i64 x ∧ x = a + sumC (L.take m) ∧ Rd wr wr.heap.size A (pcCells L) ∧ Below (w2.alloc (geoBox N S)).heap.size (w2.alloc (geoBox N S)) wr) (fun _ i _ => L.length - (intOf i).toNat)
  case atStart => exact ⟨0, a, Nat.zero_le _, rfl, rfl, rfl, hr, hG⟩
  case round =>
    clear hG hr
    obtain ⟨m, x, hm, rfl, rfl, hx, hr, hG⟩ := hrel
    have HX := Lib.hid hx
    clear hx
    by_cases hlt : m < L.length
    · obtain ⟨f1, f2, f3, f4⟩ := fits_at HF.out hlt
      have hl4 := fits_len HF.out
      obtain ⟨b, off, rfl, hbB, hc0⟩ := hr.at_ (pc_at hlt).1
      have hc1 : wr.cell? ⟨b, off + m * 3 + 1, none⟩ = _ := hr.cell_ (pc_at hlt).2.1
      have hc2 : wr.cell? ⟨b, off + m * 3 + 2, none⟩ = _ := hr.cell_ (pc_at hlt).2.2
      have hprev : m = 0 ∨ ∃ (m' : Nat) (y : Nat), m = m' + 1 ∧ L[m].1 = y + 1 ∧ wr.cell? ⟨b, off + m' * 3, none⟩ = some (.int .i64 (y : Int)) := by
        cases m with
        | zero => exact Or.inl rfl
        | succ m' => exact Or.inr ⟨m', L[m'].1, rfl, fits_next HF.out hlt, hr.cell_ (pc_at (show m' < L.length by omega)).1⟩
      obtain ⟨ps, hps⟩ : ∃ ps, ps = L[m].1 := ⟨_, rfl⟩
      obtain ⟨pc, hpc⟩ : ∃ pc, pc = L[m].2.1 := ⟨_, rfl⟩
      obtain ⟨pn, hpn⟩ : ∃ pn, pn = L[m].2.2 := ⟨_, rfl⟩
      have hst := sumC_take hlt
      have hsl := sumC_le (l := L) (m + 1)
      rw [fits_sum HF.out] at hsl
      rw [← hps] at hc0 f4 hprev
      rw [← hpc] at hc1 f3 f4
      rw [← hpn] at hc2 f1 f2 f3 hst
      have hm1 : (m : Int) < (L.length : Int) := by omega
      have d1 : decide ((pn : Int) < 1) = false := decide_eq_false (by omega)
      have d2 : decide ((4 : Int) < (pn : Int)) = false := decide_eq_false (by omega)
      have hx40 : x + pn ≤ a + (c + 1) := by rw [HX.out]; omega
      have f5 : ps * (N - 1) + pc = x := by rw [HX.out]; exact f4
      have hpx : ps ≤ x := by rw [← f5]; exact Nat.le_trans (Nat.le_mul_of_pos_right ps (by omega)) (Nat.le_add_right _ _)
      have hcase : (decide (0 < m) = false) ∨ ∃ (m' : Nat) (y : Nat), decide (0 < m) = true ∧ IntKind.i64.wrap ((m : Int) - 1) = (m' : Int) ∧ IntKind.i64.wrap ((y : Int) + 1) = (y : Int) + 1 ∧ ((ps : Int) != (y : Int) + 1) = false ∧ (m' : Int) < (L.length : Int) ∧ wr.cell? ⟨b, off + m' * 3, none⟩ = some (.int .i64 (y : Int)) := by
        rcases hprev with h | ⟨m', y, h1, h2, h3⟩
        · exact Or.inl (decide_eq_false (by omega))
        · exact Or.inr ⟨m', y, decide_eq_true (by omega), by rw [show (m : Int) - 1 = (m' : Int) by omega]; exact IntWalk.i64_in _ (by omega), IntWalk.i64_in _ (by omega), by rw [bne_eq_false_iff_eq]; omega, by omega, h3⟩
      have HST := Lib.hid hst
      have HF5 := Lib.hid f5
      have HPS := Lib.hid hps
      have HPC := Lib.hid hpc
      have HPN := Lib.hid hpn
      clear hst f4 f5 hps hpc hpn hprev hsl
      rcases hcase with hm0 | ⟨m', y, hm0, hsub, hsum, hne, hml, hcp⟩
      all_goals
        go_wp2
        go_quiet (fail)
        go_wp2
        have hrq : Rd (wr.drewN nq) (wr.drewN nq).heap.size (some ⟨b, off, none⟩) (pcCells L) := rdi_call hr (below_drewN (Below.refl _ _) nq)
        have hGq := below_drewN hG nq
        clear hr hG hc0 hc1 hc2 d1 d2
        go_loopw [12, 14] (fun nx i wr => ∃ j y : Nat, j ≤ pn ∧ i = .int .i64 j ∧ nx = .int .i64 y ∧ y = x + j ∧ Rd wr wr.heap.size (some ⟨b, off, none⟩) (pcCells L) ∧ Below (w2.alloc (geoBox N S)).heap.size (w2.alloc (geoBox N S)) wr) (fun _ i _ => pn - (intOf i).toNat)
        case atStart => exact ⟨0, x, Nat.zero_le _, rfl, rfl, rfl, hrq, hGq⟩
        case round =>
          clear hrq hGq
          obtain ⟨j, y, hj, rfl, rfl, hy, hr, hG⟩ := hrel
          have HY := Lib.hid hy
          have hc0 := hr.cell_ (pc_at hlt).1
          have hc1 : wr.cell? ⟨b, off + m * 3 + 1, none⟩ = _ := hr.cell_ (pc_at hlt).2.1
          have hc2 : wr.cell? ⟨b, off + m * 3 + 2, none⟩ = _ := hr.cell_ (pc_at hlt).2.2
          have hbq : b < wr.heap.size := by
            obtain ⟨b', o', hA, hb', _⟩ := hr.at_ (pc_at hlt).1
            injection hA with hA
            injection hA with h1 _ _
            rw [h1]; exact hb'
          rw [← HPS.out] at hc0
          rw [← HPC.out] at hc1
          rw [← HPN.out] at hc2
          have HS := Lib.hid (spS hG hbq hc0 hc1 hc2 (Below.refl _ _))
          have hyx : y ≤ 40 := by omega
          clear hy
          by_cases hjt : j < pn
          · have g0 := geo0 hG
            have g1 := geo1 hG
            have e1 : IntKind.i64.wrap ((pc : Int) + (j : Int)) = (pc : Int) + (j : Int) := IntWalk.i64_in _ (by omega)
            have hyx2 : (y : Int) = (ps : Int) * ((N - 1 : Nat) : Int) + ((pc : Int) + (j : Int)) := by
              rw [← Int.natCast_mul, HY.out, ← HF5.out]; omega
            have HYX := Lib.hid hyx2
            have hyT : y < S * (N - 1) := by have := HY.out; rw [← HT.out]; omega
            have HYT := Lib.hid hyT
            clear hyx2 hyT hc0 hc1 hc2
            obtain ⟨q0, q1, q2, q3, q4, q5⟩ := HS.out
            go_wp2
            go_region_held3 (fun w' => w'.cell? ⟨w2.heap.size, 0, none⟩ = some (.int .i64 (N : Int)) ∧ w'.cell? ⟨w2.heap.size, 1, none⟩ = some (.int .i64 (S : Int)) ∧ w'.cell? ⟨b, off + m * 3, none⟩ = some (.int .i64 (ps : Int)) ∧ w'.cell? ⟨b, off + m * 3 + 1, none⟩ = some (.int .i64 (pc : Int)) ∧ w'.cell? ⟨b, off + m * 3 + 2, none⟩ = some (.int .i64 (pn : Int)) ∧ Below wr.heap.size wr w')
              (first | exact spS hG hbq q2 q3 q4 (Below.refl _ _).drew | exact spS hG hbq q2 q3 q4 hbx)
              (first
                | (go_at_call 14; go_split_ands; refine (rblock_n N S y ps _ _ _ rfl n1 n2 s1 s2 (by omega) (by omega) HYX.out HYT.out).mono ?_; rintro e w6 ⟨rfl, hk⟩; have hbx := bel_call (by assumption : Below wr.heap.size wr _) hk; clear hk))
            go_wp2
            go_roundw
            case rel => exact ⟨j + 1, y + 1, by omega, by go_num, by go_num, by rw [HY.out]; omega, rdi_call hr (by assumption), bel_call hG (by assumption)⟩
            case measure => simp [intOf]; omega
          · have hjt2 : decide (j < pn) = false := decide_eq_false hjt
            have hje : j = pn := by omega
            have HJ := Lib.hid hje
            clear hjt hje
            go_wp2
            go_roundw
            case rel => exact ⟨m + 1, y, by omega, by go_num, rfl, by rw [HST.out, HY.out, HX.out, HJ.out]; omega, hr, hG⟩
            case measure => simp [intOf]; omega
    · have hlt2 : decide (m < L.length) = false := decide_eq_false hlt
      have hxe : x = a + (c + 1) := by rw [HX.out, List.take_of_length_le (by omega), fits_sum HF.out]
      have hend : ((x : Int) == (a : Int) + (1 + (c : Int))) = true := by rw [beq_iff_eq, hxe]; omega
      clear hxe hlt
      go_wp2
      go_ret
      exact ⟨by rfl, bel_call (geo_below hR) (geo_below hG)⟩
end Go.Proofs.Ytaahakmngdjdfaa
