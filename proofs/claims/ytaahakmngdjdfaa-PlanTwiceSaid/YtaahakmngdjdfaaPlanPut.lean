/-
  The contract of PlanTwice's closure: one block, written into a stripe of which no column is out. Condition: the geometry is right, the column bears blocks, texts are blocks.
-/
import Derived.Test.YtaahakmngdjdfaaPlanWrites
namespace Go.Proofs.Ytaahakmngdjdfaa
open Go.RowKit

/-- what the closure's region keeps -/
theorem ptS {w0 wX w' : World} {gx : Nat} {N S : Int} (hgx : gx < w0.heap.size) (g0 : w0.cell? ⟨gx, 0, none⟩ = some (.int .i64 N)) (g1 : w0.cell? ⟨gx, 1, none⟩ = some (.int .i64 S)) (hG : Below w0.heap.size w0 wX) (h : Below wX.heap.size wX w') :
    w'.cell? ⟨gx, 0, none⟩ = some (.int .i64 N) ∧ w'.cell? ⟨gx, 1, none⟩ = some (.int .i64 S) ∧ Below wX.heap.size wX w' :=
  ⟨((bel_call hG h).cell (p := ⟨gx, 0, none⟩) hgx).trans g0, ((bel_call hG h).cell (p := ⟨gx, 1, none⟩) hgx).trans g1, h⟩

set_option maxRecDepth 100000 in
set_option maxHeartbeats 4000000 in
theorem put_calls (N S c : Nat) (L : List ByteArray) (y : ByteArray) (g gx cc : Nat) (w : World) (n1 : 3 ≤ N) (n2 : N ≤ 6) (s1 : 1 ≤ S) (s2 : S ≤ 8) (hc : c < N - 1) (hL : L.length = N) (hLs : ∀ s ∈ L, s.size = 16) (hy : y.size = 16)
    (hr : Rd w w.heap.size (some ⟨g, 0, none⟩) (L.map Value.string)) (hgx : gx < w.heap.size) (g0 : w.cell? ⟨gx, 0, none⟩ = some (.int .i64 N)) (g1 : w.cell? ⟨gx, 1, none⟩ = some (.int .i64 S)) :
    Calls Try.prog 23 #[.slice (some ⟨g, 0, none⟩) N cc, .int .i64 c, .string y, .pointer (some ⟨gx, 0, none⟩)] w fun e w' => ∃ (g' c' : Nat), e = .returned (.slice (some ⟨g', 0, none⟩) N c') ∧ N ≤ c' ∧ Rd w' w'.heap.size (some ⟨g', 0, none⟩) ((wroteL N c (-1) L y).map Value.string) ∧ Below w.heap.size w w' := by
  obtain ⟨iS, hiS, hzS, hsS, hbS⟩ := info_parts string_info
  obtain ⟨m, hm⟩ : ∃ m, (updR N c (-1)).length = m := ⟨_, rfl⟩
  obtain ⟨u, hu⟩ : ∃ u, (updW N c (-1)).length = u := ⟨_, rfl⟩
  have HM := Lib.hid hm
  have HU := Lib.hid hu
  have HL := Lib.hid hL
  have HLS := Lib.hid hLs
  have HY := Lib.hid hy
  have HRL := Lib.hid hr
  clear hm hu hL hLs hy hr
  go_enter Try.func23, Try.ntmps23
  go_wp2_with (go_at_call 16; (refine (update_ma N m u S c (-1) _ HM.out HU.out n1 n2 (by omega) (by omega) (by omega) (by omega) (by omega) (by omega)).mono ?_); rintro e w5 ⟨A1, gb, c1, c2, rfl, hgb, f1, f2, hk⟩; have hG := hk; have d0 := (hG.cell (p := ⟨gx, 0, none⟩) hgx).trans g0; have d1 := (hG.cell (p := ⟨gx, 1, none⟩) hgx).trans g1; have F1 := Lib.hid f1; have F2 := Lib.hid f2; have HRL5 := Lib.hid (rdi_call HRL.out hk); clear hk f1 f2)
  have hIN : ∀ x ∈ updR N c (-1), 0 ≤ x ∧ x < (N : Int) := updR_in (by omega) (by omega)
  have HP := Lib.hid (pickL_size HLS.out (by rw [HL.out]; exact hIN))
  have HIN := Lib.hid hIN
  have hm6 : m ≤ 6 := by rw [← HM.out]; exact updR_len n1 n2
  obtain ⟨M, hM⟩ : ∃ M, M = madeV N c (-1) (pickL L (updR N c (-1))) y := ⟨_, rfl⟩
  have HMM := Lib.hid hM
  clear hIN hM d0 d1
  go_region_held3 (fun w' => w'.cell? ⟨gx, 0, none⟩ = some (.int .i64 (N : Int)) ∧ w'.cell? ⟨gx, 1, none⟩ = some (.int .i64 (S : Int)) ∧ Below w5.heap.size w5 w')
    (first | exact ptS hgx g0 g1 hG (Below.refl _ _).drew | exact ptS hgx g0 g1 hG hbx)
    (first
      | (go_at_call 19; go_split_ands; (refine (named_yes L (updR N c (-1)) _ A1 N m _ c1 _ (rdi_call HRL5.out (by assumption)) (rdi_call F1.out (by assumption)) HL.out HM.out (by omega) (by omega) HIN.out).mono ?_); rintro e w6 ⟨C, cc6, rfl, hq1, hq2, hrc, hk⟩; have hbx := bel_call (by assumption : Below w5.heap.size w5 _) hk; have HRC := Lib.hid hrc; have HQ2 := Lib.hid hq2; clear hk hrc hq2)
      | (go_at_call 21; go_split_ands; (refine (made_at N m u S c (-1) (pickL L (updR N c (-1))) y _ cc6 _ HM.out HU.out (by rw [pickL_length]; exact HM.out) HP.out HY.out (by first | exact HRC.out | exact HRC.out.drew) hq1 HQ2.out n1 n2 (by omega) (by omega) (by omega) (by omega) (by omega) (by omega)).mono ?_); rw [← HMM.out]; rintro e w7 ⟨gd, cd, rfl, hgd, hrd, hk⟩; have HRD := Lib.hid hrd; have hbx := bel_call (by assumption : Below w5.heap.size w5 _) hk; clear hk hrd))
  have HF2 := Lib.hid (rdi_call F2.out hbx)
  have HRL7 := Lib.hid (rdi_call HRL5.out hbx)
  have HB7 := Lib.hid (bel_call hG hbx)
  have hu2 := updW_len (N := N) c (-1)
  rw [HU.out] at hu2
  obtain ⟨hu2, hu1⟩ := hu2
  have hne1 : ((u : Int) != (u : Int)) = false := by simp
  clear hbx hG hgb hgd
  have hLm : (L.map Value.string).length = N := by rw [List.length_map, HL.out]
  have HLM := Lib.hid hLm
  clear hLm
  obtain ⟨Z, hZ⟩ : ∃ Z, Z = (updW N c (-1)).zip M := ⟨_, rfl⟩
  have hMl : M.length = u := by rw [HMM.out, madeV_length, HU.out]
  have hZl : Z.length = u := by rw [hZ, List.length_zip, HU.out, hMl]; exact Nat.min_self _
  have HZ := Lib.hid hZ
  have HZL := Lib.hid hZl
  have HML := Lib.hid hMl
  clear hZ hMl hZl
  go_wp2_with (at_builtin; (refine wpList_append_rd rfl (.const (.slice none 0 0)) (.tmp 37) 40 rfl w7.heap.size 9 iS _ 1 16 Try.underlying40 hiS hzS hsS hbS rfl (by decide) (.slice none 0 0) 0 [] rfl (World.ownsRow_nil _ _ _ _) w7.heap.size (some ⟨g, 0, none⟩) N cc (L.map Value.string) rfl HRL7.out (by rw [HLM.out, Nat.mul_one]) (strings_one _) (by unfold maxLen; omega) (by omega) (Nat.le_refl _) ?_); intro v1 wa hown1 hg1; rw [Nat.zero_add, List.nil_append] at hown1; have hka := grown_nil_below hg1; have HKA := Lib.hid hka; have HO1 := Lib.hid hown1; clear hown1 hg1 hka)
  obtain ⟨ga, ca, rfl, hga, hga2, hca, hca2⟩ := own_some HO1.out (by omega)
  have hgbw : gb < w7.heap.size := by
    have hjl : 0 < (updW N c (-1)).length := by rw [HU.out]; exact hu1
    obtain ⟨b', o', hA, hb', _⟩ := HF2.out.at_ (intCells_at hjl)
    injection hA with hA
    injection hA with h1 _ _
    rw [h1]; exact hb'
  have hgdw : gd < w7.heap.size := by
    have hjm : 0 < M.length := by rw [HML.out]; exact hu1
    obtain ⟨b', o', hA, hb', _⟩ := HRD.out.at_ (k := 0) (u := .string M[0]) (by simp [hjm])
    injection hA with hA
    injection hA with h1 _ _
    rw [h1]; exact hb'
  have hgb2 : gb ≠ ga := by omega
  have hgd2 : gd ≠ ga := by omega
  have HRBa := Lib.hid (HF2.out.below HKA.out)
  have HRDa := Lib.hid (HRD.out.below HKA.out)
  go_loopw [14] (fun i wr => ∃ k : Nat, k ≤ u ∧ i = .int .i64 k ∧ wr.ownsRow w7.heap.size 9 1 (.slice (some ⟨ga, 0, none⟩) N ca) N ((putL L (Z.take k)).map Value.string) ∧
      Rd wr w7.heap.size (some ⟨gb, 0, none⟩) (intCells (updW N c (-1))) ∧ Rd wr w7.heap.size (some ⟨gd, 0, none⟩) (M.map Value.string) ∧ Below w7.heap.size w7 wr) (fun i _ => u - (intOf i).toNat)
  case atStart => exact ⟨0, Nat.zero_le _, rfl, HO1.out, HRBa.out, HRDa.out, HKA.out⟩
  case round =>
    obtain ⟨j, hj, rfl, hown, hrb, hrd, hG⟩ := hrel
    have HOr := Lib.hid hown
    have HRB := Lib.hid hrb
    have HRDr := Lib.hid hrd
    clear hown hrb hrd
    by_cases hjt : j < u
    · have hjl : j < (updW N c (-1)).length := by rw [HU.out]; exact hjt
      have hjm : j < M.length := by rw [HML.out]; exact hjt
      have hju : (j : Int) < (u : Int) := by omega
      have hc0 := HRB.out.cell_ (intCells_at hjl)
      have hc1 := HRDr.out.cell_ (k := j) (u := .string M[j]) (by simp [hjm])
      obtain ⟨-, hx0, hxN⟩ := updW_in n1 (by omega) _ (List.getElem_mem hjl)
      have hZj : Z[j]? = some ((updW N c (-1))[j], M[j]) := by rw [HZ.out]; simp [List.getElem?_zip_eq_some, hjl, hjm]
      obtain ⟨x, hx⟩ : ∃ x, x = (updW N c (-1))[j] := ⟨_, rfl⟩
      obtain ⟨s, hs⟩ : ∃ s, s = M[j] := ⟨_, rfl⟩
      rw [← hx] at hc0 hx0 hxN hZj
      rw [← hs] at hc1 hZj
      clear hx hs hjl hjm
      obtain ⟨x, rfl⟩ := Int.eq_ofNat_of_zero_le hx0
      have HST := Lib.hid (putL_snoc L Z j x s hZj)
      rw [Nat.zero_add] at hc0 hc1
      have d1 : decide ((x : Int) < 0) = false := decide_eq_false (by omega)
      have d2 : decide ((N : Int) ≤ (x : Int)) = false := decide_eq_false (by omega)
      have d3 : decide (N ≤ x) = false := decide_eq_false (by omega)
      have hxN2 : x < N := by omega
      have hfl := HOr.out.frozenAt x
      have hpl : x < (putL L (Z.take j)).length := by rw [putL_length, HL.out]; exact hxN2
      have hcl : wr.cell? ⟨ga, x, none⟩ = some (.string (putL L (Z.take j))[x]) := by
        have h := (Rd.of_own HOr.out).cell_ (k := x) (u := .string (putL L (Z.take j))[x]) (by simp [hpl])
        rwa [Nat.zero_add] at h
      obtain ⟨s0, hs0⟩ : ∃ s0, s0 = (putL L (Z.take j))[x] := ⟨_, rfl⟩
      rw [← hs0] at hcl
      clear hs0 hpl hZj hx0
      go_wp2
      go_region
      go_wp2
      go_roundw
      case rel =>
        have h1 := (own_drewN HOr.out 1).stored x (.string s)
        refine ⟨j + 1, by omega, by go_num, ?_, rd_other HRB.out.drew hgb2, rd_other HRDr.out.drew hgd2, hG.drew.setCell (p := ⟨ga, x, none⟩) hga _⟩
        rw [HST.out, List.map_set]
        exact h1.1
      case measure => simp [intOf]; omega
    · have hjt2 : decide (j < u) = false := decide_eq_false hjt
      have hwr : putL L (Z.take j) = wroteL N c (-1) L y := by
        rw [List.take_of_length_le (by rw [HZL.out]; omega), HZ.out, HMM.out]; rfl
      have HW := Lib.hid hwr
      clear hjt hwr
      go_wp2
      go_ret
      refine ⟨ga, ca, rfl, hca, ?_, bel_call HB7.out hG⟩
      have h := Rd.of_own HOr.out
      rw [HW.out] at h
      exact h
end Go.Proofs.Ytaahakmngdjdfaa
