/-
  PlanWrites: behind Made, written, the stripe is all nought again, with data in the column: for any raw geometry, texts, numbers and text. No condition.
-/
import Derived.Test.YtaahakmngdjdfaaPlanAt
import Derived.Test.YtaahakmngdjdfaaPlanReads
namespace Go.Proofs.Ytaahakmngdjdfaa
open Go.RowKit

theorem rd_other {w : World} {B b off g y : Nat} {v : Value} {xs : List Value} (h : Rd w B (some ⟨b, off, none⟩) xs) (hne : b ≠ g) : Rd (w.setCell ⟨g, y, none⟩ v) B (some ⟨b, off, none⟩) xs := by
  rcases h with h | ⟨b', off', hA, hb, hc⟩
  · exact .inl h
  · injection hA with hA
    injection hA with h1 h2 _
    subst h1 h2
    refine .inr ⟨b, off, rfl, hb, fun i u hu => (World.cell?_setCell_other w _ _ _ ?_).trans (hc i u hu)⟩
    intro e
    injection e with e1 _ _
    first | exact hne e1 | exact hne e1.symm
theorem rd_drewN {w : World} {B : Nat} {A : Option Addr} {xs : List Value} (h : Rd w B A xs) (n : Nat) : Rd (w.drewN n) B A xs := h.below (below_drewN (Below.refl B w) n)
theorem own_drewN {w : World} {base n size : Nat} {e : TypeId} {v : Value} {xs : List Value} (h : w.ownsRow base e size v n xs) (k : Nat) : (w.drewN k).ownsRow base e size v n xs := own_keep_below h (below_drewN (Below.refl w.heap.size w) k) (Nat.le_refl _)
theorem updW_len {N : Nat} (c o : Int) : (updW N c o).length ≤ 2 ∧ 1 ≤ (updW N c o).length := by
  unfold updW
  split
  · simp
  · split <;> simp

set_option maxRecDepth 100000 in
set_option maxHeartbeats 4000000 in
theorem planWrites_walk (a0 b0 : Int) (raw : List ByteArray) (A : Option Addr) (n cap : Nat) (p q : Int) (data : ByteArray) (w : World) (ha1 : -9223372036854775808 ≤ a0) (ha2 : a0 ≤ 9223372036854775807) (hb1 : -9223372036854775808 ≤ b0) (hb2 : b0 ≤ 9223372036854775807)
    (hr : Rd w w.heap.size A (raw.map Value.string)) (hln : raw.length = n) (_hnc : n ≤ cap) (hc : cap * 16 ≤ 140737488351232) (_hs : ∀ s ∈ raw, s.size ≤ maxLen)
    (p1 : -9223372036854775808 ≤ p) (p2 : p ≤ 9223372036854775807) (q1 : -9223372036854775808 ≤ q) (q2 : q ≤ 9223372036854775807) (_hdata : data.size ≤ 140737488351232) :
    Calls Try.prog 7 #[.agg #[.int .i64 a0, .int .i64 b0], .slice A n cap, .int .i64 p, .int .i64 q, .string data] w fun e w' => e = .returned (.bool true) ∧ Below w.heap.size w w' := by
  have HR := Lib.hid hr
  have HN := Lib.hid hln
  have hnm : n ≤ maxLen := by unfold maxLen; omega
  have HNM := Lib.hid hnm
  clear hr hln hnm hc _hnc _hs _hdata
  go_enter Try.func7, Try.ntmps7
  go_wp2_with (first
    | (go_at_call 9; refine (awake06_calls _).mono ?_; rintro e w1 ⟨rfl, hk⟩; have hR : Below (w.alloc (geoBox a0 b0)).heap.size (w.alloc (geoBox a0 b0)) w1 := hk; have r0 := geo0 hR; have r1 := geo1 hR; clear hk)
    | (go_at_call 10; (refine (fit_n a0 b0 _ ha1 ha2 hb1 hb2).mono ?_); rintro e w2 ⟨N, S, n1, n2, s1, s2, rfl, hk⟩; replace hR := bel_call hR hk; clear hk)
    | (go_at_call 17; (refine (stripe_yes N S raw A n cap _ n1 n2 (rdi_alloc (rdi_call HR.out (geo_below hR)) _) HN.out HNM.out).mono ?_); rintro e w3 ⟨g, cc, L, rfl, hg1, hg2, hcc1, hcc2, hL, hLs, hLz, hown, hk⟩; have hG : Below (w2.alloc (geoBox N S)).heap.size (w2.alloc (geoBox N S)) w3 := hk; have g0 := geo0 hG; have g1 := geo1 hG; have HL := Lib.hid hL; have HLS := Lib.hid hLs; have HLZ := Lib.hid hLz; have HO := Lib.hid hown; clear hL hLs hLz hown hk hcc2)
    | (go_at_call_of 12 (Value.int .i64 p); (refine (pick06_arg p _ (N - 1) _ (by omega) p1 p2 (by omega) (by omega)).mono ?_); rintro e w' ⟨c, hc, rfl, rfl⟩)
    | (go_at_call_of 12 (Value.int .i64 q); (refine (pick06_int q _ _ q1 q2 (by omega) (by omega)).mono ?_); rintro e w' ⟨o, ho1, ho2, rfl, rfl⟩; obtain ⟨t, ht⟩ : ∃ t, o - 1 = t := ⟨_, rfl⟩; obtain ⟨m, hm⟩ : ∃ m, (updR N c t).length = m := ⟨_, rfl⟩; obtain ⟨u, hu⟩ : ∃ u, (updW N c t).length = u := ⟨_, rfl⟩; have HM := Lib.hid hm; have HU := Lib.hid hu; have ht1 : -1 ≤ t := (by omega); have ht2 : t ≤ (N : Int) - 1 := (by omega); clear hm hu)
    | (go_at_call 20; (refine (texts_some [data] (some ⟨w3.heap.size, 0, none⟩) 1 1 _ _ 1 16 (w3.alloc (.cells #[.string data] 9)) (rd_texts w3 [data] 9) rfl (by decide) rfl rfl (by omega) (by omega) (by omega)).mono ?_); rintro e w4 ⟨gt, ct, Lt, -, rfl, -, -, -, -, hLl2, hLs2, hown2, hbt2⟩; have hk4 := bel_call (bel_alloc (Below.refl w3.heap.size w3) _) hbt2; replace hG := bel_call hG hk4; have HK4 := Lib.hid hk4; have hge4 := hk4.size; obtain ⟨y, hy⟩ : ∃ y, Lt = [y] := List.length_eq_one_iff.1 hLl2; have HYS : Hid (y.size = 16) := Lib.hid (hLs2 y (by rw [hy]; simp)); have hcy : w4.cell? ⟨gt, 0, none⟩ = some (.string y) := (Rd.of_own hown2).cell_ (k := 0) (u := .string y) (by rw [hy]; rfl); have h01 : 0 < 1 := (by omega); have g2 := geo0 hG; have g3 := geo1 hG; clear hy hLl2 hLs2 hown2 hbt2 hk4)
    | (go_at_call 16; (refine (update_ma N m u S c t _ HM.out HU.out n1 n2 (by omega) (by omega) (by omega) (by omega) ht1 ht2).mono ?_); rintro e w5 ⟨A1, gb, c1, c2, rfl, hgb, f1, f2, hk⟩; have HK5 := Lib.hid (bel_call HK4.out hk); replace hG := bel_call hG hk; have F1 := Lib.hid f1; have F2 := Lib.hid f2; have hge5 := hk.size; clear hk f1 f2))
  have HRL5 := Lib.hid (rdi_call (Rd.of_own HO.out) HK5.out)
  have hIN : ∀ x ∈ updR N c t, 0 ≤ x ∧ x < (N : Int) := updR_in (by omega) (by omega)
  have HP := Lib.hid (pickL_size HLS.out (by rw [HL.out]; exact hIN))
  have HIN := Lib.hid hIN
  have hm6 : m ≤ 6 := by rw [← HM.out]; exact updR_len n1 n2
  obtain ⟨M, hM⟩ : ∃ M, M = madeV N c t (pickL L (updR N c t)) y := ⟨_, rfl⟩
  have HMM := Lib.hid hM
  have g4 := geo0 hG
  have g5 := geo1 hG
  clear hIN g0 g1 g2 g3 hcy h01 hM
  go_region_held3 (fun w' => w'.cell? ⟨w2.heap.size, 0, none⟩ = some (.int .i64 (N : Int)) ∧ w'.cell? ⟨w2.heap.size, 1, none⟩ = some (.int .i64 (S : Int)) ∧ Below w5.heap.size w5 w')
    (first | exact stS hG (Below.refl _ _).drew | exact stS hG hbx)
    (first
      | (go_at_call 19; go_split_ands; (refine (named_yes L (updR N c t) _ A1 N m _ c1 _ (rdi_call HRL5.out (by assumption)) (rdi_call F1.out (by assumption)) HL.out HM.out (by omega) (by omega) HIN.out).mono ?_); rintro e w6 ⟨C, cc6, rfl, hq1, hq2, hrc, hk⟩; have hbx := bel_call (by assumption : Below w5.heap.size w5 _) hk; have HRC := Lib.hid hrc; have HQ2 := Lib.hid hq2; have hge6 := hbx.size; clear hk hrc hq2)
      | (go_at_call 21; go_split_ands; (refine (made_at N m u S c t (pickL L (updR N c t)) y _ cc6 _ HM.out HU.out (by rw [pickL_length]; exact HM.out) HP.out HYS.out (by first | exact HRC.out | exact HRC.out.drew) hq1 HQ2.out n1 n2 (by omega) (by omega) (by omega) (by omega) ht1 ht2).mono ?_); rw [← HMM.out]; rintro e w7 ⟨gd, cd, rfl, hgd, hrd, hk⟩; have HRD := Lib.hid hrd; have hbx := bel_call (by assumption : Below w5.heap.size w5 _) hk; clear hk hrd))
  have HG7 := Lib.hid (bel_call hG hbx)
  have HO7 := Lib.hid (own_keep_below HO.out (HK5.out.trans (hbx.mono HK5.out.size)) (Nat.le_refl _))
  have HF1 := Lib.hid (rdi_call F1.out hbx)
  have HF2 := Lib.hid (rdi_call F2.out hbx)
  have hu2 := (updW_len (N := N) c t).1
  rw [HU.out] at hu2
  have hgb2 : gb ≠ g := by omega
  have hgd2 : gd ≠ g := by omega
  have hne1 : ((u : Int) != (u : Int)) = false := by simp
  clear hbx hG g4 g5
  go_wp2
  go_loop [19] (fun i => ∃ k : Nat, k ≤ m ∧ i = .int .i64 k) (fun i => m - (intOf i).toNat)
  case atStart => exact ⟨0, Nat.zero_le _, rfl⟩
  case round =>
    obtain ⟨k, hk, rfl⟩ := hrel
    by_cases hlt : k < m
    · have hkl : k < (updR N c t).length := by rw [HM.out]; exact hlt
      obtain ⟨b, off, rfl, hbB, hc0⟩ := HF1.out.at_ (intCells_at hkl)
      have hne := updR_ne _ (List.getElem_mem hkl)
      obtain ⟨z, hz⟩ : ∃ z, z = (updR N c t)[k] := ⟨_, rfl⟩
      rw [← hz] at hc0 hne
      clear hz
      go_wp2
      go_round
      case rel => exact ⟨k + 1, by omega, by go_num⟩
      case measure => simp [intOf]; omega
    · have hlt2 : decide (k < m) = false := decide_eq_false hlt
      clear hlt
      obtain ⟨Z, hZ⟩ : ∃ Z, Z = (updW N c t).zip M := ⟨_, rfl⟩
      have hMl : M.length = u := by rw [HMM.out, madeV_length, HU.out]
      have hZl : Z.length = u := by rw [hZ, List.length_zip, HU.out, hMl]; exact Nat.min_self _
      have HZ := Lib.hid hZ
      have HZL := Lib.hid hZl
      have HML := Lib.hid hMl
      clear hZ hMl hZl
      go_wp2
      go_loopw [20] (fun i wr => ∃ k : Nat, k ≤ u ∧ i = .int .i64 k ∧ wr.ownsRow (w2.alloc (geoBox N S)).heap.size 9 1 (.slice (some ⟨g, 0, none⟩) N cc) N ((putL L (Z.take k)).map Value.string) ∧
          Rd wr w7.heap.size (some ⟨gb, 0, none⟩) (intCells (updW N c t)) ∧ Rd wr w7.heap.size (some ⟨gd, 0, none⟩) (M.map Value.string) ∧ Below (w2.alloc (geoBox N S)).heap.size (w2.alloc (geoBox N S)) wr) (fun i _ => u - (intOf i).toNat)
      case atStart => exact ⟨0, Nat.zero_le _, rfl, HO7.out, HF2.out, HRD.out, HG7.out⟩
      case round =>
        obtain ⟨j, hj, rfl, hown, hrb, hrd, hG⟩ := hrel
        have HOr := Lib.hid hown
        have HRB := Lib.hid hrb
        have HRDr := Lib.hid hrd
        clear hown hrb hrd
        by_cases hjt : j < u
        · have hjl : j < (updW N c t).length := by rw [HU.out]; exact hjt
          have hjm : j < M.length := by rw [HML.out]; exact hjt
          have hju : (j : Int) < (u : Int) := by omega
          have hc0 := HRB.out.cell_ (intCells_at hjl)
          have hc1 := HRDr.out.cell_ (k := j) (u := .string M[j]) (by simp [hjm])
          obtain ⟨hne, hx0, hxN⟩ := updW_in n1 (by omega) _ (List.getElem_mem hjl)
          have hZj : Z[j]? = some ((updW N c t)[j], M[j]) := by rw [HZ.out]; simp [List.getElem?_zip_eq_some, hjl, hjm]
          obtain ⟨x, hx⟩ : ∃ x, x = (updW N c t)[j] := ⟨_, rfl⟩
          obtain ⟨s, hs⟩ : ∃ s, s = M[j] := ⟨_, rfl⟩
          rw [← hx] at hc0 hne hx0 hxN hZj
          rw [← hs] at hc1 hZj
          clear hx hs hjl hjm
          obtain ⟨x, rfl⟩ := Int.eq_ofNat_of_zero_le hx0
          have HST := Lib.hid (putL_snoc L Z j x s hZj)
          rw [Nat.zero_add] at hc0 hc1
          have d1 : decide ((x : Int) < 0) = false := decide_eq_false (by omega)
          have d2 : decide ((N : Int) ≤ (x : Int)) = false := decide_eq_false (by omega)
          have d3 : decide (N ≤ x) = false := decide_eq_false (by omega)
          have g0 := geo0 hG
          have g1 := geo1 hG
          have hxN2 : x < N := by omega
          clear hZj hx0
          go_wp2
          go_quiet (fail)
          go_wp2
          have hfl := HOr.out.frozenAt x
          have hpl : x < (putL L (Z.take j)).length := by rw [putL_length, HL.out]; exact hxN2
          have hcl : wr.cell? ⟨g, x, none⟩ = some (.string (putL L (Z.take j))[x]) := by
            have h := (Rd.of_own HOr.out).cell_ (k := x) (u := .string (putL L (Z.take j))[x]) (by simp [hpl])
            rwa [Nat.zero_add] at h
          obtain ⟨s0, hs0⟩ : ∃ s0, s0 = (putL L (Z.take j))[x] := ⟨_, rfl⟩
          rw [← hs0] at hcl
          clear hs0 hpl hne d1 d2 d3 g0 g1
          go_region
          go_wp2
          go_roundw
          case rel =>
            have h1 := (own_drewN HOr.out (nq + 1)).stored x (.string s)
            refine ⟨j + 1, by omega, by go_num, ?_, rd_other (rd_drewN HRB.out _) hgb2, rd_other (rd_drewN HRDr.out _) hgd2, (below_drewN hG (nq + 1)).setCell (p := ⟨g, x, none⟩) hg1 _⟩
            rw [HST.out, List.map_set]
            exact h1.1
          case measure => simp [intOf]; omega
        · have hjt2 : decide (j < u) = false := decide_eq_false hjt
          have hwr : putL L (Z.take j) = wroteL N c t L y := by
            rw [List.take_of_length_le (by rw [HZL.out]; omega), HZ.out, HMM.out]; rfl
          obtain ⟨L1, hL1⟩ : ∃ L1, L1 = wroteL N c t L y := ⟨_, rfl⟩
          obtain ⟨Ls, hLs⟩ : ∃ Ls, Ls = seenL N c t L y := ⟨_, rfl⟩
          obtain ⟨e1, e2, e3, e4⟩ := seen_law (o := t) n1 n2 HL.out HLS.out HLZ.out HYS.out (show c + 1 < N by omega) ht1 ht2
          have hseen : Ls = if 0 ≤ t then healL L1 t.toNat else L1 := by rw [hLs, hL1]; rfl
          rw [← hL1] at hwr e1 e2
          rw [← hLs] at e3 e4
          have HOb : Hid (wr.ownsRow (w2.alloc (geoBox N S)).heap.size 9 1 (.slice (some ⟨g, 0, none⟩) N cc) N (L1.map Value.string)) := Lib.hid (by have h := HOr.out; rw [hwr] at h; exact h)
          have E1 := Lib.hid e1
          have E2 := Lib.hid e2
          have E3 := Lib.hid e3
          have E4 := Lib.hid e4
          have HSE := Lib.hid hseen
          have HGb := Lib.hid hG
          have hgw : g < wr.heap.size := by
            have := (HOr.out.lt g rfl).2
            exact this
          have hmk : ∀ W : World, (Instr.makeSlice 51 (.int .i64 16) (.int .i64 16)).run Try.prog W = .ok (.slice (some ⟨W.heap.size, 0, none⟩) 16 16) (W.alloc (.cells (zeroRow 16) 5)) := fun W => run_make8 16 (by omega) W
          have hzs := fun W => run_zero_string 16 W
          have hcN : c < N := by omega
          clear hjt hwr hL1 hLs e1 e2 e3 e4 hseen HOr HRB HRDr
          by_cases h0 : 0 ≤ t
          · obtain ⟨wb, hwb⟩ : ∃ wb : World, wb = wr := ⟨_, rfl⟩
            subst hwb
            obtain ⟨ov, rfl⟩ := Int.eq_ofNat_of_zero_le h0
            have hovN : ov < N := by omega
            have hLh : Ls = healL L1 ov := by rw [HSE.out, if_pos h0, Int.toNat_natCast]
            have HLH := Lib.hid hLh
            have HRb := Lib.hid (Rd.of_own HOb.out)
            obtain ⟨iS, hiS, hzS, hsS, hbS⟩ := info_parts string_info
            clear hLh hG h0
            go_wp2
            go_loopw [21, 22] (fun v i wr => ∃ k : Nat, k ≤ N ∧ i = .int .i64 k ∧ wr.ownsRow wb.heap.size 9 1 v (restL L1 ov k).length ((restL L1 ov k).map Value.string) ∧ Below wb.heap.size wb wr) (fun _ i _ => N - (intOf i).toNat)
            case atStart => exact ⟨0, Nat.zero_le _, rfl, by simpa [restL] using World.ownsRow_nil _ _ _ _, Below.refl _ _⟩
            case round =>
              obtain ⟨k, hk, rfl, hown, hbw⟩ := hrel
              have HO3 := Lib.hid hown
              clear hown
              have hlen : (restL L1 ov k).length ≤ N := by have := restL_length L1 ov k; have := E2.out; omega
              have g0 := geo0 (bel_call HGb.out hbw)
              have g1 := geo1 (bel_call HGb.out hbw)
              by_cases hlt : k < N
              · by_cases hjk : k = ov
                · have hb : ((k : Int) != (ov : Int)) = false := by simp [hjk]
                  have HJ := Lib.hid hjk
                  clear hjk
                  go_wp2
                  go_roundw
                  case rel => exact ⟨k + 1, by omega, by go_num, by have h := HO3.out; rw [HJ.out] at h ⊢; rw [restL_skip]; exact h, hbw⟩
                  case measure => simp [intOf]; omega
                · have hb : ((k : Int) != (ov : Int)) = true := by simp; omega
                  have hjl : k < L1.length := by rw [E2.out]; exact hlt
                  obtain ⟨z, hz⟩ : ∃ z, L1[k]? = some z := ⟨_, List.getElem?_eq_getElem hjl⟩
                  have hcz : wr.cell? ⟨g, k, none⟩ = some (.string z) := (hbw.cell hgw).trans (by have h := HRb.out.cell_ (k := k) (u := .string z) (by simp [hz]); rwa [Nat.zero_add] at h)
                  have HMr : Hid (restL L1 ov (k + 1) = restL L1 ov k ++ [z]) := Lib.hid (restL_more hz hjk)
                  clear hz hjk
                  go_wp2_with (at_builtin; (refine wpList_append_rd rfl (.tmp 144) (.tmp 149) 40 rfl wb.heap.size 9 iS _ 1 16 Try.underlying40 hiS hzS hsS hbS rfl (by decide) _ (restL L1 ov k).length _ rfl (HO3.out.alloc _) (wr.heap.size + 1) (some ⟨wr.heap.size, 0, none⟩) 1 1 [.string z] rfl (Rd.new wr #[.string z] 9 (0, 0)) rfl (oneString _) (by unfold maxLen; omega) (by omega) (by have := hbw.size; simp; omega) ?_); intro v3 wv hown3 hg3; replace hbw := (hbw.alloc hbw.size _).trans (grown_below (B := wb.heap.size) hg3 (fun i hi => (HO3.out.lt i hi).1) (by have := hbw.size; simp; omega)); have HO4 := Lib.hid hown3; clear hown3 hg3)
                  go_roundw
                  case rel => exact ⟨k + 1, by omega, by go_num, by
                    rw [HMr.out, List.length_append, List.map_append]
                    exact HO4.out, hbw⟩
                  case measure => simp [intOf]; omega
              · have hlt2 : decide (k < N) = false := decide_eq_false hlt
                have hrl : restL L1 ov k = L1.eraseIdx ov := restL_all (by rw [E2.out]; omega)
                obtain ⟨A3, c3, hv3, _, _⟩ := own_form HO3.out
                have HR3 : Hid (Rd wr wr.heap.size A3 ((L1.eraseIdx ov).map Value.string)) := Lib.hid (by
                  have h := HO3.out
                  rw [hv3, hrl] at h
                  exact Rd.of_own h)
                have hel : (L1.eraseIdx ov).length = N - 1 := by rw [List.length_eraseIdx_of_lt (by rw [E2.out]; exact hovN), E2.out]
                obtain ⟨rn, hrn⟩ : ∃ rn, rn = (restL L1 ov k).length := ⟨_, rfl⟩
                have hrn2 : rn = N - 1 := by rw [hrn, hrl, hel]
                have HEL : Hid ((L1.eraseIdx ov).length = rn) := Lib.hid (by rw [hel, hrn2])
                have hrn3 : rn + 1 = N := by omega
                rw [← hrn] at hv3
                subst hv3
                have hl1 : ov < L1.length := by rw [E2.out]; exact hovN
                have hcl0 : wb.cell? ⟨g, ov, none⟩ = some (.string L1[ov]) := by
                  have h := HRb.out.cell_ (k := ov) (u := .string L1[ov]) (by simp [hl1])
                  rwa [Nat.zero_add] at h
                have HES : Hid (∀ s ∈ L1.eraseIdx ov, s.size = 16) := Lib.hid fun s hs => E1.out s (List.mem_of_mem_eraseIdx hs)
                obtain ⟨lv, hlv⟩ : ∃ lv, lv = L1[ov] := ⟨_, rfl⟩
                rw [← hlv] at hcl0
                have hrn0 : 0 < rn := by omega
                have hrn6 : rn ≤ 6 := by omega
                clear hlv hl1 hrn hrl hel hlt hlen hrn2 hrn3
                go_wp2_with fail
                refine (ref_all_n 16 (L1.eraseIdx ov) _ rn c3 _ HR3.out HES.out HEL.out (by omega) (by unfold maxLen; omega) (by unfold maxLen; omega)).mono ?_
                obtain ⟨hv, hhv⟩ : ∃ hv, hv = sumX 16 (L1.eraseIdx ov) := ⟨_, rfl⟩
                rw [← hhv]
                rintro e w8 ⟨rfl, hk⟩
                have hb8 := hbw.trans (hk.mono hbw.size)
                have HB8 := Lib.hid hb8
                have hcl := (hb8.cell (p := ⟨g, ov, none⟩) hgw).trans hcl0
                have HO8 := Lib.hid (own_keep_below HOb.out hb8 (Nat.le_refl _))
                have hfl := HO8.out.frozenAt ov
                have hst := (HO8.out.stored ov (.string hv)).1
                rw [← List.map_set, hhv] at hst
                have HO9 : Hid ((w8.setCell ⟨g, ov, none⟩ (.string hv)).ownsRow (w2.alloc (geoBox N S)).heap.size 9 1 (.slice (some ⟨g, 0, none⟩) N cc) N ((healL L1 ov).map Value.string)) := Lib.hid (by rw [hhv]; exact hst)
                have HG9 := Lib.hid ((bel_call HGb.out hb8).setCell (p := ⟨g, ov, none⟩) hg1 (.string hv))
                have hcx9 : (w8.setCell ⟨g, ov, none⟩ (.string hv)).cell? ⟨g, c, none⟩ = some (.string y) := by
                  have h := (Rd.of_own HO9.out).cell_ (k := c) (u := .string y) (by rw [← HLH.out]; simp [E4.out])
                  rwa [Nat.zero_add] at h
                have HCX9 := Lib.hid hcx9
                have hgw9 : g < (w8.setCell ⟨g, ov, none⟩ (.string hv)).heap.size := Nat.lt_of_lt_of_le (HO9.out.lt g rfl).2 (Nat.le_refl _)
                have HGW9 := Lib.hid hgw9
                have hhs : ∀ s ∈ healL L1 ov, s.size = 16 := heal_size E1.out
                have HHS := Lib.hid hhs
                have hhl : (healL L1 ov).length = N := by rw [← E2.out]; exact List.length_set
                have HHL := Lib.hid hhl
                have hzz : sumX 16 (healL L1 ov) = zeroB 16 := by rw [← HLH.out]; exact E3.out
                have HZZ := Lib.hid hzz
                clear hst hhv hk hb8 hcl0 hcx9 hgw9 hhs hhl hzz hbw
                go_wp2_with fail
                refine (ref_all_n 16 (healL L1 ov) _ N cc _ (Rd.of_own HO9.out) HHS.out HHL.out (by omega) (by unfold maxLen; omega) (by unfold maxLen; omega)).mono ?_
                rw [HZZ.out]
                rintro e w9 ⟨rfl, hk⟩
                have HGe := Lib.hid (bel_call HG9.out hk)
                have hcy8 := (hk.cell (p := ⟨g, c, none⟩) HGW9.out).trans HCX9.out
                have hbe := hk.alloc hk.size (.cells (zeroRow 16) 5)
                have hcy9 := (hbe.cell (p := ⟨g, c, none⟩) HGW9.out).trans HCX9.out
                have HBE := Lib.hid hbe
                clear hk hbe
                go_wp2
                go_ret
                exact ⟨by rfl, bel_call (geo_below hR) (bel_alloc (geo_below HGe.out) _)⟩
          · have h0' : decide (0 ≤ t) = false := decide_eq_false h0
            have hLL : Ls = L1 := by rw [HSE.out, if_neg h0]
            have hse : ∀ s ∈ L1, s.size = 16 := E1.out
            have hcx : wr.cell? ⟨g, c, none⟩ = some (.string y) := by
              have h := (Rd.of_own HOb.out).cell_ (k := c) (u := .string y) (by rw [← hLL]; simp [E4.out])
              rwa [Nat.zero_add] at h
            have hz : sumX 16 L1 = zeroB 16 := by rw [← hLL]; exact E3.out
            have HZZ := Lib.hid hz
            clear hLL h0 hse hz
            go_wp2_with fail
            refine (ref_all_n 16 L1 _ N cc _ (Rd.of_own HOb.out) E1.out E2.out (by omega) (by unfold maxLen; omega) (by unfold maxLen; omega)).mono ?_
            rw [HZZ.out]
            rintro e w8 ⟨rfl, hk⟩
            have HGe := Lib.hid (bel_call hG hk)
            have hcx8 := (hk.cell (p := ⟨g, c, none⟩) hgw).trans hcx
            have hbe := hk.alloc hk.size (.cells (zeroRow 16) 5)
            have hcx9 := (hbe.cell (p := ⟨g, c, none⟩) hgw).trans hcx
            clear hk
            go_wp2
            go_ret
            exact ⟨by rfl, bel_call (geo_below hR) (bel_alloc (geo_below HGe.out) _)⟩
end Go.Proofs.Ytaahakmngdjdfaa
