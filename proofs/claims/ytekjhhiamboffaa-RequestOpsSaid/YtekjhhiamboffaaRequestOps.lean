/-
  RequestOps: Take of Lay are the ops of which the request consists: for any raw geometry, numbers and text. No condition.
-/
import Derived.Test.YtekjhhiamboffaaRequestBad
import Derived.Test.YtekjhhiamboffaaRunMin
namespace Go.Proofs.Ytekjhhiamboffaa
open Go.RowKit

theorem ops_cells {K a : Int} {d : ByteArray} {n j : Nat} (hj : j < n) : (opCells (opsL K a d n))[j * 3]? = some (.int .i64 K) ∧ (opCells (opsL K a d n))[j * 3 + 1]? = some (.int .i64 (a + j)) ∧ (opCells (opsL K a d n))[j * 3 + 2]? = some (.string (opOf K a d j).2.2) := by
  have hl : j < (opsL K a d n).length := by rw [opsL_length]; exact hj
  have e : (opsL K a d n)[j] = opOf K a d j := by simp [opsL]
  have h := op_at hl
  rw [e] at h
  exact h
theorem ext_step (d : ByteArray) (j : Nat) : d.extract 0 (j * 16) ++ d.extract (j * 16) ((j + 1) * 16) = d.extract 0 ((j + 1) * 16) := by
  apply ba_eq
  rw [Joins.data_append, ext_list, ext_list, ext_list, List.drop_zero, List.drop_zero]
  have e : d.data.toList.take (j * 16) = (d.data.toList.take ((j + 1) * 16)).take (j * 16) := by rw [List.take_take]; congr 1; omega
  rw [e, List.take_append_drop]
theorem ext_all {d : ByteArray} {n : Nat} (h : d.size = n * 16) : d.extract 0 (n * 16) = d := by
  apply ba_eq
  rw [ext_list, List.drop_zero, List.take_of_length_le (by rw [byteList_size, h]; exact Nat.le_refl _)]
theorem ext_zero (d : ByteArray) : d.extract 0 (0 * 16) = ⟨#[]⟩ := by
  apply ba_eq
  rw [ext_list]
  simp
theorem ext_nil (n : Nat) : (⟨#[]⟩ : ByteArray).extract 0 n = ⟨#[]⟩ := by
  apply ba_eq
  rw [ext_list]
  simp
theorem app_nil (t : ByteArray) : t ++ (⟨#[]⟩ : ByteArray) = t := by
  apply ba_eq
  rw [Joins.data_append]
  simp
theorem ext_le {d : ByteArray} {n : Nat} (h : d.size ≤ 64) : (d.extract 0 n).size ≤ 64 := by
  rw [ByteArray.size_extract]; omega

set_option maxRecDepth 100000 in
set_option maxHeartbeats 4000000 in
theorem requestOps_walk (a0 b0 : Int) (p q r : Int) (data : ByteArray) (w : World) (ha1 : -9223372036854775808 ≤ a0) (ha2 : a0 ≤ 9223372036854775807) (hb1 : -9223372036854775808 ≤ b0) (hb2 : b0 ≤ 9223372036854775807)
    (p1 : -9223372036854775808 ≤ p) (p2 : p ≤ 9223372036854775807) (q1 : -9223372036854775808 ≤ q) (q2 : q ≤ 9223372036854775807) (r1 : -9223372036854775808 ≤ r) (r2 : r ≤ 9223372036854775807) (_hdata : data.size ≤ 140737488351232) :
    Calls Try.prog 4 #[.agg #[.int .i64 a0, .int .i64 b0], .int .i64 p, .int .i64 q, .int .i64 r, .string data] w fun e w' => e = .returned (.bool true) ∧ Below w.heap.size w w' := by
  go_enter Try.func4, Try.ntmps4
  go_wp2_with (first
    | (go_at_call 8; refine (awake20_calls _).mono ?_; rintro e w1 ⟨rfl, hk⟩; have hR : Below (w.alloc (geoBox a0 b0)).heap.size (w.alloc (geoBox a0 b0)) w1 := hk; have s0 := geo0 hR; have s1 := geo1 hR; clear hk)
    | (go_at_call 20; (refine (fit_calls a0 b0 _ ha1 ha2 hb1 hb2).mono ?_); rintro e w2 ⟨N, S, n1, n2, m1, m2, rfl, hk⟩; replace hR := bel_call hR hk; have hG : Below (w2.alloc (geoBox N S)).heap.size (w2.alloc (geoBox N S)) (w2.alloc (geoBox N S)) := Below.refl _ _; clear hk)
    | (go_at_call_of 21 (Value.int .i64 p); (refine (pick20_int p 3 _ p1 p2 (by omega) (by omega)).mono ?_); rintro e w' ⟨k, hk1, hk2, rfl, rfl⟩))
  obtain ⟨T, hT⟩ : ∃ T : Nat, (T : Int) = S * (N - 1) := ⟨(S * (N - 1)).toNat, by have := prod_bounds n1 n2 m1 m2; omega⟩
  have hpb := prod_bounds n1 n2 m1 m2
  rw [← hT] at hpb
  obtain ⟨t1, t2⟩ := hpb
  have HT := Lib.hid hT
  clear hT
  refine (rblocks20 N S T _ HT.out n1 n2 m1 m2).mono ?_
  rintro e w3 ⟨rfl, hk⟩
  replace hG := bel_call hG hk
  have g0 := geo0 hG
  have g1 := geo1 hG
  clear hk
  have hmin := run_min4 (P := Try.prog) T
  obtain ⟨mn, hmn⟩ : ∃ mn, mn = min 4 T := ⟨_, rfl⟩
  rw [← hmn] at hmin
  have hm1 : 1 ≤ mn := by omega
  have hm4 : mn ≤ 4 := by omega
  have hmT : mn ≤ T := by omega
  clear hmn
  go_wp2_with fail
  refine (pick20_arg r _ mn _ rfl r1 r2 (by omega) (by omega)).mono ?_
  rintro e w' ⟨c, hc, rfl, rfl⟩
  have hc4 : c < 4 := by omega
  have hcT : c < T := by omega
  clear hc hmin hm1 hm4 hmT
  go_wp2_with fail
  refine (pick20_arg q _ (T - c) _ (by omega) q1 q2 (by omega) (by omega)).mono ?_
  rintro e w' ⟨a, ha, rfl, rfl⟩
  have hbz : rightZ N S = true ∧ blocksZ N S = T := ⟨right_iff.2 ⟨n1, n2, m1, m2⟩, by unfold blocksZ; rw [if_pos (right_iff.2 ⟨n1, n2, m1, m2⟩), HT.out]⟩
  have HRZ := Lib.hid hbz.1
  have HBZ := Lib.hid hbz.2
  clear hbz
  rcases (show k = 0 ∨ k = 1 ∨ k = 2 by omega) with rfl | rfl | rfl
  · go_wp2_with fail
    have hP : ReqP 1 (a : Int) (1 + (c : Int)) ⟨#[]⟩ := by unfold ReqP; have : (⟨#[]⟩ : ByteArray).size = 0 := rfl; omega
    obtain ⟨s, hs⟩ : ∃ s, s = layB (reqF 1 (a : Int) (1 + (c : Int)) ⟨#[]⟩) := ⟨_, rfl⟩
    have HP := Lib.hid hP
    have HS := Lib.hid hs
    have HTP : Hid (TakeP N S 1 (a : Int) (1 + (c : Int))) := Lib.hid (by unfold TakeP; rw [HBZ.out]; exact .inr ⟨by decide, by omega⟩)
    clear hP hs
    refine (lay20_yes 1 (a : Int) (1 + (c : Int)) ⟨#[]⟩ s _ (by decide) HP.out HS.out).mono ?_
    rintro e w5 ⟨rfl, hk⟩
    replace hG := bel_call hG hk
    have g2 := geo0 hG
    have g3 := geo1 hG
    clear hk
    go_wp2_with fail
    refine (take_ops N S 1 (a : Int) (1 + (c : Int)) (c + 1) ⟨#[]⟩ s _ (by omega) HP.out HS.out HTP.out).mono ?_
    rintro e w6 ⟨A, cc, rfl, hr, hk⟩
    have hfin := bel_call (geo_below hR) (geo_below (bel_call hG hk))
    have HR6 := Lib.hid hr
    have hcc : ((c : Int) + 1 != 1 + (c : Int)) = false := by rw [bne_eq_false_iff_eq]; omega
    clear hk hr g2 g3 g0 g1
    go_wp2
    go_loop [19, 20] (fun v i => ∃ (j : Nat) (t : ByteArray), j ≤ (c + 1) ∧ i = .int .i64 j ∧ v = .string t ∧ t = (⟨#[]⟩ : ByteArray).extract 0 (j * 16) ∧ t.size ≤ 64) (fun _ i => (c + 1) - (intOf i).toNat)
    case atStart => exact ⟨0, ⟨#[]⟩, Nat.zero_le _, rfl, rfl, (ext_zero _).symm, by decide⟩
    case round =>
      obtain ⟨j, t, hj, rfl, rfl, ht, hts⟩ := hrel
      have HTT := Lib.hid ht
      clear ht
      by_cases hlt : j < (c + 1)
      · obtain ⟨b, off, rfl, hbB, hc0⟩ := HR6.out.at_ (ops_cells hlt).1
        have hc1 : w6.cell? ⟨b, off + j * 3 + 1, none⟩ = _ := HR6.out.cell_ (ops_cells hlt).2.1
        have hc2 : w6.cell? ⟨b, off + j * 3 + 2, none⟩ = _ := HR6.out.cell_ (ops_cells hlt).2.2
        obtain ⟨x, hx⟩ : ∃ x, x = (opOf 1 (a : Int) ⟨#[]⟩ j).2.2 := ⟨_, rfl⟩
        rw [← hx] at hc2
        have hx2 : x = ⟨#[]⟩ := by rw [hx]; rfl
        have hst : t ++ x = (⟨#[]⟩ : ByteArray).extract 0 ((j + 1) * 16) := by rw [HTT.out, hx2, ext_nil, ext_nil, app_nil]
        have hxs : x.size ≤ 64 := by rw [hx2]; decide
        have hss : (t ++ x).size ≤ 64 := by rw [hst, ext_nil]; decide
        have HST := Lib.hid hst
        have HSS := Lib.hid hss
        clear hst hss hx hx2
        have hin : (j : Int) < (((c + 1) : Nat) : Int) := by omega
        have f1 : decide ((j : Int) < 1 + (c : Int)) = true := decide_eq_true (by omega)
        go_wp2
        go_round
        case rel => exact ⟨j + 1, t ++ x, by omega, by go_num, rfl, HST.out, HSS.out⟩
        case measure => simp [intOf]; omega
      · have f1 : decide ((j : Int) < 1 + (c : Int)) = false := decide_eq_false (by omega)
        have hjn : j = (c + 1) := by omega
        have htd : t = ⟨#[]⟩ := by rw [HTT.out, hjn]; exact ext_nil _
        clear hjn hlt
        subst htd
        go_wp2
        go_ret
        exact ⟨by rfl, hfin⟩
  · go_wp2_with fail
    refine (texts_some [data] (some ⟨w3.heap.size, 0, none⟩) 1 1 _ _ 1 (16 * (1 + c)) (w3.alloc (.cells #[.string data] 9)) (rdn_new w3 #[.string data] 9 _ rfl) rfl (by decide) rfl (by omega) (by omega) (by omega) (by omega)).mono ?_
    rintro e w4 ⟨gt, ct, Lt, -, rfl, -, -, -, -, hLl2, hLs2, hown2, hbt2⟩
    have hk4 := bel_call (bel_alloc (Below.refl w3.heap.size w3) _) hbt2
    replace hG := bel_call hG hk4
    obtain ⟨y, hy⟩ : ∃ y, Lt = [y] := List.length_eq_one_iff.1 hLl2
    have HDS : Hid (y.size = 16 * (1 + c)) := Lib.hid (hLs2 y (by rw [hy]; simp))
    have hcy : w4.cell? ⟨gt, 0, none⟩ = some (.string y) := (Rd.of_own hown2).cell_ (k := 0) (u := .string y) (by rw [hy]; rfl)
    have h01 : 0 < 1 := by omega
    clear hy hLl2 hLs2 hown2 hbt2 hk4 g0 g1
    have g0 := geo0 hG
    have g1 := geo1 hG
    go_wp2_with fail
    have hP : ReqP 2 (a : Int) (1 + (c : Int)) y := by unfold ReqP; rw [HDS.out]; omega
    obtain ⟨s, hs⟩ : ∃ s, s = layB (reqF 2 (a : Int) (1 + (c : Int)) y) := ⟨_, rfl⟩
    have HP := Lib.hid hP
    have HS := Lib.hid hs
    have HTP : Hid (TakeP N S 2 (a : Int) (1 + (c : Int))) := Lib.hid (by unfold TakeP; rw [HBZ.out]; exact .inr ⟨by decide, by omega⟩)
    clear hP hs
    refine (lay20_yes 2 (a : Int) (1 + (c : Int)) y s _ (by rw [HDS.out]; omega) HP.out HS.out).mono ?_
    rintro e w5 ⟨rfl, hk⟩
    replace hG := bel_call hG hk
    have g2 := geo0 hG
    have g3 := geo1 hG
    clear hk
    go_wp2_with fail
    refine (take_ops N S 2 (a : Int) (1 + (c : Int)) (c + 1) y s _ (by omega) HP.out HS.out HTP.out).mono ?_
    rintro e w6 ⟨A, cc, rfl, hr, hk⟩
    have hfin := bel_call (geo_below hR) (geo_below (bel_call hG hk))
    have HR6 := Lib.hid hr
    have hcc : ((c : Int) + 1 != 1 + (c : Int)) = false := by rw [bne_eq_false_iff_eq]; omega
    clear hk hr g2 g3 g0 g1
    go_wp2
    go_loop [19, 20] (fun v i => ∃ (j : Nat) (t : ByteArray), j ≤ (c + 1) ∧ i = .int .i64 j ∧ v = .string t ∧ t = (y).extract 0 (j * 16) ∧ t.size ≤ 64) (fun _ i => (c + 1) - (intOf i).toNat)
    case atStart => exact ⟨0, ⟨#[]⟩, Nat.zero_le _, rfl, rfl, (ext_zero _).symm, by decide⟩
    case round =>
      obtain ⟨j, t, hj, rfl, rfl, ht, hts⟩ := hrel
      have HTT := Lib.hid ht
      clear ht
      by_cases hlt : j < (c + 1)
      · obtain ⟨b, off, rfl, hbB, hc0⟩ := HR6.out.at_ (ops_cells hlt).1
        have hc1 : w6.cell? ⟨b, off + j * 3 + 1, none⟩ = _ := HR6.out.cell_ (ops_cells hlt).2.1
        have hc2 : w6.cell? ⟨b, off + j * 3 + 2, none⟩ = _ := HR6.out.cell_ (ops_cells hlt).2.2
        obtain ⟨x, hx⟩ : ∃ x, x = (opOf 2 (a : Int) y j).2.2 := ⟨_, rfl⟩
        rw [← hx] at hc2
        have hx2 : x = y.extract (j * 16) ((j + 1) * 16) := by rw [hx]; rfl
        have hst : t ++ x = y.extract 0 ((j + 1) * 16) := by rw [HTT.out, hx2, ext_step]
        have hxs : x.size ≤ 64 := by rw [hx2, ByteArray.size_extract, HDS.out]; omega
        have hss : (t ++ x).size ≤ 64 := by rw [hst]; exact ext_le (by rw [HDS.out]; omega)
        have HST := Lib.hid hst
        have HSS := Lib.hid hss
        clear hst hss hx hx2
        have hin : (j : Int) < (((c + 1) : Nat) : Int) := by omega
        have f1 : decide ((j : Int) < 1 + (c : Int)) = true := decide_eq_true (by omega)
        go_wp2
        go_round
        case rel => exact ⟨j + 1, t ++ x, by omega, by go_num, rfl, HST.out, HSS.out⟩
        case measure => simp [intOf]; omega
      · have f1 : decide ((j : Int) < 1 + (c : Int)) = false := decide_eq_false (by omega)
        have hjn : j = (c + 1) := by omega
        have htd : t = y := by rw [HTT.out, hjn]; exact ext_all (by rw [HDS.out]; omega)
        clear hjn hlt
        subst htd
        go_wp2
        go_ret
        exact ⟨by rfl, hfin⟩
  · go_wp2_with fail
    refine (pick20_int a S _ (by omega) (by omega) (by omega) (by omega)).mono ?_
    rintro e w' ⟨z, hz1, hz2, rfl, rfl⟩
    go_wp2_with fail
    have hP : ReqP 3 z 1 ⟨#[]⟩ := by unfold ReqP; have : (⟨#[]⟩ : ByteArray).size = 0 := rfl; omega
    obtain ⟨s, hs⟩ : ∃ s, s = layB (reqF 3 z 1 ⟨#[]⟩) := ⟨_, rfl⟩
    have HP := Lib.hid hP
    have HS := Lib.hid hs
    have HTP : Hid (TakeP N S 3 z 1) := Lib.hid (by unfold TakeP; rw [HBZ.out]; exact .inl ⟨rfl, HRZ.out, hz2⟩)
    clear hP hs
    refine (lay20_yes 3 z 1 ⟨#[]⟩ s _ (by decide) HP.out HS.out).mono ?_
    rintro e w5 ⟨rfl, hk⟩
    replace hG := bel_call hG hk
    have g2 := geo0 hG
    have g3 := geo1 hG
    clear hk
    go_wp2_with fail
    refine (take_ops N S 3 z 1 1 ⟨#[]⟩ s _ (by omega) HP.out HS.out HTP.out).mono ?_
    rintro e w6 ⟨A, cc, rfl, hr, hk⟩
    have hfin := bel_call (geo_below hR) (geo_below (bel_call hG hk))
    have HR6 := Lib.hid hr
    skip
    clear hk hr g2 g3 g0 g1
    go_wp2
    go_loop [19, 20] (fun v i => ∃ (j : Nat) (t : ByteArray), j ≤ 1 ∧ i = .int .i64 j ∧ v = .string t ∧ t = (⟨#[]⟩ : ByteArray).extract 0 (j * 16) ∧ t.size ≤ 64) (fun _ i => 1 - (intOf i).toNat)
    case atStart => exact ⟨0, ⟨#[]⟩, Nat.zero_le _, rfl, rfl, (ext_zero _).symm, by decide⟩
    case round =>
      obtain ⟨j, t, hj, rfl, rfl, ht, hts⟩ := hrel
      have HTT := Lib.hid ht
      clear ht
      by_cases hlt : j < 1
      · obtain ⟨b, off, rfl, hbB, hc0⟩ := HR6.out.at_ (ops_cells hlt).1
        have hc1 : w6.cell? ⟨b, off + j * 3 + 1, none⟩ = _ := HR6.out.cell_ (ops_cells hlt).2.1
        have hc2 : w6.cell? ⟨b, off + j * 3 + 2, none⟩ = _ := HR6.out.cell_ (ops_cells hlt).2.2
        obtain ⟨x, hx⟩ : ∃ x, x = (opOf 3 z ⟨#[]⟩ j).2.2 := ⟨_, rfl⟩
        rw [← hx] at hc2
        have hx2 : x = ⟨#[]⟩ := by rw [hx]; rfl
        have hst : t ++ x = (⟨#[]⟩ : ByteArray).extract 0 ((j + 1) * 16) := by rw [HTT.out, hx2, ext_nil, ext_nil, app_nil]
        have hxs : x.size ≤ 64 := by rw [hx2]; decide
        have hss : (t ++ x).size ≤ 64 := by rw [hst, ext_nil]; decide
        have HST := Lib.hid hst
        have HSS := Lib.hid hss
        clear hst hss hx hx2
        have hin : (j : Int) < ((1 : Nat) : Int) := by omega
        have f1 : decide ((j : Int) < 1) = true := decide_eq_true (by omega)
        go_wp2
        go_round
        case rel => exact ⟨j + 1, t ++ x, by omega, by go_num, rfl, HST.out, HSS.out⟩
        case measure => simp [intOf]; omega
      · have f1 : decide ((j : Int) < 1) = false := decide_eq_false (by omega)
        have hjn : j = 1 := by omega
        have htd : t = ⟨#[]⟩ := by rw [HTT.out, hjn]; exact ext_nil _
        clear hjn hlt
        subst htd
        go_wp2
        go_ret
        exact ⟨by rfl, hfin⟩
end Go.Proofs.Ytekjhhiamboffaa
