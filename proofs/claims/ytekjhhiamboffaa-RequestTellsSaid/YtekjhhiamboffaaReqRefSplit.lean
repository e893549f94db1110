/-
  The contract of the document's Split, for runs that there are and for such as go beyond the end. Condition: the count is one to four, the first block's number is not negative.
-/
import Derived.Test.YtekjhhiamboffaaReqTake
namespace Go.Proofs.Ytekjhhiamboffaa
open Go.RowKit

set_option maxHeartbeats 1000000 in
theorem rsplit_no (N S a c : Int) (w : World) (a1 : 0 ≤ a) (a2 : a ≤ 1099511627776) (c1 : 1 ≤ c) (c2 : c ≤ 4) (h : blocksZ N S < a + c) :
    Calls Try.prog 37 #[.agg #[.int .i64 N, .int .i64 S], .int .i64 a, .int .i64 c] w fun e w' => e = .returned (.tuple #[.slice none 0 0, .int .i64 50]) ∧ Below w.heap.size w w' := by
  obtain ⟨b1, b2⟩ := blocksZ_bd N S
  obtain ⟨T, hT⟩ : ∃ T, T = blocksZ N S := ⟨_, rfl⟩
  rw [← hT] at b1 b2 h
  have HT := Lib.hid hT
  have d1 : decide (c < 1) = false := decide_eq_false (by omega)
  have d2 : decide (4 < c) = false := decide_eq_false (by omega)
  have d3 : decide (a < 0) = false := decide_eq_false (by omega)
  have hq : decide (T ≤ a) = true ∨ (decide (T ≤ a) = false ∧ decide (T - a < c) = true) := by
    by_cases h1 : T ≤ a
    · exact .inl (decide_eq_true h1)
    · exact .inr ⟨decide_eq_false h1, decide_eq_true (by omega)⟩
  clear hT h
  rcases hq with q1 | ⟨q1, q2⟩
  all_goals
    go_enter Try.func37, Try.ntmps37
    go_wp2_with (go_at_call 22; (refine (rblocks_calls N S _).mono ?_); rw [← HT.out]; rintro e w1 ⟨rfl, hk⟩; have hG : Below (w.alloc (geoBox N S)).heap.size (w.alloc (geoBox N S)) w1 := hk; clear hk)
    go_ret2
    exact ⟨rfl, geo_below hG⟩

theorem rof_n (N S a q r : Nat) (w : World) (hq : q = a / (N - 1)) (hr : r = a % (N - 1)) (h1 : 3 ≤ N) (h2 : N ≤ 6) (h3 : 1 ≤ S) (h4 : S ≤ 8) (b2 : (a : Int) < (S : Int) * ((N : Int) - 1)) :
    Calls Try.prog 47 #[.agg #[.int .i64 N, .int .i64 S], .int .i64 a] w fun e w' => ∃ d : Int, e = .returned (.tuple #[.agg #[.int .i64 q, .int .i64 r, .int .i64 d], .int .i64 0]) ∧ Below w.heap.size w w' := by
  refine (rof_yes N S a w (by omega) (by omega) (by omega) (by omega) (by omega) b2).mono ?_
  rintro e w' ⟨rfl, hk⟩
  refine ⟨((a : Int) % ((N : Int) - 1) + (a : Int) / ((N : Int) - 1)) % (N : Int), ?_, hk⟩
  have e1 : (N : Int) - 1 = ((N - 1 : Nat) : Int) := by omega
  rw [e1, hq, hr, Int.natCast_ediv, Int.natCast_emod]
theorem rof_i (N S a q r : Nat) (b : Int) (w : World) (hb : b = a) (hq : q = a / (N - 1)) (hr : r = a % (N - 1)) (h1 : 3 ≤ N) (h2 : N ≤ 6) (h3 : 1 ≤ S) (h4 : S ≤ 8) (b2 : (a : Int) < (S : Int) * ((N : Int) - 1)) :
    Calls Try.prog 47 #[.agg #[.int .i64 N, .int .i64 S], .int .i64 b] w fun e w' => ∃ d : Int, e = .returned (.tuple #[.agg #[.int .i64 q, .int .i64 r, .int .i64 d], .int .i64 0]) ∧ Below w.heap.size w w' := by
  subst hb
  exact rof_n N S a q r w hq hr h1 h2 h3 h4 b2
theorem own_drewN06 {w : World} {base n size : Nat} {e : TypeId} {v : Value} {xs : List Value} (h : w.ownsRow base e size v n xs) (k : Nat) : (w.drewN k).ownsRow base e size v n xs := own_keep_below h (below_drewN (Below.refl w.heap.size w) k) (Nat.le_refl _)
theorem drewN_size (w : World) (o : Obj) {n : Nat} : ((w.alloc o).drewN n).heap.size = w.heap.size + 1 := by simp
theorem pc_first {w : World} {base g n cap : Nat} {e : TypeId} {M : List Pc} {ps pc pn : Nat} (h : w.ownsRow base e 3 (.slice (some ⟨g, 0, none⟩) n cap) n (pcCells (M ++ [(ps, pc, pn)]))) (hn : n = M.length + 1) :
    w.cell? ⟨g, M.length * 3, none⟩ = some (.int .i64 (ps : Int)) := by
  rw [h.cellAt _ (by omega), pcCells_append, List.getElem?_append_right (by rw [pcCells_length]; omega), pcCells_length]
  simp [pcCells]

set_option maxRecDepth 100000 in
set_option maxHeartbeats 4000000 in
theorem rsplit_nat (N S a c T : Nat) (w : World) (h1 : 3 ≤ N) (h2 : N ≤ 6) (h3 : 1 ≤ S) (h4 : S ≤ 8) (hT : (T : Int) = (S : Int) * ((N : Int) - 1)) (c1 : 1 ≤ c) (c2 : c ≤ 4) (h : a + c ≤ T) (hT40 : T ≤ 40) :
    Calls Try.prog 37 #[.agg #[.int .i64 N, .int .i64 S], .int .i64 a, .int .i64 c] w fun e w' => ∃ v, e = .returned (.tuple #[v, .int .i64 0]) ∧ Below w.heap.size w w' := by
  obtain ⟨iP, hiP, hzP, hsP, hbP⟩ := info_parts pc_info
  have hB : blocksZ N S = (T : Int) := by
    unfold blocksZ
    rw [if_pos (right_iff.2 ⟨by omega, by omega, by omega, by omega⟩), hT]
  have HB := Lib.hid hB
  have HT := Lib.hid hT
  have d1 : decide ((c : Int) < 1) = false := decide_eq_false (by omega)
  have d2 : decide (4 < (c : Int)) = false := decide_eq_false (by omega)
  have d3 : decide ((a : Int) < 0) = false := decide_eq_false (by omega)
  have d4 : decide (T ≤ a) = false := decide_eq_false (by omega)
  have d5 : decide ((T : Int) - (a : Int) < (c : Int)) = false := decide_eq_false (by omega)
  clear hT hB
  go_enter Try.func37, Try.ntmps37
  go_wp2_with (go_at_call 22; (refine (rblocks_calls N S _).mono ?_); rw [HB.out]; rintro e w1 ⟨rfl, hk⟩; have hG : Below (w.alloc (geoBox N S)).heap.size (w.alloc (geoBox N S)) w1 := hk; clear hk)
  go_loopw [9, 10] (fun v i wr => ∃ (j : Nat) (L : List Pc), j ≤ c ∧ i = .int .i64 j ∧ L.length ≤ j ∧ (∀ p ∈ L, p.2.2 ≤ j) ∧ wr.ownsRow (w.alloc (geoBox N S)).heap.size 79 3 v L.length (pcCells L) ∧ Below (w.alloc (geoBox N S)).heap.size (w.alloc (geoBox N S)) wr) (fun _ i _ => c - (intOf i).toNat)
  case atStart => exact ⟨0, [], by omega, rfl, by simp, by simp, World.ownsRow_nil _ _ _ _, hG⟩
  case round =>
    clear hG
    obtain ⟨j, L, hj, rfl, hLj, hpj, hown, hG⟩ := hrel
    have g0 := geo0 hG
    have g1 := geo1 hG
    have HO := Lib.hid hown
    have HPJ := Lib.hid hpj
    have hbsz := hG.size
    clear hown hpj
    by_cases hlt : j < c
    · obtain ⟨q, hq⟩ : ∃ q, q = (a + j) / (N - 1) := ⟨_, rfl⟩
      obtain ⟨r, hr⟩ : ∃ r, r = (a + j) % (N - 1) := ⟨_, rfl⟩
      have HQ := Lib.hid hq
      have HR := Lib.hid hr
      have hin : ((a + j : Nat) : Int) < (S : Int) * ((N : Int) - 1) := by rw [← HT.out]; omega
      have HIN := Lib.hid hin
      clear hq hr hin
      rcases List.eq_nil_or_concat L with hL | ⟨M, p, hL⟩
      · subst hL
        have ho0 := HO.out
        obtain ⟨A0, cA, hv0, -, -⟩ := own_form ho0
        subst hv0
        have ho1 : wr.ownsRow (w.alloc (geoBox N S)).heap.size 79 3 (.slice A0 0 cA) 0 [] := ho0
        have HOO := Lib.hid ho1
        clear HO ho0 ho1
        have HO := HOO
        clear HOO
        go_wp2_with (go_at_call 47; (refine (rof_i N S (a + j) q r _ _ (by omega) HQ.out HR.out h1 h2 h3 h4 HIN.out).mono ?_); rintro e w5 ⟨d, rfl, hk⟩; have HO5 := Lib.hid (own_keep_below HO.out hk (Nat.le_refl _)); have hG5 := bel_call hG hk; have hG5z := hG5.size; skip; clear hk)
        go_quiet (fail)
        go_wp2_with (at_builtin; (refine wpList_append_rd rfl (.tmp 74) (.tmp 80) 63 rfl (w.alloc (geoBox N S)).heap.size 79 iP _ 3 24 Try.underlying63 hiP hzP hsP hbP rfl (by decide) _ _ _ rfl (World.ownsRow.alloc (own_drewN06 (HO5.out.alloc _) nq) _) _ (some ⟨w5.heap.size + 1, 0, none⟩) 1 1 [.int .i64 (q : Int), .int .i64 (r : Int), .int .i64 1] rfl (rdn_new _ #[.int .i64 (q : Int), .int .i64 (r : Int), .int .i64 1] 79 _ (drewN_size _ _)) rfl (by simp [Value.oneCell']) (by unfold maxLen; omega) (by omega) (bel_alloc (below_drewN (bel_alloc hG5 _) nq) _).size ?_); intro v3 w6 hown3 hg3; have hG6 := (bel_alloc (below_drewN (bel_alloc hG5 (placeBox q r d)) nq) _).grown hg3 (bel_alloc (below_drewN (bel_alloc hG5 _) nq) _).size (fun i hi => (HO5.out.lt i hi).1); have HO6 := Lib.hid hown3; clear hown3 hg3)
        go_roundw
        case rel => exact ⟨j + 1, [(q, r, 1)], by omega, by go_num, by simp, by intro z hz; rw [List.mem_singleton.1 hz]; exact Nat.succ_le_succ (Nat.zero_le _), HO6.out, hG6⟩
        case measure => simp [intOf]; omega
      · obtain ⟨ps, pc, pn⟩ := p
        have hL2 : L = M ++ [(ps, pc, pn)] := by rw [hL, List.concat_eq_append]
        subst hL2
        have hlen : (M ++ [(ps, pc, pn)]).length = M.length + 1 := by rw [List.length_append]; rfl
        have hpn : pn ≤ j := HPJ.out (ps, pc, pn) (by simp)
        have ho := HO.out
        obtain ⟨nn, hnn⟩ : ∃ nn, nn = M.length + 1 := ⟨_, rfl⟩
        rw [hlen, ← hnn] at ho
        rw [hlen] at hLj
        have hsub : IntKind.i64.wrap ((nn : Int) - 1) = (M.length : Int) := by rw [show (nn : Int) - 1 = (M.length : Int) by omega]; exact IntWalk.i64_in _ (by omega)
        have hsub2 : (nn : Int) - 1 = (M.length : Int) := by omega
        have hmn : (M.length : Int) < (nn : Int) := by omega
        have hnn4 : nn ≤ 4 := by omega
        have HNN := Lib.hid hnn
        obtain ⟨g, cc, rfl, hg1, hg2, hcc1, hcc2⟩ := own_some ho (by omega)
        have HOO := Lib.hid ho
        have HLEN := Lib.hid hlen
        clear HO ho hlen hL hnn
        have HO := HOO
        clear HOO
        by_cases hqq : ps = q
        · subst hqq
          go_wp2_with (go_at_call 47; (refine (rof_i N S (a + j) ps r _ _ (by omega) HQ.out HR.out h1 h2 h3 h4 HIN.out).mono ?_); rintro e w5 ⟨d, rfl, hk⟩; have HO5 := Lib.hid (own_keep_below HO.out hk (Nat.le_refl _)); have hG5 := bel_call hG hk; have hG5z := hG5.size; have hpf := pc_first (HO5.out.alloc (.cells #[.int .i64 (ps : Int), .int .i64 (r : Int), .int .i64 d] 73)) HNN.out; obtain ⟨hpl, hpz⟩ := pc_last (HO5.out.alloc (.cells #[.int .i64 (ps : Int), .int .i64 (r : Int), .int .i64 d] 73)) HNN.out; clear hk)
          go_quiet (fail)
          go_wp2
          go_roundw
          case rel =>
            have h1 := pc_stored (own_drewN06 (HO5.out.alloc (.cells #[.int .i64 (ps : Int), .int .i64 (r : Int), .int .i64 d] 73)) nq) ((pn : Int) + 1) (by omega)
            refine ⟨j + 1, M ++ [(ps, pc, pn + 1)], by omega, by go_num, by rw [List.length_append, List.length_singleton]; omega, ?_, ?_, (below_drewN (bel_alloc hG5 _) nq).setCell (p := ⟨g, M.length * 3 + 2, none⟩) hg1 _⟩
            · intro z hz
              rcases List.mem_append.1 hz with h | h
              · exact Nat.le_succ_of_le (HPJ.out z (List.mem_append_left _ h))
              · rw [List.mem_singleton.1 h]; exact Nat.succ_le_succ hpn
            · rw [List.length_append, List.length_singleton, ← HNN.out]; exact h1
          case measure => simp [intOf]; omega
        · have hne : ((ps : Int) == (q : Int)) = false := by rw [beq_eq_false_iff_ne]; omega
          clear hqq
          go_wp2_with (go_at_call 47; (refine (rof_i N S (a + j) q r _ _ (by omega) HQ.out HR.out h1 h2 h3 h4 HIN.out).mono ?_); rintro e w5 ⟨d, rfl, hk⟩; have HO5 := Lib.hid (own_keep_below HO.out hk (Nat.le_refl _)); have hG5 := bel_call hG hk; have hG5z := hG5.size; have hpf := pc_first (HO5.out.alloc (.cells #[.int .i64 (q : Int), .int .i64 (r : Int), .int .i64 d] 73)) HNN.out; clear hk)
          go_quiet (fail)
          go_wp2_with (at_builtin; (refine wpList_append_rd rfl (.tmp 74) (.tmp 80) 63 rfl (w.alloc (geoBox N S)).heap.size 79 iP _ 3 24 Try.underlying63 hiP hzP hsP hbP rfl (by decide) _ _ _ rfl (World.ownsRow.alloc (own_drewN06 (HO5.out.alloc _) nq) _) _ (some ⟨w5.heap.size + 1, 0, none⟩) 1 1 [.int .i64 (q : Int), .int .i64 (r : Int), .int .i64 1] rfl (rdn_new _ #[.int .i64 (q : Int), .int .i64 (r : Int), .int .i64 1] 79 _ (drewN_size _ _)) rfl (by simp [Value.oneCell']) (by unfold maxLen; omega) (by omega) (bel_alloc (below_drewN (bel_alloc hG5 _) nq) _).size ?_); intro v3 w6 hown3 hg3; have hG6 := (bel_alloc (below_drewN (bel_alloc hG5 (placeBox q r d)) nq) _).grown hg3 (bel_alloc (below_drewN (bel_alloc hG5 _) nq) _).size (fun i hi => (HO5.out.lt i hi).1); have HO6 := Lib.hid hown3; clear hown3 hg3)
          go_roundw
          case rel =>
            refine ⟨j + 1, M ++ [(ps, pc, pn)] ++ [(q, r, 1)], by omega, by go_num, by rw [List.length_append, HLEN.out]; simp; omega, ?_, ?_, hG6⟩
            · intro z hz
              rcases List.mem_append.1 hz with h | h
              · exact Nat.le_succ_of_le (HPJ.out z h)
              · rw [List.mem_singleton.1 h]; exact Nat.succ_le_succ (Nat.zero_le _)
            · rw [List.length_append, HLEN.out, pcCells_append, ← HNN.out]; exact HO6.out
          case measure => simp [intOf]; omega
    · have hlt2 : decide (j < c) = false := decide_eq_false hlt
      go_wp2
      go_ret2
      exact ⟨_, rfl, geo_below hG⟩
theorem rsplit_yes (N S a c : Int) (w : World) (a1 : 0 ≤ a) (c1 : 1 ≤ c) (c2 : c ≤ 4) (h : a + c ≤ blocksZ N S) :
    Calls Try.prog 37 #[.agg #[.int .i64 N, .int .i64 S], .int .i64 a, .int .i64 c] w fun e w' => ∃ v, e = .returned (.tuple #[v, .int .i64 0]) ∧ Below w.heap.size w w' := by
  have hbd := blocksZ_bd N S
  by_cases hr : rightZ N S = true
  · have hB : blocksZ N S = S * (N - 1) := by unfold blocksZ; rw [if_pos hr]
    obtain ⟨h1, h2, h3, h4⟩ := right_iff.1 hr
    obtain ⟨T, hT⟩ := Int.eq_ofNat_of_zero_le hbd.1
    obtain ⟨n, rfl⟩ := Int.eq_ofNat_of_zero_le (show 0 ≤ N by omega)
    obtain ⟨s, rfl⟩ := Int.eq_ofNat_of_zero_le (show 0 ≤ S by omega)
    obtain ⟨x, rfl⟩ := Int.eq_ofNat_of_zero_le a1
    obtain ⟨k, rfl⟩ := Int.eq_ofNat_of_zero_le (show 0 ≤ c by omega)
    exact rsplit_nat n s x k T w (by omega) (by omega) (by omega) (by omega) (by rw [← hT, hB]) (by omega) (by omega) (by omega) (by omega)
  · have hB : blocksZ N S = 0 := by unfold blocksZ; rw [if_neg hr]
    omega
end Go.Proofs.Ytekjhhiamboffaa
