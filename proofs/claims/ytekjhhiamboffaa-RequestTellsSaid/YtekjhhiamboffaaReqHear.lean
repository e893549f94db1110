/-
  The contract of package request's Hear: the answer that a text is, or none. Condition: the text's length is Go's.
-/
import Derived.Test.YtekjhhiamboffaaReqTell
namespace Go.Proofs.Ytekjhhiamboffaa
open Go.RowKit

/-- is a text an answer? -/
def IsAns (s : ByteArray) : Prop := ∃ E D, TellP E D ∧ s = layB (tellF (E.zip D))
/-- the first k numbers and texts of fields -/
def errsK (L : List Fld) (k : Nat) : List Int := (List.range k).map fun j => getN (L.getD (2 * j) (0, ⟨#[]⟩)).2.data.toList
def dataK (L : List Fld) (k : Nat) : List ByteArray := (List.range k).map fun j => (L.getD (2 * j + 1) (0, ⟨#[]⟩)).2
theorem errsK_snoc (L : List Fld) (k : Nat) : errsK L (k + 1) = errsK L k ++ [getN (L.getD (2 * k) (0, ⟨#[]⟩)).2.data.toList] := by simp [errsK, List.range_succ]
theorem dataK_snoc (L : List Fld) (k : Nat) : dataK L (k + 1) = dataK L k ++ [(L.getD (2 * k + 1) (0, ⟨#[]⟩)).2] := by simp [dataK, List.range_succ]
theorem errsK_length (L : List Fld) (k : Nat) : (errsK L k).length = k := by simp [errsK]
theorem dataK_length (L : List Fld) (k : Nat) : (dataK L k).length = k := by simp [dataK]
theorem fld_getD {L : List Fld} {k : Nat} (h : k < L.length) : L.getD k (0, ⟨#[]⟩) = L[k] := by rw [List.getD_eq_getElem?_getD, List.getElem?_eq_getElem h]; rfl
theorem tellF_at : ∀ (Z : List (Int × ByteArray)) (j : Nat) (h : j < Z.length), (tellF Z)[2 * j]? = some (5, numB Z[j].1) ∧ (tellF Z)[2 * j + 1]? = some (6, Z[j].2)
  | [], j, h => by simp at h
  | p :: Z, 0, _ => by simp [tellF]
  | p :: Z, j + 1, h => by
    have ih := tellF_at Z j (by simpa using h)
    have e : tellF (p :: Z) = (5, numB p.1) :: (6, p.2) :: tellF Z := by simp [tellF]
    rw [e, show 2 * (j + 1) = 2 * j + 1 + 1 by omega, List.getElem?_cons_succ, List.getElem?_cons_succ, List.getElem?_cons_succ, List.getElem?_cons_succ]
    simpa using ih
theorem ans_take {E : List Int} {D : List ByteArray} {s : ByteArray} (h : TellP E D) (hs : s = layB (tellF (E.zip D))) : takeF s.data.toList = tellF (E.zip D) ∧ takeE s.data.toList = 0 := by
  subst hs
  refine take_of_lay (tellF_ok h.2) ?_
  rw [tellF_length, List.length_zip]
  have := h.1
  omega
theorem zip_len {E : List Int} {D : List ByteArray} (h : TellP E D) : (E.zip D).length = E.length := by
  rw [List.length_zip]; have := h.1; omega
/-- what an answer's fields say again -/
theorem ans_again {E : List Int} {D : List ByteArray} (h : TellP E D) : errsK (tellF (E.zip D)) E.length = E ∧ dataK (tellF (E.zip D)) E.length = D ∧ ∀ j, j < E.length → getE ((tellF (E.zip D)).getD (2 * j) (0, ⟨#[]⟩)).2.data.toList = 0 := by
  have hl := zip_len h
  have key : ∀ j (h1 : j < E.length) (h2 : j < D.length), (tellF (E.zip D)).getD (2 * j) (0, ⟨#[]⟩) = (5, numB E[j]) ∧ (tellF (E.zip D)).getD (2 * j + 1) (0, ⟨#[]⟩) = (6, D[j]) ∧ okA (E[j], D[j]) = true := by
    intro j h1 h2
    have hj : j < (E.zip D).length := by omega
    obtain ⟨e1, e2⟩ := tellF_at (E.zip D) j hj
    have ez : (E.zip D)[j] = (E[j], D[j]) := by simp
    rw [ez] at e1 e2
    refine ⟨?_, ?_, h.2 _ ?_⟩
    · rw [List.getD_eq_getElem?_getD, e1]; rfl
    · rw [List.getD_eq_getElem?_getD, e2]; rfl
    · rw [← ez]; exact List.getElem_mem hj
  have hD := h.1.2.2
  refine ⟨?_, ?_, ?_⟩
  · apply List.ext_getElem (errsK_length _ _)
    intro j h1 h2
    obtain ⟨k1, -, k3⟩ := key j h2 (by omega)
    simp only [errsK, List.getElem_map, List.getElem_range, k1]
    exact (get_numB (okA_num k3)).1
  · apply List.ext_getElem (by rw [dataK_length, hD])
    intro j h1 h2
    obtain ⟨-, k2, -⟩ := key j (by omega) h2
    simp only [dataK, List.getElem_map, List.getElem_range, k2]
  · intro j hj
    obtain ⟨k1, -, k3⟩ := key j hj (by omega)
    rw [k1]
    exact (get_numB (okA_num k3)).2
/-- what an answer must be -/
theorem ans_iff {s : ByteArray} {n : Nat} (hn : (takeF s.data.toList).length = 2 * n) (h : IsAns s) :
    takeE s.data.toList = 0 ∧ (∀ j, j < n → getE ((takeF s.data.toList).getD (2 * j) (0, ⟨#[]⟩)).2.data.toList = 0) ∧ TellP (errsK (takeF s.data.toList) n) (dataK (takeF s.data.toList) n) ∧ layB (tellF ((errsK (takeF s.data.toList) n).zip (dataK (takeF s.data.toList) n))) = s := by
  obtain ⟨E, D, hP, hs⟩ := h
  obtain ⟨h1, h2⟩ := ans_take hP hs
  have hl : n = E.length := by
    rw [h1, tellF_length, zip_len hP] at hn
    omega
  obtain ⟨a1, a2, a3⟩ := ans_again hP
  subst hl
  rw [h1, a1, a2]
  exact ⟨h2, a3, hP, hs.symm⟩
theorem ans_even {s : ByteArray} (h : IsAns s) : takeE s.data.toList = 0 ∧ (takeF s.data.toList).length % 2 = 0 := by
  obtain ⟨E, D, hP, hs⟩ := h
  obtain ⟨h1, h2⟩ := ans_take hP hs
  refine ⟨h2, ?_⟩
  rw [h1, tellF_length]
  omega

/-- what Hear hands back -/
def HearPost (s : ByteArray) (w : World) (e : Ending) (w' : World) : Prop :=
  (∃ (E : List Int) (D : List ByteArray) (A B : Option Addr) (n ca cb : Nat), TellP E D ∧ s = layB (tellF (E.zip D)) ∧ E.length = n ∧ D.length = n ∧ e = .returned (.tuple #[.slice A n ca, .slice B n cb, .bool true]) ∧ Rd w' w'.heap.size A (intCells E) ∧ Rd w' w'.heap.size B (D.map Value.string) ∧ Below w.heap.size w w') ∨
  (¬ IsAns s ∧ e = .returned (.tuple #[.slice none 0 0, .slice none 0 0, .bool false]) ∧ Below w.heap.size w w')

set_option maxHeartbeats 1000000 in
theorem hear_few (s : ByteArray) (w : World) (h : takeE s.data.toList ≠ 0 ∨ (takeF s.data.toList).length % 2 ≠ 0) :
    Calls Try.prog 13 #[.string s] w (HearPost s w) := by
  have hno : ¬ IsAns s := fun h' => by
    obtain ⟨h1, h2⟩ := ans_even h'
    rcases h with h | h
    · exact h h1
    · exact h h2
  have HNO := Lib.hid hno
  obtain ⟨n, hn⟩ : ∃ n, n = (takeF s.data.toList).length := ⟨_, rfl⟩
  obtain ⟨er, her⟩ : ∃ er, er = takeE s.data.toList := ⟨_, rfl⟩
  rw [← hn, ← her] at h
  have HN := Lib.hid hn
  have HE := Lib.hid her
  have hq : (er != 0) = true ∨ ((er != 0) = false ∧ ((n : Int) % 2 != 0) = true) := by
    by_cases h0 : er = 0
    · refine .inr ⟨by rw [h0]; rfl, ?_⟩
      rw [bne_iff_ne]
      rcases h with h | h
      · exact absurd h0 h
      · omega
    · exact .inl (by rw [bne_iff_ne]; exact h0)
  clear hno hn her h
  rcases hq with hq | ⟨hq, hq2⟩
  all_goals
    go_enter Try.func13, Try.ntmps13
    go_wp2_with (go_at_call 38; (refine (take_calls s _).mono ?_); rw [← HN.out, ← HE.out]; rintro e w1 ⟨v, rfl, hown, hb⟩; obtain ⟨A, cc, rfl, -, -⟩ := own_form hown; clear hown)
    go_ret3
    exact .inr ⟨HNO.out, rfl, hb⟩

theorem errno_info : (Try.prog.info? 27).map (fun i => (i.zero, i.size, i.bytes)) = some (some (.int .i64 0), 1, 8) := by kernel_rfl
theorem string_info2 : (Try.prog.info? 9).map (fun i => (i.zero, i.size, i.bytes)) = some (some (.string ⟨#[]⟩), 1, 16) := by kernel_rfl

set_option maxRecDepth 100000 in
set_option maxHeartbeats 4000000 in
theorem hear_even (s : ByteArray) (w : World) (he : takeE s.data.toList = 0) (hn2 : (takeF s.data.toList).length % 2 = 0) :
    Calls Try.prog 13 #[.string s] w (HearPost s w) := by
  obtain ⟨iE, hiE, hzE, hsE, hbE⟩ := info_parts errno_info
  obtain ⟨iS, hiS, hzS, hsS, hbS⟩ := info_parts string_info2
  obtain ⟨L, hL⟩ : ∃ L, L = takeF s.data.toList := ⟨_, rfl⟩
  have hok := take_ok he
  rw [← hL] at hok hn2
  obtain ⟨hok1, hok2, h64⟩ := hok
  obtain ⟨h, hh⟩ : ∃ h, L.length = 2 * h := ⟨L.length / 2, by omega⟩
  have hans := fun (hA : IsAns s) => ans_iff (n := h) (by rw [← hL, hh]) hA
  rw [← hL] at hans
  obtain ⟨n, hn⟩ : ∃ n, n = L.length := ⟨_, rfl⟩
  have hev : ((n : Int) % 2 != 0) = false := by
    rw [bne_eq_false_iff_eq]; omega
  have hn64 : n ≤ 64 := by omega
  have HLn := Lib.hid hn
  have HLL := Lib.hid hL
  have HH := Lib.hid hh
  have HE := Lib.hid he
  have HANS := Lib.hid hans
  have HOK := Lib.hid hok2
  clear hn hL hh he hans hn2 hok1 hok2 h64
  go_enter Try.func13, Try.ntmps13
  go_wp2_with (go_at_call 38; (refine (take_calls s _).mono ?_); rw [← HLL.out, HE.out, ← HLn.out]; rintro e w1 ⟨v, rfl, hown, hb⟩; obtain ⟨A, cc, rfl, -, -⟩ := own_form hown; have HRL := Lib.hid (Rd.of_own hown); clear hown)
  go_loopw [7, 8, 9] (fun v u i wr => ∃ k x : Nat, x = 2 * k ∧ x ≤ n ∧ i = .int .i64 x ∧ (∀ j, j < k → getE (L.getD (2 * j) (0, ⟨#[]⟩)).2.data.toList = 0) ∧ wr.ownsRow w1.heap.size 27 1 v k (intCells (errsK L k)) ∧ wr.ownsRow w1.heap.size 9 1 u k ((dataK L k).map Value.string) ∧ Dis v u ∧ Below w1.heap.size w1 wr) (fun _ _ i _ => n - (intOf i).toNat)
  case atStart => exact ⟨0, 0, rfl, Nat.zero_le _, rfl, by simp, World.ownsRow_nil _ _ _ _, World.ownsRow_nil _ _ _ _, Dis.nil _, Below.refl _ _⟩
  case round =>
    obtain ⟨k, x, hx, hxn, rfl, hall, hov, hou, hdis, hbw⟩ := hrel
    have HX := Lib.hid hx
    have HALL := Lib.hid hall
    have HV := Lib.hid hov
    have HU := Lib.hid hou
    have HDS := Lib.hid hdis
    have hk32 : k ≤ 32 := by omega
    have hbsz := hbw.size
    clear hall hov hou hdis
    by_cases hlt : x < n
    · have hxl : x < L.length := by rw [← HLn.out]; exact hlt
      have hx1 : x + 1 < n := by have h1 := HH.out; have h2 := HLn.out; omega
      have hxl1 : x + 1 < L.length := by rw [← HLn.out]; exact hx1
      obtain ⟨b, off, rfl, hbB, hc0⟩ := (HRL.out.below hbw).at_ (fldCells_text hxl)
      have hcx : wr.cell? ⟨b, off + x * 2 + 1, none⟩ = some (.string L[x].2) := hc0
      have hd1 := ((HRL.out.below hbw).cell_ (fldCells_text hxl1))
      have hdx : w1.cell? ⟨b, off + (x + 1) * 2 + 1, none⟩ = some (.string L[x + 1].2) := HRL.out.cell_ (fldCells_text hxl1)
      have hes := errsK_snoc L k
      have hds := dataK_snoc L k
      rw [← hx, fld_getD hxl] at hes
      rw [← hx, fld_getD hxl1] at hds
      have hge : getE (L.getD (2 * k) (0, ⟨#[]⟩)).2.data.toList = getE L[x].2.data.toList := by rw [← hx, fld_getD hxl]
      obtain ⟨tx, htx⟩ : ∃ t, t = L[x].2 := ⟨_, rfl⟩
      obtain ⟨dx, hdx'⟩ : ∃ t, t = L[x + 1].2 := ⟨_, rfl⟩
      rw [← htx] at hcx hes hge
      rw [← hdx'] at hdx hds
      obtain ⟨nv, hnv⟩ : ∃ m, m = getN tx.data.toList := ⟨_, rfl⟩
      obtain ⟨er, her⟩ : ∃ m, m = getE tx.data.toList := ⟨_, rfl⟩
      rw [← hnv] at hes
      rw [← her] at hge
      have h0 := get_e tx.data.toList
      rw [← her] at h0
      have HNV := Lib.hid hnv
      have HER := Lib.hid her
      have HES := Lib.hid hes
      have HDSN := Lib.hid hds
      have HGE := Lib.hid hge
      have HDX := Lib.hid hdx
      clear hc0 hd1 hes hds hge hdx htx hdx' hnv her hx hxl hxl1
      rcases h0 with rfl | rfl
      · go_wp2_with (first
          | (go_at_call 39; (refine (get_calls tx _).mono ?_); rw [← HNV.out, ← HER.out]; rintro e w6 ⟨rfl, hk⟩; have hb6 : Below w1.heap.size w1 w6 := hbw.trans (hk.mono hbsz); have HV6 := Lib.hid (own_keep_below HV.out hk (Nat.le_refl _)); have HU6 := Lib.hid (own_keep_below HU.out hk (Nat.le_refl _)); have hb6z := hb6.size; clear hk)
          | (at_builtin; (refine wpList_append_rd_at rfl (.tmp 43) (.tmp 45) 24 rfl w1.heap.size 27 iE _ 1 8 Try.underlying24 hiE hzE hsE hbE rfl (by decide) _ k _ rfl (HV6.out.alloc _) ⟨w6.heap.size, 0, none⟩ 1 1 [.int .i64 nv] rfl rfl (newInts _ [.int .i64 nv] _) (by simp [Value.oneCell']) (by unfold maxLen; omega) (by omega) (by simp; omega) ?_); intro v3 w7 hown3 hg3 hat3; have hb7 : Below w1.heap.size w1 w7 := (bel_alloc hb6 _).grown hg3 (bel_alloc hb6 _).size (fun i hi => (HV6.out.lt i hi).1); have HU7 := Lib.hid (HDS.out.kept (HU6.out.alloc _) hg3); have HD7 := Lib.hid (HDS.out.moved (HU6.out.alloc _) hat3); have hcd7 := (hb7.cell (p := ⟨b, off + (x + 1) * 2 + 1, none⟩) hbB).trans HDX.out; have HV7 := Lib.hid hown3; have hb7z := hb7.size; clear hown3 hg3 hat3)
          | (at_builtin; (refine wpList_append_rd_at rfl (.tmp 47) (.tmp 54) 25 rfl w1.heap.size 9 iS _ 1 16 Try.underlying25 hiS hzS hsS hbS rfl (by decide) _ k _ rfl (HU7.out.alloc _) ⟨w7.heap.size, 0, none⟩ 1 1 [.string dx] rfl rfl (newCell _ _ _) (oneString _) (by unfold maxLen; omega) (by omega) (by simp; omega) ?_); intro v4 w8 hown4 hg4 hat4; have hb8 : Below w1.heap.size w1 w8 := (bel_alloc hb7 _).grown hg4 (bel_alloc hb7 _).size (fun i hi => (HU7.out.lt i hi).1); have HV8 := Lib.hid (HD7.out.symm.kept (HV7.out.alloc _) hg4); have HD8 := Lib.hid (HD7.out.symm.moved (HV7.out.alloc _) hat4); have HU8 := Lib.hid hown4; clear hown4 hg4 hat4))
        go_roundw
        case rel =>
          refine ⟨k + 1, x + 2, by have := HX.out; omega, by omega, by go_num, ?_, ?_, ?_, HD8.out.symm, hb8⟩
          · intro j hj
            rcases Nat.lt_succ_iff_lt_or_eq.1 hj with h | h
            · exact HALL.out j h
            · rw [h]; exact HGE.out
          · rw [HES.out, intCells_app]; exact HV8.out
          · rw [HDSN.out, List.map_append]; exact HU8.out
        case measure => simp [intOf]; omega
      · have hno : ¬ IsAns s := fun hA => by
          have h1 := (HANS.out hA).2.1 k (by have := HX.out; have := HH.out; have := HLn.out; omega)
          rw [HGE.out] at h1
          omega
        have HNO := Lib.hid hno
        clear hno
        go_wp2_with (go_at_call 39; (refine (get_calls tx _).mono ?_); rw [← HNV.out, ← HER.out]; rintro e w6 ⟨rfl, hk⟩; have hb6 : Below w1.heap.size w1 w6 := hbw.trans (hk.mono hbsz); clear hk)
        go_ret3
        exact .inr ⟨HNO.out, rfl, bel_call hb hb6⟩
    · have hlt2 : decide (x < n) = false := decide_eq_false hlt
      have hkh : k = h := by have := HX.out; have := HH.out; have := HLn.out; omega
      subst hkh
      obtain ⟨A2, c2, rfl, -, -⟩ := own_form HV.out
      obtain ⟨B2, c3, rfl, -, -⟩ := own_form HU.out
      have HRA := Lib.hid (Rd.of_own HV.out)
      have HRB := Lib.hid (Rd.of_own HU.out)
      obtain ⟨E, hE⟩ : ∃ E, E = errsK L k := ⟨_, rfl⟩
      obtain ⟨D, hD⟩ : ∃ D, D = dataK L k := ⟨_, rfl⟩
      have HEE := Lib.hid hE
      have HDD := Lib.hid hD
      have hEl : E.length = k := by rw [hE, errsK_length]
      have hDl : D.length = k := by rw [hD, dataK_length]
      have hDs : ∀ t ∈ D, t.size ≤ 9223372036854775807 := by
        intro t ht
        rw [hD] at ht
        obtain ⟨j, hj, rfl⟩ := List.mem_map.1 ht
        have hjk := List.mem_range.1 hj
        have hjl : 2 * j + 1 < L.length := by have := HH.out; omega
        rw [fld_getD hjl]
        have h400 := (okF_iff.1 (HOK.out _ (List.getElem_mem hjl))).2.2
        omega
      have HEL := Lib.hid hEl
      have HDL := Lib.hid hDl
      have HDSZ := Lib.hid hDs
      have hin : IsAns s → TellP E D ∧ layB (tellF (E.zip D)) = s := fun hA => by
        have h1 := (HANS.out hA).2.2
        rw [← HEE.out, ← HDD.out] at h1
        exact h1
      have HIN := Lib.hid hin
      clear hE hD hEl hDl hDs hin hlt hx
      by_cases hT : TellP E D
      · obtain ⟨sb, hsb⟩ : ∃ sb, sb = layB (tellF (E.zip D)) := ⟨_, rfl⟩
        have ht1 : tellB E D = sb := by rw [(tell_yes hT).1, hsb]
        have ht2 := (tell_yes hT).2
        have HT1 := Lib.hid ht1
        have HT2 := Lib.hid ht2
        by_cases hs : sb = s
        · have hfin : TellP E D ∧ s = layB (tellF (E.zip D)) := ⟨hT, by rw [← hs, hsb]⟩
          have HFIN := Lib.hid hfin
          subst hs
          clear hfin hT hsb ht1 ht2
          go_wp2_with (go_at_call 18; (refine (tell_calls E D A2 B2 k k c2 c3 _ (by rw [HEE.out]; exact HRA.out) (by rw [HDD.out]; exact HRB.out) HEL.out HDL.out HDSZ.out).mono ?_); rw [HT1.out, HT2.out]; rintro e w5 ⟨rfl, hk⟩; have HK5 := Lib.hid hk; clear hk)
          go_ret3
          exact .inl ⟨E, D, A2, B2, k, c2, c3, HFIN.out.1, HFIN.out.2, HEL.out, HDL.out, rfl, by rw [HEE.out]; exact rdi_call HRA.out HK5.out, by rw [HDD.out]; exact rdi_call HRB.out HK5.out, bel_call hb (hbw.trans (HK5.out.mono hbw.size))⟩
        · have hno : ¬ IsAns s := fun h => hs (by rw [hsb]; exact (HIN.out h).2)
          have HNO := Lib.hid hno
          have hne2 : (sb.toList == s.toList) = false := by
            rw [beq_eq_false_iff_ne]
            intro h
            rw [Lib.toList_data, Lib.toList_data] at h
            exact hs (ba_eq h)
          clear hno hT hsb hs ht1 ht2
          go_wp2_with (go_at_call 18; (refine (tell_calls E D A2 B2 k k c2 c3 _ (by rw [HEE.out]; exact HRA.out) (by rw [HDD.out]; exact HRB.out) HEL.out HDL.out HDSZ.out).mono ?_); rw [HT1.out, HT2.out]; rintro e w5 ⟨rfl, hk⟩; have HK5 := Lib.hid hk; clear hk)
          go_ret3
          exact .inr ⟨HNO.out, rfl, bel_call hb (hbw.trans (HK5.out.mono hbw.size))⟩
      · have hno : ¬ IsAns s := fun h => hT (HIN.out h).1
        have HNO := Lib.hid hno
        have ht1 := (tell_no hT).1
        have ht2 := (tell_no hT).2
        have HT1 := Lib.hid ht1
        have HT2 := Lib.hid ht2
        clear hno hT ht1 ht2
        go_wp2_with (go_at_call 18; (refine (tell_calls E D A2 B2 k k c2 c3 _ (by rw [HEE.out]; exact HRA.out) (by rw [HDD.out]; exact HRB.out) HEL.out HDL.out HDSZ.out).mono ?_); rw [HT1.out, HT2.out]; rintro e w5 ⟨rfl, hk⟩; have HK5 := Lib.hid hk; clear hk)
        go_ret3
        exact .inr ⟨HNO.out, rfl, bel_call hb (hbw.trans (HK5.out.mono hbw.size))⟩
theorem hear_calls (s : ByteArray) (w : World) : Calls Try.prog 13 #[.string s] w (HearPost s w) := by
  by_cases h : takeE s.data.toList ≠ 0 ∨ (takeF s.data.toList).length % 2 ≠ 0
  · exact hear_few s w h
  · exact hear_even s w (by omega) (by omega)
end Go.Proofs.Ytekjhhiamboffaa
