/-
  The contract of the document's Hear: the answer that a text is, or none. Condition: the text's length is Go's.
-/
import Derived.Test.YtekjhhiamboffaaAwake20
import Derived.Test.YtekjhhiamboffaaReqRefTell
namespace Go.Proofs.Ytekjhhiamboffaa
open Go.RowKit

set_option maxHeartbeats 1000000 in
theorem rhear_few (s : ByteArray) (w : World) (h : takeE s.data.toList ≠ 0) (hsz : s.size ≤ 9223372036854775807) :
    Calls Try.prog 14 #[.string s] w (HearPost s w) := by
  have hno : ¬ IsAns s := fun h' => h (ans_even h').1
  have HNO := Lib.hid hno
  obtain ⟨n, hn⟩ : ∃ n, n = (takeF s.data.toList).length := ⟨_, rfl⟩
  obtain ⟨er, her⟩ : ∃ er, er = takeE s.data.toList := ⟨_, rfl⟩
  rw [← her] at h
  have HN := Lib.hid hn
  have HE := Lib.hid her
  have hq : (er != 0) = true := by rw [bne_iff_ne]; exact h
  clear hno hn her h
  go_enter Try.func14, Try.ntmps14
  go_wp2_with (go_at_call 34; (refine (rtake_calls s _ hsz).mono ?_); rw [← HN.out, ← HE.out]; rintro e w1 ⟨v, rfl, hown, hb⟩; obtain ⟨A, cc, rfl, -, -⟩ := own_form hown; clear hown)
  go_ret3
  exact .inr ⟨HNO.out, rfl, hb⟩

set_option maxRecDepth 100000 in
set_option maxHeartbeats 4000000 in
theorem rhear_even (s : ByteArray) (w : World) (he : takeE s.data.toList = 0) (hsz : s.size ≤ 9223372036854775807) :
    Calls Try.prog 14 #[.string s] w (HearPost s w) := by
  obtain ⟨iE, hiE, hzE, hsE, hbE⟩ := info_parts errno_info
  obtain ⟨iS, hiS, hzS, hsS, hbS⟩ := info_parts string_info2
  obtain ⟨L, hL⟩ : ∃ L, L = takeF s.data.toList := ⟨_, rfl⟩
  have hok := take_ok he
  rw [← hL] at hok
  obtain ⟨hok1, hok2, h64⟩ := hok
  obtain ⟨h, hh⟩ : ∃ h, h = L.length / 2 := ⟨_, rfl⟩
  have hans : IsAns s → TellP (errsK L h) (dataK L h) ∧ layB (tellF ((errsK L h).zip (dataK L h))) = s := fun hA => by
    have h1 := (ans_even hA).2
    rw [← hL] at h1
    have h2 := (ans_iff (n := h) (by rw [← hL]; omega) hA).2.2
    rw [← hL] at h2
    exact h2
  obtain ⟨n, hn⟩ : ∃ n, n = L.length := ⟨_, rfl⟩
  have hn64 : n ≤ 64 := by omega
  have HLn := Lib.hid hn
  have HLL := Lib.hid hL
  have HH := Lib.hid hh
  have HE := Lib.hid he
  have HANS := Lib.hid hans
  have HOK := Lib.hid hok2
  clear hn hL hh he hans hok1 hok2 h64
  go_enter Try.func14, Try.ntmps14
  go_wp2_with (go_at_call 34; (refine (rtake_calls s _ hsz).mono ?_); rw [← HLL.out, HE.out, ← HLn.out]; rintro e w1 ⟨v, rfl, hown, hb⟩; obtain ⟨A, cc, rfl, -, -⟩ := own_form hown; have HRL := Lib.hid (Rd.of_own hown); clear hown)
  go_loopw [7, 8, 9] (fun v u i wr => ∃ k x : Nat, x = 2 * k ∧ x ≤ n ∧ i = .int .i64 x ∧ wr.ownsRow w1.heap.size 27 1 v k (intCells (errsK L k)) ∧ wr.ownsRow w1.heap.size 9 1 u k ((dataK L k).map Value.string) ∧ Dis v u ∧ Below w1.heap.size w1 wr) (fun _ _ i _ => n - (intOf i).toNat)
  case atStart => exact ⟨0, 0, rfl, Nat.zero_le _, rfl, World.ownsRow_nil _ _ _ _, World.ownsRow_nil _ _ _ _, Dis.nil _, Below.refl _ _⟩
  case round =>
    obtain ⟨k, x, hx, hxn, rfl, hov, hou, hdis, hbw⟩ := hrel
    have HX := Lib.hid hx
    have HV := Lib.hid hov
    have HU := Lib.hid hou
    have HDS := Lib.hid hdis
    have hk32 : k ≤ 32 := by omega
    have hbsz := hbw.size
    clear hov hou hdis
    by_cases hlt : x + 1 < n
    · have hx1 : x + 1 < n := hlt
      have hxl : x < L.length := by rw [← HLn.out]; omega
      have hx0 : x < n := by omega
      have hxt : decide ((x : Int) + 1 < (n : Int)) = true := decide_eq_true (by omega)
      have hxl1 : x + 1 < L.length := by rw [← HLn.out]; exact hx1
      obtain ⟨b, off, rfl, hbB, hc0⟩ := (HRL.out.below hbw).at_ (fldCells_text hxl)
      have hcx : wr.cell? ⟨b, off + x * 2 + 1, none⟩ = some (.string L[x].2) := hc0
      have hd1 := ((HRL.out.below hbw).cell_ (fldCells_text hxl1))
      have hdx : w1.cell? ⟨b, off + (x + 1) * 2 + 1, none⟩ = some (.string L[x + 1].2) := HRL.out.cell_ (fldCells_text hxl1)
      have hes := errsK_snoc L k
      have hds := dataK_snoc L k
      rw [← hx, fld_getD hxl] at hes
      rw [← hx, fld_getD hxl1] at hds
      obtain ⟨tx, htx⟩ : ∃ t, t = L[x].2 := ⟨_, rfl⟩
      obtain ⟨dx, hdx'⟩ : ∃ t, t = L[x + 1].2 := ⟨_, rfl⟩
      rw [← htx] at hcx hes
      rw [← hdx'] at hdx hds
      obtain ⟨nv, hnv⟩ : ∃ m, m = getN tx.data.toList := ⟨_, rfl⟩
      obtain ⟨er, her⟩ : ∃ m, m = getE tx.data.toList := ⟨_, rfl⟩
      rw [← hnv] at hes
      have HNV := Lib.hid hnv
      have HER := Lib.hid her
      have HES := Lib.hid hes
      have HDSN := Lib.hid hds
      have HDX := Lib.hid hdx
      clear hc0 hd1 hes hds hdx htx hdx' hnv her hx hxl hxl1
      go_wp2_with (first
        | (go_at_call 35; (refine (rget_calls tx _).mono ?_); rw [← HNV.out, ← HER.out]; rintro e w6 ⟨rfl, hk⟩; have hb6 : Below w1.heap.size w1 w6 := hbw.trans (hk.mono hbsz); have HV6 := Lib.hid (own_keep_below HV.out hk (Nat.le_refl _)); have HU6 := Lib.hid (own_keep_below HU.out hk (Nat.le_refl _)); have hb6z := hb6.size; clear hk)
        | (at_builtin; (refine wpList_append_rd_at rfl (.tmp 36) (.tmp 38) 24 rfl w1.heap.size 27 iE _ 1 8 Try.underlying24 hiE hzE hsE hbE rfl (by decide) _ k _ rfl (HV6.out.alloc _) ⟨w6.heap.size, 0, none⟩ 1 1 [.int .i64 nv] rfl rfl (newInts _ [.int .i64 nv] _) (by simp [Value.oneCell']) (by unfold maxLen; omega) (by omega) (by simp; omega) ?_); intro v3 w7 hown3 hg3 hat3; have hb7 : Below w1.heap.size w1 w7 := (bel_alloc hb6 _).grown hg3 (bel_alloc hb6 _).size (fun i hi => (HV6.out.lt i hi).1); have HU7 := Lib.hid (HDS.out.kept (HU6.out.alloc _) hg3); have HD7 := Lib.hid (HDS.out.moved (HU6.out.alloc _) hat3); have hcd7 := (hb7.cell (p := ⟨b, off + (x + 1) * 2 + 1, none⟩) hbB).trans HDX.out; have HV7 := Lib.hid hown3; have hb7z := hb7.size; clear hown3 hg3 hat3)
        | (at_builtin; (refine wpList_append_rd_at rfl (.tmp 40) (.tmp 47) 25 rfl w1.heap.size 9 iS _ 1 16 Try.underlying25 hiS hzS hsS hbS rfl (by decide) _ k _ rfl (HU7.out.alloc _) ⟨w7.heap.size, 0, none⟩ 1 1 [.string dx] rfl rfl (newCell _ _ _) (oneString _) (by unfold maxLen; omega) (by omega) (by simp; omega) ?_); intro v4 w8 hown4 hg4 hat4; have hb8 : Below w1.heap.size w1 w8 := (bel_alloc hb7 _).grown hg4 (bel_alloc hb7 _).size (fun i hi => (HU7.out.lt i hi).1); have HV8 := Lib.hid (HD7.out.symm.kept (HV7.out.alloc _) hg4); have HD8 := Lib.hid (HD7.out.symm.moved (HV7.out.alloc _) hat4); have HU8 := Lib.hid hown4; clear hown4 hg4 hat4))
      go_roundw
      case rel =>
        refine ⟨k + 1, x + 2, by have := HX.out; omega, by omega, by go_num, ?_, ?_, HD8.out.symm, hb8⟩
        · rw [HES.out, intCells_app]; exact HV8.out
        · rw [HDSN.out, List.map_append]; exact HU8.out
      case measure => simp [intOf]; omega
    · have hlt2 : decide ((x : Int) + 1 < (n : Int)) = false := decide_eq_false (by omega)
      have hkh : k = h := by have := HX.out; have := HH.out; have := HLn.out; omega
      subst hkh
      obtain ⟨A2, c2, rfl, -, -⟩ := own_form HV.out
      obtain ⟨B2, c3, rfl, -, -⟩ := own_form HU.out
      have HRA := Lib.hid (Rd.of_own HV.out)
      have HRB := Lib.hid (Rd.of_own HU.out)
      obtain ⟨E, hE⟩ : ∃ E, E = errsK L k := ⟨_, rfl⟩
      obtain ⟨D, hD⟩ : ∃ D, D = dataK L k := ⟨_, rfl⟩
      have HEE := Lib.hid hE
      have HDD := Lib.hid hD
      have hEl : E.length = k := by rw [hE, errsK_length]
      have hDl : D.length = k := by rw [hD, dataK_length]
      have hDs : ∀ t ∈ D, t.size ≤ 9223372036854775807 := by
        intro t ht
        rw [hD] at ht
        obtain ⟨j, hj, rfl⟩ := List.mem_map.1 ht
        have hjk := List.mem_range.1 hj
        have hjl : 2 * j + 1 < L.length := by have := HX.out; have := HLn.out; omega
        rw [fld_getD hjl]
        have h400 := (okF_iff.1 (HOK.out _ (List.getElem_mem hjl))).2.2
        omega
      have HEL := Lib.hid hEl
      have HDL := Lib.hid hDl
      have HDSZ := Lib.hid hDs
      have hin : IsAns s → TellP E D ∧ layB (tellF (E.zip D)) = s := fun hA => by
        have h1 := HANS.out hA
        rw [← HEE.out, ← HDD.out] at h1
        exact h1
      have HIN := Lib.hid hin
      clear hE hD hEl hDl hDs hin hlt hx
      by_cases hT : TellP E D
      · obtain ⟨sb, hsb⟩ : ∃ sb, sb = layB (tellF (E.zip D)) := ⟨_, rfl⟩
        have ht1 : tellB E D = sb := by rw [(tell_yes hT).1, hsb]
        have ht2 := (tell_yes hT).2
        have HT1 := Lib.hid ht1
        have HT2 := Lib.hid ht2
        by_cases hs : sb = s
        · have hfin : TellP E D ∧ s = layB (tellF (E.zip D)) := ⟨hT, by rw [← hs, hsb]⟩
          have HFIN := Lib.hid hfin
          subst hs
          clear hfin hT hsb ht1 ht2
          go_wp2_with (go_at_call 19; (refine (rtell_calls E D A2 B2 k k c2 c3 _ (by rw [HEE.out]; exact HRA.out) (by rw [HDD.out]; exact HRB.out) HEL.out HDL.out HDSZ.out).mono ?_); rw [HT1.out, HT2.out]; rintro e w5 ⟨rfl, hk⟩; have HK5 := Lib.hid hk; clear hk)
          go_ret3
          exact .inl ⟨E, D, A2, B2, k, c2, c3, HFIN.out.1, HFIN.out.2, HEL.out, HDL.out, rfl, by rw [HEE.out]; exact rdi_call HRA.out HK5.out, by rw [HDD.out]; exact rdi_call HRB.out HK5.out, bel_call hb (hbw.trans (HK5.out.mono hbw.size))⟩
        · have hno : ¬ IsAns s := fun h => hs (by rw [hsb]; exact (HIN.out h).2)
          have HNO := Lib.hid hno
          have hne2 : (sb.toList == s.toList) = false := by
            rw [beq_eq_false_iff_ne]
            intro h
            rw [Lib.toList_data, Lib.toList_data] at h
            exact hs (ba_eq h)
          clear hno hT hsb hs ht1 ht2
          go_wp2_with (go_at_call 19; (refine (rtell_calls E D A2 B2 k k c2 c3 _ (by rw [HEE.out]; exact HRA.out) (by rw [HDD.out]; exact HRB.out) HEL.out HDL.out HDSZ.out).mono ?_); rw [HT1.out, HT2.out]; rintro e w5 ⟨rfl, hk⟩; have HK5 := Lib.hid hk; clear hk)
          go_ret3
          exact .inr ⟨HNO.out, rfl, bel_call hb (hbw.trans (HK5.out.mono hbw.size))⟩
      · have hno : ¬ IsAns s := fun h => hT (HIN.out h).1
        have HNO := Lib.hid hno
        have ht1 := (tell_no hT).1
        have ht2 := (tell_no hT).2
        have HT1 := Lib.hid ht1
        have HT2 := Lib.hid ht2
        clear hno hT ht1 ht2
        go_wp2_with (go_at_call 19; (refine (rtell_calls E D A2 B2 k k c2 c3 _ (by rw [HEE.out]; exact HRA.out) (by rw [HDD.out]; exact HRB.out) HEL.out HDL.out HDSZ.out).mono ?_); rw [HT1.out, HT2.out]; rintro e w5 ⟨rfl, hk⟩; have HK5 := Lib.hid hk; clear hk)
        go_ret3
        exact .inr ⟨HNO.out, rfl, bel_call hb (hbw.trans (HK5.out.mono hbw.size))⟩
theorem rhear_calls (s : ByteArray) (w : World) (hsz : s.size ≤ 9223372036854775807) : Calls Try.prog 14 #[.string s] w (HearPost s w) := by
  by_cases h : takeE s.data.toList ≠ 0
  · exact rhear_few s w h hsz
  · exact rhear_even s w (by omega) hsz
end Go.Proofs.Ytekjhhiamboffaa
