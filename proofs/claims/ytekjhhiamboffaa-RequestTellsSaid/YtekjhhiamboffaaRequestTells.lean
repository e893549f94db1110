/-
  RequestTells: package request and the document lay, take, hear and tell alike: for any raw values and lists. No condition.
-/
import Derived.Test.YtekjhhiamboffaaReqRefHear
import Derived.Test.YtekjhhiamboffaaReqRefTake
import Derived.Test.YtekjhhiamboffaaRequestWhole
namespace Go.Proofs.Ytekjhhiamboffaa
open Go.RowKit

/-- what Hear makes of a text -/
def HearR (s : ByteArray) (E : List Int) (D : List ByteArray) (ok : Bool) : Prop :=
  (TellP E D ∧ s = layB (tellF (E.zip D)) ∧ ok = true) ∨ (¬ IsAns s ∧ E = [] ∧ D = [] ∧ ok = false)
theorem hearR_one {s : ByteArray} {E E' : List Int} {D D' : List ByteArray} {ok ok' : Bool} (h : HearR s E D ok) (h' : HearR s E' D' ok') : E = E' ∧ D = D' ∧ ok = ok' := by
  rcases h with ⟨h1, h2, rfl⟩ | ⟨h1, rfl, rfl, rfl⟩
  · rcases h' with ⟨h3, h4, rfl⟩ | ⟨h3, _⟩
    · obtain ⟨rfl, rfl⟩ := ans_inj h1 h3 (by rw [← h2, h4])
      exact ⟨rfl, rfl, rfl⟩
    · exact absurd ⟨E, D, h1, h2⟩ h3
  · rcases h' with ⟨h3, h4, rfl⟩ | ⟨_, rfl, rfl, rfl⟩
    · exact absurd ⟨E', D', h3, h4⟩ h1
    · exact ⟨rfl, rfl, rfl⟩
theorem hearPost_form {s : ByteArray} {w w' : World} {e : Ending} (h : HearPost s w e w') :
    ∃ (E : List Int) (D : List ByteArray) (A B : Option Addr) (n ca cb : Nat) (ok : Bool), HearR s E D ok ∧ E.length = n ∧ D.length = n ∧ n ≤ 4 ∧ e = .returned (.tuple #[.slice A n ca, .slice B n cb, .bool ok]) ∧ Rd w' w'.heap.size A (intCells E) ∧ Rd w' w'.heap.size B (D.map Value.string) ∧ Below w.heap.size w w' := by
  rcases h with ⟨E, D, A, B, n, ca, cb, h1, h2, h3, h4, h5, h6, h7, h8⟩ | ⟨h1, h2, h3⟩
  · exact ⟨E, D, A, B, n, ca, cb, true, .inl ⟨h1, h2, rfl⟩, h3, h4, by have := h1.1; omega, h5, h6, h7, h8⟩
  · exact ⟨[], [], none, none, 0, 0, 0, false, .inr ⟨h1, rfl, rfl, rfl⟩, rfl, rfl, by decide, h2, Rd.nil _ _ _, Rd.nil _ _ _, h3⟩
theorem reqB_size {k a c : Int} {d : ByteArray} (hd : d.size ≤ 140737488351232) : (reqB k a c d).size ≤ 9223372036854775807 := by
  by_cases h : ReqP k a c d
  · have := (req_size (reqB_yes h).1).2
    omega
  · rw [(reqB_no h).1]; decide

set_option maxRecDepth 100000 in
set_option maxHeartbeats 4000000 in
theorem requestTells_walk (a0 b0 kind at_ count : Int) (data : ByteArray) (E : List Int) (A1 : Option Addr) (n1 c1 : Nat) (D : List ByteArray) (A2 : Option Addr) (n2 c2 : Nat) (s : ByteArray) (w : World) (_ha1 : -9223372036854775808 ≤ a0) (_ha2 : a0 ≤ 9223372036854775807) (_hb1 : -9223372036854775808 ≤ b0) (_hb2 : b0 ≤ 9223372036854775807)
    (_p1 : -9223372036854775808 ≤ kind) (_p2 : kind ≤ 9223372036854775807) (_q1 : -9223372036854775808 ≤ at_) (_q2 : at_ ≤ 9223372036854775807) (_r1 : -9223372036854775808 ≤ count) (_r2 : count ≤ 9223372036854775807) (hdata : data.size ≤ 140737488351232)
    (hr1 : Rd w w.heap.size A1 (intCells E)) (hl1 : E.length = n1) (_hnc1 : n1 ≤ c1) (_hc1 : c1 * 8 ≤ 140737488351232) (_hs1 : ∀ z ∈ E, -9223372036854775808 ≤ z ∧ z ≤ 9223372036854775807)
    (hr2 : Rd w w.heap.size A2 (D.map Value.string)) (hl2 : D.length = n2) (_hnc2 : n2 ≤ c2) (_hc2 : c2 * 16 ≤ 140737488351232) (hs2 : ∀ s ∈ D, s.size ≤ maxLen) (hsz : s.size ≤ 140737488351232) :
    Calls Try.prog 3 #[.agg #[.int .i64 a0, .int .i64 b0], .int .i64 kind, .int .i64 at_, .int .i64 count, .string data, .slice A1 n1 c1, .slice A2 n2 c2, .string s] w fun e w' => e = .returned (.bool true) ∧ Below w.heap.size w w' := by
  have HR1 := Lib.hid hr1
  have HR2 := Lib.hid hr2
  have HL1 := Lib.hid hl1
  have HL2 := Lib.hid hl2
  have HS2 : Hid (∀ s ∈ D, s.size ≤ 9223372036854775807) := Lib.hid (fun t ht => by have := hs2 t ht; unfold maxLen at this; omega)
  have HSZ : Hid (s.size ≤ 9223372036854775807) := Lib.hid (by omega)
  have HBZ : Hid ((reqB kind at_ count data).size ≤ 9223372036854775807) := Lib.hid (reqB_size hdata)
  clear hr1 hr2 hl1 hl2 hs2 hsz _ha1 _ha2 _hb1 _hb2 _p1 _p2 _q1 _q2 _r1 _r2 _hs1 _hnc1 _hnc2 _hc1 _hc2
  go_enter Try.func3, Try.ntmps3
  go_wp2_with fail
  refine (awake20_calls _).mono ?_
  rintro e w1 ⟨rfl, hk⟩
  have hG : Below (w.alloc (geoBox a0 b0)).heap.size (w.alloc (geoBox a0 b0)) w1 := hk
  clear hk
  go_wp2_with fail
  obtain ⟨b, hb⟩ : ∃ b, b = reqB kind at_ count data := ⟨_, rfl⟩
  obtain ⟨re, hre⟩ : ∃ e, e = reqE kind at_ count data := ⟨_, rfl⟩
  have hbz := HBZ.out
  rw [← hb] at hbz
  have HBB := Lib.hid hbz
  refine (lay20_calls kind at_ count data _ hdata).mono ?_
  rw [← hb, ← hre]
  rintro e w2 ⟨rfl, hk⟩
  replace hG := bel_call hG hk
  clear hk
  go_wp2_with fail
  refine (rlay20_calls kind at_ count data _ hdata).mono ?_
  rw [← hb, ← hre]
  rintro e w3 ⟨rfl, hk⟩
  replace hG := bel_call hG hk
  clear hk hb hre hbz HBZ
  go_wp2_with fail
  go_loopw [69] (fun i wr => ∃ k : Nat, k ≤ 2 ∧ i = .int .i64 k ∧ Below (w3.alloc (.cells #[.string s, .string b] 9)).heap.size (w3.alloc (.cells #[.string s, .string b] 9)) wr) (fun i _ => 2 - (intOf i).toNat)
  case atStart => exact ⟨0, by decide, rfl, Below.refl _ _⟩
  case round =>
    obtain ⟨k, hk2, rfl, hB⟩ := hrel
    have hGr := bel_call (bel_alloc hG _) hB
    by_cases hlt : k < 2
    · have hx : ∃ x : ByteArray, x.size ≤ 9223372036854775807 ∧ wr.cell? ⟨w3.heap.size, k, none⟩ = some (.string x) := by
        have hr := (rdn_new w3 #[.string s, .string b] 9 _ rfl).below hB
        rcases (show k = 0 ∨ k = 1 by omega) with rfl | rfl
        · have h := hr.cell_ (k := 0) (u := .string s) rfl
          exact ⟨s, HSZ.out, h⟩
        · have h := hr.cell_ (k := 1) (u := .string b) rfl
          exact ⟨b, HBB.out, h⟩
      obtain ⟨x, hxz, hxc⟩ := hx
      have HXZ := Lib.hid hxz
      have HB := Lib.hid hB
      have hkn : (k : Int) < 2 := by omega
      have g0 := geo0 hGr
      have g1 := geo1 hGr
      clear hxz hB
      go_wp2_with fail
      refine (take20_calls a0 b0 x _).mono ?_
      rintro e w4 ⟨L, A3, n3, c3, e3, ht1, hn3, hn4, rfl, hr3, hk⟩
      have HW := Lib.hid hk
      have HT1 := Lib.hid ht1
      have HR3 := Lib.hid hr3
      replace hGr := bel_call hGr hk
      have g2 := geo0 hGr
      have g3 := geo1 hGr
      clear hk ht1 hr3 g0 g1 hxc
      go_wp2_with fail
      refine (rtake20_calls a0 b0 x _ HXZ.out).mono ?_
      rintro e w5 ⟨L', A4, n4, c4, e4, ht2, hn3', hn4', rfl, hr4, hk⟩
      obtain ⟨rfl, rfl⟩ := takeR_one HT1.out ht2
      obtain rfl : n4 = n3 := by omega
      have HW5 := Lib.hid (bel_call HW.out hk)
      have HRA := Lib.hid (rdi_call HR3.out hk)
      have HRB := Lib.hid hr4
      have HN3 := Lib.hid hn3
      clear hk hr4 ht2 hn3 hn3' hn4' g2 g3 HT1 HR3 HW hGr
      go_wp2_with fail
      refine (hear_calls x _).mono ?_
      intro e w6 hp
      obtain ⟨Ea, Da, Ba, Bb, n6, ca, cb, ok, hh, hea, hda, hn6, rfl, hra, hrb, hk⟩ := hearPost_form hp
      have HW6 := Lib.hid (bel_call HW5.out hk)
      have HRA2 := Lib.hid (rdi_call HRA.out hk)
      have HRB2 := Lib.hid (rdi_call HRB.out hk)
      have HH := Lib.hid hh
      have HEA := Lib.hid hea
      have HDA := Lib.hid hda
      have HRE := Lib.hid hra
      have HRD := Lib.hid hrb
      clear hp hh hea hda hra hrb hk HRA HRB HW5
      go_wp2_with fail
      refine (rhear_calls x _ HXZ.out).mono ?_
      intro e w7 hp
      obtain ⟨Eb, Db, Bc, Bd, n7, cc, cd, ok', hh, heb, hdb, hn7, rfl, hra, hrb, hk⟩ := hearPost_form hp
      obtain ⟨rfl, rfl, rfl⟩ := hearR_one HH.out hh
      obtain rfl : n7 = n6 := by have := HEA.out; omega
      have HW7 := Lib.hid (bel_call HW6.out hk)
      have HRA3 := Lib.hid (rdi_call HRA2.out hk)
      have HRB3 := Lib.hid (rdi_call HRB2.out hk)
      have HRE2 := Lib.hid (rdi_call HRE.out hk)
      have HRD2 := Lib.hid (rdi_call HRD.out hk)
      have HRE3 := Lib.hid hra
      have HRD3 := Lib.hid hrb
      clear hp hh heb hdb hra hrb hk HRA2 HRB2 HRE HRD HW6 hn7
      go_wp2_with fail
      refine (ops_yes L _ _ _ _ _ _ HRA3.out HRB3.out HN3.out (by omega)).mono ?_
      rintro e w8 ⟨rfl, hk⟩
      have HW8 := Lib.hid (bel_call HW7.out hk)
      have HE4 := Lib.hid (rdi_call HRE2.out hk)
      have HE5 := Lib.hid (rdi_call HRE3.out hk)
      have HD4 := Lib.hid (rdi_call HRD2.out hk)
      have HD5 := Lib.hid (rdi_call HRD3.out hk)
      have q0 : (e3 != e3) = false := by simp
      clear hk HRA3 HRB3 HRE2 HRE3 HRD2 HRD3 HW7
      go_wp2_with fail
      refine (errs_calls Ea Ea _ _ _ _ _ _ _ HE4.out HE5.out HEA.out HEA.out (by omega) (by omega)).mono ?_
      rw [decide_eq_true (rfl : Ea = Ea)]
      rintro e w9 ⟨rfl, hk⟩
      have HW9 := Lib.hid (bel_call HW8.out hk)
      have HD6 := Lib.hid (rdi_call HD4.out hk)
      have HD7 := Lib.hid (rdi_call HD5.out hk)
      clear hk HE4 HE5 HD4 HD5 HW8
      go_wp2_with fail
      refine (texts20_calls Da Da _ _ _ _ _ _ _ HD6.out HD7.out HDA.out HDA.out (by omega) (by omega)).mono ?_
      rw [decide_eq_true (rfl : Da = Da)]
      rintro e w10 ⟨rfl, hk⟩
      have hW10 := bel_call HB.out (bel_call HW9.out hk)
      have q2 : (ok != ok) = false := by simp
      clear hk HD6 HD7 HW9
      go_wp2_with fail
      go_roundw
      case rel => exact ⟨k + 1, by omega, by go_num, hW10⟩
      case measure => simp [intOf]; omega
    · obtain rfl : k = 2 := by omega
      have hG3 : Below w.heap.size w wr := geo_below hGr
      obtain ⟨tb, htb⟩ : ∃ t, t = tellB E D := ⟨_, rfl⟩
      obtain ⟨te, hte⟩ : ∃ t, t = tellE E D := ⟨_, rfl⟩
      clear hlt hGr hB hG
      go_wp2_with fail
      refine (tell_calls E D A1 A2 n1 n2 c1 c2 wr (rdi_call HR1.out hG3) (rdi_call HR2.out hG3) HL1.out HL2.out HS2.out).mono ?_
      rw [← htb, ← hte]
      rintro e w4 ⟨rfl, hk⟩
      replace hG3 := bel_call hG3 hk
      clear hk
      go_wp2_with fail
      refine (rtell_calls E D A1 A2 n1 n2 c1 c2 w4 (rdi_call HR1.out hG3) (rdi_call HR2.out hG3) HL1.out HL2.out HS2.out).mono ?_
      rw [← htb, ← hte]
      rintro e w5 ⟨rfl, hk⟩
      replace hG3 := bel_call hG3 hk
      have q1 : (tb.toList == tb.toList) = true := by simp
      have q2 : (te == te) = true := by simp
      clear hk htb hte
      go_wp2
      go_ret
      exact ⟨by rfl, hG3⟩
end Go.Proofs.Ytekjhhiamboffaa
