/-
  The contracts of Take of a request, the program's and the document's, in one form. Condition: the text's length is Go's.
-/
import Derived.Test.YtekjhhiamboffaaReqRefSplit
namespace Go.Proofs.Ytekjhhiamboffaa
open Go.RowKit

/-- what Take makes of a text -/
def TakeR (N S : Int) (x : ByteArray) (L : List Opr) (er : Int) : Prop :=
  (¬ IsReq x ∧ L = [] ∧ er = 200) ∨ (∃ (k a c : Int) (d : ByteArray), ReqP k a c d ∧ x = layB (reqF k a c d) ∧ ((¬ TakeP N S k a c ∧ L = [] ∧ er = 200) ∨ (TakeP N S k a c ∧ L = opsL k a d c.toNat ∧ er = 0)))
theorem takeR_one {N S : Int} {x : ByteArray} {L L' : List Opr} {er er' : Int} (h : TakeR N S x L er) (h' : TakeR N S x L' er') : L = L' ∧ er = er' := by
  rcases h with ⟨h1, rfl, rfl⟩ | ⟨k, a, c, d, h1, h2, h3⟩
  · rcases h' with ⟨_, rfl, rfl⟩ | ⟨k', a', c', d', h1', h2', _⟩
    · exact ⟨rfl, rfl⟩
    · exact absurd ⟨k', a', c', d', h1', h2'⟩ h1
  · rcases h' with ⟨h1', _, _⟩ | ⟨k', a', c', d', h1', h2', h3'⟩
    · exact absurd ⟨k, a, c, d, h1, h2⟩ h1'
    · obtain ⟨rfl, rfl, rfl, rfl⟩ := reqF_inj h1 h1' (by rw [← h2, h2'])
      rcases h3 with ⟨h4, rfl, rfl⟩ | ⟨h4, rfl, rfl⟩ <;> rcases h3' with ⟨h5, rfl, rfl⟩ | ⟨h5, rfl, rfl⟩
      · exact ⟨rfl, rfl⟩
      · exact absurd h5 h4
      · exact absurd h4 h5
      · exact ⟨rfl, rfl⟩
/-- what Take hands back -/
def TakePost (N S : Int) (x : ByteArray) (w : World) (e : Ending) (w' : World) : Prop :=
  ∃ (L : List Opr) (A : Option Addr) (n cc : Nat) (er : Int), TakeR N S x L er ∧ L.length = n ∧ n ≤ 4 ∧ e = .returned (.tuple #[.slice A n cc, .int .i64 er]) ∧ Rd w' w'.heap.size A (opCells L) ∧ Below w.heap.size w w'
theorem takePost_bad {N S : Int} {x : ByteArray} {w w' : World} (h : TakeR N S x [] 200) (hb : Below w.heap.size w w') : TakePost N S x w (.returned (.tuple #[.slice none 0 0, .int .i64 200])) w' :=
  ⟨[], none, 0, 0, 200, h, rfl, by decide, rfl, Rd.nil _ _ _, hb⟩
theorem take20_calls (N S : Int) (x : ByteArray) (w : World) : Calls Try.prog 11 #[.agg #[.int .i64 N, .int .i64 S], .string x] w (TakePost N S x w) := by
  by_cases h : IsReq x
  · obtain ⟨k, a, c, d, hP, hx⟩ := h
    have hc := req_small hP
    by_cases hT : TakeP N S k a c
    · refine (take_ops N S k a c c.toNat d x w (by omega) hP hx hT).mono ?_
      rintro e w' ⟨A, cc, rfl, hr, hb⟩
      exact ⟨_, A, c.toNat, cc, 0, .inr ⟨k, a, c, d, hP, hx, .inr ⟨hT, rfl, rfl⟩⟩, opsL_length _ _ _ _, by omega, rfl, hr, hb⟩
    · refine (take_refused N S k a c d x w hP hx hT).mono ?_
      rintro e w' ⟨rfl, hb⟩
      exact takePost_bad (.inr ⟨k, a, c, d, hP, hx, .inl ⟨hT, rfl, rfl⟩⟩) hb
  · refine (take_nothing N S x w h).mono ?_
    rintro e w' ⟨rfl, hb⟩
    exact takePost_bad (.inl ⟨h, rfl, rfl⟩) hb

set_option maxHeartbeats 1000000 in
theorem rtake20_few (N S : Int) (s : ByteArray) (w : World) (hsz : s.size ≤ 9223372036854775807) (h : takeE s.data.toList ≠ 0 ∨ (takeF s.data.toList).length ≠ 4) :
    Calls Try.prog 12 #[.agg #[.int .i64 N, .int .i64 S], .string s] w (TakePost N S s w) := by
  have hno : ¬ IsReq s := fun h' => by
    obtain ⟨h1, h2⟩ := req_four h'
    rcases h with h | h
    · exact h h1
    · exact h h2
  have HNO := Lib.hid hno
  obtain ⟨n, hn⟩ : ∃ n, n = (takeF s.data.toList).length := ⟨_, rfl⟩
  obtain ⟨er, her⟩ : ∃ er, er = takeE s.data.toList := ⟨_, rfl⟩
  rw [← hn, ← her] at h
  have HN := Lib.hid hn
  have HE := Lib.hid her
  have hq : (er != 0) = true ∨ ((er != 0) = false ∧ ((n : Int) != 4) = true) := by
    by_cases h0 : er = 0
    · refine .inr ⟨by rw [h0]; rfl, ?_⟩
      rw [bne_iff_ne]
      rcases h with h | h
      · exact absurd h0 h
      · omega
    · exact .inl (by rw [bne_iff_ne]; exact h0)
  clear hno hn her h
  rcases hq with hq | ⟨hq, hq2⟩
  all_goals
    go_enter Try.func12, Try.ntmps12
    go_wp2_with (go_at_call 34; (refine (rtake_calls s _ hsz).mono ?_); rw [← HN.out, ← HE.out]; rintro e w1 ⟨v, rfl, hown, hk⟩; obtain ⟨A, cc, rfl, -, -⟩ := own_form hown; have hG : Below (w.alloc (geoBox N S)).heap.size (w.alloc (geoBox N S)) w1 := hk; clear hown hk)
    go_ret2
    exact takePost_bad (.inl ⟨HNO.out, rfl, rfl⟩) (geo_below hG)

set_option maxRecDepth 100000 in
set_option maxHeartbeats 4000000 in
theorem rtake20_four (N S : Int) (s : ByteArray) (i0 i1 i2 i3 : Int) (t0 t1 t2 d : ByteArray) (w : World) (hsz : s.size ≤ 9223372036854775807) (he : takeE s.data.toList = 0) (hF : takeF s.data.toList = [(i0, t0), (i1, t1), (i2, t2), (i3, d)]) :
    Calls Try.prog 12 #[.agg #[.int .i64 N, .int .i64 S], .string s] w (TakePost N S s w) := by
  have hok := (take_ok he).2.1
  rw [hF] at hok
  have hd : d.size ≤ 140737488351232 := by have := (okF_iff.1 (hok (i3, d) (by simp))).2.2; have h2 : d.size ≤ 400 := this; omega
  have hag := req_again hF
  obtain ⟨k, hk⟩ : ∃ k, k = getN t0.data.toList := ⟨_, rfl⟩
  obtain ⟨a, ha⟩ : ∃ a, a = getN t1.data.toList := ⟨_, rfl⟩
  obtain ⟨c, hc⟩ : ∃ c, c = getN t2.data.toList := ⟨_, rfl⟩
  rw [← hk, ← ha, ← hc] at hag
  have HAG := Lib.hid hag
  have HF := Lib.hid hF
  have HE := Lib.hid he
  clear hok hag hF he
  obtain ⟨r0, h0⟩ : ∃ r, r = getE t0.data.toList := ⟨_, rfl⟩
  obtain ⟨r1, h1⟩ : ∃ r, r = getE t1.data.toList := ⟨_, rfl⟩
  obtain ⟨r2, h2⟩ : ∃ r, r = getE t2.data.toList := ⟨_, rfl⟩
  have H0 := Lib.hid h0
  have H1 := Lib.hid h1
  have H2 := Lib.hid h2
  have HK := Lib.hid hk
  have HA := Lib.hid ha
  have HC := Lib.hid hc
  clear h0 h1 h2 hk ha hc
  obtain ⟨sb, hsb⟩ : ∃ sb, sb = layB (reqF k a c d) := ⟨_, rfl⟩
  have HSB := Lib.hid hsb
  by_cases hR : ReqP k a c d
  · have HRP := Lib.hid hR
    by_cases hs : sb = s
    · have hxs : s = layB (reqF k a c d) := by rw [← hs, hsb]
      have HXS := Lib.hid hxs
      subst hs
      obtain ⟨-, -, -, hd64, k1, k2, c1, c2⟩ := req_small hR
      obtain ⟨ha1, ha2⟩ := hR.1
      obtain ⟨n, hn⟩ : ∃ n : Nat, c = n := ⟨c.toNat, by omega⟩
      have hnt : c.toNat = n := by omega
      have HNT := Lib.hid hnt
      have hn4 : n ≤ 4 := by omega
      have hR2 := hR.2
      have HR2 := Lib.hid hR2
      clear hxs hsb hR hnt hR2
      by_cases h3 : k = 3
      · cases hr : rightZ N S with
        | false =>
          have hT : ¬ TakeP N S k a c := by rintro (⟨_, h, _⟩ | ⟨h, _⟩); (rw [hr] at h; cases h); exact h h3
          have HT := Lib.hid hT
          have HRZ := Lib.hid hr
          have q1 : (k == 3) = true := by rw [beq_iff_eq]; exact h3
          clear hT hr h3 hn
          go_enter Try.func12, Try.ntmps12
          go_wp2_with (go_at_call 34; (refine (rtake_calls sb _ hsz).mono ?_); rw [HF.out, HE.out]; rintro e w1 ⟨v, rfl, hown, hk⟩; obtain ⟨A, cc, rfl, -, -⟩ := own_form hown; obtain ⟨b, off, rfl, hbB, hc0⟩ := (Rd.of_own hown).at_ (k := 1) (u := .string t0) rfl; have hc1 := (Rd.of_own hown).cell_ (k := 3) (u := .string t1) rfl; have hc2 := (Rd.of_own hown).cell_ (k := 5) (u := .string t2) rfl; have hc3 := (Rd.of_own hown).cell_ (k := 7) (u := .string d) rfl; have hG : Below (w.alloc (geoBox N S)).heap.size (w.alloc (geoBox N S)) w1 := hk; have HC1 := Lib.hid hc1; have HC2 := Lib.hid hc2; have HC3 := Lib.hid hc3; clear hown hk hc1 hc2 hc3)
          refine (rget_calls t0 _).mono ?_
          rw [← HK.out, ← H0.out]
          rintro e w2 ⟨rfl, hk⟩
          replace hG := bel_call hG hk
          have hb2 := hk
          have hd1 := (hb2.cell (p := ⟨b, off + 3, none⟩) hbB).trans HC1.out
          clear hk hc0
          go_wp2_with fail
          refine (rget_calls t1 _).mono ?_
          rw [← HA.out, ← H1.out]
          rintro e w3 ⟨rfl, hk⟩
          replace hG := bel_call hG hk
          have hb3 := bel_call hb2 hk
          have hd2 := (hb3.cell (p := ⟨b, off + 5, none⟩) hbB).trans HC2.out
          clear hk hd1 hb2
          go_wp2_with fail
          refine (rget_calls t2 _).mono ?_
          rw [← HC.out, ← H2.out]
          rintro e w4 ⟨rfl, hk⟩
          replace hG := bel_call hG hk
          have hb4 := bel_call hb3 hk
          have hd3 := (hb4.cell (p := ⟨b, off + 7, none⟩) hbB).trans HC3.out
          clear hk hd2 hb3
          go_wp2_with fail
          refine (rlay20_yes k a c d sb _ hd HRP.out HSB.out).mono ?_
          rintro e w5 ⟨rfl, hk⟩
          replace hG := bel_call hG hk
          have g0 := geo0 hG
          have g1 := geo1 hG
          clear hk hd3 hb4
          go_wp2_with (go_at_call 36; (refine (rright_calls N S _).mono ?_); rw [HRZ.out]; rintro e w6 ⟨rfl, hk⟩; replace hG := bel_call hG hk; clear hk)
          go_ret2
          exact takePost_bad (.inr ⟨k, a, c, d, HRP.out, HXS.out, .inl ⟨HT.out, rfl, rfl⟩⟩) (geo_below hG)
        | true =>
          by_cases haS : a < S
          · have hT : TakeP N S k a c := .inl ⟨h3, hr, haS⟩
            have HT := Lib.hid hT
            have HRZ := Lib.hid hr
            have q1 : (k == 3) = true := by rw [beq_iff_eq]; exact h3
            have q2 : decide (S ≤ a) = false := decide_eq_false (by omega)
            have hL : opCells (opsL k a d c.toNat) = [.int .i64 k, .int .i64 a, .string ⟨#[]⟩] := by
              have h1 : c = 1 := by have := HR2.out; omega
              rw [h1]; simp [opsL, opOf, opCells, List.range_succ, h3]
            have HL := Lib.hid hL
            have hn1 : c.toNat = 1 := by have := HR2.out; omega
            have HN1 := Lib.hid hn1
            clear hT hr h3 haS hL hn hn1
            go_enter Try.func12, Try.ntmps12
            go_wp2_with (go_at_call 34; (refine (rtake_calls sb _ hsz).mono ?_); rw [HF.out, HE.out]; rintro e w1 ⟨v, rfl, hown, hk⟩; obtain ⟨A, cc, rfl, -, -⟩ := own_form hown; obtain ⟨b, off, rfl, hbB, hc0⟩ := (Rd.of_own hown).at_ (k := 1) (u := .string t0) rfl; have hc1 := (Rd.of_own hown).cell_ (k := 3) (u := .string t1) rfl; have hc2 := (Rd.of_own hown).cell_ (k := 5) (u := .string t2) rfl; have hc3 := (Rd.of_own hown).cell_ (k := 7) (u := .string d) rfl; have hG : Below (w.alloc (geoBox N S)).heap.size (w.alloc (geoBox N S)) w1 := hk; have HC1 := Lib.hid hc1; have HC2 := Lib.hid hc2; have HC3 := Lib.hid hc3; clear hown hk hc1 hc2 hc3)
            refine (rget_calls t0 _).mono ?_
            rw [← HK.out, ← H0.out]
            rintro e w2 ⟨rfl, hk⟩
            replace hG := bel_call hG hk
            have hb2 := hk
            have hd1 := (hb2.cell (p := ⟨b, off + 3, none⟩) hbB).trans HC1.out
            clear hk hc0
            go_wp2_with fail
            refine (rget_calls t1 _).mono ?_
            rw [← HA.out, ← H1.out]
            rintro e w3 ⟨rfl, hk⟩
            replace hG := bel_call hG hk
            have hb3 := bel_call hb2 hk
            have hd2 := (hb3.cell (p := ⟨b, off + 5, none⟩) hbB).trans HC2.out
            clear hk hd1 hb2
            go_wp2_with fail
            refine (rget_calls t2 _).mono ?_
            rw [← HC.out, ← H2.out]
            rintro e w4 ⟨rfl, hk⟩
            replace hG := bel_call hG hk
            have hb4 := bel_call hb3 hk
            have hd3 := (hb4.cell (p := ⟨b, off + 7, none⟩) hbB).trans HC3.out
            clear hk hd2 hb3
            go_wp2_with fail
            refine (rlay20_yes k a c d sb _ hd HRP.out HSB.out).mono ?_
            rintro e w5 ⟨rfl, hk⟩
            replace hG := bel_call hG hk
            have g0 := geo0 hG
            have g1 := geo1 hG
            clear hk hd3 hb4
            go_wp2_with (go_at_call 36; (refine (rright_calls N S _).mono ?_); rw [HRZ.out]; rintro e w6 ⟨rfl, hk⟩; replace hG := bel_call hG hk; have g3 := geo1 hG; clear hk)
            go_ret2
            refine ⟨opsL k a d c.toNat, some ⟨w6.heap.size, 0, none⟩, 1, 1, 0, .inr ⟨k, a, c, d, HRP.out, HXS.out, .inr ⟨HT.out, rfl, rfl⟩⟩, by rw [opsL_length, HN1.out], by decide, rfl, ?_, bel_alloc (geo_below hG) _⟩
            rw [HL.out]
            exact rdn_new w6 #[.int .i64 k, .int .i64 a, .string ⟨#[]⟩] 45 _ rfl
          · have hT : ¬ TakeP N S k a c := by rintro (⟨_, _, h⟩ | ⟨h, _⟩); exact haS h; exact h h3
            have HT := Lib.hid hT
            have HRZ := Lib.hid hr
            have q1 : (k == 3) = true := by rw [beq_iff_eq]; exact h3
            have q2 : decide (S ≤ a) = true := decide_eq_true (by omega)
            clear hT hr h3 haS hn
            go_enter Try.func12, Try.ntmps12
            go_wp2_with (go_at_call 34; (refine (rtake_calls sb _ hsz).mono ?_); rw [HF.out, HE.out]; rintro e w1 ⟨v, rfl, hown, hk⟩; obtain ⟨A, cc, rfl, -, -⟩ := own_form hown; obtain ⟨b, off, rfl, hbB, hc0⟩ := (Rd.of_own hown).at_ (k := 1) (u := .string t0) rfl; have hc1 := (Rd.of_own hown).cell_ (k := 3) (u := .string t1) rfl; have hc2 := (Rd.of_own hown).cell_ (k := 5) (u := .string t2) rfl; have hc3 := (Rd.of_own hown).cell_ (k := 7) (u := .string d) rfl; have hG : Below (w.alloc (geoBox N S)).heap.size (w.alloc (geoBox N S)) w1 := hk; have HC1 := Lib.hid hc1; have HC2 := Lib.hid hc2; have HC3 := Lib.hid hc3; clear hown hk hc1 hc2 hc3)
            refine (rget_calls t0 _).mono ?_
            rw [← HK.out, ← H0.out]
            rintro e w2 ⟨rfl, hk⟩
            replace hG := bel_call hG hk
            have hb2 := hk
            have hd1 := (hb2.cell (p := ⟨b, off + 3, none⟩) hbB).trans HC1.out
            clear hk hc0
            go_wp2_with fail
            refine (rget_calls t1 _).mono ?_
            rw [← HA.out, ← H1.out]
            rintro e w3 ⟨rfl, hk⟩
            replace hG := bel_call hG hk
            have hb3 := bel_call hb2 hk
            have hd2 := (hb3.cell (p := ⟨b, off + 5, none⟩) hbB).trans HC2.out
            clear hk hd1 hb2
            go_wp2_with fail
            refine (rget_calls t2 _).mono ?_
            rw [← HC.out, ← H2.out]
            rintro e w4 ⟨rfl, hk⟩
            replace hG := bel_call hG hk
            have hb4 := bel_call hb3 hk
            have hd3 := (hb4.cell (p := ⟨b, off + 7, none⟩) hbB).trans HC3.out
            clear hk hd2 hb3
            go_wp2_with fail
            refine (rlay20_yes k a c d sb _ hd HRP.out HSB.out).mono ?_
            rintro e w5 ⟨rfl, hk⟩
            replace hG := bel_call hG hk
            have g0 := geo0 hG
            have g1 := geo1 hG
            clear hk hd3 hb4
            go_wp2_with (go_at_call 36; (refine (rright_calls N S _).mono ?_); rw [HRZ.out]; rintro e w6 ⟨rfl, hk⟩; replace hG := bel_call hG hk; have g3 := geo1 hG; clear hk)
            go_ret2
            exact takePost_bad (.inr ⟨k, a, c, d, HRP.out, HXS.out, .inl ⟨HT.out, rfl, rfl⟩⟩) (geo_below hG)
      · have q1 : (k == 3) = false := by rw [beq_eq_false_iff_ne]; exact h3
        by_cases hb : a + c ≤ blocksZ N S
        · have hT : TakeP N S k a c := .inr ⟨h3, hb⟩
          have HT := Lib.hid hT
          have HBZ := Lib.hid hb
          have hk12 : k = 1 ∨ k = 2 := by omega
          have hdk : k = 2 → d.size = 16 * n := fun hk => by have := HR2.out; omega
          have HDK := Lib.hid hdk
          obtain ⟨iO, hiO, hzO, hsO, hbO⟩ := info_parts op_info
          subst hn
          clear hT hb h3 hdk
          rcases hk12 with rfl | rfl
          · skip
            clear HDK
            go_enter Try.func12, Try.ntmps12
            go_wp2_with (go_at_call 34; (refine (rtake_calls sb _ hsz).mono ?_); rw [HF.out, HE.out]; rintro e w1 ⟨v, rfl, hown, hk⟩; obtain ⟨A, cc, rfl, -, -⟩ := own_form hown; obtain ⟨b, off, rfl, hbB, hc0⟩ := (Rd.of_own hown).at_ (k := 1) (u := .string t0) rfl; have hc1 := (Rd.of_own hown).cell_ (k := 3) (u := .string t1) rfl; have hc2 := (Rd.of_own hown).cell_ (k := 5) (u := .string t2) rfl; have hc3 := (Rd.of_own hown).cell_ (k := 7) (u := .string d) rfl; have hG : Below (w.alloc (geoBox N S)).heap.size (w.alloc (geoBox N S)) w1 := hk; have HC1 := Lib.hid hc1; have HC2 := Lib.hid hc2; have HC3 := Lib.hid hc3; clear hown hk hc1 hc2 hc3)
            refine (rget_calls t0 _).mono ?_
            rw [← HK.out, ← H0.out]
            rintro e w2 ⟨rfl, hk⟩
            replace hG := bel_call hG hk
            have hb2 := hk
            have hd1 := (hb2.cell (p := ⟨b, off + 3, none⟩) hbB).trans HC1.out
            clear hk hc0
            go_wp2_with fail
            refine (rget_calls t1 _).mono ?_
            rw [← HA.out, ← H1.out]
            rintro e w3 ⟨rfl, hk⟩
            replace hG := bel_call hG hk
            have hb3 := bel_call hb2 hk
            have hd2 := (hb3.cell (p := ⟨b, off + 5, none⟩) hbB).trans HC2.out
            clear hk hd1 hb2
            go_wp2_with fail
            refine (rget_calls t2 _).mono ?_
            rw [← HC.out, ← H2.out]
            rintro e w4 ⟨rfl, hk⟩
            replace hG := bel_call hG hk
            have hb4 := bel_call hb3 hk
            have hd3 := (hb4.cell (p := ⟨b, off + 7, none⟩) hbB).trans HC3.out
            clear hk hd2 hb3
            go_wp2_with fail
            refine (rlay20_yes 1 a n d sb _ hd HRP.out HSB.out).mono ?_
            rintro e w5 ⟨rfl, hk⟩
            replace hG := bel_call hG hk
            have g0 := geo0 hG
            have g1 := geo1 hG
            clear hk hd3 hb4
            go_wp2_with (go_at_call 37; (refine (rsplit_yes N S a n _ ha1 c1 c2 HBZ.out).mono ?_); rintro e w6 ⟨vs, rfl, hk⟩; replace hG := bel_call hG hk; clear hk)
            go_loopw [17, 18] (fun v i wr => ∃ j : Nat, j ≤ n ∧ i = .int .i64 j ∧ wr.ownsRow (w.alloc (geoBox N S)).heap.size 45 3 v j (opCells (opsL 1 a d j)) ∧ Below (w.alloc (geoBox N S)).heap.size (w.alloc (geoBox N S)) wr) (fun _ i _ => n - (intOf i).toNat)
            case atStart => exact ⟨0, Nat.zero_le _, rfl, World.ownsRow_nil _ _ _ _, hG⟩
            case round =>
              clear hG g0 g1
              obtain ⟨j, hj, rfl, hown, hG⟩ := hrel
              have HO := Lib.hid hown
              clear hown
              by_cases hjt : j < n
              · have hoo : opCells (opsL 1 a d (j + 1)) = opCells (opsL 1 a d j) ++ [.int .i64 1, .int .i64 (a + j), .string ⟨#[]⟩] := by rw [opsL_snoc, opCells_append]; simp [opOf, opCells]
                have HOO := Lib.hid hoo
                have hbsz := hG.size
                clear hoo
                go_wp2_with (at_builtin; (refine wpList_append_rd rfl (.tmp 120) (.tmp 122) 30 rfl (w.alloc (geoBox N S)).heap.size 45 iO _ 3 32 Try.underlying30 hiO hzO hsO hbO rfl (by decide) _ j _ rfl ((HO.out.alloc _).alloc _) _ (some ⟨wr.heap.size + 1, 0, none⟩) 1 1 [.int .i64 1, .int .i64 (a + j), .string ⟨#[]⟩] rfl (rdn_new _ #[.int .i64 1, .int .i64 (a + j), .string ⟨#[]⟩] 45 _ (by simp)) rfl (by simp [Value.oneCell']) (by unfold maxLen; omega) (by omega) (by simp at *; omega) ?_); intro v3 w7 hown3 hg3; have HO3 := Lib.hid hown3; have HG3 := Lib.hid hg3; clear hown3 hg3)
                go_roundw
                case rel => exact ⟨j + 1, by omega, by go_num, by rw [HOO.out]; exact HO3.out, (bel_alloc (bel_alloc hG _) _).grown HG3.out (by simp at *; omega) (fun i hi => (HO.out.lt i hi).1)⟩
                case measure => simp [intOf]; omega
              · obtain rfl : j = n := by omega
                have hlt2 : decide (j < j) = false := by simp
                obtain ⟨A2, cc2, rfl, -, -⟩ := own_form HO.out
                go_wp2
                go_ret2
                exact ⟨opsL 1 a d (j : Int).toNat, A2, j, cc2, 0, .inr ⟨1, a, j, d, HRP.out, HXS.out, .inr ⟨HT.out, rfl, rfl⟩⟩, by rw [opsL_length]; exact Int.toNat_natCast j, hn4, rfl, by rw [Int.toNat_natCast]; exact Rd.of_own HO.out, geo_below hG⟩
          · skip
            have hds := HDK.out rfl
            clear HDK
            go_enter Try.func12, Try.ntmps12
            go_wp2_with (go_at_call 34; (refine (rtake_calls sb _ hsz).mono ?_); rw [HF.out, HE.out]; rintro e w1 ⟨v, rfl, hown, hk⟩; obtain ⟨A, cc, rfl, -, -⟩ := own_form hown; obtain ⟨b, off, rfl, hbB, hc0⟩ := (Rd.of_own hown).at_ (k := 1) (u := .string t0) rfl; have hc1 := (Rd.of_own hown).cell_ (k := 3) (u := .string t1) rfl; have hc2 := (Rd.of_own hown).cell_ (k := 5) (u := .string t2) rfl; have hc3 := (Rd.of_own hown).cell_ (k := 7) (u := .string d) rfl; have hG : Below (w.alloc (geoBox N S)).heap.size (w.alloc (geoBox N S)) w1 := hk; have HC1 := Lib.hid hc1; have HC2 := Lib.hid hc2; have HC3 := Lib.hid hc3; clear hown hk hc1 hc2 hc3)
            refine (rget_calls t0 _).mono ?_
            rw [← HK.out, ← H0.out]
            rintro e w2 ⟨rfl, hk⟩
            replace hG := bel_call hG hk
            have hb2 := hk
            have hd1 := (hb2.cell (p := ⟨b, off + 3, none⟩) hbB).trans HC1.out
            clear hk hc0
            go_wp2_with fail
            refine (rget_calls t1 _).mono ?_
            rw [← HA.out, ← H1.out]
            rintro e w3 ⟨rfl, hk⟩
            replace hG := bel_call hG hk
            have hb3 := bel_call hb2 hk
            have hd2 := (hb3.cell (p := ⟨b, off + 5, none⟩) hbB).trans HC2.out
            clear hk hd1 hb2
            go_wp2_with fail
            refine (rget_calls t2 _).mono ?_
            rw [← HC.out, ← H2.out]
            rintro e w4 ⟨rfl, hk⟩
            replace hG := bel_call hG hk
            have hb4 := bel_call hb3 hk
            have hd3 := (hb4.cell (p := ⟨b, off + 7, none⟩) hbB).trans HC3.out
            clear hk hd2 hb3
            go_wp2_with fail
            refine (rlay20_yes 2 a n d sb _ hd HRP.out HSB.out).mono ?_
            rintro e w5 ⟨rfl, hk⟩
            replace hG := bel_call hG hk
            have g0 := geo0 hG
            have g1 := geo1 hG
            clear hk hd3 hb4
            go_wp2_with (go_at_call 37; (refine (rsplit_yes N S a n _ ha1 c1 c2 HBZ.out).mono ?_); rintro e w6 ⟨vs, rfl, hk⟩; replace hG := bel_call hG hk; clear hk)
            go_loopw [17, 18] (fun v i wr => ∃ j : Nat, j ≤ n ∧ i = .int .i64 j ∧ wr.ownsRow (w.alloc (geoBox N S)).heap.size 45 3 v j (opCells (opsL 2 a d j)) ∧ Below (w.alloc (geoBox N S)).heap.size (w.alloc (geoBox N S)) wr) (fun _ i _ => n - (intOf i).toNat)
            case atStart => exact ⟨0, Nat.zero_le _, rfl, World.ownsRow_nil _ _ _ _, hG⟩
            case round =>
              clear hG g0 g1
              obtain ⟨j, hj, rfl, hown, hG⟩ := hrel
              have HO := Lib.hid hown
              clear hown
              by_cases hjt : j < n
              · have hoo : opCells (opsL 2 a d (j + 1)) = opCells (opsL 2 a d j) ++ [.int .i64 2, .int .i64 (a + j), .string (d.extract (j * 16) ((j + 1) * 16))] := by rw [opsL_snoc, opCells_append]; simp [opOf, opCells]
                have HOO := Lib.hid hoo
                have hbsz := hG.size
                clear hoo
                have hj1 : 16 * j + 16 ≤ d.size := by omega
                have hex : d.extract (16 * j) (16 * j + 16) = d.extract (j * 16) ((j + 1) * 16) := by congr 1 <;> omega
                go_wp2_with (at_builtin; (refine wpList_append_rd rfl (.tmp 120) (.tmp 122) 30 rfl (w.alloc (geoBox N S)).heap.size 45 iO _ 3 32 Try.underlying30 hiO hzO hsO hbO rfl (by decide) _ j _ rfl ((HO.out.alloc _).alloc _) _ (some ⟨wr.heap.size + 1, 0, none⟩) 1 1 [.int .i64 2, .int .i64 (a + j), .string (d.extract (j * 16) ((j + 1) * 16))] rfl (rdn_new _ #[.int .i64 2, .int .i64 (a + j), .string (d.extract (j * 16) ((j + 1) * 16))] 45 _ (by simp)) rfl (by simp [Value.oneCell']) (by unfold maxLen; omega) (by omega) (by simp at *; omega) ?_); intro v3 w7 hown3 hg3; have HO3 := Lib.hid hown3; have HG3 := Lib.hid hg3; clear hown3 hg3)
                go_roundw
                case rel => exact ⟨j + 1, by omega, by go_num, by rw [HOO.out]; exact HO3.out, (bel_alloc (bel_alloc hG _) _).grown HG3.out (by simp at *; omega) (fun i hi => (HO.out.lt i hi).1)⟩
                case measure => simp [intOf]; omega
              · obtain rfl : j = n := by omega
                have hlt2 : decide (j < j) = false := by simp
                obtain ⟨A2, cc2, rfl, -, -⟩ := own_form HO.out
                go_wp2
                go_ret2
                exact ⟨opsL 2 a d (j : Int).toNat, A2, j, cc2, 0, .inr ⟨2, a, j, d, HRP.out, HXS.out, .inr ⟨HT.out, rfl, rfl⟩⟩, by rw [opsL_length]; exact Int.toNat_natCast j, hn4, rfl, by rw [Int.toNat_natCast]; exact Rd.of_own HO.out, geo_below hG⟩
        · have hT : ¬ TakeP N S k a c := by rintro (⟨h, _⟩ | ⟨_, h⟩); exact h3 h; exact hb h
          have HT := Lib.hid hT
          have hlt : blocksZ N S < a + c := by omega
          have HLT := Lib.hid hlt
          clear hT hb h3 hn hlt
          go_enter Try.func12, Try.ntmps12
          go_wp2_with (go_at_call 34; (refine (rtake_calls sb _ hsz).mono ?_); rw [HF.out, HE.out]; rintro e w1 ⟨v, rfl, hown, hk⟩; obtain ⟨A, cc, rfl, -, -⟩ := own_form hown; obtain ⟨b, off, rfl, hbB, hc0⟩ := (Rd.of_own hown).at_ (k := 1) (u := .string t0) rfl; have hc1 := (Rd.of_own hown).cell_ (k := 3) (u := .string t1) rfl; have hc2 := (Rd.of_own hown).cell_ (k := 5) (u := .string t2) rfl; have hc3 := (Rd.of_own hown).cell_ (k := 7) (u := .string d) rfl; have hG : Below (w.alloc (geoBox N S)).heap.size (w.alloc (geoBox N S)) w1 := hk; have HC1 := Lib.hid hc1; have HC2 := Lib.hid hc2; have HC3 := Lib.hid hc3; clear hown hk hc1 hc2 hc3)
          refine (rget_calls t0 _).mono ?_
          rw [← HK.out, ← H0.out]
          rintro e w2 ⟨rfl, hk⟩
          replace hG := bel_call hG hk
          have hb2 := hk
          have hd1 := (hb2.cell (p := ⟨b, off + 3, none⟩) hbB).trans HC1.out
          clear hk hc0
          go_wp2_with fail
          refine (rget_calls t1 _).mono ?_
          rw [← HA.out, ← H1.out]
          rintro e w3 ⟨rfl, hk⟩
          replace hG := bel_call hG hk
          have hb3 := bel_call hb2 hk
          have hd2 := (hb3.cell (p := ⟨b, off + 5, none⟩) hbB).trans HC2.out
          clear hk hd1 hb2
          go_wp2_with fail
          refine (rget_calls t2 _).mono ?_
          rw [← HC.out, ← H2.out]
          rintro e w4 ⟨rfl, hk⟩
          replace hG := bel_call hG hk
          have hb4 := bel_call hb3 hk
          have hd3 := (hb4.cell (p := ⟨b, off + 7, none⟩) hbB).trans HC3.out
          clear hk hd2 hb3
          go_wp2_with fail
          refine (rlay20_yes k a c d sb _ hd HRP.out HSB.out).mono ?_
          rintro e w5 ⟨rfl, hk⟩
          replace hG := bel_call hG hk
          have g0 := geo0 hG
          have g1 := geo1 hG
          clear hk hd3 hb4
          go_wp2_with (go_at_call 37; (refine (rsplit_no N S a c _ ha1 ha2 c1 c2 HLT.out).mono ?_); rintro e w6 ⟨rfl, hk⟩; replace hG := bel_call hG hk; clear hk)
          go_ret2
          exact takePost_bad (.inr ⟨k, a, c, d, HRP.out, HXS.out, .inl ⟨HT.out, rfl, rfl⟩⟩) (geo_below hG)
    · have hno : ¬ IsReq s := fun h => hs (by rw [hsb]; exact (HAG.out.1 h).2.2.2.2)
      have HNO := Lib.hid hno
      have hne2 : (sb.toList == s.toList) = false := by
        rw [beq_eq_false_iff_ne]
        intro h
        rw [Lib.toList_data, Lib.toList_data] at h
        exact hs (ba_eq h)
      clear hno hR hsb hs
      go_enter Try.func12, Try.ntmps12
      go_wp2_with (go_at_call 34; (refine (rtake_calls s _ hsz).mono ?_); rw [HF.out, HE.out]; rintro e w1 ⟨v, rfl, hown, hk⟩; obtain ⟨A, cc, rfl, -, -⟩ := own_form hown; obtain ⟨b, off, rfl, hbB, hc0⟩ := (Rd.of_own hown).at_ (k := 1) (u := .string t0) rfl; have hc1 := (Rd.of_own hown).cell_ (k := 3) (u := .string t1) rfl; have hc2 := (Rd.of_own hown).cell_ (k := 5) (u := .string t2) rfl; have hc3 := (Rd.of_own hown).cell_ (k := 7) (u := .string d) rfl; have hG : Below (w.alloc (geoBox N S)).heap.size (w.alloc (geoBox N S)) w1 := hk; have HC1 := Lib.hid hc1; have HC2 := Lib.hid hc2; have HC3 := Lib.hid hc3; clear hown hk hc1 hc2 hc3)
      refine (rget_calls t0 _).mono ?_
      rw [← HK.out, ← H0.out]
      rintro e w2 ⟨rfl, hk⟩
      replace hG := bel_call hG hk
      have hb2 := hk
      have hd1 := (hb2.cell (p := ⟨b, off + 3, none⟩) hbB).trans HC1.out
      clear hk hc0
      go_wp2_with fail
      refine (rget_calls t1 _).mono ?_
      rw [← HA.out, ← H1.out]
      rintro e w3 ⟨rfl, hk⟩
      replace hG := bel_call hG hk
      have hb3 := bel_call hb2 hk
      have hd2 := (hb3.cell (p := ⟨b, off + 5, none⟩) hbB).trans HC2.out
      clear hk hd1 hb2
      go_wp2_with fail
      refine (rget_calls t2 _).mono ?_
      rw [← HC.out, ← H2.out]
      rintro e w4 ⟨rfl, hk⟩
      replace hG := bel_call hG hk
      have hb4 := bel_call hb3 hk
      have hd3 := (hb4.cell (p := ⟨b, off + 7, none⟩) hbB).trans HC3.out
      clear hk hd2 hb3
      go_wp2_with fail
      refine (rlay20_yes k a c d sb _ hd HRP.out HSB.out).mono ?_
      rintro e w5 ⟨rfl, hk⟩
      replace hG := bel_call hG hk
      have g0 := geo0 hG
      have g1 := geo1 hG
      clear hk hd3 hb4
      go_wp2
      go_ret2
      exact takePost_bad (.inl ⟨HNO.out, rfl, rfl⟩) (geo_below hG)
  · have hno : ¬ IsReq s := fun h => hR (HAG.out.1 h).2.2.2.1
    have HNO := Lib.hid hno
    have HRN := Lib.hid hR
    clear hno hR hsb
    go_enter Try.func12, Try.ntmps12
    go_wp2_with (go_at_call 34; (refine (rtake_calls s _ hsz).mono ?_); rw [HF.out, HE.out]; rintro e w1 ⟨v, rfl, hown, hk⟩; obtain ⟨A, cc, rfl, -, -⟩ := own_form hown; obtain ⟨b, off, rfl, hbB, hc0⟩ := (Rd.of_own hown).at_ (k := 1) (u := .string t0) rfl; have hc1 := (Rd.of_own hown).cell_ (k := 3) (u := .string t1) rfl; have hc2 := (Rd.of_own hown).cell_ (k := 5) (u := .string t2) rfl; have hc3 := (Rd.of_own hown).cell_ (k := 7) (u := .string d) rfl; have hG : Below (w.alloc (geoBox N S)).heap.size (w.alloc (geoBox N S)) w1 := hk; have HC1 := Lib.hid hc1; have HC2 := Lib.hid hc2; have HC3 := Lib.hid hc3; clear hown hk hc1 hc2 hc3)
    refine (rget_calls t0 _).mono ?_
    rw [← HK.out, ← H0.out]
    rintro e w2 ⟨rfl, hk⟩
    replace hG := bel_call hG hk
    have hb2 := hk
    have hd1 := (hb2.cell (p := ⟨b, off + 3, none⟩) hbB).trans HC1.out
    clear hk hc0
    go_wp2_with fail
    refine (rget_calls t1 _).mono ?_
    rw [← HA.out, ← H1.out]
    rintro e w3 ⟨rfl, hk⟩
    replace hG := bel_call hG hk
    have hb3 := bel_call hb2 hk
    have hd2 := (hb3.cell (p := ⟨b, off + 5, none⟩) hbB).trans HC2.out
    clear hk hd1 hb2
    go_wp2_with fail
    refine (rget_calls t2 _).mono ?_
    rw [← HC.out, ← H2.out]
    rintro e w4 ⟨rfl, hk⟩
    replace hG := bel_call hG hk
    have hb4 := bel_call hb3 hk
    have hd3 := (hb4.cell (p := ⟨b, off + 7, none⟩) hbB).trans HC3.out
    clear hk hd2 hb3
    go_wp2_with fail
    refine (rlay20_no k a c d _ hd HRN.out).mono ?_
    rintro e w5 ⟨rfl, hk⟩
    replace hG := bel_call hG hk
    have g0 := geo0 hG
    have g1 := geo1 hG
    clear hk hd3 hb4
    go_wp2
    go_ret2
    exact takePost_bad (.inl ⟨HNO.out, rfl, rfl⟩) (geo_below hG)

theorem rtake20_calls (N S : Int) (s : ByteArray) (w : World) (hsz : s.size ≤ 9223372036854775807) : Calls Try.prog 12 #[.agg #[.int .i64 N, .int .i64 S], .string s] w (TakePost N S s w) := by
  by_cases h : takeE s.data.toList ≠ 0 ∨ (takeF s.data.toList).length ≠ 4
  · exact rtake20_few N S s w hsz h
  · obtain ⟨i0, t0, i1, t1, i2, t2, i3, d, hF⟩ := four_of (l := takeF s.data.toList) (by omega)
    exact rtake20_four N S s i0 i1 i2 i3 t0 t1 t2 d w hsz (by omega) hF
end Go.Proofs.Ytekjhhiamboffaa
