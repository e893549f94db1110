/-
  The contract of package request's heard: the request that a text is, or none. Condition: the text's length is Go's.
-/
import Derived.Test.YtekjhhiamboffaaReqLay
import Derived.LoopN
import Derived.Deep.QuietTactic
import Derived.BigQuiet
namespace Go.Proofs.Ytekjhhiamboffaa
open Go.RowKit

/-- what heard hands back -/
def HeardPost (s : ByteArray) (w : World) (e : Ending) (w' : World) : Prop :=
  ∃ (k a c : Int) (d : ByteArray) (ok : Bool), e = .returned (.tuple #[.int .i64 k, .int .i64 a, .int .i64 c, .string d, .bool ok]) ∧ (ok = true → ReqP k a c d ∧ s = layB (reqF k a c d)) ∧ (ok = false → ¬ IsReq s) ∧ Below w.heap.size w w'

set_option maxHeartbeats 1000000 in
theorem heard_few (s : ByteArray) (w : World) (h : takeE s.data.toList ≠ 0 ∨ (takeF s.data.toList).length ≠ 4) :
    Calls Try.prog 31 #[.string s] w (HeardPost s w) := by
  have hno : ¬ IsReq s := fun h' => by
    obtain ⟨h1, h2⟩ := req_four h'
    rcases h with h | h
    · exact h h1
    · exact h h2
  have HNO := Lib.hid hno
  obtain ⟨n, hn⟩ : ∃ n, n = (takeF s.data.toList).length := ⟨_, rfl⟩
  obtain ⟨er, her⟩ : ∃ er, er = takeE s.data.toList := ⟨_, rfl⟩
  rw [← hn, ← her] at h
  have HN := Lib.hid hn
  have HE := Lib.hid her
  have h30 : er = 0 ∨ er = 30 := by rw [her]; rcases take_e s.data.toList with h | h; exact .inl h; exact .inr h.1
  have hq : (er != 0) = true ∨ ((er != 0) = false ∧ ((n : Int) != 4) = true) := by
    by_cases h0 : er = 0
    · refine .inr ⟨by rw [h0]; rfl, ?_⟩
      rw [bne_iff_ne]
      rcases h with h | h
      · exact absurd h0 h
      · omega
    · exact .inl (by rw [bne_iff_ne]; exact h0)
  clear hno hn her h h30
  rcases hq with hq | ⟨hq, hq2⟩
  all_goals
    go_enter Try.func31, Try.ntmps31
    go_wp2_with (go_at_call 38; (refine (take_calls s _).mono ?_); rw [← HN.out, ← HE.out]; rintro e w1 ⟨v, rfl, hown, hb⟩; obtain ⟨A, cc, rfl, -, -⟩ := own_form hown; clear hown)
    refine bodyPost_ret (v := .tuple #[.int .i64 0, .int .i64 0, .int .i64 0, .string ⟨#[]⟩, .bool false]) (by simp [results, Try.results31, go_sem]) rfl ?_
    exact ⟨0, 0, 0, ⟨#[]⟩, false, rfl, (fun h => by cases h), (fun _ => HNO.out), hb⟩

/-- an array of three numbers in a block of its own -/
def Arr (w : World) (g : Nat) (x y z : Int) : Prop := g < w.heap.size ∧ w.cell? ⟨g, 0, none⟩ = some (.int .i64 x) ∧ w.cell? ⟨g, 1, none⟩ = some (.int .i64 y) ∧ w.cell? ⟨g, 2, none⟩ = some (.int .i64 z) ∧ ∀ j, w.frozen? ⟨g, j, none⟩ = false
theorem Arr.call {w w' : World} {g : Nat} {x y z : Int} (h : Arr w g x y z) (hb : Below w.heap.size w w') : Arr w' g x y z := by
  obtain ⟨h0, h1, h2, h3, h4⟩ := h
  exact ⟨Nat.lt_of_lt_of_le h0 hb.size, (hb.cell (p := ⟨g, 0, none⟩) h0).trans h1, (hb.cell (p := ⟨g, 1, none⟩) h0).trans h2, (hb.cell (p := ⟨g, 2, none⟩) h0).trans h3, fun j => (hb.frozen (p := ⟨g, j, none⟩) h0).trans (h4 j)⟩
theorem Arr.new (w : World) (x y z : Int) (t : TypeId) : Arr (w.alloc (.cells #[.int .i64 x, .int .i64 y, .int .i64 z] t)) w.heap.size x y z := by
  refine ⟨by simp, ?_, ?_, ?_, fun j => ?_⟩
  · exact World.cell?_alloc_mark w _ _ _ 0
  · exact World.cell?_alloc_mark w _ _ _ 1
  · exact World.cell?_alloc_mark w _ _ _ 2
  · rw [World.frozen?_alloc_mark]; simp
theorem arr_ne {g i j : Nat} (h : i ≠ j) : (⟨g, i, none⟩ : Addr) ≠ ⟨g, j, none⟩ := by intro e; injection e with _ e1; exact h e1
theorem Arr.set0 {w : World} {g : Nat} {x y z : Int} (h : Arr w g x y z) (v : Int) : Arr (w.setCell ⟨g, 0, none⟩ (.int .i64 v)) g v y z := by
  obtain ⟨h0, h1, h2, h3, h4⟩ := h
  exact ⟨by rw [World.size_setCell]; exact h0, World.cell?_setCell_same w _ _ h1, (World.cell?_setCell_other w _ _ _ (by first | exact arr_ne (by decide) | exact (arr_ne (by decide)).symm)).trans h2, (World.cell?_setCell_other w _ _ _ (by first | exact arr_ne (by decide) | exact (arr_ne (by decide)).symm)).trans h3, fun j => by rw [World.frozen?_setCell]; exact h4 j⟩
theorem Arr.set1 {w : World} {g : Nat} {x y z : Int} (h : Arr w g x y z) (v : Int) : Arr (w.setCell ⟨g, 1, none⟩ (.int .i64 v)) g x v z := by
  obtain ⟨h0, h1, h2, h3, h4⟩ := h
  exact ⟨by rw [World.size_setCell]; exact h0, (World.cell?_setCell_other w _ _ _ (by first | exact arr_ne (by decide) | exact (arr_ne (by decide)).symm)).trans h1, World.cell?_setCell_same w _ _ h2, (World.cell?_setCell_other w _ _ _ (by first | exact arr_ne (by decide) | exact (arr_ne (by decide)).symm)).trans h3, fun j => by rw [World.frozen?_setCell]; exact h4 j⟩
theorem Arr.set2 {w : World} {g : Nat} {x y z : Int} (h : Arr w g x y z) (v : Int) : Arr (w.setCell ⟨g, 2, none⟩ (.int .i64 v)) g x y v := by
  obtain ⟨h0, h1, h2, h3, h4⟩ := h
  exact ⟨by rw [World.size_setCell]; exact h0, (World.cell?_setCell_other w _ _ _ (by first | exact arr_ne (by decide) | exact (arr_ne (by decide)).symm)).trans h1, (World.cell?_setCell_other w _ _ _ (by first | exact arr_ne (by decide) | exact (arr_ne (by decide)).symm)).trans h2, World.cell?_setCell_same w _ _ h3, fun j => by rw [World.frozen?_setCell]; exact h4 j⟩

set_option maxHeartbeats 2000000 in
theorem heard_four (s : ByteArray) (i0 i1 i2 i3 : Int) (t0 t1 t2 d : ByteArray) (w : World) (he : takeE s.data.toList = 0) (hF : takeF s.data.toList = [(i0, t0), (i1, t1), (i2, t2), (i3, d)]) :
    Calls Try.prog 31 #[.string s] w (HeardPost s w) := by
  have hok := (take_ok he).2.1
  rw [hF] at hok
  have hd : d.size ≤ 140737488351232 := by have := (okF_iff.1 (hok (i3, d) (by simp))).2.2; show d.size ≤ _; have h2 : d.size ≤ 400 := this; omega
  have hag := req_again hF
  obtain ⟨k, hk⟩ : ∃ k, k = getN t0.data.toList := ⟨_, rfl⟩
  obtain ⟨a, ha⟩ : ∃ a, a = getN t1.data.toList := ⟨_, rfl⟩
  obtain ⟨c, hc⟩ : ∃ c, c = getN t2.data.toList := ⟨_, rfl⟩
  rw [← hk, ← ha, ← hc] at hag
  have HAG := Lib.hid hag
  have HF := Lib.hid hF
  have HE := Lib.hid he
  clear hok hag hF he
  have e0 := get_e t0.data.toList
  have e1 := get_e t1.data.toList
  have e2 := get_e t2.data.toList
  obtain ⟨r0, h0⟩ : ∃ r, r = getE t0.data.toList := ⟨_, rfl⟩
  obtain ⟨r1, h1⟩ : ∃ r, r = getE t1.data.toList := ⟨_, rfl⟩
  obtain ⟨r2, h2⟩ : ∃ r, r = getE t2.data.toList := ⟨_, rfl⟩
  rw [← h0] at e0
  rw [← h1] at e1
  rw [← h2] at e2
  have H0 := Lib.hid h0
  have H1 := Lib.hid h1
  have H2 := Lib.hid h2
  have HK := Lib.hid hk
  have HA := Lib.hid ha
  have HC := Lib.hid hc
  clear h0 h1 h2 hk ha hc
  rcases e0 with rfl | rfl
  · rcases e1 with rfl | rfl
    · rcases e2 with rfl | rfl
      · go_enter Try.func31, Try.ntmps31
        go_wp2_with (go_at_call 38; (refine (take_calls s _).mono ?_); rw [HF.out, HE.out]; rintro e w1 ⟨v, rfl, hown, hb⟩; obtain ⟨A, cc, rfl, -, -⟩ := own_form hown; obtain ⟨b, off, rfl, hbB, hc0⟩ := (Rd.of_own hown).at_ (k := 1) (u := .string t0) rfl; have hc1 := (Rd.of_own hown).cell_ (k := 3) (u := .string t1) rfl; have hc2 := (Rd.of_own hown).cell_ (k := 5) (u := .string t2) rfl; have hc3 := (Rd.of_own hown).cell_ (k := 7) (u := .string d) rfl; clear hown)
        refine wp_loop_rounds 4 ?_
        rw [rounds_succ]
        go_wp2_with fail
        refine (get_calls t0 _).mono ?_
        rw [← HK.out, ← H0.out]
        rintro e w2 ⟨rfl, hk⟩
        have HA2 := Lib.hid ((Arr.new w1 0 0 0 71).call hk)
        have hb2 : Below w1.heap.size w1 w2 := bel_call (bel_alloc (Below.refl _ _) _) hk
        have HB2 := Lib.hid hb2
        obtain ⟨hA0, hA1, hA2, hA3, hA4⟩ := HA2.out
        have hf := hA4 0
        have hd1 := (hb2.cell (p := ⟨b, off + 3, none⟩) hbB).trans hc1
        clear hA4 hk hb2 hA0
        go_wp2_with fail
        rw [rounds_succ]
        go_wp2_with fail
        refine (get_calls t1 _).mono ?_
        rw [← HA.out, ← H1.out]
        rintro e w3 ⟨rfl, hk⟩
        have HA3 := Lib.hid ((HA2.out.set0 k).call hk)
        have hb3 : Below w1.heap.size w1 w3 := bel_call (HB2.out.setCell (p := ⟨w1.heap.size, 0, none⟩) (Nat.le_refl _) _) hk
        have HB3 := Lib.hid hb3
        clear hA1 hA2 hA3 hf hd1
        obtain ⟨hA0, hA1, hA2, hA3, hA4⟩ := HA3.out
        have hf := hA4 1
        have hd2 := (hb3.cell (p := ⟨b, off + 5, none⟩) hbB).trans hc2
        clear hA4 hk hb3 hA0
        go_wp2_with fail
        rw [rounds_succ]
        go_wp2_with fail
        refine (get_calls t2 _).mono ?_
        rw [← HC.out, ← H2.out]
        rintro e w4 ⟨rfl, hk⟩
        have HA4 := Lib.hid ((HA3.out.set1 a).call hk)
        have hb4 : Below w1.heap.size w1 w4 := bel_call (HB3.out.setCell (p := ⟨w1.heap.size, 1, none⟩) (Nat.le_refl _) _) hk
        have HB4 := Lib.hid hb4
        clear hA1 hA2 hA3 hf hd2
        obtain ⟨hA0, hA1, hA2, hA3, hA4⟩ := HA4.out
        have hf := hA4 2
        have hb5 : Below w1.heap.size w1 (w4.setCell ⟨w1.heap.size, 2, none⟩ (.int .i64 c)) := hb4.setCell (p := ⟨w1.heap.size, 2, none⟩) (Nat.le_refl _) _
        obtain ⟨wz, hwz⟩ : ∃ wz, wz = w4.setCell ⟨w1.heap.size, 2, none⟩ (.int .i64 c) := ⟨_, rfl⟩
        have HZ := Lib.hid hwz
        have HB5 := Lib.hid hb5
        clear hA4 hk hb4 hA0 hwz hb5
        go_wp2_with fail
        rw [rounds_succ]
        clear hA1 hA2 hA3 hf
        have hA := HA4.out.set2 c
        have hb5 := HB5.out
        rw [← HZ.out] at hA hb5 ⊢
        have hd3 := (hb5.cell (p := ⟨b, off + 7, none⟩) hbB).trans hc3
        have HB6 := Lib.hid hb5
        obtain ⟨hA0, hA1, hA2, hA3, -⟩ := hA
        clear hb5 hc0 hc1 hc2 hc3 hA0 HB5 HZ
        go_wp2_with fail
        go_quiet (fail)
        have hbq : Below w1.heap.size w1 (wz.drewN nq) := below_drewN HB6.out nq
        have HBQ := Lib.hid hbq
        clear hbq hA1 hA2 hA3 hd3
        by_cases hR : ReqP k a c d
        · obtain ⟨sb, hsb⟩ : ∃ sb, sb = layB (reqF k a c d) := ⟨_, rfl⟩
          have HSB := Lib.hid hsb
          have HRP := Lib.hid hR
          by_cases hs : sb = s
          · have hfin : ReqP k a c d ∧ s = layB (reqF k a c d) := ⟨hR, by rw [← hs, hsb]⟩
            have HFIN := Lib.hid hfin
            subst hs
            clear hfin hR hsb
            go_wp2_with (go_at_call 9; (refine (lay20_yes k a c d sb _ hd HRP.out HSB.out).mono ?_); rintro e w5 ⟨rfl, hk⟩; have HK5 := Lib.hid hk; clear hk)
            refine bodyPost_ret (v := .tuple #[.int .i64 k, .int .i64 a, .int .i64 c, .string d, .bool true]) (by simp [results, Try.results31, go_sem]) rfl ?_
            exact ⟨k, a, c, d, true, rfl, (fun _ => HFIN.out), (fun h => by cases h), bel_call (bel_call hb HBQ.out) HK5.out⟩
          · have hno : ¬ IsReq s := fun h => hs (by rw [hsb]; exact (HAG.out.1 h).2.2.2.2)
            have HNO := Lib.hid hno
            have hne2 : (sb.toList == s.toList) = false := by
              rw [beq_eq_false_iff_ne]
              intro h
              rw [Lib.toList_data, Lib.toList_data] at h
              exact hs (ba_eq h)
            clear hno hR hsb hs
            go_wp2_with (go_at_call 9; (refine (lay20_yes k a c d sb _ hd HRP.out HSB.out).mono ?_); rintro e w5 ⟨rfl, hk⟩; have HK5 := Lib.hid hk; clear hk)
            refine bodyPost_ret (v := .tuple #[.int .i64 k, .int .i64 a, .int .i64 c, .string d, .bool false]) (by simp [results, Try.results31, go_sem]) rfl ?_
            exact ⟨k, a, c, d, false, rfl, (fun h => by cases h), (fun _ => HNO.out), bel_call (bel_call hb HBQ.out) HK5.out⟩
        · have hno : ¬ IsReq s := fun h => hR (HAG.out.1 h).2.2.2.1
          have HNO := Lib.hid hno
          have HRN := Lib.hid hR
          clear hno hR
          go_wp2_with (go_at_call 9; (refine (lay20_no k a c d _ hd HRN.out).mono ?_); rintro e w5 ⟨rfl, hk⟩; have HK5 := Lib.hid hk; clear hk)
          refine bodyPost_ret (v := .tuple #[.int .i64 k, .int .i64 a, .int .i64 c, .string d, .bool false]) (by simp [results, Try.results31, go_sem]) rfl ?_
          exact ⟨k, a, c, d, false, rfl, (fun h => by cases h), (fun _ => HNO.out), bel_call (bel_call hb HBQ.out) HK5.out⟩
      · have hno : ¬ IsReq s := fun h => by have h1 := (HAG.out.1 h).2.2.1; have h2 := H2.out; omega
        have HNO := Lib.hid hno
        clear hno
        go_enter Try.func31, Try.ntmps31
        go_wp2_with (go_at_call 38; (refine (take_calls s _).mono ?_); rw [HF.out, HE.out]; rintro e w1 ⟨v, rfl, hown, hb⟩; obtain ⟨A, cc, rfl, -, -⟩ := own_form hown; obtain ⟨b, off, rfl, hbB, hc0⟩ := (Rd.of_own hown).at_ (k := 1) (u := .string t0) rfl; have hc1 := (Rd.of_own hown).cell_ (k := 3) (u := .string t1) rfl; have hc2 := (Rd.of_own hown).cell_ (k := 5) (u := .string t2) rfl; have hc3 := (Rd.of_own hown).cell_ (k := 7) (u := .string d) rfl; clear hown)
        refine wp_loop_rounds 4 ?_
        rw [rounds_succ]
        go_wp2_with fail
        refine (get_calls t0 _).mono ?_
        rw [← HK.out, ← H0.out]
        rintro e w2 ⟨rfl, hk⟩
        have HA2 := Lib.hid ((Arr.new w1 0 0 0 71).call hk)
        have hb2 : Below w1.heap.size w1 w2 := bel_call (bel_alloc (Below.refl _ _) _) hk
        have HB2 := Lib.hid hb2
        obtain ⟨hA0, hA1, hA2, hA3, hA4⟩ := HA2.out
        have hf := hA4 0
        have hd1 := (hb2.cell (p := ⟨b, off + 3, none⟩) hbB).trans hc1
        clear hA4 hk hb2 hA0
        go_wp2_with fail
        rw [rounds_succ]
        go_wp2_with fail
        refine (get_calls t1 _).mono ?_
        rw [← HA.out, ← H1.out]
        rintro e w3 ⟨rfl, hk⟩
        have HA3 := Lib.hid ((HA2.out.set0 k).call hk)
        have hb3 : Below w1.heap.size w1 w3 := bel_call (HB2.out.setCell (p := ⟨w1.heap.size, 0, none⟩) (Nat.le_refl _) _) hk
        have HB3 := Lib.hid hb3
        clear hA1 hA2 hA3 hf hd1
        obtain ⟨hA0, hA1, hA2, hA3, hA4⟩ := HA3.out
        have hf := hA4 1
        have hd2 := (hb3.cell (p := ⟨b, off + 5, none⟩) hbB).trans hc2
        clear hA4 hk hb3 hA0
        go_wp2_with fail
        rw [rounds_succ]
        go_wp2_with fail
        refine (get_calls t2 _).mono ?_
        rw [← HC.out, ← H2.out]
        rintro e w4 ⟨rfl, hk⟩
        have HBf := Lib.hid (bel_call (HB3.out.setCell (p := ⟨w1.heap.size, 1, none⟩) (Nat.le_refl _) _) hk)
        clear hk
        go_wp2_with fail
        refine bodyPost_ret (v := .tuple #[.int .i64 0, .int .i64 0, .int .i64 0, .string ⟨#[]⟩, .bool false]) (by simp [results, Try.results31, go_sem]) rfl ?_
        exact ⟨0, 0, 0, ⟨#[]⟩, false, rfl, (fun h => by cases h), (fun _ => HNO.out), bel_call hb HBf.out⟩
    · have hno : ¬ IsReq s := fun h => by have h1 := (HAG.out.1 h).2.1; have h2 := H1.out; omega
      have HNO := Lib.hid hno
      clear hno
      go_enter Try.func31, Try.ntmps31
      go_wp2_with (go_at_call 38; (refine (take_calls s _).mono ?_); rw [HF.out, HE.out]; rintro e w1 ⟨v, rfl, hown, hb⟩; obtain ⟨A, cc, rfl, -, -⟩ := own_form hown; obtain ⟨b, off, rfl, hbB, hc0⟩ := (Rd.of_own hown).at_ (k := 1) (u := .string t0) rfl; have hc1 := (Rd.of_own hown).cell_ (k := 3) (u := .string t1) rfl; have hc2 := (Rd.of_own hown).cell_ (k := 5) (u := .string t2) rfl; have hc3 := (Rd.of_own hown).cell_ (k := 7) (u := .string d) rfl; clear hown)
      refine wp_loop_rounds 4 ?_
      rw [rounds_succ]
      go_wp2_with fail
      refine (get_calls t0 _).mono ?_
      rw [← HK.out, ← H0.out]
      rintro e w2 ⟨rfl, hk⟩
      have HA2 := Lib.hid ((Arr.new w1 0 0 0 71).call hk)
      have hb2 : Below w1.heap.size w1 w2 := bel_call (bel_alloc (Below.refl _ _) _) hk
      have HB2 := Lib.hid hb2
      obtain ⟨hA0, hA1, hA2, hA3, hA4⟩ := HA2.out
      have hf := hA4 0
      have hd1 := (hb2.cell (p := ⟨b, off + 3, none⟩) hbB).trans hc1
      clear hA4 hk hb2 hA0
      go_wp2_with fail
      rw [rounds_succ]
      go_wp2_with fail
      refine (get_calls t1 _).mono ?_
      rw [← HA.out, ← H1.out]
      rintro e w3 ⟨rfl, hk⟩
      have HBf := Lib.hid (bel_call (HB2.out.setCell (p := ⟨w1.heap.size, 0, none⟩) (Nat.le_refl _) _) hk)
      clear hk
      go_wp2_with fail
      refine bodyPost_ret (v := .tuple #[.int .i64 0, .int .i64 0, .int .i64 0, .string ⟨#[]⟩, .bool false]) (by simp [results, Try.results31, go_sem]) rfl ?_
      exact ⟨0, 0, 0, ⟨#[]⟩, false, rfl, (fun h => by cases h), (fun _ => HNO.out), bel_call hb HBf.out⟩
  · have hno : ¬ IsReq s := fun h => by have h1 := (HAG.out.1 h).1; have h2 := H0.out; omega
    have HNO := Lib.hid hno
    clear hno
    go_enter Try.func31, Try.ntmps31
    go_wp2_with (go_at_call 38; (refine (take_calls s _).mono ?_); rw [HF.out, HE.out]; rintro e w1 ⟨v, rfl, hown, hb⟩; obtain ⟨A, cc, rfl, -, -⟩ := own_form hown; obtain ⟨b, off, rfl, hbB, hc0⟩ := (Rd.of_own hown).at_ (k := 1) (u := .string t0) rfl; have hc1 := (Rd.of_own hown).cell_ (k := 3) (u := .string t1) rfl; have hc2 := (Rd.of_own hown).cell_ (k := 5) (u := .string t2) rfl; have hc3 := (Rd.of_own hown).cell_ (k := 7) (u := .string d) rfl; clear hown)
    refine wp_loop_rounds 4 ?_
    rw [rounds_succ]
    go_wp2_with fail
    refine (get_calls t0 _).mono ?_
    rw [← HK.out, ← H0.out]
    rintro e w2 ⟨rfl, hk⟩
    have HBf : Hid (Below w1.heap.size w1 w2) := Lib.hid (bel_call (bel_alloc (Below.refl _ _) _) hk)
    clear hk
    go_wp2_with fail
    refine bodyPost_ret (v := .tuple #[.int .i64 0, .int .i64 0, .int .i64 0, .string ⟨#[]⟩, .bool false]) (by simp [results, Try.results31, go_sem]) rfl ?_
    exact ⟨0, 0, 0, ⟨#[]⟩, false, rfl, (fun h => by cases h), (fun _ => HNO.out), bel_call hb HBf.out⟩

theorem heard_calls (s : ByteArray) (w : World) : Calls Try.prog 31 #[.string s] w (HeardPost s w) := by
  by_cases h : takeE s.data.toList ≠ 0 ∨ (takeF s.data.toList).length ≠ 4
  · exact heard_few s w h
  · obtain ⟨i0, t0, i1, t1, i2, t2, i3, d, hF⟩ := four_of (l := takeF s.data.toList) (by omega)
    exact heard_four s i0 i1 i2 i3 t0 t1 t2 d w (by omega) hF
end Go.Proofs.Ytekjhhiamboffaa
