/-
  The contracts of the laws' helpers Stripe and named, and of package plan's blocks, Got and Made. Condition: the geometry is right, the column bears blocks, texts are blocks.
-/
import Derived.Test.YtaahakmngdjdfaaPlanGotMath
import Derived.Test.YtaahakmngdjdfaaXorWalks
import Derived.Test.YtaahakmngdjdfaaTexts2
import Derived.Test.YtaahakmngdjdfaaRef01
import Derived.Test.YtaahakmngdjdfaaPlanNeeds
namespace Go.Proofs.Ytaahakmngdjdfaa
open Go.RowKit

theorem blocks_all (l : List ByteArray) (A : Option Addr) (n : Nat) (n' : Int) (c : Nat) (w : World) (hr : Rd w w.heap.size A (l.map Value.string)) (hl : l.length = n) (hn' : n' = n) (hn : n ≤ 64) (hs : ∀ s ∈ l, s.size = 16) :
    Calls Try.prog 35 #[.slice A n c, .int .i64 n'] w fun e w' => e = .returned (.bool true) ∧ w = w' := by
  subst hn'
  have HR := Lib.hid hr
  have HL := Lib.hid hl
  have HS := Lib.hid hs
  clear hr hl hs
  go_enter Try.func35, Try.ntmps35
  go_wp2
  go_loop [13] (fun i => ∃ k : Nat, k ≤ n ∧ i = .int .i64 k) (fun i => n - (intOf i).toNat)
  case atStart => exact ⟨0, Nat.zero_le _, rfl⟩
  case round =>
    obtain ⟨k, hk, rfl⟩ := hrel
    by_cases hlt : k < n
    · have hkl : k < l.length := by rw [HL.out]; exact hlt
      obtain ⟨b, off, rfl, hbB, hc⟩ := HR.out.at_ (k := k) (u := .string l[k]) (by simp [hkl])
      have hsz := HS.out _ (List.getElem_mem hkl)
      have hb : ((l[k].size : Int) != 16) = false := by rw [hsz]; rfl
      clear hsz
      go_wp2
      go_round
      case rel => exact ⟨k + 1, by omega, by go_num⟩
      case measure => simp [intOf]; omega
    · go_wp2
      go_ret
      exact ⟨rfl, rfl⟩

set_option maxHeartbeats 1000000 in
theorem named_calls (L : List ByteArray) (cs : List Int) (A B : Option Addr) (n m c d : Nat) (w : World) (hra : Rd w w.heap.size A (L.map Value.string)) (hrb : Rd w w.heap.size B (intCells cs)) (hl : L.length = n) (hm : cs.length = m) (_hn6 : n ≤ 64) (hm6 : m ≤ 64)
    (hin : ∀ x ∈ cs, 0 ≤ x ∧ x < (n : Int)) :
    Calls Try.prog 19 #[.slice A n c, .slice B m d] w fun e w' => ∃ v, e = .returned v ∧ w'.ownsRow w.heap.size 9 1 v m ((pickL L cs).map Value.string) ∧ Below w.heap.size w w' := by
  obtain ⟨iS, hiS, hzS, hsS, hbS⟩ := info_parts string_info
  have HA := Lib.hid hra
  have HB := Lib.hid hrb
  have HL := Lib.hid hl
  have HM := Lib.hid hm
  have HI := Lib.hid hin
  clear hra hrb hl hm hin
  go_enter Try.func19, Try.ntmps19
  go_wp2
  go_loopw [5, 6] (fun v i wr => ∃ k : Nat, k ≤ m ∧ i = .int .i64 k ∧ wr.ownsRow w.heap.size 9 1 v k ((pickL L (cs.take k)).map Value.string) ∧ Below w.heap.size w wr) (fun _ i _ => m - (intOf i).toNat)
  case atStart => exact ⟨0, Nat.zero_le _, rfl, World.ownsRow_nil _ _ _ _, Below.refl _ _⟩
  case round =>
    obtain ⟨k, hk, rfl, hown, hb⟩ := hrel
    have hbsz := hb.size
    have HO := Lib.hid hown
    clear hown
    by_cases hlt : k < m
    · have hkl : k < cs.length := by rw [HM.out]; exact hlt
      obtain ⟨b, off, rfl, hbB, hc⟩ := (HB.out.below hb).at_ (intCells_at hkl)
      have hpk := pickL_snoc L (cs.take k) cs[k]
      rw [← List.take_succ_eq_append_getElem hkl] at hpk
      have hx := HI.out _ (List.getElem_mem hkl)
      obtain ⟨x, hxe⟩ : ∃ x, x = cs[k] := ⟨_, rfl⟩
      rw [← hxe] at hc hpk hx
      clear hxe
      obtain ⟨x1, x2⟩ := hx
      obtain ⟨y, rfl⟩ := Int.eq_ofNat_of_zero_le x1
      rw [Int.toNat_natCast] at hpk
      have hyl : y < L.length := by rw [HL.out]; omega
      obtain ⟨s, hs⟩ : ∃ s, s = L.getD y ⟨#[]⟩ := ⟨_, rfl⟩
      rw [← hs] at hpk
      rw [col_eq hyl] at hs
      obtain ⟨b', off', rfl, hbB', hd⟩ := (HA.out.below hb).at_ (k := y) (u := .string L[y]) (by simp [hyl])
      rw [← hs] at hd
      have HP := Lib.hid hpk
      have hyn : y < n := by omega
      have d1 : decide ((y : Int) < 0) = false := decide_eq_false (by omega)
      have d2 : decide (n ≤ y) = false := decide_eq_false (by omega)
      clear hpk hs x1 x2
      go_wp2_with (at_builtin; (refine wpList_append_own _ rfl (.tmp 27) (.tmp 35) 40 rfl w.heap.size 9 iS _ 1 16 Try.underlying40 hiS hzS hsS hbS rfl (by decide) _ k _ rfl (HO.out.alloc _) ⟨wr.heap.size, 0, none⟩ 1 1 [.string s] rfl rfl (newCell _ _ _) (oneString _) (by unfold maxLen; omega) (by omega) (by simp; omega) ?_); intro v3 w3 hown3 hgrow3 _; have HO3 := Lib.hid hown3; have HG3 := Lib.hid hgrow3; clear hown3 hgrow3)
      go_roundw
      case rel => exact ⟨k + 1, by omega, by go_num, by rw [HP.out, List.map_append]; exact HO3.out, (hb.alloc hbsz _).grown HG3.out (by simp; omega) (fun j hj => (HO.out.lt j hj).1)⟩
      case measure => simp [intOf]; omega
    · have hkm : k = m := by omega
      have HK := Lib.hid hkm
      have htk : cs.take k = cs := List.take_of_length_le (by rw [HM.out, HK.out]; exact Nat.le_refl _)
      have HT := Lib.hid htk
      clear hkm htk
      go_wp2
      go_ret
      refine ⟨_, rfl, ?_, hb⟩
      have h := HO.out
      rw [HT.out, HK.out] at h
      exact h
theorem named_yes (L : List ByteArray) (cs : List Int) (A B : Option Addr) (n m c d : Nat) (w : World) (hra : Rd w w.heap.size A (L.map Value.string)) (hrb : Rd w w.heap.size B (intCells cs)) (hl : L.length = n) (hm : cs.length = m) (hn6 : n ≤ 64) (hm6 : m ≤ 64)
    (hin : ∀ x ∈ cs, 0 ≤ x ∧ x < (n : Int)) :
    Calls Try.prog 19 #[.slice A n c, .slice B m d] w fun e w' => ∃ (C : Option Addr) (cc : Nat), e = .returned (.slice C m cc) ∧ m ≤ cc ∧ cc ≤ maxLen ∧ Rd w' w'.heap.size C ((pickL L cs).map Value.string) ∧ Below w.heap.size w w' := by
  refine (named_calls L cs A B n m c d w hra hrb hl hm hn6 hm6 hin).mono ?_
  rintro e w' ⟨v, rfl, hown, hb⟩
  obtain ⟨C, cc, rfl, h1, h2⟩ := own_form hown
  exact ⟨C, cc, rfl, h1, h2, Rd.of_own hown, hb⟩

theorem own_rebase {w : World} {base base' : Nat} {e : TypeId} {size n : Nat} {v : Value} {xs : List Value} (h : w.ownsRow base e size v n xs) (hb : base' ≤ base) : w.ownsRow base' e size v n xs := by
  refine ⟨h.1, ?_⟩
  rcases h.2 with h2 | ⟨g, cap, cur, hv, hg, r⟩
  · exact .inl h2
  · exact .inr ⟨g, cap, cur, hv, Nat.le_trans hb hg, r⟩
theorem ref_all_n (n0 : Nat) (L : List ByteArray) (A : Option Addr) (n c : Nat) (w : World) (hr : Rd w w.heap.size A (L.map Value.string)) (hsz : ∀ s ∈ L, s.size = n0) (hln : L.length = n) (h0 : 0 < n) (hn : n ≤ maxLen) (hn0 : n0 ≤ maxLen) :
    Calls Try.prog 22 #[.slice A n c] w fun e w' => e = .returned (.tuple #[.string (sumX n0 L), .int .i64 0]) ∧ Below w.heap.size w w' := by
  cases L with
  | nil => simp at hln; omega
  | cons a l =>
    have h := ref_all_some a l A n c w hr (by rw [hsz a (by simp)]; exact hn0) hn hln
    have e : missR a l = (sumX n0 (a :: l), 0) := allR_ok (by simp) hsz
    rw [e] at h
    exact h

set_option maxHeartbeats 1000000 in
theorem stripe_yes (N : Nat) (S : Int) (raw : List ByteArray) (A : Option Addr) (n c : Nat) (w : World) (h1 : 3 ≤ N) (h2 : N ≤ 6) (hr : Rd w w.heap.size A (raw.map Value.string)) (hln : raw.length = n) (hn : n ≤ maxLen) :
    Calls Try.prog 17 #[.agg #[.int .i64 N, .int .i64 S], .slice A n c] w fun e w' => ∃ (g cc : Nat) (L : List ByteArray), e = .returned (.slice (some ⟨g, 0, none⟩) N cc) ∧ w.heap.size ≤ g ∧ g < w'.heap.size ∧ N ≤ cc ∧ cc ≤ maxLen ∧
      L.length = N ∧ (∀ s ∈ L, s.size = 16) ∧ sumX 16 L = zeroB 16 ∧ w'.ownsRow w.heap.size 9 1 (.slice (some ⟨g, 0, none⟩) N cc) N (L.map Value.string) ∧ Below w.heap.size w w' := by
  obtain ⟨iS, hiS, hzS, hsS, hbS⟩ := info_parts string_info
  have HR := Lib.hid hr
  have HN := Lib.hid hln
  have HNM := Lib.hid hn
  clear hr hln hn
  go_enter Try.func17, Try.ntmps17
  go_wp2_with (go_at_call 20; (refine (texts_some raw A n c _ _ (N - 1) 16 _ (rdi_alloc HR.out _) HN.out HNM.out (by omega) rfl (by omega) (by omega) (by omega)).mono ?_); rintro e wt ⟨g, cc, L, hL, rfl, hg1, hg2, hmc, hcc, hLl, hLs, hown, hbt⟩; have HO := Lib.hid hown; have HLL := Lib.hid hLl; have HLS := Lib.hid hLs; have HCC := Lib.hid hcc; have HB := Lib.hid hbt; clear hL hLl hLs hown hbt hcc)
  refine (ref_all_n 16 L _ (N - 1) cc _ (Rd.of_own HO.out) HLS.out HLL.out (by omega) (by unfold maxLen; omega) (by unfold maxLen; omega)).mono ?_
  rintro e wa ⟨rfl, hk⟩
  have HK := Lib.hid hk
  have HO2 := Lib.hid (own_keep_below HO.out hk (Nat.le_refl _))
  have hsz1 := HB.out.size
  have hsz2 := hk.size
  clear hk
  obtain ⟨p, hp⟩ : ∃ p, p = sumX 16 L := ⟨_, rfl⟩
  rw [← hp]
  have HP := Lib.hid hp
  clear hp
  go_wp2_with (at_builtin; (refine wpList_append_own _ rfl (.tmp 18) (.tmp 20) 40 rfl (w.alloc (geoBox N S)).heap.size 9 iS _ 1 16 Try.underlying40 hiS hzS hsS hbS rfl (by decide) _ (N - 1) _ rfl (HO2.out.alloc _) ⟨wa.heap.size, 0, none⟩ 1 1 [.string p] rfl rfl (newCell _ _ _) (oneString _) (by unfold maxLen; omega) (by omega) (by simp at *; omega) ?_); intro v3 w3 hown3 hgrow3 _; have HO3 := Lib.hid hown3; have HG3 := Lib.hid hgrow3; clear hown3 hgrow3)
  go_ret
  have ho := HO3.out
  rw [show N - 1 + 1 = N by omega] at ho
  obtain ⟨g3, c3, rfl, q1, q2, q3, q4⟩ := own_some ho (by omega)
  refine ⟨g3, c3, L ++ [p], rfl, ?_, q2, q3, q4, ?_, ?_, ?_, ?_, ?_⟩
  · simp at q1; omega
  · rw [List.length_append, HLL.out]; simp; omega
  · intro s hs
    rcases List.mem_append.1 hs with h | h
    · exact HLS.out s h
    · rw [List.mem_singleton.1 h, HP.out]; exact sumX_size HLS.out
  · rw [HP.out]; exact sumX_parity HLS.out
  · rw [List.map_append]; exact own_rebase ho (by simp)
  · have hb1 := bel_call (geo_below HB.out) HK.out
    exact (bel_alloc hb1 _).grown HG3.out (by simp; have := hb1.size; omega) (fun j hj => by have := (HO2.out.lt j hj).1; simp at this; omega)

theorem fetch_m (N m : Nat) (S c o : Int) (w : World) (hm : (fetchR N c o).length = m) (h1 : 3 ≤ N) (h2 : N ≤ 6) (h3 : 1 ≤ S) (h4 : S ≤ 8) (c1 : 0 ≤ c) (c2 : c < (N : Int) - 1) (o1 : -1 ≤ o) (o2 : o ≤ (N : Int) - 1) :
    Calls Try.prog 15 #[.agg #[.int .i64 N, .int .i64 S], .int .i64 c, .int .i64 o] w fun e w' => ∃ (A B : Option Addr) (ca cb bl : Nat), bl = (fetchB N c o).length ∧ e = .returned (.tuple #[.slice A m ca, .slice B bl cb, .int .i64 0]) ∧
      Rd w' w'.heap.size A (intCells (fetchR N c o)) ∧ Rd w' w'.heap.size B (intCells (fetchB N c o)) ∧ Below w.heap.size w w' := by
  subst hm
  refine (fetch_yes N S c o w h1 h2 h3 h4 c1 c2 o1 o2).mono ?_
  rintro e w' ⟨A, B, ca, cb, rfl, r1, r2, hb⟩
  exact ⟨A, B, ca, cb, _, rfl, rfl, r1, r2, hb⟩
theorem update_m (N m u : Nat) (S c o : Int) (w : World) (hm : (updR N c o).length = m) (hu : (updW N c o).length = u) (h1 : 3 ≤ N) (h2 : N ≤ 6) (h3 : 1 ≤ S) (h4 : S ≤ 8) (c1 : 0 ≤ c) (c2 : c < (N : Int) - 1) (o1 : -1 ≤ o) (o2 : o ≤ (N : Int) - 1) :
    Calls Try.prog 16 #[.agg #[.int .i64 N, .int .i64 S], .int .i64 c, .int .i64 o] w fun e w' => ∃ (A B : Option Addr) (ca cb : Nat), e = .returned (.tuple #[.slice A m ca, .slice B u cb, .int .i64 0]) ∧
      Rd w' w'.heap.size A (intCells (updR N c o)) ∧ Rd w' w'.heap.size B (intCells (updW N c o)) ∧ Below w.heap.size w w' := by
  subst hm hu
  exact update_yes N S c o w h1 h2 h3 h4 c1 c2 o1 o2

theorem fetchR_pos {N : Nat} {c o : Int} (h1 : 3 ≤ N) (h2 : N ≤ 6) (c1 : 0 ≤ c) (c2 : c < (N : Int) - 1) : 0 < (fetchR N c o).length := by
  unfold fetchR
  split
  · rw [othersL_len h2 c1 (by omega)]; omega
  · simp

set_option maxHeartbeats 1000000 in
theorem got_yes (N m : Nat) (S c o : Int) (R : List ByteArray) (C : Option Addr) (cc : Nat) (w : World) (hm : (fetchR N c o).length = m) (hR : R.length = m) (hs : ∀ s ∈ R, s.size = 16) (hr : Rd w w.heap.size C (R.map Value.string)) (hcc1 : m ≤ cc) (hcc2 : cc ≤ maxLen)
    (h1 : 3 ≤ N) (h2 : N ≤ 6) (h3 : 1 ≤ S) (h4 : S ≤ 8) (c1 : 0 ≤ c) (c2 : c < (N : Int) - 1) (o1 : -1 ≤ o) (o2 : o ≤ (N : Int) - 1) :
    Calls Try.prog 18 #[.agg #[.int .i64 N, .int .i64 S], .int .i64 c, .int .i64 o, .slice C m cc] w fun e w' => e = .returned (.tuple #[.string (gotV c o R), .int .i64 0]) ∧ Below w.heap.size w w' := by
  have hm0 : 0 < m := by rw [← hm]; exact fetchR_pos h1 h2 c1 c2
  have hm6 : m ≤ 6 := by rw [← hm]; exact Nat.le_trans (fetchR_len c o (by omega)) h2
  have HM := Lib.hid hm
  have HR := Lib.hid hR
  have HS := Lib.hid hs
  have HRD := Lib.hid hr
  have HC := Lib.hid hcc2
  have hR2 := hR
  clear hm hs hcc2 hR
  unfold gotV
  by_cases g : o = c
  · rw [if_pos g]
    subst g
    clear hr hR2
    go_enter Try.func18, Try.ntmps18
    go_wp2_with (first
      | (go_at_call 15; refine (fetch_m N m S o o _ HM.out h1 h2 h3 h4 c1 c2 o1 o2).mono ?_; rintro e w1 ⟨A, B, ca, cb, bl, -, rfl, r1, r2, hk⟩; have hG := bel_call (bel_alloc (Below.refl w.heap.size w) _) hk; clear hk r1 r2)
      | (go_at_call 35; refine (blocks_all R C m _ cc _ (HRD.out.below hG |>.more hG.size) HR.out rfl (by omega) HS.out).mono ?_; rintro e w' ⟨rfl, rfl⟩)
      | (go_at_call 36; refine (all_n 16 R C m cc _ (HRD.out.below hG |>.more hG.size) HS.out HR.out hm0 hcc1 HC.out (by unfold maxLen; omega)).mono ?_; rintro e w2 ⟨rfl, hk⟩; have HK := Lib.hid hk; clear hk))
    go_ret2
    exact ⟨rfl, bel_call hG HK.out⟩
  · rw [if_neg g]
    obtain ⟨s, hse⟩ : ∃ s, s = R.getD 0 ⟨#[]⟩ := ⟨_, rfl⟩
    rw [← hse]
    rw [col_eq (by omega)] at hse
    obtain ⟨b, off, rfl, hbB, hc0⟩ := hr.at_ (k := 0) (u := .string R[0]) (by simp)
    rw [← hse, Nat.add_zero] at hc0
    have q1 : (o == c) = false := by rw [beq_eq_false_iff_ne]; exact g
    clear hr hR2 hse g
    go_enter Try.func18, Try.ntmps18
    go_wp2_with (first
      | (go_at_call 15; refine (fetch_m N m S c o _ HM.out h1 h2 h3 h4 c1 c2 o1 o2).mono ?_; rintro e w1 ⟨A, B, ca, cb, bl, -, rfl, r1, r2, hk⟩; have hG := bel_call (bel_alloc (Below.refl w.heap.size w) _) hk; have hd0 := (hG.cell (p := ⟨b, off, none⟩) hbB).trans hc0; clear hk r1 r2)
      | (go_at_call 35; refine (blocks_all R _ m _ cc _ (HRD.out.below hG |>.more hG.size) HR.out rfl (by omega) HS.out).mono ?_; rintro e w' ⟨rfl, rfl⟩))
    go_ret2
    exact ⟨rfl, hG⟩
end Go.Proofs.Ytaahakmngdjdfaa
