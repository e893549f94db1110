/-
  TlvCut: fields' bytes, cut anywhere, are the fields ahead of the cut, or nothing: for any raw list and number. Condition: counts, numbers and lengths are Go's.
-/
import Derived.Test.YtjffbcipfjljpaaTlvBack
namespace Go.Proofs.Ytjffbcipfjljpaa
open Go.RowKit

theorem fldCells_take (l : List Fld) (k : Nat) : fldCells (l.take k) = (fldCells l).take (k * 2) := by
  induction l generalizing k with
  | nil => simp [fldCells]
  | cons f l ih =>
    cases k with
    | zero => simp [fldCells]
    | succ k => rw [show (k + 1) * 2 = k * 2 + 1 + 1 by omega]; simp only [List.take_succ_cons, fldCells, ih]
theorem lay_split (l : List Fld) (k : Nat) : layL l = layL (l.take k) ++ layL (l.drop k) := by rw [← layL_append, List.take_append_drop]
theorem lay_grow (l : List Fld) {j k : Nat} (h : j ≤ k) : (layL (l.take j)).length ≤ (layL (l.take k)).length := by
  have := lay_split (l.take k) j
  rw [List.take_take, Nat.min_eq_left h] at this
  rw [this, List.length_append]
  omega
/-- where the cut stands between two fields -/
theorem cut_yes {l : List Fld} {k n : Nat} (hok : allOk l) (hl : l.length ≤ 20) (hn : (layL (l.take k)).length = n) : takeL 64 ((layL l).take n) = some (l.take k) := by
  rw [lay_split l k, ← hn, List.take_left]
  exact takeL_lay (fun f hf => hok f (List.mem_of_mem_take hf)) (by rw [List.length_take]; omega)
/-- where it does not -/
theorem cut_no {l : List Fld} {k n : Nat} (hok : allOk l) (hb : ∀ j, j < k → (layL (l.take j)).length < n) (he : k = l.length ∨ n ≤ (layL (l.take k)).length) (hne : (layL (l.take k)).length ≠ n) (hn : n ≤ (layL l).length) :
    takeL 64 ((layL l).take n) = none := by
  cases h : takeL 64 ((layL l).take n) with
  | none => rfl
  | some m =>
    obtain ⟨h1, h2, _⟩ := takeL_sound h
    obtain ⟨h4, h5⟩ := lay_prefix (r := (layL l).drop n) h2 hok (by rw [h1, List.take_append_drop])
    have hlen : (layL (l.take m.length)).length = n := by rw [← h4, h1, List.length_take]; omega
    rcases Nat.lt_trichotomy m.length k with g | g | g
    · have := hb _ g; omega
    · exact absurd (by rw [← g]; exact hlen) hne
    · have := lay_grow l (Nat.le_of_lt g)
      omega
theorem lay_next {l : List Fld} {k : Nat} (h : k < l.length) : (layL (l.take (k + 1))).length = (layL (l.take k)).length + 3 + l[k].2.size := by
  rw [layL_step h, List.length_append, List.length_append, byteList_size]
  rfl
theorem fit_c (raw : List Fld) (A : Option Addr) (n c : Nat) (w : World) (hr : Rd w w.heap.size A (fldCells raw)) (hln : raw.length = n) (hgo : goF raw) :
    Calls Try.prog 20 #[.slice A n c] w fun e w' => ∃ (L : List Fld) (A' : Option Addr) (c' : Nat), e = .returned (.slice A' L.length c') ∧ L.length ≤ 20 ∧ L.length ≤ c' ∧ allOk L ∧ Rd w' w'.heap.size A' (fldCells L) ∧ Below w.heap.size w w' := by
  refine (fit03_calls raw A n c w hr hln hgo).mono ?_
  rintro e w' ⟨L, v, he, hL, hok, hown, hb⟩
  obtain ⟨A', c', rfl, hc, -⟩ := own_form hown
  exact ⟨L, A', c', he, hL, hc, hok, Rd.of_own hown, hb⟩
/-- Take of a beginning -/
theorem take_o (s : ByteArray) (w : World) :
    Calls Try.prog 13 #[.string s] w fun e w' => ∃ (M : List Fld) (f : Int) (A : Option Addr) (c : Nat), e = .returned (.tuple #[.slice A M.length c, .int .i64 f]) ∧ ((takeL 64 s.data.toList = some M ∧ f = 0) ∨ (takeL 64 s.data.toList = none ∧ M = [] ∧ f = 30)) ∧ Rd w' w'.heap.size A (fldCells M) ∧ Below w.heap.size w w' := by
  refine (take_calls s w).mono ?_
  rintro e w' ⟨v, he, hown, hb⟩
  obtain ⟨A, c, rfl, -, -⟩ := own_form hown
  refine ⟨_, _, A, c, he, ?_, Rd.of_own hown, hb⟩
  unfold takeF takeE
  cases h : takeL 64 s.data.toList with
  | none => exact Or.inr ⟨rfl, rfl, rfl⟩
  | some m => exact Or.inl ⟨rfl, rfl⟩

set_option maxRecDepth 100000 in
set_option maxHeartbeats 4000000 in
theorem tlvCut_walk (l0 : List Fld) (A0 : Option Addr) (n0 c0 : Nat) (a : Int) (w : World) (x0 : Rd w w.heap.size A0 (fldCells l0)) (y0 : l0.length = n0) (_z0 : n0 ≤ maxLen) (g0 : goF l0)
    (p1 : -9223372036854775808 ≤ a) (p2 : a ≤ 9223372036854775807) :
    Calls Try.prog 8 #[.slice A0 n0 c0, .int .i64 a] w fun e w' => e = .returned (.bool true) ∧ Below w.heap.size w w' := by
  have G0 := Lib.hid g0
  clear g0
  go_enter Try.func8, Try.ntmps8
  go_wp2_with (first
    | (go_at_call 10; refine (awake03_calls _).mono ?_; rintro e w1 ⟨rfl, hk⟩; replace x0 := rd_call x0 hk; have hb := hk; clear hk)
    | (go_at_call 20; refine (fit_c l0 A0 n0 c0 _ x0 y0 G0.out).mono ?_; rintro e w2 ⟨La, Aa, ca, rfl, hLa, hca, hoa, hra, hk⟩; obtain ⟨s, hs⟩ : ∃ s : ByteArray, s = ⟨(layL La).toArray⟩ := ⟨_, rfl⟩; have hsz : s.size = (layL La).length := (by rw [hs, size_mk]); have hsl : s.data.toList = layL La := (by rw [hs, toList_mk]); have hsb : s.size ≤ 8060 := (by have hll := layL_length hoa; omega); have HSZ := Lib.hid hsz; have HOA := Lib.hid hoa; have HS := Lib.hid hs; have HSL := Lib.hid hsl; clear hs hoa hsl hsz; replace hb := bel_call hb hk; clear hk x0)
    | (go_at_call 11; refine (lay_v La Aa ca s _ HS.out (by omega) HOA.out hra).mono ?_; rintro e w4 ⟨rfl, hk⟩; replace hra := rd_call hra hk; replace hb := bel_call hb hk; clear hk)
    | (go_at_call 21; refine (pick03_arg a _ (s.size + 1) _ (by push_cast; rfl) p1 p2 (by omega) (by omega)).mono ?_; rintro e w' ⟨n, hn, rfl, rfl⟩))
  have hnI : (n : Int) ≤ (s.size : Int) := by omega
  go_wp2_with (go_at_call 13; refine (take_o (s.extract 0 n) _).mono ?_; rintro e w5 ⟨M, f, Am, cm, rfl, hM, hrm, hk⟩; have HM := Lib.hid hM; replace hra := rd_call hra hk; replace hb := bel_call hb hk; clear hk hM)
  have hcut : takeL 64 ((layL La).take n) = takeL 64 (s.extract 0 n).data.toList := by rw [ext_list, HSL.out]; rfl
  have HCUT := Lib.hid hcut
  clear hcut
  go_loopw [12, 13] (fun v i wr => ∃ k : Nat, k ≤ La.length ∧ v = .int .i64 ((layL (La.take k)).length : Nat) ∧ i = .int .i64 k ∧ (∀ j, j < k → (layL (La.take j)).length < n) ∧ wr = w5) (fun _ i _ => La.length - (intOf i).toNat)
  case atStart => exact ⟨0, Nat.zero_le _, rfl, rfl, fun j hj => by omega, rfl⟩
  case round =>
    obtain ⟨k, hk, rfl, rfl, hbel, rfl⟩ := hrel
    have HBEL := Lib.hid hbel
    obtain ⟨at_, hat⟩ : ∃ t, t = (layL (La.take k)).length := ⟨_, rfl⟩
    rw [← hat]
    have hat8 : at_ ≤ 8060 := by
      have h1 := layL_length (l := La.take k) (fun f hf => HOA.out f (List.mem_of_mem_take hf))
      rw [List.length_take] at h1
      omega
    have HAT := Lib.hid hat
    clear hat hbel
    by_cases hgo : k < La.length ∧ at_ < n
    · obtain ⟨hlt, hatn⟩ := hgo
      obtain ⟨bb, off, rfl, hbB, -⟩ := hra.at_ (fldCells_tag hlt)
      have hc1 := hra.cell_ (fldCells_text hlt)
      rw [← Nat.add_assoc] at hc1
      have hnext := lay_next hlt
      obtain ⟨u, hu⟩ : ∃ u, u = La[k].2 := ⟨_, rfl⟩
      rw [← hu] at hc1 hnext
      have hu4 : u.size ≤ 400 := by rw [hu]; exact (okF_iff.1 (HOA.out _ (List.getElem_mem hlt))).2.2
      have HNX := Lib.hid hnext
      clear hu hnext
      have d1 : (at_ : Int) < (n : Int) := by omega
      have d2 : (k : Int) < (La.length : Int) := by omega
      go_wp2_with fail
      go_roundw
      case rel =>
        refine ⟨k + 1, by omega, congrArg (Value.int .i64) (by rw [HNX.out, ← HAT.out]; push_cast; rfl), by go_num, fun j hj => ?_, trivial⟩
        rcases (show j < k ∨ j = k by omega) with g | rfl
        · exact HBEL.out j g
        · rw [← HAT.out]; exact hatn
      case measure => simp [intOf]; omega
    · have hor : k = La.length ∨ n ≤ at_ := by omega
      have hka : k ≤ ca := by omega
      by_cases heq : at_ = n
      · have hT : takeL 64 (s.extract 0 n).data.toList = some (La.take k) := by rw [← HCUT.out]; exact cut_yes HOA.out hLa (by rw [← HAT.out]; exact heq)
        obtain ⟨hMe, rfl⟩ : M = La.take k ∧ f = 0 := by
          rcases HM.out with ⟨e1, e2⟩ | ⟨e1, _, _⟩
          · rw [hT] at e1; injection e1 with e1; exact ⟨e1.symm, e2⟩
          · rw [hT] at e1; cases e1
        have hml : M.length = k := by rw [hMe, List.length_take]; omega
        have hrk : Rd wr wr.heap.size Aa (fldCells M) := by rw [hMe, fldCells_take]; exact hra.upto _
        have hne : ((at_ : Int) != (n : Int)) = false := by rw [heq]; exact bne_self_eq_false _
        have HML := Lib.hid hml
        have hx2 : decide ((at_ : Int) < (n : Int)) = false := decide_eq_false (by omega)
        have hkc : (k : Int) ≤ (ca : Int) := by omega
        clear hT hgo heq hMe
        by_cases hx : k < La.length
        all_goals
          go_wp2_with (go_at_call 19; refine (same_calls M M _ _ _ _ _ _ _ hrm hrk HML.out HML.out (by unfold maxLen; omega) (by unfold maxLen; omega)).mono ?_; rw [decide_eq_true rfl]; rintro e w7 ⟨rfl, hk7⟩; replace hb := bel_call hb hk7; clear hk7)
          go_ret
          exact ⟨by rfl, hb⟩
      · have hT : takeL 64 (s.extract 0 n).data.toList = none := by rw [← HCUT.out]; exact cut_no HOA.out HBEL.out (by rw [← HAT.out]; exact hor) (by rw [← HAT.out]; exact heq) (by rw [← HSZ.out]; omega)
        obtain ⟨rfl, rfl⟩ : M = [] ∧ f = 30 := by
          rcases HM.out with ⟨e1, _⟩ | ⟨_, e2, e3⟩
          · rw [hT] at e1; cases e1
          · exact ⟨e2, e3⟩
        have hne : ((at_ : Int) != (n : Int)) = true := by rw [bne_iff_ne]; omega
        clear hT heq
        rcases hor with rfl | hge
        · by_cases hx : La.length < La.length
          · omega
          · go_wp2_with fail
            go_ret
            exact ⟨by rfl, hb⟩
        · have hx2 : decide ((at_ : Int) < (n : Int)) = false := decide_eq_false (by omega)
          by_cases hx : k < La.length
          · go_wp2_with fail
            go_ret
            exact ⟨by rfl, hb⟩
          · go_wp2_with fail
            go_ret
            exact ⟨by rfl, hb⟩
end Go.Proofs.Ytjffbcipfjljpaa
