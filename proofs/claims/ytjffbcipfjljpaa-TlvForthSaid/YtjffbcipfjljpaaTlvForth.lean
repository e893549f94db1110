/-
  TlvForth: what is taken up, laid again, is what it was taken from: for any texts, any raw list and number. Condition: counts, numbers and lengths are Go's.
-/
import Derived.Test.YtjffbcipfjljpaaTlvCut
namespace Go.Proofs.Ytjffbcipfjljpaa
open Go.RowKit

theorem forth_law {x : ByteArray} {M : List Fld} (h : takeL 64 x.data.toList = some M) : x = ⟨(layL M).toArray⟩ ∧ allOk M ∧ M.length ≤ 64 := by
  obtain ⟨h1, h2, h3⟩ := takeL_sound h
  exact ⟨by rw [h1, mk_toList], h2, h3⟩

theorem rd_row (w : World) (cs : Array Value) (t : TypeId) (g : Nat) (hg : w.heap.size = g) : Rd (w.alloc (.cells cs t)) (w.alloc (.cells cs t)).heap.size (some ⟨g, 0, none⟩) cs.toList := by
  subst hg
  exact rd_new w cs t
theorem take_none (s : ByteArray) (w : World) (h : takeL 64 s.data.toList = none) :
    Calls Try.prog 13 #[.string s] w fun e w' => ∃ (A : Option Addr) (c : Nat), e = .returned (.tuple #[.slice A 0 c, .int .i64 30]) ∧ Below w.heap.size w w' := by
  refine (take_o s w).mono ?_
  rintro e w' ⟨M, f, A, c, he, hM, -, hb⟩
  rcases hM with ⟨e1, _⟩ | ⟨_, rfl, rfl⟩
  · rw [h] at e1; cases e1
  · exact ⟨A, c, he, hb⟩

set_option maxRecDepth 100000 in
set_option maxHeartbeats 4000000 in
theorem tlvForth_walk (s : ByteArray) (l1 : List Fld) (A1 : Option Addr) (n1 c1 : Nat) (a : Int) (more : ByteArray) (w : World) (_z0 : s.size ≤ 140737488351232) (x1 : Rd w w.heap.size A1 (fldCells l1)) (y1 : l1.length = n1) (_z1 : n1 ≤ maxLen) (g1 : goF l1)
    (p1 : -9223372036854775808 ≤ a) (p2 : a ≤ 9223372036854775807) (z3 : more.size ≤ 140737488351232) :
    Calls Try.prog 5 #[.string s, .slice A1 n1 c1, .int .i64 a, .string more] w fun e w' => e = .returned (.bool true) ∧ Below w.heap.size w w' := by
  have G0 := Lib.hid g1
  clear g1
  go_enter Try.func5, Try.ntmps5
  go_wp2_with (first
    | (go_at_call 10; refine (awake03_calls _).mono ?_; rintro e w1 ⟨rfl, hk⟩; replace x1 := rd_call x1 hk; have hb := hk; clear hk)
    | (go_at_call 20; refine (fit_c l1 A1 n1 c1 _ x1 y1 G0.out).mono ?_; rintro e w2 ⟨La, Aa, ca, rfl, hLa, hca, hoa, hra, hk⟩; obtain ⟨t, ht⟩ : ∃ t : ByteArray, t = ⟨(layL La).toArray⟩ := ⟨_, rfl⟩; have hsb : t.size ≤ 8060 := (by have hll := layL_length hoa; rw [ht, size_mk]; omega); have HOA := Lib.hid hoa; have HT := Lib.hid ht; clear ht hoa; replace hb := bel_call hb hk; clear hk x1)
    | (go_at_call 11; refine (lay_v La Aa ca t _ HT.out (by omega) HOA.out hra).mono ?_; rintro e w4 ⟨rfl, hk⟩; replace hb := bel_call hb hk; clear hk hra)
    | (go_at_call 21; refine (pick03_arg a _ (t.size + 1) _ (by push_cast; rfl) p1 p2 (by omega) (by omega)).mono ?_; rintro e w' ⟨k, hk, rfl, rfl⟩))
  have k1 : (k : Int) ≤ (t.size : Int) := by omega
  have k2 : (0 : Int) ≤ (k : Int) := by omega
  have e1 : (t.extract 0 k).size ≤ 8060 := by rw [ByteArray.size_extract]; omega
  have e2 : (t.extract k t.size).size ≤ 8060 := by rw [ByteArray.size_extract]; omega
  have e3 : (t.extract 0 k ++ more).size ≤ 140737488359292 := by rw [ByteArray.size_append]; omega
  go_quiet (fail)
  replace hb := below_drewN hb nq
  go_wp2_with fail
  clear k1 k2 e1 e2 e3
  go_loopw [44] (fun i wr => ∃ j : Nat, j ≤ 2 ∧ i = .int .i64 j ∧ Rd wr wr.heap.size (some ⟨w4.heap.size, 0, none⟩) [.string s, .string (t.extract 0 k ++ more ++ t.extract k t.size)] ∧ Below w.heap.size w wr) (fun i _ => 2 - (intOf i).toNat)
  case atStart => exact ⟨0, by omega, rfl, rd_row (w4.drewN nq) #[.string s, .string (t.extract 0 k ++ more ++ t.extract k t.size)] 9 _ rfl, bel_alloc hb _⟩
  case round =>
    clear hb
    obtain ⟨j, hj, rfl, hrd, hb⟩ := hrel
    by_cases hlt : j < 2
    · obtain ⟨x, hx⟩ : ∃ x : ByteArray, [Value.string s, Value.string (t.extract 0 k ++ more ++ t.extract k t.size)][j]? = some (.string x) := by
        rcases (show j = 0 ∨ j = 1 by omega) with rfl | rfl
        · exact ⟨_, rfl⟩
        · exact ⟨_, rfl⟩
      have hc := hrd.cell_ hx
      rw [Nat.zero_add] at hc
      have hj2 : (j : Int) < 2 := by omega
      clear hx
      cases hT : takeL 64 x.data.toList with
      | none =>
        have HTT := Lib.hid hT
        clear hT
        go_wp2_with (go_at_call 13; refine (take_none x _ HTT.out).mono ?_; rintro e w5 ⟨Am, cm, rfl, hk⟩; replace hrd := rd_call hrd hk; replace hb := bel_call hb hk; clear hk)
        go_roundw
        case rel => exact ⟨j + 1, by omega, by go_num, hrd, hb⟩
        case measure => simp [intOf]; omega
      | some M =>
        obtain ⟨m1, m2, m3⟩ := forth_law hT
        have M1 := Lib.hid m1
        have M2 := Lib.hid m2
        clear hT m1 m2
        go_wp2_with (first
          | (go_at_call 13; refine (take_v M x _ M1.out m3 M2.out).mono ?_; rintro e w5 ⟨Am, cm, rfl, hrm, hk⟩; replace hrd := rd_call hrd hk; replace hb := bel_call hb hk; clear hk)
          | (go_at_call 11; refine (lay_v M Am cm x _ M1.out m3 M2.out hrm).mono ?_; rintro e w6 ⟨rfl, hk⟩; replace hrd := rd_call hrd hk; replace hb := bel_call hb hk; clear hk hrm))
        go_roundw
        case rel => exact ⟨j + 1, by omega, by go_num, hrd, hb⟩
        case measure => simp [intOf]; omega
    · have hj2 : decide ((j : Int) < 2) = false := decide_eq_false (by omega)
      go_wp2_with fail
      go_ret
      exact ⟨by rfl, hb⟩
end Go.Proofs.Ytjffbcipfjljpaa
