/-
  TlvNums: Get undoes Num, and Num Get: for any two numbers and any text. Condition: the numbers are Go's.
-/
import Derived.Test.YtjffbcipfjljpaaAwake03
namespace Go.Proofs.Ytjffbcipfjljpaa
open Go.RowKit

theorem num_v (n e : Int) (a : ByteArray) (w : World) (ha : a = ⟨(numT n).toArray⟩) (he : e = numE n) :
    Calls Try.prog 15 #[.int .i64 n] w fun r w' => r = .returned (.tuple #[.string a, .int .i64 e]) ∧ Below w.heap.size w w' := by
  subst ha he
  exact num_calls n w
theorem get_v (n e : Int) (a : ByteArray) (w : World) (hn : n = getN a.data.toList) (he : e = getE a.data.toList) :
    Calls Try.prog 17 #[.string a] w fun r w' => r = .returned (.tuple #[.int .i64 n, .int .i64 e]) ∧ Below w.heap.size w w' := by
  subst hn he
  exact get_calls a w
theorem numE_ok {n : Int} (h : numOk n = true) : numE n = 0 := by unfold numE; rw [if_pos h]
theorem numE_no {n : Int} (h : numOk n = false) : numE n = 30 ∧ numT n = [] := ⟨by unfold numE; rw [if_neg (by rw [h]; simp)], by unfold numT; rw [if_neg (by rw [h]; simp)]⟩
theorem getE_ok {l : List UInt8} (h : getOk l = true) : getE l = 0 := by unfold getE; rw [if_pos h]
theorem getE_no {l : List UInt8} (h : getOk l = false) : getE l = 30 ∧ getN l = 0 := ⟨by unfold getE; rw [if_neg (by rw [h]; simp)], by unfold getN; rw [if_neg (by rw [h]; simp)]⟩
/-- what becomes of the text: nothing, or a number that gives it back -/
theorem text_law (s : ByteArray) : (0 = getN s.data.toList ∧ 30 = getE s.data.toList) ∨ (∃ y : Int, y = getN s.data.toList ∧ 0 = getE s.data.toList ∧ s = ⟨(numT y).toArray⟩ ∧ 0 = numE y) := by
  cases h : getOk s.data.toList with
  | false => exact Or.inl ⟨(getE_no h).2.symm, (getE_no h).1.symm⟩
  | true =>
    obtain ⟨h1, h2⟩ := num_get h
    exact Or.inr ⟨_, rfl, (getE_ok h).symm, by rw [h2, mk_toList], (numE_ok h1).symm⟩
/-- what becomes of the numbers -/
theorem nums_law (n m : Int) : (∃ a : ByteArray, a = ⟨(numT n).toArray⟩ ∧ 30 = numE n ∧ a = ⟨#[]⟩ ∧ (n < -1 ∨ 1099511627776 < n)) ∨
    (∃ a b : ByteArray, ∃ f : Int, a = ⟨(numT n).toArray⟩ ∧ 0 = numE n ∧ b = ⟨(numT m).toArray⟩ ∧ f = numE m ∧ (f = 0 ∨ f = 30) ∧ -1 ≤ n ∧ n ≤ 1099511627776 ∧ n = getN a.data.toList ∧ 0 = getE a.data.toList ∧ (f = 0 → n ≤ m → a.size ≤ b.size)) := by
  cases h : numOk n with
  | false =>
    have h' : ¬ (-1 ≤ n ∧ n ≤ 1099511627776) := of_decide_eq_false h
    exact Or.inl ⟨_, rfl, (numE_no h).1.symm, by rw [(numE_no h).2], by omega⟩
  | true =>
    obtain ⟨h1, h2⟩ := numOk_iff.1 h
    obtain ⟨g1, g2⟩ := get_num h
    refine Or.inr ⟨_, _, _, rfl, (numE_ok h).symm, rfl, rfl, ?_, h1, h2, by rw [toList_mk]; exact g2.symm, by rw [toList_mk]; exact (getE_ok g1).symm, ?_⟩
    · cases hm : numOk m with
      | true => exact Or.inl (numE_ok hm)
      | false => exact Or.inr (numE_no hm).1
    · intro hf hle
      cases hm : numOk m with
      | true => rw [size_mk, size_mk]; exact num_mono h hm hle
      | false => rw [(numE_no hm).1] at hf; exact absurd hf (by decide)

set_option maxRecDepth 100000 in
set_option maxHeartbeats 4000000 in
theorem tlvNums_walk (n m : Int) (s : ByteArray) (w : World) (_x1 : -9223372036854775808 ≤ n) (_x2 : n ≤ 9223372036854775807) (_y1 : -9223372036854775808 ≤ m) (_y2 : m ≤ 9223372036854775807) (_z : s.size ≤ 140737488351232) :
    Calls Try.prog 7 #[.int .i64 n, .int .i64 m, .string s] w fun e w' => e = .returned (.bool true) ∧ Below w.heap.size w w' := by
  rcases nums_law n m with ⟨a, ha, hE, he, hno⟩ | ⟨a, b, f, ha, hE, hbq, hf, hf2, h1, h2, hgn, hge, hlen⟩
  · subst he
    have HA := Lib.hid ha
    have HE := Lib.hid hE
    clear hE ha
    rcases text_law s with ⟨hg1, hg2⟩ | ⟨y, hg1, hg2, hg3, hg4⟩
    · have HG1 := Lib.hid hg1
      have HG2 := Lib.hid hg2
      clear hg1 hg2
      rcases hno with g | g
      · have d1 : decide (-1 ≤ n) = false := decide_eq_false (by omega)
        go_enter Try.func7, Try.ntmps7
        go_wp2_with (first
              | (go_at_call 10; refine (awake03_calls _).mono ?_; rintro e w1 ⟨rfl, hk⟩; have hb := hk; clear hk)
              | (go_at_call_of 15 (Value.int .i64 n); refine (num_v n 30 ⟨#[]⟩ _ HA.out HE.out).mono ?_; rintro e w2 ⟨rfl, hk⟩; replace hb := bel_call hb hk; clear hk)
              | (go_at_call_of 15 (Value.int .i64 m); refine (num_calls m _).mono ?_; rintro e w3 ⟨rfl, hk⟩; replace hb := bel_call hb hk; clear hk)
              | (go_at_call_of 17 (Value.string s); refine (get_v 0 30 s _ HG1.out HG2.out).mono ?_; rintro e w4 ⟨rfl, hk⟩; replace hb := bel_call hb hk; clear hk))
        go_ret
        exact ⟨by rfl, hb⟩
      · have d1 : decide (-1 ≤ n) = true := decide_eq_true (by omega)
        have d2 : decide (n ≤ 1099511627776) = false := decide_eq_false (by omega)
        go_enter Try.func7, Try.ntmps7
        go_wp2_with (first
              | (go_at_call 10; refine (awake03_calls _).mono ?_; rintro e w1 ⟨rfl, hk⟩; have hb := hk; clear hk)
              | (go_at_call_of 15 (Value.int .i64 n); refine (num_v n 30 ⟨#[]⟩ _ HA.out HE.out).mono ?_; rintro e w2 ⟨rfl, hk⟩; replace hb := bel_call hb hk; clear hk)
              | (go_at_call_of 15 (Value.int .i64 m); refine (num_calls m _).mono ?_; rintro e w3 ⟨rfl, hk⟩; replace hb := bel_call hb hk; clear hk)
              | (go_at_call_of 17 (Value.string s); refine (get_v 0 30 s _ HG1.out HG2.out).mono ?_; rintro e w4 ⟨rfl, hk⟩; replace hb := bel_call hb hk; clear hk))
        go_ret
        exact ⟨by rfl, hb⟩
    · have HG1 := Lib.hid hg1
      have HG2 := Lib.hid hg2
      have HG3 := Lib.hid hg3
      have HG4 := Lib.hid hg4
      clear hg1 hg2 hg3 hg4
      rcases hno with g | g
      · have d1 : decide (-1 ≤ n) = false := decide_eq_false (by omega)
        go_enter Try.func7, Try.ntmps7
        go_wp2_with (first
              | (go_at_call 10; refine (awake03_calls _).mono ?_; rintro e w1 ⟨rfl, hk⟩; have hb := hk; clear hk)
              | (go_at_call_of 15 (Value.int .i64 n); refine (num_v n 30 ⟨#[]⟩ _ HA.out HE.out).mono ?_; rintro e w2 ⟨rfl, hk⟩; replace hb := bel_call hb hk; clear hk)
              | (go_at_call_of 15 (Value.int .i64 m); refine (num_calls m _).mono ?_; rintro e w3 ⟨rfl, hk⟩; replace hb := bel_call hb hk; clear hk)
              | (go_at_call_of 17 (Value.string s); refine (get_v y 0 s _ HG1.out HG2.out).mono ?_; rintro e w4 ⟨rfl, hk⟩; replace hb := bel_call hb hk; clear hk)
              | (go_at_call_of 15 (Value.int .i64 y); refine (num_v y 0 s _ HG3.out HG4.out).mono ?_; rintro e w5 ⟨rfl, hk⟩; replace hb := bel_call hb hk; clear hk))
        go_ret
        exact ⟨by rfl, hb⟩
      · have d1 : decide (-1 ≤ n) = true := decide_eq_true (by omega)
        have d2 : decide (n ≤ 1099511627776) = false := decide_eq_false (by omega)
        go_enter Try.func7, Try.ntmps7
        go_wp2_with (first
              | (go_at_call 10; refine (awake03_calls _).mono ?_; rintro e w1 ⟨rfl, hk⟩; have hb := hk; clear hk)
              | (go_at_call_of 15 (Value.int .i64 n); refine (num_v n 30 ⟨#[]⟩ _ HA.out HE.out).mono ?_; rintro e w2 ⟨rfl, hk⟩; replace hb := bel_call hb hk; clear hk)
              | (go_at_call_of 15 (Value.int .i64 m); refine (num_calls m _).mono ?_; rintro e w3 ⟨rfl, hk⟩; replace hb := bel_call hb hk; clear hk)
              | (go_at_call_of 17 (Value.string s); refine (get_v y 0 s _ HG1.out HG2.out).mono ?_; rintro e w4 ⟨rfl, hk⟩; replace hb := bel_call hb hk; clear hk)
              | (go_at_call_of 15 (Value.int .i64 y); refine (num_v y 0 s _ HG3.out HG4.out).mono ?_; rintro e w5 ⟨rfl, hk⟩; replace hb := bel_call hb hk; clear hk))
        go_ret
        exact ⟨by rfl, hb⟩
  · have HA := Lib.hid ha
    have HE := Lib.hid hE
    have HB := Lib.hid hbq
    have HF := Lib.hid hf
    have HGN := Lib.hid hgn
    have HGE := Lib.hid hge
    have d1 : decide (-1 ≤ n) = true := decide_eq_true h1
    have d2 : decide (n ≤ 1099511627776) = true := decide_eq_true h2
    clear ha hE hbq hf hgn hge
    rcases text_law s with ⟨hg1, hg2⟩ | ⟨y, hg1, hg2, hg3, hg4⟩
    · have HG1 := Lib.hid hg1
      have HG2 := Lib.hid hg2
      clear hg1 hg2
      rcases hf2 with rfl | rfl
      · by_cases hle : n ≤ m
        · have hsz : a.size ≤ b.size := hlen rfl hle
          clear hlen
          go_enter Try.func7, Try.ntmps7
          go_wp2_with (first
                | (go_at_call 10; refine (awake03_calls _).mono ?_; rintro e w1 ⟨rfl, hk⟩; have hb := hk; clear hk)
                | (go_at_call_of 15 (Value.int .i64 n); refine (num_v n 0 a _ HA.out HE.out).mono ?_; rintro e w2 ⟨rfl, hk⟩; replace hb := bel_call hb hk; clear hk)
                | (go_at_call_of 15 (Value.int .i64 m); refine (num_v m _ b _ HB.out HF.out).mono ?_; rintro e w3 ⟨rfl, hk⟩; replace hb := bel_call hb hk; clear hk)
                | (go_at_call_of 17 (Value.string a); refine (get_v n 0 a _ HGN.out HGE.out).mono ?_; rintro e w6 ⟨rfl, hk⟩; replace hb := bel_call hb hk; clear hk)
                | (go_at_call_of 17 (Value.string s); refine (get_v 0 30 s _ HG1.out HG2.out).mono ?_; rintro e w4 ⟨rfl, hk⟩; replace hb := bel_call hb hk; clear hk))
          go_ret
          exact ⟨by rfl, hb⟩
        · have d4 : decide (n ≤ m) = false := decide_eq_false hle
          clear hlen hle
          go_enter Try.func7, Try.ntmps7
          go_wp2_with (first
                | (go_at_call 10; refine (awake03_calls _).mono ?_; rintro e w1 ⟨rfl, hk⟩; have hb := hk; clear hk)
                | (go_at_call_of 15 (Value.int .i64 n); refine (num_v n 0 a _ HA.out HE.out).mono ?_; rintro e w2 ⟨rfl, hk⟩; replace hb := bel_call hb hk; clear hk)
                | (go_at_call_of 15 (Value.int .i64 m); refine (num_v m _ b _ HB.out HF.out).mono ?_; rintro e w3 ⟨rfl, hk⟩; replace hb := bel_call hb hk; clear hk)
                | (go_at_call_of 17 (Value.string a); refine (get_v n 0 a _ HGN.out HGE.out).mono ?_; rintro e w6 ⟨rfl, hk⟩; replace hb := bel_call hb hk; clear hk)
                | (go_at_call_of 17 (Value.string s); refine (get_v 0 30 s _ HG1.out HG2.out).mono ?_; rintro e w4 ⟨rfl, hk⟩; replace hb := bel_call hb hk; clear hk))
          go_ret
          exact ⟨by rfl, hb⟩
      · clear hlen
        go_enter Try.func7, Try.ntmps7
        go_wp2_with (first
              | (go_at_call 10; refine (awake03_calls _).mono ?_; rintro e w1 ⟨rfl, hk⟩; have hb := hk; clear hk)
              | (go_at_call_of 15 (Value.int .i64 n); refine (num_v n 0 a _ HA.out HE.out).mono ?_; rintro e w2 ⟨rfl, hk⟩; replace hb := bel_call hb hk; clear hk)
              | (go_at_call_of 15 (Value.int .i64 m); refine (num_v m _ b _ HB.out HF.out).mono ?_; rintro e w3 ⟨rfl, hk⟩; replace hb := bel_call hb hk; clear hk)
              | (go_at_call_of 17 (Value.string a); refine (get_v n 0 a _ HGN.out HGE.out).mono ?_; rintro e w6 ⟨rfl, hk⟩; replace hb := bel_call hb hk; clear hk)
              | (go_at_call_of 17 (Value.string s); refine (get_v 0 30 s _ HG1.out HG2.out).mono ?_; rintro e w4 ⟨rfl, hk⟩; replace hb := bel_call hb hk; clear hk))
        go_ret
        exact ⟨by rfl, hb⟩
    · have HG1 := Lib.hid hg1
      have HG2 := Lib.hid hg2
      have HG3 := Lib.hid hg3
      have HG4 := Lib.hid hg4
      clear hg1 hg2 hg3 hg4
      rcases hf2 with rfl | rfl
      · by_cases hle : n ≤ m
        · have hsz : a.size ≤ b.size := hlen rfl hle
          clear hlen
          go_enter Try.func7, Try.ntmps7
          go_wp2_with (first
                | (go_at_call 10; refine (awake03_calls _).mono ?_; rintro e w1 ⟨rfl, hk⟩; have hb := hk; clear hk)
                | (go_at_call_of 15 (Value.int .i64 n); refine (num_v n 0 a _ HA.out HE.out).mono ?_; rintro e w2 ⟨rfl, hk⟩; replace hb := bel_call hb hk; clear hk)
                | (go_at_call_of 15 (Value.int .i64 m); refine (num_v m _ b _ HB.out HF.out).mono ?_; rintro e w3 ⟨rfl, hk⟩; replace hb := bel_call hb hk; clear hk)
                | (go_at_call_of 17 (Value.string a); refine (get_v n 0 a _ HGN.out HGE.out).mono ?_; rintro e w6 ⟨rfl, hk⟩; replace hb := bel_call hb hk; clear hk)
                | (go_at_call_of 17 (Value.string s); refine (get_v y 0 s _ HG1.out HG2.out).mono ?_; rintro e w4 ⟨rfl, hk⟩; replace hb := bel_call hb hk; clear hk)
                | (go_at_call_of 15 (Value.int .i64 y); refine (num_v y 0 s _ HG3.out HG4.out).mono ?_; rintro e w5 ⟨rfl, hk⟩; replace hb := bel_call hb hk; clear hk))
          go_ret
          exact ⟨by rfl, hb⟩
        · have d4 : decide (n ≤ m) = false := decide_eq_false hle
          clear hlen hle
          go_enter Try.func7, Try.ntmps7
          go_wp2_with (first
                | (go_at_call 10; refine (awake03_calls _).mono ?_; rintro e w1 ⟨rfl, hk⟩; have hb := hk; clear hk)
                | (go_at_call_of 15 (Value.int .i64 n); refine (num_v n 0 a _ HA.out HE.out).mono ?_; rintro e w2 ⟨rfl, hk⟩; replace hb := bel_call hb hk; clear hk)
                | (go_at_call_of 15 (Value.int .i64 m); refine (num_v m _ b _ HB.out HF.out).mono ?_; rintro e w3 ⟨rfl, hk⟩; replace hb := bel_call hb hk; clear hk)
                | (go_at_call_of 17 (Value.string a); refine (get_v n 0 a _ HGN.out HGE.out).mono ?_; rintro e w6 ⟨rfl, hk⟩; replace hb := bel_call hb hk; clear hk)
                | (go_at_call_of 17 (Value.string s); refine (get_v y 0 s _ HG1.out HG2.out).mono ?_; rintro e w4 ⟨rfl, hk⟩; replace hb := bel_call hb hk; clear hk)
                | (go_at_call_of 15 (Value.int .i64 y); refine (num_v y 0 s _ HG3.out HG4.out).mono ?_; rintro e w5 ⟨rfl, hk⟩; replace hb := bel_call hb hk; clear hk))
          go_ret
          exact ⟨by rfl, hb⟩
      · clear hlen
        go_enter Try.func7, Try.ntmps7
        go_wp2_with (first
              | (go_at_call 10; refine (awake03_calls _).mono ?_; rintro e w1 ⟨rfl, hk⟩; have hb := hk; clear hk)
              | (go_at_call_of 15 (Value.int .i64 n); refine (num_v n 0 a _ HA.out HE.out).mono ?_; rintro e w2 ⟨rfl, hk⟩; replace hb := bel_call hb hk; clear hk)
              | (go_at_call_of 15 (Value.int .i64 m); refine (num_v m _ b _ HB.out HF.out).mono ?_; rintro e w3 ⟨rfl, hk⟩; replace hb := bel_call hb hk; clear hk)
              | (go_at_call_of 17 (Value.string a); refine (get_v n 0 a _ HGN.out HGE.out).mono ?_; rintro e w6 ⟨rfl, hk⟩; replace hb := bel_call hb hk; clear hk)
              | (go_at_call_of 17 (Value.string s); refine (get_v y 0 s _ HG1.out HG2.out).mono ?_; rintro e w4 ⟨rfl, hk⟩; replace hb := bel_call hb hk; clear hk)
              | (go_at_call_of 15 (Value.int .i64 y); refine (num_v y 0 s _ HG3.out HG4.out).mono ?_; rintro e w5 ⟨rfl, hk⟩; replace hb := bel_call hb hk; clear hk))
        go_ret
        exact ⟨by rfl, hb⟩
end Go.Proofs.Ytjffbcipfjljpaa
