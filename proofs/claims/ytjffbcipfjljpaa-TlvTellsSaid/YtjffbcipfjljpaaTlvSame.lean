/-
  The contracts of the laws' helpers Same and Fit, for all lists of fields. Condition: numbers are Go's.
-/
import Derived.Test.YtjffbcipfjljpaaTlvFields
import Derived.Test.YtjffbcipfjljpaaTlvNum
import Derived.Laws.StructEq
namespace Go.Proofs.Ytjffbcipfjljpaa
open Go.RowKit

theorem unlike {la lb : List Fld} {k : Nat} (h1 : k < la.length) (h2 : k < lb.length) (h : ¬ la[k] = lb[k]) : ¬ la = lb := by
  intro e
  subst e
  exact h rfl

set_option maxHeartbeats 1000000 in
theorem same_len (la lb : List Fld) (A B : Option Addr) (n c d : Nat) (w : World) (hra : Rd w w.heap.size A (fldCells la)) (hrb : Rd w w.heap.size B (fldCells lb)) (hla : la.length = n) (hlb : lb.length = n) (hn : n ≤ maxLen) :
    Calls Try.prog 19 #[.slice A n c, .slice B n d] w fun e w' => e = .returned (.bool (decide (la = lb))) ∧ Below w.heap.size w w' := by
  unfold maxLen at hn
  have HA := Lib.hid hra
  have HB := Lib.hid hrb
  have HLA := Lib.hid hla
  have HLB := Lib.hid hlb
  clear hra hrb hla hlb
  go_enter Try.func19, Try.ntmps19
  go_wp2
  go_loopw [5] (fun i wr => ∃ k : Nat, k ≤ n ∧ i = .int .i64 k ∧ la.take k = lb.take k ∧ Below w.heap.size w wr) (fun i _ => n - (intOf i).toNat)
  case atStart => exact ⟨0, Nat.zero_le _, rfl, rfl, Below.refl _ _⟩
  case round =>
    obtain ⟨k, hk, rfl, heq, hb⟩ := hrel
    by_cases hlt : k < n
    · have hka : k < la.length := by rw [HLA.out]; exact hlt
      have hkb : k < lb.length := by rw [HLB.out]; exact hlt
      obtain ⟨b, off, rfl, hbB, hc0⟩ := (HA.out.below hb).at_ (fldCells_tag hka)
      have hc1 := (HA.out.below hb).cell_ (fldCells_text hka)
      obtain ⟨b', off', rfl, hbB', hd0⟩ := (HB.out.below hb).at_ (fldCells_tag hkb)
      have hd1 := (HB.out.below hb).cell_ (fldCells_text hkb)
      rw [← Nat.add_assoc] at hc1 hd1
      obtain ⟨t, ht⟩ : ∃ t, t = la[k].1 := ⟨_, rfl⟩
      obtain ⟨s, hs⟩ : ∃ s, s = la[k].2 := ⟨_, rfl⟩
      obtain ⟨t', ht'⟩ : ∃ t, t = lb[k].1 := ⟨_, rfl⟩
      obtain ⟨s', hs'⟩ : ∃ s, s = lb[k].2 := ⟨_, rfl⟩
      rw [← ht] at hc0
      rw [← hs] at hc1
      rw [← ht'] at hd0
      rw [← hs'] at hd1
      have HT := Lib.hid ht
      have HS := Lib.hid hs
      have HT' := Lib.hid ht'
      have HS' := Lib.hid hs'
      have HE := Lib.hid heq
      have hkn : (k : Int) < (n : Int) := by omega
      clear ht hs ht' hs' heq
      by_cases e1 : t = t'
      · by_cases e2 : s = s'
        · have HQ : Hid (t = t' ∧ s = s') := Lib.hid ⟨e1, e2⟩
          subst e1 e2
          go_wp2
          go_quiet (fail)
          go_wp2
          go_roundw
          case rel => exact ⟨k + 1, by omega, by go_num, by
            rw [List.take_succ_eq_append_getElem hka, List.take_succ_eq_append_getElem hkb, HE.out]
            congr 2
            exact Prod.ext (HT.out.symm.trans HT'.out) (HS.out.symm.trans HS'.out), below_drewN hb nq⟩
          case measure => simp [intOf]; omega
        · have q1 : (t == t') = true := by rw [beq_iff_eq]; exact e1
          have q2 : (s.toList == s'.toList) = false := by rw [beq_eq_false_iff_ne, ByteArray.toList_eq, ByteArray.toList_eq]; intro h; exact e2 (by rw [← mk_toList s, h, mk_toList])
          go_wp2
          go_quiet (fail)
          go_wp2
          go_ret
          exact ⟨by rw [decide_eq_false (unlike hka hkb fun h => e2 (by rw [HS.out, HS'.out, h]))]; rfl, below_drewN hb nq⟩
      · have q1 : (t == t') = false := by rw [beq_eq_false_iff_ne]; exact e1
        go_wp2
        go_quiet (fail)
        go_wp2
        go_ret
        exact ⟨by rw [decide_eq_false (unlike hka hkb fun h => e1 (by rw [HT.out, HT'.out, h]))]; rfl, below_drewN hb nq⟩
    · have hkn : k = n := by omega
      subst hkn
      rw [List.take_of_length_le (by rw [HLA.out]; exact Nat.le_refl _), List.take_of_length_le (by rw [HLB.out]; exact Nat.le_refl _)] at heq
      subst heq
      go_wp2
      go_ret
      exact ⟨by rfl, hb⟩
theorem same_calls (la lb : List Fld) (A B : Option Addr) (n m c d : Nat) (w : World) (hra : Rd w w.heap.size A (fldCells la)) (hrb : Rd w w.heap.size B (fldCells lb)) (hla : la.length = n) (hlb : lb.length = m) (hn : n ≤ maxLen) (hm : m ≤ maxLen) :
    Calls Try.prog 19 #[.slice A n c, .slice B m d] w fun e w' => e = .returned (.bool (decide (la = lb))) ∧ Below w.heap.size w w' := by
  by_cases h : n = m
  · subst h
    exact same_len la lb A B n c d w hra hrb hla hlb hn
  · rw [decide_eq_false (fun e => h (by rw [← hla, ← hlb, e]))]
    unfold maxLen at hn hm
    have hq : ((n : Int) != (m : Int)) = true := by rw [bne_iff_ne]; omega
    clear hra hrb hla hlb h
    go_enter Try.func19, Try.ntmps19
    go_wp2
    go_ret
    exact ⟨rfl, Below.refl _ _⟩
end Go.Proofs.Ytjffbcipfjljpaa
