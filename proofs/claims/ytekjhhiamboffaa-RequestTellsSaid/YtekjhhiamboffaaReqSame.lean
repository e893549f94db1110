/-
  The contracts of the laws' helpers Ops (of one list, twice), Errs and Texts (of any two). Condition: slices' lengths are Go's.
-/
import Derived.Test.YtekjhhiamboffaaReqHear
import Derived.Laws.StructEq
namespace Go.Proofs.Ytekjhhiamboffaa
open Go.RowKit

theorem op_at {l : List Opr} {i : Nat} (hi : i < l.length) : (opCells l)[i * 3]? = some (.int .i64 l[i].1) ∧ (opCells l)[i * 3 + 1]? = some (.int .i64 l[i].2.1) ∧ (opCells l)[i * 3 + 2]? = some (.string l[i].2.2) := by
  have e : l = l.take i ++ l[i] :: l.drop (i + 1) := by rw [List.getElem_cons_drop, List.take_append_drop]
  have hl : (opCells (l.take i)).length = i * 3 := by rw [opCells_length, List.length_take]; omega
  generalize l[i] = p at *
  rw [e, opCells_append]
  refine ⟨?_, ?_, ?_⟩
  · rw [List.getElem?_append_right (by omega), hl, Nat.sub_self]; rfl
  · rw [List.getElem?_append_right (by omega), hl, show i * 3 + 1 - i * 3 = 1 by omega]; rfl
  · rw [List.getElem?_append_right (by omega), hl, show i * 3 + 2 - i * 3 = 2 by omega]; rfl

set_option maxHeartbeats 1000000 in
theorem ops_yes (l : List Opr) (A B : Option Addr) (n c d : Nat) (w : World) (hra : Rd w w.heap.size A (opCells l)) (hrb : Rd w w.heap.size B (opCells l)) (hl : l.length = n) (hn : n ≤ 64) :
    Calls Try.prog 15 #[.slice A n c, .slice B n d] w fun e w' => e = .returned (.bool true) ∧ Below w.heap.size w w' := by
  have HA := Lib.hid hra
  have HB := Lib.hid hrb
  have HL := Lib.hid hl
  clear hra hrb hl
  go_enter Try.func15, Try.ntmps15
  go_wp2
  go_loopw [5] (fun i wr => ∃ k : Nat, k ≤ n ∧ i = .int .i64 k ∧ Below w.heap.size w wr) (fun i _ => n - (intOf i).toNat)
  case atStart => exact ⟨0, Nat.zero_le _, rfl, Below.refl _ _⟩
  case round =>
    obtain ⟨k, hk, rfl, hb⟩ := hrel
    by_cases hlt : k < n
    · have hkl : k < l.length := by rw [HL.out]; exact hlt
      obtain ⟨b, off, rfl, hbB, hc0⟩ := (HA.out.below hb).at_ (op_at hkl).1
      have hc1 : wr.cell? ⟨b, off + k * 3 + 1, none⟩ = _ := (HA.out.below hb).cell_ (op_at hkl).2.1
      have hc2 : wr.cell? ⟨b, off + k * 3 + 2, none⟩ = _ := (HA.out.below hb).cell_ (op_at hkl).2.2
      obtain ⟨b', off', rfl, hbB', hd0⟩ := (HB.out.below hb).at_ (op_at hkl).1
      have hd1 : wr.cell? ⟨b', off' + k * 3 + 1, none⟩ = _ := (HB.out.below hb).cell_ (op_at hkl).2.1
      have hd2 : wr.cell? ⟨b', off' + k * 3 + 2, none⟩ = _ := (HB.out.below hb).cell_ (op_at hkl).2.2
      obtain ⟨x, hx⟩ : ∃ x, x = l[k].1 := ⟨_, rfl⟩
      obtain ⟨y, hy⟩ : ∃ x, x = l[k].2.1 := ⟨_, rfl⟩
      obtain ⟨z, hz⟩ : ∃ x, x = l[k].2.2 := ⟨_, rfl⟩
      rw [← hx] at hc0 hd0
      rw [← hy] at hc1 hd1
      rw [← hz] at hc2 hd2
      have hkn : (k : Int) < (n : Int) := by omega
      clear hx hy hz
      go_wp2
      go_quiet (fail)
      go_wp2
      go_roundw
      case rel => exact ⟨k + 1, by omega, by go_num, below_drewN hb nq⟩
      case measure => simp [intOf]; omega
    · have hkn : decide (k < n) = false := decide_eq_false hlt
      go_wp2
      go_ret
      exact ⟨by rfl, hb⟩

theorem unlikeE {α : Type} {la lb : List α} {k : Nat} (h1 : k < la.length) (h2 : k < lb.length) (h : ¬ la[k] = lb[k]) : ¬ la = lb := by
  intro e
  subst e
  exact h rfl
set_option maxHeartbeats 1000000 in
theorem errs_len (la lb : List Int) (A B : Option Addr) (n c d : Nat) (w : World) (hra : Rd w w.heap.size A (intCells la)) (hrb : Rd w w.heap.size B (intCells lb)) (hla : la.length = n) (hlb : lb.length = n) (hn : n ≤ 64) :
    Calls Try.prog 16 #[.slice A n c, .slice B n d] w fun e w' => e = .returned (.bool (decide (la = lb))) ∧ Below w.heap.size w w' := by
  have HA := Lib.hid hra
  have HB := Lib.hid hrb
  have HLA := Lib.hid hla
  have HLB := Lib.hid hlb
  clear hra hrb hla hlb
  go_enter Try.func16, Try.ntmps16
  go_wp2
  go_loopw [5] (fun i wr => ∃ k : Nat, k ≤ n ∧ i = .int .i64 k ∧ la.take k = lb.take k ∧ Below w.heap.size w wr) (fun i _ => n - (intOf i).toNat)
  case atStart => exact ⟨0, Nat.zero_le _, rfl, rfl, Below.refl _ _⟩
  case round =>
    obtain ⟨k, hk, rfl, heq, hb⟩ := hrel
    by_cases hlt : k < n
    · have hka : k < la.length := by rw [HLA.out]; exact hlt
      have hkb : k < lb.length := by rw [HLB.out]; exact hlt
      obtain ⟨b, off, rfl, hbB, hc0⟩ := (HA.out.below hb).at_ (intCells_at hka)
      obtain ⟨b', off', rfl, hbB', hd0⟩ := (HB.out.below hb).at_ (intCells_at hkb)
      obtain ⟨t, ht⟩ : ∃ t, t = la[k] := ⟨_, rfl⟩
      obtain ⟨t', ht'⟩ : ∃ t, t = lb[k] := ⟨_, rfl⟩
      rw [← ht] at hc0
      rw [← ht'] at hd0
      have HT := Lib.hid ht
      have HT' := Lib.hid ht'
      have HE := Lib.hid heq
      have hkn : (k : Int) < (n : Int) := by omega
      clear ht ht' heq
      by_cases e1 : t = t'
      · subst e1
        go_wp2
        go_quiet (fail)
        go_wp2
        go_roundw
        case rel => exact ⟨k + 1, by omega, by go_num, by
          rw [List.take_succ_eq_append_getElem hka, List.take_succ_eq_append_getElem hkb, HE.out]
          congr 2
          exact HT.out.symm.trans HT'.out, below_drewN hb nq⟩
        case measure => simp [intOf]; omega
      · have q1 : (t == t') = false := by rw [beq_eq_false_iff_ne]; exact e1
        have q2 : (t != t') = true := by rw [bne_iff_ne]; exact e1
        go_wp2
        go_quiet (fail)
        go_wp2
        go_ret
        exact ⟨by rw [decide_eq_false (unlikeE hka hkb fun h => e1 (by rw [HT.out, HT'.out, h]))]; rfl, below_drewN hb nq⟩
    · have hkn : k = n := by omega
      subst hkn
      rw [List.take_of_length_le (by rw [HLA.out]; exact Nat.le_refl _), List.take_of_length_le (by rw [HLB.out]; exact Nat.le_refl _)] at heq
      subst heq
      go_wp2
      go_ret
      exact ⟨by rfl, hb⟩
theorem errs_calls (la lb : List Int) (A B : Option Addr) (n m c d : Nat) (w : World) (hra : Rd w w.heap.size A (intCells la)) (hrb : Rd w w.heap.size B (intCells lb)) (hla : la.length = n) (hlb : lb.length = m) (hn : n ≤ 64) (hm : m ≤ 64) :
    Calls Try.prog 16 #[.slice A n c, .slice B m d] w fun e w' => e = .returned (.bool (decide (la = lb))) ∧ Below w.heap.size w w' := by
  by_cases h : n = m
  · subst h
    exact errs_len la lb A B n c d w hra hrb hla hlb hn
  · rw [decide_eq_false (fun e => h (by rw [← hla, ← hlb, e]))]
    have hq : ((n : Int) != (m : Int)) = true := by rw [bne_iff_ne]; omega
    clear hra hrb hla hlb h
    go_enter Try.func16, Try.ntmps16
    go_wp2
    go_ret
    exact ⟨rfl, Below.refl _ _⟩

set_option maxHeartbeats 1000000 in
theorem texts20_len (la lb : List ByteArray) (A B : Option Addr) (n c d : Nat) (w : World) (hra : Rd w w.heap.size A (la.map Value.string)) (hrb : Rd w w.heap.size B (lb.map Value.string)) (hla : la.length = n) (hlb : lb.length = n) (hn : n ≤ 64) :
    Calls Try.prog 17 #[.slice A n c, .slice B n d] w fun e w' => e = .returned (.bool (decide (la = lb))) ∧ Below w.heap.size w w' := by
  have HA := Lib.hid hra
  have HB := Lib.hid hrb
  have HLA := Lib.hid hla
  have HLB := Lib.hid hlb
  clear hra hrb hla hlb
  go_enter Try.func17, Try.ntmps17
  go_wp2
  go_loopw [5] (fun i wr => ∃ k : Nat, k ≤ n ∧ i = .int .i64 k ∧ la.take k = lb.take k ∧ Below w.heap.size w wr) (fun i _ => n - (intOf i).toNat)
  case atStart => exact ⟨0, Nat.zero_le _, rfl, rfl, Below.refl _ _⟩
  case round =>
    obtain ⟨k, hk, rfl, heq, hb⟩ := hrel
    by_cases hlt : k < n
    · have hka : k < la.length := by rw [HLA.out]; exact hlt
      have hkb : k < lb.length := by rw [HLB.out]; exact hlt
      obtain ⟨b, off, rfl, hbB, hc0⟩ := (HA.out.below hb).at_ (k := k) (u := .string la[k]) (by simp [hka])
      obtain ⟨b', off', rfl, hbB', hd0⟩ := (HB.out.below hb).at_ (k := k) (u := .string lb[k]) (by simp [hkb])
      obtain ⟨t, ht⟩ : ∃ t, t = la[k] := ⟨_, rfl⟩
      obtain ⟨t', ht'⟩ : ∃ t, t = lb[k] := ⟨_, rfl⟩
      rw [← ht] at hc0
      rw [← ht'] at hd0
      have HT := Lib.hid ht
      have HT' := Lib.hid ht'
      have HE := Lib.hid heq
      have hkn : (k : Int) < (n : Int) := by omega
      clear ht ht' heq
      by_cases e1 : t = t'
      · subst e1
        go_wp2
        go_quiet (fail)
        go_wp2
        go_roundw
        case rel => exact ⟨k + 1, by omega, by go_num, by
          rw [List.take_succ_eq_append_getElem hka, List.take_succ_eq_append_getElem hkb, HE.out]
          congr 2
          exact HT.out.symm.trans HT'.out, below_drewN hb nq⟩
        case measure => simp [intOf]; omega
      · have q2 : (t.toList == t'.toList) = false := by rw [beq_eq_false_iff_ne, ByteArray.toList_eq, ByteArray.toList_eq]; intro h; exact e1 (by rw [← mk_toList t, h, mk_toList])
        go_wp2
        go_quiet (fail)
        go_wp2
        go_ret
        exact ⟨by rw [decide_eq_false (unlikeE hka hkb fun h => e1 (by rw [HT.out, HT'.out, h]))]; rfl, below_drewN hb nq⟩
    · have hkn : k = n := by omega
      subst hkn
      rw [List.take_of_length_le (by rw [HLA.out]; exact Nat.le_refl _), List.take_of_length_le (by rw [HLB.out]; exact Nat.le_refl _)] at heq
      subst heq
      go_wp2
      go_ret
      exact ⟨by rfl, hb⟩
theorem texts20_calls (la lb : List ByteArray) (A B : Option Addr) (n m c d : Nat) (w : World) (hra : Rd w w.heap.size A (la.map Value.string)) (hrb : Rd w w.heap.size B (lb.map Value.string)) (hla : la.length = n) (hlb : lb.length = m) (hn : n ≤ 64) (hm : m ≤ 64) :
    Calls Try.prog 17 #[.slice A n c, .slice B m d] w fun e w' => e = .returned (.bool (decide (la = lb))) ∧ Below w.heap.size w w' := by
  by_cases h : n = m
  · subst h
    exact texts20_len la lb A B n c d w hra hrb hla hlb hn
  · rw [decide_eq_false (fun e => h (by rw [← hla, ← hlb, e]))]
    have hq : ((n : Int) != (m : Int)) = true := by rw [bne_iff_ne]; omega
    clear hra hrb hla hlb h
    go_enter Try.func17, Try.ntmps17
    go_wp2
    go_ret
    exact ⟨rfl, Below.refl _ _⟩
end Go.Proofs.Ytekjhhiamboffaa
