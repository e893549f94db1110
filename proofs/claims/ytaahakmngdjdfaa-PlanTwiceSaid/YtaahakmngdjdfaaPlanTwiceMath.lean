/-
  Blocks written into a stripe, twice, in either order; and the laws' helper Texts. Condition: all columns are of one length.
-/
import Derived.Test.YtaahakmngdjdfaaPlanPut
namespace Go.Proofs.Ytaahakmngdjdfaa
open Go.RowKit

/-- a column written -/
def putV (N c : Nat) (L : List ByteArray) (d : ByteArray) : List ByteArray := wroteL N c (-1) L d
theorem putV_eq {N c : Nat} {L : List ByteArray} {d : ByteArray} (h3 : 3 ≤ N) : putV N c L d = (L.set c d).set (N - 1) (xorB (xorB (L.getD (N - 1) ⟨#[]⟩) (L.getD c ⟨#[]⟩)) d) := by
  have g : (-1 : Int) ≠ (N : Int) - 1 := by omega
  have g2 : (-1 : Int) ≠ (c : Int) := by omega
  unfold putV wroteL updW madeV updR
  rw [if_neg g, if_neg g2, if_neg g, if_neg g2, if_neg g, if_neg g2]
  have e1 : ((N : Int) - 1).toNat = N - 1 := by omega
  simp [putL, pickL, e1]
/-- what is kept of a stripe -/
def Str (N : Nat) (L : List ByteArray) : Prop := L.length = N ∧ ∀ s ∈ L, s.size = 16
theorem putV_str {N c : Nat} {L : List ByteArray} {d : ByteArray} (h3 : 3 ≤ N) (h : Str N L) (hd : d.size = 16) (hc : c < N - 1) : Str N (putV N c L d) := by
  obtain ⟨hl, hs⟩ := h
  rw [putV_eq h3]
  refine ⟨by rw [List.length_set, List.length_set, hl], set_size (set_size hs hd) (sz_xor (sz_xor ?_ ?_) hd)⟩
  · rw [col_eq (by omega)]; exact hs _ (List.getElem_mem _)
  · rw [col_eq (by omega)]; exact hs _ (List.getElem_mem _)
theorem putV_col {N c : Nat} {L : List ByteArray} {d : ByteArray} (h3 : 3 ≤ N) (hl : L.length = N) (hc : c < N - 1) : (putV N c L d)[c]? = some d := by
  rw [putV_eq h3, List.getElem?_set_ne (by omega), List.getElem?_set_self (by omega)]
theorem putV_other {N c b : Nat} {L : List ByteArray} {d : ByteArray} (h3 : 3 ≤ N) (hc : b < N - 1) (hne : b ≠ c) : (putV N c L d)[b]? = L[b]? := by
  rw [putV_eq h3, List.getElem?_set_ne (by omega), List.getElem?_set_ne (by omega)]
theorem getD_of {L : List ByteArray} {k : Nat} {x : ByteArray} (h : L[k]? = some x) : L.getD k ⟨#[]⟩ = x := by rw [List.getD_eq_getElem?_getD, h]; rfl
theorem twice_same {N a : Nat} {L : List ByteArray} {d e : ByteArray} (h3 : 3 ≤ N) (h : Str N L) (hd : d.size = 16) (hc : a < N - 1) : putV N a (putV N a L d) e = putV N a L e := by
  obtain ⟨hl, hs⟩ := h
  have hps : (L.getD (N - 1) ⟨#[]⟩).size = 16 := by rw [col_eq (by omega)]; exact hs _ (List.getElem_mem _)
  have has : (L.getD a ⟨#[]⟩).size = 16 := by rw [col_eq (by omega)]; exact hs _ (List.getElem_mem _)
  rw [putV_eq (L := putV N a L d) h3, getD_of (putV_col h3 hl hc)]
  have hp : (putV N a L d)[N - 1]? = some (xorB (xorB (L.getD (N - 1) ⟨#[]⟩) (L.getD a ⟨#[]⟩)) d) := by
    rw [putV_eq h3, List.getElem?_set_self (by rw [List.length_set]; omega)]
  rw [getD_of hp, xorB_cancel _ _ (by rw [sz_xor hps has, hd]; exact Nat.le_refl _), putV_eq h3, putV_eq h3]
  rw [List.set_comm _ _ (show N - 1 ≠ a by omega), List.set_set, List.set_set]
theorem twice_turn {N a b : Nat} {L : List ByteArray} {d e : ByteArray} (h3 : 3 ≤ N) (h : Str N L) (ha : a < N - 1) (hb : b < N - 1) (hne : a ≠ b) : putV N b (putV N a L d) e = putV N a (putV N b L e) d := by
  obtain ⟨hl, hs⟩ := h
  have hpa : (putV N a L d)[N - 1]? = some (xorB (xorB (L.getD (N - 1) ⟨#[]⟩) (L.getD a ⟨#[]⟩)) d) := by
    rw [putV_eq h3, List.getElem?_set_self (by rw [List.length_set]; omega)]
  have hpb : (putV N b L e)[N - 1]? = some (xorB (xorB (L.getD (N - 1) ⟨#[]⟩) (L.getD b ⟨#[]⟩)) e) := by
    rw [putV_eq h3, List.getElem?_set_self (by rw [List.length_set]; omega)]
  have e1 : (putV N a L d).getD b ⟨#[]⟩ = L.getD b ⟨#[]⟩ := by rw [List.getD_eq_getElem?_getD, putV_other h3 hb (fun h => hne h.symm), List.getD_eq_getElem?_getD]
  have e2 : (putV N b L e).getD a ⟨#[]⟩ = L.getD a ⟨#[]⟩ := by rw [List.getD_eq_getElem?_getD, putV_other h3 ha hne, List.getD_eq_getElem?_getD]
  rw [putV_eq (L := putV N a L d) h3, putV_eq (L := putV N b L e) h3, getD_of hpa, getD_of hpb, e1, e2, putV_eq h3, putV_eq h3]
  generalize L.getD (N - 1) ⟨#[]⟩ = p
  generalize L.getD a ⟨#[]⟩ = x
  generalize L.getD b ⟨#[]⟩ = z
  have ex : xorB (xorB (xorB (xorB p x) d) z) e = xorB (xorB (xorB (xorB p z) e) x) d := by
    rw [xorB_right_comm (xorB p x) d z, xorB_right_comm p x z, xorB_right_comm (xorB (xorB p z) x) d e, xorB_right_comm (xorB p z) x e]
  rw [ex, List.set_comm _ _ (show N - 1 ≠ b by omega), List.set_set, List.set_comm _ _ (show N - 1 ≠ a by omega), List.set_set, List.set_comm _ _ hne]

set_option maxHeartbeats 1000000 in
theorem texts06_yes (l : List ByteArray) (A B : Option Addr) (n c d : Nat) (w : World) (hra : Rd w w.heap.size A (l.map Value.string)) (hrb : Rd w w.heap.size B (l.map Value.string)) (hl : l.length = n) (hn : n ≤ 64) :
    Calls Try.prog 24 #[.slice A n c, .slice B n d] w fun e w' => e = .returned (.bool true) ∧ Below w.heap.size w w' := by
  have HA := Lib.hid hra
  have HB := Lib.hid hrb
  have HL := Lib.hid hl
  clear hra hrb hl
  go_enter Try.func24, Try.ntmps24
  go_wp2
  go_loopw [5] (fun i wr => ∃ k : Nat, k ≤ n ∧ i = .int .i64 k ∧ Below w.heap.size w wr) (fun i _ => n - (intOf i).toNat)
  case atStart => exact ⟨0, Nat.zero_le _, rfl, Below.refl _ _⟩
  case round =>
    obtain ⟨k, hk, rfl, hb⟩ := hrel
    by_cases hlt : k < n
    · have hkl : k < l.length := by rw [HL.out]; exact hlt
      obtain ⟨b, off, rfl, hbB, hc⟩ := (HA.out.below hb).at_ (k := k) (u := .string l[k]) (by simp [hkl])
      obtain ⟨b', off', rfl, hbB', hd⟩ := (HB.out.below hb).at_ (k := k) (u := .string l[k]) (by simp [hkl])
      obtain ⟨x, hx⟩ : ∃ x, x = l[k] := ⟨_, rfl⟩
      rw [← hx] at hc hd
      have hkn : (k : Int) < (n : Int) := by omega
      clear hx
      go_wp2
      go_quiet (fail)
      go_wp2
      go_roundw
      case rel => exact ⟨k + 1, by omega, by go_num, below_drewN hb nq⟩
      case measure => simp [intOf]; omega
    · have hkn : decide (k < n) = false := decide_eq_false hlt
      go_wp2
      go_ret
      exact ⟨by rfl, hb⟩
end Go.Proofs.Ytaahakmngdjdfaa
