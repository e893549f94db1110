/-
  What is written of a stripe that is all nought leaves it all nought, with the data in its column: without the program. Condition: all columns are of one length.
-/
import Derived.Test.YtaahakmngdjdfaaPlanMade
namespace Go.Proofs.Ytaahakmngdjdfaa
open Go.RowKit

/-- texts stored into columns, one behind the other -/
def putL (L : List ByteArray) (l : List (Int × ByteArray)) : List ByteArray := l.foldl (fun l p => l.set p.1.toNat p.2) L
theorem putL_snoc (L : List ByteArray) (l : List (Int × ByteArray)) (k : Nat) (x : Nat) (s : ByteArray) (h : l[k]? = some ((x : Int), s)) : putL L (l.take (k + 1)) = (putL L (l.take k)).set x s := by
  have hk := (List.getElem?_eq_some_iff.1 h).1
  have hv := (List.getElem?_eq_some_iff.1 h).2
  unfold putL
  rw [List.take_succ_eq_append_getElem hk, List.foldl_append, hv]
  rfl
theorem putL_length (L : List ByteArray) (l : List (Int × ByteArray)) : (putL L l).length = L.length := by
  unfold putL
  induction l generalizing L with
  | nil => rfl
  | cons p l ih => rw [List.foldl_cons, ih, List.length_set]
theorem putL_size {n : Nat} {L : List ByteArray} {l : List (Int × ByteArray)} (h : ∀ s ∈ L, s.size = n) (hl : ∀ p ∈ l, p.2.size = n) : ∀ s ∈ putL L l, s.size = n := by
  unfold putL
  induction l generalizing L with
  | nil => exact h
  | cons p l ih =>
    rw [List.foldl_cons]
    exact ih (set_size h (hl p (by simp))) fun q hq => hl q (List.mem_cons_of_mem _ hq)
/-- one column, healed -/
def healL (L : List ByteArray) (k : Nat) : List ByteArray := L.set k (sumX 16 (L.eraseIdx k))
theorem heal_zero {L : List ByteArray} {k : Nat} (h : ∀ s ∈ L, s.size = 16) (hk : k < L.length) : sumX 16 (healL L k) = zeroB 16 := by
  unfold healL
  have hs : (sumX 16 (L.eraseIdx k)).size = 16 := sumX_size fun s hs => h s (List.mem_of_mem_eraseIdx hs)
  have hx : (L.set k (sumX 16 (L.eraseIdx k)))[k]? = some (sumX 16 (L.eraseIdx k)) := by rw [List.getElem?_set_self hk]
  rw [sumX_split (set_size h hs) hx, List.eraseIdx_set_eq, xorB_self, hs]
theorem heal_size {L : List ByteArray} {k : Nat} (h : ∀ s ∈ L, s.size = 16) : ∀ s ∈ healL L k, s.size = 16 :=
  set_size h (sumX_size fun s hs => h s (List.mem_of_mem_eraseIdx hs))
theorem xor3 {n : Nat} {p x d : ByteArray} (hp : p.size = n) (hx : x.size = n) (hd : d.size = n) : xorB (xorB (xorB (xorB (zeroB n) x) d) p) (xorB (xorB p x) d) = zeroB n := by
  rw [zeroB_xor hx]
  have e : xorB (xorB p x) d = xorB (xorB x d) p := by rw [xorB_comm p x, xorB_right_comm]
  rw [e, xorB_self]
  congr 1
  exact sz_xor (sz_xor hx hd) hp
/-- what is written -/
def wroteL (N : Nat) (c o : Int) (L : List ByteArray) (data : ByteArray) : List ByteArray := putL L ((updW N c o).zip (madeV N c o (pickL L (updR N c o)) data))
theorem madeV_size {N : Nat} {c o : Int} {R : List ByteArray} {data : ByteArray} (hR : ∀ s ∈ R, s.size = 16) (hl : R.length = (updR N c o).length) (hd : data.size = 16) : ∀ s ∈ madeV N c o R data, s.size = 16 := by
  unfold madeV
  by_cases g : o = (N : Int) - 1
  · rw [if_pos g]; intro s hs; rw [List.mem_singleton.1 hs]; exact hd
  · rw [if_neg g]
    by_cases g2 : o = c
    · rw [if_pos g2]; intro s hs; rw [List.mem_singleton.1 hs, foldX_size _ _ (fun t ht => by rw [hR t ht, hd]), hd]
    · rw [if_neg g2]
      have hl2 : R.length = 2 := by rw [hl]; unfold updR; rw [if_neg g, if_neg g2]; rfl
      match R, hl2 with
      | [a, b], _ =>
        intro s hs
        simp only [List.mem_cons, List.not_mem_nil, or_false] at hs
        rcases hs with rfl | rfl
        · exact hd
        · exact sz_xor (sz_xor (hR b (by simp)) (hR a (by simp))) hd
theorem erase_last : ∀ (N c : Nat) (L : List ByteArray) (m : ByteArray), N ≤ 6 → L.length = N → c + 1 < N → (L.set (N - 1) m).eraseIdx c = pickL L (othersL (N - 1) c) ++ [m] := by
  intro N c L m h2 hl hc
  rcases (show N = 2 ∨ N = 3 ∨ N = 4 ∨ N = 5 ∨ N = 6 by omega) with rfl | rfl | rfl | rfl | rfl
  · match L, hl with
    | [a, b], _ => obtain rfl : c = 0 := by omega
                   rfl
  · match L, hl with
    | [a, b, d], _ => rcases (show c = 0 ∨ c = 1 by omega) with rfl | rfl <;> rfl
  · match L, hl with
    | [a, b, d, e], _ => rcases (show c = 0 ∨ c = 1 ∨ c = 2 by omega) with rfl | rfl | rfl <;> rfl
  · match L, hl with
    | [a, b, d, e, f], _ => rcases (show c = 0 ∨ c = 1 ∨ c = 2 ∨ c = 3 by omega) with rfl | rfl | rfl | rfl <;> rfl
  · match L, hl with
    | [a, b, d, e, f, g], _ => rcases (show c = 0 ∨ c = 1 ∨ c = 2 ∨ c = 3 ∨ c = 4 by omega) with rfl | rfl | rfl | rfl | rfl <;> rfl
/-- the stripe that is seen in the end -/
def seenL (N : Nat) (c o : Int) (L : List ByteArray) (data : ByteArray) : List ByteArray := if 0 ≤ o then healL (wroteL N c o L data) o.toNat else wroteL N c o L data
theorem seen_law {N c : Nat} {o : Int} {L : List ByteArray} {data : ByteArray} (h3 : 3 ≤ N) (h6 : N ≤ 6) (hl : L.length = N) (h : ∀ s ∈ L, s.size = 16) (hz : sumX 16 L = zeroB 16) (hd : data.size = 16) (hc : c + 1 < N) (o1 : -1 ≤ o) (o2 : o ≤ (N : Int) - 1) :
    (∀ s ∈ wroteL N c o L data, s.size = 16) ∧ (wroteL N c o L data).length = N ∧ sumX 16 (seenL N c o L data) = zeroB 16 ∧ (seenL N c o L data)[c]? = some data := by
  have hin := updR_in (N := N) (c := (c : Int)) (o := o) (by omega) (by omega)
  have hR : ∀ s ∈ pickL L (updR N c o), s.size = 16 := pickL_size h (by rw [hl]; exact hin)
  have hM := madeV_size (c := (c : Int)) (o := o) hR (pickL_length _ _) hd
  have hw : ∀ s ∈ wroteL N c o L data, s.size = 16 := putL_size h fun p hp => hM _ (List.of_mem_zip hp).2
  have hwl : (wroteL N c o L data).length = N := by unfold wroteL; rw [putL_length, hl]
  refine ⟨hw, hwl, ?_, ?_⟩
  · unfold seenL
    by_cases h0 : 0 ≤ o
    · rw [if_pos h0]; exact heal_zero hw (by rw [hwl]; omega)
    · rw [if_neg h0]
      have g : o ≠ (N : Int) - 1 := by omega
      have g2 : o ≠ (c : Int) := by omega
      have e : wroteL N c o L data = (L.set c data).set (N - 1) (xorB (xorB (L.getD (N - 1) ⟨#[]⟩) (L.getD c ⟨#[]⟩)) data) := by
        unfold wroteL updW madeV updR
        rw [if_neg g, if_neg g2, if_neg g, if_neg g2, if_neg g, if_neg g2]
        have e1 : ((N : Int) - 1).toNat = N - 1 := by omega
        simp [putL, pickL, e1]
      rw [e]
      have hx : L[c]? = some (L.getD c ⟨#[]⟩) := by rw [col_eq (by omega), List.getElem?_eq_getElem (by omega)]
      have hp : (L.set c data)[N - 1]? = some (L.getD (N - 1) ⟨#[]⟩) := by rw [List.getElem?_set_ne (by omega), col_eq (by omega), List.getElem?_eq_getElem (by omega)]
      have hxs : (L.getD c ⟨#[]⟩).size = 16 := h _ (List.mem_of_getElem? hx)
      have hps : (L.getD (N - 1) ⟨#[]⟩).size = 16 := by rw [col_eq (by omega)]; exact h _ (List.getElem_mem _)
      have q1 := sumX_moved h hx hd
      have q2 := sumX_moved (set_size h hd) hp (sz_xor (sz_xor hps hxs) hd)
      rw [← q2, ← q1, hz]
      exact xor3 hps hxs hd
  · unfold seenL
    rcases (show o = (N : Int) - 1 ∨ (o ≠ (N : Int) - 1 ∧ o = (c : Int)) ∨ (o ≠ (N : Int) - 1 ∧ o ≠ (c : Int)) by omega) with g | ⟨g, g2⟩ | ⟨g, g2⟩
    · have h0 : 0 ≤ o := by omega
      rw [if_pos h0]
      have e : wroteL N c o L data = L.set c data := by
        unfold wroteL updW madeV
        rw [if_pos g, if_pos g]
        simp [putL]
      unfold healL
      rw [List.getElem?_set_ne (by omega), e, List.getElem?_set_self (by omega)]
    · have h0 : 0 ≤ o := by omega
      rw [if_pos h0]
      unfold healL
      have e0 : o.toNat = c := by omega
      rw [e0, List.getElem?_set_self (by rw [hwl]; omega)]
      congr 1
      have e : wroteL N c o L data = L.set (N - 1) (foldX data (pickL L (othersL (N - 1) c))) := by
        unfold wroteL updW madeV updR
        rw [if_neg g, if_pos g2, if_neg g, if_pos g2, if_neg g, if_pos g2]
        have e1 : ((N : Int) - 1).toNat = N - 1 := by omega
        simp [putL, e1]
      have hR2 : ∀ s ∈ pickL L (othersL (N - 1) (c : Int)), s.size = 16 := pickL_size h fun x hx => by have := othersL_in x hx; omega
      rw [e, erase_last N c L _ h6 hl hc, sumX_append, foldX_sum data hd]
      show xorB (sumX 16 (pickL L (othersL (N - 1) c))) (xorB (sumX 16 (pickL L (othersL (N - 1) c))) data) = data
      have hs := sumX_size hR2
      rw [← xorB_assoc, xorB_self, hs, zeroB_xor hd]
    · have e : wroteL N c o L data = (L.set c data).set (N - 1) (xorB (xorB (L.getD (N - 1) ⟨#[]⟩) (L.getD c ⟨#[]⟩)) data) := by
        unfold wroteL updW madeV updR
        rw [if_neg g, if_neg g2, if_neg g, if_neg g2, if_neg g, if_neg g2]
        have e1 : ((N : Int) - 1).toNat = N - 1 := by omega
        simp [putL, pickL, e1]
      have hc2 : (wroteL N c o L data)[c]? = some data := by
        rw [e, List.getElem?_set_ne (by omega), List.getElem?_set_self (by omega)]
      by_cases h0 : 0 ≤ o
      · rw [if_pos h0]
        unfold healL
        rw [List.getElem?_set_ne (by omega)]
        exact hc2
      · rw [if_neg h0]; exact hc2
theorem updR_ne {N c : Nat} {o : Int} : ∀ x ∈ updR N c o, (x == o) = false := by
  unfold updR
  by_cases g : o = (N : Int) - 1
  · rw [if_pos g]; intro x hx; simp at hx
  · rw [if_neg g]
    by_cases g2 : o = (c : Int)
    · rw [if_pos g2, g2]; exact othersL_ne
    · rw [if_neg g2]
      intro x hx
      simp only [List.mem_cons, List.not_mem_nil, or_false] at hx
      rw [beq_eq_false_iff_ne]
      rcases hx with rfl | rfl <;> omega
theorem updW_in {N c : Nat} {o : Int} (h1 : 3 ≤ N) (hc : c + 1 < N) : ∀ x ∈ updW N c o, (x == o) = false ∧ 0 ≤ x ∧ x < (N : Int) := by
  unfold updW
  by_cases g : o = (N : Int) - 1
  · rw [if_pos g]; intro x hx; rw [List.mem_singleton.1 hx, beq_eq_false_iff_ne]; omega
  · rw [if_neg g]
    by_cases g2 : o = (c : Int)
    · rw [if_pos g2]; intro x hx; rw [List.mem_singleton.1 hx, beq_eq_false_iff_ne]; omega
    · rw [if_neg g2]
      intro x hx
      simp only [List.mem_cons, List.not_mem_nil, or_false] at hx
      rw [beq_eq_false_iff_ne]
      rcases hx with rfl | rfl <;> omega
end Go.Proofs.Ytaahakmngdjdfaa
