/-
  A stripe whose columns are all nought, put together: what is picked of it, what Got and Made make of that; without the program. Condition: all columns are of one length.
-/
import Derived.Test.YtaahakmngdjdfaaPlanFetch
import Derived.Test.YtaahakmngdjdfaaXorMath
namespace Go.Proofs.Ytaahakmngdjdfaa
open Go.RowKit

/-- some of a stripe's columns -/
def pickL (L : List ByteArray) (cs : List Int) : List ByteArray := cs.map fun x => L.getD x.toNat ⟨#[]⟩
theorem pickL_length (L : List ByteArray) (cs : List Int) : (pickL L cs).length = cs.length := by simp [pickL]
theorem pickL_snoc (L : List ByteArray) (cs : List Int) (x : Int) : pickL L (cs ++ [x]) = pickL L cs ++ [L.getD x.toNat ⟨#[]⟩] := by simp [pickL]
theorem pickL_size {L : List ByteArray} {cs : List Int} {n : Nat} (h : ∀ s ∈ L, s.size = n) (hin : ∀ x ∈ cs, 0 ≤ x ∧ x < (L.length : Int)) : ∀ s ∈ pickL L cs, s.size = n := by
  intro s hs
  obtain ⟨x, hx, rfl⟩ := List.mem_map.1 hs
  have hl : x.toNat < L.length := by have := hin x hx; omega
  rw [List.getD_eq_getElem?_getD, List.getElem?_eq_getElem hl]
  exact h _ (List.getElem_mem hl)
theorem col_eq {L : List ByteArray} {k : Nat} (hk : k < L.length) : L.getD k ⟨#[]⟩ = L[k] := by
  rw [List.getD_eq_getElem?_getD, List.getElem?_eq_getElem hk]; rfl
theorem othersL_in {n : Nat} {c : Int} : ∀ x ∈ othersL n c, 0 ≤ x ∧ x < (n : Int) := by
  intro x hx
  unfold othersL at hx
  obtain ⟨k, hk, rfl⟩ := List.mem_map.1 (List.mem_filter.1 hx).1
  have := List.mem_range.1 hk
  omega
theorem othersL_ne {n : Nat} {c : Int} : ∀ x ∈ othersL n c, (x == c) = false := by
  intro x hx
  unfold othersL at hx
  have h := (List.mem_filter.1 hx).2
  simpa using h
theorem fetchR_in {N : Nat} {c o : Int} (c1 : 0 ≤ c) (c2 : c < (N : Int) - 1) : ∀ x ∈ fetchR N c o, 0 ≤ x ∧ x < (N : Int) := by
  unfold fetchR
  split
  · exact othersL_in
  · intro x hx; rw [List.mem_singleton.1 hx]; omega
theorem updR_in {N : Nat} {c o : Int} (c1 : 0 ≤ c) (c2 : c < (N : Int) - 1) : ∀ x ∈ updR N c o, 0 ≤ x ∧ x < (N : Int) := by
  unfold updR
  split
  · simp
  · split
    · intro x hx; have := othersL_in x hx; omega
    · intro x hx
      simp only [List.mem_cons, List.not_mem_nil, or_false] at hx
      rcases hx with rfl | rfl <;> omega
theorem fetchR_len {N : Nat} (c o : Int) (h1 : 1 ≤ N) : (fetchR N c o).length ≤ N := by
  unfold fetchR
  split
  · exact othersL_length _ _
  · exact h1
theorem pick_others : ∀ (N : Nat) (c : Nat) (L : List ByteArray), N ≤ 6 → L.length = N → c < N → pickL L (othersL N c) = L.eraseIdx c := by
  intro N c L h2 hl hc
  rcases (show N = 1 ∨ N = 2 ∨ N = 3 ∨ N = 4 ∨ N = 5 ∨ N = 6 by omega) with rfl | rfl | rfl | rfl | rfl | rfl
  · obtain ⟨a, rfl⟩ := List.length_eq_one_iff.1 hl
    obtain rfl : c = 0 := by omega
    rfl
  · match L, hl with
    | [a, b], _ => rcases (show c = 0 ∨ c = 1 by omega) with rfl | rfl <;> rfl
  · match L, hl with
    | [a, b, d], _ => rcases (show c = 0 ∨ c = 1 ∨ c = 2 by omega) with rfl | rfl | rfl <;> rfl
  · match L, hl with
    | [a, b, d, e], _ => rcases (show c = 0 ∨ c = 1 ∨ c = 2 ∨ c = 3 by omega) with rfl | rfl | rfl | rfl <;> rfl
  · match L, hl with
    | [a, b, d, e, f], _ => rcases (show c = 0 ∨ c = 1 ∨ c = 2 ∨ c = 3 ∨ c = 4 by omega) with rfl | rfl | rfl | rfl | rfl <;> rfl
  · match L, hl with
    | [a, b, d, e, f, g], _ => rcases (show c = 0 ∨ c = 1 ∨ c = 2 ∨ c = 3 ∨ c = 4 ∨ c = 5 by omega) with rfl | rfl | rfl | rfl | rfl | rfl <;> rfl
/-- what Got is -/
def gotV (c o : Int) (R : List ByteArray) : ByteArray := if o = c then sumX 16 R else R.getD 0 ⟨#[]⟩
/-- a stripe that is all nought: one column is the others put together -/
theorem lost_one {n : Nat} {L : List ByteArray} {k : Nat} (h : ∀ s ∈ L, s.size = n) (hz : sumX n L = zeroB n) (hk : k < L.length) : sumX n (L.eraseIdx k) = L[k] := by
  have hx : L[k]? = some L[k] := List.getElem?_eq_getElem hk
  have hs := sumX_split h hx
  have hsz : (sumX n (L.eraseIdx k)).size = n := sumX_size fun s hs => h s (List.mem_of_mem_eraseIdx hs)
  have hxs : L[k].size = n := h _ (List.getElem_mem hk)
  rw [hz] at hs
  have h2 := congrArg (fun t => xorB t L[k]) hs
  rw [xorB_cancel _ _ (by rw [hsz, hxs]; exact Nat.le_refl _), zeroB_xor hxs] at h2
  exact h2.symm
theorem got_law {N : Nat} {c o : Int} {L : List ByteArray} (hl : L.length = N) (h6 : N ≤ 6) (h : ∀ s ∈ L, s.size = 16) (hz : sumX 16 L = zeroB 16) (c1 : 0 ≤ c) (c2 : c < (N : Int) - 1) :
    gotV c o (pickL L (fetchR N c o)) = L.getD c.toNat ⟨#[]⟩ := by
  obtain ⟨k, rfl⟩ := Int.eq_ofNat_of_zero_le c1
  unfold gotV fetchR
  by_cases ho : o = (k : Int)
  · rw [if_pos ho, if_pos ho, pick_others N k L h6 hl (by omega), lost_one h hz (by omega), Int.toNat_natCast, col_eq]
  · rw [if_neg ho, if_neg ho]
    rfl
end Go.Proofs.Ytaahakmngdjdfaa
