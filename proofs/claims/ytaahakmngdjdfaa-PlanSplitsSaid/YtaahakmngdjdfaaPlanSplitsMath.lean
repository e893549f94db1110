/-
  A run of blocks, split: the pieces are the run, block by block: what PlanSplits asks of them, without the program. Condition: the geometry is right, the run lies in it.
-/
import Derived.Test.YtaahakmngdjdfaaPlanSplit
import Derived.Test.YtaahakmngdjdfaaRef05
namespace Go.Proofs.Ytaahakmngdjdfaa
open Go.RowKit

def sumC (l : List Pc) : Nat := (l.map fun p => p.2.2).sum
def fitsL (N a k : Nat) (l : List Pc) : Bool :=
  (decide (sumC l = k) && decide (l.length ≤ 4)) && (List.range l.length).all fun i =>
    decide (1 ≤ (l.getD i (0, 0, 0)).2.2) && decide ((l.getD i (0, 0, 0)).2.2 ≤ 4) && decide ((l.getD i (0, 0, 0)).2.1 + (l.getD i (0, 0, 0)).2.2 ≤ N - 1) &&
      decide ((l.getD i (0, 0, 0)).1 * (N - 1) + (l.getD i (0, 0, 0)).2.1 = a + sumC (l.take i)) && (decide (i = 0) || decide ((l.getD i (0, 0, 0)).1 = (l.getD (i - 1) (0, 0, 0)).1 + 1))
theorem fits_all : ((List.range 7).all fun N => (List.range 5).all fun k => (List.range 41).all fun a => decide (N < 3) || (decide (k = 0) || fitsL N a k (splitL N a k))) = true := by decide +kernel
theorem fits_split {N a k : Nat} (h1 : 3 ≤ N) (h2 : N ≤ 6) (k1 : 1 ≤ k) (k2 : k ≤ 4) (ha : a ≤ 40) : fitsL N a k (splitL N a k) = true := by
  have h := List.all_eq_true.1 (List.all_eq_true.1 (List.all_eq_true.1 fits_all N (List.mem_range.2 (by omega))) k (List.mem_range.2 (by omega))) a (List.mem_range.2 (by omega))
  simp only [Bool.or_eq_true, decide_eq_true_eq] at h
  rcases h with h | h | h
  · omega
  · omega
  · exact h
theorem fits_sum {N a k : Nat} {l : List Pc} (h : fitsL N a k l = true) : sumC l = k := by
  unfold fitsL at h
  simp only [Bool.and_eq_true, decide_eq_true_eq] at h
  exact h.1.1
theorem fits_len {N a k : Nat} {l : List Pc} (h : fitsL N a k l = true) : l.length ≤ 4 := by
  unfold fitsL at h
  simp only [Bool.and_eq_true, decide_eq_true_eq] at h
  exact h.1.2
theorem fits_at {N a k : Nat} {l : List Pc} (h : fitsL N a k l = true) {i : Nat} (hi : i < l.length) :
    1 ≤ l[i].2.2 ∧ l[i].2.2 ≤ 4 ∧ l[i].2.1 + l[i].2.2 ≤ N - 1 ∧ l[i].1 * (N - 1) + l[i].2.1 = a + sumC (l.take i) := by
  unfold fitsL at h
  simp only [Bool.and_eq_true, decide_eq_true_eq] at h
  have h2 := List.all_eq_true.1 h.2 i (List.mem_range.2 hi)
  have e : l.getD i (0, 0, 0) = l[i] := by rw [List.getD_eq_getElem?_getD, List.getElem?_eq_getElem hi]; rfl
  simp only [Bool.and_eq_true, decide_eq_true_eq, e] at h2
  obtain ⟨⟨⟨⟨a1, a2⟩, a3⟩, a4⟩, -⟩ := h2
  exact ⟨a1, a2, a3, a4⟩
theorem fits_next {N a k : Nat} {l : List Pc} (h : fitsL N a k l = true) {i : Nat} (hi : i + 1 < l.length) : l[i + 1].1 = l[i].1 + 1 := by
  unfold fitsL at h
  simp only [Bool.and_eq_true, decide_eq_true_eq] at h
  have h2 := List.all_eq_true.1 h.2 (i + 1) (List.mem_range.2 hi)
  have e : l.getD (i + 1) (0, 0, 0) = l[i + 1] := by rw [List.getD_eq_getElem?_getD, List.getElem?_eq_getElem hi]; rfl
  have e2 : l.getD (i + 1 - 1) (0, 0, 0) = l[i] := by rw [Nat.add_sub_cancel, List.getD_eq_getElem?_getD, List.getElem?_eq_getElem (by omega)]; rfl
  simp only [Bool.and_eq_true, Bool.or_eq_true, decide_eq_true_eq, e, e2] at h2
  rcases h2.2 with h3 | h3
  · omega
  · exact h3
theorem sumC_take {l : List Pc} {i : Nat} (hi : i < l.length) : sumC (l.take (i + 1)) = sumC (l.take i) + l[i].2.2 := by
  unfold sumC
  rw [List.take_succ_eq_append_getElem hi, List.map_append, List.sum_append]
  simp
theorem sumC_le {l : List Pc} (i : Nat) : sumC (l.take i) ≤ sumC l := by
  unfold sumC
  conv => rhs; rw [← List.take_append_drop i l, List.map_append, List.sum_append]
  omega
theorem pc_at {l : List Pc} {i : Nat} (hi : i < l.length) : (pcCells l)[i * 3]? = some (.int .i64 (l[i].1 : Int)) ∧ (pcCells l)[i * 3 + 1]? = some (.int .i64 (l[i].2.1 : Int)) ∧ (pcCells l)[i * 3 + 2]? = some (.int .i64 (l[i].2.2 : Int)) := by
  have e : l = l.take i ++ l[i] :: l.drop (i + 1) := by rw [List.getElem_cons_drop, List.take_append_drop]
  have hl : (pcCells (l.take i)).length = i * 3 := by rw [pcCells_length, List.length_take]; omega
  generalize l[i] = p at *
  rw [e, pcCells_append]
  refine ⟨?_, ?_, ?_⟩
  · rw [List.getElem?_append_right (by omega), hl, Nat.sub_self]; rfl
  · rw [List.getElem?_append_right (by omega), hl, show i * 3 + 1 - i * 3 = 1 by omega]; rfl
  · rw [List.getElem?_append_right (by omega), hl, show i * 3 + 2 - i * 3 = 2 by omega]; rfl

theorem rblocks_n (N S T : Nat) (w : World) (hT : T = S * (N - 1)) (h1 : 3 ≤ N) (h2 : N ≤ 6) (h3 : 1 ≤ S) (h4 : S ≤ 8) :
    Calls Try.prog 11 #[.agg #[.int .i64 N, .int .i64 S]] w fun e w' => e = .returned (.int .i64 T) ∧ Below w.heap.size w w' := by
  have h := rblocks_calls N S w
  have e : blocksZ N S = (T : Int) := by
    unfold blocksZ
    rw [if_pos (right_iff.2 ⟨by omega, by omega, by omega, by omega⟩), hT, Int.natCast_mul]
    congr 1
    omega
  rw [e] at h
  exact h
theorem rblock_n (N S x s : Nat) (s' c : Int) (w : World) (hs : s' = s) (h1 : 3 ≤ N) (h2 : N ≤ 6) (h3 : 1 ≤ S) (h4 : S ≤ 8) (c1 : 0 ≤ c) (c2 : c < (N : Int) - 1) (hx : (x : Int) = s * (N - 1 : Nat) + c) (hxT : x < S * (N - 1)) :
    Calls Try.prog 14 #[.agg #[.int .i64 N, .int .i64 S], .int .i64 s', .int .i64 c] w fun e w' => e = .returned (.tuple #[.int .i64 x, .bool true]) ∧ Below w.heap.size w w' := by
  subst hs
  have h := rblock_calls N S s c w
  have hsS : s < S := by
    apply Nat.lt_of_mul_lt_mul_right (a := N - 1)
    have : ((s * (N - 1) : Nat) : Int) ≤ (x : Int) := by rw [Int.natCast_mul, hx]; omega
    omega
  have hb : bearsZ N S s c = true := bears_iff.2 ⟨has_iff.2 ⟨⟨by omega, by omega, by omega, by omega⟩, by omega, by omega, by omega, by omega⟩, by omega⟩
  have e : blockV N S s c = (x : Int) := by
    unfold blockV
    rw [hb, if_pos rfl, hx]
    rw [show (N : Int) - 1 = ((N - 1 : Nat) : Int) by omega]
  rw [e, hb] at h
  exact h
theorem split_i (N S a k T : Nat) (a' k' : Int) (w : World) (ha : a' = a) (hk : k' = k) (hT : T = S * (N - 1)) (h1 : 3 ≤ N) (h2 : N ≤ 6) (h3 : 1 ≤ S) (h4 : S ≤ 8) (k1 : 1 ≤ k) (k2 : k ≤ 4) (hak : a + k ≤ T) (hT40 : T ≤ 40) :
    Calls Try.prog 13 #[.agg #[.int .i64 N, .int .i64 S], .int .i64 a', .int .i64 k'] w fun e w' => ∃ (L : List Pc) (A : Option Addr) (c : Nat), e = .returned (.tuple #[.slice A L.length c, .int .i64 0]) ∧ fitsL N a k L = true ∧ Rd w' w'.heap.size A (pcCells L) ∧ Below w.heap.size w w' := by
  subst ha hk
  refine (split_yes N S a k w h1 h2 h3 h4 k1 k2 (by omega)).mono ?_
  rintro e w' ⟨A, c, rfl, hr, hb⟩
  exact ⟨splitL N a k, A, c, rfl, fits_split h1 h2 k1 k2 (by omega), hr, hb⟩
end Go.Proofs.Ytaahakmngdjdfaa
