/-
  Layer 3 without the program: numbers as texts and back, fields as bytes and back. No condition.
-/
import Derived.Test.YtekjhhiamboffaaWords
namespace Go.Proofs.Ytekjhhiamboffaa

/-- a number's bytes, the least first -/
def numL (m : Nat) : List UInt8 := if h : m = 0 then [] else UInt8.ofNat (m % 256) :: numL (m / 256)
termination_by m
decreasing_by omega
def valL : List UInt8 → Nat
  | [] => 0
  | b :: l => b.toNat + 256 * valL l
theorem numL_zero : numL 0 = [] := by rw [numL]; simp
theorem numL_pos {m : Nat} (h : 0 < m) : numL m = UInt8.ofNat (m % 256) :: numL (m / 256) := by rw [numL]; rw [dif_neg (by omega)]
theorem u8_of_lt {k : Nat} (h : k < 256) : (UInt8.ofNat k).toNat = k := by simp [UInt8.toNat_ofNat']; omega
theorem valL_numL (m : Nat) : valL (numL m) = m := by
  induction m using Nat.strongRecOn with
  | _ m ih =>
    by_cases h : m = 0
    · subst h; rw [numL_zero]; rfl
    · rw [numL_pos (by omega), valL, ih _ (by omega), u8_of_lt (by omega)]; omega
theorem valL_lt (l : List UInt8) : valL l < 256 ^ l.length := by
  induction l with
  | nil => simp [valL]
  | cons b l ih =>
    have := b.toNat_lt
    simp only [valL, List.length_cons, Nat.pow_succ]
    omega
theorem valL_snoc (l : List UInt8) (b : UInt8) : valL (l ++ [b]) = valL l + 256 ^ l.length * b.toNat := by
  induction l with
  | nil => simp [valL]
  | cons c l ih =>
    simp only [List.cons_append, valL, ih, List.length_cons, Nat.pow_succ]
    rw [Nat.mul_add, Nat.add_assoc, Nat.mul_comm (256 ^ l.length) 256, Nat.mul_assoc]
theorem numL_last (m : Nat) : (numL m).getLast? ≠ some 0 := by
  induction m using Nat.strongRecOn with
  | _ m ih =>
    by_cases h : m = 0
    · subst h; rw [numL_zero]; simp
    · rw [numL_pos (by omega)]
      by_cases h2 : m / 256 = 0
      · rw [h2, numL_zero]
        simp only [List.getLast?_singleton, ne_eq, Option.some.injEq]
        intro h0
        have h1 : (UInt8.ofNat (m % 256)).toNat = 0 := by rw [h0]; rfl
        rw [u8_of_lt (by omega)] at h1
        omega
      · have := ih (m / 256) (by omega)
        rw [numL_pos (m := m / 256) (by omega)] at this ⊢
        rw [List.getLast?_cons_cons]
        exact this
theorem numL_valL (l : List UInt8) (h : l.getLast? ≠ some 0) : numL (valL l) = l := by
  induction l with
  | nil => simp [valL, numL_zero]
  | cons b l ih =>
    have hb := b.toNat_lt
    have hp : 0 < valL (b :: l) ∧ numL (valL l) = l := by
      cases l with
      | nil =>
        simp only [List.getLast?_singleton, ne_eq, Option.some.injEq] at h
        refine ⟨?_, by simp [valL, numL_zero]⟩
        have h1 : b.toNat ≠ 0 := fun h0 => h (UInt8.toNat_inj.1 (by rw [h0]; rfl))
        simp only [valL]
        omega
      | cons c l =>
        rw [List.getLast?_cons_cons] at h
        have h1 := ih h
        refine ⟨?_, h1⟩
        have h2 : valL (c :: l) ≠ 0 := by
          intro h0
          rw [h0, numL_zero] at h1
          cases h1
        simp only [valL] at h2 ⊢
        omega
    rw [numL_pos hp.1]
    have e1 : valL (b :: l) % 256 = b.toNat := by simp only [valL]; omega
    have e2 : valL (b :: l) / 256 = valL l := by simp only [valL]; omega
    rw [e1, e2, hp.2]
    simp
theorem numL_len {m k : Nat} (h : m < 256 ^ k) : (numL m).length ≤ k := by
  induction k generalizing m with
  | zero => simp at h; subst h; rw [numL_zero]; simp
  | succ k ih =>
    by_cases h0 : m = 0
    · subst h0; rw [numL_zero]; simp
    · rw [numL_pos (by omega), List.length_cons]
      have := ih (m := m / 256) (by rw [Nat.pow_succ] at h; omega)
      omega
theorem numL_mono {m m' : Nat} (h : m ≤ m') : (numL m).length ≤ (numL m').length := by
  induction m using Nat.strongRecOn generalizing m' with
  | _ m ih =>
    by_cases h0 : m = 0
    · subst h0; rw [numL_zero]; simp
    · rw [numL_pos (m := m) (by omega), numL_pos (m := m') (by omega), List.length_cons, List.length_cons]
      have := ih (m / 256) (by omega) (m' := m' / 256) (by omega)
      omega

/-- a number's text, and the error's number -/
def numOk (n : Int) : Bool := decide (-1 ≤ n ∧ n ≤ 1099511627776)
def numT (n : Int) : List UInt8 := if numOk n then numL (n + 1).toNat else []
def numE (n : Int) : Int := if numOk n then 0 else 30
/-- the number that a text is, and the error's number -/
def getOk (l : List UInt8) : Bool := decide (l.length ≤ 6 ∧ l.getLast? ≠ some 0 ∧ valL l ≤ 1099511627777)
def getN (l : List UInt8) : Int := if getOk l then (valL l : Int) - 1 else 0
def getE (l : List UInt8) : Int := if getOk l then 0 else 30
theorem numOk_iff {n : Int} : numOk n = true ↔ -1 ≤ n ∧ n ≤ 1099511627776 := by simp [numOk]
theorem getOk_iff {l : List UInt8} : getOk l = true ↔ l.length ≤ 6 ∧ l.getLast? ≠ some 0 ∧ valL l ≤ 1099511627777 := by simp [getOk]
theorem numT_len (n : Int) : (numT n).length ≤ 6 := by
  unfold numT
  by_cases h : numOk n = true
  · rw [if_pos h]
    have := numOk_iff.1 h
    exact numL_len (by omega)
  · rw [if_neg h]; simp
theorem get_num {n : Int} (h : numOk n = true) : getOk (numT n) = true ∧ getN (numT n) = n := by
  have hn := numOk_iff.1 h
  have hg : getOk (numT n) = true := by
    rw [getOk_iff]
    refine ⟨numT_len n, ?_, ?_⟩
    · unfold numT; rw [if_pos h]; exact numL_last _
    · unfold numT; rw [if_pos h, valL_numL]; omega
  refine ⟨hg, ?_⟩
  unfold getN
  rw [if_pos hg]
  unfold numT
  rw [if_pos h, valL_numL]
  omega
theorem num_get {l : List UInt8} (h : getOk l = true) : numOk (getN l) = true ∧ numT (getN l) = l := by
  obtain ⟨h1, h2, h3⟩ := getOk_iff.1 h
  have hn : getN l = (valL l : Int) - 1 := by unfold getN; rw [if_pos h]
  have hk : numOk (getN l) = true := by rw [numOk_iff, hn]; omega
  refine ⟨hk, ?_⟩
  unfold numT
  rw [if_pos hk, hn, show ((valL l : Int) - 1 + 1).toNat = valL l by omega]
  exact numL_valL l h2
theorem num_mono {n m : Int} (h1 : numOk n = true) (h2 : numOk m = true) (h : n ≤ m) : (numT n).length ≤ (numT m).length := by
  unfold numT
  rw [if_pos h1, if_pos h2]
  exact numL_mono (by omega)
end Go.Proofs.Ytekjhhiamboffaa
