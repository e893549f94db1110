/-
  The plain law of layer 5: which block stands on which node, as functions on integers. No program in sight; no condition.
-/
import Derived.Test.YtekjhhiamboffaaWords
namespace Go.Proofs.Ytekjhhiamboffaa

def rightZ (N S : Int) : Bool := decide (3 ≤ N ∧ N ≤ 6 ∧ 1 ≤ S ∧ S ≤ 8)
def blocksZ (N S : Int) : Int := if rightZ N S then S * (N - 1) else 0
def parityZ (N S : Int) : Int := if rightZ N S then N - 1 else -1
def hasZ (N S s n : Int) : Bool := decide ((3 ≤ N ∧ N ≤ 6 ∧ 1 ≤ S ∧ S ≤ 8) ∧ 0 ≤ s ∧ s < S ∧ 0 ≤ n ∧ n < N)
def nodeZ (N S s c : Int) : Int := if hasZ N S s c then (c + s) % N else -1
def colZ (N S s n : Int) : Int := if hasZ N S s n then (n + N - s % N) % N else -1
/-- is there such a block? -/
def inZ (N S b : Int) : Bool := decide (0 ≤ b ∧ b < blocksZ N S)
/-- is there a block in that column? -/
def bearsZ (N S s c : Int) : Bool := decide (hasZ N S s c = true ∧ c ≠ N - 1)
def blockZ (N _S s c : Int) : Int := s * (N - 1) + c

theorem right_iff {N S : Int} : rightZ N S = true ↔ 3 ≤ N ∧ N ≤ 6 ∧ 1 ≤ S ∧ S ≤ 8 := by simp [rightZ]
theorem has_iff {N S s n : Int} : hasZ N S s n = true ↔ (3 ≤ N ∧ N ≤ 6 ∧ 1 ≤ S ∧ S ≤ 8) ∧ 0 ≤ s ∧ s < S ∧ 0 ≤ n ∧ n < N := by simp [hasZ]
theorem not_right {N S : Int} (h : rightZ N S = false) : ¬ (3 ≤ N ∧ N ≤ 6 ∧ 1 ≤ S ∧ S ≤ 8) := by
  intro h'
  rw [right_iff.2 h'] at h
  cases h
theorem not_has {N S s n : Int} (h : hasZ N S s n = false) : ¬ ((3 ≤ N ∧ N ≤ 6 ∧ 1 ≤ S ∧ S ≤ 8) ∧ 0 ≤ s ∧ s < S ∧ 0 ≤ n ∧ n < N) := by
  intro h'
  rw [has_iff.2 h'] at h
  cases h

/-- q, r, d are the stripe, the column and the node of block b -/
def Stands (N b q r d : Int) : Prop := q = b / (N - 1) ∧ r = b % (N - 1) ∧ d = (r + q) % N
theorem order_law {N x y q r d q' r' d' : Int} (n1 : 3 ≤ N) (n2 : N ≤ 6) (hx : Stands N x q r d) (hy : Stands N y q' r' d') : x < y ↔ (q < q' ∨ q = q' ∧ r < r') := by
  obtain ⟨rfl, rfl, _⟩ := hx
  obtain ⟨rfl, rfl, _⟩ := hy
  rcases (show N = 3 ∨ N = 4 ∨ N = 5 ∨ N = 6 by omega) with rfl | rfl | rfl | rfl <;> omega
theorem prod_bounds {N S : Int} (n1 : 3 ≤ N) (n2 : N ≤ 6) (s1 : 1 ≤ S) (s2 : S ≤ 8) : 2 ≤ S * (N - 1) ∧ S * (N - 1) ≤ 40 := by
  rcases (show N = 3 ∨ N = 4 ∨ N = 5 ∨ N = 6 by omega) with rfl | rfl | rfl | rfl <;> omega

/-- from one stripe to the next each column stands one node further on -/
theorem turn_next {N s c u v : Int} (n1 : 3 ≤ N) (n2 : N ≤ 6) (hu : u = (c + s) % N) (hv : v = (c + (s - 1)) % N) : (v + 1).tmod N = u := by
  subst hu hv
  rw [Int.tmod_eq_emod_of_nonneg (by have := Int.emod_nonneg (c + (s - 1)) (show N ≠ 0 by omega); omega)]
  rcases (show N = 3 ∨ N = 4 ∨ N = 5 ∨ N = 6 by omega) with rfl | rfl | rfl | rfl <;> omega
/-- the stripe in which a node has the parity, among the first N -/
def turnS (N node : Int) : Int := (node + 1) % N
theorem turn_range {N node : Int} (n1 : 3 ≤ N) : 0 ≤ turnS N node ∧ turnS N node < N := ⟨Int.emod_nonneg _ (by omega), Int.emod_lt_of_pos _ (by omega)⟩
theorem turn_iff {N s node : Int} (n1 : 3 ≤ N) (n2 : N ≤ 6) (hs : 0 ≤ s) (hsN : s < N) (h1 : 0 ≤ node) (h2 : node < N) : (N - 1 + s) % N = node ↔ s = turnS N node := by
  unfold turnS
  rcases (show N = 3 ∨ N = 4 ∨ N = 5 ∨ N = 6 by omega) with rfl | rfl | rfl | rfl <;> omega
end Go.Proofs.Ytekjhhiamboffaa
