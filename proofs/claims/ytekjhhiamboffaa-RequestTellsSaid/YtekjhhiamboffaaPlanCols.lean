/-
  The contracts of package plan's right and others, and of the laws' helper Ints. Condition: the geometry is right, numbers are Go's.
-/
import Derived.Test.YtekjhhiamboffaaFit05
import Derived.KernelRfl
namespace Go.Proofs.Ytekjhhiamboffaa
open Go.RowKit

theorem int_info : (Try.prog.info? 3).map (fun i => (i.zero, i.size, i.bytes)) = some (some (.int .i64 0), 1, 8) := by kernel_rfl
/-- numbers as cells -/
def intCells (l : List Int) : List Value := l.map (Value.int .i64)
theorem intCells_length (l : List Int) : (intCells l).length = l.length := by simp [intCells]
theorem intCells_at {l : List Int} {k : Nat} (h : k < l.length) : (intCells l)[k]? = some (.int .i64 l[k]) := by simp [intCells, h]
theorem intCells_app (a b : List Int) : intCells (a ++ b) = intCells a ++ intCells b := by simp [intCells]
theorem rdi_call {w w' : World} {A : Option Addr} {xs : List Value} (h : Rd w w.heap.size A xs) (hk : Below w.heap.size w w') : Rd w' w'.heap.size A xs := (h.below hk).more hk.size
theorem newInts (w : World) (us : List Value) (t : TypeId) : ∀ (j : Nat) (x : Value), us[j]? = some x → (w.alloc (.cells us.toArray t)).cell? ((⟨w.heap.size, 0, none⟩ : Addr).add j) = some x := by
  intro j x hx
  rw [Addr.add_lit, Nat.zero_add]
  exact (World.cell?_alloc_mark w us.toArray t (0, 0) j).trans (by simpa using hx)

/-- all numbers below n but one, rising -/
def othersL (n : Nat) (but : Int) : List Int := ((List.range n).map fun k : Nat => (k : Int)).filter (· != but)
theorem othersL_step (k : Nat) (but : Int) : othersL (k + 1) but = othersL k but ++ (if (k : Int) != but then [(k : Int)] else []) := by
  unfold othersL
  rw [List.range_succ, List.map_append, List.filter_append]
  congr 1
  simp only [List.map_cons, List.map_nil, List.filter_cons, List.filter_nil]
theorem othersL_length (n : Nat) (but : Int) : (othersL n but).length ≤ n := by
  refine Nat.le_trans (List.length_filter_le _ _) ?_
  simp

end Go.Proofs.Ytekjhhiamboffaa
