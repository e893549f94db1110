/-
  A run of blocks, split, without the program: what plan.Split makes, step by step. No condition.
-/
import Derived.Test.YtekjhhiamboffaaPlanCols
import Derived.Test.YtekjhhiamboffaaPlanFloat
namespace Go.Proofs.Ytekjhhiamboffaa
open Go.RowKit

/-- a piece: its stripe, its first column, how many -/
abbrev Pc := Nat × Nat × Nat
def pcCells : List Pc → List Value
  | [] => []
  | p :: l => .int .i64 (p.1 : Int) :: .int .i64 (p.2.1 : Int) :: .int .i64 (p.2.2 : Int) :: pcCells l
theorem pcCells_length (l : List Pc) : (pcCells l).length = l.length * 3 := by
  induction l with
  | nil => rfl
  | cons p l ih => simp only [pcCells, List.length_cons, ih]; omega
theorem pcCells_append (a b : List Pc) : pcCells (a ++ b) = pcCells a ++ pcCells b := by
  induction a with
  | nil => rfl
  | cons p l ih => simp only [pcCells, List.cons_append, ih]
/-- where the run stands: the pieces so far, the last of them open, and the place of the next block -/
structure Run where
  l : List Pc
  s : Nat
  c : Nat
/-- one block more -/
def Run.step (N : Nat) (r : Run) : Run :=
  let l := if r.l = [] ∨ r.c = 0 then r.l ++ [(r.s, r.c, 0)] else r.l
  let l' := l.dropLast ++ (l.getLast?.map fun p => (p.1, p.2.1, p.2.2 + 1)).toList
  if r.c + 1 = N - 1 then ⟨l', r.s + 1, 0⟩ else ⟨l', r.s, r.c + 1⟩
def Run.steps (N : Nat) : Nat → Run → Run
  | 0, r => r
  | k + 1, r => (Run.steps N k r).step N
/-- the pieces of a run -/
def splitL (N at_ count : Nat) : List Pc := (Run.steps N count ⟨[], at_ / (N - 1), at_ % (N - 1)⟩).l
theorem pc_last {w : World} {base g n cap : Nat} {e : TypeId} {M : List Pc} {ps pc pn : Nat} (h : w.ownsRow base e 3 (.slice (some ⟨g, 0, none⟩) n cap) n (pcCells (M ++ [(ps, pc, pn)]))) (hn : n = M.length + 1) :
    w.cell? ⟨g, M.length * 3 + 2, none⟩ = some (.int .i64 (pn : Int)) ∧ w.frozen? ⟨g, M.length * 3 + 2, none⟩ = false := by
  refine ⟨?_, h.frozenAt _⟩
  rw [h.cellAt _ (by omega), pcCells_append, List.getElem?_append_right (by rw [pcCells_length]; omega), pcCells_length]
  simp [pcCells]
theorem pc_stored {w : World} {base g n cap : Nat} {e : TypeId} {M : List Pc} {ps pc pn : Nat} (h : w.ownsRow base e 3 (.slice (some ⟨g, 0, none⟩) n cap) n (pcCells (M ++ [(ps, pc, pn)]))) (v : Int) (hv : v = ((pn + 1 : Nat) : Int)) :
    (w.setCell ⟨g, M.length * 3 + 2, none⟩ (.int .i64 v)).ownsRow base e 3 (.slice (some ⟨g, 0, none⟩) n cap) n (pcCells (M ++ [(ps, pc, pn + 1)])) := by
  have h1 := (h.stored (M.length * 3 + 2) (.int .i64 v)).1
  subst hv
  rw [pcCells_append, List.set_append_right _ _ (by rw [pcCells_length]; omega), pcCells_length] at h1
  rw [pcCells_append]
  have e : M.length * 3 + 2 - M.length * 3 = 2 := by omega
  rw [e] at h1
  exact h1
/-- one step, where the open piece is the last of M ++ [p] -/
theorem step_at {N : Nat} {r : Run} {M : List Pc} {ps pc pn : Nat} (h : (if r.l = [] ∨ r.c = 0 then r.l ++ [(r.s, r.c, 0)] else r.l) = M ++ [(ps, pc, pn)]) :
    r.step N = if r.c + 1 = N - 1 then ⟨M ++ [(ps, pc, pn + 1)], r.s + 1, 0⟩ else ⟨M ++ [(ps, pc, pn + 1)], r.s, r.c + 1⟩ := by
  unfold Run.step
  simp only [h]
  simp
end Go.Proofs.Ytekjhhiamboffaa
