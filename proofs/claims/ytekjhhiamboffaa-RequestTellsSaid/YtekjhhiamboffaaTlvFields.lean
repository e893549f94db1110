/-
  Fields as cells and as bytes, without the program. No condition.
-/
import Derived.Test.YtekjhhiamboffaaTlvMath
namespace Go.Proofs.Ytekjhhiamboffaa
open Go.RowKit

abbrev Fld := Int × ByteArray
/-- fields as cells, two each -/
def fldCells : List Fld → List Value
  | [] => []
  | f :: l => .int .i64 f.1 :: .string f.2 :: fldCells l
theorem fldCells_length (l : List Fld) : (fldCells l).length = l.length * 2 := by
  induction l with
  | nil => rfl
  | cons f l ih => simp only [fldCells, List.length_cons, ih]; omega
theorem fldCells_append (a b : List Fld) : fldCells (a ++ b) = fldCells a ++ fldCells b := by
  induction a with
  | nil => rfl
  | cons f l ih => simp only [fldCells, List.cons_append, ih]
theorem fldCells_tag {l : List Fld} {k : Nat} (h : k < l.length) : (fldCells l)[k * 2]? = some (.int .i64 l[k].1) := by
  induction l generalizing k with
  | nil => simp at h
  | cons f l ih =>
    cases k with
    | zero => simp [fldCells]
    | succ k =>
      rw [show (k + 1) * 2 = k * 2 + 1 + 1 by omega, fldCells, List.getElem?_cons_succ, List.getElem?_cons_succ]
      simpa using ih (k := k) (by simpa using h)
theorem fldCells_text {l : List Fld} {k : Nat} (h : k < l.length) : (fldCells l)[k * 2 + 1]? = some (.string l[k].2) := by
  induction l generalizing k with
  | nil => simp at h
  | cons f l ih =>
    cases k with
    | zero => simp [fldCells]
    | succ k =>
      rw [show (k + 1) * 2 + 1 = k * 2 + 1 + 1 + 1 by omega, fldCells, List.getElem?_cons_succ, List.getElem?_cons_succ]
      simpa using ih (k := k) (by simpa using h)
theorem fldCells_one (l : List Fld) : ∀ u ∈ fldCells l, u.oneCell' = true := by
  induction l with
  | nil => simp [fldCells]
  | cons f l ih =>
    intro u hu
    simp only [fldCells, List.mem_cons] at hu
    rcases hu with rfl | rfl | hu
    · rfl
    · rfl
    · exact ih u hu

def okF (f : Fld) : Bool := decide (1 ≤ f.1 ∧ f.1 ≤ 255 ∧ f.2.size ≤ 400)
theorem okF_iff {f : Fld} : okF f = true ↔ 1 ≤ f.1 ∧ f.1 ≤ 255 ∧ f.2.size ≤ 400 := by simp [okF]
/-- a field's bytes -/
def headL (t : Int) (n : Nat) : List UInt8 := [UInt8.ofNat t.toNat, UInt8.ofNat (n % 256), UInt8.ofNat (n / 256)]
def oneL (f : Fld) : List UInt8 := headL f.1 f.2.size ++ f.2.data.toList
def layL : List Fld → List UInt8
  | [] => []
  | f :: l => oneL f ++ layL l
theorem layL_append (a b : List Fld) : layL (a ++ b) = layL a ++ layL b := by
  induction a with
  | nil => rfl
  | cons f l ih => simp only [layL, List.cons_append, ih, List.append_assoc]
theorem layL_step {l : List Fld} {k : Nat} (h : k < l.length) : layL (l.take (k + 1)) = layL (l.take k) ++ headL l[k].1 l[k].2.size ++ l[k].2.data.toList := by
  rw [List.take_succ_eq_append_getElem h, layL_append, layL, layL, List.append_nil, oneL, List.append_assoc]
theorem oneL_length (f : Fld) : (oneL f).length = 3 + f.2.size := by simp [oneL, headL]; omega
def allOk (l : List Fld) : Prop := ∀ f ∈ l, okF f = true
theorem layL_length {l : List Fld} (h : allOk l) : (layL l).length ≤ 403 * l.length := by
  induction l with
  | nil => simp [layL]
  | cons f l ih =>
    have h1 := okF_iff.1 (h f (by simp))
    have h2 := ih fun g hg => h g (by simp [hg])
    rw [layL, List.length_append, oneL_length, List.length_cons]
    omega
def layOk (l : List Fld) : Bool := decide (l.length ≤ 64) && l.all okF
theorem layOk_iff {l : List Fld} : layOk l = true ↔ l.length ≤ 64 ∧ allOk l := by
  unfold layOk allOk
  rw [Bool.and_eq_true, decide_eq_true_iff, List.all_eq_true]
def layT (l : List Fld) : List UInt8 := if layOk l then layL l else []
def layE (l : List Fld) : Int := if layOk l then 0 else 30
theorem allOk_step {l : List Fld} {k : Nat} (h : k < l.length) (h1 : allOk (l.take k)) (h2 : okF l[k] = true) : allOk (l.take (k + 1)) := by
  intro f hf
  rw [List.take_succ_eq_append_getElem h] at hf
  rcases List.mem_append.1 hf with h' | h'
  · exact h1 f h'
  · rw [List.mem_singleton.1 h']; exact h2
theorem lay_bad {l : List Fld} {k : Nat} (h : k < l.length) (h2 : ¬ okF l[k] = true) : layT l = [] ∧ layE l = 30 := by
  have h3 : ¬ layOk l = true := fun h' => h2 ((layOk_iff.1 h').2 _ (List.getElem_mem h))
  exact ⟨by unfold layT; rw [if_neg h3], by unfold layE; rw [if_neg h3]⟩
end Go.Proofs.Ytekjhhiamboffaa
