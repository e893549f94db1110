/-
  A drawn region, operation by operation: the kit's moves (wpAnyH_take, AllReadyH.cons), the operation found by its number; one for a guard that is false.
-/
import Derived.Deep.RegionHeld3
namespace Go.Proofs.Ytnaanfkiljhmeaa

/-- the operation of that number -/
def opAt : List Oper → Nat → Option Oper
  | [], _ => none
  | o :: _, 0 => some o
  | _ :: l, n + 1 => opAt l n
theorem opAt_eq : ∀ (l : List Oper) (i : Nat), opAt l i = l[i]?
  | [], _ => rfl
  | _ :: _, 0 => rfl
  | _ :: l, n + 1 => by rw [List.getElem?_cons_succ]; exact opAt_eq l n
theorem opAt_arr {ops : Array Oper} {i : Nat} {o : Oper} (h : opAt ops.toList i = some o) : ops[i]? = some o := by
  rw [opAt_eq] at h
  rw [← h, Array.getElem?_toList]

variable {P : Program} {ops : Array Oper} {Q : Exit → Act → World → Prop} {md : Region.Mode} {S : World → Prop}
/-- what yields where S holds, is taken first -/
theorem take_ok (i : Nat) {oi : Oper} {v : Value} {fuel : Nat} {listed : Array Bool} {a : Act} {w : World} (hi : opAt ops.toList i = some oi)
    (hs : Region.noSelect ops = true) (hf : Region.free md ops listed i = true) (hr : (Region.ready md ops listed).contains i = true)
    (hQ : ∀ c a w, Q (.panic c) (a.put oi.dst v) w → Q (.panic c) a w) (hw : Region.wanted oi (yielded ops a.tmps) = true)
    (hy : ∀ w, S w → (execOp a.eval oi).run P w = .ok (.value v) w) (hS : S w)
    (h : wpAnyH P md ops Q S fuel (listed.setIfInBounds i true) (a.put oi.dst v) w) : wpAnyH P md ops Q S (fuel + 1) listed a w :=
  wpAnyH_take (opAt_arr hi) hs hf hr hQ (Or.inl ⟨hw, hy⟩) hS h
/-- where the guard is false, nothing is done -/
theorem take_no (i : Nat) {oi : Oper} {fuel : Nat} {listed : Array Bool} {a : Act} {w : World} (hi : opAt ops.toList i = some oi)
    (hs : Region.noSelect ops = true) (hf : Region.free md ops listed i = true) (hr : (Region.ready md ops listed).contains i = true)
    (hQ : ∀ c a w, Q (.panic c) (a.put oi.dst undef) w → Q (.panic c) a w) (hw : Region.wanted oi (yielded ops a.tmps) = false) (hS : S w)
    (h : wpAnyH P md ops Q S fuel (listed.setIfInBounds i true) (a.put oi.dst undef) w) : wpAnyH P md ops Q S (fuel + 1) listed a w :=
  wpAnyH_take (opAt_arr hi) hs hf hr hQ (Or.inr ⟨hw, rfl⟩) hS h
/-- the only one that may come up: a call -/
theorem take_call (i : Nat) {oi : Oper} {fuel : Nat} {listed : Array Bool} {a : Act} {w : World} (hi : opAt ops.toList i = some oi) (hr : Region.ready md ops listed = [i])
    (hw : Region.wanted oi (yielded ops a.tmps) = true)
    (h : ∀ K' : Act → World → Prop, Shut (∀ a w, S w → (S w → wpAnyH P md ops Q S fuel (listed.setIfInBounds i true) a w) → K' a w) → Oper.wp P oi a w K' Q) : wpAnyH P md ops Q S (fuel + 1) listed a w :=
  wpAnyH_ready hr (by simp) (AllReadyH.cons (opAt_arr hi) (fun K hK => by rw [if_pos hw]; exact h K hK) AllReadyH.nil)
end Go.Proofs.Ytnaanfkiljhmeaa
