/-
  What an argument of fields holds, opened to a list. No condition.
-/
import Derived.Test.YtjffbcipfjljpaaOpens
import Derived.Test.YtjffbcipfjljpaaTlvFit
import Derived.Deep.SlicePairs
namespace Go.Proofs.Ytjffbcipfjljpaa
open Go.ChangeShapes Go.WideShapes Go.ChangeAt Go.RowKit

section
variable {H : Type} {enc : TypeId × Value → H} {P : Program} {W : World}
theorem rd_fields {b off : Nat} {l : List Fld} (hb : b < W.heap.size) (h : ∀ j (hj : j < l.length), W.cell? ⟨b, off + j * 2, none⟩ = some (.int .i64 l[j].1) ∧ W.cell? ⟨b, off + j * 2 + 1, none⟩ = some (.string l[j].2)) :
    Rd W W.heap.size (some ⟨b, off, none⟩) (fldCells l) := by
  refine .inr ⟨b, off, rfl, hb, fun i u hu => ?_⟩
  have hi := (List.getElem?_eq_some_iff.1 hu).1
  rw [fldCells_length] at hi
  rcases (show ∃ j, i = j * 2 ∨ i = j * 2 + 1 from ⟨i / 2, by omega⟩) with ⟨j, rfl | rfl⟩
  · rw [fldCells_tag (by omega)] at hu
    injection hu with hu
    rw [← hu]
    exact (h j (by omega)).1
  · rw [fldCells_text (by omega)] at hu
    injection hu with hu
    rw [← hu, ← Nat.add_assoc]
    exact (h j (by omega)).2
theorem opened_fields {r : Reach} {b0 : Nat} {t e : TypeId} {f0 f1 : Field} {v : Value} {d : DataW H} {p : List MemPlace} (ht : P.underlying t = some (.slice e)) (he : P.underlying e = some (.struct #[f0, f1]))
    (ce : P.cellsOf e = 2) (o0 : f0.offset = 0) (o1 : f1.offset = 1) (t0 : P.underlying f0.type = some (.int .i64)) (t1 : P.underlying f1.type = some .string) (c0 : P.cellsOf f0.type = 1) (c1 : P.cellsOf f1.type = 1)
    (hval : Value.okWide P W r b0 t v) (h0 : DataW.Trod enc P W 0 (fun _ => true) true t v d p) (hlt : ∀ x ∈ p, x.block < W.heap.size) :
    ∃ (A : Option Addr) (n c : Nat) (l : List Fld), v = .slice A n c ∧ Rd W W.heap.size A (fldCells l) ∧ l.length = n ∧ n ≤ maxLen ∧ goF l := by
  obtain ⟨A, n, c, rfl⟩ := okWide_slice ht hval
  obtain ⟨fuel, hf⟩ := h0
  refine ⟨A, n, c, ?_⟩
  rcases Deep.open_slice_pairs ht he ce o0 o1 c0 c1 hf with ⟨hcs, _⟩ | ⟨a, len, cap, m, k, V0, V1, D0, D1, P0, P1, hcs, _, hl, hm, hmm, hx, hall⟩
  · simp [Value.cells] at hcs
    obtain ⟨rfl, rfl, rfl⟩ := hcs
    exact ⟨[], rfl, Rd.nil _ _ _, rfl, by unfold maxLen; omega, by intro f hf; simp at hf⟩
  · simp [Value.cells] at hcs
    obtain ⟨rfl, rfl, rfl⟩ := hcs
    simp only [if_true] at hmm
    simp only [Prod.mk.injEq] at hx
    obtain ⟨_, hp⟩ := hx
    have each : ∀ i, i < n → ∃ q : Fld, W.cell? (a.add (i * 2)) = some (.int .i64 q.1) ∧ W.cell? (a.add (i * 2 + 1)) = some (.string q.2) ∧ -9223372036854775808 ≤ q.1 ∧ q.1 ≤ 9223372036854775807 ∧ q.2.size ≤ 9223372036854775807 := by
      intro i hi
      obtain ⟨h1, h2, h3, h4⟩ := hall i (by omega)
      obtain ⟨z, e1, _, w1⟩ := DataW.trod_int t0 h3
      obtain ⟨s, e2, _, w2⟩ := DataW.trod_string t1 h4
      simp only [List.cons.injEq, and_true] at e1 e2
      rw [e1] at h1
      rw [e2] at h2
      refine ⟨(z, s), h1, h2, (int_bounds w1).1, (int_bounds w1).2, ?_⟩
      unfold maxLen at w2
      exact w2
    obtain ⟨q, hq⟩ := Deep.choose_lt each
    refine ⟨(List.range n).map q, rfl, ?_, by simp, by omega, ?_⟩
    · by_cases hn : n = 0
      · left; subst hn; rfl
      · have hc0 := (hq 0 (by omega)).1
        obtain ⟨b, off, spot⟩ := a
        have hspot : spot = none := by simpa [Addr.add] using World.cell?_spot hc0
        subst hspot
        refine rd_fields (hlt (.cell b off) ?_) fun j hj => ?_
        · rw [hp]
          exact List.mem_append_left _ (MemPlace.mem_row.2 ⟨0, by omega, by simp⟩)
        · simp only [List.length_map, List.length_range] at hj
          obtain ⟨g1, g2, _⟩ := hq j hj
          rw [Addr.add_lit] at g1 g2
          simp only [List.getElem_map, List.getElem_range]
          rw [Nat.add_assoc]
          exact ⟨g1, g2⟩
    · intro f hf
      obtain ⟨i, hi, rfl⟩ := List.mem_map.1 hf
      exact (hq i (List.mem_range.1 hi)).2.2
end
end Go.Proofs.Ytjffbcipfjljpaa
