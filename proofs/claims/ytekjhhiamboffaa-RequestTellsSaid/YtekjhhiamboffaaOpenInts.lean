/-
  What a law's arguments hold, opened to values and lists: slices of numbers. No condition.
-/
import Derived.Test.YtekjhhiamboffaaOpens
import Derived.Test.YtekjhhiamboffaaPlanCols
import Derived.ChangeSlices
namespace Go.Proofs.Ytekjhhiamboffaa
open Go.ChangeShapes Go.WideShapes Go.ChangeAt Go.RowKit

section
variable {H : Type} {enc : TypeId × Value → H} {P : Program} {W : World}
theorem opened_ints {r : Reach} {b0 : Nat} {t e : TypeId} {v : Value} {d : DataW H} {p : List MemPlace} (ht : P.underlying t = some (.slice e)) (he : P.underlying e = some (.int .i64)) (hc : P.cellsOf e = 1)
    (hval : Value.okWide P W r b0 t v) (h0 : DataW.Trod enc P W 0 (fun _ => true) true t v d p) (hlt : ∀ x ∈ p, x.block < W.heap.size)
    (hsz : ∀ elems spare, d = .slice elems spare → (elems.length + spare.length) * 8 ≤ 140737488351232) :
    ∃ (A : Option Addr) (n c : Nat) (l : List Int), v = .slice A n c ∧ Rd W W.heap.size A (intCells l) ∧ l.length = n ∧ n ≤ c ∧ c * 8 ≤ 140737488351232 ∧ ∀ z ∈ l, -9223372036854775808 ≤ z ∧ z ≤ 9223372036854775807 := by
  obtain ⟨A, n, c, rfl⟩ := okWide_slice ht hval
  obtain ⟨fuel, hf⟩ := h0
  refine ⟨A, n, c, ?_⟩
  rcases open_ints ht he hc hf with ⟨hcs, _⟩ | ⟨a, len, cap, zs, hcs, _, hl, _, hz, hx, hcell, hs⟩
  · simp [Value.cells] at hcs
    obtain ⟨rfl, rfl, rfl⟩ := hcs
    exact ⟨[], rfl, Rd.nil _ _ _, rfl, Nat.le_refl _, by omega, by simp⟩
  · simp [Value.cells] at hcs
    obtain ⟨rfl, rfl, rfl⟩ := hcs
    simp only [if_true] at hz
    simp only [Prod.mk.injEq] at hx
    obtain ⟨hd, hp⟩ := hx
    have hb := hsz _ _ hd
    simp only [lits, List.length_map, List.length_take, List.length_drop] at hb
    refine ⟨zs.take n, rfl, ?_, by rw [List.length_take]; omega, hl, by omega, fun z h => int_bounds (hs z (List.mem_of_mem_take h))⟩
    by_cases hn : n = 0
    · left; subst hn; simp [intCells]
    · right
      have hc0 := hcell 0 (by omega)
      obtain ⟨b, off, spot⟩ := a
      have hspot : spot = none := by simpa [Addr.add] using World.cell?_spot hc0
      subst hspot
      refine ⟨b, off, rfl, hlt (.cell b off) (by rw [hp]; exact MemPlace.mem_row.2 ⟨0, by omega, by simp⟩), fun i u hu => ?_⟩
      simp only [intCells, List.getElem?_map, List.getElem?_take, Option.map_eq_some_iff] at hu
      obtain ⟨z, hz1, rfl⟩ := hu
      split at hz1
      · have hi := (List.getElem?_eq_some_iff.1 hz1).1
        have hci := hcell i hi
        rw [Addr.add_lit] at hci
        rw [hci]
        simp [List.getD, hz1]
      · cases hz1
end
end Go.Proofs.Ytekjhhiamboffaa
