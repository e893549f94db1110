/-
  The contract of the laws' helper awake: chapter 6's examples hold. No condition.
-/
import Derived.Test.YtaahakmngdjdfaaPlanFetch
import Derived.Test.YtaahakmngdjdfaaPlanSplit
namespace Go.Proofs.Ytaahakmngdjdfaa
open Go.RowKit

theorem splitFix : splitL 4 2 3 = [(0, 2, 1), (1, 0, 2)] := by decide
theorem split_fix (w : World) : Calls Try.prog 13 #[.agg #[.int .i64 4, .int .i64 3], .int .i64 2, .int .i64 3] w fun e w' => ∃ (b off c : Nat), e = .returned (.tuple #[.slice (some ⟨b, off, none⟩) 2 c, .int .i64 0]) ∧
    Rd w' w'.heap.size (some ⟨b, off, none⟩) [.int .i64 0, .int .i64 2, .int .i64 1, .int .i64 1, .int .i64 0, .int .i64 2] ∧ Below w.heap.size w w' := by
  refine (split_yes 4 3 2 3 w (by decide) (by decide) (by decide) (by decide) (by decide) (by decide) (by decide)).mono ?_
  rw [splitFix]
  rintro e w' ⟨A, c, rfl, hr, hb⟩
  obtain ⟨b, off, rfl, _, _⟩ := hr.at_ (k := 0) (u := .int .i64 0) rfl
  exact ⟨b, off, c, rfl, hr, hb⟩
theorem fetch_fix (w : World) : Calls Try.prog 15 #[.agg #[.int .i64 4, .int .i64 3], .int .i64 1, .int .i64 (-1)] w fun e w' => ∃ (A B : Option Addr) (ca cb : Nat), e = .returned (.tuple #[.slice A 1 ca, .slice B 1 cb, .int .i64 0]) ∧ Rd w' w'.heap.size A (intCells [1]) ∧ Rd w' w'.heap.size B (intCells [2]) ∧ Below w.heap.size w w' :=
  fetch_yes 4 3 1 (-1) w (by decide) (by decide) (by decide) (by decide) (by decide) (by decide) (by decide) (by decide)
theorem update_fix1 (w : World) : Calls Try.prog 16 #[.agg #[.int .i64 4, .int .i64 3], .int .i64 1, .int .i64 1] w fun e w' => ∃ (A B : Option Addr) (ca cb : Nat), e = .returned (.tuple #[.slice A 2 ca, .slice B 1 cb, .int .i64 0]) ∧ Rd w' w'.heap.size A (intCells [0, 2]) ∧ Rd w' w'.heap.size B (intCells [3]) ∧ Below w.heap.size w w' :=
  update_yes 4 3 1 1 w (by decide) (by decide) (by decide) (by decide) (by decide) (by decide) (by decide) (by decide)
theorem update_fix2 (w : World) : Calls Try.prog 16 #[.agg #[.int .i64 4, .int .i64 3], .int .i64 1, .int .i64 3] w fun e w' => ∃ (A B : Option Addr) (ca cb : Nat), e = .returned (.tuple #[.slice A 0 ca, .slice B 1 cb, .int .i64 0]) ∧ Rd w' w'.heap.size A (intCells []) ∧ Rd w' w'.heap.size B (intCells [1]) ∧ Below w.heap.size w w' :=
  update_yes 4 3 1 3 w (by decide) (by decide) (by decide) (by decide) (by decide) (by decide) (by decide) (by decide)

set_option maxRecDepth 100000 in
set_option maxHeartbeats 4000000 in
theorem awake06_calls (w : World) :
    Calls Try.prog 9 #[] w fun e w' => e = .returned (.bool true) ∧ Below w.heap.size w w' := by
  have hb0 : Below (w.alloc (geoBox 4 3)).heap.size (w.alloc (geoBox 4 3)) (w.alloc (geoBox 4 3)) := Below.refl _ _
  have r0 := geo0 hb0
  have r1 := geo1 hb0
  unfold geoBox at r0 r1
  go_enter Try.func9, Try.ntmps9
  go_wp2_with (first
    | (go_at_call 13; refine (split_fix _).mono ?_; rintro e w1 ⟨b, off, c, rfl, hr, hk⟩; have hG := bel_call hb0 hk; have g0 := geo0 hG; have g1 := geo1 hG; clear hk)
    | (go_at_call 15; refine (fetch_fix _).mono ?_; rintro e w2 ⟨A1, A2, c1, c2, rfl, f1, f2, hk⟩; replace hG := bel_call hG hk; replace hr := rdi_call hr hk; have g2 := geo0 hG; have g3 := geo1 hG; clear hk))
  refine (update_fix1 _).mono ?_
  rintro e w3 ⟨A3, A4, c3, c4, rfl, u1, u2, hk⟩
  replace hG := bel_call hG hk
  replace hr := rdi_call hr hk
  replace f1 := rdi_call f1 hk
  replace f2 := rdi_call f2 hk
  have g4 := geo0 hG
  have g5 := geo1 hG
  clear hk
  go_wp2_with fail
  refine (update_fix2 _).mono ?_
  rintro e w4 ⟨A5, A6, c5, c6, rfl, -, u4, hk⟩
  replace hG := bel_call hG hk
  replace hr := rdi_call hr hk
  replace f1 := rdi_call f1 hk
  replace f2 := rdi_call f2 hk
  replace u1 := rdi_call u1 hk
  replace u2 := rdi_call u2 hk
  have p0 := hr.cell_ (k := 0) rfl
  have p1 := hr.cell_ (k := 1) rfl
  have p2 := hr.cell_ (k := 2) rfl
  have p3 := hr.cell_ (k := 3) rfl
  have p4 := hr.cell_ (k := 4) rfl
  have p5 := hr.cell_ (k := 5) rfl
  rw [Nat.add_zero] at p0
  have p6 : w4.cell? ⟨b, off + 3 + 1, none⟩ = some (.int .i64 0) := p4
  have p7 : w4.cell? ⟨b, off + 3 + 2, none⟩ = some (.int .i64 2) := p5
  clear hk g0 g1 g2 g3 g4 g5 r0 r1 hr
  go_wp2_with (first
    | (go_at_call_of 25 (Value.slice A1 1 c1); refine (ints_yes [1] A1 _ 1 _ _ _ (rdi_alloc f1 _) (rdi_new _ #[.int .i64 1] 3 _ rfl) rfl (by decide)).mono ?_; rintro e w5 ⟨rfl, hk⟩; replace hG := bel_call (bel_alloc hG _) hk; replace f2 := rdi_call (rdi_alloc f2 _) hk; replace u1 := rdi_call (rdi_alloc u1 _) hk; replace u2 := rdi_call (rdi_alloc u2 _) hk; replace u4 := rdi_call (rdi_alloc u4 _) hk; clear hk)
    | (go_at_call_of 25 (Value.slice A2 1 c2); refine (ints_yes [2] A2 _ 1 _ _ _ (rdi_alloc f2 _) (rdi_new _ #[.int .i64 2] 3 _ rfl) rfl (by decide)).mono ?_; rintro e w6 ⟨rfl, hk⟩; replace hG := bel_call (bel_alloc hG _) hk; replace u1 := rdi_call (rdi_alloc u1 _) hk; replace u2 := rdi_call (rdi_alloc u2 _) hk; replace u4 := rdi_call (rdi_alloc u4 _) hk; clear hk)
    | (go_at_call_of 25 (Value.slice A3 2 c3); refine (ints_yes [0, 2] A3 _ 2 _ _ _ (rdi_alloc u1 _) (rdi_new _ #[.int .i64 0, .int .i64 2] 3 _ rfl) rfl (by decide)).mono ?_; rintro e w7 ⟨rfl, hk⟩; replace hG := bel_call (bel_alloc hG _) hk; replace u2 := rdi_call (rdi_alloc u2 _) hk; replace u4 := rdi_call (rdi_alloc u4 _) hk; clear hk)
    | (go_at_call_of 25 (Value.slice A4 1 c4); refine (ints_yes [3] A4 _ 1 _ _ _ (rdi_alloc u2 _) (rdi_new _ #[.int .i64 3] 3 _ rfl) rfl (by decide)).mono ?_; rintro e w8 ⟨rfl, hk⟩; replace hG := bel_call (bel_alloc hG _) hk; replace u4 := rdi_call (rdi_alloc u4 _) hk; clear hk)
    | (go_at_call_of 25 (Value.slice A6 1 c6); refine (ints_yes [1] A6 _ 1 _ _ _ (rdi_alloc u4 _) (rdi_new _ #[.int .i64 1] 3 _ rfl) rfl (by decide)).mono ?_; rintro e w9 ⟨rfl, hk⟩; replace hG := bel_call (bel_alloc hG _) hk; clear hk))
  go_ret
  exact ⟨by rfl, geo_below hG⟩
end Go.Proofs.Ytaahakmngdjdfaa
