/-
  The contracts of package plan's Fetch and Update: which columns they name. Condition: the geometry is right, the column bears blocks, what is out is a column or none.
-/
import Derived.Test.YtaahakmngdjdfaaPlanCols
namespace Go.Proofs.Ytaahakmngdjdfaa
open Go.RowKit

theorem others_i (N : Int) (n : Nat) (but : Int) (w : World) (hN : N = n) (hn : n ≤ 6) :
    Calls Try.prog 34 #[.int .i64 N, .int .i64 but] w fun e w' => ∃ (A : Option Addr) (c : Nat), e = .returned (.slice A (othersL n but).length c) ∧ Rd w' w'.heap.size A (intCells (othersL n but)) ∧ Below w.heap.size w w' := by
  subst hN
  exact others_calls n but w hn
theorem rdi_new (w : World) (cs : Array Value) (t : TypeId) (g : Nat) (hg : w.heap.size = g) : Rd (w.alloc (.cells cs t)) (w.alloc (.cells cs t)).heap.size (some ⟨g, 0, none⟩) cs.toList := by
  subst hg
  have h := Rd.new w cs t (0, 0)
  rw [World.size_alloc]
  exact h
theorem rdi_alloc {w : World} {A : Option Addr} {xs : List Value} (h : Rd w w.heap.size A xs) (o : Obj) : Rd (w.alloc o) (w.alloc o).heap.size A xs := (h.alloc (Nat.le_refl _) o).more (by simp)

def fetchR (N : Nat) (c o : Int) : List Int := if o = c then othersL N c else [c]
def fetchB (N : Nat) (c o : Int) : List Int := if o = -1 then [(c + 1) % (N : Int)] else []

set_option maxHeartbeats 2000000 in
theorem fetch_yes (N : Nat) (S c o : Int) (w : World) (h1 : 3 ≤ N) (h2 : N ≤ 6) (h3 : 1 ≤ S) (h4 : S ≤ 8) (c1 : 0 ≤ c) (c2 : c < (N : Int) - 1) (o1 : -1 ≤ o) (o2 : o ≤ (N : Int) - 1) :
    Calls Try.prog 15 #[.agg #[.int .i64 N, .int .i64 S], .int .i64 c, .int .i64 o] w fun e w' => ∃ (A B : Option Addr) (ca cb : Nat), e = .returned (.tuple #[.slice A (fetchR N c o).length ca, .slice B (fetchB N c o).length cb, .int .i64 0]) ∧
      Rd w' w'.heap.size A (intCells (fetchR N c o)) ∧ Rd w' w'.heap.size B (intCells (fetchB N c o)) ∧ Below w.heap.size w w' := by
  rcases (show o = c ∨ (o ≠ c ∧ o = -1) ∨ (o ≠ c ∧ o ≠ -1) by omega) with g | ⟨g, g2⟩ | ⟨g, g2⟩
  · have hR : fetchR N c o = othersL N c := by unfold fetchR; rw [if_pos g]
    have hB : fetchB N c o = [] := by unfold fetchB; rw [if_neg (by omega)]
    rw [hR, hB]
    clear hR hB
    subst g
    go_enter Try.func15, Try.ntmps15
    go_wp2_with (first
      | (go_at_call 33; refine (pright_yes N S o o _ (by omega) (by omega) h3 h4 c1 c2 o1 o2).mono ?_; rintro e w1 ⟨rfl, hk⟩; have hG : Below (w.alloc (geoBox N S)).heap.size (w.alloc (geoBox N S)) w1 := hk; have r0 := geo0 hG; have r1 := geo1 hG; clear hk)
      | (go_at_call 34; refine (others_i N N o _ rfl h2).mono ?_; rintro e w2 ⟨A, ca, rfl, hr, hk⟩; replace hG := bel_call hG hk; clear hk))
    go_ret3
    exact ⟨A, none, ca, 0, rfl, hr, Rd.nil _ _ _, geo_below hG⟩
  · have hR : fetchR N c o = [c] := by unfold fetchR; rw [if_neg g]
    have hB : fetchB N c o = [(c + 1) % (N : Int)] := by unfold fetchB; rw [if_pos g2]
    rw [hR, hB]
    clear hR hB
    have q1 : (o == c) = false := by rw [beq_eq_false_iff_ne]; exact g
    have q2 : (o == -1) = true := by rw [beq_iff_eq]; exact g2
    have n0 : ¬ (N : Int) = 0 := by omega
    have m1 : (c + 1).tmod (N : Int) = (c + 1) % (N : Int) := Int.tmod_eq_emod_of_nonneg (by omega)
    clear g g2
    go_enter Try.func15, Try.ntmps15
    go_wp2_with (first
      | (go_at_call 33; refine (pright_yes N S c o _ (by omega) (by omega) h3 h4 c1 c2 o1 o2).mono ?_; rintro e w1 ⟨rfl, hk⟩; have hG : Below (w.alloc (geoBox N S)).heap.size (w.alloc (geoBox N S)) w1 := hk; have r0 := geo0 hG; have r1 := geo1 hG; clear hk))
    have r2 := geo0 (bel_alloc hG (.cells #[.int .i64 c] 3))
    go_region
    all_goals go_wp2
    all_goals go_ret3
    all_goals
      first
        | exact ⟨_, _, _, _, rfl, rdi_alloc (rdi_new w1 #[.int .i64 c] 3 _ rfl) _, rdi_new (w1.alloc (.cells #[.int .i64 c] 3)) #[.int .i64 ((c + 1) % (N : Int))] 3 _ (by simp), (bel_alloc (bel_alloc (geo_below hG) _) _).drew⟩
        | exact ⟨_, _, _, _, rfl, rdi_new (w1.alloc (.cells #[.int .i64 ((c + 1) % (N : Int))] 3)) #[.int .i64 c] 3 _ (by simp), rdi_alloc (rdi_new w1 #[.int .i64 ((c + 1) % (N : Int))] 3 _ rfl) _, (bel_alloc (bel_alloc (geo_below hG) _) _).drew⟩
  · have hR : fetchR N c o = [c] := by unfold fetchR; rw [if_neg g]
    have hB : fetchB N c o = [] := by unfold fetchB; rw [if_neg g2]
    rw [hR, hB]
    clear hR hB
    have q1 : (o == c) = false := by rw [beq_eq_false_iff_ne]; exact g
    have q2 : (o == -1) = false := by rw [beq_eq_false_iff_ne]; exact g2
    clear g g2
    go_enter Try.func15, Try.ntmps15
    go_wp2_with (first
      | (go_at_call 33; refine (pright_yes N S c o _ (by omega) (by omega) h3 h4 c1 c2 o1 o2).mono ?_; rintro e w1 ⟨rfl, hk⟩; have hG : Below (w.alloc (geoBox N S)).heap.size (w.alloc (geoBox N S)) w1 := hk; have r0 := geo0 hG; have r1 := geo1 hG; clear hk))
    go_ret3
    exact ⟨_, none, _, 0, rfl, rdi_new w1 #[.int .i64 c] 3 _ rfl, Rd.nil _ _ _, bel_alloc (geo_below hG) _⟩

def updR (N : Nat) (c o : Int) : List Int := if o = (N : Int) - 1 then [] else if o = c then othersL (N - 1) c else [c, (N : Int) - 1]
def updW (N : Nat) (c o : Int) : List Int := if o = (N : Int) - 1 then [c] else if o = c then [(N : Int) - 1] else [c, (N : Int) - 1]

set_option maxHeartbeats 2000000 in
theorem update_yes (N : Nat) (S c o : Int) (w : World) (h1 : 3 ≤ N) (h2 : N ≤ 6) (h3 : 1 ≤ S) (h4 : S ≤ 8) (c1 : 0 ≤ c) (c2 : c < (N : Int) - 1) (o1 : -1 ≤ o) (o2 : o ≤ (N : Int) - 1) :
    Calls Try.prog 16 #[.agg #[.int .i64 N, .int .i64 S], .int .i64 c, .int .i64 o] w fun e w' => ∃ (A B : Option Addr) (ca cb : Nat), e = .returned (.tuple #[.slice A (updR N c o).length ca, .slice B (updW N c o).length cb, .int .i64 0]) ∧
      Rd w' w'.heap.size A (intCells (updR N c o)) ∧ Rd w' w'.heap.size B (intCells (updW N c o)) ∧ Below w.heap.size w w' := by
  rcases (show o = (N : Int) - 1 ∨ (o ≠ (N : Int) - 1 ∧ o = c) ∨ (o ≠ (N : Int) - 1 ∧ o ≠ c) by omega) with g | ⟨g, g2⟩ | ⟨g, g2⟩
  · have hR : updR N c o = [] := by unfold updR; rw [if_pos g]
    have hB : updW N c o = [c] := by unfold updW; rw [if_pos g]
    rw [hR, hB]
    clear hR hB
    subst g
    go_enter Try.func16, Try.ntmps16
    go_wp2_with (first
      | (go_at_call 33; refine (pright_yes N S c _ _ (by omega) (by omega) h3 h4 c1 c2 o1 o2).mono ?_; rintro e w1 ⟨rfl, hk⟩; have hG : Below (w.alloc (geoBox N S)).heap.size (w.alloc (geoBox N S)) w1 := hk; have r0 := geo0 hG; have r1 := geo1 hG; clear hk)
      | (go_at_call 30; refine (parity_yes N S _ (by omega) (by omega) h3 h4).mono ?_; rintro e w2 ⟨rfl, hk⟩; replace hG := bel_call hG hk; clear hk))
    go_ret3
    exact ⟨none, _, 0, _, rfl, Rd.nil _ _ _, rdi_new w2 #[.int .i64 c] 3 _ rfl, bel_alloc (geo_below hG) _⟩
  · have hR : updR N c o = othersL (N - 1) c := by unfold updR; rw [if_neg g, if_pos g2]
    have hB : updW N c o = [(N : Int) - 1] := by unfold updW; rw [if_neg g, if_pos g2]
    rw [hR, hB]
    clear hR hB
    subst g2
    have q1 : (o == (N : Int) - 1) = false := by rw [beq_eq_false_iff_ne]; exact g
    clear g
    go_enter Try.func16, Try.ntmps16
    go_wp2_with (first
      | (go_at_call 33; refine (pright_yes N S o o _ (by omega) (by omega) h3 h4 c1 c2 o1 o2).mono ?_; rintro e w1 ⟨rfl, hk⟩; have hG : Below (w.alloc (geoBox N S)).heap.size (w.alloc (geoBox N S)) w1 := hk; have r0 := geo0 hG; have r1 := geo1 hG; clear hk)
      | (go_at_call 30; refine (parity_yes N S _ (by omega) (by omega) h3 h4).mono ?_; rintro e w2 ⟨rfl, hk⟩; replace hG := bel_call hG hk; clear hk)
      | (go_at_call 34; refine (others_i ((N : Int) - 1) (N - 1) o _ (by omega) (by omega)).mono ?_; rintro e w3 ⟨A, ca, rfl, hr, hk⟩; replace hG := bel_call hG hk; clear hk))
    go_ret3
    exact ⟨A, _, ca, _, rfl, rdi_alloc hr _, rdi_new w3 #[.int .i64 ((N : Int) - 1)] 3 _ rfl, bel_alloc (geo_below hG) _⟩
  · have hR : updR N c o = [c, (N : Int) - 1] := by unfold updR; rw [if_neg g, if_neg g2]
    have hB : updW N c o = [c, (N : Int) - 1] := by unfold updW; rw [if_neg g, if_neg g2]
    rw [hR, hB]
    clear hR hB
    have q1 : (o == (N : Int) - 1) = false := by rw [beq_eq_false_iff_ne]; exact g
    have q2 : (o == c) = false := by rw [beq_eq_false_iff_ne]; exact g2
    clear g g2
    go_enter Try.func16, Try.ntmps16
    go_wp2_with (first
      | (go_at_call 33; refine (pright_yes N S c o _ (by omega) (by omega) h3 h4 c1 c2 o1 o2).mono ?_; rintro e w1 ⟨rfl, hk⟩; have hG : Below (w.alloc (geoBox N S)).heap.size (w.alloc (geoBox N S)) w1 := hk; have r0 := geo0 hG; have r1 := geo1 hG; clear hk)
      | (go_at_call 30; refine (parity_yes N S _ (by omega) (by omega) h3 h4).mono ?_; rintro e w2 ⟨rfl, hk⟩; replace hG := bel_call hG hk; clear hk))
    go_ret3
    exact ⟨_, _, _, _, rfl, rdi_alloc (rdi_new w2 #[.int .i64 c, .int .i64 ((N : Int) - 1)] 3 _ rfl) _, rdi_new (w2.alloc (.cells #[.int .i64 c, .int .i64 ((N : Int) - 1)] 3)) #[.int .i64 c, .int .i64 ((N : Int) - 1)] 3 _ (by simp), bel_alloc (bel_alloc (geo_below hG) _) _⟩
end Go.Proofs.Ytaahakmngdjdfaa
