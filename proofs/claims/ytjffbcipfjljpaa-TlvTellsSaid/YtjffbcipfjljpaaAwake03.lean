/-
  The contract of the laws' helper awake: chapter 3's examples hold. No condition.
-/
import Derived.Test.YtjffbcipfjljpaaTlvTake
import Derived.Test.YtjffbcipfjljpaaTlvSame
namespace Go.Proofs.Ytjffbcipfjljpaa
open Go.RowKit

def abB : ByteArray := ⟨#[97, 98]⟩
theorem rd_new (w : World) (cs : Array Value) (t : TypeId) : Rd (w.alloc (.cells cs t)) (w.alloc (.cells cs t)).heap.size (some ⟨w.heap.size, 0, none⟩) cs.toList := by
  have h := Rd.new w cs t (0, 0)
  rw [World.size_alloc]
  exact h
theorem abLay : layT [((7 : Int), abB)] = [7, 2, 0, 97, 98] ∧ layE [((7 : Int), abB)] = 0 := by decide
theorem abTake : takeF [7, 2, 0, 97, 98] = [((7 : Int), abB)] ∧ takeE [7, 2, 0, 97, 98] = 0 := by decide
theorem num_a : numT (-1) = [] ∧ numE (-1) = 0 := by
  refine ⟨?_, by decide⟩
  unfold numT
  rw [if_pos (by decide), show (((-1 : Int) + 1).toNat) = 0 by decide, numL_zero]
theorem num_b : numT 0 = [1] ∧ numE 0 = 0 := by
  refine ⟨?_, by decide⟩
  unfold numT
  rw [if_pos (by decide), show (((0 : Int) + 1).toNat) = 1 by decide, numL_pos (by decide), show 1 / 256 = 0 by decide, numL_zero]
  rfl
theorem num_c : numT 255 = [0, 1] ∧ numE 255 = 0 := by
  refine ⟨?_, by decide⟩
  unfold numT
  rw [if_pos (by decide), show (((255 : Int) + 1).toNat) = 256 by decide, numL_pos (by decide), show 256 / 256 = 1 by decide, numL_pos (by decide), show 1 / 256 = 0 by decide, numL_zero]
  rfl
theorem get_d : getN [0] = 0 ∧ getE [0] = 30 := by decide

set_option maxHeartbeats 2000000 in
theorem awake03_calls (w : World) :
    Calls Try.prog 10 #[] w fun e w' => e = .returned (.bool true) ∧ Below w.heap.size w w' := by
  go_enter Try.func10, Try.ntmps10
  go_wp2_with (first
    | (go_at_call 11; refine (lay_calls [((7 : Int), abB)] _ _ _ _ (rd_new w #[.int .i64 7, .string abB] 40) rfl).mono ?_; rw [abLay.1, abLay.2]; rintro e w1 ⟨rfl, hk⟩; have hb := bel_call (bel_alloc (Below.refl _ w) _) hk; clear hk)
    | (go_at_call 13; refine (take_calls ⟨#[7, 2, 0, 97, 98]⟩ _).mono ?_; rw [abTake.1, abTake.2]; rintro e w2 ⟨v, rfl, hown, hk⟩; obtain ⟨A, c, rfl, -, -⟩ := own_form hown; have HR := Lib.hid (Rd.of_own hown); have hb2 := Below.refl w2.heap.size w2; replace hb := bel_call hb hk; clear hk hown)
    | (go_at_call 15; refine (num_calls _ _).mono ?_; (first | rw [num_a.1, num_a.2] | rw [num_b.1, num_b.2] | rw [num_c.1, num_c.2]); rintro e w3 ⟨rfl, hk⟩; replace hb := bel_call hb hk; replace hb2 := bel_call hb2 hk; clear hk)
    | (go_at_call 17; refine (get_calls ⟨#[0]⟩ _).mono ?_; rw [get_d.1, get_d.2]; rintro e w6 ⟨rfl, hk⟩; replace hb := bel_call hb hk; replace hb2 := bel_call hb2 hk; clear hk)
    | (go_at_call 19; refine (same_calls [((7 : Int), abB)] [((7 : Int), abB)] _ _ 1 1 _ _ _ (((HR.out.below hb2).more hb2.size).alloc (Nat.le_refl _) _ |>.more (by simp)) (rd_new _ #[.int .i64 7, .string abB] 40) rfl rfl (by decide) (by decide)).mono ?_; rw [decide_eq_true rfl]; rintro e w7 ⟨rfl, hk⟩; replace hb := bel_call (bel_alloc hb _) hk; clear hk))
  go_ret
  exact ⟨by rfl, hb⟩
end Go.Proofs.Ytjffbcipfjljpaa
