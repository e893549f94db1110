/-
  TlvBack: Take undoes Lay, and unlike lists are laid unlike: for any two raw lists. Condition: counts, numbers and lengths are Go's.
-/
import Derived.Test.YtjffbcipfjljpaaAwake03
import Derived.Test.YtjffbcipfjljpaaTlvLaws
namespace Go.Proofs.Ytjffbcipfjljpaa
open Go.RowKit

theorem same_v (bb : Bool) (la lb : List Fld) (A B : Option Addr) (c d : Nat) (w : World) (hbb : decide (la = lb) = bb) (hra : Rd w w.heap.size A (fldCells la)) (hrb : Rd w w.heap.size B (fldCells lb)) (hn : la.length ≤ 64) (hm : lb.length ≤ 64) :
    Calls Try.prog 19 #[.slice A la.length c, .slice B lb.length d] w fun e w' => e = .returned (.bool bb) ∧ Below w.heap.size w w' := by
  subst hbb
  exact same_calls la lb A B _ _ c d w hra hrb rfl rfl (by unfold maxLen; omega) (by unfold maxLen; omega)
theorem text_same {a b : ByteArray} (h : a = b) : (a.toList == b.toList) = true := by rw [h]; exact beq_self_eq_true _
theorem text_other {a b : ByteArray} (h : a ≠ b) : (a.toList == b.toList) = false := by
  rw [beq_eq_false_iff_ne, ByteArray.toList_eq, ByteArray.toList_eq]
  intro e
  exact h (by rw [← mk_toList a, e, mk_toList])

set_option maxRecDepth 100000 in
set_option maxHeartbeats 4000000 in
theorem tlvBack_walk (l0 : List Fld) (A0 : Option Addr) (n0 c0 : Nat) (l1 : List Fld) (A1 : Option Addr) (n1 c1 : Nat) (w : World) (x0 : Rd w w.heap.size A0 (fldCells l0)) (y0 : l0.length = n0) (_z0 : n0 ≤ maxLen) (g0 : goF l0)
    (x1 : Rd w w.heap.size A1 (fldCells l1)) (y1 : l1.length = n1) (_z1 : n1 ≤ maxLen) (g1 : goF l1) :
    Calls Try.prog 4 #[.slice A0 n0 c0, .slice A1 n1 c1] w fun e w' => e = .returned (.bool true) ∧ Below w.heap.size w w' := by
  have G0 := Lib.hid g0
  have G1 := Lib.hid g1
  clear g0 g1
  go_enter Try.func4, Try.ntmps4
  go_wp2_with (first
    | (go_at_call 10; refine (awake03_calls _).mono ?_; rintro e w1 ⟨rfl, hk⟩; replace x0 := rd_call x0 hk; replace x1 := rd_call x1 hk; have hb := hk; clear hk)
    | (go_at_call_of 20 (Value.slice A0 n0 c0); refine (fit_v l0 A0 n0 c0 _ x0 y0 G0.out).mono ?_; rintro e w2 ⟨La, Aa, ca, rfl, hLa, hoa, hra, hk⟩; replace x1 := rd_call x1 hk; replace hb := bel_call hb hk; clear hk)
    | (go_at_call_of 20 (Value.slice A1 n1 c1); refine (fit_v l1 A1 n1 c1 _ x1 y1 G1.out).mono ?_; rintro e w3 ⟨Lb, Ab, cb, rfl, hLb, hob, hrb, hk⟩; replace hra := rd_call hra hk; replace hb := bel_call hb hk; clear hk))
  clear x0 x1 y0 y1
  have HOA := Lib.hid hoa
  have HOB := Lib.hid hob
  obtain ⟨s, hs⟩ : ∃ s : ByteArray, s = ⟨(layL La).toArray⟩ := ⟨_, rfl⟩
  obtain ⟨t, ht⟩ : ∃ t : ByteArray, t = ⟨(layL Lb).toArray⟩ := ⟨_, rfl⟩
  have HS := Lib.hid hs
  have HT := Lib.hid ht
  clear hs ht hoa hob
  by_cases he : La = Lb
  · have hq : (s.toList == t.toList) = true := text_same (by rw [HS.out, HT.out, he])
    have HQ : Hid (decide (La = Lb) = true) := Lib.hid (decide_eq_true he)
    clear he
    go_wp2_with (first
      | (go_at_call_of 11 (Value.slice Aa La.length ca); refine (lay_v La Aa ca s _ HS.out (by omega) HOA.out hra).mono ?_; rintro e w4 ⟨rfl, hk⟩; replace hra := rd_call hra hk; replace hrb := rd_call hrb hk; replace hb := bel_call hb hk; clear hk)
      | (go_at_call_of 11 (Value.slice Ab Lb.length cb); refine (lay_v Lb Ab cb t _ HT.out (by omega) HOB.out hrb).mono ?_; rintro e w5 ⟨rfl, hk⟩; replace hra := rd_call hra hk; replace hrb := rd_call hrb hk; replace hb := bel_call hb hk; clear hk)
      | (go_at_call 13; refine (take_v La s _ HS.out (by omega) HOA.out).mono ?_; rintro e w6 ⟨Am, cm, rfl, hrm, hk⟩; replace hra := rd_call hra hk; replace hrb := rd_call hrb hk; replace hb := bel_call hb hk; clear hk)
      | (go_at_call_of 19 (Value.slice Am La.length cm); refine (same_v true La La _ _ _ _ _ (decide_eq_true rfl) hrm hra (by omega) (by omega)).mono ?_; rintro e w7 ⟨rfl, hk⟩; replace hra := rd_call hra hk; replace hrb := rd_call hrb hk; replace hb := bel_call hb hk; clear hk hrm)
      | (go_at_call_of 19 (Value.slice Ab Lb.length cb); refine (same_v true La Lb _ _ _ _ _ HQ.out hra hrb (by omega) (by omega)).mono ?_; rintro e w8 ⟨rfl, hk⟩; replace hb := bel_call hb hk; clear hk))
    go_ret
    exact ⟨by rfl, hb⟩
  · have hq : (s.toList == t.toList) = false := text_other (fun e => he (by
      have h1 : s.data.toList = layL La := by rw [HS.out, toList_mk]
      have h2 : t.data.toList = layL Lb := by rw [HT.out, toList_mk]
      exact lay_inj HOA.out HOB.out (by omega) (by omega) (by rw [← h1, ← h2, e])))
    have HQ : Hid (decide (La = Lb) = false) := Lib.hid (decide_eq_false he)
    clear he
    go_wp2_with (first
      | (go_at_call_of 11 (Value.slice Aa La.length ca); refine (lay_v La Aa ca s _ HS.out (by omega) HOA.out hra).mono ?_; rintro e w4 ⟨rfl, hk⟩; replace hra := rd_call hra hk; replace hrb := rd_call hrb hk; replace hb := bel_call hb hk; clear hk)
      | (go_at_call_of 11 (Value.slice Ab Lb.length cb); refine (lay_v Lb Ab cb t _ HT.out (by omega) HOB.out hrb).mono ?_; rintro e w5 ⟨rfl, hk⟩; replace hra := rd_call hra hk; replace hrb := rd_call hrb hk; replace hb := bel_call hb hk; clear hk)
      | (go_at_call 13; refine (take_v La s _ HS.out (by omega) HOA.out).mono ?_; rintro e w6 ⟨Am, cm, rfl, hrm, hk⟩; replace hra := rd_call hra hk; replace hrb := rd_call hrb hk; replace hb := bel_call hb hk; clear hk)
      | (go_at_call_of 19 (Value.slice Am La.length cm); refine (same_v true La La _ _ _ _ _ (decide_eq_true rfl) hrm hra (by omega) (by omega)).mono ?_; rintro e w7 ⟨rfl, hk⟩; replace hra := rd_call hra hk; replace hrb := rd_call hrb hk; replace hb := bel_call hb hk; clear hk hrm)
      | (go_at_call_of 19 (Value.slice Ab Lb.length cb); refine (same_v false La Lb _ _ _ _ _ HQ.out hra hrb (by omega) (by omega)).mono ?_; rintro e w8 ⟨rfl, hk⟩; replace hb := bel_call hb hk; clear hk))
    go_ret
    exact ⟨by rfl, hb⟩
end Go.Proofs.Ytjffbcipfjljpaa
