/-
  TlvTells: whatever fields, texts and numbers, they are laid and taken up as the document says. Condition: counts, numbers and lengths are Go's.
-/
import Derived.Test.YtjffbcipfjljpaaTlvLaws
import Derived.Test.YtjffbcipfjljpaaAwake03
import Derived.Test.YtjffbcipfjljpaaTlvRef
import Derived.Test.YtjffbcipfjljpaaTlvRefTake
namespace Go.Proofs.Ytjffbcipfjljpaa
open Go.RowKit

set_option maxRecDepth 100000 in
set_option maxHeartbeats 4000000 in
theorem tlvTells_walk (l0 : List Fld) (A0 : Option Addr) (n0 c0 : Nat) (s : ByteArray) (n : Int) (w : World) (x0 : Rd w w.heap.size A0 (fldCells l0)) (y0 : l0.length = n0) (_z0 : n0 ≤ maxLen) (_g0 : goF l0)
    (z1 : s.size ≤ 140737488351232) (_p1 : -9223372036854775808 ≤ n) (_p2 : n ≤ 9223372036854775807) :
    Calls Try.prog 3 #[.slice A0 n0 c0, .string s, .int .i64 n] w fun e w' => e = .returned (.bool true) ∧ Below w.heap.size w w' := by
  obtain ⟨a, ha⟩ : ∃ a : ByteArray, a = ⟨(layT l0).toArray⟩ := ⟨_, rfl⟩
  obtain ⟨e, he⟩ : ∃ e, e = layE l0 := ⟨_, rfl⟩
  obtain ⟨M, hM⟩ : ∃ M, M = takeF s.data.toList := ⟨_, rfl⟩
  obtain ⟨f, hf⟩ : ∃ f, f = takeE s.data.toList := ⟨_, rfl⟩
  obtain ⟨p, hp⟩ : ∃ p : ByteArray, p = ⟨(numT n).toArray⟩ := ⟨_, rfl⟩
  obtain ⟨g, hg⟩ : ∃ g, g = numE n := ⟨_, rfl⟩
  obtain ⟨y, hy⟩ : ∃ y, y = getN s.data.toList := ⟨_, rfl⟩
  obtain ⟨h, hh⟩ : ∃ h, h = getE s.data.toList := ⟨_, rfl⟩
  have HA := Lib.hid ha
  have HE := Lib.hid he
  have HM := Lib.hid hM
  have HF := Lib.hid hf
  have HP := Lib.hid hp
  have HG := Lib.hid hg
  have HY := Lib.hid hy
  have HH := Lib.hid hh
  clear ha he hM hf hp hg hy hh
  go_enter Try.func3, Try.ntmps3
  go_wp2_with (first
    | (go_at_call 10; refine (awake03_calls _).mono ?_; rintro e w1 ⟨rfl, hk⟩; replace x0 := rd_call x0 hk; have hb := hk; clear hk)
    | (go_at_call 11; refine (lay_calls l0 A0 n0 c0 _ x0 y0).mono ?_; rw [← HA.out, ← HE.out]; rintro e' w2 ⟨rfl, hk⟩; replace x0 := rd_call x0 hk; replace hb := bel_call hb hk; clear hk)
    | (go_at_call 12; refine (rlay_calls l0 A0 n0 c0 _ x0 y0).mono ?_; rw [← HA.out, ← HE.out]; rintro e' w3 ⟨rfl, hk⟩; replace hb := bel_call hb hk; clear hk x0)
    | (go_at_call 13; refine (take_calls s _).mono ?_; rw [← HM.out, ← HF.out]; rintro e' w4 ⟨v, rfl, hown, hk⟩; obtain ⟨A1, c1, rfl, k1, k2⟩ := own_form hown; have HML := Lib.hid (Nat.le_trans k1 k2); have r1 := Rd.of_own hown; replace hb := bel_call hb hk; clear hk hown k1 k2)
    | (go_at_call 14; refine (rtake_calls s _ (by omega)).mono ?_; rw [← HM.out, ← HF.out]; rintro e' w5 ⟨v, rfl, hown, hk⟩; obtain ⟨A2, c2, rfl, k1, k2⟩ := own_form hown; have r2 := Rd.of_own hown; replace r1 := rd_call r1 hk; replace hb := bel_call hb hk; clear hk hown k1 k2)
    | (go_at_call 15; refine (num_calls n _).mono ?_; rw [← HP.out, ← HG.out]; rintro e' w6 ⟨rfl, hk⟩; replace r1 := rd_call r1 hk; replace r2 := rd_call r2 hk; replace hb := bel_call hb hk; clear hk)
    | (go_at_call 16; refine (rnum_calls n _).mono ?_; rw [← HP.out, ← HG.out]; rintro e' w7 ⟨rfl, hk⟩; replace r1 := rd_call r1 hk; replace r2 := rd_call r2 hk; replace hb := bel_call hb hk; clear hk)
    | (go_at_call 17; refine (get_calls s _).mono ?_; rw [← HY.out, ← HH.out]; rintro e' w8 ⟨rfl, hk⟩; replace r1 := rd_call r1 hk; replace r2 := rd_call r2 hk; replace hb := bel_call hb hk; clear hk)
    | (go_at_call 18; refine (rget_calls s _).mono ?_; rw [← HY.out, ← HH.out]; rintro e' w9 ⟨rfl, hk⟩; replace r1 := rd_call r1 hk; replace r2 := rd_call r2 hk; replace hb := bel_call hb hk; clear hk)
    | (go_at_call 19; refine (same_calls M M _ _ _ _ _ _ _ r1 r2 rfl rfl HML.out HML.out).mono ?_; rw [decide_eq_true rfl]; rintro e' w10 ⟨rfl, hk⟩; replace hb := bel_call hb hk; clear hk))
  go_ret
  exact ⟨by rfl, hb⟩
end Go.Proofs.Ytjffbcipfjljpaa
