/-
  TlvParts: fields laid one list behind the other are both lists' fields: for any two raw lists. Condition: counts, numbers and lengths are Go's.
-/
import Derived.Test.YtjffbcipfjljpaaTlvBack
namespace Go.Proofs.Ytjffbcipfjljpaa
open Go.RowKit

theorem layB_size {L : List Fld} {s : ByteArray} (hs : s = ⟨(layL L).toArray⟩) (hok : allOk L) (hL : L.length ≤ 64) : s.size ≤ 25792 := by
  rw [hs, size_mk]
  have := layL_length hok
  omega
theorem layB_append {a b : List Fld} {s t : ByteArray} (hs : s = ⟨(layL a).toArray⟩) (ht : t = ⟨(layL b).toArray⟩) : (⟨(layL (a ++ b)).toArray⟩ : ByteArray) = s ++ t := by
  rw [← mk_toList (s ++ t)]
  have : (s ++ t).data.toList = s.data.toList ++ t.data.toList := by simp
  rw [this, hs, ht, toList_mk, toList_mk, layL_append]
theorem lay_n (L : List Fld) (n : Nat) (A : Option Addr) (c : Nat) (s : ByteArray) (w : World) (hs : s = ⟨(layL L).toArray⟩) (hn : L.length = n) (hL : n ≤ 64) (hok : allOk L) (hr : Rd w w.heap.size A (fldCells L)) :
    Calls Try.prog 11 #[.slice A n c] w fun e w' => e = .returned (.tuple #[.string s, .int .i64 0]) ∧ Below w.heap.size w w' := by
  subst hn
  exact lay_v L A c s w hs hL hok hr
theorem allOk_append {a b : List Fld} (ha : allOk a) (hb : allOk b) : allOk (a ++ b) := by
  intro f hf
  rcases List.mem_append.1 hf with h | h
  · exact ha f h
  · exact hb f h

set_option maxRecDepth 100000 in
set_option maxHeartbeats 4000000 in
theorem tlvParts_walk (l0 : List Fld) (A0 : Option Addr) (n0 c0 : Nat) (l1 : List Fld) (A1 : Option Addr) (n1 c1 : Nat) (w : World) (x0 : Rd w w.heap.size A0 (fldCells l0)) (y0 : l0.length = n0) (_z0 : n0 ≤ maxLen) (g0 : goF l0)
    (x1 : Rd w w.heap.size A1 (fldCells l1)) (y1 : l1.length = n1) (_z1 : n1 ≤ maxLen) (g1 : goF l1) :
    Calls Try.prog 6 #[.slice A0 n0 c0, .slice A1 n1 c1] w fun e w' => e = .returned (.bool true) ∧ Below w.heap.size w w' := by
  have G0 := Lib.hid g0
  have G1 := Lib.hid g1
  clear g0 g1
  obtain ⟨iF, hiF, hzF, hsF, hbF⟩ := info_parts fld_info
  go_enter Try.func6, Try.ntmps6
  go_wp2_with (first
    | (go_at_call 10; refine (awake03_calls _).mono ?_; rintro e w1 ⟨rfl, hk⟩; replace x0 := rd_call x0 hk; replace x1 := rd_call x1 hk; have hb := hk; clear hk)
    | (go_at_call_of 20 (Value.slice A0 n0 c0); refine (fit_v l0 A0 n0 c0 _ x0 y0 G0.out).mono ?_; rintro e w2 ⟨La, Aa, ca, rfl, hLa, hoa, hra, hk⟩; replace x1 := rd_call x1 hk; replace hb := bel_call hb hk; clear hk)
    | (go_at_call_of 20 (Value.slice A1 n1 c1); refine (fit_v l1 A1 n1 c1 _ x1 y1 G1.out).mono ?_; rintro e w3 ⟨Lb, Ab, cb, rfl, hLb, hob, hrb, hk⟩; replace hra := rd_call hra hk; replace hb := bel_call hb hk; clear hk))
  clear x0 x1 y0 y1
  have HOA := Lib.hid hoa
  have HOB := Lib.hid hob
  obtain ⟨s, hs⟩ : ∃ s : ByteArray, s = ⟨(layL La).toArray⟩ := ⟨_, rfl⟩
  obtain ⟨t, ht⟩ : ∃ t : ByteArray, t = ⟨(layL Lb).toArray⟩ := ⟨_, rfl⟩
  have s1 := layB_size hs hoa (by omega)
  have s2 := layB_size ht hob (by omega)
  have HS := Lib.hid hs
  have HT := Lib.hid ht
  clear hs ht hoa hob
  go_wp2_with (first
    | (go_at_call_of 11 (Value.slice Aa La.length ca); refine (lay_v La Aa ca s _ HS.out (by omega) HOA.out hra).mono ?_; rintro e w4 ⟨rfl, hk⟩; replace hra := rd_call hra hk; replace hrb := rd_call hrb hk; replace hb := bel_call hb hk; clear hk)
    | (go_at_call_of 11 (Value.slice Ab Lb.length cb); refine (lay_v Lb Ab cb t _ HT.out (by omega) HOB.out hrb).mono ?_; rintro e w5 ⟨rfl, hk⟩; replace hra := rd_call hra hk; replace hrb := rd_call hrb hk; replace hb := bel_call hb hk; clear hk)
    | (at_builtin; refine wpList_append_rd rfl (.const (.slice none 0 0)) (.tmp 30) 22 rfl w5.heap.size 40 iF _ 2 24 Try.underlying22 hiF hzF hsF hbF rfl (by decide) (.slice none 0 0) 0 [] rfl (World.ownsRow_nil _ _ _ _) w5.heap.size Aa La.length ca (fldCells La) rfl hra (fldCells_length La) (fldCells_one La) (by unfold maxLen; omega) (by omega) (Nat.le_refl _) ?_; intro v6 w6 hown6 hg6; have hb5 := hb.size; have hk6 : Below w5.heap.size w5 w6 := grown_nil_below hg6; replace hra := rd_call hra hk6; replace hrb := rd_call hrb hk6; replace hb := bel_call hb hk6; rw [Nat.zero_add, List.nil_append] at hown6; have HO6 := Lib.hid hown6; clear hown6 hg6)
    | (at_builtin; refine wpList_append_rd rfl (.tmp 31) (.tmp 32) 22 rfl w5.heap.size 40 iF _ 2 24 Try.underlying22 hiF hzF hsF hbF rfl (by decide) v6 La.length (fldCells La) rfl HO6.out w6.heap.size Ab Lb.length cb (fldCells Lb) rfl hrb (fldCells_length Lb) (fldCells_one Lb) (by unfold maxLen; omega) (by omega) hk6.size ?_; intro v7 w7 hown7 hg7; replace hb := hb.grown hg7 hb.size (fun j hj => Nat.le_trans hb5 (HO6.out.lt j hj).1); obtain ⟨A7, c7, rfl, -, -⟩ := own_form hown7; have hr7 := Rd.of_own hown7; rw [← fldCells_append] at hr7; clear hown7 hg7)
    | (go_at_call_of 11 (Value.slice A7 (La.length + Lb.length) c7); refine (lay_n (La ++ Lb) _ A7 c7 (s ++ t) _ (layB_append HS.out HT.out).symm (List.length_append ..) (by omega) (allOk_append HOA.out HOB.out) hr7).mono ?_; rintro e w8 ⟨rfl, hk⟩; replace hb := bel_call hb hk; clear hk))
  go_ret
  exact ⟨by rfl, hb⟩
end Go.Proofs.Ytjffbcipfjljpaa
