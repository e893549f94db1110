/-
  XorMoves: Moved of the parity is the parity of the texts, one of which is another one: for any raw texts, numbers and text. No condition.
-/
import Derived.Test.YtfbpcapmaddhnaaAwake01
import Derived.Test.YtfbpcapmaddhnaaTextsWalks
import Derived.Test.YtfbpcapmaddhnaaTexts2
namespace Go.Proofs.Ytfbpcapmaddhnaa
open Go.RowKit

set_option maxRecDepth 100000 in
set_option maxHeartbeats 2000000 in
theorem xorMoves_walk (raw : List ByteArray) (A : Option Addr) (n c : Nat) (many long which : Int) (now : ByteArray) (w : World) (hr : Rd w w.heap.size A (raw.map Value.string)) (hln : raw.length = n) (_hnc : n ≤ c) (hc : c * 16 ≤ 140737488351232) (_hs : ∀ s ∈ raw, s.size ≤ maxLen)
    (m1 : -9223372036854775808 ≤ many) (m2 : many ≤ 9223372036854775807) (l1 : -9223372036854775808 ≤ long) (l2 : long ≤ 9223372036854775807) (t1 : -9223372036854775808 ≤ which) (t2 : which ≤ 9223372036854775807) (_hnow : now.size ≤ 140737488351232) :
    Calls Try.prog 10 #[.slice A n c, .int .i64 many, .int .i64 long, .int .i64 which, .string now] w fun e w' => e = .returned (.bool true) ∧ Below w.heap.size w w' := by
  have HR := Lib.hid hr
  have HN := Lib.hid hln
  have hnm : n ≤ maxLen := by unfold maxLen; omega
  have HNM := Lib.hid hnm
  clear hr hln hnm
  go_enter Try.func10, Try.ntmps10
  go_wp2_with (first
    | (go_at_call 12; refine (awake01_calls _).mono ?_; rintro e w0 ⟨rfl, hb0⟩)
    | (go_at_call_of 14 (Value.int .i64 long); refine (pick_nat long 41 _ l1 l2 (by omega) (by omega)).mono ?_; rintro e w1 ⟨k2, hk2, rfl, rfl⟩)
    | (go_at_call_of 14 (Value.int .i64 many); refine (pick_nat many 9 _ m1 m2 (by omega) (by omega)).mono ?_; rintro e w1 ⟨k1, hk1, rfl, rfl⟩; obtain ⟨m, hm⟩ : ∃ m : Nat, m = 1 + k1 := ⟨_, rfl⟩; have hm1 : 1 ≤ m := (by omega); have hm9 : m ≤ 9 := (by omega); have HMK := Lib.hid hm; clear hm)
    | (go_at_call_of 13 (Value.slice A n c); (refine (texts_some raw A n c _ _ m k2 _ (HR.out.below hb0 |>.more hb0.size) HN.out HNM.out (by rw [HMK.out]; omega) rfl (by omega) (by omega) (by omega)).mono ?_); rintro e wt ⟨g, cc, L, hL, rfl, hg1, hg2, hmc, hcc, hLl, hLs, hown, hbt⟩; have hg0 : w.heap.size ≤ g := Nat.le_trans hb0.size hg1; replace hb0 := bel_call hb0 hbt; have HO := Lib.hid hown; have HRL := Lib.hid (Rd.of_own hown); have HLL := Lib.hid hLl; have HLS := Lib.hid hLs; have HCC := Lib.hid hcc; have HPS : Hid ((sumX k2 L).size = k2) := Lib.hid (sumX_size hLs); unfold maxLen at hcc; clear hL hLl hLs hown hbt)
    | (go_at_call_of 14 (Value.int .i64 which); (refine (pick_arg which _ m _ (by omega) t1 t2 (by omega) (by omega)).mono ?_); rintro e w1 ⟨k, hk, rfl, rfl⟩; have hkl : k < L.length := (by rw [HLL.out]; exact hk); obtain ⟨x, hx⟩ : ∃ x, L[k]? = some x := ⟨_, List.getElem?_eq_getElem hkl⟩; have HX := Lib.hid hx; have HXS : Hid (x.size = k2) := Lib.hid (HLS.out _ (List.mem_of_getElem? hx)); have HCX : Hid (wt.cell? ⟨g, k, none⟩ = some (.string x)) := Lib.hid (by have h := HRL.out.cell_ (k := k) (u := .string x) (by simp [hx]); rwa [Nat.zero_add] at h); clear hx hkl)
    | (go_at_call 13; (refine (texts_some [now] (some ⟨wt.heap.size, 0, none⟩) 1 1 _ _ 1 k2 (wt.alloc (.cells #[.string now] 9)) (rd_texts wt [now] 9) rfl (by decide) rfl rfl (by omega) (by omega) (by omega)).mono ?_); rintro e wa ⟨g2, c2, L2, hL2, rfl, hg21, hg22, hmc2, hcc2, hLl2, hLs2, hown2, hbt2⟩; have hbw := bel_call (bel_alloc (Below.refl wt.heap.size wt) _) hbt2; obtain ⟨y, hy⟩ : ∃ y, L2 = [y] := List.length_eq_one_iff.1 hLl2; have HYS : Hid (y.size = k2) := Lib.hid (hLs2 y (by rw [hy]; simp)); have hcy : wa.cell? ⟨g2, 0, none⟩ = some (.string y) := (Rd.of_own hown2).cell_ (k := 0) (u := .string y) (by rw [hy]; rfl); have h01 : 0 < 1 := (by omega); clear hL2 hy hLl2 hLs2 hown2 hbt2)
    | (go_at_call 15; refine (all_n k2 L _ m cc wa ((HRL.out.below hbw).more hbw.size) HLS.out HLL.out (by omega) hmc HCC.out (by unfold maxLen; omega)).mono ?_; rintro e wc ⟨rfl, hk1⟩; have hbc := hbw.trans (hk1.mono hbw.size); have hcx := (hbc.cell (p := ⟨g, k, none⟩) hg2).trans HCX.out; have hkm : (k : Int) < (m : Int) := (by omega); clear hk1)
    | (go_at_call 20; (refine (moved_v (sumX k2 (L.set k y)) k2 (sumX k2 L) x y _ (sumX_moved HLS.out HX.out HYS.out) HPS.out HXS.out HYS.out (by unfold maxLen; omega)).mono ?_); rintro e wm ⟨rfl, hk1⟩; have hbm := hbc.trans (hk1.mono hbc.size); have hcm := (hbm.cell (p := ⟨g, k, none⟩) hg2).trans HCX.out; have HOm := Lib.hid (own_keep_below HO.out hbm (Nat.le_refl _)); have hfm := HOm.out.frozenAt k; clear hk1)
    | (go_at_call 15; (refine (all_n k2 (L.set k y) (some ⟨g, 0, none⟩) m cc (wm.setCell ⟨g, k, none⟩ (.string y)) (by have h := Rd.of_own (HOm.out.stored k (.string y)).1; rw [← List.map_set] at h; exact h) (set_size HLS.out HYS.out) (by rw [List.length_set]; exact HLL.out) (by omega) hmc HCC.out (by unfold maxLen; omega)).mono ?_); rintro e wz ⟨rfl, hk1⟩; have HBz := Lib.hid hk1; clear hk1))
  go_ret
  have hfin : Below w.heap.size w (wm.setCell ⟨g, k, none⟩ (.string y)) := (bel_call hb0 hbm).setCell (p := ⟨g, k, none⟩) hg0 _
  exact ⟨rfl, bel_call hfin HBz.out⟩
end Go.Proofs.Ytfbpcapmaddhnaa
