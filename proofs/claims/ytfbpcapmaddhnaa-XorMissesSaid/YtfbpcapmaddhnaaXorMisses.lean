/-
  XorMisses: all of some texts and their parity is nought, and Missing of the parity and all texts but one is that one: for any raw texts and numbers. No condition.
-/
import Derived.Test.YtfbpcapmaddhnaaAwake01
import Derived.Test.YtfbpcapmaddhnaaTextsWalks
import Derived.Test.YtfbpcapmaddhnaaTexts2
namespace Go.Proofs.Ytfbpcapmaddhnaa
open Go.RowKit

set_option maxRecDepth 100000 in
set_option maxHeartbeats 2000000 in
theorem xorMisses_walk (raw : List ByteArray) (A : Option Addr) (n c : Nat) (many long which : Int) (w : World) (hr : Rd w w.heap.size A (raw.map Value.string)) (hln : raw.length = n) (_hnc : n ≤ c) (hc : c * 16 ≤ 140737488351232) (_hs : ∀ s ∈ raw, s.size ≤ maxLen)
    (m1 : -9223372036854775808 ≤ many) (m2 : many ≤ 9223372036854775807) (l1 : -9223372036854775808 ≤ long) (l2 : long ≤ 9223372036854775807) (t1 : -9223372036854775808 ≤ which) (t2 : which ≤ 9223372036854775807) :
    Calls Try.prog 4 #[.slice A n c, .int .i64 many, .int .i64 long, .int .i64 which] w fun e w' => e = .returned (.bool true) ∧ Below w.heap.size w w' := by
  have HR := Lib.hid hr
  have HN := Lib.hid hln
  obtain ⟨iS, hiS, hzS, hsS, hbS⟩ := info_parts string_info
  have hnm : n ≤ maxLen := by unfold maxLen; omega
  have HNM := Lib.hid hnm
  clear hr hln hnm
  go_enter Try.func4, Try.ntmps4
  go_wp2_with (first
    | (go_at_call 12; refine (awake01_calls _).mono ?_; rintro e w0 ⟨rfl, hb0⟩)
    | (go_at_call_of 14 (Value.int .i64 long); refine (pick_nat long 41 _ l1 l2 (by omega) (by omega)).mono ?_; rintro e w1 ⟨k2, hk2, rfl, rfl⟩)
    | (go_at_call_of 14 (Value.int .i64 many); refine (pick_nat many 9 _ m1 m2 (by omega) (by omega)).mono ?_; rintro e w1 ⟨k1, hk1, rfl, rfl⟩; obtain ⟨m, hm⟩ : ∃ m : Nat, m = 1 + k1 := ⟨_, rfl⟩; have hm1 : 1 ≤ m := (by omega); have hm9 : m ≤ 9 := (by omega); have HMK := Lib.hid hm; clear hm)
    | (go_at_call 13; (refine (texts_some raw A n c _ _ m k2 _ (HR.out.below hb0 |>.more hb0.size) HN.out HNM.out (by rw [HMK.out]; omega) rfl (by omega) (by omega) (by omega)).mono ?_); rintro e wt ⟨g, cc, L, hL, rfl, hg1, hg2, hmc, hcc, hLl, hLs, hown, hbt⟩; replace hb0 := bel_call hb0 hbt; have HRL := Lib.hid (Rd.of_own hown); have HLL := Lib.hid hLl; have HLS := Lib.hid hLs; have HCC := Lib.hid hcc; have HPS : Hid ((sumX k2 L).size = k2) := Lib.hid (sumX_size hLs); unfold maxLen at hcc; clear hL hLl hLs hown hbt)
    | (go_at_call_of 15 (Value.slice (some ⟨g, 0, none⟩) m cc); (refine (all_n k2 L _ m cc _ HRL.out HLS.out HLL.out (by omega) hmc HCC.out (by unfold maxLen; omega)).mono ?_); rintro e wc ⟨rfl, hbw⟩)
    | (at_builtin; refine wpList_append_rd rfl (.const (.slice none 0 0)) (.tmp 35) 22 rfl wt.heap.size 9 iS _ 1 16 Try.underlying22 hiS hzS hsS hbS rfl (by decide) (.slice none 0 0) 0 [] rfl (World.ownsRow_nil _ _ _ _) wt.heap.size (some ⟨g, 0, none⟩) m cc (L.map Value.string) rfl (HRL.out.below hbw) (by rw [List.length_map, HLL.out, Nat.mul_one]) (strings_one _) (by unfold maxLen; omega) (by omega) hbw.size ?_; intro v1 wa hown1 hg1; rw [Nat.zero_add, List.nil_append] at hown1; replace hbw := hbw.trans ((grown_nil_below hg1).mono hbw.size); have HO1 := Lib.hid hown1; clear hown1 hg1)
    | (at_builtin; (refine wpList_append_rd rfl (.tmp 36) (.tmp 38) 22 rfl wt.heap.size 9 iS _ 1 16 Try.underlying22 hiS hzS hsS hbS rfl (by decide) v1 m _ rfl (HO1.out.alloc _) (wa.heap.size + 1) (some ⟨wa.heap.size, 0, none⟩) 1 1 [.string (sumX k2 L)] rfl (Rd.new wa #[.string (sumX k2 L)] 9 (0, 0)) rfl (oneString _) (by unfold maxLen; omega) (by omega) (by have := hbw.size; simp; omega) ?_); intro v2 wb hown2 hg2; replace hbw := (hbw.alloc hbw.size _).trans (grown_below (B := wt.heap.size) hg2 (fun j hj => (HO1.out.lt j hj).1) (by have := hbw.size; simp; omega)); obtain ⟨g2, c2, rfl, hg21, hg22, hmc2, hc2m⟩ := own_some hown2 (by omega); have HR2 := Lib.hid (Rd.of_own hown2); clear hown2 hg2)
    | (go_at_call 15; (refine (all_v (zeroB k2) k2 (L ++ [sumX k2 L]) _ (m + 1) c2 _ (sumX_parity HLS.out) (by rw [List.map_append]; exact HR2.out) (by intro s hs; rcases List.mem_append.1 hs with h | h; (exact HLS.out s h); (rw [List.mem_singleton.1 h]; exact HPS.out)) (by rw [List.length_append, HLL.out]; rfl) (by omega) hmc2 hc2m (by unfold maxLen; omega)).mono ?_); rintro e wd ⟨rfl, hk2⟩; replace hbw := hbw.trans (hk2.mono hbw.size); clear hk2)
    | (go_at_call_of 14 (Value.int .i64 which); (refine (pick_arg which _ m _ (by omega) t1 t2 (by omega) (by omega)).mono ?_); rintro e w1 ⟨k, hk, rfl, rfl⟩))
  have hkl : k < L.length := by rw [HLL.out]; exact hk
  obtain ⟨x, hx⟩ : ∃ x, L[k]? = some x := ⟨_, List.getElem?_eq_getElem hkl⟩
  have HX := Lib.hid hx
  have HMO := Lib.hid (miss_one HLS.out hx)
  clear hx hkl
  go_loopw [16, 17] (fun v i wr => ∃ j : Nat, j ≤ m ∧ i = .int .i64 j ∧ wr.ownsRow wt.heap.size 9 1 v (restL L k j).length ((restL L k j).map Value.string) ∧ Below wt.heap.size wt wr) (fun _ i _ => m - (intOf i).toNat)
  case atStart => exact ⟨0, Nat.zero_le _, rfl, by simpa [restL] using World.ownsRow_nil _ _ _ _, hbw⟩
  case round =>
    clear hbw
    obtain ⟨j, hj, rfl, hown, hbw⟩ := hrel
    have HO := Lib.hid hown
    clear hown
    have hlen : (restL L k j).length ≤ m := by have := restL_length L k j; have := HLL.out; omega
    by_cases hlt : j < m
    · by_cases hjk : j = k
      · have hb : ((j : Int) != (k : Int)) = false := by simp [hjk]
        have HJ := Lib.hid hjk
        clear hjk
        go_wp2
        go_roundw
        case rel => exact ⟨j + 1, by omega, by go_num, by have h := HO.out; rw [HJ.out] at h ⊢; rw [restL_skip]; exact h, hbw⟩
        case measure => simp [intOf]; omega
      · have hb : ((j : Int) != (k : Int)) = true := by simp; omega
        have HJ := Lib.hid hjk
        have hjl : j < L.length := by rw [HLL.out]; exact hlt
        obtain ⟨y, hy⟩ : ∃ y, L[j]? = some y := ⟨_, List.getElem?_eq_getElem hjl⟩
        have hcy : wr.cell? ⟨g, j, none⟩ = some (.string y) := (hbw.cell hg2).trans (by have h := HRL.out.cell_ (k := j) (u := .string y) (by simp [hy]); rwa [Nat.zero_add] at h)
        have HM : Hid (restL L k (j + 1) = restL L k j ++ [y]) := Lib.hid (restL_more hy hjk)
        clear hy hjk
        go_wp2_with (at_builtin; (refine wpList_append_rd rfl (.tmp 56) (.tmp 61) 22 rfl wt.heap.size 9 iS _ 1 16 Try.underlying22 hiS hzS hsS hbS rfl (by decide) u16 (restL L k j).length _ rfl (HO.out.alloc _) (wr.heap.size + 1) (some ⟨wr.heap.size, 0, none⟩) 1 1 [.string y] rfl (Rd.new wr #[.string y] 9 (0, 0)) rfl (oneString _) (by unfold maxLen; omega) (by omega) (by have := hbw.size; simp; omega) ?_); intro v3 wv hown3 hg3; replace hbw := (hbw.alloc hbw.size _).trans (grown_below (B := wt.heap.size) hg3 (fun i hi => (HO.out.lt i hi).1) (by have := hbw.size; simp; omega)); have HO3 := Lib.hid hown3; clear hown3 hg3)
        go_roundw
        case rel => exact ⟨j + 1, by omega, by go_num, by
          rw [HM.out, List.length_append, List.map_append]
          exact HO3.out, hbw⟩
        case measure => simp [intOf]; omega
    · have hrl : restL L k j = L.eraseIdx k := restL_all (by rw [HLL.out]; omega)
      obtain ⟨A3, c3, hv3, _, _⟩ := own_form HO.out
      have HR3 : Hid (Rd wr wr.heap.size A3 ((L.eraseIdx k).map Value.string)) := Lib.hid (by
        have h := HO.out
        rw [hv3, hrl] at h
        exact Rd.of_own h)
      have HRL2 := Lib.hid hrl
      have hmk := fun W => run_make8 k2 (by omega) W
      have hzs := fun W => run_zero_string k2 W
      have hcx := HX.out
      have hcx2 : wt.cell? ⟨g, k, none⟩ = some (.string x) := by have h := HRL.out.cell_ (k := k) (u := .string x) (by simp [hcx]); rwa [Nat.zero_add] at h
      have HCX := Lib.hid hcx2
      subst hv3
      clear hcx hcx2 hrl
      go_wp2_with (go_at_call 17; (refine (missing_v x (sumX k2 L) (L.eraseIdx k) _ (restL L k j).length _ _ HMO.out HR3.out (by rw [HPS.out]; unfold maxLen; omega) (by unfold maxLen; omega) (by rw [HRL2.out])).mono ?_); rintro e ww ⟨rfl, hk3⟩; replace hbw := hbw.trans (hk3.mono hbw.size); clear hk3; replace hbw := hbw.alloc hbw.size (.cells (zeroRow k2) 5); have hcx := (hbw.cell (p := ⟨g, k, none⟩) hg2).trans HCX.out)
      go_ret
      exact ⟨rfl, bel_call hb0 hbw⟩
end Go.Proofs.Ytfbpcapmaddhnaa
