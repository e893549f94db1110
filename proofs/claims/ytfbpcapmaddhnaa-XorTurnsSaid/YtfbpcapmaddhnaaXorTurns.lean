/-
  XorTurns: the order of texts does not matter, and a text twice is as none: for any raw texts and numbers. No condition.
-/
import Derived.Test.YtfbpcapmaddhnaaAwake01
import Derived.Test.YtfbpcapmaddhnaaTextsWalks
import Derived.Test.YtfbpcapmaddhnaaTexts2
import Derived.Deep.DeepCutAuto
import Derived.Deep.RegionHeld3
import Derived.StillTailTactics
namespace Go.Proofs.Ytfbpcapmaddhnaa
open Go.RowKit

set_option maxRecDepth 100000 in
set_option maxHeartbeats 2000000 in
theorem xorTurns_walk (raw : List ByteArray) (A : Option Addr) (n c : Nat) (many long turn : Int) (w : World) (hr : Rd w w.heap.size A (raw.map Value.string)) (hln : raw.length = n) (_hnc : n ≤ c) (hc : c * 16 ≤ 140737488351232) (_hs : ∀ s ∈ raw, s.size ≤ maxLen)
    (m1 : -9223372036854775808 ≤ many) (m2 : many ≤ 9223372036854775807) (l1 : -9223372036854775808 ≤ long) (l2 : long ≤ 9223372036854775807) (t1 : -9223372036854775808 ≤ turn) (t2 : turn ≤ 9223372036854775807) :
    Calls Try.prog 3 #[.slice A n c, .int .i64 many, .int .i64 long, .int .i64 turn] w fun e w' => e = .returned (.bool true) ∧ Below w.heap.size w w' := by
  have HR := Lib.hid hr
  have HN := Lib.hid hln
  obtain ⟨iS, hiS, hzS, hsS, hbS⟩ := info_parts string_info
  have hnm : n ≤ maxLen := by unfold maxLen; omega
  have HNM := Lib.hid hnm
  clear hr hln hnm
  go_enter Try.func3, Try.ntmps3
  go_wp2_with (first
    | (go_at_call 12; refine (awake01_calls _).mono ?_; rintro e w0 ⟨rfl, hb0⟩)
    | (go_at_call_of 14 (Value.int .i64 many); refine (pick_nat many 9 _ m1 m2 (by omega) (by omega)).mono ?_; rintro e w1 ⟨k1, hk1, rfl, rfl⟩)
    | (go_at_call_of 14 (Value.int .i64 long); refine (pick_nat long 41 _ l1 l2 (by omega) (by omega)).mono ?_; rintro e w1 ⟨k2, hk2, rfl, rfl⟩; (obtain ⟨m, hm⟩ : ∃ m : Nat, m = 1 + k1 := ⟨_, rfl⟩; have hm1 : 1 ≤ m := (by omega); have hm9 : m ≤ 9 := (by omega); have HMK := Lib.hid hm; clear hm))
    | (go_at_call 13; (refine (texts_some raw A n c _ _ m k2 _ (HR.out.below hb0 |>.more hb0.size) HN.out HNM.out (by rw [HMK.out]; omega) rfl (by omega) (by omega) (by omega)).mono ?_); rintro e wt ⟨g, cc, L, hL, rfl, hg1, hg2, hmc, hcc, hLl, hLs, hown, hbt⟩; replace hb0 := bel_call hb0 hbt; have HRL := Lib.hid (Rd.of_own hown); have HLL := Lib.hid hLl; have HLS := Lib.hid hLs; have HCC := Lib.hid hcc; unfold maxLen at hcc; clear hL hLl hLs hown hbt)
    | (go_at_call_of 14 (Value.int .i64 turn); (refine (pick_arg turn _ m _ (by omega) t1 t2 (by omega) (by omega)).mono ?_); rintro e w1 ⟨k, hk, rfl, rfl⟩; have hck : ¬ cc = k := (by omega); have HRK : Hid (Rd wt wt.heap.size (some ⟨g, k, none⟩) ((L.drop k).map Value.string)) := Lib.hid (by have h := HRL.out.from_ k; rw [Nat.zero_add, ← List.map_drop] at h; exact h); have HRU : Hid (Rd wt wt.heap.size (some ⟨g, 0, none⟩) ((L.take k).map Value.string)) := Lib.hid (by have h := HRL.out.upto k; rw [← List.map_take] at h; exact h))
    | (at_builtin; refine wpList_append_rd rfl (.tmp 35) (.tmp 38) 22 rfl wt.heap.size 9 iS _ 1 16 Try.underlying22 hiS hzS hsS hbS rfl (by decide) (.slice none 0 0) 0 [] rfl (World.ownsRow_nil _ _ _ _) wt.heap.size (some ⟨g, k, none⟩) (m - k) (cc - k) ((L.drop k).map Value.string) rfl HRK.out (by rw [List.length_map, List.length_drop, HLL.out, Nat.mul_one]) (strings_one _) (by unfold maxLen; omega) (by omega) (Nat.le_refl _) ?_; intro v1 wa hown1 hg1; rw [Nat.zero_add, List.nil_append] at hown1; have hbw := grown_below (B := wt.heap.size) hg1 (by intro k hk; cases hk) (Nat.le_refl _); have HO1 := Lib.hid hown1; clear hown1 hg1)
    | (at_builtin; (refine wpList_append_rd rfl (.tmp 40) (.tmp 43) 22 rfl wt.heap.size 9 iS _ 1 16 Try.underlying22 hiS hzS hsS hbS rfl (by decide) v1 (m - k) _ rfl HO1.out wt.heap.size (some ⟨g, 0, none⟩) k cc ((L.take k).map Value.string) rfl (HRU.out.below hbw) (by rw [List.length_map, List.length_take, HLL.out, Nat.mul_one]; omega) (strings_one _) (by unfold maxLen; omega) (by omega) hbw.size ?_); intro v2 wb hown2 hg2; rw [Nat.sub_add_cancel (by omega), ← List.map_append] at hown2; replace hbw := hbw.trans (grown_below (B := wt.heap.size) hg2 (fun j hj => (HO1.out.lt j hj).1) hbw.size); obtain ⟨g2, c2, rfl, hg21, hg22, hmc2, hc2m⟩ := own_some hown2 (by omega); have HR2 := Lib.hid (Rd.of_own hown2); clear hown2 hg2)
    | (go_at_call_of 15 (Value.slice (some ⟨g, 0, none⟩) m cc); (refine (all_n k2 L _ m cc _ ((HRL.out.below hbw).more hbw.size) HLS.out HLL.out (by omega) hmc HCC.out (by unfold maxLen; omega)).mono ?_); rintro e wc ⟨rfl, hk1⟩; have HR3 := Lib.hid ((HR2.out.below hk1).more hk1.size); replace hbw := hbw.trans (hk1.mono hbw.size); clear hk1)
    | (go_at_call_of 15 (Value.slice (some ⟨g2, 0, none⟩) m c2); (refine (all_v (sumX k2 L) k2 (L.drop k ++ L.take k) _ m c2 _ (sumX_turn _ _ _) HR3.out (by intro s hs; rcases List.mem_append.1 hs with h | h; (exact HLS.out s (List.mem_of_mem_drop h)); (exact HLS.out s (List.mem_of_mem_take h))) (by rw [List.length_append, List.length_drop, List.length_take, HLL.out]; omega) (by omega) hmc2 hc2m (by unfold maxLen; omega)).mono ?_); rintro e wd ⟨rfl, hk2⟩; replace hbw := hbw.trans (hk2.mono hbw.size); clear hk2))
  have hkl : k < L.length := by rw [HLL.out]; exact hk
  have h0l : 0 < L.length := by rw [HLL.out]; omega
  obtain ⟨x, hx⟩ : ∃ x, L[k]? = some x := ⟨_, List.getElem?_eq_getElem hkl⟩
  obtain ⟨y, hy⟩ : ∃ y, L[0]? = some y := ⟨_, List.getElem?_eq_getElem h0l⟩
  have HXS : Hid (x.size = k2) := Lib.hid (HLS.out _ (List.mem_of_getElem? hx))
  have HYS : Hid (y.size = k2) := Lib.hid (HLS.out _ (List.mem_of_getElem? hy))
  have hcx0 : wt.cell? ⟨g, k, none⟩ = some (.string x) := by have h := HRL.out.cell_ (k := k) (u := .string x) (by simp [hx]); rwa [Nat.zero_add] at h
  have hcy0 : wt.cell? ⟨g, 0, none⟩ = some (.string y) := HRL.out.cell_ (k := 0) (u := .string y) (by simp [hy])
  have HCX := Lib.hid hcx0
  have HCY := Lib.hid hcy0
  have hcx : wd.cell? ⟨g, k, none⟩ = some (.string x) := (hbw.cell hg2).trans hcx0
  have hkI : (k : Int) < (m : Int) := by omega
  have hkN : k < m := hk
  have h0N : 0 < m := by omega
  clear hx hy hcx0 hcy0
  go_cut [17, 18] (fun s17 s18 wx => s17 = .string (sumX k2 L) ∧ s18 = .int .i64 0 ∧ Below wt.heap.size wt wx)
  case first =>
    go_region_held3 (fun w' => w'.cell? ⟨g, k, none⟩ = some (.string x) ∧ Below wt.heap.size wt w')
      (first
        | exact ⟨hcx, hbw.drew⟩
        | (refine ⟨?_, ?_⟩ <;> assumption)
        | (go_split_ands; refine ⟨?_, ?_⟩; (first | assumption | go_keep); (exact Below.alloc (by assumption) (Below.size (by assumption)) _)))
      (first
        | (go_split_ands; refine step_append_rd (by rfl) (.const (.slice none 0 0)) (.tmp 56) 22 (by rfl) wt.heap.size 9 iS _ 1 16 Try.underlying22 hiS hzS hsS hbS rfl (by decide) (.slice none 0 0) 0 [] (by rfl) (World.ownsRow_nil _ _ _ _) wt.heap.size (some ⟨g, 0, none⟩) m cc (L.map Value.string) (by rfl) (HRL.out.below (by assumption)) (by rw [List.length_map, HLL.out, Nat.mul_one]) (strings_one _) (by unfold maxLen; omega) (by omega) (Below.size (by assumption)) ?_; intro v3 we hown3 hg3; (have HP3 := Lib.hid (grown_nil_below hg3); rw [Nat.zero_add, List.nil_append] at hown3; have hbe := Below.trans (by assumption : Below wt.heap.size wt _) (grown_below (B := wt.heap.size) hg3 (by intro j hj; cases hj) (Below.size (by assumption))); have hce : we.cell? ⟨g, k, none⟩ = some (.string x) := (hbe.cell hg2).trans HCX.out; have HO3 := Lib.hid hown3; clear hown3 hg3))
        | (go_split_ands; refine step_append_rd (by rfl) (.tmp 57) (.tmp 66) 22 (by rfl) wt.heap.size 9 iS _ 1 16 Try.underlying22 hiS hzS hsS hbS rfl (by decide) v3 m (L.map Value.string) (by rfl) (HO3.out.alloc _) (we.heap.size + 1) (some ⟨we.heap.size, 0, none⟩) 2 2 [.string x, .string x] (by rfl) (Rd.new we #[.string x, .string x] 9 (0, 0)) (by rfl) (strings_one [x, x]) (by unfold maxLen; omega) (by omega) (Below.size (by assumption)) ?_; intro v4 wf hown4 hg4; have hbf := Below.trans (by assumption : Below wt.heap.size wt _) (grown_below (B := wt.heap.size) hg4 (fun j hj => (HO3.out.lt j hj).1) (Below.size (by assumption))); have hcf : wf.cell? ⟨g, k, none⟩ = some (.string x) := (hbf.cell hg2).trans HCX.out; obtain ⟨g4, c4, rfl, hg41, hg42, hmc4, hc4m⟩ := own_some hown4 (by omega); have HR4 := Lib.hid (Rd.of_own hown4); clear hown4 hg4)
        | (go_split_ands; refine step_append_rd (by rfl) (.tmp 57) (.tmp 66) 22 (by rfl) wt.heap.size 9 iS _ 1 16 Try.underlying22 hiS hzS hsS hbS rfl (by decide) v3 m (L.map Value.string) (by rfl) HO3.out (wd.heap.size + 1) (some ⟨wd.heap.size, 0, none⟩) 2 2 [.string x, .string x] (by rfl) (Rd.newBelow (w := wd.drew) HP3.out) (by rfl) (strings_one [x, x]) (by unfold maxLen; omega) (by omega) (Below.size (by assumption)) ?_; intro v4 wf hown4 hg4; have hbf := Below.trans (by assumption : Below wt.heap.size wt _) (grown_below (B := wt.heap.size) hg4 (fun j hj => (HO3.out.lt j hj).1) (Below.size (by assumption))); have hcf : wf.cell? ⟨g, k, none⟩ = some (.string x) := (hbf.cell hg2).trans HCX.out; obtain ⟨g4, c4, rfl, hg41, hg42, hmc4, hc4m⟩ := own_some hown4 (by omega); have HR4 := Lib.hid (Rd.of_own hown4); clear hown4 hg4)
        | (go_at_call 15; refine (all_v (sumX k2 L) k2 (L ++ [x, x]) _ (m + 2) c4 _ (sumX_twice HLS.out HXS.out) (by rw [List.map_append]; exact HR4.out) (by intro s hs; rcases List.mem_append.1 hs with h | h; (exact HLS.out s h); (rcases List.mem_cons.1 h with h | h; (rw [h]; exact HXS.out); (rw [List.mem_singleton.1 h]; exact HXS.out))) (by rw [List.length_append, HLL.out]; rfl) (by omega) hmc4 hc4m (by unfold maxLen; omega)).mono ?_; rintro e wh ⟨rfl, hk3⟩; go_split_ands; have hbh := Below.trans (by assumption : Below wt.heap.size wt wf) (hk3.mono (Below.size (by assumption : Below wt.heap.size wt wf))); have hch : wh.cell? ⟨g, k, none⟩ = some (.string x) := (hbh.cell hg2).trans HCX.out; clear hk3))
    all_goals go_wp2_with fail
    all_goals go_meet
    all_goals exact ⟨rfl, rfl, by assumption⟩
  case rest =>
    clear hbw hcx
    obtain ⟨rfl, rfl, hbw⟩ := hcut
    have hcx : wc.cell? ⟨g, k, none⟩ = some (.string x) := (hbw.cell hg2).trans HCX.out
    have hcy : wc.cell? ⟨g, 0, none⟩ = some (.string y) := (hbw.cell hg2).trans HCY.out
    go_wp2_with fail
    go_region_held3 (fun w' => w'.cell? ⟨g, k, none⟩ = some (.string x) ∧ w'.cell? ⟨g, 0, none⟩ = some (.string y) ∧ Below wt.heap.size wt w')
      (first
        | exact ⟨hcx, hcy, hbw.drew⟩
        | exact ⟨hcx1, hcy1, hbw1⟩)
      (first
        | (go_at_call 16; refine (two_v (xorB y x) k2 y x _ rfl HYS.out HXS.out (by unfold maxLen; omega)).mono ?_; rintro e w1 ⟨rfl, hk1⟩; have hbw1 := Below.trans hbw.drew (hk1.mono hbw.size); have hcx1 : w1.cell? ⟨g, k, none⟩ = some (.string x) := (hbw1.cell hg2).trans HCX.out; have hcy1 : w1.cell? ⟨g, 0, none⟩ = some (.string y) := (hbw1.cell hg2).trans HCY.out; clear hk1))
    go_wp2_with fail
    go_region_held3 (fun w' => w'.cell? ⟨g, k, none⟩ = some (.string x) ∧ w'.cell? ⟨g, 0, none⟩ = some (.string y) ∧ Below wt.heap.size wt w')
      (first
        | exact ⟨hcx1, hcy1, hbw1.drew⟩
        | exact ⟨hcx2, hcy2, hbw2⟩)
      (first
        | (go_at_call 16; refine (two_v (xorB y x) k2 x y _ (xorB_comm x y) HXS.out HYS.out (by unfold maxLen; omega)).mono ?_; rintro e w2 ⟨rfl, hk1⟩; have hbw2 := Below.trans hbw1.drew (hk1.mono hbw1.size); have hcx2 : w2.cell? ⟨g, k, none⟩ = some (.string x) := (hbw2.cell hg2).trans HCX.out; have hcy2 : w2.cell? ⟨g, 0, none⟩ = some (.string y) := (hbw2.cell hg2).trans HCY.out; clear hk1))
    go_wp2
    go_ret
    exact ⟨rfl, bel_call hb0 hbw2⟩
end Go.Proofs.Ytfbpcapmaddhnaa
