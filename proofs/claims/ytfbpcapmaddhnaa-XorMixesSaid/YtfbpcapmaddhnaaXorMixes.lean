/-
  XorMixes: the same of texts that are all as long: for any raw texts and numbers. No condition.
-/
import Derived.Test.YtfbpcapmaddhnaaXorTells
import Derived.Test.YtfbpcapmaddhnaaTextsWalks
import Derived.Test.YtfbpcapmaddhnaaTexts2
import Derived.Deep.RegionHeld3
namespace Go.Proofs.Ytfbpcapmaddhnaa
open Go.RowKit

set_option maxRecDepth 100000 in
set_option maxHeartbeats 2000000 in
theorem xorMixes_walk (raw : List ByteArray) (A : Option Addr) (n c : Nat) (many long : Int) (w : World) (hr : Rd w w.heap.size A (raw.map Value.string)) (hln : raw.length = n) (_hnc : n ≤ c) (hc : c * 16 ≤ 140737488351232) (_hs : ∀ s ∈ raw, s.size ≤ maxLen)
    (m1 : -9223372036854775808 ≤ many) (m2 : many ≤ 9223372036854775807) (l1 : -9223372036854775808 ≤ long) (l2 : long ≤ 9223372036854775807) :
    Calls Try.prog 9 #[.slice A n c, .int .i64 many, .int .i64 long] w fun e w' => e = .returned (.bool true) ∧ Below w.heap.size w w' := by
  have HR := Lib.hid hr
  have HN := Lib.hid hln
  have hnm : n ≤ maxLen := by unfold maxLen; omega
  have HNM := Lib.hid hnm
  clear hr hln hnm
  go_enter Try.func9, Try.ntmps9
  go_wp2_with (first
    | (go_at_call_of 14 (Value.int .i64 many); refine (pick_nat many 9 _ m1 m2 (by omega) (by omega)).mono ?_; rintro e w1 ⟨k1, hk1, rfl, rfl⟩)
    | (go_at_call_of 14 (Value.int .i64 long); refine (pick_nat long 41 _ l1 l2 (by omega) (by omega)).mono ?_; rintro e w1 ⟨k2, hk2, rfl, rfl⟩; obtain ⟨m, hm⟩ : ∃ m : Nat, m = 1 + k1 := ⟨_, rfl⟩; have hm1 : 1 ≤ m := (by omega); have hm9 : m ≤ 9 := (by omega); have HMK := Lib.hid hm; clear hm)
    | (go_at_call 13; (refine (texts_some raw A n c _ _ m k2 _ HR.out HN.out HNM.out (by rw [HMK.out]; omega) rfl (by omega) (by omega) (by omega)).mono ?_); rintro e wt ⟨g, cc, L, hL, rfl, hg1, hg2, hmc, hcc, hLl, hLs, hown, hb0⟩; have HRL := Lib.hid (Rd.of_own hown); have HLL := Lib.hid hLl; have HLS := Lib.hid hLs; have HCC := Lib.hid hcc; unfold maxLen at hcc; clear hL hLl hLs hown)
    | (go_at_call 15; (refine (all_n k2 L _ m cc _ HRL.out HLS.out HLL.out (by omega) hmc HCC.out (by unfold maxLen; omega)).mono ?_); rintro e wc ⟨rfl, hbw⟩))
  obtain ⟨p, hp⟩ : ∃ p : Nat, p = m - 1 := ⟨_, rfl⟩
  obtain ⟨q, hq⟩ : ∃ q : Nat, q = m / 2 := ⟨_, rfl⟩
  have hwp : IntKind.i64.wrap ((m : Int) - 1) = (p : Int) := by rw [IntWalk.i64_in _ (by omega)]; omega
  have hwq : IntKind.i64.wrap ((m : Int) / 2) = (q : Int) := by rw [IntWalk.i64_in _ (by omega)]; omega
  have hpm : p < m := by omega
  have hqm : q < m := by omega
  have hpmI : (p : Int) < (m : Int) := by omega
  have hqmI : (q : Int) < (m : Int) := by omega
  clear hp hq
  have h0l : 0 < L.length := by rw [HLL.out]; omega
  have h1l : p < L.length := by rw [HLL.out]; omega
  have h2l : q < L.length := by rw [HLL.out]; omega
  obtain ⟨x, hx⟩ : ∃ x, L[0]? = some x := ⟨_, List.getElem?_eq_getElem h0l⟩
  obtain ⟨y, hy⟩ : ∃ y, L[p]? = some y := ⟨_, List.getElem?_eq_getElem h1l⟩
  obtain ⟨z, hz⟩ : ∃ z, L[q]? = some z := ⟨_, List.getElem?_eq_getElem h2l⟩
  have HXS : Hid (x.size = k2) := Lib.hid (HLS.out _ (List.mem_of_getElem? hx))
  have hcx : wc.cell? ⟨g, 0, none⟩ = some (.string x) := (hbw.cell hg2).trans (HRL.out.cell_ (k := 0) (u := .string x) (by simp [hx]))
  have hcy : wc.cell? ⟨g, p, none⟩ = some (.string y) := (hbw.cell hg2).trans (by have h := HRL.out.cell_ (k := p) (u := .string y) (by simp [hy]); rwa [Nat.zero_add] at h)
  have hcz : wc.cell? ⟨g, q, none⟩ = some (.string z) := (hbw.cell hg2).trans (by have h := HRL.out.cell_ (k := q) (u := .string z) (by simp [hz]); rwa [Nat.zero_add] at h)
  have h0N : 0 < m := hm1
  have HLS2 : Hid (∀ s ∈ L, s.size ≤ maxLen) := Lib.hid fun s hs => by rw [HLS.out s hs]; unfold maxLen; omega
  clear hx hy hz h0l h1l h2l
  go_region_held3 (fun w' => w'.cell? ⟨g, 0, none⟩ = some (.string x) ∧ w'.cell? ⟨g, p, none⟩ = some (.string y) ∧ w'.cell? ⟨g, q, none⟩ = some (.string z) ∧ Below wt.heap.size wt w')
    (first
      | exact ⟨hcx, hcy, hcz, hbw.drew⟩
      | exact ⟨hcx1, hcy1, hcz1, hbw1⟩)
    (first
      | (go_at_call 8; (refine (xorTells_calls x y z L (some ⟨g, 0, none⟩) m cc _ (by rw [HXS.out]; unfold maxLen; omega) ((HRL.out.below hbw.drew).more hbw.drew.size) HLL.out hmc HCC.out (by omega) HLS2.out).mono ?_); rintro e w1 ⟨rfl, hk1⟩; have hbw1 := Below.trans hbw.drew (hk1.mono hbw.size); have hcx1 := ((hk1.mono hbw.size).cell (p := ⟨g, 0, none⟩) hg2).trans hcx; have hcy1 := ((hk1.mono hbw.size).cell (p := ⟨g, p, none⟩) hg2).trans hcy; have hcz1 := ((hk1.mono hbw.size).cell (p := ⟨g, q, none⟩) hg2).trans hcz; clear hk1))
  go_wp2
  go_ret
  exact ⟨rfl, bel_call hb0 hbw1⟩
end Go.Proofs.Ytfbpcapmaddhnaa
