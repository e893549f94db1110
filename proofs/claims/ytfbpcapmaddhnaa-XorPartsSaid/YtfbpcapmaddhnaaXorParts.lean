/-
  XorParts: texts put together, cut anywhere, are the cuts put together: for any raw texts and numbers. No condition.
-/
import Derived.Test.YtfbpcapmaddhnaaAwake01
import Derived.Test.YtfbpcapmaddhnaaTextsWalks
import Derived.Test.YtfbpcapmaddhnaaTexts2
namespace Go.Proofs.Ytfbpcapmaddhnaa
open Go.RowKit

set_option maxRecDepth 100000 in
set_option maxHeartbeats 2000000 in
theorem xorParts_walk (raw : List ByteArray) (A : Option Addr) (n c : Nat) (many long cut : Int) (w : World) (hr : Rd w w.heap.size A (raw.map Value.string)) (hln : raw.length = n) (_hnc : n ≤ c) (hc : c * 16 ≤ 140737488351232) (_hs : ∀ s ∈ raw, s.size ≤ maxLen)
    (m1 : -9223372036854775808 ≤ many) (m2 : many ≤ 9223372036854775807) (l1 : -9223372036854775808 ≤ long) (l2 : long ≤ 9223372036854775807) (t1 : -9223372036854775808 ≤ cut) (t2 : cut ≤ 9223372036854775807) :
    Calls Try.prog 5 #[.slice A n c, .int .i64 many, .int .i64 long, .int .i64 cut] w fun e w' => e = .returned (.bool true) ∧ Below w.heap.size w w' := by
  have HR := Lib.hid hr
  have HN := Lib.hid hln
  obtain ⟨iS, hiS, hzS, hsS, hbS⟩ := info_parts string_info
  have hnm : n ≤ maxLen := by unfold maxLen; omega
  have HNM := Lib.hid hnm
  clear hr hln hnm
  go_enter Try.func5, Try.ntmps5
  go_wp2_with (first
    | (go_at_call 12; refine (awake01_calls _).mono ?_; rintro e w0 ⟨rfl, hb0⟩)
    | (go_at_call_of 14 (Value.int .i64 long); refine (pick_nat long 41 _ l1 l2 (by omega) (by omega)).mono ?_; rintro e w1 ⟨k2, hk2, rfl, rfl⟩)
    | (go_at_call_of 14 (Value.int .i64 many); refine (pick_nat many 9 _ m1 m2 (by omega) (by omega)).mono ?_; rintro e w1 ⟨k1, hk1, rfl, rfl⟩; obtain ⟨m, hm⟩ : ∃ m : Nat, m = 1 + k1 := ⟨_, rfl⟩; have hm1 : 1 ≤ m := (by omega); have hm9 : m ≤ 9 := (by omega); have HMK := Lib.hid hm; clear hm)
    | (go_at_call 13; (refine (texts_some raw A n c _ _ m k2 _ (HR.out.below hb0 |>.more hb0.size) HN.out HNM.out (by rw [HMK.out]; omega) rfl (by omega) (by omega) (by omega)).mono ?_); rintro e wt ⟨g, cc, L, hL, rfl, hg1, hg2, hmc, hcc, hLl, hLs, hown, hbt⟩; replace hb0 := bel_call hb0 hbt; have HRL := Lib.hid (Rd.of_own hown); have HLL := Lib.hid hLl; have HLS := Lib.hid hLs; have HCC := Lib.hid hcc; have HPS : Hid ((sumX k2 L).size = k2) := Lib.hid (sumX_size hLs); unfold maxLen at hcc; clear hL hLl hLs hown hbt)
    | (go_at_call_of 14 (Value.int .i64 cut); (refine (pick_arg cut _ (k2 + 1) _ (by omega) t1 t2 (by omega) (by omega)).mono ?_); rintro e w1 ⟨k, hk, rfl, rfl⟩))
  go_loopw [12, 13, 14] (fun v u i wr => ∃ j : Nat, j ≤ m ∧ i = .int .i64 j ∧ wr.ownsRow wt.heap.size 9 1 v j (((L.take j).map (cutL k)).map Value.string) ∧ wr.ownsRow wt.heap.size 9 1 u j (((L.take j).map (cutR k)).map Value.string) ∧ Dis v u ∧ Below wt.heap.size wt wr) (fun _ _ i _ => m - (intOf i).toNat)
  case atStart => exact ⟨0, Nat.zero_le _, rfl, by simpa using World.ownsRow_nil _ _ _ _, by simpa using World.ownsRow_nil _ _ _ _, Dis.nil _, Below.refl _ _⟩
  case round =>
    obtain ⟨j, hj, rfl, hown, hown2, hdis, hbw⟩ := hrel
    have HO := Lib.hid hown
    have HO2 := Lib.hid hown2
    have HD := Lib.hid hdis
    clear hown hown2 hdis
    by_cases hlt : j < m
    · have hjl : j < L.length := by rw [HLL.out]; exact hlt
      obtain ⟨y, hy⟩ : ∃ y, L[j]? = some y := ⟨_, List.getElem?_eq_getElem hjl⟩
      have hcy0 : wt.cell? ⟨g, j, none⟩ = some (.string y) := (by have h := HRL.out.cell_ (k := j) (u := .string y) (by simp [hy]); rwa [Nat.zero_add] at h)
      have HCY := Lib.hid hcy0
      have hcy : wr.cell? ⟨g, j, none⟩ = some (.string y) := (hbw.cell hg2).trans hcy0
      have hsy : y.size = k2 := HLS.out y (List.mem_of_getElem? hy)
      have hky : k ≤ y.size := by omega
      have hky2 : y.size ≤ 40 := by omega
      have HT : Hid (L.take (j + 1) = L.take j ++ [y]) := Lib.hid (by
        rw [List.take_succ_eq_append_getElem hjl]
        rw [List.getElem?_eq_getElem hjl] at hy
        rw [Option.some.inj hy])
      clear hy hcy0 hsy
      go_wp2_with (first
        | (at_builtin; (refine wpList_append_rd_at rfl (.tmp 40) (.tmp 47) 22 rfl wt.heap.size 9 iS _ 1 16 Try.underlying22 hiS hzS hsS hbS rfl (by decide) u12 j _ rfl (HO.out.alloc _) ⟨wr.heap.size, 0, none⟩ 1 1 [.string (y.extract 0 k)] rfl rfl (newCell _ _ _) (oneString _) (by unfold maxLen; omega) (by omega) (by have := hbw.size; simp; omega) ?_); intro v3 wv hown3 hg3 hat3; have hcy2 : wv.cell? ⟨g, j, none⟩ = some (.string y) := (((hbw.alloc hbw.size _).trans (grown_below (B := wt.heap.size) hg3 (fun i hi => (HO.out.lt i hi).1) (by have := hbw.size; simp; omega))).cell hg2).trans HCY.out; replace hbw := (hbw.alloc hbw.size _).trans (grown_below (B := wt.heap.size) hg3 (fun i hi => (HO.out.lt i hi).1) (by have := hbw.size; simp; omega)); have HO2a := Lib.hid (HD.out.kept (HO2.out.alloc _) hg3); have HDa := Lib.hid (HD.out.moved (HO2.out.alloc _) hat3); have HO3 := Lib.hid hown3; clear hown3 hg3 hat3)
        | (at_builtin; (refine wpList_append_rd_at rfl (.tmp 49) (.tmp 56) 22 rfl wt.heap.size 9 iS _ 1 16 Try.underlying22 hiS hzS hsS hbS rfl (by decide) u13 j _ rfl (HO2a.out.alloc _) ⟨wv.heap.size, 0, none⟩ 1 1 [.string (y.extract k y.size)] rfl rfl (newCell _ _ _) (oneString _) (by unfold maxLen; omega) (by omega) (by have := hbw.size; simp; omega) ?_); intro v4 wu hown4 hg4 hat4; replace hbw := (hbw.alloc hbw.size _).trans (grown_below (B := wt.heap.size) hg4 (fun i hi => (HO2a.out.lt i hi).1) (by have := hbw.size; simp; omega)); have HO3a := Lib.hid (HDa.out.symm.kept (HO3.out.alloc _) hg4); have HDb := Lib.hid (HDa.out.symm.moved (HO3.out.alloc _) hat4); have HO4 := Lib.hid hown4; clear hown4 hg4 hat4))
      go_roundw
      case rel => exact ⟨j + 1, by omega, by go_num, by
        rw [HT.out, List.map_append, List.map_append]
        exact HO3a.out, by
        rw [HT.out, List.map_append, List.map_append]
        exact HO4.out, HDb.out.symm, hbw⟩
      case measure => simp [intOf]; omega
    · have hjm : j = m := by omega
      have hlm : L.take j = L := List.take_of_length_le (by rw [HLL.out]; omega)
      have HJ := Lib.hid hjm
      obtain ⟨g3, c3, hv3, _, _, hc31, hc32⟩ := own_some HO.out (by omega)
      obtain ⟨g4, c4, hv4, _, _, hc41, hc42⟩ := own_some HO2.out (by omega)
      have HR3 : Hid (Rd wr wr.heap.size (some ⟨g3, 0, none⟩) ((L.map (cutL k)).map Value.string)) := Lib.hid (by
        have h := HO.out
        rw [hv3, hlm] at h
        exact Rd.of_own h)
      have HR4 : Hid (Rd wr wr.heap.size (some ⟨g4, 0, none⟩) ((L.map (cutR k)).map Value.string)) := Lib.hid (by
        have h := HO2.out
        rw [hv4, hlm] at h
        exact Rd.of_own h)
      have hne : g3 ≠ g4 := fun e => HD.out g3 (by rw [hv3]; rfl) (by rw [hv4, e]; rfl)
      have HNE := Lib.hid hne
      have hg3l : g < wt.heap.size := hg2
      have HS1 : Hid ((sumX k (L.map (cutL k))).size = k) := Lib.hid (sumX_size (by intro s hs; obtain ⟨t, ht, rfl⟩ := List.mem_map.1 hs; exact cutL_size (by rw [HLS.out t ht]; omega)))
      have HS2 : Hid ((sumX (k2 - k) (L.map (cutR k))).size = k2 - k) := Lib.hid (sumX_size (by intro s hs; obtain ⟨t, ht, rfl⟩ := List.mem_map.1 hs; rw [cutR_size, HLS.out t ht]))
      have hadd := fun W => run_string_add_sum (P := Try.prog) W (sumX k (L.map (cutL k))) (sumX (k2 - k) (L.map (cutR k))) (by rw [HS1.out, HS2.out]; omega)
      have E1 : (sumX k (L.map (cutL k)) ++ sumX (k2 - k) (L.map (cutR k))) = sumX k2 L := sumX_cut HLS.out (by omega)
      rw [E1] at hadd
      have hjb : j = m := HJ.out
      subst hjb hv3 hv4
      clear hlm hne E1 hjm
      go_wp2_with (first
        | (go_at_call_of 15 (Value.slice (some ⟨g, 0, none⟩) j cc); (refine (all_n k2 L _ j cc _ ((HRL.out.below hbw).more hbw.size) HLS.out HLL.out (by omega) hmc HCC.out (by unfold maxLen; omega)).mono ?_); rintro e wc ⟨rfl, hk1⟩; have HR3a := Lib.hid ((HR3.out.below hk1).more hk1.size); have HR4a := Lib.hid ((HR4.out.below hk1).more hk1.size); replace hbw := hbw.trans (hk1.mono hbw.size); clear hk1)
        | (go_at_call_of 15 (Value.slice (some ⟨g3, 0, none⟩) j c3); (refine (all_n k (L.map (cutL k)) _ j c3 _ HR3a.out (by intro s hs; obtain ⟨t, ht, rfl⟩ := List.mem_map.1 hs; exact cutL_size (by rw [HLS.out t ht]; omega)) (by rw [List.length_map]; exact HLL.out) (by omega) hc31 hc32 (by unfold maxLen; omega)).mono ?_); rintro e wd ⟨rfl, hk1⟩; have HR4b := Lib.hid ((HR4a.out.below hk1).more hk1.size); replace hbw := hbw.trans (hk1.mono hbw.size); clear hk1)
        | (go_at_call_of 15 (Value.slice (some ⟨g4, 0, none⟩) j c4); (refine (all_n (k2 - k) (L.map (cutR k)) _ j c4 _ HR4b.out (by intro s hs; obtain ⟨t, ht, rfl⟩ := List.mem_map.1 hs; rw [cutR_size, HLS.out t ht]) (by rw [List.length_map]; exact HLL.out) (by omega) hc41 hc42 (by unfold maxLen; omega)).mono ?_); rintro e we ⟨rfl, hk1⟩; replace hbw := hbw.trans (hk1.mono hbw.size); clear hk1))
      go_ret
      exact ⟨rfl, bel_call hb0 hbw⟩
end Go.Proofs.Ytfbpcapmaddhnaa
