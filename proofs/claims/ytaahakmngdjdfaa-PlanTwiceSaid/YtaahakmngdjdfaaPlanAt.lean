/-
  Update and Made once more: where the new rows lie. Condition: the geometry is right, the column bears blocks, texts are blocks.
-/
import Derived.Test.YtaahakmngdjdfaaPlanWritesMath
namespace Go.Proofs.Ytaahakmngdjdfaa
open Go.RowKit

set_option maxHeartbeats 2000000 in
theorem update_at (N : Nat) (S c o : Int) (w : World) (h1 : 3 ≤ N) (h2 : N ≤ 6) (h3 : 1 ≤ S) (h4 : S ≤ 8) (c1 : 0 ≤ c) (c2 : c < (N : Int) - 1) (o1 : -1 ≤ o) (o2 : o ≤ (N : Int) - 1) :
    Calls Try.prog 16 #[.agg #[.int .i64 N, .int .i64 S], .int .i64 c, .int .i64 o] w fun e w' => ∃ (A : Option Addr) (gb : Nat) (ca cb : Nat), e = .returned (.tuple #[.slice A (updR N c o).length ca, .slice (some ⟨gb, 0, none⟩) (updW N c o).length cb, .int .i64 0]) ∧ w.heap.size ≤ gb ∧
      Rd w' w'.heap.size A (intCells (updR N c o)) ∧ Rd w' w'.heap.size (some ⟨gb, 0, none⟩) (intCells (updW N c o)) ∧ Below w.heap.size w w' := by
  rcases (show o = (N : Int) - 1 ∨ (o ≠ (N : Int) - 1 ∧ o = c) ∨ (o ≠ (N : Int) - 1 ∧ o ≠ c) by omega) with g | ⟨g, g2⟩ | ⟨g, g2⟩
  · have hR : updR N c o = [] := by unfold updR; rw [if_pos g]
    have hB : updW N c o = [c] := by unfold updW; rw [if_pos g]
    rw [hR, hB]
    clear hR hB
    subst g
    go_enter Try.func16, Try.ntmps16
    go_wp2_with (first
      | (go_at_call 33; refine (pright_yes N S c _ _ (by omega) (by omega) h3 h4 c1 c2 o1 o2).mono ?_; rintro e w1 ⟨rfl, hk⟩; have hG : Below (w.alloc (geoBox N S)).heap.size (w.alloc (geoBox N S)) w1 := hk; have r0 := geo0 hG; have r1 := geo1 hG; clear hk)
      | (go_at_call 30; refine (parity_yes N S _ (by omega) (by omega) h3 h4).mono ?_; rintro e w2 ⟨rfl, hk⟩; replace hG := bel_call hG hk; clear hk))
    go_ret3
    exact ⟨none, _, 0, _, rfl, (geo_below hG).size, Rd.nil _ _ _, rdi_new w2 #[.int .i64 c] 3 _ rfl, bel_alloc (geo_below hG) _⟩
  · have hR : updR N c o = othersL (N - 1) c := by unfold updR; rw [if_neg g, if_pos g2]
    have hB : updW N c o = [(N : Int) - 1] := by unfold updW; rw [if_neg g, if_pos g2]
    rw [hR, hB]
    clear hR hB
    subst g2
    have q1 : (o == (N : Int) - 1) = false := by rw [beq_eq_false_iff_ne]; exact g
    clear g
    go_enter Try.func16, Try.ntmps16
    go_wp2_with (first
      | (go_at_call 33; refine (pright_yes N S o o _ (by omega) (by omega) h3 h4 c1 c2 o1 o2).mono ?_; rintro e w1 ⟨rfl, hk⟩; have hG : Below (w.alloc (geoBox N S)).heap.size (w.alloc (geoBox N S)) w1 := hk; have r0 := geo0 hG; have r1 := geo1 hG; clear hk)
      | (go_at_call 30; refine (parity_yes N S _ (by omega) (by omega) h3 h4).mono ?_; rintro e w2 ⟨rfl, hk⟩; replace hG := bel_call hG hk; clear hk)
      | (go_at_call 34; refine (others_i ((N : Int) - 1) (N - 1) o _ (by omega) (by omega)).mono ?_; rintro e w3 ⟨A, ca, rfl, hr, hk⟩; replace hG := bel_call hG hk; clear hk))
    go_ret3
    exact ⟨A, _, ca, _, rfl, (geo_below hG).size, rdi_alloc hr _, rdi_new w3 #[.int .i64 ((N : Int) - 1)] 3 _ rfl, bel_alloc (geo_below hG) _⟩
  · have hR : updR N c o = [c, (N : Int) - 1] := by unfold updR; rw [if_neg g, if_neg g2]
    have hB : updW N c o = [c, (N : Int) - 1] := by unfold updW; rw [if_neg g, if_neg g2]
    rw [hR, hB]
    clear hR hB
    have q1 : (o == (N : Int) - 1) = false := by rw [beq_eq_false_iff_ne]; exact g
    have q2 : (o == c) = false := by rw [beq_eq_false_iff_ne]; exact g2
    clear g g2
    go_enter Try.func16, Try.ntmps16
    go_wp2_with (first
      | (go_at_call 33; refine (pright_yes N S c o _ (by omega) (by omega) h3 h4 c1 c2 o1 o2).mono ?_; rintro e w1 ⟨rfl, hk⟩; have hG : Below (w.alloc (geoBox N S)).heap.size (w.alloc (geoBox N S)) w1 := hk; have r0 := geo0 hG; have r1 := geo1 hG; clear hk)
      | (go_at_call 30; refine (parity_yes N S _ (by omega) (by omega) h3 h4).mono ?_; rintro e w2 ⟨rfl, hk⟩; replace hG := bel_call hG hk; clear hk))
    go_ret3
    exact ⟨_, _, _, _, rfl, Nat.le_succ_of_le (geo_below hG).size, rdi_alloc (rdi_new w2 #[.int .i64 c, .int .i64 ((N : Int) - 1)] 3 _ rfl) _, rdi_new (w2.alloc (.cells #[.int .i64 c, .int .i64 ((N : Int) - 1)] 3)) #[.int .i64 c, .int .i64 ((N : Int) - 1)] 3 _ (by simp), bel_alloc (bel_alloc (geo_below hG) _) _⟩
theorem update_ma (N m u : Nat) (S c o : Int) (w : World) (hm : (updR N c o).length = m) (hu : (updW N c o).length = u) (h1 : 3 ≤ N) (h2 : N ≤ 6) (h3 : 1 ≤ S) (h4 : S ≤ 8) (c1 : 0 ≤ c) (c2 : c < (N : Int) - 1) (o1 : -1 ≤ o) (o2 : o ≤ (N : Int) - 1) :
    Calls Try.prog 16 #[.agg #[.int .i64 N, .int .i64 S], .int .i64 c, .int .i64 o] w fun e w' => ∃ (A : Option Addr) (gb ca cb : Nat), e = .returned (.tuple #[.slice A m ca, .slice (some ⟨gb, 0, none⟩) u cb, .int .i64 0]) ∧ w.heap.size ≤ gb ∧
      Rd w' w'.heap.size A (intCells (updR N c o)) ∧ Rd w' w'.heap.size (some ⟨gb, 0, none⟩) (intCells (updW N c o)) ∧ Below w.heap.size w w' := by
  subst hm hu
  exact update_at N S c o w h1 h2 h3 h4 c1 c2 o1 o2

set_option maxHeartbeats 1000000 in
theorem made_at (N m u : Nat) (S c o : Int) (R : List ByteArray) (data : ByteArray) (C : Option Addr) (cc : Nat) (w : World) (hm : (updR N c o).length = m) (hu : (updW N c o).length = u) (hR : R.length = m) (hs : ∀ s ∈ R, s.size = 16) (hd : data.size = 16) (hr : Rd w w.heap.size C (R.map Value.string)) (hcc1 : m ≤ cc) (hcc2 : cc ≤ maxLen)
    (h1 : 3 ≤ N) (h2 : N ≤ 6) (h3 : 1 ≤ S) (h4 : S ≤ 8) (c1 : 0 ≤ c) (c2 : c < (N : Int) - 1) (o1 : -1 ≤ o) (o2 : o ≤ (N : Int) - 1) :
    Calls Try.prog 21 #[.agg #[.int .i64 N, .int .i64 S], .int .i64 c, .int .i64 o, .slice C m cc, .string data] w fun e w' => ∃ (gd : Nat) (cd : Nat), e = .returned (.tuple #[.slice (some ⟨gd, 0, none⟩) u cd, .int .i64 0]) ∧ w.heap.size ≤ gd ∧ Rd w' w'.heap.size (some ⟨gd, 0, none⟩) ((madeV N c o R data).map Value.string) ∧ Below w.heap.size w w' := by
  have hm6 : m ≤ 6 := by rw [← hm]; exact updR_len h1 h2
  have hcm := hcc2
  unfold maxLen at hcm
  have hd16 : ((data.size : Int) != 16) = false := by rw [hd]; rfl
  have HM := Lib.hid hm
  have HU := Lib.hid hu
  have HR := Lib.hid hR
  have HS := Lib.hid hs
  have HD := Lib.hid hd
  have HRD := Lib.hid hr
  have HC := Lib.hid hcc2
  clear hm hs hcc2 hR hd hr hu
  unfold madeV
  rcases (show o = (N : Int) - 1 ∨ (o ≠ (N : Int) - 1 ∧ o = c) ∨ (o ≠ (N : Int) - 1 ∧ o ≠ c) by omega) with g | ⟨g, g2⟩ | ⟨g, g2⟩
  · rw [if_pos g]
    have hu1 : u = 1 := by rw [← HU.out]; unfold updW; rw [if_pos g]; rfl
    subst hu1 g
    go_enter Try.func21, Try.ntmps21
    go_wp2_with (first
      | (go_at_call 16; (refine (update_m N m 1 S c _ _ HM.out HU.out h1 h2 h3 h4 c1 c2 o1 o2).mono ?_); rintro e w1 ⟨A, B, ca, cb, rfl, r1, r2, hk⟩; have hG : Below (w.alloc (geoBox N S)).heap.size (w.alloc (geoBox N S)) w1 := hk; have g0 := geo0 hG; have g1 := geo1 hG; clear hk r1 r2)
      | (go_at_call 35; (refine (blocks_all R C m _ cc _ (rdi_call HRD.out (geo_below hG)) HR.out rfl (by omega) HS.out).mono ?_); rintro e w' ⟨rfl, rfl⟩)
      | (go_at_call 30; (refine (parity_yes N S _ (by omega) (by omega) h3 h4).mono ?_); rintro e w2 ⟨rfl, hk⟩; replace hG := bel_call hG hk; clear hk))
    go_ret2
    exact ⟨_, 1, rfl, (geo_below hG).size, rd_strs w2 [data] 9 _ rfl, bel_alloc (geo_below hG) _⟩
  · rw [if_neg g, if_pos g2]
    have hu1 : u = 1 := by rw [← HU.out]; unfold updW; rw [if_neg g, if_pos g2]; rfl
    subst hu1 g2
    have q1 : (o == (N : Int) - 1) = false := by rw [beq_eq_false_iff_ne]; exact g
    obtain ⟨r, hr⟩ : ∃ r, r = foldX data R := ⟨_, rfl⟩
    have hv : missR data R = (r, 0) := by rw [missR_ok (fun s h => by rw [HS.out s h, HD.out]), hr]
    rw [← hr]
    have HV := Lib.hid hv
    clear g hr hv
    go_enter Try.func21, Try.ntmps21
    go_wp2_with (first
      | (go_at_call 16; (refine (update_m N m 1 S o o _ HM.out HU.out h1 h2 h3 h4 c1 c2 o1 o2).mono ?_); rintro e w1 ⟨A, B, ca, cb, rfl, r1, r2, hk⟩; have hG : Below (w.alloc (geoBox N S)).heap.size (w.alloc (geoBox N S)) w1 := hk; have g0 := geo0 hG; have g1 := geo1 hG; clear hk r1 r2)
      | (go_at_call 35; (refine (blocks_all R C m _ cc _ (rdi_call HRD.out (geo_below hG)) HR.out rfl (by omega) HS.out).mono ?_); rintro e w' ⟨rfl, rfl⟩)
      | (go_at_call 30; (refine (parity_yes N S _ (by omega) (by omega) h3 h4).mono ?_); rintro e w2 ⟨rfl, hk⟩; replace hG := bel_call hG hk; clear hk)
      | (go_at_call 37; (refine (missing_v r data R C m cc _ HV.out (rdi_call HRD.out (geo_below hG)) (by rw [HD.out]; decide) (by unfold maxLen; omega) HR.out).mono ?_); rintro e w3 ⟨rfl, hk⟩; replace hG := bel_call hG hk; clear hk))
    go_ret2
    exact ⟨_, 1, rfl, (geo_below hG).size, rd_strs w3 [r] 9 _ rfl, bel_alloc (geo_below hG) _⟩
  · rw [if_neg g, if_neg g2]
    have hu1 : u = 2 := by rw [← HU.out]; unfold updW; rw [if_neg g, if_neg g2]; rfl
    have hm1 : m = 2 := by rw [← HM.out]; unfold updR; rw [if_neg g, if_neg g2]; rfl
    subst hu1 hm1
    have q1 : (o == (N : Int) - 1) = false := by rw [beq_eq_false_iff_ne]; exact g
    have q2 : (o == c) = false := by rw [beq_eq_false_iff_ne]; exact g2
    obtain ⟨x0, x1, hx⟩ : ∃ x0 x1, R = [x0, x1] := by
      have h := HR.out
      match R, h with
      | [a, b], _ => exact ⟨a, b, rfl⟩
    subst hx
    obtain ⟨b, off, rfl, hbB, hc0⟩ := HRD.out.at_ (k := 0) (u := .string x0) rfl
    have hc1 := HRD.out.cell_ (k := 1) (u := .string x1) rfl
    rw [Nat.add_zero] at hc0
    show Calls _ _ _ _ fun e w' => ∃ (gd : Nat) (cd : Nat), e = _ ∧ w.heap.size ≤ gd ∧ Rd w' w'.heap.size (some ⟨gd, 0, none⟩) ([data, xorB (xorB x1 x0) data].map Value.string) ∧ Below w.heap.size w w'
    obtain ⟨r, hr⟩ : ∃ r, r = xorB (xorB x1 x0) data := ⟨_, rfl⟩
    rw [← hr]
    have HV := Lib.hid hr.symm
    have HS0 : Hid (x0.size = 16) := Lib.hid (HS.out x0 (by simp))
    have HS1 : Hid (x1.size = 16) := Lib.hid (HS.out x1 (by simp))
    clear g g2 hr
    go_enter Try.func21, Try.ntmps21
    go_wp2_with (first
      | (go_at_call 16; (refine (update_m N 2 2 S c o _ HM.out HU.out h1 h2 h3 h4 c1 c2 o1 o2).mono ?_); rintro e w1 ⟨A, B, ca, cb, rfl, r1, r2, hk⟩; have hG : Below (w.alloc (geoBox N S)).heap.size (w.alloc (geoBox N S)) w1 := hk; have g0 := geo0 hG; have g1 := geo1 hG; clear hk r1 r2)
      | (go_at_call 35; (refine (blocks_all [x0, x1] _ 2 _ cc _ (rdi_call HRD.out (geo_below hG)) HR.out rfl (by omega) HS.out).mono ?_); rintro e w' ⟨rfl, rfl⟩)
      | (go_at_call 30; (refine (parity_yes N S _ (by omega) (by omega) h3 h4).mono ?_); rintro e w2 ⟨rfl, hk⟩; replace hG := bel_call hG hk; have d0 := ((geo_below hG).cell (p := ⟨b, off, none⟩) hbB).trans hc0; have d1 := ((geo_below hG).cell (p := ⟨b, off + 1, none⟩) hbB).trans hc1; have hb2 : b < w2.heap.size := Nat.lt_of_lt_of_le hbB (geo_below hG).size; clear hk))
    go_region_held3 (fun w' => w'.cell? ⟨b, off, none⟩ = some (.string x0) ∧ w'.cell? ⟨b, off + 1, none⟩ = some (.string x1) ∧ Below w2.heap.size w2 w')
      (first | exact mdS hb2 d0 d1 (Below.refl _ _).drew | exact mdS hb2 d0 d1 hbx)
      (first
        | (go_at_call 38; go_split_ands; (refine (moved_v r 16 x1 x0 data _ HV.out HS1.out HS0.out HD.out (by decide)).mono ?_); rintro e w3 ⟨rfl, hk⟩; have hbx := bel_call (by assumption : Below w2.heap.size w2 _) hk; clear hk))
    have hfin := bel_call (geo_below hG) hbx
    clear hbx
    go_wp2
    go_ret2
    exact ⟨_, 2, rfl, hfin.size, rd_strs w3 [data, r] 9 _ rfl, bel_alloc hfin _⟩
end Go.Proofs.Ytaahakmngdjdfaa
