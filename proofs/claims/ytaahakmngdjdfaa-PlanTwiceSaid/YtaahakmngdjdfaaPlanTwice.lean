/-
  PlanTwice: a block that is written twice is as if it were written once; two may be written in either order: for any raw geometry, texts and numbers. No condition.
-/
import Derived.Test.YtaahakmngdjdfaaPlanTwiceMath
namespace Go.Proofs.Ytaahakmngdjdfaa
open Go.RowKit

theorem put_v (N S c : Nat) (L : List ByteArray) (y : ByteArray) (g gx cc : Nat) (w : World) (n1 : 3 ≤ N) (n2 : N ≤ 6) (s1 : 1 ≤ S) (s2 : S ≤ 8) (hc : c < N - 1) (hL : Str N L) (hy : y.size = 16)
    (hr : Rd w w.heap.size (some ⟨g, 0, none⟩) (L.map Value.string)) (hgx : gx < w.heap.size) (g0 : w.cell? ⟨gx, 0, none⟩ = some (.int .i64 N)) (g1 : w.cell? ⟨gx, 1, none⟩ = some (.int .i64 S)) :
    Calls Try.prog 23 #[.slice (some ⟨g, 0, none⟩) N cc, .int .i64 c, .string y, .pointer (some ⟨gx, 0, none⟩)] w fun e w' => ∃ (g' c' : Nat), e = .returned (.slice (some ⟨g', 0, none⟩) N c') ∧ Rd w' w'.heap.size (some ⟨g', 0, none⟩) ((putV N c L y).map Value.string) ∧ Below w.heap.size w w' := by
  refine (put_calls N S c L y g gx cc w n1 n2 s1 s2 hc hL.1 hL.2 hy hr hgx g0 g1).mono ?_
  rintro e w' ⟨g', c', rfl, -, h, hb⟩
  exact ⟨g', c', rfl, h, hb⟩
/-- what the law's regions keep -/
theorem twS {w2 wX w' : World} {N S : Int} {gt : Nat} {x y : Value} (hG : Below (w2.alloc (geoBox N S)).heap.size (w2.alloc (geoBox N S)) wX) (hgt : gt < wX.heap.size) (h0 : wX.cell? ⟨gt, 0, none⟩ = some x) (h1 : wX.cell? ⟨gt, 1, none⟩ = some y) (h : Below wX.heap.size wX w') :
    w'.cell? ⟨w2.heap.size, 0, none⟩ = some (.int .i64 N) ∧ w'.cell? ⟨w2.heap.size, 1, none⟩ = some (.int .i64 S) ∧ w'.cell? ⟨gt, 0, none⟩ = some x ∧ w'.cell? ⟨gt, 1, none⟩ = some y ∧ Below wX.heap.size wX w' :=
  ⟨geo0 (bel_call hG h), geo1 (bel_call hG h), (h.cell hgt).trans h0, (h.cell hgt).trans h1, h⟩

theorem tvS {w0 w' : World} {gy gt a b : Nat} {u v x y : Value} (hy : gy < w0.heap.size) (ht : gt < w0.heap.size) (h0 : w0.cell? ⟨gy, a, none⟩ = some u) (h1 : w0.cell? ⟨gy, b, none⟩ = some v) (h2 : w0.cell? ⟨gt, 0, none⟩ = some x) (h3 : w0.cell? ⟨gt, 1, none⟩ = some y) (h : Below w0.heap.size w0 w') :
    w'.cell? ⟨gy, a, none⟩ = some u ∧ w'.cell? ⟨gy, b, none⟩ = some v ∧ w'.cell? ⟨gt, 0, none⟩ = some x ∧ w'.cell? ⟨gt, 1, none⟩ = some y ∧ Below w0.heap.size w0 w' := ⟨(h.cell hy).trans h0, (h.cell hy).trans h1, (h.cell ht).trans h2, (h.cell ht).trans h3, h⟩

set_option maxRecDepth 100000 in
set_option maxHeartbeats 4000000 in
theorem planTwice_walk (a0 b0 : Int) (raw : List ByteArray) (A : Option Addr) (n cap : Nat) (p q : Int) (one two : ByteArray) (w : World) (ha1 : -9223372036854775808 ≤ a0) (ha2 : a0 ≤ 9223372036854775807) (hb1 : -9223372036854775808 ≤ b0) (hb2 : b0 ≤ 9223372036854775807)
    (hr : Rd w w.heap.size A (raw.map Value.string)) (hln : raw.length = n) (_hnc : n ≤ cap) (hc : cap * 16 ≤ 140737488351232) (_hs : ∀ s ∈ raw, s.size ≤ maxLen)
    (p1 : -9223372036854775808 ≤ p) (p2 : p ≤ 9223372036854775807) (q1 : -9223372036854775808 ≤ q) (q2 : q ≤ 9223372036854775807) (_hone : one.size ≤ 140737488351232) (_htwo : two.size ≤ 140737488351232) :
    Calls Try.prog 8 #[.agg #[.int .i64 a0, .int .i64 b0], .slice A n cap, .int .i64 p, .int .i64 q, .string one, .string two] w fun e w' => e = .returned (.bool true) ∧ Below w.heap.size w w' := by
  have HR := Lib.hid hr
  have HN := Lib.hid hln
  have hnm : n ≤ maxLen := by unfold maxLen; omega
  have HNM := Lib.hid hnm
  have hmf : ∀ (fn : Fn) (first cap : Array Value) (w : World), (Instr.makeFunc fn first cap).run Try.prog w = .ok (.func fn first cap) w := fun _ _ _ _ => rfl
  clear hr hln hnm hc _hnc _hs _hone _htwo
  go_enter Try.func8, Try.ntmps8
  go_wp2_with (first
    | (go_at_call 9; refine (awake06_calls _).mono ?_; rintro e w1 ⟨rfl, hk⟩; have hR : Below (w.alloc (geoBox a0 b0)).heap.size (w.alloc (geoBox a0 b0)) w1 := hk; have r0 := geo0 hR; have r1 := geo1 hR; clear hk)
    | (go_at_call 10; (refine (fit_n a0 b0 _ ha1 ha2 hb1 hb2).mono ?_); rintro e w2 ⟨N, S, n1, n2, s1, s2, rfl, hk⟩; replace hR := bel_call hR hk; clear hk; have hG : Below (w2.alloc (geoBox N S)).heap.size (w2.alloc (geoBox N S)) (w2.alloc (geoBox N S)) := Below.refl _ _; have HG0 := Lib.hid hG; clear hG)
    | (go_at_call_of 12 (Value.int .i64 p); (refine (pick06_arg p _ (N - 1) _ (by omega) p1 p2 (by omega) (by omega)).mono ?_); rintro e w' ⟨a, ha, rfl, rfl⟩)
    | (go_at_call_of 12 (Value.int .i64 q); (refine (pick06_arg q _ (N - 1) _ (by omega) q1 q2 (by omega) (by omega)).mono ?_); rintro e w' ⟨b, hb, rfl, rfl⟩))
  obtain ⟨wg, hwg⟩ : ∃ wg, wg = w2.alloc (geoBox N S) := ⟨_, rfl⟩
  have hgw : w2.heap.size < wg.heap.size := by rw [hwg]; simp
  have HWG := Lib.hid hwg
  clear hwg
  refine (texts_some [one, two] (some ⟨_, 0, none⟩) 2 2 _ _ 2 16 _ (rd_strs _ [one, two] 9 _ (by simp)) rfl (by decide) rfl rfl (by omega) (by omega) (by omega)).mono ?_
  rintro e w4 ⟨gt, ct, Lt, -, rfl, -, hgt, -, -, hLl2, hLs2, hown2, hbt2⟩
  have hG := bel_call (bel_alloc HG0.out _) hbt2
  obtain ⟨d0, d1, hd⟩ : ∃ d0 d1, Lt = [d0, d1] := by
    match Lt, hLl2 with
    | [x, y], _ => exact ⟨x, y, rfl⟩
  have HD0 : Hid (d0.size = 16) := Lib.hid (hLs2 d0 (by rw [hd]; simp))
  have HD1 : Hid (d1.size = 16) := Lib.hid (hLs2 d1 (by rw [hd]; simp))
  have hcd0 : w4.cell? ⟨gt, 0, none⟩ = some (.string d0) := (Rd.of_own hown2).cell_ (k := 0) (u := .string d0) (by rw [hd]; rfl)
  have hcd1 : w4.cell? ⟨gt, 1, none⟩ = some (.string d1) := by have h := (Rd.of_own hown2).cell_ (k := 1) (u := .string d1) (by rw [hd]; rfl); rwa [Nat.zero_add] at h
  have HC0 := Lib.hid hcd0
  have HC1 := Lib.hid hcd1
  have g0 := geo0 hG
  have g1 := geo1 hG
  have HG4 := Lib.hid hG
  clear hd hLl2 hLs2 hown2 hbt2 hcd0 hcd1 hG
  go_wp2_with fail
  refine (stripe_yes N S raw A n cap _ n1 n2 (rdi_call (rdi_alloc (rdi_call HR.out (geo_below hR)) _) HG4.out) HN.out HNM.out).mono ?_
  rintro e w5 ⟨g, cc, L, rfl, -, hg2, -, hcc2, hL, hLs, -, hown, hk⟩
  have hG := bel_call HG4.out hk
  have hc0 := (hk.cell (p := ⟨gt, 0, none⟩) hgt).trans HC0.out
  have hc1 := (hk.cell (p := ⟨gt, 1, none⟩) hgt).trans HC1.out
  have hgt5 : gt < w5.heap.size := Nat.lt_of_lt_of_le hgt hk.size
  have hg5 : w2.heap.size < w5.heap.size := by have := hG.size; simp at this; omega
  have HL : Hid (Str N L) := Lib.hid ⟨hL, hLs⟩
  have HRL := Lib.hid (Rd.of_own hown)
  clear hk hL hLs hown g0 g1 hcc2 hg2
  have g0 := geo0 hG
  have g1 := geo1 hG
  go_wp2
  have HA1 : Hid (Str N (putV N a L d0)) := Lib.hid (putV_str n1 HL.out HD0.out ha)
  have HB1 : Hid (Str N (putV N b L d1)) := Lib.hid (putV_str n1 HL.out HD1.out hb)
  go_region_held3 (fun w' => w'.cell? ⟨w2.heap.size, 0, none⟩ = some (.int .i64 (N : Int)) ∧ w'.cell? ⟨w2.heap.size, 1, none⟩ = some (.int .i64 (S : Int)) ∧ w'.cell? ⟨gt, 0, none⟩ = some (.string d0) ∧ w'.cell? ⟨gt, 1, none⟩ = some (.string d1) ∧ Below w5.heap.size w5 w')
    (first | exact twS hG hgt5 hc0 hc1 (Below.refl _ _).drew | exact twS hG hgt5 hc0 hc1 hbx)
    (first
      | (go_at_call_of 23 (Value.slice (some ⟨g, 0, none⟩) N cc); go_split_ands; (refine (put_v N S a L d0 g w2.heap.size cc _ n1 n2 s1 s2 ha HL.out HD0.out (rdi_call HRL.out (by assumption)) (Nat.lt_of_lt_of_le hg5 (Below.size (by assumption : Below w5.heap.size w5 _))) (by assumption) (by assumption)).mono ?_); rintro e w6 ⟨gx, cx, rfl, hrx, hk⟩; have hbx := bel_call (by assumption : Below w5.heap.size w5 _) hk; have HRX := Lib.hid hrx; clear hk hrx)
      | (go_at_call_of 23 (Value.slice (some ⟨gx, 0, none⟩) N cx); go_split_ands; (refine (put_v N S b (putV N a L d0) d1 gx w2.heap.size cx _ n1 n2 s1 s2 hb HA1.out HD1.out (by first | exact HRX.out | exact HRX.out.drew) (Nat.lt_of_lt_of_le hg5 (Below.size (by assumption : Below w5.heap.size w5 _))) (by assumption) (by assumption)).mono ?_); rintro e w7 ⟨gy, cy, rfl, hry, hk⟩; have hbx := bel_call (by assumption : Below w5.heap.size w5 _) hk; have HRY := Lib.hid hry; clear hk hry))
  go_wp2
  have HG7 := Lib.hid (bel_call hG hbx)
  have HRY7 := Lib.hid HRY.out
  have HRL7 := Lib.hid (rdi_call HRL.out hbx)
  have hc0' := (hbx.cell (p := ⟨gt, 0, none⟩) hgt5).trans hc0
  have hc1' := (hbx.cell (p := ⟨gt, 1, none⟩) hgt5).trans hc1
  have hgt7 : gt < w7.heap.size := Nat.lt_of_lt_of_le hgt5 hbx.size
  have hg7 : w2.heap.size < w7.heap.size := Nat.lt_of_lt_of_le hg5 hbx.size
  have hw7 : Below w7.heap.size w7 w7 := Below.refl _ _
  clear hbx hc0 hc1 g0 g1 hG
  have hG := HG7.out
  have g0 := geo0 hG
  have g1 := geo1 hG
  go_region_held3 (fun w' => w'.cell? ⟨w2.heap.size, 0, none⟩ = some (.int .i64 (N : Int)) ∧ w'.cell? ⟨w2.heap.size, 1, none⟩ = some (.int .i64 (S : Int)) ∧ w'.cell? ⟨gt, 0, none⟩ = some (.string d0) ∧ w'.cell? ⟨gt, 1, none⟩ = some (.string d1) ∧ Below w7.heap.size w7 w')
    (first | exact twS hG hgt7 hc0' hc1' (Below.refl _ _).drew | exact twS hG hgt7 hc0' hc1' hbx)
    (first
      | (go_at_call_of 23 (Value.slice (some ⟨g, 0, none⟩) N cc); go_split_ands; (refine (put_v N S b L d1 g w2.heap.size cc _ n1 n2 s1 s2 hb HL.out HD1.out (rdi_call HRL7.out (by assumption)) (Nat.lt_of_lt_of_le hg7 (Below.size (by assumption : Below w7.heap.size w7 _))) (by assumption) (by assumption)).mono ?_); rintro e w8 ⟨gu, cu, rfl, hru, hk⟩; have hbx := bel_call (by assumption : Below w7.heap.size w7 _) hk; have HRU := Lib.hid hru; clear hk hru)
      | (go_at_call_of 23 (Value.slice (some ⟨gu, 0, none⟩) N cu); go_split_ands; (refine (put_v N S a (putV N b L d1) d0 gu w2.heap.size cu _ n1 n2 s1 s2 ha HB1.out HD0.out (by first | exact HRU.out | exact HRU.out.drew) (Nat.lt_of_lt_of_le hg7 (Below.size (by assumption : Below w7.heap.size w7 _))) (by assumption) (by assumption)).mono ?_); rintro e w9 ⟨gv, cv, rfl, hrv, hk⟩; have hbx := bel_call (by assumption : Below w7.heap.size w7 _) hk; have HRV := Lib.hid hrv; clear hk hrv))
  have HG9 := Lib.hid (bel_call HG7.out hbx)
  have HRY9 := Lib.hid (rdi_call HRY7.out hbx)
  have HRL9 := Lib.hid (rdi_call HRL7.out hbx)
  have hc0 := (hbx.cell (p := ⟨gt, 0, none⟩) hgt7).trans hc0'
  have hc1 := (hbx.cell (p := ⟨gt, 1, none⟩) hgt7).trans hc1'
  have hgt9 : gt < w9.heap.size := Nat.lt_of_lt_of_le hgt7 hbx.size
  have hg9 : w2.heap.size < w9.heap.size := Nat.lt_of_lt_of_le hg7 hbx.size
  clear hbx hc0' hc1' g0 g1 hG
  have g0 := geo0 HG9.out
  have g1 := geo1 HG9.out
  go_wp2_with fail
  refine (put_v N S b L d1 g w2.heap.size cc _ n1 n2 s1 s2 hb HL.out HD1.out HRL9.out hg9 g0 g1).mono ?_
  rintro e w10 ⟨gz, cz, rfl, hrz, hk⟩
  have HG10 := Lib.hid (bel_call HG9.out hk)
  have HRY10 := Lib.hid (rdi_call HRY9.out hk)
  have HRV10 := Lib.hid (rdi_call HRV.out hk)
  have HRZ := Lib.hid hrz
  have hd0 := (hk.cell (p := ⟨gt, 0, none⟩) hgt9).trans hc0
  have hd1 := (hk.cell (p := ⟨gt, 1, none⟩) hgt9).trans hc1
  have hgt10 : gt < w10.heap.size := Nat.lt_of_lt_of_le hgt9 hk.size
  have HXS : Hid (Str N (putV N b (putV N a L d0) d1)) := Lib.hid (putV_str n1 HA1.out HD1.out hb)
  clear hk hrz g0 g1 hc0 hc1
  have g0 := geo0 HG10.out
  have g1 := geo1 HG10.out
  by_cases hab : a = b
  · have HT : Hid (putV N b (putV N a L d0) d1 = putV N b L d1) := Lib.hid (by subst hab; exact twice_same n1 HL.out HD0.out ha)
    have hab2 : ((a : Int) == (b : Int)) = true := by rw [beq_iff_eq]; omega
    clear hab
    go_wp2_with (go_at_call 24; (refine (texts06_yes (putV N b L d1) _ _ N _ _ _ (by rw [← HT.out]; exact HRY10.out) HRZ.out HB1.out.1 (by omega)).mono ?_); rintro e w11 ⟨rfl, hk⟩; have HK := Lib.hid hk; clear hk)
    go_ret
    exact ⟨by rfl, bel_call (geo_below hR) (bel_call (geo_below HG10.out) HK.out)⟩
  · have HT : Hid (putV N b (putV N a L d0) d1 = putV N a (putV N b L d1) d0) := Lib.hid (twice_turn n1 HL.out ha hb hab)
    have hab2 : ((a : Int) == (b : Int)) = false := by rw [beq_eq_false_iff_ne]; omega
    have hxb : w10.cell? ⟨gy, b, none⟩ = some (.string d1) := by
      have h := HRY10.out.cell_ (k := b) (u := .string d1) (by simp [putV_col n1 HA1.out.1 hb])
      rwa [Nat.zero_add] at h
    have hxa : w10.cell? ⟨gy, a, none⟩ = some (.string d0) := by
      have h := HRY10.out.cell_ (k := a) (u := .string d0) (by simp [putV_other n1 ha hab, putV_col n1 HL.out.1 ha])
      rwa [Nat.zero_add] at h
    have haN : (a : Int) < (N : Int) := by omega
    have hbN : (b : Int) < (N : Int) := by omega
    have hgy : gy < w10.heap.size := by
      obtain ⟨b', o', hA, hb', _⟩ := HRY10.out.at_ (k := a) (u := .string d0) (by simp [putV_other n1 ha hab, putV_col n1 HL.out.1 ha])
      injection hA with hA
      injection hA with h1 _ _
      rw [h1]; exact hb'
    have HTW := Lib.hid (tvS hgy hgt10 hxa hxb hd0 hd1 (Below.refl _ _))
    clear hab
    go_wp2
    go_region_held3 (fun w' => w'.cell? ⟨gy, a, none⟩ = some (.string d0) ∧ w'.cell? ⟨gy, b, none⟩ = some (.string d1) ∧ w'.cell? ⟨gt, 0, none⟩ = some (.string d0) ∧ w'.cell? ⟨gt, 1, none⟩ = some (.string d1) ∧ Below w10.heap.size w10 w')
      (first | exact tvS hgy hgt10 hxa hxb hd0 hd1 (Below.refl _ _).drew | exact tvS hgy hgt10 hxa hxb hd0 hd1 hbx)
      (first
        | (go_at_call 24; go_split_ands; (refine (texts06_yes (putV N a (putV N b L d1) d0) _ _ N _ _ _ (by rw [← HT.out]; exact rdi_call HRY10.out (by assumption)) (rdi_call HRV10.out (by assumption)) (by rw [← HT.out]; exact HXS.out.1) (by omega)).mono ?_); rintro e w11 ⟨rfl, hk⟩; have hbx := bel_call (by assumption : Below w10.heap.size w10 _) hk; clear hk))
    go_wp2
    go_ret
    exact ⟨by rfl, bel_call (geo_below hR) (bel_call (geo_below HG10.out) (by assumption))⟩
end Go.Proofs.Ytaahakmngdjdfaa
