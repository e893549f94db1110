/-
  RequestWhole: no beginning of a request is one, nor anything that goes on behind it: for any raw geometry, numbers and text. No condition.
-/
import Derived.Test.YtekjhhiamboffaaAwake20
namespace Go.Proofs.Ytekjhhiamboffaa
open Go.RowKit

theorem req_size {k a c : Int} {d s : ByteArray} (hs : s = layB (reqF k a c d)) : 12 ≤ s.size ∧ s.size ≤ 30 + d.size := by
  have h1 := numB_size k
  have h2 := numB_size a
  have h3 := numB_size c
  have e : s.size = 12 + (numB k).size + (numB a).size + (numB c).size + d.size := by
    rw [hs, layB, size_mk]
    simp [layL, reqF, oneL_length]
    omega
  omega
theorem prefix_no {s : ByteArray} {m : Nat} (hs : IsReq s) (hm : m < s.size) : ¬ IsReq (s.extract 0 m) := by
  intro h
  have e : (s.extract 0 m).data.toList ++ s.data.toList.drop m = s.data.toList := by
    rw [ext_list, List.drop_zero, List.take_append_drop]
  have h0 := req_prefix h hs e
  have := congrArg List.length h0
  rw [List.length_drop, byteList_size] at this
  simp at this
  omega
theorem behind_no {s t : ByteArray} (hs : IsReq s) (ht : 0 < t.size) : ¬ IsReq (s ++ t) := by
  intro h
  have h0 := req_prefix hs h (Joins.data_append s t).symm
  have := congrArg List.length h0
  rw [byteList_size, List.length_nil] at this
  omega
theorem take_e0 (N S k a c : Int) (d s : ByteArray) (w : World) (h : ReqP k a c d) (hs : s = layB (reqF k a c d)) (hn : TakeP N S k a c) :
    Calls Try.prog 11 #[.agg #[.int .i64 N, .int .i64 S], .string s] w fun e w' => ∃ v, e = .returned (.tuple #[v, .int .i64 0]) ∧ Below w.heap.size w w' := by
  have hc := req_small h
  refine (take_ops N S k a c c.toNat d s w (by omega) h hs hn).mono ?_
  rintro e w' ⟨A, cc, rfl, -, hb⟩
  exact ⟨_, rfl, hb⟩
theorem rqS {w2 wX w' : World} {N S : Int} (hG : Below (w2.alloc (geoBox N S)).heap.size (w2.alloc (geoBox N S)) wX) (h : Below wX.heap.size wX w') :
    w'.cell? ⟨w2.heap.size, 0, none⟩ = some (.int .i64 N) ∧ w'.cell? ⟨w2.heap.size, 1, none⟩ = some (.int .i64 S) ∧ Below wX.heap.size wX w' :=
  ⟨geo0 (bel_call hG h), geo1 (bel_call hG h), h⟩
theorem app3 (a b c : ByteArray) : a ++ b ++ c = a ++ (b ++ c) := ba_eq (by rw [Joins.data_append, Joins.data_append, Joins.data_append, Joins.data_append, List.append_assoc])

set_option maxRecDepth 100000 in
set_option maxHeartbeats 4000000 in
theorem requestWhole_walk (a0 b0 : Int) (p q : Int) (more : ByteArray) (w : World) (ha1 : -9223372036854775808 ≤ a0) (ha2 : a0 ≤ 9223372036854775807) (hb1 : -9223372036854775808 ≤ b0) (hb2 : b0 ≤ 9223372036854775807)
    (p1 : -9223372036854775808 ≤ p) (p2 : p ≤ 9223372036854775807) (q1 : -9223372036854775808 ≤ q) (q2 : q ≤ 9223372036854775807) (hmore : more.size ≤ 140737488351232) :
    Calls Try.prog 7 #[.agg #[.int .i64 a0, .int .i64 b0], .int .i64 p, .int .i64 q, .string more] w fun e w' => e = .returned (.bool true) ∧ Below w.heap.size w w' := by
  go_enter Try.func7, Try.ntmps7
  go_wp2_with (first
    | (go_at_call 8; refine (awake20_calls _).mono ?_; rintro e w1 ⟨rfl, hk⟩; have hR : Below (w.alloc (geoBox a0 b0)).heap.size (w.alloc (geoBox a0 b0)) w1 := hk; have r0 := geo0 hR; have r1 := geo1 hR; clear hk)
    | (go_at_call 20; (refine (fit_calls a0 b0 _ ha1 ha2 hb1 hb2).mono ?_); rintro e w2 ⟨N, S, n1, n2, s1, s2, rfl, hk⟩; replace hR := bel_call hR hk; have hG : Below (w2.alloc (geoBox N S)).heap.size (w2.alloc (geoBox N S)) (w2.alloc (geoBox N S)) := Below.refl _ _; clear hk))
  refine (pick20_int p 3 _ p1 p2 (by omega) (by omega)).mono ?_
  rintro e w' ⟨c, hc1, hc2, rfl, rfl⟩
  have hdata : ∃ (K : Int) (d : ByteArray), 1 + c = K ∧ ReqP K 0 1 d ∧ d.size ≤ 16 ∧ ((K == 2) = true ∧ d = ⟨#[48, 49, 50, 51, 52, 53, 54, 55, 56, 57, 97, 98, 99, 100, 101, 102]⟩ ∨ (K == 2) = false ∧ d = ⟨#[]⟩) := by
    by_cases h1 : c = 1
    · refine ⟨2, ⟨#[48, 49, 50, 51, 52, 53, 54, 55, 56, 57, 97, 98, 99, 100, 101, 102]⟩, by omega, ?_, by decide, .inl ⟨rfl, rfl⟩⟩
      unfold ReqP
      have : (⟨#[48, 49, 50, 51, 52, 53, 54, 55, 56, 57, 97, 98, 99, 100, 101, 102]⟩ : ByteArray).size = 16 := rfl
      omega
    · refine ⟨1 + c, ⟨#[]⟩, rfl, ?_, by decide, .inr ⟨by rw [beq_eq_false_iff_ne]; omega, rfl⟩⟩
      unfold ReqP
      have : (⟨#[]⟩ : ByteArray).size = 0 := rfl
      omega
  obtain ⟨K, d, hK, hP, hd16, hcase⟩ := hdata
  have hTk : TakeP N S K 0 1 := by
    have hk3 := req_small hP
    have hrz : rightZ N S = true := right_iff.2 ⟨n1, n2, s1, s2⟩
    have hbz : blocksZ N S = S * (N - 1) := by unfold blocksZ; rw [if_pos hrz]
    have hpb := prod_bounds n1 n2 s1 s2
    by_cases h3 : K = 3
    · exact .inl ⟨h3, hrz, by omega⟩
    · exact .inr ⟨h3, by omega⟩
  obtain ⟨s, hs⟩ : ∃ s, s = layB (reqF K 0 1 d) := ⟨_, rfl⟩
  obtain ⟨z1, z2⟩ := req_size hs
  have hreq : IsReq s := ⟨K, 0, 1, d, hP, hs⟩
  have HREQ := Lib.hid hreq
  have HP := Lib.hid hP
  have HS := Lib.hid hs
  have HTK := Lib.hid hTk
  have hdz : d.size ≤ 140737488351232 := by omega
  have z3 : s.size ≤ 46 := by omega
  have HG0 := Lib.hid hG
  clear hP hs hTk hreq hG z2
  rcases hcase with ⟨q0, rfl⟩ | ⟨q0, rfl⟩
  all_goals
    go_wp2_with fail
    refine (lay20_yes K 0 1 _ s _ hdz HP.out HS.out).mono ?_
    rintro e w3 ⟨rfl, hk⟩
    have hG := bel_call HG0.out hk
    have g0 := geo0 hG
    have g1 := geo1 hG
    clear hk
    go_wp2_with fail
    refine (take_e0 N S K 0 1 _ s _ HP.out HS.out HTK.out).mono ?_
    rintro e w4 ⟨v, rfl, hk⟩
    replace hG := bel_call hG hk
    have h12 : decide ((s.size : Int) < 12) = false := decide_eq_false (by omega)
    clear hk g0 g1
    have g0 := geo0 hG
    have g1 := geo1 hG
    go_wp2
    go_region_held3 (fun w' => w'.cell? ⟨w2.heap.size, 0, none⟩ = some (.int .i64 N) ∧ w'.cell? ⟨w2.heap.size, 1, none⟩ = some (.int .i64 S) ∧ Below w4.heap.size w4 w')
      (first | exact rqS hG (Below.refl _ _).drew | exact rqS hG hbx)
      (first
        | (go_at_call 21; go_split_ands; (refine (pick20_nat q s.size _ q1 q2 (by omega) (by omega)).mono ?_); rintro e w' ⟨m, hm, rfl, rfl⟩; have hmi : (m : Int) ≤ (s.size : Int) := (by omega); have HPN := Lib.hid (prefix_no HREQ.out hm))
        | (go_at_call 11; go_split_ands; (refine (take_nothing N S (s.extract 0 m) _ HPN.out).mono ?_); rintro e w5 ⟨rfl, hk⟩; have hbx := bel_call (by assumption : Below w4.heap.size w4 _) hk; clear hk))
    go_wp2_with fail
    have HBN : Hid (¬ IsReq (s ++ more ++ ⟨#[120]⟩)) := Lib.hid (by rw [app3]; exact behind_no HREQ.out (by rw [ba_append_size]; exact Nat.lt_of_lt_of_le (by decide : 0 < (⟨#[120]⟩ : ByteArray).size) (Nat.le_add_left _ _)))
    refine (take_nothing N S _ _ HBN.out).mono ?_
    rintro e w6 ⟨rfl, hk⟩
    have hfin := bel_call (bel_call hG hbx) hk
    clear hk
    go_wp2
    go_ret
    exact ⟨by rfl, bel_call (geo_below hR) (geo_below hfin)⟩
end Go.Proofs.Ytekjhhiamboffaa
