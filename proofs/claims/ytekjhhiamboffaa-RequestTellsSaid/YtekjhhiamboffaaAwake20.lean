/-
  The contract of the laws' helper awake: chapter 20's example holds. No condition.
-/
import Derived.Test.YtekjhhiamboffaaReqSame
namespace Go.Proofs.Ytekjhhiamboffaa
open Go.RowKit

theorem ans_inj {E E' : List Int} {D D' : List ByteArray} (h : TellP E D) (h' : TellP E' D') (he : layB (tellF (E.zip D)) = layB (tellF (E'.zip D'))) : E = E' ∧ D = D' := by
  have e1 := (ans_take h rfl).1
  have e2 := (ans_take h' rfl).1
  rw [he, e2] at e1
  have hl : E.length = E'.length := by
    have := congrArg List.length e1
    rw [tellF_length, tellF_length, zip_len h, zip_len h'] at this
    omega
  obtain ⟨a1, a2, -⟩ := ans_again h
  obtain ⟨b1, b2, -⟩ := ans_again h'
  rw [← e1, hl] at a1 a2
  exact ⟨a1.symm.trans b1, a2.symm.trans b2⟩
theorem tell_v (E : List Int) (D : List ByteArray) (s : ByteArray) (A B : Option Addr) (n c cb : Nat) (w : World) (h : TellP E D) (hs : s = layB (tellF (E.zip D))) (hra : Rd w w.heap.size A (intCells E)) (hrb : Rd w w.heap.size B (D.map Value.string)) (hE : E.length = n) :
    Calls Try.prog 18 #[.slice A n c, .slice B n cb] w fun e w' => e = .returned (.tuple #[.string s, .int .i64 0]) ∧ Below w.heap.size w w' := by
  have h2 := tell_calls E D A B n n c cb w hra hrb hE (by have := h.1; omega) (fun t ht => by
    obtain ⟨k, hk, rfl⟩ := List.getElem_of_mem ht
    have hkE : k < E.length := by have := h.1; omega
    have := okA_iff.1 (h.2 _ (List.mem_of_getElem? (zip_at hkE hk)))
    have h3 : D[k].size ≤ 16 := this.2.2
    omega)
  rw [(tell_yes h).1, (tell_yes h).2, ← hs] at h2
  exact h2
theorem rdn_alloc {w : World} {A : Option Addr} {xs : List Value} (h : Rd w w.heap.size A xs) (o : Obj) : Rd (w.alloc o) (w.alloc o).heap.size A xs := (h.alloc (Nat.le_refl _) o).more (by simp)
theorem hear_yes (E : List Int) (D : List ByteArray) (s : ByteArray) (n : Nat) (w : World) (h : TellP E D) (hs : s = layB (tellF (E.zip D))) (hn : E.length = n) :
    Calls Try.prog 13 #[.string s] w fun e w' => ∃ (A B : Option Addr) (ca cb : Nat), e = .returned (.tuple #[.slice A n ca, .slice B n cb, .bool true]) ∧ Rd w' w'.heap.size A (intCells E) ∧ Rd w' w'.heap.size B (D.map Value.string) ∧ Below w.heap.size w w' := by
  refine (hear_calls s w).mono ?_
  rintro e w' (⟨E', D', A, B, n', ca, cb, hP, hs', hE, hD, rfl, ra, rb, hb⟩ | ⟨hno, -, -⟩)
  · obtain ⟨rfl, rfl⟩ := ans_inj h hP (by rw [← hs, hs'])
    obtain rfl : n' = n := by omega
    exact ⟨A, B, ca, cb, rfl, ra, rb, hb⟩
  · exact absurd ⟨E, D, h, hs⟩ hno
theorem hear_no (s : ByteArray) (w : World) (h : ¬ IsAns s) :
    Calls Try.prog 13 #[.string s] w fun e w' => e = .returned (.tuple #[.slice none 0 0, .slice none 0 0, .bool false]) ∧ Below w.heap.size w w' := by
  refine (hear_calls s w).mono ?_
  rintro e w' (⟨E', D', A, B, n', ca, cb, hP, hs', hE, hD, rfl, ra, rb, hb⟩ | ⟨hno, rfl, hb⟩)
  · exact absurd ⟨E', D', hP, hs'⟩ h
  · exact ⟨rfl, hb⟩
theorem ba_append_size (a b : ByteArray) : (a ++ b).size = a.size + b.size := by
  rw [← byteList_size, Joins.data_append, List.length_append, byteList_size, byteList_size]
theorem ops_two {a b : ByteArray} (ha : a.size = 16) (hb : b.size = 16) : opCells (opsL 2 1 (a ++ b) 2) = [.int .i64 2, .int .i64 1, .string a, .int .i64 2, .int .i64 2, .string b] := by
  have e1 : (a ++ b).extract 0 16 = a := ba_eq (by rw [ext_list, Joins.data_append, List.drop_zero, List.take_append_of_le_length (by rw [byteList_size, ha]; exact Nat.le_refl _), List.take_of_length_le (by rw [byteList_size, ha]; exact Nat.le_refl _)])
  have e2 : (a ++ b).extract 16 32 = b := ba_eq (by
    rw [ext_list, Joins.data_append, List.take_of_length_le (by rw [List.length_append, byteList_size, byteList_size, ha, hb]; exact Nat.le_refl _), List.drop_append_of_le_length (by rw [byteList_size, ha]; exact Nat.le_refl _), List.drop_eq_nil_of_le (by rw [byteList_size, ha]; exact Nat.le_refl _), List.nil_append])
  have e0 : opsL 2 1 (a ++ b) 2 = [(2, 1, (a ++ b).extract 0 16), (2, 2, (a ++ b).extract 16 32)] := by
    simp [opsL, opOf, List.range_succ]
  rw [e0, e1, e2]
  rfl

set_option maxRecDepth 100000 in
set_option maxHeartbeats 4000000 in
theorem awake20_calls (w : World) :
    Calls Try.prog 8 #[] w fun e w' => e = .returned (.bool true) ∧ Below w.heap.size w w' := by
  have hb0 : Below (w.alloc (geoBox 3 2)).heap.size (w.alloc (geoBox 3 2)) (w.alloc (geoBox 3 2)) := Below.refl _ _
  have r0 := geo0 hb0
  have r1 := geo1 hb0
  have HB0 := Lib.hid hb0
  unfold geoBox at r0 r1
  go_enter Try.func8, Try.ntmps8
  go_wp2_with fail
  obtain ⟨a, ha⟩ : ∃ a : ByteArray, a = ⟨#[48, 49, 50, 51, 52, 53, 54, 55, 56, 57, 97, 98, 99, 100, 101, 102]⟩ := ⟨_, rfl⟩
  obtain ⟨b, hb⟩ : ∃ a : ByteArray, a = ⟨#[102, 101, 100, 99, 98, 97, 57, 56, 55, 54, 53, 52, 51, 50, 49, 48]⟩ := ⟨_, rfl⟩
  have ha16 : a.size = 16 := by rw [ha]; rfl
  have hb16 : b.size = 16 := by rw [hb]; rfl
  rw [← ha, ← hb]
  have HA16 := Lib.hid ha16
  have HB16 := Lib.hid hb16
  have HBB := Lib.hid hb
  have haz : a.size ≤ 16 := by omega
  have hP1 : ReqP 2 1 2 (a ++ b) := by unfold ReqP; rw [ba_append_size]; omega
  have hP2 : ReqP 2 3 2 (a ++ a) := by unfold ReqP; rw [ba_append_size]; omega
  obtain ⟨s1, hs1⟩ : ∃ s, s = layB (reqF 2 1 2 (a ++ b)) := ⟨_, rfl⟩
  obtain ⟨s2, hs2⟩ : ∃ s, s = layB (reqF 2 3 2 (a ++ a)) := ⟨_, rfl⟩
  have hT : TellP [0, 170] [a, ⟨#[]⟩] := by
    refine ⟨⟨by decide, by decide, rfl⟩, ?_⟩
    intro p hp
    simp only [List.zip_cons_cons, List.zip_nil_right, List.mem_cons, List.not_mem_nil, or_false] at hp
    rcases hp with rfl | rfl <;> rw [okA_iff]
    · exact ⟨show (0 : Int) ≤ 0 by decide, show (0 : Int) ≤ 1000 by decide, show a.size ≤ 16 by omega⟩
    · exact ⟨show (0 : Int) ≤ 170 by decide, show (170 : Int) ≤ 1000 by decide, show (0 : Nat) ≤ 16 by decide⟩
  obtain ⟨s3, hs3⟩ : ∃ s, s = layB (tellF (([0, 170] : List Int).zip [a, ⟨#[]⟩])) := ⟨_, rfl⟩
  have hsz1 : (a ++ b).size ≤ 140737488351232 := by rw [ba_append_size]; omega
  have hsz2 : (a ++ a).size ≤ 140737488351232 := by rw [ba_append_size]; omega
  have HSZ1 := Lib.hid hsz1
  have HSZ2 := Lib.hid hsz2
  have P1 := Lib.hid hP1
  have P2 := Lib.hid hP2
  have S1 := Lib.hid hs1
  have S2 := Lib.hid hs2
  have S3 := Lib.hid hs3
  have TT := Lib.hid hT
  clear ha hb ha16 hb16 hP1 hP2 hs1 hs2 hs3 hT hsz1 hsz2 hb0
  refine (lay20_yes 2 1 2 (a ++ b) s1 _ HSZ1.out P1.out S1.out).mono ?_
  rintro e w1 ⟨rfl, hk⟩
  have hG := bel_call HB0.out hk
  have g0 := geo0 hG
  have g1 := geo1 hG
  clear hk r0 r1
  go_wp2_with fail
  refine (take_ops 3 2 2 1 2 2 (a ++ b) s1 _ rfl P1.out S1.out (.inr ⟨by decide, by decide⟩)).mono ?_
  rintro e w2 ⟨A1, c1, rfl, hr1, hk⟩
  replace hG := bel_call hG hk
  rw [ops_two HA16.out HB16.out] at hr1
  have HR1 := Lib.hid hr1
  clear hk hr1 g0 g1
  go_wp2_with fail
  refine (lay20_yes 2 3 2 (a ++ a) s2 _ HSZ2.out P2.out S2.out).mono ?_
  rintro e w3 ⟨rfl, hk⟩
  have HR2 := Lib.hid (rdi_call HR1.out hk)
  replace hG := bel_call hG hk
  have g0 := geo0 hG
  have g1 := geo1 hG
  clear hk
  go_wp2_with fail
  refine (take_refused 3 2 2 3 2 (a ++ a) s2 _ P2.out S2.out (by unfold TakeP; decide)).mono ?_
  rintro e w4 ⟨rfl, hk⟩
  have HR3 := Lib.hid (rdi_call HR2.out hk)
  replace hG := bel_call hG hk
  clear hk g0 g1
  go_wp2_with fail
  refine (tell_v [0, 170] [a, ⟨#[]⟩] s3 _ _ 2 2 2 _ TT.out S3.out (rdn_alloc (rdn_new w4 #[.int .i64 0, .int .i64 170] 27 _ rfl) _) (rdn_new _ #[.string a, .string ⟨#[]⟩] 9 _ (by simp)) rfl).mono ?_
  rintro e w5 ⟨rfl, hk⟩
  have hk2 := bel_call (bel_alloc (bel_alloc (Below.refl w4.heap.size w4) _) _) hk
  have HR4 := Lib.hid (rdi_call HR3.out hk2)
  replace hG := bel_call hG hk2
  clear hk hk2
  go_wp2_with fail
  refine (hear_yes [0, 170] [a, ⟨#[]⟩] s3 2 _ TT.out S3.out rfl).mono ?_
  rintro e w6 ⟨A2, A3, c2, c3, rfl, hE, hD, hk⟩
  have HR5 := Lib.hid (rdi_call HR4.out hk)
  replace hG := bel_call hG hk
  have HE := Lib.hid hE
  have HD := Lib.hid hD
  clear hk hE hD
  go_wp2_with fail
  refine (ops_yes [(2, 1, a), (2, 2, ⟨#[102, 101, 100, 99, 98, 97, 57, 56, 55, 54, 53, 52, 51, 50, 49, 48]⟩)] A1 _ 2 _ _ _ (rdn_alloc (by have h := HR5.out; rw [HBB.out] at h; exact h) _) (rdn_new w6 #[.int .i64 2, .int .i64 1, .string a, .int .i64 2, .int .i64 2, .string ⟨#[102, 101, 100, 99, 98, 97, 57, 56, 55, 54, 53, 52, 51, 50, 49, 48]⟩] 45 _ rfl) rfl (by decide)).mono ?_
  rintro e w7 ⟨rfl, hk⟩
  have hk2 := bel_call (bel_alloc (Below.refl w6.heap.size w6) _) hk
  replace hG := bel_call hG hk2
  have HE2 := Lib.hid (rdi_call HE.out hk2)
  have HD2 := Lib.hid (rdi_call HD.out hk2)
  clear hk hk2
  go_wp2_with fail
  refine (errs_calls [0, 170] [0, 170] A2 _ 2 2 _ _ _ (rdn_alloc HE2.out _) (rdn_new w7 #[.int .i64 0, .int .i64 170] 27 _ rfl) rfl rfl (by decide) (by decide)).mono ?_
  rw [decide_eq_true (rfl : ([0, 170] : List Int) = [0, 170])]
  rintro e w8 ⟨rfl, hk⟩
  have hk2 := bel_call (bel_alloc (Below.refl w7.heap.size w7) _) hk
  replace hG := bel_call hG hk2
  have HD3 := Lib.hid (rdi_call HD2.out hk2)
  clear hk hk2
  go_wp2_with fail
  refine (texts20_calls [a, ⟨#[]⟩] [a, ⟨#[]⟩] A3 _ 2 2 _ _ _ (rdn_alloc HD3.out _) (rdn_new w8 #[.string a, .string ⟨#[]⟩] 9 _ rfl) rfl rfl (by decide) (by decide)).mono ?_
  rw [decide_eq_true (rfl : ([a, ⟨#[]⟩] : List ByteArray) = [a, ⟨#[]⟩])]
  rintro e w9 ⟨rfl, hk⟩
  have hk2 := bel_call (bel_alloc (Below.refl w8.heap.size w8) _) hk
  replace hG := bel_call hG hk2
  clear hk hk2
  go_wp2
  go_ret
  exact ⟨by rfl, geo_below hG⟩
end Go.Proofs.Ytekjhhiamboffaa
