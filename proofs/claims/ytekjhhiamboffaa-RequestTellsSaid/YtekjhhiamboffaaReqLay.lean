/-
  The contracts of package request's number, laid and Lay, whatever they are asked. Condition: none but Go's numbers and lengths.
-/
import Derived.Test.YtekjhhiamboffaaReqRight
namespace Go.Proofs.Ytekjhhiamboffaa
open Go.RowKit

theorem fl0 {w w1 : World} {t : Int} {s : ByteArray} (hb : Below (w.alloc (fldBox t s)).heap.size (w.alloc (fldBox t s)) w1) : w1.cell? ⟨w.heap.size, 0, none⟩ = some (.int .i64 t) :=
  (hb.cell (p := ⟨w.heap.size, 0, none⟩) (by simp)).trans (by unfold fldBox; rw [World.cell?_alloc_mark]; rfl)
theorem fl1 {w w1 : World} {t : Int} {s : ByteArray} (hb : Below (w.alloc (fldBox t s)).heap.size (w.alloc (fldBox t s)) w1) : w1.cell? ⟨w.heap.size, 1, none⟩ = some (.string s) :=
  (hb.cell (p := ⟨w.heap.size, 1, none⟩) (by simp)).trans (by unfold fldBox; rw [World.cell?_alloc_mark]; rfl)
theorem flf {w w1 : World} {t : Int} {s : ByteArray} (hb : Below (w.alloc (fldBox t s)).heap.size (w.alloc (fldBox t s)) w1) (j : Nat) : w1.frozen? ⟨w.heap.size, j, none⟩ = false :=
  (hb.frozen (p := ⟨w.heap.size, j, none⟩) (by simp)).trans (by unfold fldBox; rw [World.frozen?_alloc_mark]; simp)

set_option maxHeartbeats 1000000 in
theorem number_yes (t n : Int) (w : World) (hn : numOk n = true) :
    Calls Try.prog 27 #[.int .i64 t, .int .i64 n] w fun e w' => e = .returned (.agg #[.int .i64 t, .string (numB n)]) ∧ Below w.heap.size w w' := by
  obtain ⟨s, hs⟩ : ∃ s, s = numB n := ⟨_, rfl⟩
  rw [← hs]
  have HS : Hid ((⟨(numT n).toArray⟩ : ByteArray) = s) := Lib.hid (by rw [hs]; rfl)
  have HN := Lib.hid hn
  clear hs hn
  go_enter Try.func27, Try.ntmps27
  go_wp2_with (go_at_call 42; (refine (num_yes n _ HN.out).mono ?_); rw [HS.out]; rintro e w1 ⟨rfl, hk⟩; have hb : Below (w.alloc (fldBox 0 ⟨#[]⟩)).heap.size (w.alloc (fldBox 0 ⟨#[]⟩)) w1 := hk; have hc0 := fl0 hb; have hc1 := fl1 hb; have hf0 := flf hb 0; have hf1 := flf hb 1; clear hk)
  have hbw : Below w.heap.size w w1 := bel_call (bel_alloc (Below.refl _ _) _) hb
  refine bodyPost_ret (v := .agg #[.int .i64 t, .string s]) (by simp [results, Try.results27, go_sem, hc0, hc1]) rfl ⟨rfl, ?_⟩
  exact (hbw.setCell (p := ⟨w.heap.size, 0, none⟩) (Nat.le_refl _) _).setCell (p := ⟨w.heap.size, 1, none⟩) (Nat.le_refl _) _
set_option maxHeartbeats 1000000 in
theorem rfield_yes (t n : Int) (w : World) (hn : numOk n = true) :
    Calls Try.prog 30 #[.int .i64 t, .int .i64 n] w fun e w' => e = .returned (.agg #[.int .i64 t, .string (numB n)]) ∧ Below w.heap.size w w' := by
  obtain ⟨s, hs⟩ : ∃ s, s = numB n := ⟨_, rfl⟩
  rw [← hs]
  have HS : Hid ((⟨(numT n).toArray⟩ : ByteArray) = s) := Lib.hid (by rw [hs]; rfl)
  have HN := Lib.hid hn
  clear hs hn
  go_enter Try.func30, Try.ntmps30
  go_wp2_with (go_at_call 43; (refine (rnum_yes n _ HN.out).mono ?_); rw [HS.out]; rintro e w1 ⟨rfl, hk⟩; have hb : Below (w.alloc (fldBox 0 ⟨#[]⟩)).heap.size (w.alloc (fldBox 0 ⟨#[]⟩)) w1 := hk; have hc0 := fl0 hb; have hc1 := fl1 hb; have hf0 := flf hb 0; have hf1 := flf hb 1; clear hk)
  have hbw : Below w.heap.size w w1 := bel_call (bel_alloc (Below.refl _ _) _) hb
  refine bodyPost_ret (v := .agg #[.int .i64 t, .string s]) (by simp [results, Try.results30, go_sem, hc0, hc1]) rfl ⟨rfl, ?_⟩
  exact (hbw.setCell (p := ⟨w.heap.size, 0, none⟩) (Nat.le_refl _) _).setCell (p := ⟨w.heap.size, 1, none⟩) (Nat.le_refl _) _
theorem laid_yes (l : List Fld) (A : Option Addr) (n c : Nat) (s : ByteArray) (w : World) (hr : Rd w w.heap.size A (fldCells l)) (hln : l.length = n) (h64 : n ≤ 64) (hok : allOk l) (hs : s = layB l) :
    Calls Try.prog 26 #[.slice A n c] w fun e w' => e = .returned (.tuple #[.string s, .int .i64 0]) ∧ Below w.heap.size w w' := by
  subst hln
  have HR := Lib.hid hr
  have HO := Lib.hid hok
  have HS := Lib.hid hs
  clear hr hok hs
  go_enter Try.func26, Try.ntmps26
  go_wp2_with (go_at_call 41; (refine (lay_v l A c s _ HS.out h64 HO.out HR.out).mono ?_); rintro e w1 ⟨rfl, hk⟩)
  go_ret2
  exact ⟨rfl, hk⟩
theorem rdn_new (w : World) (cs : Array Value) (t : TypeId) (g : Nat) (hg : w.heap.size = g) : Rd (w.alloc (.cells cs t)) (w.alloc (.cells cs t)).heap.size (some ⟨g, 0, none⟩) cs.toList := by
  subst hg
  have h := Rd.new w cs t (0, 0)
  rw [World.size_alloc]
  exact h

set_option maxHeartbeats 1000000 in
theorem lay20_yes (k a c : Int) (d s : ByteArray) (w : World) (hd : d.size ≤ 140737488351232) (h : ReqP k a c d) (hs : s = layB (reqF k a c d)) :
    Calls Try.prog 9 #[.int .i64 k, .int .i64 a, .int .i64 c, .string d] w fun e w' => e = .returned (.tuple #[.string s, .int .i64 0]) ∧ Below w.heap.size w w' := by
  obtain ⟨n1, n2, n3, -⟩ := req_small h
  have HT := Lib.hid (reqOk_iff.2 h)
  have HO := Lib.hid (reqF_ok h)
  have N1 := Lib.hid n1
  have N2 := Lib.hid n2
  have N3 := Lib.hid n3
  obtain ⟨sk, hsk⟩ : ∃ s, s = numB k := ⟨_, rfl⟩
  obtain ⟨sa, hsa⟩ : ∃ s, s = numB a := ⟨_, rfl⟩
  obtain ⟨sc, hsc⟩ : ∃ s, s = numB c := ⟨_, rfl⟩
  have hF : fldCells (reqF k a c d) = [.int .i64 1, .string sk, .int .i64 2, .string sa, .int .i64 3, .string sc, .int .i64 4, .string d] := by rw [hsk, hsa, hsc]; rfl
  have HK := Lib.hid hsk
  have HA := Lib.hid hsa
  have HC := Lib.hid hsc
  have HF := Lib.hid hF
  have HS := Lib.hid hs
  clear n1 n2 n3 h hF hsk hsa hsc hs
  go_enter Try.func9, Try.ntmps9
  go_wp2_with (first
    | (go_at_call 25; (refine (right20_calls k a c d _ hd).mono ?_); rw [HT.out]; rintro e w' ⟨rfl, rfl⟩)
    | (go_at_call_of 27 (Value.int .i64 1); (refine (number_yes 1 k _ N1.out).mono ?_); rw [← HK.out]; rintro e w1 ⟨rfl, hb⟩)
    | (go_at_call_of 27 (Value.int .i64 2); (refine (number_yes 2 a _ N2.out).mono ?_); rw [← HA.out]; rintro e w2 ⟨rfl, hk⟩; replace hb := bel_call hb hk; clear hk)
    | (go_at_call_of 27 (Value.int .i64 3); (refine (number_yes 3 c _ N3.out).mono ?_); rw [← HC.out]; rintro e w3 ⟨rfl, hk⟩; replace hb := bel_call hb hk; clear hk)
    | (go_at_call 26; (refine (laid_yes (reqF k a c d) _ 4 4 s _ (by rw [HF.out]; exact rdn_new w3 #[.int .i64 1, .string sk, .int .i64 2, .string sa, .int .i64 3, .string sc, .int .i64 4, .string d] 57 _ rfl) rfl (by decide) HO.out HS.out).mono ?_); rintro e w4 ⟨rfl, hk⟩; replace hb := bel_call (bel_alloc hb _) hk; clear hk))
  go_ret2
  exact ⟨rfl, hb⟩
set_option maxHeartbeats 1000000 in
theorem lay20_no (k a c : Int) (d : ByteArray) (w : World) (hd : d.size ≤ 140737488351232) (h : ¬ ReqP k a c d) :
    Calls Try.prog 9 #[.int .i64 k, .int .i64 a, .int .i64 c, .string d] w fun e w' => e = .returned (.tuple #[.string ⟨#[]⟩, .int .i64 200]) ∧ Below w.heap.size w w' := by
  have HT := Lib.hid (reqOk_no h)
  clear h
  go_enter Try.func9, Try.ntmps9
  go_wp2_with (go_at_call 25; (refine (right20_calls k a c d _ hd).mono ?_); rw [HT.out]; rintro e w' ⟨rfl, rfl⟩)
  go_ret2
  exact ⟨rfl, Below.refl _ _⟩
theorem lay20_calls (k a c : Int) (d : ByteArray) (w : World) (hd : d.size ≤ 140737488351232) :
    Calls Try.prog 9 #[.int .i64 k, .int .i64 a, .int .i64 c, .string d] w fun e w' => e = .returned (.tuple #[.string (reqB k a c d), .int .i64 (reqE k a c d)]) ∧ Below w.heap.size w w' := by
  by_cases h : ReqP k a c d
  · rw [(reqB_yes h).1, (reqB_yes h).2]; exact lay20_yes k a c d _ w hd h rfl
  · rw [(reqB_no h).1, (reqB_no h).2]; exact lay20_no k a c d w hd h
theorem rlay_v (l : List Fld) (A : Option Addr) (n c : Nat) (s : ByteArray) (w : World) (hr : Rd w w.heap.size A (fldCells l)) (hln : l.length = n) (h64 : n ≤ 64) (hok : allOk l) (hs : s = layB l) :
    Calls Try.prog 29 #[.slice A n c] w fun e w' => e = .returned (.tuple #[.string s, .int .i64 0]) ∧ Below w.heap.size w w' := by
  have h := rlay_calls l A n c w hr hln
  have hk := layOk_iff.2 ⟨by rw [hln]; exact h64, hok⟩
  unfold layT layE at h
  rw [if_pos hk, if_pos hk] at h
  rw [hs]
  exact h
set_option maxHeartbeats 1000000 in
theorem rlay20_yes (k a c : Int) (d s : ByteArray) (w : World) (hd : d.size ≤ 140737488351232) (h : ReqP k a c d) (hs : s = layB (reqF k a c d)) :
    Calls Try.prog 10 #[.int .i64 k, .int .i64 a, .int .i64 c, .string d] w fun e w' => e = .returned (.tuple #[.string s, .int .i64 0]) ∧ Below w.heap.size w w' := by
  obtain ⟨n1, n2, n3, -⟩ := req_small h
  have HT := Lib.hid (reqOk_iff.2 h)
  have HO := Lib.hid (reqF_ok h)
  have N1 := Lib.hid n1
  have N2 := Lib.hid n2
  have N3 := Lib.hid n3
  obtain ⟨sk, hsk⟩ : ∃ s, s = numB k := ⟨_, rfl⟩
  obtain ⟨sa, hsa⟩ : ∃ s, s = numB a := ⟨_, rfl⟩
  obtain ⟨sc, hsc⟩ : ∃ s, s = numB c := ⟨_, rfl⟩
  have hF : fldCells (reqF k a c d) = [.int .i64 1, .string sk, .int .i64 2, .string sa, .int .i64 3, .string sc, .int .i64 4, .string d] := by rw [hsk, hsa, hsc]; rfl
  have HK := Lib.hid hsk
  have HA := Lib.hid hsa
  have HC := Lib.hid hsc
  have HF := Lib.hid hF
  have HS := Lib.hid hs
  clear n1 n2 n3 h hF hsk hsa hsc hs
  go_enter Try.func10, Try.ntmps10
  go_wp2_with (first
    | (go_at_call 28; (refine (rright20_calls k a c d _ hd).mono ?_); rw [HT.out]; rintro e w' ⟨rfl, rfl⟩)
    | (go_at_call_of 30 (Value.int .i64 1); (refine (rfield_yes 1 k _ N1.out).mono ?_); rw [← HK.out]; rintro e w1 ⟨rfl, hb⟩)
    | (go_at_call_of 30 (Value.int .i64 2); (refine (rfield_yes 2 a _ N2.out).mono ?_); rw [← HA.out]; rintro e w2 ⟨rfl, hk⟩; replace hb := bel_call hb hk; clear hk)
    | (go_at_call_of 30 (Value.int .i64 3); (refine (rfield_yes 3 c _ N3.out).mono ?_); rw [← HC.out]; rintro e w3 ⟨rfl, hk⟩; replace hb := bel_call hb hk; clear hk)
    | (go_at_call 29; (refine (rlay_v (reqF k a c d) _ 4 4 s _ (by rw [HF.out]; exact rdn_new w3 #[.int .i64 1, .string sk, .int .i64 2, .string sa, .int .i64 3, .string sc, .int .i64 4, .string d] 57 _ rfl) rfl (by decide) HO.out HS.out).mono ?_); rintro e w4 ⟨rfl, hk⟩; replace hb := bel_call (bel_alloc hb _) hk; clear hk))
  go_ret2
  exact ⟨rfl, hb⟩
set_option maxHeartbeats 1000000 in
theorem rlay20_no (k a c : Int) (d : ByteArray) (w : World) (hd : d.size ≤ 140737488351232) (h : ¬ ReqP k a c d) :
    Calls Try.prog 10 #[.int .i64 k, .int .i64 a, .int .i64 c, .string d] w fun e w' => e = .returned (.tuple #[.string ⟨#[]⟩, .int .i64 200]) ∧ Below w.heap.size w w' := by
  have HT := Lib.hid (reqOk_no h)
  clear h
  go_enter Try.func10, Try.ntmps10
  go_wp2_with (go_at_call 28; (refine (rright20_calls k a c d _ hd).mono ?_); rw [HT.out]; rintro e w' ⟨rfl, rfl⟩)
  go_ret2
  exact ⟨rfl, Below.refl _ _⟩
theorem rlay20_calls (k a c : Int) (d : ByteArray) (w : World) (hd : d.size ≤ 140737488351232) :
    Calls Try.prog 10 #[.int .i64 k, .int .i64 a, .int .i64 c, .string d] w fun e w' => e = .returned (.tuple #[.string (reqB k a c d), .int .i64 (reqE k a c d)]) ∧ Below w.heap.size w w' := by
  by_cases h : ReqP k a c d
  · rw [(reqB_yes h).1, (reqB_yes h).2]; exact rlay20_yes k a c d _ w hd h rfl
  · rw [(reqB_no h).1, (reqB_no h).2]; exact rlay20_no k a c d w hd h
end Go.Proofs.Ytekjhhiamboffaa
