/-
  Requests and answers without the program: which may be, how they are laid, what is taken up. No condition.
-/
import Derived.Test.YtekjhhiamboffaaTlvLaws
namespace Go.Proofs.Ytekjhhiamboffaa
open Go.RowKit

/-- may a request be? -/
def ReqP (k a c : Int) (d : ByteArray) : Prop := (0 ≤ a ∧ a ≤ 1099511627776) ∧ ((k = 1 ∧ 1 ≤ c ∧ c ≤ 4 ∧ d.size = 0) ∨ (k = 2 ∧ 1 ≤ c ∧ c ≤ 4 ∧ (d.size : Int) = 16 * c) ∨ (k = 3 ∧ c = 1 ∧ d.size = 0))
def reqOk (k a c : Int) (d : ByteArray) : Bool := decide ((0 ≤ a ∧ a ≤ 1099511627776) ∧ ((k = 1 ∧ 1 ≤ c ∧ c ≤ 4 ∧ d.size = 0) ∨ (k = 2 ∧ 1 ≤ c ∧ c ≤ 4 ∧ (d.size : Int) = 16 * c) ∨ (k = 3 ∧ c = 1 ∧ d.size = 0)))
theorem reqOk_iff {k a c : Int} {d : ByteArray} : reqOk k a c d = true ↔ ReqP k a c d := decide_eq_true_iff
theorem reqOk_no {k a c : Int} {d : ByteArray} (h : ¬ ReqP k a c d) : reqOk k a c d = false := decide_eq_false h
/-- a number's text -/
def numB (n : Int) : ByteArray := ⟨(numT n).toArray⟩
theorem numB_list (n : Int) : (numB n).data.toList = numT n := toList_mk _
theorem numB_size (n : Int) : (numB n).size ≤ 6 := by
  have := numT_len n
  rw [numB, size_mk]
  exact this
/-- a request's fields -/
def reqF (k a c : Int) (d : ByteArray) : List Fld := [(1, numB k), (2, numB a), (3, numB c), (4, d)]
theorem req_small {k a c : Int} {d : ByteArray} (h : ReqP k a c d) : numOk k = true ∧ numOk a = true ∧ numOk c = true ∧ d.size ≤ 64 ∧ 1 ≤ k ∧ k ≤ 3 ∧ 1 ≤ c ∧ c ≤ 4 := by
  obtain ⟨⟨h1, h2⟩, h3⟩ := h
  simp only [numOk_iff]
  omega
theorem reqF_ok {k a c : Int} {d : ByteArray} (h : ReqP k a c d) : allOk (reqF k a c d) := by
  obtain ⟨h1, h2, h3, h4, -⟩ := req_small h
  intro f hf
  simp only [reqF, List.mem_cons, List.not_mem_nil, or_false] at hf
  have e1 := numB_size k
  have e2 := numB_size a
  have e3 := numB_size c
  rcases hf with rfl | rfl | rfl | rfl <;> rw [okF_iff]
  · exact ⟨show (1 : Int) ≤ 1 by decide, show (1 : Int) ≤ 255 by decide, show (numB k).size ≤ 400 by omega⟩
  · exact ⟨show (1 : Int) ≤ 2 by decide, show (2 : Int) ≤ 255 by decide, show (numB a).size ≤ 400 by omega⟩
  · exact ⟨show (1 : Int) ≤ 3 by decide, show (3 : Int) ≤ 255 by decide, show (numB c).size ≤ 400 by omega⟩
  · exact ⟨show (1 : Int) ≤ 4 by decide, show (4 : Int) ≤ 255 by decide, show d.size ≤ 400 by omega⟩
/-- a request as bytes -/
def layB (l : List Fld) : ByteArray := ⟨(layL l).toArray⟩
theorem layB_list (l : List Fld) : (layB l).data.toList = layL l := toList_mk _
theorem ba_eq {a b : ByteArray} (h : a.data.toList = b.data.toList) : a = b := by
  cases a; cases b
  simp only [ByteArray.mk.injEq]
  exact Array.toList_inj.1 h
theorem layB_of {s : ByteArray} {l : List Fld} (h : layL l = s.data.toList) : s = layB l := ba_eq (by rw [layB_list, h])
def reqB (k a c : Int) (d : ByteArray) : ByteArray := if reqOk k a c d then layB (reqF k a c d) else ⟨#[]⟩
def reqE (k a c : Int) (d : ByteArray) : Int := if reqOk k a c d then 0 else 200
theorem reqB_yes {k a c : Int} {d : ByteArray} (h : ReqP k a c d) : reqB k a c d = layB (reqF k a c d) ∧ reqE k a c d = 0 := by
  have h' := reqOk_iff.2 h
  unfold reqB reqE
  rw [if_pos h', if_pos h']
  exact ⟨rfl, rfl⟩
theorem reqB_no {k a c : Int} {d : ByteArray} (h : ¬ ReqP k a c d) : reqB k a c d = ⟨#[]⟩ ∧ reqE k a c d = 200 := by
  have h' := reqOk_no h
  unfold reqB reqE
  rw [h', if_neg (by simp), if_neg (by simp)]
  exact ⟨rfl, rfl⟩
/-- is a text a request? -/
def IsReq (s : ByteArray) : Prop := ∃ k a c d, ReqP k a c d ∧ s = layB (reqF k a c d)
theorem take_of_lay {l : List Fld} (h : allOk l) (hl : l.length ≤ 64) : takeF (layB l).data.toList = l ∧ takeE (layB l).data.toList = 0 := by
  rw [layB_list]
  unfold takeF takeE
  rw [takeL_lay h hl]
  exact ⟨rfl, rfl⟩
theorem take_ok {s : ByteArray} (h : takeE s.data.toList = 0) : layL (takeF s.data.toList) = s.data.toList ∧ allOk (takeF s.data.toList) ∧ (takeF s.data.toList).length ≤ 64 := by
  unfold takeE at h
  cases ht : takeL 64 s.data.toList with
  | none => rw [ht] at h; simp at h
  | some l =>
    have := takeL_sound ht
    unfold takeF
    rw [ht]
    exact this
theorem take_e (s : List UInt8) : takeE s = 0 ∨ (takeE s = 30 ∧ takeF s = []) := by
  unfold takeE takeF
  cases takeL 64 s with
  | none => right; exact ⟨rfl, rfl⟩
  | some l => left; rfl
theorem get_numB {n : Int} (h : numOk n = true) : getN (numB n).data.toList = n ∧ getE (numB n).data.toList = 0 := by
  rw [numB_list]
  obtain ⟨h1, h2⟩ := get_num h
  refine ⟨h2, ?_⟩
  unfold getE
  rw [if_pos h1]
theorem get_e (l : List UInt8) : getE l = 0 ∨ getE l = 30 := by unfold getE; split <;> simp
theorem getN_bd (l : List UInt8) : -1 ≤ getN l ∧ getN l ≤ 1099511627776 := by
  unfold getN
  by_cases h : getOk l = true
  · rw [if_pos h]
    have := (getOk_iff.1 h).2.2
    omega
  · rw [if_neg h]; omega
/-- what a request's text is taken up as -/
theorem req_take {k a c : Int} {d s : ByteArray} (h : ReqP k a c d) (hs : s = layB (reqF k a c d)) : takeF s.data.toList = reqF k a c d ∧ takeE s.data.toList = 0 := by
  subst hs
  exact take_of_lay (reqF_ok h) (by simp [reqF])
/-- a text of four fields, the first three of them numbers: a request, if it is laid so again -/
theorem req_again {s t0 t1 t2 d : ByteArray} {i0 i1 i2 i3 : Int} (hF : takeF s.data.toList = [(i0, t0), (i1, t1), (i2, t2), (i3, d)]) :
    IsReq s ↔ (getE t0.data.toList = 0 ∧ getE t1.data.toList = 0 ∧ getE t2.data.toList = 0 ∧ ReqP (getN t0.data.toList) (getN t1.data.toList) (getN t2.data.toList) d ∧ layB (reqF (getN t0.data.toList) (getN t1.data.toList) (getN t2.data.toList) d) = s) := by
  constructor
  · rintro ⟨k, a, c, d', h, hs⟩
    obtain ⟨h1, h2⟩ := req_take h hs
    rw [hF] at h1
    simp only [reqF, List.cons.injEq, Prod.mk.injEq, and_true] at h1
    obtain ⟨⟨-, rfl⟩, ⟨-, rfl⟩, ⟨-, rfl⟩, -, rfl⟩ := h1
    obtain ⟨n1, n2, n3, -⟩ := req_small h
    rw [(get_numB n1).1, (get_numB n2).1, (get_numB n3).1]
    exact ⟨(get_numB n1).2, (get_numB n2).2, (get_numB n3).2, h, hs.symm⟩
  · rintro ⟨-, -, -, h, hs⟩
    exact ⟨_, _, _, _, h, hs.symm⟩
theorem req_four {s : ByteArray} (h : IsReq s) : takeE s.data.toList = 0 ∧ (takeF s.data.toList).length = 4 := by
  obtain ⟨k, a, c, d, h, hs⟩ := h
  obtain ⟨h1, h2⟩ := req_take h hs
  exact ⟨h2, by rw [h1]; rfl⟩
theorem four_of {l : List Fld} (h : l.length = 4) : ∃ i0 t0 i1 t1 i2 t2 i3 d, l = [(i0, t0), (i1, t1), (i2, t2), (i3, d)] := by
  match l, h with
  | [(i0, t0), (i1, t1), (i2, t2), (i3, d)], _ => exact ⟨i0, t0, i1, t1, i2, t2, i3, d, rfl⟩
theorem layB_inj {a b : List Fld} (ha : allOk a) (hb : allOk b) (h1 : a.length ≤ 64) (h2 : b.length ≤ 64) (h : layB a = layB b) : a = b :=
  lay_inj ha hb h1 h2 (by rw [← layB_list, ← layB_list, h])
/-- no beginning of a request is one, nor anything behind it -/
theorem req_prefix {s t : ByteArray} {r : List UInt8} (hs : IsReq s) (ht : IsReq t) (h : s.data.toList ++ r = t.data.toList) : r = [] := by
  obtain ⟨k, a, c, d, h1, rfl⟩ := hs
  obtain ⟨k', a', c', d', h2, rfl⟩ := ht
  rw [layB_list, layB_list] at h
  obtain ⟨e, -⟩ := lay_prefix (reqF_ok h1) (reqF_ok h2) h
  have e2 : (reqF k' a' c' d').take (reqF k a c d).length = reqF k' a' c' d' := rfl
  rw [e2] at e
  rw [e] at h
  have := congrArg List.length h
  simp at this
  exact this
end Go.Proofs.Ytekjhhiamboffaa
