/-
  The plain law of layer 1: texts put together bit by bit, as lists of bytes. No program in sight; no condition.
-/
import Derived.Test.YtekjhhiamboffaaWords
import Derived.Lib.Bytes
import Derived.Lib.SmallJoins
namespace Go.Proofs.Ytekjhhiamboffaa

def xorL (a b : List UInt8) : List UInt8 := List.zipWith (· ^^^ ·) a b
/-- two texts put together -/
def xorB (a b : ByteArray) : ByteArray := ⟨(xorL a.data.toList b.data.toList).toArray⟩
/-- many -/
def foldX (first : ByteArray) (l : List ByteArray) : ByteArray := l.foldl xorB first

theorem xorL_length (a b : List UInt8) : (xorL a b).length = min a.length b.length := by simp [xorL]
theorem xorB_toList (a b : ByteArray) : (xorB a b).data.toList = xorL a.data.toList b.data.toList := by simp [xorB]
theorem xorB_size (a b : ByteArray) : (xorB a b).size = min a.size b.size := by
  rw [← byteList_size, xorB_toList, xorL_length, byteList_size, byteList_size]
theorem foldX_cons (a b : ByteArray) (l : List ByteArray) : foldX a (b :: l) = foldX (xorB a b) l := rfl
theorem foldX_nil (a : ByteArray) : foldX a [] = a := rfl
theorem foldX_append (a : ByteArray) (l m : List ByteArray) : foldX a (l ++ m) = foldX (foldX a l) m := by simp [foldX, List.foldl_append]
theorem foldX_size (a : ByteArray) (l : List ByteArray) (h : ∀ s ∈ l, s.size = a.size) : (foldX a l).size = a.size := by
  induction l generalizing a with
  | nil => rfl
  | cons b l ih =>
    rw [foldX_cons, ih, xorB_size, h b (by simp)]
    · omega
    · intro s hs
      rw [xorB_size, h s (by simp [hs]), h b (by simp)]
      omega

theorem ba_ext {a b : ByteArray} (h : a.data.toList = b.data.toList) : a = b := by
  cases a; cases b
  simp only [ByteArray.mk.injEq]
  exact Array.toList_inj.1 h

theorem xorL_get (a b : List UInt8) (i : Nat) : (xorL a b)[i]? = match a[i]?, b[i]? with | some x, some y => some (x ^^^ y) | _, _ => none := by
  unfold xorL
  rw [List.getElem?_zipWith]
  cases a[i]? <;> cases b[i]? <;> rfl

theorem xorL_comm (a b : List UInt8) : xorL a b = xorL b a := by
  unfold xorL
  rw [List.zipWith_comm]
  congr 1
  funext x y
  exact UInt8.xor_comm y x
theorem xorL_assoc : ∀ (a b c : List UInt8), xorL (xorL a b) c = xorL a (xorL b c)
  | [], b, c => by simp [xorL]
  | x :: a, [], c => by simp [xorL]
  | x :: a, y :: b, [] => by simp [xorL]
  | x :: a, y :: b, z :: c => by
    have := xorL_assoc a b c
    simp only [xorL, List.zipWith_cons_cons, List.cons.injEq] at this ⊢
    exact ⟨UInt8.xor_assoc x y z, this⟩
theorem xorL_self (a : List UInt8) : xorL a a = List.replicate a.length 0 := by
  induction a with
  | nil => rfl
  | cons x a ih =>
    simp only [xorL, List.zipWith_cons_cons, List.length_cons, List.replicate_succ, UInt8.xor_self] at ih ⊢
    rw [ih]
theorem xorL_zero (a : List UInt8) (n : Nat) (h : a.length ≤ n) : xorL a (List.replicate n 0) = a := by
  induction a generalizing n with
  | nil => simp [xorL]
  | cons x a ih =>
    cases n with
    | zero => simp at h
    | succ n =>
      simp only [xorL, List.replicate_succ, List.zipWith_cons_cons, UInt8.xor_zero] at ih ⊢
      rw [ih n (by simpa using h)]

theorem xorB_comm (a b : ByteArray) : xorB a b = xorB b a := ba_ext (by rw [xorB_toList, xorB_toList, xorL_comm])
theorem xorB_assoc (a b c : ByteArray) : xorB (xorB a b) c = xorB a (xorB b c) := ba_ext (by simp only [xorB_toList, xorL_assoc])
theorem xorB_right_comm (a b c : ByteArray) : xorB (xorB a b) c = xorB (xorB a c) b := by rw [xorB_assoc, xorB_comm b c, ← xorB_assoc]

/-- so many noughts -/
def zeroB (n : Nat) : ByteArray := ⟨(List.replicate n 0).toArray⟩
theorem zeroB_size (n : Nat) : (zeroB n).size = n := by rw [zeroB, size_mk, List.length_replicate]
theorem xorB_self (a : ByteArray) : xorB a a = zeroB a.size := ba_ext (by rw [xorB_toList, xorL_self, byteList_size]; simp [zeroB])
theorem xorB_zero (a : ByteArray) (n : Nat) (h : a.size ≤ n) : xorB a (zeroB n) = a := ba_ext (by
  rw [xorB_toList]
  have : (zeroB n).data.toList = List.replicate n 0 := by simp [zeroB]
  rw [this, xorL_zero _ _ (by rw [byteList_size]; exact h)])
/-- a ^ b ^ b = a -/
theorem xorB_cancel (a b : ByteArray) (h : a.size ≤ b.size) : xorB (xorB a b) b = a := by rw [xorB_assoc, xorB_self, xorB_zero a _ h]

theorem foldX_xor (a b : ByteArray) (l : List ByteArray) : foldX (xorB a b) l = xorB (foldX a l) b := by
  induction l generalizing a with
  | nil => rfl
  | cons c l ih => rw [foldX_cons, foldX_cons, xorB_right_comm, ih]
theorem foldX_perm {l m : List ByteArray} (h : l.Perm m) (a : ByteArray) : foldX a l = foldX a m := by
  induction h generalizing a with
  | nil => rfl
  | cons x _ ih => rw [foldX_cons, foldX_cons, ih]
  | swap x y l => rw [foldX_cons, foldX_cons, foldX_cons, foldX_cons, xorB_right_comm]
  | trans _ _ h1 h2 => rw [h1, h2]

/-- what Missing answers: the text, and the error's number -/
def missR (first : ByteArray) (rest : List ByteArray) : ByteArray × Int :=
  if ∀ s ∈ rest, s.size = first.size then (foldX first rest, 0) else (⟨#[]⟩, 10)
def twoR (a b : ByteArray) : ByteArray × Int := if a.size = b.size then (xorB a b, 0) else (⟨#[]⟩, 10)
def allR : List ByteArray → ByteArray × Int
  | [] => (⟨#[]⟩, 10)
  | a :: l => missR a l
def movedR (all old now : ByteArray) : ByteArray × Int := if old.size = all.size ∧ now.size = all.size then (xorB (xorB all old) now, 0) else (⟨#[]⟩, 10)

theorem missR_ok {first : ByteArray} {rest : List ByteArray} (h : ∀ s ∈ rest, s.size = first.size) : missR first rest = (foldX first rest, 0) := if_pos h
theorem missR_no {first : ByteArray} {rest : List ByteArray} (h : ¬ ∀ s ∈ rest, s.size = first.size) : missR first rest = (⟨#[]⟩, 10) := if_neg h

/-- the sum of texts, all of one length n -/
def sumX (n : Nat) (l : List ByteArray) : ByteArray := foldX (zeroB n) l
theorem sumX_cons (n : Nat) (a : ByteArray) (l : List ByteArray) (h : a.size = n) : sumX n (a :: l) = foldX a l := by
  unfold sumX
  rw [foldX_cons, xorB_comm, xorB_zero a n (by omega)]
theorem allR_ok {n : Nat} {l : List ByteArray} (h0 : l ≠ []) (h : ∀ s ∈ l, s.size = n) : allR l = (sumX n l, 0) := by
  cases l with
  | nil => exact absurd rfl h0
  | cons a l =>
    have ha := h a (by simp)
    rw [sumX_cons n a l ha]
    exact missR_ok fun s hs => by rw [h s (by simp [hs]), ha]
theorem sumX_size {n : Nat} {l : List ByteArray} (h : ∀ s ∈ l, s.size = n) : (sumX n l).size = n := by
  unfold sumX
  rw [foldX_size _ _ (fun s hs => by rw [h s hs, zeroB_size]), zeroB_size]
theorem sumX_append (n : Nat) (l m : List ByteArray) : sumX n (l ++ m) = foldX (sumX n l) m := foldX_append _ _ _
theorem sumX_perm (n : Nat) {l m : List ByteArray} (h : l.Perm m) : sumX n l = sumX n m := foldX_perm h _

theorem missR_snoc {first x : ByteArray} {l : List ByteArray} (h : ∀ s ∈ l, s.size = first.size) : missR first (l ++ [x]) = twoR (foldX first l) x := by
  have hf := foldX_size first l h
  unfold twoR
  by_cases hx : x.size = first.size
  · rw [if_pos (by omega), missR_ok (by
      intro s hs
      rcases List.mem_append.1 hs with h' | h'
      · exact h s h'
      · rw [List.mem_singleton.1 h']; exact hx), foldX_append]
    rfl
  · rw [if_neg (by omega), missR_no (fun h' => hx (h' x (by simp)))]
theorem missR_more {first : ByteArray} {l : List ByteArray} {k : Nat} (h : ¬ ∀ s ∈ l.take k, s.size = first.size) : missR first l = (⟨#[]⟩, 10) :=
  missR_no fun h' => h fun s hs => h' s (List.mem_of_mem_take hs)

theorem mixStep (acc s : List UInt8) (m : Nat) (x y : UInt8) (hx : acc[m]? = some x) (hy : s[m]? = some y) :
    ((xorL acc s).take m ++ acc.drop m).set m (x ^^^ y) = (xorL acc s).take (m + 1) ++ acc.drop (m + 1) := by
  have h1 := (List.getElem?_eq_some_iff.1 hx).1
  have h2 := (List.getElem?_eq_some_iff.1 hy).1
  have hz : (xorL acc s)[m]? = some (x ^^^ y) := by rw [xorL_get, hx, hy]
  have hl : ((xorL acc s).take m).length = m := by rw [List.length_take, xorL_length]; omega
  rw [List.set_append, if_neg (by omega), hl, Nat.sub_self]
  have h3 : acc.drop m = x :: acc.drop (m + 1) := by
    rw [List.drop_eq_getElem_cons h1]
    congr 1
    rw [List.getElem?_eq_getElem h1] at hx
    exact Option.some.inj hx
  rw [h3, List.set_cons_zero, List.take_add_one, hz]
  simp
theorem mixAt (acc s : List UInt8) (m : Nat) (x : UInt8) (hx : acc[m]? = some x) (hs : m < s.length) : ((xorL acc s).take m ++ acc.drop m)[m]? = some x := by
  have h1 := (List.getElem?_eq_some_iff.1 hx).1
  have hl : ((xorL acc s).take m).length = m := by rw [List.length_take, xorL_length]; omega
  rw [List.getElem?_append_right (by omega), hl, Nat.sub_self, List.getElem?_drop]
  simpa using hx
theorem u8xor (x y : UInt8) : bits .xor .u8 (x.toNat : Int) (y.toNat : Int) = ((x ^^^ y).toNat : Int) := by
  rw [u8_xor_nat _ _ x.toNat_lt y.toNat_lt, UInt8.toNat_xor]


theorem extract_size (s : ByteArray) (n : Nat) (h : n ≤ s.size) : (s.extract 0 n).size = n := by
  rw [ByteArray.size_extract]; omega
theorem sz_xor {a b : ByteArray} {n : Nat} (ha : a.size = n) (hb : b.size = n) : (xorB a b).size = n := by rw [xorB_size]; omega
theorem toList_inj {x y : ByteArray} (h : x.toList = y.toList) : x = y := by
  rw [Lib.toList_data, Lib.toList_data] at h
  exact ba_ext h
theorem sumX_turn (n : Nat) (L : List ByteArray) (k : Nat) : sumX n (L.drop k ++ L.take k) = sumX n L := by
  have h : (L.drop k ++ L.take k).Perm (L.take k ++ L.drop k) := List.perm_append_comm
  rw [sumX_perm n h, List.take_append_drop]
theorem sumX_twice {n : Nat} {L : List ByteArray} {x : ByteArray} (h : ∀ s ∈ L, s.size = n) (hx : x.size = n) : sumX n (L ++ [x, x]) = sumX n L := by
  rw [sumX_append]
  show xorB (xorB (sumX n L) x) x = _
  exact xorB_cancel _ _ (by rw [sumX_size h, hx]; exact Nat.le_refl _)

theorem zeroB_xor {a : ByteArray} {n : Nat} (h : a.size = n) : xorB (zeroB n) a = a := by rw [xorB_comm]; exact xorB_zero a n (by omega)
theorem sumX_parity {n : Nat} {L : List ByteArray} (h : ∀ s ∈ L, s.size = n) : sumX n (L ++ [sumX n L]) = zeroB n := by
  rw [sumX_append]
  show xorB (sumX n L) (sumX n L) = _
  rw [xorB_self, sumX_size h]
theorem foldX_sum {n : Nat} {L : List ByteArray} (a : ByteArray) (ha : a.size = n) : foldX a L = xorB (sumX n L) a := by
  have h := foldX_xor (zeroB n) a L
  rw [zeroB_xor ha] at h
  exact h
theorem perm_eraseIdx (L : List ByteArray) (k : Nat) (x : ByteArray) (hx : L[k]? = some x) : L.Perm (x :: L.eraseIdx k) := by
  have hk := (List.getElem?_eq_some_iff.1 hx).1
  have hv := (List.getElem?_eq_some_iff.1 hx).2
  rw [List.eraseIdx_eq_take_drop_succ]
  have e : L = L.take k ++ x :: L.drop (k + 1) := by
    conv => lhs; rw [← List.take_append_drop k L]
    rw [List.drop_eq_getElem_cons hk, hv]
  conv => lhs; rw [e]
  exact List.perm_middle
/-- Missing of the parity and all texts but one is that one -/
theorem miss_one {n : Nat} {L : List ByteArray} {k : Nat} {x : ByteArray} (h : ∀ s ∈ L, s.size = n) (hx : L[k]? = some x) : missR (sumX n L) (L.eraseIdx k) = (x, 0) := by
  have hxs : x.size = n := h x (List.mem_of_getElem? hx)
  have hr : ∀ s ∈ L.eraseIdx k, s.size = n := fun s hs => h s (List.mem_of_mem_eraseIdx hs)
  rw [missR_ok (fun s hs => by rw [hr s hs, sumX_size h])]
  congr 1
  rw [foldX_sum _ (sumX_size h), sumX_perm n (perm_eraseIdx L k x hx), sumX_cons n x _ hxs, foldX_sum x hxs, ← xorB_assoc, xorB_self, sumX_size hr, zeroB_xor hxs]
/-- the texts ahead of j, but k -/
def restL (L : List ByteArray) (k j : Nat) : List ByteArray := (L.take j).eraseIdx k
theorem restL_skip (L : List ByteArray) (k : Nat) : restL L k (k + 1) = restL L k k := by
  unfold restL
  rw [List.eraseIdx_eq_take_drop_succ, List.eraseIdx_eq_take_drop_succ, List.take_take, List.take_take, List.drop_take, List.drop_take]
  simp
theorem restL_more {L : List ByteArray} {k j : Nat} {x : ByteArray} (hx : L[j]? = some x) (hne : j ≠ k) : restL L k (j + 1) = restL L k j ++ [x] := by
  unfold restL
  have hj := (List.getElem?_eq_some_iff.1 hx).1
  have hv := (List.getElem?_eq_some_iff.1 hx).2
  rw [List.take_succ_eq_append_getElem hj, hv]
  rcases Nat.lt_or_ge k j with h | h
  · rw [List.eraseIdx_append_of_lt_length (by rw [List.length_take]; omega)]
  · rw [List.eraseIdx_of_length_le (by rw [List.length_append, List.length_take]; simp; omega), List.eraseIdx_of_length_le (by rw [List.length_take]; omega)]
theorem restL_all {L : List ByteArray} {k j : Nat} (h : L.length ≤ j) : restL L k j = L.eraseIdx k := by
  unfold restL
  rw [List.take_of_length_le h]
theorem restL_length (L : List ByteArray) (k j : Nat) : (restL L k j).length ≤ L.length := by
  unfold restL
  rw [List.length_eraseIdx]
  split <;> rw [List.length_take] <;> omega

theorem xorB_append {a1 a2 b1 b2 : ByteArray} (h : a1.size = b1.size) : xorB (a1 ++ a2) (b1 ++ b2) = xorB a1 b1 ++ xorB a2 b2 := by
  apply ba_ext
  rw [xorB_toList, Joins.data_append, Joins.data_append, Joins.data_append, xorB_toList, xorB_toList]
  unfold xorL
  rw [List.zipWith_append (by rw [byteList_size, byteList_size, h])]
def cutL (c : Nat) (s : ByteArray) : ByteArray := s.extract 0 c
def cutR (c : Nat) (s : ByteArray) : ByteArray := s.extract c s.size
theorem cutL_size {s : ByteArray} {c : Nat} (h : c ≤ s.size) : (cutL c s).size = c := extract_size s c h
theorem cutR_size (s : ByteArray) (c : Nat) : (cutR c s).size = s.size - c := by
  unfold cutR
  rw [ByteArray.size_extract]
  omega
theorem cut_both (s : ByteArray) (c : Nat) : cutL c s ++ cutR c s = s := by
  apply ba_ext
  rw [Joins.data_append]
  unfold cutL cutR
  simp only [ByteArray.data_extract, Array.toList_extract, List.extract_eq_take_drop]
  have e : s.size = s.data.toList.length := (byteList_size s).symm
  rw [List.drop_zero, Nat.sub_zero, List.take_of_length_le (l := List.drop c s.data.toList) (by rw [List.length_drop]; omega), List.take_append_drop]
theorem foldX_cut {c : Nat} : ∀ (L : List ByteArray) (a1 a2 : ByteArray), a1.size = c → (∀ s ∈ L, c ≤ s.size) → foldX (a1 ++ a2) L = foldX a1 (L.map (cutL c)) ++ foldX a2 (L.map (cutR c))
  | [], _, _, _, _ => rfl
  | s :: L, a1, a2, h, hL => by
    have hs := cutL_size (hL s (by simp))
    rw [List.map_cons, List.map_cons, foldX_cons, foldX_cons, foldX_cons, ← foldX_cut L _ _ (sz_xor h hs) (fun t ht => hL t (by simp [ht])), ← xorB_append (by rw [h, hs]), cut_both]
theorem zeroB_append (a b : Nat) : zeroB a ++ zeroB b = zeroB (a + b) := by
  apply ba_ext
  rw [Joins.data_append]
  simp [zeroB]
theorem sumX_cut {n c : Nat} {L : List ByteArray} (h : ∀ s ∈ L, s.size = n) (hc : c ≤ n) : sumX c (L.map (cutL c)) ++ sumX (n - c) (L.map (cutR c)) = sumX n L := by
  unfold sumX
  rw [← foldX_cut L _ _ (zeroB_size c) (fun s hs => by rw [h s hs]; exact hc), zeroB_append, Nat.add_sub_cancel' hc]

theorem sumX_split {n : Nat} {L : List ByteArray} {k : Nat} {x : ByteArray} (h : ∀ s ∈ L, s.size = n) (hx : L[k]? = some x) : sumX n L = xorB (sumX n (L.eraseIdx k)) x := by
  have hxs : x.size = n := h x (List.mem_of_getElem? hx)
  rw [sumX_perm n (perm_eraseIdx L k x hx), sumX_cons n x _ hxs, foldX_sum x hxs]
/-- Moved of the parity is the parity of the texts, one of which is another one -/
theorem sumX_moved {n : Nat} {L : List ByteArray} {k : Nat} {x y : ByteArray} (h : ∀ s ∈ L, s.size = n) (hx : L[k]? = some x) (hy : y.size = n) : xorB (xorB (sumX n L) x) y = sumX n (L.set k y) := by
  have hk := (List.getElem?_eq_some_iff.1 hx).1
  have hxs : x.size = n := h x (List.mem_of_getElem? hx)
  have hs : ∀ s ∈ L.set k y, s.size = n := fun s hs => by
    rcases List.mem_or_eq_of_mem_set hs with h' | h'
    · exact h s h'
    · rw [h']; exact hy
  have hr : ∀ s ∈ L.eraseIdx k, s.size = n := fun s hs => h s (List.mem_of_mem_eraseIdx hs)
  rw [sumX_split hs (List.getElem?_set_self hk), List.eraseIdx_set_eq, sumX_split h hx, xorB_cancel _ _ (by rw [sumX_size hr, hxs]; exact Nat.le_refl _)]
theorem set_size {n : Nat} {L : List ByteArray} {k : Nat} {y : ByteArray} (h : ∀ s ∈ L, s.size = n) (hy : y.size = n) : ∀ s ∈ L.set k y, s.size = n := fun s hs => by
  rcases List.mem_or_eq_of_mem_set hs with h' | h'
  · exact h s h'
  · rw [h']; exact hy
end Go.Proofs.Ytekjhhiamboffaa
