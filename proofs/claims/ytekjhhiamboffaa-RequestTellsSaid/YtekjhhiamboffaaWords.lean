/-
  Words for what slices and rows of memory hold, and how a new block, a store, a draw or a later world keeps it. Plain lemmas over any program; no condition.
-/
import Derived.WalkKit
import Derived.Handy
import Derived.WalkLawsBesides
import Derived.WalkSpells
import Derived.Lib.Hide
import Derived.Lib.AppendStr
import Derived.Laws.CopyOwn
import Derived.Maps.AppendAt
namespace Go.Proofs.Ytekjhhiamboffaa
open Go.RowKit

/-- The slice at address A reads xs (a cell each); its block lies below B. -/
def Rd (w : World) (B : Nat) (A : Option Addr) (xs : List Value) : Prop :=
  xs = [] ∨ ∃ b off, A = some ⟨b, off, none⟩ ∧ b < B ∧ ∀ i u, xs[i]? = some u → w.cell? ⟨b, off + i, none⟩ = some u

section
variable {w w' : World} {B B' : Nat} {A : Option Addr} {xs : List Value}
theorem Rd.nil (w : World) (B : Nat) (A : Option Addr) : Rd w B A [] := .inl rfl
theorem Rd.at_ (h : Rd w B A xs) {k : Nat} {u : Value} (hu : xs[k]? = some u) : ∃ b off, A = some ⟨b, off, none⟩ ∧ b < B ∧ w.cell? ⟨b, off + k, none⟩ = some u := by
  rcases h with rfl | ⟨b, off, hA, hb, hc⟩
  · simp at hu
  · exact ⟨b, off, hA, hb, hc k u hu⟩
theorem Rd.keep (h : Rd w B A xs) (hk : ∀ p : Addr, p.block < B → w'.cell? p = w.cell? p) : Rd w' B A xs := by
  rcases h with h | ⟨b, off, hA, hb, hc⟩
  · exact .inl h
  · exact .inr ⟨b, off, hA, hb, fun i u hu => (hk _ hb).trans (hc i u hu)⟩
theorem Rd.more (h : Rd w B A xs) (hB : B ≤ B') : Rd w B' A xs := by
  rcases h with h | ⟨b, off, hA, hb, hc⟩
  · exact .inl h
  · exact .inr ⟨b, off, hA, by omega, hc⟩
theorem Rd.below (h : Rd w B A xs) (hb : Below B w w') : Rd w' B A xs := h.keep fun _ hp => hb.cell hp
theorem Rd.drew (h : Rd w B A xs) : Rd w.drew B A xs := h
theorem Rd.alloc (h : Rd w B A xs) (hB : B ≤ w.heap.size) (o : Obj) : Rd (w.alloc o) B A xs := h.keep fun p hp => World.cell?_alloc_lt w o p (by omega)
/-- s[k:n] -/
theorem Rd.cut (h : Rd w B A xs) (k n : Nat) : Rd w B (A.map (·.add k)) ((xs.take n).drop k) := by
  rcases h with h | ⟨b, off, hA, hb, hc⟩
  · left; simp [h]
  · right
    refine ⟨b, off + k, by subst hA; simp [Addr.add_lit], hb, fun i u hu => ?_⟩
    rw [List.getElem?_drop, List.getElem?_take] at hu
    split at hu
    · rw [Nat.add_assoc]; exact hc _ _ hu
    · cases hu
/-- s[k:], in the form that the walk gives it -/
theorem Rd.tail (h : Rd w B A xs) (k cap : Nat) (hc : cap = k → xs.length ≤ k) : Rd w B (if cap = k then A else A.map (·.add k)) (xs.drop k) := by
  by_cases hk : cap = k
  · left; exact List.drop_eq_nil_of_le (hc hk)
  · rw [if_neg hk]
    have := h.cut k xs.length
    rwa [List.take_length] at this
theorem Rd.of_own {base : Nat} {e : TypeId} {size n c : Nat} (h : w.ownsRow base e size (.slice A n c) n xs) : Rd w w.heap.size A xs := by
  rcases h.2 with ⟨h', hn⟩ | ⟨g, cap, cur, hv, _, hg, _⟩
  · left
    have := h.1
    rw [hn, Nat.zero_mul] at this
    exact List.eq_nil_of_length_eq_zero this
  · right
    injection hv with hA _ _
    subst hA
    refine ⟨g, 0, rfl, (Array.getElem?_eq_some_iff.1 hg).1, fun i u hu => ?_⟩
    have := h.cells (g := g) rfl i u hu
    rwa [Addr.add_lit] at this
/-- a new block whose cells are xs -/
theorem Rd.new (w : World) (cs : Array Value) (t : TypeId) (fr : Nat × Nat) : Rd (w.alloc (.cells cs t fr)) (w.heap.size + 1) (some ⟨w.heap.size, 0, none⟩) cs.toList := by
  right
  refine ⟨w.heap.size, 0, rfl, by omega, fun i u hu => ?_⟩
  rw [World.cell?_alloc_mark, Nat.zero_add]
  simpa using hu
end

/-- Block g reads the bytes l from its beginning, and none of these cells is frozen. -/
def Row8 (w : World) (g : Nat) (l : List UInt8) : Prop :=
  ∀ j b, l[j]? = some b → w.cell? ⟨g, j, none⟩ = some (.int .u8 (b.toNat : Int)) ∧ w.frozen? ⟨g, j, none⟩ = false

section
variable {w : World} {g : Nat} {l : List UInt8}
/-- what '[]byte(s)' lays -/
theorem Row8.ofString (w : World) (s : ByteArray) (cap : Nat) (t : TypeId) :
    Row8 (w.alloc (.cells (bytesRow s cap) t ((bytesRow s cap).size, (bytesRow s cap).size + 1))) w.heap.size s.data.toList := by
  intro j b hb
  have hj : j < s.data.size := by
    have := (List.getElem?_eq_some_iff.1 hb).1
    simpa using this
  have hbe : s.data[j] = b := by
    rw [List.getElem?_eq_getElem (by simpa using hj)] at hb
    simpa using hb
  constructor
  · rw [World.cell?_alloc_mark, bytesRow_at s cap j hj, hbe]
  · rw [World.frozen?_alloc_mark]
    have : (bytesRow s cap).size = s.data.size + (cap - s.size) := by simp [bytesRow]
    simp only [Bool.and_eq_false_iff, decide_eq_false_iff_not]
    left
    omega
theorem Row8.drew (h : Row8 w g l) : Row8 w.drew g l := h
/-- a store of a byte -/
theorem Row8.set_ (h : Row8 w g l) (m : Nat) (b : UInt8) (v : Int) (hv : v = b.toNat) : Row8 (w.setCell ⟨g, m, none⟩ (.int .u8 v)) g (l.set m b) := by
  subst hv
  intro j x hx
  rw [List.getElem?_set] at hx
  rw [World.frozen?_setCell]
  by_cases hj : m = j
  · subst hj
    rw [if_pos rfl] at hx
    split at hx
    · rename_i hlt
      obtain rfl := Option.some.inj hx
      have h0 := h m l[m] (List.getElem?_eq_getElem hlt)
      exact ⟨World.cell?_setCell_same w _ _ h0.1, h0.2⟩
    · cases hx
  · rw [if_neg hj] at hx
    have h0 := h j x hx
    exact ⟨(World.cell?_setCell_other w _ _ _ (by intro e; injection e with _ e1; exact hj e1)).trans h0.1, h0.2⟩
/-- 'string(b)', b's cells the bytes l -/
theorem run_row8_string {P : Program} {src dst e : TypeId} (hs : P.underlying src = some (.slice e)) (he : P.underlying e = some (.int .u8)) (hd : P.underlying dst = some .string)
    (h : Row8 w g l) (n cap : Nat) (hn : l.length = n) : (convert src dst (.slice (some ⟨g, 0, none⟩) n cap)).run P w = .ok (.string ⟨l.toArray⟩) w := by
  subst hn
  refine run_convert_bytes_back w src dst e ⟨g, 0, none⟩ cap l hs he hd (fun j hj => ?_)
  rw [Addr.add_lit, Nat.zero_add]
  exact (h j l[j] (List.getElem?_eq_getElem hj)).1
end

theorem byteList_size (s : ByteArray) : s.data.toList.length = s.size := by cases s; simp [ByteArray.size]
theorem size_mk (l : List UInt8) : (ByteArray.mk l.toArray).size = l.length := by simp [ByteArray.size]
theorem toList_mk (l : List UInt8) : (ByteArray.mk l.toArray).data.toList = l := by simp
theorem mk_toList (s : ByteArray) : ByteArray.mk s.data.toList.toArray = s := by cases s; simp

/-- bytes as cells -/
def cells8 (l : List UInt8) : List Value := l.map fun b => Value.int .u8 (b.toNat : Int)
theorem cells8_length (l : List UInt8) : (cells8 l).length = l.length := by simp [cells8]
theorem cells8_one (l : List UInt8) : ∀ u ∈ cells8 l, u.oneCell' = true := by
  intro u hu
  obtain ⟨_, _, rfl⟩ := List.mem_map.1 hu
  rfl
theorem strCells_eq (s : ByteArray) : Lib.strCells s = cells8 s.data.toList := rfl
theorem Row8.of_own {w : World} {base : Nat} {e : TypeId} {g n c : Nat} {l : List UInt8} (h : w.ownsRow base e 1 (.slice (some ⟨g, 0, none⟩) n c) n (cells8 l)) : Row8 w g l := by
  intro j b hb
  refine ⟨?_, h.frozenAt j⟩
  have hj : j < l.length := (List.getElem?_eq_some_iff.1 hb).1
  have hl := h.1
  rw [cells8_length] at hl
  rw [h.cellAt j (by omega)]
  simp [cells8, hb]

theorem run_firstCells_str {P : Program} {w : World} (size m : Nat) (s : ByteArray) : (Builtin.firstCells size m (.string s)).run P w = .ok (cells8 (s.data.toList.take m)).toArray w := by
  simp only [Builtin.firstCells, Sem.run_pure, cells8]
  congr 1
  apply Array.ext'
  simp

/-- 'copy(b, s)', b a row of the call's own that is known whole, s a text -/
theorem wpList_copy_str {P : Program} {w : World} {ops : Array Oper} {rest : List Oper} {o : Oper} {a : Act} {Q : Exit → Act → World → Prop} (hgd : o.guard = none) (d s : Operand) (dT sT : TypeId)
    (ho : o.op = .call { callee := .builtin .copy, args := #[d, s], argTypes := #[dT, sT] }) (elem : TypeId) (hu : P.underlying dT = some (.slice elem)) (hsz : (P.info? elem).map (·.size) = some 1)
    (g n c : Nat) (hd : a.eval d = .slice (some ⟨g, 0, none⟩) n c) (str : ByteArray) (hs : a.eval s = .string str) (base : Nat) (l : List UInt8)
    (hown : w.ownsRow base elem 1 (.slice (some ⟨g, 0, none⟩) n c) n (cells8 l))
    (h : ∀ w', w'.ownsRow base elem 1 (.slice (some ⟨g, 0, none⟩) n c) n (cells8 (str.data.toList.take n ++ l.drop str.size)) → w.grownBy w' (some g) → wpList P ops Q rest (a.put o.dst (goInt (Nat.min str.size n))) w') :
    wpList P ops Q (o :: rest) a w := by
  refine wpList_plain hgd fun K hK => ?_
  have hl := hown.1
  rw [cells8_length, Nat.mul_one] at hl
  rcases hown.2 with ⟨h', _⟩ | ⟨g', cap', cur, h', hb, hg, hnc, hcm, hcs, htake⟩
  · simp at h'
  simp only [Value.slice.injEq, Option.some.injEq, Addr.mk.injEq, and_true, true_and] at h'
  obtain ⟨rfl, rfl⟩ := h'
  obtain ⟨i, hi, hi1⟩ := Option.map_eq_some_iff.1 hsz
  have hm : (cells8 (str.data.toList.take (Nat.min str.size n))).length = Nat.min str.size n := by
    rw [cells8_length, List.length_take, byteList_size]
    have : Nat.min str.size n ≤ str.size := Nat.min_le_left _ _
    omega
  have hmn : Nat.min str.size n ≤ n := Nat.min_le_right _ _
  have hst := run_storeCells_at P g 0 elem (cells8 (str.data.toList.take (Nat.min str.size n))) 0 cur w hg (by omega) (cells8_one _)
  have hrun : (Builtin.copy_ #[dT, sT] o.type #[.slice (some ⟨g, 0, none⟩) n c, .string str]).run P w = .ok (goInt (Nat.min str.size n))
      (w.setRow g (cur.toList.take (0 + 0) ++ cells8 (str.data.toList.take (Nat.min str.size n)) ++ cur.toList.drop (0 + 0 + (cells8 (str.data.toList.take (Nat.min str.size n))).length)).toArray) := by
    simp only [Builtin.copy_]
    simp [run_underlying hu, Builtin.lenOf, run_firstCells_str, sizeOf, typeInfo, hi]
    simp at hst
    simp [hst]
  unfold Oper.wp
  simp [execOp, ho, resolve, invoke, builtin, hd, hs, hrun, Result.andThen]
  have e1 : str.data.toList.take n = str.data.toList.take (Nat.min str.size n) := by
    rcases Nat.le_total str.size n with h1 | h1
    · rw [List.take_of_length_le (by rw [byteList_size]; exact h1), List.take_of_length_le (by rw [byteList_size, show Nat.min str.size n = str.size from Nat.min_eq_left h1]; exact Nat.le_refl _)]
    · rw [show Nat.min str.size n = n from Nat.min_eq_right h1]
  have e2 : l.drop str.size = l.drop (Nat.min str.size n) := by
    rcases Nat.le_total str.size n with h1 | h1
    · rw [show Nat.min str.size n = str.size from Nat.min_eq_left h1]
    · rw [List.drop_of_length_le (by omega), List.drop_of_length_le (by rw [show Nat.min str.size n = n from Nat.min_eq_right h1]; omega)]
  generalize Nat.min str.size n = m at *
  have e3 : (str.data.toList.take m).length = m := by rw [← cells8_length]; exact hm
  refine hK _ _ (h _ ⟨?_, .inr ⟨g, c, _, rfl, hb, setRow_heap w g cur _ elem _ hg, hnc, hcm, ?_, ?_⟩⟩ ⟨rfl, rfl, rfl, by simp, fun k _ hk => setRow_other w g k _ (fun e => hk (by simp [e]))⟩)
  · rw [cells8_length, e1, e2, List.length_append, e3, List.length_drop]; omega
  · simp only [List.size_toArray, List.length_append, List.length_drop, Array.length_toList]; omega
  · rw [hm, Nat.mul_one, List.toList_toArray, List.take_append, hm, List.take_of_length_le (by omega), e1, e2]
    rw [Nat.mul_one] at htake
    rw [show (List.take (n - m) (List.drop m cur.toList)) = List.drop m (List.take n cur.toList) by rw [List.drop_take], htake]
    simp [cells8]

theorem made8 (n : Nat) : (madeCells (Value.int .u8 0).cells (n * 1)).toList = cells8 (List.replicate n 0) := by
  rw [Nat.mul_one]
  show (madeCells #[Value.int .u8 0] n).toList = _
  rw [toList_madeCells_one]
  simp [cells8]

section
variable {w w1 w2 : World} {base : Nat} {e : TypeId} {size n : Nat} {v : Value} {xs : List Value}
/-- what is owned stays owned behind a new row and writes into that -/
theorem own_keep_new (h : w.ownsRow base e size v n xs) (g1 : w.grownBy w1 none) (g2 : w1.grownBy w2 (some w.heap.size)) : w2.ownsRow base e size v n xs := by
  have h1 := h.kept g1 (by cases hv : v.ownBlock <;> simp)
  refine h1.kept g2 (.inr fun e => ?_)
  have := (h.lt _ e).2
  omega
theorem own_keep_below {B : Nat} (h : w.ownsRow base e size v n xs) (hb : Below B w w1) (hB : w.heap.size ≤ B) : w1.ownsRow base e size v n xs := by
  refine ⟨h.1, ?_⟩
  rcases h.2 with h2 | ⟨g, cap, cur, hv, hg, hh, r⟩
  · exact .inl h2
  · have := (Array.getElem?_eq_some_iff.1 hh).1
    exact .inr ⟨g, cap, cur, hv, hg, (hb.block g (by omega)).trans hh, r⟩
theorem grown_none_below (h : w.grownBy w1 none) : Below w.heap.size w w1 := ⟨h.os, h.tape, h.output, h.size, fun k hk => h.block k hk (by simp)⟩
theorem grown_new_below {B : Nat} {row : Nat} (h : w.grownBy w1 (some row)) (hB : B ≤ row) (hw : B ≤ w.heap.size) : Below B w w1 :=
  ⟨h.os, h.tape, h.output, h.size, fun k hk => h.block k (by omega) (by simp; omega)⟩
/-- an owned slice's form -/
theorem own_form (h : w.ownsRow base e size v n xs) : ∃ A c, v = .slice A n c ∧ n ≤ c ∧ c ≤ maxLen := by
  rcases h.2 with ⟨rfl, rfl⟩ | ⟨g, cap, cur, hv, _, _, hnc, hcm, _⟩
  · exact ⟨_, _, rfl, Nat.le_refl _, Nat.zero_le _⟩
  · exact ⟨_, _, hv, hnc, hcm⟩
/-- an owned slice that is not empty -/
theorem own_some (h : w.ownsRow base e size v n xs) (h0 : 0 < n) : ∃ g c, v = .slice (some ⟨g, 0, none⟩) n c ∧ base ≤ g ∧ g < w.heap.size ∧ n ≤ c ∧ c ≤ maxLen := by
  rcases h.2 with ⟨_, h1⟩ | ⟨g, cap, cur, hv, hb, hg, hnc, hcm, _⟩
  · omega
  · exact ⟨g, cap, hv, hb, (Array.getElem?_eq_some_iff.1 hg).1, hnc, hcm⟩
/-- one new cell, as a list -/
theorem newCell (w : World) (u : Value) (t : TypeId) : ∀ (j : Nat) (x : Value), [u][j]? = some x → (w.alloc (.cells #[u] t)).cell? ((⟨w.heap.size, 0, none⟩ : Addr).add j) = some x := by
  intro j x hx
  have := (Rd.new w #[u] t (0, 0))
  rcases this with h | ⟨b, off, hA, _, hc⟩
  · simp at h
  · injection hA with hA
    injection hA with h1 h2 h3
    subst h1 h2
    have h := hc j x (by simpa using hx)
    rw [Addr.add_lit]
    exact h
theorem oneString (s : ByteArray) : ∀ u ∈ [Value.string s], u.oneCell' = true := by
  intro u hu
  rw [List.mem_singleton.1 hu]
  rfl
end

section
variable {P : Program}
theorem run_append_nothing (w : World) (base : Nat) (t ty e : TypeId) (i : TypeInfo) (size : Nat) (ht : P.underlying t = some (.slice e)) (hi : P.info? e = some i)
    (v : Value) (n : Nat) (xs : List Value) (hown : w.ownsRow base e size v n xs) (c : Nat) : (Builtin.append_ #[t, t] ty #[v, .slice none 0 c]).run P w = .ok v w := by
  rcases hown.2 with ⟨rfl, rfl⟩ | ⟨g, cap, cur, rfl, _, _, hnc, _⟩ <;> simp [*, Builtin.append_, run_underlying ht, sizeOf, typeInfo, Builtin.lenOf, Builtin.firstCells, storeCells]

/-- 'append(v, x...)', v the call's own, x whatever slice whose cells are known -/
theorem run_append_rd (w : World) (t ty : TypeId) (base : Nat) (e : TypeId) (i : TypeInfo) (z : Value) (size bytes : Nat) (ht : P.underlying t = some (.slice e)) (hi : P.info? e = some i) (hz : i.zero = some z)
    (hsize : i.size = size) (hby : i.bytes = bytes) (hzs : z.cells.size = size) (hsz : 0 < size)
    (v : Value) (n : Nat) (xs : List Value) (hown : w.ownsRow base e size v n xs)
    (B : Nat) (A : Option Addr) (m c : Nat) (news : List Value) (hr : Rd w B A news) (hl : news.length = m * size) (h1 : ∀ u ∈ news, u.oneCell' = true)
    (h63 : n + m ≤ maxLen) (hbytes : (n + m) * bytes ≤ 140737488355328) (hbase : base ≤ w.heap.size) :
    ∃ v' w', (Builtin.append_ #[t, t] ty #[v, .slice A m c]).run P w = .ok v' w' ∧ w'.ownsRow base e size v' (n + m) (xs ++ news) ∧ w.grownBy w' v.ownBlock := by
  rcases A with _ | ad
  · have hn : news = [] := by
      rcases hr with h | ⟨_, _, h, _⟩
      · exact h
      · cases h
    subst hn
    have hm : m = 0 := by
      rcases Nat.eq_zero_or_pos m with h0 | h0
      · exact h0
      · have := Nat.mul_pos h0 hsz
        simp at hl
        omega
    subst hm
    exact ⟨v, w, run_append_nothing (P := P) w base t ty e i size ht hi v n xs hown c, by simpa using hown, World.grownBy.refl w _⟩
  · obtain ⟨v', w', h2, h3, h4, _⟩ := run_append_own (P := P) w base t ty e i z size bytes ht hi hz hsize hby hzs hsz v n xs hown ad m c news hl (by
      intro j u hu
      obtain ⟨b, off, hA, _, hc⟩ := hr.at_ hu
      injection hA with hA
      subst hA
      rw [Addr.add_lit]
      exact hc) h1 h63 hbytes hbase
    exact ⟨v', w', h2, h3, h4⟩

theorem wp_append_rd {w : World} {o : Oper} {a : Act} {K : Act → World → Prop} {Q : Exit → Act → World → Prop} (s x : Operand) (t : TypeId)
    (ho : o.op = .call { callee := .builtin .append, args := #[s, x], argTypes := #[t, t] })
    (base : Nat) (e : TypeId) (i : TypeInfo) (z : Value) (size bytes : Nat) (ht : P.underlying t = some (.slice e)) (hi : P.info? e = some i) (hz : i.zero = some z)
    (hsize : i.size = size) (hby : i.bytes = bytes) (hzs : z.cells.size = size) (hsz : 0 < size)
    (v : Value) (n : Nat) (xs : List Value) (hs : a.eval s = v) (hown : w.ownsRow base e size v n xs)
    (B : Nat) (A : Option Addr) (m c : Nat) (news : List Value) (hx : a.eval x = .slice A m c) (hr : Rd w B A news) (hl : news.length = m * size) (h1 : ∀ u ∈ news, u.oneCell' = true)
    (h63 : n + m ≤ maxLen) (hbytes : (n + m) * bytes ≤ 140737488355328) (hbase : base ≤ w.heap.size)
    (h : ∀ v' w', w'.ownsRow base e size v' (n + m) (xs ++ news) → w.grownBy w' v.ownBlock → K (a.put o.dst v') w') : o.wp P a w K Q := by
  obtain ⟨v', w', hrun, h2, h3⟩ := run_append_rd (P := P) w t o.type base e i z size bytes ht hi hz hsize hby hzs hsz v n xs hown B A m c news hr hl h1 h63 hbytes hbase
  unfold Oper.wp execOp
  simp only [ho, resolve, invoke, builtin, Sem.run_bind, Sem.run_pure, Result.andThen_ok, List.map_toArray, List.map_cons, List.map_nil, hs, hx, hrun]
  exact h v' w' h2 h3

theorem wpList_append_rd {w : World} {ops : Array Oper} {rest : List Oper} {o : Oper} {a : Act} {Q : Exit → Act → World → Prop} (hgd : o.guard = none) (s x : Operand) (t : TypeId)
    (ho : o.op = .call { callee := .builtin .append, args := #[s, x], argTypes := #[t, t] })
    (base : Nat) (e : TypeId) (i : TypeInfo) (z : Value) (size bytes : Nat) (ht : P.underlying t = some (.slice e)) (hi : P.info? e = some i) (hz : i.zero = some z)
    (hsize : i.size = size) (hby : i.bytes = bytes) (hzs : z.cells.size = size) (hsz : 0 < size)
    (v : Value) (n : Nat) (xs : List Value) (hs : a.eval s = v) (hown : w.ownsRow base e size v n xs)
    (B : Nat) (A : Option Addr) (m c : Nat) (news : List Value) (hx : a.eval x = .slice A m c) (hr : Rd w B A news) (hl : news.length = m * size) (h1 : ∀ u ∈ news, u.oneCell' = true)
    (h63 : n + m ≤ maxLen) (hbytes : (n + m) * bytes ≤ 140737488355328) (hbase : base ≤ w.heap.size)
    (h : ∀ v' w', w'.ownsRow base e size v' (n + m) (xs ++ news) → w.grownBy w' v.ownBlock → wpList P ops Q rest (a.put o.dst v') w') : wpList P ops Q (o :: rest) a w :=
  wpList_plain hgd fun _ hK => wp_append_rd s x t ho base e i z size bytes ht hi hz hsize hby hzs hsz v n xs hs hown B A m c news hx hr hl h1 h63 hbytes hbase fun v' w' h2 h3 => hK _ _ (h v' w' h2 h3)

theorem step_append_rd {w : World} {ops : Array Oper} {o : Oper} {a : Act} {K : Act → World → Prop} {Q : Exit → Act → World → Prop} {E : Prop} (hgd : o.guard = none) (s x : Operand) (t : TypeId)
    (ho : o.op = .call { callee := .builtin .append, args := #[s, x], argTypes := #[t, t] })
    (base : Nat) (e : TypeId) (i : TypeInfo) (z : Value) (size bytes : Nat) (ht : P.underlying t = some (.slice e)) (hi : P.info? e = some i) (hz : i.zero = some z)
    (hsize : i.size = size) (hby : i.bytes = bytes) (hzs : z.cells.size = size) (hsz : 0 < size)
    (v : Value) (n : Nat) (xs : List Value) (hs : a.eval s = v) (hown : w.ownsRow base e size v n xs)
    (B : Nat) (A : Option Addr) (m c : Nat) (news : List Value) (hx : a.eval x = .slice A m c) (hr : Rd w B A news) (hl : news.length = m * size) (h1 : ∀ u ∈ news, u.oneCell' = true)
    (h63 : n + m ≤ maxLen) (hbytes : (n + m) * bytes ≤ 140737488355328) (hbase : base ≤ w.heap.size)
    (h : ∀ v' w', w'.ownsRow base e size v' (n + m) (xs ++ news) → w.grownBy w' v.ownBlock → K (a.put o.dst v') w') :
    if Region.wanted o (yielded ops a.tmps) = true then Oper.wp P o a w K Q else E := by
  have hw : Region.wanted o (yielded ops a.tmps) = true := by simp [Region.wanted, hgd]
  rw [if_pos hw]
  exact wp_append_rd s x t ho base e i z size bytes ht hi hz hsize hby hzs hsz v n xs hs hown B A m c news hx hr hl h1 h63 hbytes hbase h
/-- what an append onto a row of the call's own, or onto nil, leaves of what was there -/
theorem grown_below {w w' : World} {v : Value} {B : Nat} (hg : w.grownBy w' v.ownBlock) (hv : ∀ k, v.ownBlock = some k → B ≤ k) (hB : B ≤ w.heap.size) : Below B w w' :=
  (Below.refl B w).grown hg hB hv
end
theorem strings_one (l : List ByteArray) : ∀ u ∈ l.map Value.string, u.oneCell' = true := by
  intro u hu
  obtain ⟨_, _, rfl⟩ := List.mem_map.1 hu
  rfl

theorem below_drewN {B : Nat} {a w : World} (h : Below B a w) (n : Nat) : Below B a (w.drewN n) := ⟨h.os, h.tape, h.output, h.size, h.block⟩
/-- a call behind what was done so far -/
theorem bel_call {w a b : World} (h : Below w.heap.size w a) (k : Below a.heap.size a b) : Below w.heap.size w b := h.trans (k.mono h.size)
theorem bel_alloc {w a : World} (h : Below w.heap.size w a) (o : Obj) : Below w.heap.size w (a.alloc o) := h.alloc h.size o

section
variable {w : World} {B g off : Nat} {xs : List Value}
/-- s[k:] of a slice that is not nil -/
theorem Rd.from_ (h : Rd w B (some ⟨g, off, none⟩) xs) (k : Nat) : Rd w B (some ⟨g, off + k, none⟩) (xs.drop k) := by
  have h1 := h.cut k xs.length
  rw [List.take_length, Option.map_some, Addr.add_lit] at h1
  exact h1
/-- s[:k] -/
theorem Rd.upto {A : Option Addr} (h : Rd w B A xs) (k : Nat) : Rd w B A (xs.take k) := by
  rcases h with h | ⟨b, off, hA, hb, hc⟩
  · left; simp [h]
  · right
    refine ⟨b, off, hA, hb, fun i u hu => hc i u ?_⟩
    rw [List.getElem?_take] at hu
    split at hu
    · exact hu
    · cases hu
theorem Rd.cell_ (h : Rd w B (some ⟨g, off, none⟩) xs) {k : Nat} {u : Value} (hu : xs[k]? = some u) : w.cell? ⟨g, off + k, none⟩ = some u := by
  obtain ⟨b, o, hA, _, hc⟩ := h.at_ hu
  injection hA with hA
  injection hA with h1 h2 _
  subst h1 h2
  exact hc
end

theorem grown_nil_below {w w' : World} (hg : w.grownBy w' (Value.slice none 0 0).ownBlock) : Below w.heap.size w w' := grown_below hg (by intro k hk; cases hk) (Nat.le_refl _)
/-- a new block of cells, read later -/
theorem Rd.newBelow {w w' : World} {cs : Array Value} {t : TypeId} (hb : Below (w.alloc (.cells cs t)).heap.size (w.alloc (.cells cs t)) w') : Rd w' (w.heap.size + 1) (some ⟨w.heap.size, 0, none⟩) cs.toList := by
  have h := Rd.new w cs t (0, 0)
  have h2 : Below (w.heap.size + 1) (w.alloc (.cells cs t)) w' := by rw [World.size_alloc] at hb; exact hb
  exact h.below h2

/-- the same, and where the row lies behind it -/
theorem wpList_append_rd_at {P : Program} {w : World} {ops : Array Oper} {rest : List Oper} {o : Oper} {a : Act} {Q : Exit → Act → World → Prop} (hgd : o.guard = none) (s x : Operand) (t : TypeId)
    (ho : o.op = .call { callee := .builtin .append, args := #[s, x], argTypes := #[t, t] })
    (base : Nat) (e : TypeId) (i : TypeInfo) (z : Value) (size bytes : Nat) (ht : P.underlying t = some (.slice e)) (hi : P.info? e = some i) (hz : i.zero = some z)
    (hsize : i.size = size) (hby : i.bytes = bytes) (hzs : z.cells.size = size) (hsz : 0 < size)
    (v : Value) (n : Nat) (xs : List Value) (hs : a.eval s = v) (hown : w.ownsRow base e size v n xs)
    (ad : Addr) (m c : Nat) (news : List Value) (hx : a.eval x = .slice (some ad) m c) (hl : news.length = m * size) (hnews : ∀ j u, news[j]? = some u → w.cell? (ad.add j) = some u) (h1 : ∀ u ∈ news, u.oneCell' = true)
    (h63 : n + m ≤ maxLen) (hbytes : (n + m) * bytes ≤ 140737488355328) (hbase : base ≤ w.heap.size)
    (h : ∀ v' w', w'.ownsRow base e size v' (n + m) (xs ++ news) → w.grownBy w' v.ownBlock → (v'.ownBlock = v.ownBlock ∨ v'.ownBlock = some w.heap.size) → wpList P ops Q rest (a.put o.dst v') w') : wpList P ops Q (o :: rest) a w := by
  refine wpList_plain hgd fun K hK => ?_
  obtain ⟨v', w', hrun, h2, h3, _, h4⟩ := run_append_own_at (P := P) w base t o.type e i z size bytes ht hi hz hsize hby hzs hsz v n xs hown ad m c news hl hnews h1 h63 hbytes hbase
  unfold Oper.wp execOp
  simp only [ho, resolve, invoke, builtin, Sem.run_bind, Sem.run_pure, Result.andThen_ok, List.map_toArray, List.map_cons, List.map_nil, hs, hx, hrun]
  exact hK _ _ (h v' w' h2 h3 h4)

/-- two slices of the call's own do not lie in one row -/
def Dis (v u : Value) : Prop := ∀ k, v.ownBlock = some k → u.ownBlock ≠ some k
theorem Dis.symm {v u : Value} (h : Dis v u) : Dis u v := fun k hk hv => h k hv hk
theorem Dis.nil (u : Value) : Dis (.slice none 0 0) u := by intro k hk; cases hk
section
variable {w w' : World} {base base' : Nat} {e e' : TypeId} {size size' n k : Nat} {v v' u : Value} {xs ys : List Value}
theorem Dis.kept (h : Dis v u) (hu : w.ownsRow base e size u k ys) (hg : w.grownBy w' v.ownBlock) : w'.ownsRow base e size u k ys := by
  refine hu.kept hg ?_
  cases hb : u.ownBlock with
  | none => exact .inl rfl
  | some b => exact .inr fun hv => h b hv.symm hb
theorem Dis.moved (h : Dis v u) (hu : w.ownsRow base e size u k ys) (hat : v'.ownBlock = v.ownBlock ∨ v'.ownBlock = some w.heap.size) : Dis v' u := by
  intro b hb hub
  rcases hat with hat | hat
  · exact h b (hat ▸ hb) hub
  · rw [hat] at hb
    injection hb with hb
    have := (hu.lt b hub).2
    omega
end
end Go.Proofs.Ytekjhhiamboffaa
