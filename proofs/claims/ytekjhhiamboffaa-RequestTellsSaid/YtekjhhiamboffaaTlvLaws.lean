/-
  Layer 3's laws without the program: Take undoes Lay, and Lay Take; prefixes. No condition.
-/
import Derived.Test.YtekjhhiamboffaaTlvFit
namespace Go.Proofs.Ytekjhhiamboffaa
open Go.RowKit

theorem rd_call {w w' : World} {A : Option Addr} {xs : List Value} (h : Rd w w.heap.size A xs) (hk : Below w.heap.size w w') : Rd w' w'.heap.size A xs := (h.below hk).more hk.size
theorem rd_alloc {w : World} {A : Option Addr} {xs : List Value} (h : Rd w w.heap.size A xs) (o : Obj) : Rd (w.alloc o) (w.alloc o).heap.size A xs := (h.alloc (Nat.le_refl _) o).more (by simp)

theorem takeL_cons {k : Nat} {f : Fld} {l : List Fld} {r : List UInt8} (h : okF f = true) (hr : takeL k r = some l) : takeL (k + 1) (oneL f ++ r) = some (f :: l) := by
  obtain ⟨h1, h2, h3⟩ := okF_iff.1 h
  have e : oneL f ++ r = UInt8.ofNat f.1.toNat :: UInt8.ofNat (f.2.size % 256) :: UInt8.ofNat (f.2.size / 256) :: (f.2.data.toList ++ r) := by simp [oneL, headL]
  have hn : (UInt8.ofNat (f.2.size % 256)).toNat + 256 * (UInt8.ofNat (f.2.size / 256)).toNat = f.2.size := by rw [u8_of_lt (by omega), u8_of_lt (by omega)]; omega
  have ht : (UInt8.ofNat f.1.toNat).toNat = f.1.toNat := u8_of_lt (by omega)
  have h0 : ¬ UInt8.ofNat f.1.toNat = 0 := by
    intro h0
    rw [h0] at ht
    have : (0 : UInt8).toNat = 0 := rfl
    omega
  have hlen : f.2.data.toList.length = f.2.size := byteList_size _
  rw [e, takeL, hn, if_neg (by
    rintro (h' | h' | h')
    · exact h0 h'
    · omega
    · rw [List.length_append, hlen] at h'; omega), ht, ← hlen, List.drop_left, List.take_left, hr]
  simp only [Option.map_some, mk_toList]
  rw [Int.toNat_of_nonneg (by omega)]
theorem takeL_lay {k : Nat} {l : List Fld} (h : allOk l) (hk : l.length ≤ k) : takeL k (layL l) = some l := by
  induction l generalizing k with
  | nil => exact takeL_nil k
  | cons f l ih =>
    obtain ⟨k, rfl⟩ : ∃ j, k = j + 1 := ⟨k - 1, by simp at hk; omega⟩
    exact takeL_cons (h f (by simp)) (ih (fun g hg => h g (by simp [hg])) (by simpa using hk))
theorem takeL_sound {k : Nat} {s : List UInt8} {l : List Fld} (h : takeL k s = some l) : layL l = s ∧ allOk l ∧ l.length ≤ k := by
  induction k generalizing s l with
  | zero =>
    cases s with
    | nil => rw [takeL_nil] at h; injection h with h; subst h; exact ⟨rfl, by intro f hf; simp at hf, by simp⟩
    | cons a s => rw [takeL_zero (by simp)] at h; cases h
  | succ k ih =>
    by_cases h3 : s.length < 3
    · by_cases h0 : 0 < s.length
      · rw [takeL_short h0 h3] at h; cases h
      · obtain rfl : s = [] := List.eq_nil_of_length_eq_zero (by omega)
        rw [takeL_nil] at h; injection h with h; subst h
        exact ⟨rfl, by intro f hf; simp at hf, by simp⟩
    · match s, h3 with
      | t :: a :: b :: r, _ =>
        rw [takeL] at h
        by_cases hc : t = 0 ∨ 400 < a.toNat + 256 * b.toNat ∨ r.length < a.toNat + 256 * b.toNat
        · rw [if_pos hc] at h; cases h
        · rw [if_neg hc] at h
          obtain ⟨l', h1, h2⟩ := Option.map_eq_some_iff.1 h
          obtain ⟨g1, g2, g3⟩ := ih h1
          subst h2
          have ht : t.toNat ≠ 0 := fun h0 => hc (Or.inl (UInt8.toNat_inj.1 (by rw [h0]; rfl)))
          have htl := t.toNat_lt
          have hsz : (ByteArray.mk (r.take (a.toNat + 256 * b.toNat)).toArray).size = a.toNat + 256 * b.toNat := by
            rw [size_mk, List.length_take]
            omega
          have ha := a.toNat_lt
          have hb := b.toNat_lt
          refine ⟨?_, ?_, by simp only [List.length_cons]; omega⟩
          · rw [layL, g1]
            simp only [oneL, headL, hsz, Int.toNat_natCast, UInt8.ofNat_toNat]
            rw [show (a.toNat + 256 * b.toNat) % 256 = a.toNat by omega, show (a.toNat + 256 * b.toNat) / 256 = b.toNat by omega, UInt8.ofNat_toNat, UInt8.ofNat_toNat]
            simp
          · intro f hf
            rcases List.mem_cons.1 hf with rfl | hf
            · exact okF_iff.2 ⟨show (1 : Int) ≤ (t.toNat : Int) by omega, show (t.toNat : Int) ≤ 255 by omega, by rw [hsz]; omega⟩
            · exact g2 f hf
theorem lay_inj {a b : List Fld} (ha : allOk a) (hb : allOk b) (h1 : a.length ≤ 64) (h2 : b.length ≤ 64) (h : layL a = layL b) : a = b := by
  have e := takeL_lay ha h1
  rw [h, takeL_lay hb h2] at e
  injection e with e
  exact e.symm
/-- what is taken up of a beginning is the beginning of what there is -/
theorem lay_prefix {a b : List Fld} {r : List UInt8} (ha : allOk a) (hb : allOk b) (h : layL a ++ r = layL b) : a = b.take a.length ∧ a.length ≤ b.length := by
  induction a generalizing b with
  | nil => exact ⟨rfl, Nat.zero_le _⟩
  | cons f a ih =>
    cases b with
    | nil =>
      have := congrArg List.length h
      simp [layL, oneL_length] at this
    | cons g b =>
      have hf := ha f (by simp)
      have hg := hb g (by simp)
      have e1 : takeL 1 (oneL f) = some [f] := by have := takeL_cons (k := 0) (r := []) hf (takeL_nil 0); rwa [List.append_nil] at this
      have hlen : f.2.size = g.2.size := by
        have h0 := h
        simp only [layL, oneL, headL, List.append_assoc, List.cons_append, List.nil_append, List.cons.injEq] at h0
        obtain ⟨_, h2, h3, _⟩ := h0
        have h2' := congrArg UInt8.toNat h2
        have h3' := congrArg UInt8.toNat h3
        have := okF_iff.1 hf
        have := okF_iff.1 hg
        rw [u8_of_lt (by omega), u8_of_lt (by omega)] at h2' h3'
        omega
      have hl : (oneL f).length = (oneL g).length := by rw [oneL_length, oneL_length, hlen]
      have h' : oneL f ++ (layL a ++ r) = oneL g ++ layL b := by rw [← List.append_assoc]; exact h
      obtain ⟨e2, e3⟩ := List.append_inj h' hl
      have efg : f = g := by
        have e4 : takeL 1 (oneL g) = some [g] := by have := takeL_cons (k := 0) (r := []) hg (takeL_nil 0); rwa [List.append_nil] at this
        rw [e2, e4] at e1
        injection e1 with e1
        injection e1 with e1
        exact e1.symm
      obtain ⟨h5, h6⟩ := ih (fun x hx => ha x (by simp [hx])) (fun x hx => hb x (by simp [hx])) e3
      refine ⟨?_, by simpa using h6⟩
      subst efg
      simp only [List.length_cons, List.take_succ_cons]
      rw [← h5]

/-- Lay of right fields, Take of what was laid, Same: as the laws use them -/
theorem lay_v (L : List Fld) (A : Option Addr) (c : Nat) (s : ByteArray) (w : World) (hs : s = ⟨(layL L).toArray⟩) (hL : L.length ≤ 64) (hok : allOk L) (hr : Rd w w.heap.size A (fldCells L)) :
    Calls Try.prog 41 #[.slice A L.length c] w fun e w' => e = .returned (.tuple #[.string s, .int .i64 0]) ∧ Below w.heap.size w w' := by
  have h := lay_calls L A L.length c w hr rfl
  have hk := layOk_iff.2 ⟨hL, hok⟩
  unfold layT layE at h
  rw [if_pos hk, if_pos hk, ← hs] at h
  exact h
theorem take_v (L : List Fld) (s : ByteArray) (w : World) (hs : s = ⟨(layL L).toArray⟩) (hL : L.length ≤ 64) (hok : allOk L) :
    Calls Try.prog 38 #[.string s] w fun e w' => ∃ (A : Option Addr) (c : Nat), e = .returned (.tuple #[.slice A L.length c, .int .i64 0]) ∧ Rd w' w'.heap.size A (fldCells L) ∧ Below w.heap.size w w' := by
  refine (take_calls s w).mono ?_
  rintro e w' ⟨v, he, hown, hb⟩
  have h : takeL 64 s.data.toList = some L := by rw [hs, toList_mk]; exact takeL_lay hok hL
  have hF : takeF s.data.toList = L := by unfold takeF; rw [h]; rfl
  have hE : takeE s.data.toList = 0 := by unfold takeE; rw [h]; rfl
  rw [hF] at hown
  rw [hE] at he
  obtain ⟨A, c, rfl, -, -⟩ := own_form hown
  exact ⟨A, c, he, Rd.of_own hown, hb⟩
end Go.Proofs.Ytekjhhiamboffaa
