/-
  The contract of tlv.Lay, for all lists of fields. Condition: counts and lengths are Go's.
-/
import Derived.Test.YtekjhhiamboffaaTlvFields
import Derived.Test.YtekjhhiamboffaaTlvNum
namespace Go.Proofs.Ytekjhhiamboffaa
open Go.RowKit

/-- new cells, as a list -/
theorem newCells (w : World) (us : List Value) (t : TypeId) : ∀ (j : Nat) (x : Value), us[j]? = some x → (w.alloc (.cells us.toArray t)).cell? ((⟨w.heap.size, 0, none⟩ : Addr).add j) = some x := by
  intro j x hx
  rw [Addr.add_lit, Nat.zero_add]
  exact (World.cell?_alloc_mark w us.toArray t (0, 0) j).trans (by simpa using hx)
theorem head_cells {t : Int} {n : Nat} (h1 : 1 ≤ t) (h2 : t ≤ 255) (h3 : n ≤ 400) : cells8 (headL t n) = [.int .u8 t, .int .u8 ((n : Int) % 256), .int .u8 ((n : Int) / 256)] := by
  simp only [cells8, headL, List.map_cons, List.map_nil]
  rw [u8_of_lt (by omega), u8_of_lt (by omega), u8_of_lt (by omega), Int.toNat_of_nonneg (by omega)]
  simp
def fldBox (t : Int) (s : ByteArray) : Obj := .cells #[.int .i64 t, .string s] 57
theorem box1 {w w1 w2 : World} {t : Int} {s : ByteArray} {o : Obj} {r : Option Nat} (hw : w1 = (w.alloc (fldBox t s)).alloc o) (hg : w1.grownBy w2 r) (hr : ∀ k, r = some k → k < w.heap.size) : w2.cell? ⟨w.heap.size, 1, none⟩ = some (.string s) := by
  subst hw
  refine hg.cell ?_ (fun h => by have := hr _ h.symm; simp at this)
  rw [World.cell?_alloc_lt _ _ _ (by simp)]
  exact World.cell?_alloc_mark w _ _ _ 1

set_option maxHeartbeats 1000000 in
theorem lay_few (l : List Fld) (A : Option Addr) (n c : Nat) (w : World) (hr : Rd w w.heap.size A (fldCells l)) (hln : l.length = n) (hn : n ≤ 64) :
    Calls Try.prog 41 #[.slice A n c] w fun e w' => e = .returned (.tuple #[.string ⟨(layT l).toArray⟩, .int .i64 (layE l)]) ∧ Below w.heap.size w w' := by
  obtain ⟨i8, hi8, hz8, hs8, hb8⟩ := info_parts u8_info
  have HR := Lib.hid hr
  have HN := Lib.hid hln
  clear hr hln
  go_enter Try.func41, Try.ntmps41
  go_wp2
  go_loopw [4, 13] (fun v i wr => ∃ k : Nat, k ≤ n ∧ i = .int .i64 k ∧ allOk (l.take k) ∧ wr.ownsRow w.heap.size 5 1 v (layL (l.take k)).length (cells8 (layL (l.take k))) ∧ Below w.heap.size w wr) (fun _ i _ => n - (intOf i).toNat)
  case atStart => exact ⟨0, Nat.zero_le _, rfl, by intro f hf; simp at hf, World.ownsRow_nil _ _ _ _, Below.refl _ _⟩
  case round =>
    obtain ⟨k, hk, rfl, hall, hown, hb⟩ := hrel
    by_cases hlt : k < n
    · have hkl : k < l.length := by rw [HN.out]; exact hlt
      obtain ⟨b, off, rfl, hbB, hc0⟩ := (HR.out.below hb).at_ (fldCells_tag hkl)
      have hc1 := (HR.out.below hb).cell_ (fldCells_text hkl)
      rw [← Nat.add_assoc] at hc1
      obtain ⟨t, ht⟩ : ∃ t, t = l[k].1 := ⟨_, rfl⟩
      obtain ⟨s, hs⟩ : ∃ s, s = l[k].2 := ⟨_, rfl⟩
      rw [← ht] at hc0
      rw [← hs] at hc1
      have HALL := Lib.hid hall
      have HO := Lib.hid hown
      have HT := Lib.hid ht
      have HS := Lib.hid hs
      have hlen : (layL (l.take k)).length ≤ 403 * 64 := Nat.le_trans (layL_length hall) (by rw [List.length_take]; omega)
      clear hall hown ht hs
      have hbsz := hb.size
      by_cases hok : 1 ≤ t ∧ t ≤ 255 ∧ s.size ≤ 400
      · obtain ⟨t1, t2, t3⟩ := hok
        have hHC := head_cells t1 t2 t3
        have HHC := Lib.hid hHC
        clear hHC
        go_wp2_with (first
          | (at_builtin; refine wpList_append_own _ rfl (.tmp 34) (.tmp 43) 51 rfl w.heap.size 5 i8 _ 1 1 Try.underlying51 hi8 hz8 hs8 hb8 rfl (by decide) _ _ _ rfl ((HO.out.alloc _).alloc _) ⟨wr.heap.size + 1, 0, none⟩ 3 3 [.int .u8 t, .int .u8 ((s.size : Int) % 256), .int .u8 ((s.size : Int) / 256)] rfl rfl (by have := newCells (wr.alloc (fldBox t s)) [.int .u8 t, .int .u8 ((s.size : Int) % 256), .int .u8 ((s.size : Int) / 256)] 5; rwa [World.size_alloc] at this) (by simp [Value.oneCell']) (by unfold maxLen; omega) (by omega) (by simp; omega) ?_; rintro v3 w3 hown3 hgrow3 -; have hbx := box1 (t := t) (s := s) rfl hgrow3 (fun j hj => (HO.out.lt j hj).2); have hb3 := ((hb.alloc hbsz _).alloc (by simp; omega) _).grown hgrow3 (by simp; omega) (fun j hj => by have := (HO.out.lt j hj).1; omega); have HO3 := Lib.hid hown3; clear hown3)
          | (at_builtin; refine Lib.wpList_append_own_string _ rfl (.tmp 45) (.tmp 47) 51 9 rfl w.heap.size 5 i8 Try.underlying51 Try.underlying9 hi8 hz8 hs8 hb8 _ _ _ rfl HO3.out s rfl (by unfold maxLen; omega) (by omega) hb3.size ?_; rintro v4 w4 hown4 hgrow4 -; have HO4 := Lib.hid hown4; have HG4 := Lib.hid hgrow4; clear hown4 hgrow4))
        go_roundw
        case rel =>
          have e1 := layL_step hkl
          rw [← HT.out, ← HS.out] at e1
          refine ⟨k + 1, by omega, by go_num, allOk_step hkl HALL.out (okF_iff.2 ⟨by rw [← HT.out]; exact t1, by rw [← HT.out]; exact t2, by rw [← HS.out]; exact t3⟩), ?_, hb3.grown HG4.out hb3.size (fun j hj => (HO3.out.lt j hj).1)⟩
          rw [e1, cells8_app, cells8_app, HHC.out, ← strCells_eq, List.length_append, List.length_append, byteList_size]
          exact HO4.out
        case measure => simp [intOf]; omega
      · have hbad := lay_bad hkl (fun h => hok (by rw [HT.out, HS.out]; exact okF_iff.1 h))
        have HB := Lib.hid hbad
        clear hbad
        rcases (show t < 1 ∨ (1 ≤ t ∧ 255 < t) ∨ (1 ≤ t ∧ t ≤ 255 ∧ 400 < s.size) by omega) with g | ⟨g1, g⟩ | ⟨g1, g2, g⟩
        all_goals
          clear hok
          go_wp2
          go_ret2
          exact ⟨by rw [HB.out.1, HB.out.2]; rfl, hb.alloc hbsz _⟩
    · have hkn : k = n := by omega
      subst hkn
      have htk : l.take k = l := List.take_of_length_le (by rw [HN.out]; exact Nat.le_refl _)
      rw [htk] at hall hown
      have hok : layOk l = true := layOk_iff.2 ⟨by rw [HN.out]; exact hn, hall⟩
      have hcv := run_own8_string (P := Try.prog) Try.underlying51 Try.underlying5 Try.underlying9 hown rfl
      have hT : layT l = layL l := by unfold layT; rw [if_pos hok]
      have hE : layE l = 0 := by unfold layE; rw [if_pos hok]
      rw [← hT] at hcv
      have HT := Lib.hid hT
      have HE := Lib.hid hE
      clear htk hall hown hok hT hE
      go_wp2
      go_ret2
      exact ⟨by rw [HE.out]; rfl, hb⟩
theorem lay_many (l : List Fld) (A : Option Addr) (n c : Nat) (w : World) (hln : l.length = n) (hn : 64 < n) :
    Calls Try.prog 41 #[.slice A n c] w fun e w' => e = .returned (.tuple #[.string ⟨(layT l).toArray⟩, .int .i64 (layE l)]) ∧ Below w.heap.size w w' := by
  have h3 : ¬ layOk l = true := fun h' => by have := (layOk_iff.1 h').1; omega
  have hT : layT l = [] := by unfold layT; rw [if_neg h3]
  have hE : layE l = 30 := by unfold layE; rw [if_neg h3]
  rw [hT, hE]
  clear h3 hT hE
  go_enter Try.func41, Try.ntmps41
  go_wp2
  go_ret2
  exact ⟨rfl, Below.refl _ _⟩
theorem lay_calls (l : List Fld) (A : Option Addr) (n c : Nat) (w : World) (hr : Rd w w.heap.size A (fldCells l)) (hln : l.length = n) :
    Calls Try.prog 41 #[.slice A n c] w fun e w' => e = .returned (.tuple #[.string ⟨(layT l).toArray⟩, .int .i64 (layE l)]) ∧ Below w.heap.size w w' := by
  by_cases hn : n ≤ 64
  · exact lay_few l A n c w hr hln hn
  · exact lay_many l A n c w hln (by omega)
end Go.Proofs.Ytekjhhiamboffaa
