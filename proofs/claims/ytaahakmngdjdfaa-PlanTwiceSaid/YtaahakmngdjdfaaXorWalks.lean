/-
  The contracts of package xor: what together, Missing, All, Two and Moved compute, for all texts. Condition: lengths are Go's.
-/
import Derived.Test.YtaahakmngdjdfaaXorMath
import Derived.RegionTactic
import Derived.Test.YtaahakmngdjdfaaProg
namespace Go.Proofs.Ytaahakmngdjdfaa
open Go.RowKit

set_option maxHeartbeats 400000 in
theorem together_any (first : ByteArray) (l : List ByteArray) (A : Option Addr) (n c : Nat) (w : World) (hr : Rd w w.heap.size A (l.map Value.string))
    (hl : ∀ s ∈ l, s.size = first.size) (hs : first.size ≤ maxLen) (hn : n ≤ maxLen) (hln : l.length = n) :
    Calls Try.prog 42 #[.string first, .slice A n c] w fun e w' => e = .returned (.string (foldX first l)) ∧ Below w.heap.size w w' := by
  unfold maxLen at hs hn
  have hbs := fun w => run_bytes_of_string (P := Try.prog) w 9 51 5 first Try.underlying9 Try.underlying51 Try.underlying5
  have HR := Lib.hid hr
  have HL := Lib.hid hl
  have HN := Lib.hid hln
  clear hr hl hln
  go_enter Try.func42, Try.ntmps42
  go_wp2
  clear hbs
  go_loopw [13] (fun v wr => ∃ k : Nat, k ≤ n ∧ v = .int .i64 k ∧ Row8 wr w.heap.size (foldX first (l.take k)).data.toList ∧ Below w.heap.size w wr)
     (fun v _ => n - (intOf v).toNat)
  case atStart =>
    exact ⟨0, Nat.zero_le _, rfl, (Row8.ofString w first _ _).drew, ((Below.refl _ _).alloc (Nat.le_refl _) _).drew⟩
  case round =>
    obtain ⟨k, hk, rfl, hrow, hb⟩ := hrel
    by_cases hlt : k < n
    · obtain ⟨wo, rfl⟩ : ∃ wo : World, wo = wr := ⟨_, rfl⟩
      have hkl : k < l.length := by rw [HN.out]; exact hlt
      obtain ⟨b, off, rfl, _, hc⟩ := (HR.out.below hb).at_ (k := k) (u := .string l[k]) (by simp [hkl])
      have HAcc : Hid ((foldX first (l.take k)).size = first.size) := Lib.hid (foldX_size _ _ fun s hs => HL.out s (List.mem_of_mem_take hs))
      have HSt : Hid (foldX first (l.take (k + 1)) = xorB (foldX first (l.take k)) l[k]) := Lib.hid (by
        rw [List.take_succ_eq_append_getElem hkl, foldX_append]; rfl)
      have HSz : Hid (l[k].size = first.size) := Lib.hid (HL.out _ (List.getElem_mem hkl))
      obtain ⟨s, hs2⟩ : ∃ s, s = l[k] := ⟨_, rfl⟩
      rw [← hs2] at hc HSt HSz
      clear hs2
      go_wp2
      go_loopw [19] (fun v wr => ∃ m : Nat, m ≤ first.size ∧ v = .int .i64 m ∧ Row8 wr w.heap.size ((xorL (foldX first (l.take k)).data.toList s.data.toList).take m ++ (foldX first (l.take k)).data.toList.drop m) ∧ Below w.heap.size w wr)
        (fun v _ => first.size - (intOf v).toNat)
      case atStart => exact ⟨0, Nat.zero_le _, rfl, by simpa using hrow, hb⟩
      case round =>
        obtain ⟨m, hm, rfl, hrow, hb⟩ := hrel
        by_cases hmt : m < first.size
        · have hacc : m < (foldX first (l.take k)).data.toList.length := by rw [byteList_size, HAcc.out]; exact hmt
          have hsl : m < s.data.toList.length := by rw [byteList_size, HSz.out]; exact hmt
          have hsz : m < s.size := by rw [HSz.out]; exact hmt
          obtain ⟨x, hx⟩ : ∃ x, (foldX first (l.take k)).data.toList[m]? = some x := ⟨_, List.getElem?_eq_getElem hacc⟩
          have hy : s.data.toList[m]? = some s[m] := by rw [List.getElem?_eq_getElem hsl]; rfl
          obtain ⟨hc2, hf2⟩ := hrow m x (mixAt _ _ _ _ hx hsl)
          have Hrow := Lib.hid hrow
          have Hstep : Hid _ := Lib.hid (mixStep _ _ _ _ _ hx hy)
          clear hrow hx hy
          go_wp2
          go_region
          go_wp2
          go_roundw
          case rel => exact ⟨m + 1, by omega, by go_num, by
            rw [← Hstep.out]
            exact (Hrow.out.set_ m (x ^^^ s[m]) _ (u8xor _ _)).drew, (hb.setCell (p := ⟨w.heap.size, m, none⟩) (Nat.le_refl _) _).drew⟩
          case measure => simp [intOf]; omega
        · have Hrow := Lib.hid hrow
          clear hrow
          go_wp2
          go_roundw
          case rel => exact ⟨k + 1, by omega, by go_num, by
            have h1 : (xorL (foldX first (l.take k)).data.toList s.data.toList).length = m := by
              rw [xorL_length, byteList_size, byteList_size, HAcc.out, HSz.out]; omega
            have h2 : (foldX first (l.take k)).data.toList.length = m := by rw [byteList_size, HAcc.out]; omega
            have h3 := Hrow.out
            rw [List.take_of_length_le (by omega), List.drop_of_length_le (by omega), List.append_nil, ← xorB_toList, ← HSt.out] at h3
            exact h3, hb⟩
          case measure => simp [intOf]; omega
    · have hkl : k = n := by omega
      have hcv := run_row8_string (P := Try.prog) Try.underlying51 Try.underlying5 Try.underlying9 hrow first.size (grownCap w first.size 0 5) (by
        rw [byteList_size]; exact foldX_size _ _ fun s hs => HL.out s (List.mem_of_mem_take hs))
      rw [mk_toList] at hcv
      have HK := Lib.hid hkl
      clear hkl
      go_wp2
      go_ret
      refine ⟨?_, hb⟩
      rw [HK.out, ← HN.out, List.take_length]
      rfl

/-- one text after the other, in a new block of texts -/
theorem rd_texts (w : World) (l : List ByteArray) (t : TypeId) : Rd (w.alloc (.cells (l.map Value.string).toArray t)) (w.alloc (.cells (l.map Value.string).toArray t)).heap.size (some ⟨w.heap.size, 0, none⟩) (l.map Value.string) := by
  have := Rd.new w (l.map Value.string).toArray t (0, 0)
  rw [World.size_alloc]
  simpa using this

set_option maxHeartbeats 400000 in
theorem missing_any (first : ByteArray) (l : List ByteArray) (A : Option Addr) (n c : Nat) (w : World) (hr : Rd w w.heap.size A (l.map Value.string))
    (hs : first.size ≤ maxLen) (hn : n ≤ maxLen) (hln : l.length = n) :
    Calls Try.prog 37 #[.string first, .slice A n c] w fun e w' => e = .returned (.tuple #[.string (missR first l).1, .int .i64 (missR first l).2]) ∧ Below w.heap.size w w' := by
  have HM := Lib.hid hn
  have HS := Lib.hid hs
  unfold maxLen at hs hn
  have HR := Lib.hid hr
  have HN := Lib.hid hln
  clear hr hln
  go_enter Try.func37, Try.ntmps37
  go_wp2
  go_loop [10] (fun v => ∃ k : Nat, k ≤ n ∧ v = .int .i64 k ∧ ∀ s ∈ l.take k, s.size = first.size) (fun v => n - (intOf v).toNat)
  case atStart => exact ⟨0, Nat.zero_le _, rfl, by simp⟩
  case round =>
    obtain ⟨k, hk, rfl, hall⟩ := hrel
    have HA := Lib.hid hall
    clear hall
    by_cases hlt : k < n
    · have hkl : k < l.length := by rw [HN.out]; exact hlt
      obtain ⟨b, off, rfl, _, hc⟩ := HR.out.at_ (k := k) (u := .string l[k]) (by simp [hkl])
      by_cases hsz : l[k].size = first.size
      · have hb : ((l[k].size : Int) != (first.size : Int)) = false := by simp [hsz]
        have HZ := Lib.hid hsz
        clear hsz
        go_wp2
        go_round
        case rel => exact ⟨k + 1, by omega, by go_num, by
          intro s hs
          rw [List.take_succ_eq_append_getElem hkl] at hs
          rcases List.mem_append.1 hs with h | h
          · exact HA.out s h
          · rw [List.mem_singleton.1 h]; exact HZ.out⟩
        case measure => simp [intOf]; omega
      · have hb : ((l[k].size : Int) != (first.size : Int)) = true := by simp; omega
        have HF : Hid (missR first l = (⟨#[]⟩, 10)) := Lib.hid (missR_no fun h => hsz (h _ (List.getElem_mem hkl)))
        clear hsz
        go_wp2
        go_ret2
        rw [HF.out]
        exact ⟨rfl, Below.refl _ _⟩
    · have HF : Hid (∀ s ∈ l, s.size = first.size) := Lib.hid fun s hs => HA.out s (by
        rw [List.take_of_length_le (by rw [HN.out]; omega)]; exact hs)
      go_wp2_with (go_at_call 42; refine (together_any first l A n c w HR.out HF.out HS.out HM.out HN.out).mono ?_; rintro e w' ⟨rfl, hb⟩)
      go_ret2
      rw [missR_ok HF.out]
      exact ⟨rfl, hb⟩

theorem missing_v (r first : ByteArray) (l : List ByteArray) (A : Option Addr) (n c : Nat) (w : World) (hv : missR first l = (r, 0)) (hr : Rd w w.heap.size A (l.map Value.string))
    (hs : first.size ≤ maxLen) (hn : n ≤ maxLen) (hln : l.length = n) :
    Calls Try.prog 37 #[.string first, .slice A n c] w fun e w' => e = .returned (.tuple #[.string r, .int .i64 0]) ∧ Below w.heap.size w w' := by
  have h := missing_any first l A n c w hr hs hn hln
  rw [hv] at h
  exact h

theorem all_none (A : Option Addr) (c : Nat) (w : World) :
    Calls Try.prog 36 #[.slice A 0 c] w fun e w' => e = .returned (.tuple #[.string ⟨#[]⟩, .int .i64 10]) ∧ Below w.heap.size w w' := by
  go_enter Try.func36, Try.ntmps36
  go_wp2
  go_ret2
  exact ⟨rfl, Below.refl _ _⟩

theorem all_some (first : ByteArray) (l : List ByteArray) (A : Option Addr) (n c : Nat) (w : World) (hr : Rd w w.heap.size A ((first :: l).map Value.string))
    (hs : first.size ≤ maxLen) (hn : n ≤ c) (hc : c ≤ maxLen) (hln : l.length + 1 = n) :
    Calls Try.prog 36 #[.slice A n c] w fun e w' => e = .returned (.tuple #[.string (missR first l).1, .int .i64 (missR first l).2]) ∧ Below w.heap.size w w' := by
  obtain ⟨b, off, rfl, _, hcell⟩ := hr.at_ (k := 0) (u := .string first) rfl
  rw [Nat.add_zero] at hcell
  have h0 : 0 < n := by omega
  have h1 : (1 : Int) ≤ n := by omega
  have h3 : (1 : Int) ≤ c := by omega
  have h4 : (n : Int) ≤ c := by omega
  have h2 : ((n : Int) == 0) = false := by simp; omega
  have HS := Lib.hid hs
  have hrd : Rd w.drew w.drew.heap.size (if c = 1 then some (⟨b, off, none⟩ : Addr) else (some (⟨b, off, none⟩ : Addr)).map (·.add 1)) (l.map Value.string) :=
    (hr.tail 1 c (by intro h; simp only [List.length_map, List.length_cons]; omega)).drew
  have HR := Lib.hid hrd
  have HN := Lib.hid hln
  have HM := Lib.hid hc
  have hc2 := hc
  unfold maxLen at hs hc2
  clear hr hln hc hrd
  by_cases hc1 : c = 1
  · subst hc1
    obtain rfl : n = 1 := by omega
    obtain rfl : l = [] := by
      have := HN.out
      exact List.eq_nil_of_length_eq_zero (by omega)
    clear HN HR h0 h1 h3 h4 h2
    go_enter Try.func36, Try.ntmps36
    go_wp2
    go_region_with (go_at_call 37; refine (missing_any first [] _ 0 0 w.drew (Rd.nil _ _ _) HS.out (Nat.zero_le _) rfl).mono ?_; rintro e w' ⟨rfl, hb⟩)
    all_goals (try go_wp2)
    all_goals (go_ret2; exact ⟨rfl, (Below.refl w.heap.size w).drew.trans hb⟩)
  · have HR2 : Rd w.drew w.drew.heap.size (some ⟨b, off + 1, none⟩) (l.map Value.string) := by
      have h := HR.out
      rw [if_neg hc1, Option.map_some, Addr.add_lit] at h
      exact h
    go_enter Try.func36, Try.ntmps36
    go_wp2
    go_region_with (go_at_call 37; refine (missing_any first l _ (n - 1) (c - 1) w.drew HR2 HS.out (by have := HM.out; omega) (by have := HN.out; omega)).mono ?_; rintro e w' ⟨rfl, hb⟩)
    all_goals (try go_wp2)
    all_goals (go_ret2; exact ⟨rfl, (Below.refl w.heap.size w).drew.trans hb⟩)

theorem all_n (n0 : Nat) (L : List ByteArray) (A : Option Addr) (n c : Nat) (w : World) (hr : Rd w w.heap.size A (L.map Value.string)) (hsz : ∀ s ∈ L, s.size = n0) (hln : L.length = n) (h0 : 0 < n) (hnc : n ≤ c) (hc : c ≤ maxLen) (hn0 : n0 ≤ maxLen) :
    Calls Try.prog 36 #[.slice A n c] w fun e w' => e = .returned (.tuple #[.string (sumX n0 L), .int .i64 0]) ∧ Below w.heap.size w w' := by
  cases L with
  | nil => simp at hln; omega
  | cons a l =>
    have h := all_some a l A n c w hr (by rw [hsz a (by simp)]; exact hn0) hnc hc hln
    have e : missR a l = (sumX n0 (a :: l), 0) := allR_ok (by simp) hsz
    rw [e] at h
    exact h

theorem all_v (r : ByteArray) (n0 : Nat) (L : List ByteArray) (A : Option Addr) (n c : Nat) (w : World) (hv : sumX n0 L = r) (hr : Rd w w.heap.size A (L.map Value.string)) (hsz : ∀ s ∈ L, s.size = n0) (hln : L.length = n) (h0 : 0 < n) (hnc : n ≤ c) (hc : c ≤ maxLen) (hn0 : n0 ≤ maxLen) :
    Calls Try.prog 36 #[.slice A n c] w fun e w' => e = .returned (.tuple #[.string r, .int .i64 0]) ∧ Below w.heap.size w w' := by
  subst hv
  exact all_n n0 L A n c w hr hsz hln h0 hnc hc hn0

theorem moved_no (a b c : ByteArray) (w : World) (h : ¬ (b.size = a.size ∧ c.size = a.size)) :
    Calls Try.prog 38 #[.string a, .string b, .string c] w fun e w' => e = .returned (.tuple #[.string ⟨#[]⟩, .int .i64 10]) ∧ Below w.heap.size w w' := by
  by_cases h1 : b.size = a.size
  · have hb : ((b.size : Int) != (a.size : Int)) = false := by simp; omega
    have hc : ((c.size : Int) != (a.size : Int)) = true := by simp; omega
    clear h h1
    go_enter Try.func38, Try.ntmps38
    go_wp2
    go_ret2
    exact ⟨rfl, Below.refl _ _⟩
  · have hb : ((b.size : Int) != (a.size : Int)) = true := by simp; omega
    clear h h1
    go_enter Try.func38, Try.ntmps38
    go_wp2
    go_ret2
    exact ⟨rfl, Below.refl _ _⟩

theorem moved_yes (a b c : ByteArray) (w : World) (h : b.size = a.size ∧ c.size = a.size) (hs : a.size ≤ maxLen) :
    Calls Try.prog 38 #[.string a, .string b, .string c] w fun e w' => e = .returned (.tuple #[.string (xorB (xorB a b) c), .int .i64 0]) ∧ Below w.heap.size w w' := by
  have hb : ((b.size : Int) != (a.size : Int)) = false := by simp; omega
  have hc : ((c.size : Int) != (a.size : Int)) = false := by simp; omega
  have H := Lib.hid h
  have HS := Lib.hid hs
  clear h hs
  go_enter Try.func38, Try.ntmps38
  go_wp2_with (go_at_call 42; (refine (together_any a [b, c] (some ⟨w.heap.size, 0, none⟩) 2 2 (w.alloc (.cells #[.string b, .string c] 9)) (rd_texts w [b, c] 9) (by intro s hs; rcases List.mem_cons.1 hs with h | h; (rw [h]; exact H.out.1); (rw [List.mem_singleton.1 h]; exact H.out.2)) HS.out (by decide) rfl).mono ?_); rintro e w' ⟨rfl, hbel⟩)
  go_ret2
  exact ⟨rfl, (((Below.refl _ w).alloc (Nat.le_refl _) _).trans (hbel.mono (by simp)))⟩

theorem moved_v (r : ByteArray) (n : Nat) (a b c : ByteArray) (w : World) (hv : xorB (xorB a b) c = r) (ha : a.size = n) (hb : b.size = n) (hc : c.size = n) (hn : n ≤ maxLen) :
    Calls Try.prog 38 #[.string a, .string b, .string c] w fun e w' => e = .returned (.tuple #[.string r, .int .i64 0]) ∧ Below w.heap.size w w' := by
  subst ha hv
  exact moved_yes a b c w ⟨hb, hc⟩ hn

theorem moved_any (a b c : ByteArray) (w : World) (hs : a.size ≤ maxLen) :
    Calls Try.prog 38 #[.string a, .string b, .string c] w fun e w' => e = .returned (.tuple #[.string (movedR a b c).1, .int .i64 (movedR a b c).2]) ∧ Below w.heap.size w w' := by
  by_cases h : b.size = a.size ∧ c.size = a.size
  · rw [movedR, if_pos h]; exact moved_yes a b c w h hs
  · rw [movedR, if_neg h]; exact moved_no a b c w h
end Go.Proofs.Ytaahakmngdjdfaa
