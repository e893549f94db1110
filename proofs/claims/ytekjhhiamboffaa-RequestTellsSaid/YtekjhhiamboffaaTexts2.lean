/-
  The contract of Texts: raw texts, all as long, cut or with noughts behind. Condition: at most 4096 texts, of at most 65536 bytes.
-/
import Derived.Test.YtekjhhiamboffaaXorMath
import Derived.Test.YtekjhhiamboffaaInfo
namespace Go.Proofs.Ytekjhhiamboffaa
open Go.RowKit

/-- a text cut to a length, or with noughts behind -/
def fitB (long : Nat) (s : ByteArray) : ByteArray := ⟨(s.data.toList.take long ++ (List.replicate long 0).drop s.size).toArray⟩
def textsL (raw : List ByteArray) (many long : Nat) : List ByteArray := (List.range many).map fun i => if h : i < raw.length then fitB long raw[i] else zeroB long
theorem fitB_size (long : Nat) (s : ByteArray) : (fitB long s).size = long := by
  rw [fitB, size_mk, List.length_append, List.length_take, List.length_drop, List.length_replicate, byteList_size]
  omega
theorem textsL_length (raw : List ByteArray) (many long : Nat) : (textsL raw many long).length = many := by simp [textsL]
theorem textsL_size (raw : List ByteArray) (many long : Nat) : ∀ s ∈ textsL raw many long, s.size = long := by
  intro s hs
  obtain ⟨i, _, rfl⟩ := List.mem_map.1 hs
  split
  · exact fitB_size _ _
  · exact zeroB_size _
theorem textsL_snoc (raw : List ByteArray) (k long : Nat) : textsL raw (k + 1) long = textsL raw k long ++ [if h : k < raw.length then fitB long raw[k] else zeroB long] := by
  simp [textsL, List.range_succ]

theorem rel_texts {w wm w' : World} {v v' : Value} {k long : Nat} {raw : List ByteArray} {s : ByteArray}
    (hown' : w'.ownsRow w.heap.size 9 1 v' (k + 1) ((textsL raw k long).map Value.string ++ [.string s])) (hs : s = if h : k < raw.length then fitB long raw[k] else zeroB long)
    (hb : Below w.heap.size w wm) (hg : wm.grownBy w' v.ownBlock) (hv : ∀ k, v.ownBlock = some k → w.heap.size ≤ k) :
    w'.ownsRow w.heap.size 9 1 v' (k + 1) ((textsL raw (k + 1) long).map Value.string) ∧ Below w.heap.size w w' := by
  subst hs
  rw [textsL_snoc, List.map_append]
  exact ⟨hown', hb.grown hg hb.size hv⟩

set_option maxHeartbeats 1000000 in
theorem texts_calls (raw : List ByteArray) (A : Option Addr) (n c many long : Nat) (w : World) (hr : Rd w w.heap.size A (raw.map Value.string)) (hln : raw.length = n) (hn : n ≤ maxLen) (hm : many ≤ 4096) (hl : long ≤ 65536) :
    Calls Try.prog 23 #[.slice A n c, .int .i64 many, .int .i64 long] w fun e w' => ∃ v, e = .returned v ∧ w'.ownsRow w.heap.size 9 1 v many ((textsL raw many long).map Value.string) ∧ Below w.heap.size w w' := by
  unfold maxLen at hn
  obtain ⟨i8, hi8, hz8, hs8, hb8⟩ := info_parts u8_info
  obtain ⟨iS, hiS, hzS, hsS, hbS⟩ := info_parts string_info
  have HR := Lib.hid hr
  have HN := Lib.hid hln
  have HB8 := Lib.hid hb8
  clear hr hln hb8
  go_enter Try.func23, Try.ntmps23
  go_wp2
  go_loopw [7, 8] (fun v i wr => ∃ k : Nat, k ≤ many ∧ i = .int .i64 k ∧ wr.ownsRow w.heap.size 9 1 v k ((textsL raw k long).map Value.string) ∧ Below w.heap.size w wr) (fun _ i _ => many - (intOf i).toNat)
  case atStart => exact ⟨0, Nat.zero_le _, rfl, by simpa [textsL] using World.ownsRow_nil _ _ _ _, Below.refl _ _⟩
  case round =>
    obtain ⟨k, hk, rfl, hown, hb⟩ := hrel
    have HW := Lib.hid hown
    clear hown
    by_cases hlt : k < many
    · by_cases hkn : k < n
      · have hkl : k < raw.length := by rw [HN.out]; exact hkn
        obtain ⟨b, off, rfl, hbB, hc⟩ := (HR.out.below hb).at_ (k := k) (u := .string raw[k]) (by simp [hkl])
        obtain ⟨s, hs⟩ : ∃ s, s = raw[k] := ⟨_, rfl⟩
        rw [← hs] at hc
        have HS := Lib.hid hs
        clear hs
        have hbsz := hb.size
        go_wp2_with (first
          | (at_make; refine wpList_make_full _ rfl _ _ 51 rfl w.heap.size 5 i8 (.int .u8 0) 1 Try.underlying51 hi8 hz8 hs8 _ _ _ _ long rfl rfl rfl rfl (by rw [HB8.out]; omega) (by unfold maxLen; omega) hbsz ?_; intro w1 hown1 hgrow1; rw [made8] at hown1; have hc1 := hgrow1.cell hc (by simp); have hbw1 := hb.trans ((grown_none_below hgrow1).mono hbsz); have HO1 := Lib.hid hown1; have HG1 := Lib.hid hgrow1; clear hown1 hgrow1)
          | (refine wpList_copy_str rfl (.tmp 21) (.tmp 25) 51 9 rfl 5 Try.underlying51 u8_one wr.heap.size long long rfl s rfl w.heap.size (List.replicate long 0) HO1.out ?_; intro w2 hown2 hgrow2; have hcv : (convert 51 9 (.slice (some ⟨wr.heap.size, 0, none⟩) long long)).run Try.prog w2 = .ok (.string (fitB long s)) w2 := run_row8_string (P := Try.prog) Try.underlying51 Try.underlying5 Try.underlying9 (Row8.of_own hown2) long long (by rw [← size_mk]; exact fitB_size long s); have HO2 := Lib.hid hown2; have hbw2 := hbw1.trans (grown_new_below hgrow2 hbsz hbw1.size); have HW2 := Lib.hid (own_keep_new HW.out HG1.out hgrow2); clear hown2 hgrow2)
          | (at_builtin; (refine wpList_append_own _ rfl (.tmp 27) (.tmp 30) 25 rfl w.heap.size 9 iS _ 1 16 Try.underlying25 hiS hzS hsS hbS rfl (by decide) u7 k _ rfl (HW2.out.alloc _) ⟨w2.heap.size, 0, none⟩ 1 1 [.string (fitB long s)] rfl rfl (newCell _ _ _) (oneString _) (by unfold maxLen; omega) (by omega) (by have := hbw2.size; simp; omega) ?_); intro v3 w3 hown3 hgrow3 _; have HO3 := Lib.hid hown3; have HG3 := Lib.hid hgrow3; clear hown3 hgrow3))
        go_roundw
        case rel =>
          have hR := rel_texts (w := w) (s := fitB long s) HO3.out (by rw [dif_pos hkl, HS.out]) (hbw2.alloc hbw2.size _) HG3.out (fun j hj => (HW.out.lt j hj).1)
          exact ⟨k + 1, by omega, by go_num, hR.1, hR.2⟩
        case measure => simp [intOf]; omega
      · have hcn : ¬ ((k : Int) < (n : Int)) := by omega
        have hbsz := hb.size
        go_wp2_with (first
          | (at_make; refine wpList_make_full _ rfl _ _ 51 rfl w.heap.size 5 i8 (.int .u8 0) 1 Try.underlying51 hi8 hz8 hs8 _ _ _ _ long rfl rfl rfl rfl (by rw [HB8.out]; omega) (by unfold maxLen; omega) hbsz ?_; intro w1 hown1 hgrow1; rw [made8] at hown1; have hbw1 := hb.trans ((grown_none_below hgrow1).mono hbsz); have HW1 := Lib.hid (HW.out.kept hgrow1 (by cases hv : u7.ownBlock <;> simp)); have hcv : (convert 51 9 (.slice (some ⟨wr.heap.size, 0, none⟩) long long)).run Try.prog w1 = .ok (.string (zeroB long)) w1 := run_row8_string (P := Try.prog) Try.underlying51 Try.underlying5 Try.underlying9 (Row8.of_own hown1) long long (by simp); clear hown1 hgrow1)
          | (at_builtin; (refine wpList_append_own _ rfl (.tmp 27) (.tmp 30) 25 rfl w.heap.size 9 iS _ 1 16 Try.underlying25 hiS hzS hsS hbS rfl (by decide) u7 k _ rfl (HW1.out.alloc _) ⟨w1.heap.size, 0, none⟩ 1 1 [.string (zeroB long)] rfl rfl (newCell _ _ _) (oneString _) (by unfold maxLen; omega) (by omega) (by have := hbw1.size; simp; omega) ?_); intro v3 w3 hown3 hgrow3 _; have HO3 := Lib.hid hown3; have HG3 := Lib.hid hgrow3; clear hown3 hgrow3))
        go_roundw
        case rel =>
          have hR := rel_texts (w := w) (s := zeroB long) HO3.out (by rw [dif_neg (by rw [HN.out]; exact hkn)]) (hbw1.alloc hbw1.size _) HG3.out (fun j hj => (HW.out.lt j hj).1)
          exact ⟨k + 1, by omega, by go_num, hR.1, hR.2⟩
        case measure => simp [intOf]; omega
    · have hkm : k = many := by omega
      have HK := Lib.hid hkm
      clear hkm
      go_wp2
      go_ret
      rw [← HK.out]
      exact ⟨_, rfl, HW.out, hb⟩

/-- the same, at least one text: what the slice looks like, and what it holds -/
theorem texts_some (raw : List ByteArray) (A : Option Addr) (n c : Nat) (mi li : Int) (m l : Nat) (w : World) (hr : Rd w w.heap.size A (raw.map Value.string)) (hln : raw.length = n) (hn : n ≤ maxLen)
    (hmi : mi = m) (hli : li = l) (hm0 : 0 < m) (hm : m ≤ 4096) (hl : l ≤ 65536) :
    Calls Try.prog 23 #[.slice A n c, .int .i64 mi, .int .i64 li] w fun e w' => ∃ (g cc : Nat) (L : List ByteArray), L = textsL raw m l ∧ e = .returned (.slice (some ⟨g, 0, none⟩) m cc) ∧ w.heap.size ≤ g ∧ g < w'.heap.size ∧ m ≤ cc ∧ cc ≤ maxLen ∧
      L.length = m ∧ (∀ s ∈ L, s.size = l) ∧ w'.ownsRow w.heap.size 9 1 (.slice (some ⟨g, 0, none⟩) m cc) m (L.map Value.string) ∧ Below w.heap.size w w' := by
  subst hmi hli
  refine (texts_calls raw A n c m l w hr hln hn hm hl).mono fun e w' ⟨v, he, hown, hb⟩ => ?_
  obtain ⟨g, cc, rfl, h1, h2, h3, h4⟩ := own_some hown hm0
  exact ⟨g, cc, _, rfl, he, h1, h2, h3, h4, textsL_length _ _ _, textsL_size _ _ _, hown, hb⟩
end Go.Proofs.Ytekjhhiamboffaa
