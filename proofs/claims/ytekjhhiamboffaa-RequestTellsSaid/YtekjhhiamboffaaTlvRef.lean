/-
  The contracts of the document's answer to layer 3: Num, Get, Lay and Take compute what package tlv's do. Condition: lengths are Go's.
-/
import Derived.Test.YtekjhhiamboffaaTlvTake
namespace Go.Proofs.Ytekjhhiamboffaa
open Go.RowKit

set_option maxHeartbeats 1000000 in
theorem rnum_yes (n : Int) (w : World) (h : numOk n = true) :
    Calls Try.prog 43 #[.int .i64 n] w fun e w' => e = .returned (.tuple #[.string ⟨(numT n).toArray⟩, .int .i64 0]) ∧ Below w.heap.size w w' := by
  obtain ⟨h1, h2⟩ := numOk_iff.1 h
  obtain ⟨N, hN⟩ : ∃ N : Nat, (N : Int) = n + 1 := ⟨(n + 1).toNat, by omega⟩
  have hT : numT n = numL N := by unfold numT; rw [if_pos h, show (n + 1).toNat = N by omega]
  have hL : (numL N).length ≤ 6 := by rw [← hT]; exact numT_len n
  have HL := Lib.hid hL
  have hN2 : N ≤ 1099511627777 := by omega
  rw [hT]
  have HN := Lib.hid hN
  clear h hT hL
  have d1 : decide (n < -1) = false := decide_eq_false (by omega)
  have d2 : decide (1099511627776 < n) = false := decide_eq_false (by omega)
  obtain ⟨i8, hi8, hz8, hs8, hb8⟩ := info_parts u8_info
  go_enter Try.func43, Try.ntmps43
  go_wp2
  go_loopw [4, 5] (fun v i wr => ∃ (m : Nat) (l : List UInt8), m ≤ 1099511627777 ∧ i = .int .i64 m ∧ l ++ numL m = numL N ∧ wr.ownsRow w.heap.size 5 1 v l.length (cells8 l) ∧ Below w.heap.size w wr) (fun _ i _ => (intOf i).toNat)
  case atStart => exact ⟨N, [], hN2, by rw [HN.out], rfl, World.ownsRow_nil _ _ _ _, Below.refl _ _⟩
  case round =>
    obtain ⟨m, l, hm, rfl, hl, hown, hb⟩ := hrel
    by_cases h0 : 0 < m
    · have hm0 : (0 : Int) < m := by omega
      obtain ⟨hl2, hl3⟩ := num_step hl HL.out h0
      have HL2 := Lib.hid hl2
      have HO := Lib.hid hown
      clear hl hl2 hown
      have hbsz := hb.size
      go_wp2_with (at_builtin; refine wpList_append_own _ rfl (.tmp 18) (.tmp 22) 51 rfl w.heap.size 5 i8 _ 1 1 Try.underlying51 hi8 hz8 hs8 hb8 rfl (by decide) _ l.length (cells8 l) rfl (HO.out.alloc _) ⟨wr.heap.size, 0, none⟩ 1 1 [.int .u8 ((m : Int) % 256)] rfl rfl (newCell _ _ _) (by simp [Value.oneCell']) (by unfold maxLen; omega) (by omega) (by simp; omega) ?_; rintro v3 w3 hown3 hgrow3 -; have HO3 := Lib.hid hown3; have HG3 := Lib.hid hgrow3; clear hown3 hgrow3)
      go_roundw
      case rel => exact ⟨m / 256, l ++ [UInt8.ofNat (m % 256)], by omega, by go_num, HL2.out, by rw [List.length_append]; exact num_cell HO3.out, (hb.alloc hbsz _).grown HG3.out (by simp; omega) (fun j hj => by have := (HO.out.lt j hj).1; omega)⟩
      case measure => simp [intOf]; omega
    · obtain rfl : m = 0 := by omega
      have hcv := run_own8_string (P := Try.prog) Try.underlying51 Try.underlying5 Try.underlying9 hown rfl
      rw [num_fin hl] at hcv
      clear hl hown
      go_wp2
      go_ret2
      exact ⟨rfl, hb⟩
theorem rnum_no (n : Int) (w : World) (h : numOk n = false) :
    Calls Try.prog 43 #[.int .i64 n] w fun e w' => e = .returned (.tuple #[.string ⟨#[]⟩, .int .i64 30]) ∧ Below w.heap.size w w' := by
  have h' : ¬ (-1 ≤ n ∧ n ≤ 1099511627776) := of_decide_eq_false h
  clear h
  by_cases h1 : n < -1
  · clear h'
    go_enter Try.func43, Try.ntmps43
    go_wp2
    go_ret2
    exact ⟨rfl, Below.refl _ _⟩
  · have d1 : decide (n < -1) = false := decide_eq_false h1
    have d2 : decide (1099511627776 < n) = true := decide_eq_true (by omega)
    clear h1 h'
    go_enter Try.func43, Try.ntmps43
    go_wp2
    go_ret2
    exact ⟨rfl, Below.refl _ _⟩
theorem rnum_calls (n : Int) (w : World) :
    Calls Try.prog 43 #[.int .i64 n] w fun e w' => e = .returned (.tuple #[.string ⟨(numT n).toArray⟩, .int .i64 (numE n)]) ∧ Below w.heap.size w w' := by
  cases h : numOk n with
  | true => unfold numE; rw [if_pos h]; exact rnum_yes n w h
  | false => unfold numE numT; rw [if_neg (by rw [h]; simp), if_neg (by rw [h]; simp)]; exact rnum_no n w h

/-- the bytes from behind, one by one -/
theorem val_down {l : List UInt8} {k : Nat} (h : k < l.length) : valL (l.drop k) = 256 * valL (l.drop (k + 1)) + l[k].toNat := by
  rw [List.drop_eq_getElem_cons h, valL]
  omega
theorem val_drop {l : List UInt8} (k : Nat) (h : l.length ≤ 6) : valL (l.drop k) < 281474976710656 := by
  refine Nat.lt_of_lt_of_le (valL_lt _) ?_
  have h2 : (l.drop k).length ≤ 6 := by rw [List.length_drop]; omega
  exact Nat.pow_le_pow_right (n := 256) (by omega) h2
/-- a text is a number's, or it is not -/
theorem rget_law (s : ByteArray) (h : s.size ≤ 6) : (getOk s.data.toList = true ∧ 0 = numE ((valL s.data.toList : Int) - 1) ∧ s = ⟨(numT ((valL s.data.toList : Int) - 1)).toArray⟩ ∧ getN s.data.toList = (valL s.data.toList : Int) - 1) ∨
    (getOk s.data.toList = false ∧ (30 = numE ((valL s.data.toList : Int) - 1) ∨ (0 = numE ((valL s.data.toList : Int) - 1) ∧ s ≠ ⟨(numT ((valL s.data.toList : Int) - 1)).toArray⟩))) := by
  cases hg : getOk s.data.toList with
  | true =>
    obtain ⟨h1, h2⟩ := num_get hg
    have hn : getN s.data.toList = (valL s.data.toList : Int) - 1 := by unfold getN; rw [if_pos hg]
    refine Or.inl ⟨rfl, ?_, ?_, hn⟩
    · rw [← hn]; unfold numE; rw [if_pos h1]
    · rw [← hn, h2, mk_toList]
  | false =>
    refine Or.inr ⟨rfl, ?_⟩
    cases hk : numOk ((valL s.data.toList : Int) - 1) with
    | false => exact Or.inl (by unfold numE; rw [if_neg (by rw [hk]; simp)])
    | true =>
      refine Or.inr ⟨by unfold numE; rw [if_pos hk], fun e => ?_⟩
      have h1 := numOk_iff.1 hk
      have e2 : s.data.toList = numL (valL s.data.toList) := by
        have := congrArg (fun b : ByteArray => b.data.toList) e
        simp only at this
        rw [this]
        unfold numT
        rw [if_pos hk, show ((valL s.data.toList : Int) - 1 + 1).toNat = valL s.data.toList by omega, valL_numL]
      have : getOk s.data.toList = true := getOk_iff.2 ⟨by rw [byteList_size]; exact h, by rw [e2]; exact numL_last _, by omega⟩
      rw [hg] at this
      cases this
theorem rnum_v (n e : Int) (a : ByteArray) (w : World) (ha : a = ⟨(numT n).toArray⟩) (he : e = numE n) :
    Calls Try.prog 43 #[.int .i64 n] w fun r w' => r = .returned (.tuple #[.string a, .int .i64 e]) ∧ Below w.heap.size w w' := by
  subst ha he
  exact rnum_calls n w
theorem getE_is_ok {l : List UInt8} (h : getOk l = true) : getE l = 0 := by unfold getE; rw [if_pos h]
theorem getE_is_no {l : List UInt8} (h : getOk l = false) : getE l = 30 ∧ getN l = 0 := ⟨by unfold getE; rw [if_neg (by rw [h]; simp)], by unfold getN; rw [if_neg (by rw [h]; simp)]⟩
set_option maxHeartbeats 1000000 in
theorem rget_calls (s : ByteArray) (w : World) :
    Calls Try.prog 35 #[.string s] w fun e w' => e = .returned (.tuple #[.int .i64 (getN s.data.toList), .int .i64 (getE s.data.toList)]) ∧ Below w.heap.size w w' := by
  by_cases h6 : s.size ≤ 6
  · have hl6 : s.data.toList.length ≤ 6 := by rw [byteList_size]; exact h6
    go_enter Try.func35, Try.ntmps35
    go_wp2
    go_loopw [4, 5] (fun v i wr => ∃ k : Nat, k ≤ s.size ∧ v = .int .i64 (valL (s.data.toList.drop k)) ∧ i = .int .i64 ((k : Int) - 1) ∧ wr = w) (fun _ i _ => (intOf i + 1).toNat)
    case atStart => exact ⟨s.size, Nat.le_refl _, by rw [List.drop_of_length_le (by rw [byteList_size]; exact Nat.le_refl _)]; rfl, rfl, rfl⟩
    case round =>
      obtain ⟨k, hks, rfl, rfl, rfl⟩ := hrel
      by_cases hk0 : 0 < k
      · obtain ⟨j, rfl⟩ : ∃ j, k = j + 1 := ⟨k - 1, by omega⟩
        have hjs : j < s.size := by omega
        have hv : valL (s.data.toList.drop j) = 256 * valL (s.data.toList.drop (j + 1)) + s[j].toNat := val_down (l := s.data.toList) (k := j) (by rw [byteList_size]; omega)
        have hlt := val_drop (l := s.data.toList) (j + 1) hl6
        have hlt2 := val_drop (l := s.data.toList) j hl6
        have hjl : j < s.data.toList.length := by rw [byteList_size]; exact hjs
        have hj0 : (0 : Int) ≤ (j : Int) := by omega
        have hbyte := s[j].toNat_lt
        obtain ⟨V, hV⟩ : ∃ V, V = valL (s.data.toList.drop (j + 1)) := ⟨_, rfl⟩
        rw [← hV] at hv hlt ⊢
        have hw1 : IntKind.i64.wrap (256 * (V : Int)) = 256 * (V : Int) := IntWalk.i64_in _ (by omega)
        have hw2 : wrap64 (s[j].toNat : Int) = (s[j].toNat : Int) := IntWalk.wrap64_in _ (by omega)
        have hw3 : IntKind.i64.wrap (256 * (V : Int) + (s[j].toNat : Int)) = 256 * (V : Int) + (s[j].toNat : Int) := IntWalk.i64_in _ (by omega)
        have hi : (((j + 1 : Nat) : Int) - 1) = (j : Int) := by omega
        rw [hi]
        have HV := Lib.hid hv
        clear hv hV hlt2 hi
        go_wp2
        go_roundw
        case rel => exact ⟨j, by omega, congrArg (Value.int .i64) (by rw [HV.out]; omega), rfl, trivial⟩
        case measure => simp [intOf]
      · obtain rfl : k = 0 := by omega
        rw [List.drop_zero]
        obtain ⟨V, hV⟩ : ∃ V, V = valL s.data.toList := ⟨_, rfl⟩
        have hlt := val_drop (l := s.data.toList) 0 hl6
        rw [List.drop_zero, ← hV] at hlt
        obtain ⟨T, hT⟩ : ∃ T : ByteArray, T = ⟨(numT ((V : Int) - 1)).toArray⟩ := ⟨_, rfl⟩
        have hlaw := rget_law s h6
        rw [← hV, ← hT] at hlaw
        rw [← hV]
        have HT := Lib.hid hT
        have h00 : (((0 : Nat) : Int) - 1) = -1 := by omega
        rw [h00]
        clear hV hT h00
        rcases hlaw with ⟨g1, g2, g3, g4⟩ | ⟨g1, g2 | ⟨g2, g3⟩⟩
        · have G2 := Lib.hid g2
          have G4 := Lib.hid g4
          have HE := Lib.hid (getE_is_ok g1)
          have hq : (T.toList == s.toList) = true := by rw [g3]; exact beq_self_eq_true _
          clear g1 g2 g3 g4
          go_wp2_with (go_at_call 43; refine (rnum_v ((V : Int) - 1) 0 T _ HT.out G2.out).mono ?_; rintro e w2 ⟨rfl, hk⟩)
          go_ret2
          exact ⟨by rw [G4.out, HE.out]; rfl, hk⟩
        · have G2 := Lib.hid g2
          have HE := Lib.hid (getE_is_no g1)
          clear g1 g2
          go_wp2_with (go_at_call 43; refine (rnum_v ((V : Int) - 1) 30 T _ HT.out G2.out).mono ?_; rintro e w2 ⟨rfl, hk⟩)
          go_ret2
          exact ⟨by rw [HE.out.1, HE.out.2]; rfl, hk⟩
        · have G2 := Lib.hid g2
          have HE := Lib.hid (getE_is_no g1)
          have hq : (T.toList == s.toList) = false := by
            rw [beq_eq_false_iff_ne, ByteArray.toList_eq, ByteArray.toList_eq]
            exact fun e => g3 (by rw [← mk_toList s, ← e, mk_toList])
          clear g1 g2 g3
          go_wp2_with (go_at_call 43; refine (rnum_v ((V : Int) - 1) 0 T _ HT.out G2.out).mono ?_; rintro e w2 ⟨rfl, hk⟩)
          go_ret2
          exact ⟨by rw [HE.out.1, HE.out.2]; rfl, hk⟩
  · have hg : getOk s.data.toList = false := by
      cases h : getOk s.data.toList with
      | true => have := (getOk_iff.1 h).1; rw [byteList_size] at this; exact absurd this h6
      | false => rfl
    unfold getN getE
    rw [if_neg (by rw [hg]; simp), if_neg (by rw [hg]; simp)]
    clear hg
    go_enter Try.func35, Try.ntmps35
    go_wp2
    go_ret2
    exact ⟨rfl, Below.refl _ _⟩

theorem lay_accum {l : List Fld} {k : Nat} {acc x : ByteArray} {t : Int} (h : k < l.length) (ha : acc = ⟨(layL (l.take k)).toArray⟩) (ht : t = l[k].1) (hx : x = l[k].2) : acc ++ ⟨(headL t x.size).toArray⟩ ++ x = ⟨(layL (l.take (k + 1))).toArray⟩ := by
  rw [← mk_toList (acc ++ ⟨(headL t x.size).toArray⟩ ++ x)]
  have : (acc ++ (⟨(headL t x.size).toArray⟩ : ByteArray) ++ x).data.toList = acc.data.toList ++ headL t x.size ++ x.data.toList := by simp
  rw [this, ha, toList_mk, ht, hx, ← layL_step h]
theorem run_head (t : Int) (n : Nat) (h1 : 1 ≤ t) (h2 : t ≤ 255) (h3 : n ≤ 400) (W : World) : (convert 51 9 (.slice (some ⟨W.heap.size, 0, none⟩) 3 3)).run Try.prog ((W.alloc (.cells #[.int .u8 t, .int .u8 ((n : Int) % 256), .int .u8 ((n : Int) / 256)] 5)).drew) = .ok (.string ⟨(headL t n).toArray⟩) ((W.alloc (.cells #[.int .u8 t, .int .u8 ((n : Int) % 256), .int .u8 ((n : Int) / 256)] 5)).drew) := by
  refine run_row8_string (P := Try.prog) Try.underlying51 Try.underlying5 Try.underlying9 (l := headL t n) ?_ 3 3 rfl
  intro j b hb
  have hj : (cells8 (headL t n))[j]? = some (.int .u8 (b.toNat : Int)) := by simp only [cells8, List.getElem?_map, hb, Option.map_some]
  rw [head_cells h1 h2 h3] at hj
  constructor
  · exact (World.cell?_alloc_mark W _ _ (0, 0) j).trans (by simpa using hj)
  · exact (World.frozen?_alloc_mark W _ _ 0 0 j).trans (by simp)

set_option maxHeartbeats 2000000 in
theorem rlay_few (l : List Fld) (A : Option Addr) (n c : Nat) (w : World) (hr : Rd w w.heap.size A (fldCells l)) (hln : l.length = n) (hn : n ≤ 64) :
    Calls Try.prog 29 #[.slice A n c] w fun e w' => e = .returned (.tuple #[.string ⟨(layT l).toArray⟩, .int .i64 (layE l)]) ∧ Below w.heap.size w w' := by
  have HR := Lib.hid hr
  have HN := Lib.hid hln
  clear hr hln
  go_enter Try.func29, Try.ntmps29
  go_wp2
  go_loopw [4, 5] (fun v i wr => ∃ (k : Nat) (acc : ByteArray), k ≤ n ∧ i = .int .i64 k ∧ v = .string acc ∧ allOk (l.take k) ∧ acc = ⟨(layL (l.take k)).toArray⟩ ∧ Below w.heap.size w wr) (fun _ i _ => n - (intOf i).toNat)
  case atStart => exact ⟨0, ⟨#[]⟩, Nat.zero_le _, rfl, rfl, by intro f hf; simp at hf, rfl, Below.refl _ _⟩
  case round =>
    obtain ⟨k, acc, hk, rfl, rfl, hall, hacc, hb⟩ := hrel
    have hasz : acc.size ≤ 25792 := by
      have h1 := layL_length hall
      rw [List.length_take] at h1
      rw [hacc, size_mk]
      omega
    have HALL := Lib.hid hall
    have HACC := Lib.hid hacc
    clear hall hacc
    by_cases hlt : k < n
    · have hkl : k < l.length := by rw [HN.out]; exact hlt
      obtain ⟨b, off, rfl, hbB, hc0⟩ := (HR.out.below hb).at_ (fldCells_tag hkl)
      have hc1 := (HR.out.below hb).cell_ (fldCells_text hkl)
      rw [← Nat.add_assoc] at hc1
      obtain ⟨t, ht⟩ : ∃ t, t = l[k].1 := ⟨_, rfl⟩
      obtain ⟨s, hs⟩ : ∃ s, s = l[k].2 := ⟨_, rfl⟩
      rw [← ht] at hc0
      rw [← hs] at hc1
      have HT := Lib.hid ht
      have HS := Lib.hid hs
      clear ht hs
      have hbsz := hb.size
      have hkn : (k : Int) < (n : Int) := by omega
      by_cases hok : 1 ≤ t ∧ t ≤ 255 ∧ s.size ≤ 400
      · obtain ⟨t1, t2, t3⟩ := hok
        have hcv := run_head t s.size t1 t2 t3 wr
        have hw1 : IntKind.u8.wrap t = t := by show t % 256 = t; omega
        have hw2 : (s.size : Int).tmod 256 = (s.size : Int) % 256 := Int.tmod_eq_emod_of_nonneg (by omega)
        have hw3 : IntKind.u8.wrap ((s.size : Int) % 256) = (s.size : Int) % 256 := by show (s.size : Int) % 256 % 256 = (s.size : Int) % 256; omega
        have hw4 : (s.size : Int).tdiv 256 = (s.size : Int) / 256 := Int.tdiv_eq_ediv_of_nonneg (by omega)
        have hw5 : IntKind.u8.wrap ((s.size : Int) / 256) = (s.size : Int) / 256 := by show (s.size : Int) / 256 % 256 = (s.size : Int) / 256; omega
        have hw6 : IntKind.i64.wrap ((s.size : Int) / 256) = (s.size : Int) / 256 := IntWalk.i64_in _ (by omega)
        have hs0 : (⟨(headL t s.size).toArray⟩ : ByteArray).size = 3 := size_mk _
        have hs1 : (acc ++ (⟨(headL t s.size).toArray⟩ : ByteArray)).size ≤ 25795 := by rw [ByteArray.size_append, hs0]; omega
        go_wp2
        have hc2 : ((wr.alloc (.cells #[.int .u8 t, .int .u8 ((s.size : Int) % 256), .int .u8 ((s.size : Int) / 256)] 5)).drew).cell? ⟨b, off + k * 2 + 1, none⟩ = some (.string s) := (World.cell?_alloc_lt wr _ ⟨b, off + k * 2 + 1, none⟩ (show b < wr.heap.size by omega)).trans hc1
        go_region
        go_wp2_with fail
        go_roundw
        case rel =>
          exact ⟨k + 1, acc ++ ⟨(headL t s.size).toArray⟩ ++ s, by omega, by go_num, rfl, allOk_step hkl HALL.out (okF_iff.2 ⟨by rw [← HT.out]; exact t1, by rw [← HT.out]; exact t2, by rw [← HS.out]; exact t3⟩), lay_accum hkl HACC.out HT.out HS.out, (hb.alloc hbsz _).drew⟩
        case measure => simp [intOf]; omega
      · have hbad := lay_bad hkl (fun h => hok (by rw [HT.out, HS.out]; exact okF_iff.1 h))
        have HB := Lib.hid hbad
        clear hbad
        rcases (show t < 1 ∨ (1 ≤ t ∧ 255 < t) ∨ (1 ≤ t ∧ t ≤ 255 ∧ 400 < s.size) by omega) with g | ⟨g1, g⟩ | ⟨g1, g2, g⟩
        all_goals
          clear hok
          go_wp2
          go_ret2
          exact ⟨by rw [HB.out.1, HB.out.2]; rfl, hb⟩
    · have hkn : k = n := by omega
      subst hkn
      have htk : l.take k = l := List.take_of_length_le (by rw [HN.out]; exact Nat.le_refl _)
      have hok : layOk l = true := layOk_iff.2 ⟨by rw [HN.out]; exact hn, by rw [← htk]; exact HALL.out⟩
      have hT : (⟨(layT l).toArray⟩ : ByteArray) = acc := by unfold layT; rw [if_pos hok, HACC.out, htk]
      have hE : layE l = 0 := by unfold layE; rw [if_pos hok]
      have HTT := Lib.hid hT
      have HE := Lib.hid hE
      clear htk hok hT hE
      go_wp2
      go_ret2
      exact ⟨by rw [HE.out, HTT.out]; rfl, hb⟩
theorem rlay_many (l : List Fld) (A : Option Addr) (n c : Nat) (w : World) (hln : l.length = n) (hn : 64 < n) :
    Calls Try.prog 29 #[.slice A n c] w fun e w' => e = .returned (.tuple #[.string ⟨(layT l).toArray⟩, .int .i64 (layE l)]) ∧ Below w.heap.size w w' := by
  have h3 : ¬ layOk l = true := fun h' => by have := (layOk_iff.1 h').1; omega
  have hT : layT l = [] := by unfold layT; rw [if_neg h3]
  have hE : layE l = 30 := by unfold layE; rw [if_neg h3]
  rw [hT, hE]
  clear h3 hT hE
  go_enter Try.func29, Try.ntmps29
  go_wp2
  go_ret2
  exact ⟨rfl, Below.refl _ _⟩
theorem rlay_calls (l : List Fld) (A : Option Addr) (n c : Nat) (w : World) (hr : Rd w w.heap.size A (fldCells l)) (hln : l.length = n) :
    Calls Try.prog 29 #[.slice A n c] w fun e w' => e = .returned (.tuple #[.string ⟨(layT l).toArray⟩, .int .i64 (layE l)]) ∧ Below w.heap.size w w' := by
  by_cases hn : n ≤ 64
  · exact rlay_few l A n c w hr hln hn
  · exact rlay_many l A n c w hln (by omega)
end Go.Proofs.Ytekjhhiamboffaa
