/-
  The contracts of tlv.Num and tlv.Get, for all numbers and texts. Condition: numbers are Go's.
-/
import Derived.Test.YtekjhhiamboffaaTlvMath
import Derived.Test.YtekjhhiamboffaaProg
import Derived.RegionTactic
import Derived.BigQuiet
import Derived.KernelRfl
import Derived.Laws.BitsAllLaws
namespace Go.Proofs.Ytekjhhiamboffaa
open Go.RowKit

theorem u8_info : (Try.prog.info? 5).map (fun i => (i.zero, i.size, i.bytes)) = some (some (.int .u8 0), 1, 1) := by kernel_rfl
theorem run_own8_string {P : Program} {w : World} {base n : Nat} {src dst e : TypeId} {v : Value} {l : List UInt8} (hs : P.underlying src = some (.slice e)) (he : P.underlying e = some (.int .u8)) (hd : P.underlying dst = some .string)
    (h : w.ownsRow base e 1 v n (cells8 l)) (hn : l.length = n) : (convert src dst v).run P w = .ok (.string ⟨l.toArray⟩) w := by
  rcases Nat.eq_zero_or_pos n with h0 | h0
  · subst h0
    have hl : l = [] := List.eq_nil_of_length_eq_zero hn
    subst hl
    rcases h.2 with ⟨rfl, _⟩ | ⟨g, cap, cur, rfl, _⟩
    · rw [run_convert_bytes_string w src dst e none 0 0 hs he hd]
      simp [Conv.bytesToString, go_sem]
      rfl
    · exact run_row8_string hs he hd (l := []) (fun j b hb => by simp at hb) 0 cap rfl
  · obtain ⟨g, c, rfl, -, -, -, -⟩ := own_some h h0
    exact run_row8_string hs he hd (Row8.of_own h) n c hn
theorem cells8_app (a b : List UInt8) : cells8 (a ++ b) = cells8 a ++ cells8 b := by simp [cells8]
theorem num_step {N m : Nat} {l : List UInt8} (h : l ++ numL m = numL N) (hN : (numL N).length ≤ 6) (h0 : 0 < m) : (l ++ [UInt8.ofNat (m % 256)]) ++ numL (m / 256) = numL N ∧ l.length < 6 := by
  rw [numL_pos h0] at h
  refine ⟨by rw [List.append_assoc]; exact h, ?_⟩
  rw [← h, List.length_append, List.length_cons] at hN
  omega
theorem num_fin {N : Nat} {l : List UInt8} (h : l ++ numL 0 = numL N) : l = numL N := by rw [numL_zero, List.append_nil] at h; exact h
theorem num_cell {w : World} {base m k : Nat} {e : TypeId} {v : Value} {l : List UInt8} (h : w.ownsRow base e 1 v k (cells8 l ++ [.int .u8 ((m : Int) % 256)])) : w.ownsRow base e 1 v k (cells8 (l ++ [UInt8.ofNat (m % 256)])) := by
  rw [cells8_app]
  have : cells8 [UInt8.ofNat (m % 256)] = [.int .u8 ((m : Int) % 256)] := by
    simp only [cells8, List.map_cons, List.map_nil]
    rw [u8_of_lt (by omega)]
    simp
  rw [this]
  exact h

set_option maxHeartbeats 1000000 in
theorem num_yes (n : Int) (w : World) (h : numOk n = true) :
    Calls Try.prog 42 #[.int .i64 n] w fun e w' => e = .returned (.tuple #[.string ⟨(numT n).toArray⟩, .int .i64 0]) ∧ Below w.heap.size w w' := by
  obtain ⟨h1, h2⟩ := numOk_iff.1 h
  obtain ⟨N, hN⟩ : ∃ N : Nat, (N : Int) = n + 1 := ⟨(n + 1).toNat, by omega⟩
  have hT : numT n = numL N := by unfold numT; rw [if_pos h, show (n + 1).toNat = N by omega]
  have hL : (numL N).length ≤ 6 := by rw [← hT]; exact numT_len n
  have HL := Lib.hid hL
  have hN2 : N ≤ 1099511627777 := by omega
  rw [hT]
  have HN := Lib.hid hN
  clear h hT hL
  have d1 : decide (n < -1) = false := decide_eq_false (by omega)
  have d2 : decide (1099511627776 < n) = false := decide_eq_false (by omega)
  obtain ⟨i8, hi8, hz8, hs8, hb8⟩ := info_parts u8_info
  go_enter Try.func42, Try.ntmps42
  go_wp2
  go_loopw [0, 4] (fun i v wr => ∃ (m : Nat) (l : List UInt8), m ≤ 1099511627777 ∧ i = .int .i64 m ∧ l ++ numL m = numL N ∧ wr.ownsRow w.heap.size 5 1 v l.length (cells8 l) ∧ Below w.heap.size w wr) (fun i _ _ => (intOf i).toNat)
  case atStart => exact ⟨N, [], hN2, by rw [HN.out], rfl, World.ownsRow_nil _ _ _ _, Below.refl _ _⟩
  case round =>
    obtain ⟨m, l, hm, rfl, hl, hown, hb⟩ := hrel
    by_cases h0 : 0 < m
    · have hm0 : (0 : Int) < m := by omega
      obtain ⟨hl2, hl3⟩ := num_step hl HL.out h0
      have HL2 := Lib.hid hl2
      have HO := Lib.hid hown
      clear hl hl2 hown
      have hbsz := hb.size
      go_wp2_with (at_builtin; refine wpList_append_own _ rfl (.tmp 17) (.tmp 20) 51 rfl w.heap.size 5 i8 _ 1 1 Try.underlying51 hi8 hz8 hs8 hb8 rfl (by decide) _ l.length (cells8 l) rfl (HO.out.alloc _) ⟨wr.heap.size, 0, none⟩ 1 1 [.int .u8 ((m : Int) % 256)] rfl rfl (newCell _ _ _) (by simp [Value.oneCell']) (by unfold maxLen; omega) (by omega) (by simp; omega) ?_; intro v3 w3 hown3 hgrow3 _; have HO3 := Lib.hid hown3; have HG3 := Lib.hid hgrow3; clear hown3 hgrow3)
      go_roundw
      case rel => exact ⟨m / 256, l ++ [UInt8.ofNat (m % 256)], by omega, by go_num, HL2.out, by rw [List.length_append]; exact num_cell HO3.out, (hb.alloc hbsz _).grown HG3.out (by simp; omega) (fun j hj => by have := (HO.out.lt j hj).1; omega)⟩
      case measure => simp [intOf]; omega
    · obtain rfl : m = 0 := by omega
      have hcv := run_own8_string (P := Try.prog) Try.underlying51 Try.underlying5 Try.underlying9 hown rfl
      rw [num_fin hl] at hcv
      clear hl hown
      go_wp2
      go_ret2
      exact ⟨rfl, hb⟩
theorem num_no (n : Int) (w : World) (h : numOk n = false) :
    Calls Try.prog 42 #[.int .i64 n] w fun e w' => e = .returned (.tuple #[.string ⟨#[]⟩, .int .i64 30]) ∧ Below w.heap.size w w' := by
  have h' : ¬ (-1 ≤ n ∧ n ≤ 1099511627776) := of_decide_eq_false h
  clear h
  by_cases h1 : n < -1
  · clear h'
    go_enter Try.func42, Try.ntmps42
    go_wp2
    go_ret2
    exact ⟨rfl, Below.refl _ _⟩
  · have d1 : decide (n < -1) = false := decide_eq_false h1
    have d2 : decide (1099511627776 < n) = true := decide_eq_true (by omega)
    clear h1 h'
    go_enter Try.func42, Try.ntmps42
    go_wp2
    go_ret2
    exact ⟨rfl, Below.refl _ _⟩
theorem num_calls (n : Int) (w : World) :
    Calls Try.prog 42 #[.int .i64 n] w fun e w' => e = .returned (.tuple #[.string ⟨(numT n).toArray⟩, .int .i64 (numE n)]) ∧ Below w.heap.size w w' := by
  cases h : numOk n with
  | true => unfold numE; rw [if_pos h]; exact num_yes n w h
  | false => unfold numE numT; rw [if_neg (by rw [h]; simp), if_neg (by rw [h]; simp)]; exact num_no n w h

theorem lastB {s : ByteArray} (h : s.size - 1 < s.size) : s.data.toList.getLast? = some s[s.size - 1] := by
  rw [List.getLast?_eq_getElem?, byteList_size, List.getElem?_eq_getElem (by rw [byteList_size]; exact h)]
  rfl
theorem u8_zero {b : UInt8} : ((b.toNat : Int) == 0) = decide (b = 0) := by
  rw [Bool.eq_iff_iff, beq_iff_eq, decide_eq_true_iff]
  constructor
  · intro h; exact UInt8.toNat_inj.1 (by have : b.toNat = 0 := (by omega); rw [this]; rfl)
  · intro h; subst h; rfl
theorem notEmpty {s : ByteArray} (h : 0 < s.size) : s.toList.isEmpty = false := by
  rw [ByteArray.toList_eq]
  cases hl : s.data.toList with
  | nil => rw [← byteList_size, hl] at h; simp at h
  | cons _ _ => rfl
theorem emptyB {s : ByteArray} (h : s.size = 0) : s = ⟨#[]⟩ := by
  rw [← mk_toList s]
  have : s.data.toList = [] := List.eq_nil_of_length_eq_zero (by rw [byteList_size]; exact h)
  rw [this]
/-- a byte put in behind the ones that there are -/
theorem or_step {a k : Nat} {b : UInt8} (h : a < 256 ^ k) : a ||| (b.toNat <<< (8 * k)) = a + 256 ^ k * b.toNat := by
  rw [show (256 : Nat) = 2 ^ 8 by rfl, ← Nat.pow_mul] at h ⊢
  rw [Nat.or_comm, Nat.shiftLeft_eq, Nat.mul_comm b.toNat, ← Nat.two_pow_add_eq_or_of_lt h]
  omega
theorem val_step {l : List UInt8} {k : Nat} (h : k < l.length) : valL (l.take (k + 1)) = valL (l.take k) ||| (l[k].toNat <<< (8 * k)) := by
  rw [List.take_succ_eq_append_getElem h, valL_snoc, List.length_take, Nat.min_eq_left (by omega), or_step]
  have := valL_lt (l.take k)
  rwa [List.length_take, Nat.min_eq_left (by omega)] at this
theorem val_take {l : List UInt8} {k : Nat} (h : k ≤ 6) : valL (l.take k) < 281474976710656 := by
  refine Nat.lt_of_lt_of_le (valL_lt _) ?_
  have h2 : (l.take k).length ≤ 6 := by rw [List.length_take]; omega
  exact Nat.pow_le_pow_right (n := 256) (by omega) h2
/-- 'or' of two numbers that are not below nought -/
theorem i64_or_nat (a b : Nat) (ha : a < 9223372036854775808) (hb : b < 9223372036854775808) : bits .or .i64 (a : Int) (b : Int) = ((a ||| b : Nat) : Int) := by
  have hx : a ||| b < 2 ^ 63 := Nat.or_lt_two_pow (by omega) (by omega)
  show IntKind.i64.wrap ((BitVec.ofInt 64 (a : Int) ||| BitVec.ofInt 64 (b : Int)).toNat : Int) = _
  rw [BitVec.toNat_or, BitVec.ofInt_natCast, BitVec.ofInt_natCast, BitVec.toNat_ofNat, BitVec.toNat_ofNat, Nat.mod_eq_of_lt (by omega), Nat.mod_eq_of_lt (by omega)]
  exact IntWalk.i64_in _ (by omega)
theorem or_value {l : List UInt8} {k : Nat} (h : k < l.length) (h6 : l.length ≤ 6) : bits .or .i64 ((valL (l.take k) : Nat) : Int) (wrap64 (wrap64 (l[k].toNat : Int) * 2 ^ (8 * k))) = ((valL (l.take (k + 1)) : Nat) : Int) := by
  have hb := l[k].toNat_lt
  have e1 : wrap64 (l[k].toNat : Int) = ((l[k].toNat : Nat) : Int) := IntWalk.wrap64_in _ (by omega)
  have hk : 2 ^ (8 * k) ≤ 2 ^ 40 := Nat.pow_le_pow_right (by omega) (by omega)
  have hm : l[k].toNat * 2 ^ (8 * k) ≤ 255 * 2 ^ 40 := Nat.mul_le_mul (by omega) hk
  have e2 : (((l[k].toNat : Nat) : Int) * 2 ^ (8 * k)) = ((l[k].toNat * 2 ^ (8 * k) : Nat) : Int) := by push_cast; rfl
  rw [e1, e2, IntWalk.wrap64_in _ (by omega), i64_or_nat _ _ (by have := val_take (l := l) (k := k) (by omega); omega) (by omega), val_step h, Nat.shiftLeft_eq]

set_option maxHeartbeats 1000000 in
theorem get_mid (s : ByteArray) (w : World) (h0 : 0 < s.size) (h1 : s.size ≤ 6) (h2 : s.data.toList.getLast? ≠ some 0) :
    Calls Try.prog 39 #[.string s] w fun e w' => e = .returned (if valL s.data.toList ≤ 1099511627777 then .tuple #[.int .i64 ((valL s.data.toList : Int) - 1), .int .i64 0] else .tuple #[.int .i64 0, .int .i64 30]) ∧ Below w.heap.size w w' := by
  have he := notEmpty h0
  have hk : s.size - 1 < s.size := by omega
  have hl : ((s[s.size - 1].toNat : Int) == 0) = false := by
    rw [u8_zero]
    exact decide_eq_false fun h => h2 (by rw [lastB hk, h])
  have d1 : decide (6 < (s.size : Int)) = false := decide_eq_false (by omega)
  clear h2
  go_enter Try.func39, Try.ntmps39
  go_wp2
  clear hl he d1
  go_loop [4, 23] (fun v i => ∃ k : Nat, k ≤ s.size ∧ v = .int .i64 (valL (s.data.toList.take k)) ∧ i = .int .i64 k) (fun _ i => s.size - (intOf i).toNat)
  case atStart => exact ⟨0, Nat.zero_le _, rfl, rfl⟩
  case round =>
    obtain ⟨k, hks, rfl, rfl⟩ := hrel
    by_cases hlt : k < s.size
    · go_wp2
      go_round
      case rel => exact ⟨k + 1, by omega, congrArg (Value.int .i64) (or_value (l := s.data.toList) (by rw [byteList_size]; exact hlt) (by rw [byteList_size]; exact h1)), by go_num⟩
      case measure => simp [intOf]; omega
    · have hT : s.data.toList.take k = s.data.toList := List.take_of_length_le (by rw [byteList_size]; omega)
      rw [hT]
      have hv : valL s.data.toList < 281474976710656 := by rw [← hT]; exact val_take (by omega)
      clear hT
      by_cases hbig : valL s.data.toList ≤ 1099511627777
      · go_wp2
        go_ret2
        exact ⟨by rfl, Below.refl _ _⟩
      · go_wp2
        go_ret2
        exact ⟨by first | rfl | (rw [if_neg hbig]; rfl), Below.refl _ _⟩
theorem get_empty (w : World) :
    Calls Try.prog 39 #[.string ⟨#[]⟩] w fun e w' => e = .returned (.tuple #[.int .i64 (-1), .int .i64 0]) ∧ Below w.heap.size w w' := by
  have he : (ByteArray.mk #[]).toList.isEmpty = true := by rw [ByteArray.toList_eq]; rfl
  have hs : (ByteArray.mk #[]).size = 0 := rfl
  go_enter Try.func39, Try.ntmps39
  go_wp2
  go_loop [4, 23] (fun v i => v = .int .i64 0 ∧ i = .int .i64 0) (fun _ _ => 0)
  case atStart => exact ⟨rfl, rfl⟩
  case round =>
    obtain ⟨rfl, rfl⟩ := hrel
    go_wp2
    go_ret2
    exact ⟨rfl, Below.refl _ _⟩
theorem get_long (s : ByteArray) (w : World) (h : 6 < s.size) :
    Calls Try.prog 39 #[.string s] w fun e w' => e = .returned (.tuple #[.int .i64 0, .int .i64 30]) ∧ Below w.heap.size w w' := by
  go_enter Try.func39, Try.ntmps39
  go_wp2
  go_ret2
  exact ⟨rfl, Below.refl _ _⟩
theorem get_zero (s : ByteArray) (w : World) (h0 : 0 < s.size) (h1 : s.size ≤ 6) (h2 : s.data.toList.getLast? = some 0) :
    Calls Try.prog 39 #[.string s] w fun e w' => e = .returned (.tuple #[.int .i64 0, .int .i64 30]) ∧ Below w.heap.size w w' := by
  have he := notEmpty h0
  have hk : s.size - 1 < s.size := by omega
  have hl : ((s[s.size - 1].toNat : Int) == 0) = true := by
    rw [u8_zero]
    rw [lastB hk] at h2
    injection h2 with h2
    exact decide_eq_true h2
  have d1 : decide (6 < (s.size : Int)) = false := decide_eq_false (by omega)
  clear h2
  go_enter Try.func39, Try.ntmps39
  go_wp2
  go_ret2
  exact ⟨rfl, Below.refl _ _⟩
theorem get_calls (s : ByteArray) (w : World) :
    Calls Try.prog 39 #[.string s] w fun e w' => e = .returned (.tuple #[.int .i64 (getN s.data.toList), .int .i64 (getE s.data.toList)]) ∧ Below w.heap.size w w' := by
  by_cases h6 : s.size ≤ 6
  · by_cases h0 : s.size = 0
    · obtain rfl := emptyB h0
      exact get_empty w
    · by_cases h2 : s.data.toList.getLast? = some 0
      · have hg : getOk s.data.toList = false := by
          cases h : getOk s.data.toList with
          | true => exact absurd h2 (getOk_iff.1 h).2.1
          | false => rfl
        unfold getN getE
        rw [if_neg (by rw [hg]; simp), if_neg (by rw [hg]; simp)]
        exact get_zero s w (by omega) h6 h2
      · refine (get_mid s w (by omega) h6 h2).mono ?_
        rintro e w' ⟨rfl, hk⟩
        refine ⟨?_, hk⟩
        by_cases hv : valL s.data.toList ≤ 1099511627777
        · have hg : getOk s.data.toList = true := getOk_iff.2 ⟨by rw [byteList_size]; exact h6, h2, hv⟩
          unfold getN getE
          rw [if_pos hv, if_pos hg, if_pos hg]
        · have hg : getOk s.data.toList = false := by
            cases h : getOk s.data.toList with
            | true => exact absurd (getOk_iff.1 h).2.2 hv
            | false => rfl
          unfold getN getE
          rw [if_neg hv, if_neg (by rw [hg]; simp), if_neg (by rw [hg]; simp)]
  · have hg : getOk s.data.toList = false := by
      cases h : getOk s.data.toList with
      | true => have := (getOk_iff.1 h).1; rw [byteList_size] at this; exact absurd this h6
      | false => rfl
    unfold getN getE
    rw [if_neg (by rw [hg]; simp), if_neg (by rw [hg]; simp)]
    exact get_long s w (by omega)
end Go.Proofs.Ytekjhhiamboffaa
