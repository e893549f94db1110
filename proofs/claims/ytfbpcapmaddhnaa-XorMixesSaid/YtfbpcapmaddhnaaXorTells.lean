/-
  XorTells: whatever texts there are, package xor puts them together as the document says. Condition: a list of texts and each text lie within the form's own reach.
-/
import Derived.Test.YtfbpcapmaddhnaaAwake01
import Derived.Test.YtfbpcapmaddhnaaRef01
namespace Go.Proofs.Ytfbpcapmaddhnaa
open Go.RowKit

theorem all_any (L : List ByteArray) (A : Option Addr) (n c : Nat) (w : World) (hr : Rd w w.heap.size A (L.map Value.string)) (hln : L.length = n) (hnc : n ≤ c) (hc : c ≤ maxLen) (hs : ∀ s ∈ L, s.size ≤ maxLen) :
    Calls Try.prog 15 #[.slice A n c] w fun e w' => e = .returned (.tuple #[.string (allR L).1, .int .i64 (allR L).2]) ∧ Below w.heap.size w w' := by
  cases L with
  | nil => subst hln; exact all_none A c w
  | cons a l => exact all_some a l A n c w hr (hs a (by simp)) hnc hc hln

theorem ref_all_any (L : List ByteArray) (A : Option Addr) (n c : Nat) (w : World) (hr : Rd w w.heap.size A (L.map Value.string)) (hln : L.length = n) (hn : n ≤ maxLen) (hs : ∀ s ∈ L, s.size ≤ maxLen) :
    Calls Try.prog 19 #[.slice A n c] w fun e w' => e = .returned (.tuple #[.string (allR L).1, .int .i64 (allR L).2]) ∧ Below w.heap.size w w' := by
  cases L with
  | nil => subst hln; exact ref_all_none A c w
  | cons a l => exact ref_all_some a l A n c w hr (hs a (by simp)) hn hln

set_option maxRecDepth 100000 in
set_option maxHeartbeats 2000000 in
theorem xorTells_calls (a b d : ByteArray) (l : List ByteArray) (A : Option Addr) (n c : Nat) (w : World) (ha : a.size ≤ maxLen) (hr : Rd w w.heap.size A (l.map Value.string)) (hln : l.length = n) (hnc : n ≤ c) (hcm : c ≤ maxLen) (hn16 : n * 16 ≤ 140737488351232) (hs : ∀ s ∈ l, s.size ≤ maxLen) :
    Calls Try.prog 8 #[.string a, .string b, .string d, .slice A n c] w fun e w' => e = .returned (.bool true) ∧ Below w.heap.size w w' := by
  have HR := Lib.hid hr
  have HN := Lib.hid hln
  have HS := Lib.hid hs
  have HA := Lib.hid ha
  have hnm : n ≤ maxLen := by unfold maxLen; omega
  have HNM := Lib.hid hnm
  have HCM := Lib.hid hcm
  clear hr hln hs ha hnm hcm
  go_enter Try.func8, Try.ntmps8
  go_wp2_with (first
    | (go_at_call 12; refine (awake01_calls _).mono ?_; rintro e w0 ⟨rfl, hbw⟩)
    | (go_at_call 16; refine (two_any a b _ HA.out).mono ?_; rintro e w1 ⟨rfl, hk⟩; replace hbw := bel_call hbw hk; clear hk)
    | (go_at_call 18; refine (ref_two_any a b _ HA.out).mono ?_; rintro e w2 ⟨rfl, hk⟩; replace hbw := bel_call hbw hk; clear hk)
    | (go_at_call 15; refine (all_any l A n c _ ((HR.out.below hbw).more hbw.size) HN.out hnc HCM.out HS.out).mono ?_; rintro e w3 ⟨rfl, hk⟩; replace hbw := bel_call hbw hk; clear hk)
    | (go_at_call 19; refine (ref_all_any l A n c _ ((HR.out.below hbw).more hbw.size) HN.out HNM.out HS.out).mono ?_; rintro e w4 ⟨rfl, hk⟩; replace hbw := bel_call hbw hk; clear hk)
    | (go_at_call 20; refine (moved_any a b d _ HA.out).mono ?_; rintro e w5 ⟨rfl, hk⟩; replace hbw := bel_call hbw hk; clear hk)
    | (go_at_call 21; refine (ref_moved_any a b d _ HA.out).mono ?_; rintro e w6 ⟨rfl, hk⟩; replace hbw := bel_call hbw hk; clear hk)
    | (go_at_call 17; refine (missing_any a l A n c _ ((HR.out.below hbw).more hbw.size) HA.out HNM.out HN.out).mono ?_; rintro e w7 ⟨rfl, hk⟩; replace hbw := bel_call hbw hk; clear hk)
    | (go_at_call 22; refine (ref_missing_any a l A n c _ ((HR.out.below hbw).more hbw.size) HA.out (by omega) HN.out).mono ?_; rintro e w8 ⟨rfl, hk⟩; replace hbw := bel_call hbw hk; clear hk))
  go_ret
  exact ⟨rfl, hbw⟩

theorem xorTells_walk (a b d : ByteArray) (l : List ByteArray) (A : Option Addr) (n c : Nat) (w : World) (ha : a.size ≤ 140737488351232) (_hb : b.size ≤ 140737488351232) (_hd : d.size ≤ 140737488351232)
    (hr : Rd w w.heap.size A (l.map Value.string)) (hln : l.length = n) (hnc : n ≤ c) (hc : c * 16 ≤ 140737488351232) (hs : ∀ s ∈ l, s.size ≤ maxLen) :
    Calls Try.prog 8 #[.string a, .string b, .string d, .slice A n c] w fun e w' => e = .returned (.bool true) ∧ Below w.heap.size w w' :=
  xorTells_calls a b d l A n c w (by unfold maxLen; omega) hr hln hnc (by unfold maxLen; omega) (by omega) hs
end Go.Proofs.Ytfbpcapmaddhnaa
