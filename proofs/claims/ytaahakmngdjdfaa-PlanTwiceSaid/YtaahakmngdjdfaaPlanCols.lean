/-
  The contracts of package plan's right and others, and of the laws' helper Ints. Condition: the geometry is right, numbers are Go's.
-/
import Derived.Test.YtaahakmngdjdfaaFit05
import Derived.KernelRfl
namespace Go.Proofs.Ytaahakmngdjdfaa
open Go.RowKit

theorem int_info : (Try.prog.info? 3).map (fun i => (i.zero, i.size, i.bytes)) = some (some (.int .i64 0), 1, 8) := by kernel_rfl
/-- numbers as cells -/
def intCells (l : List Int) : List Value := l.map (Value.int .i64)
theorem intCells_length (l : List Int) : (intCells l).length = l.length := by simp [intCells]
theorem intCells_at {l : List Int} {k : Nat} (h : k < l.length) : (intCells l)[k]? = some (.int .i64 l[k]) := by simp [intCells, h]
theorem intCells_app (a b : List Int) : intCells (a ++ b) = intCells a ++ intCells b := by simp [intCells]
theorem rdi_call {w w' : World} {A : Option Addr} {xs : List Value} (h : Rd w w.heap.size A xs) (hk : Below w.heap.size w w') : Rd w' w'.heap.size A xs := (h.below hk).more hk.size
theorem newInts (w : World) (us : List Value) (t : TypeId) : ∀ (j : Nat) (x : Value), us[j]? = some x → (w.alloc (.cells us.toArray t)).cell? ((⟨w.heap.size, 0, none⟩ : Addr).add j) = some x := by
  intro j x hx
  rw [Addr.add_lit, Nat.zero_add]
  exact (World.cell?_alloc_mark w us.toArray t (0, 0) j).trans (by simpa using hx)

theorem pright_yes (N S c o : Int) (w : World) (h1 : 3 ≤ N) (h2 : N ≤ 6) (h3 : 1 ≤ S) (h4 : S ≤ 8) (c1 : 0 ≤ c) (c2 : c < N - 1) (o1 : -1 ≤ o) (o2 : o ≤ N - 1) :
    Calls Try.prog 33 #[.agg #[.int .i64 N, .int .i64 S], .int .i64 c, .int .i64 o] w fun e w' => e = .returned (.bool true) ∧ Below w.heap.size w w' := by
  have d1 : decide (0 ≤ c) = true := decide_eq_true c1
  have d2 : decide (c < N - 1) = true := decide_eq_true c2
  have d3 : decide (-1 ≤ o) = true := decide_eq_true o1
  have d4 : decide (o ≤ N - 1) = true := decide_eq_true o2
  go_enter Try.func33, Try.ntmps33
  go_wp2_with (go_at_call 30; refine (parity_yes N S _ h1 h2 h3 h4).mono ?_; rintro e w1 ⟨rfl, hb⟩)
  go_ret
  exact ⟨by rfl, geo_below hb⟩

/-- all numbers below n but one, rising -/
def othersL (n : Nat) (but : Int) : List Int := ((List.range n).map fun k : Nat => (k : Int)).filter (· != but)
theorem othersL_step (k : Nat) (but : Int) : othersL (k + 1) but = othersL k but ++ (if (k : Int) != but then [(k : Int)] else []) := by
  unfold othersL
  rw [List.range_succ, List.map_append, List.filter_append]
  congr 1
  simp only [List.map_cons, List.map_nil, List.filter_cons, List.filter_nil]
theorem othersL_length (n : Nat) (but : Int) : (othersL n but).length ≤ n := by
  refine Nat.le_trans (List.length_filter_le _ _) ?_
  simp

set_option maxHeartbeats 1000000 in
theorem others_calls (n : Nat) (but : Int) (w : World) (hn : n ≤ 6) :
    Calls Try.prog 34 #[.int .i64 n, .int .i64 but] w fun e w' => ∃ (A : Option Addr) (c : Nat), e = .returned (.slice A (othersL n but).length c) ∧ Rd w' w'.heap.size A (intCells (othersL n but)) ∧ Below w.heap.size w w' := by
  obtain ⟨iI, hiI, hzI, hsI, hbI⟩ := info_parts int_info
  go_enter Try.func34, Try.ntmps34
  go_wp2
  go_loopw [5, 8] (fun v i wr => ∃ k : Nat, k ≤ n ∧ i = .int .i64 k ∧ wr.ownsRow w.heap.size 3 1 v (othersL k but).length (intCells (othersL k but)) ∧ Below w.heap.size w wr) (fun _ i _ => n - (intOf i).toNat)
  case atStart => exact ⟨0, Nat.zero_le _, rfl, World.ownsRow_nil _ _ _ _, Below.refl _ _⟩
  case round =>
    obtain ⟨k, hk, rfl, hown, hb⟩ := hrel
    have hbsz := hb.size
    have hL := othersL_length k but
    by_cases hlt : k < n
    · have hstep := othersL_step k but
      by_cases hq : (k : Int) = but
      · have hq2 : ((k : Int) != but) = false := by rw [hq]; exact bne_self_eq_false _
        rw [hq2, if_neg (by simp), List.append_nil] at hstep
        have HS := Lib.hid hstep
        have HO := Lib.hid hown
        clear hstep hown hq
        go_wp2
        go_roundw
        case rel => exact ⟨k + 1, by omega, by go_num, by rw [HS.out]; exact HO.out, hb⟩
        case measure => simp [intOf]; omega
      · have hq2 : ((k : Int) != but) = true := by rw [bne_iff_ne]; exact hq
        rw [hq2, if_pos rfl] at hstep
        have HS := Lib.hid hstep
        have HO := Lib.hid hown
        clear hstep hown hq
        go_wp2_with (at_builtin; refine wpList_append_own _ rfl (.tmp 14) (.tmp 16) 37 rfl w.heap.size 3 iI _ 1 8 Try.underlying37 hiI hzI hsI hbI rfl (by decide) _ _ _ rfl (HO.out.alloc _) ⟨wr.heap.size, 0, none⟩ 1 1 [.int .i64 (k : Int)] rfl rfl (newInts _ [.int .i64 (k : Int)] _) (by simp [Value.oneCell']) (by unfold maxLen; omega) (by omega) (by simp; omega) ?_; rintro v3 w3 hown3 hg3 -; have HO3 := Lib.hid hown3; have HG3 := Lib.hid hg3; clear hown3 hg3)
        go_roundw
        case rel => exact ⟨k + 1, by omega, by go_num, by rw [HS.out, intCells_app, List.length_append]; exact HO3.out, (hb.alloc hbsz _).grown HG3.out (by simp; omega) (fun j hj => (HO.out.lt j hj).1)⟩
        case measure => simp [intOf]; omega
    · obtain rfl : k = n := by omega
      obtain ⟨A, c, rfl, -, -⟩ := own_form hown
      have HR := Lib.hid (Rd.of_own hown)
      clear hown
      go_wp2
      go_ret
      exact ⟨A, c, rfl, HR.out, hb⟩

set_option maxHeartbeats 1000000 in
theorem ints_yes (l : List Int) (A B : Option Addr) (n c d : Nat) (w : World) (hra : Rd w w.heap.size A (intCells l)) (hrb : Rd w w.heap.size B (intCells l)) (hl : l.length = n) (hn : n ≤ 64) :
    Calls Try.prog 25 #[.slice A n c, .slice B n d] w fun e w' => e = .returned (.bool true) ∧ Below w.heap.size w w' := by
  have HA := Lib.hid hra
  have HB := Lib.hid hrb
  have HL := Lib.hid hl
  clear hra hrb hl
  go_enter Try.func25, Try.ntmps25
  go_wp2
  go_loopw [5] (fun i wr => ∃ k : Nat, k ≤ n ∧ i = .int .i64 k ∧ Below w.heap.size w wr) (fun i _ => n - (intOf i).toNat)
  case atStart => exact ⟨0, Nat.zero_le _, rfl, Below.refl _ _⟩
  case round =>
    obtain ⟨k, hk, rfl, hb⟩ := hrel
    by_cases hlt : k < n
    · have hkl : k < l.length := by rw [HL.out]; exact hlt
      obtain ⟨b, off, rfl, hbB, hc⟩ := (HA.out.below hb).at_ (intCells_at hkl)
      obtain ⟨b', off', rfl, hbB', hd⟩ := (HB.out.below hb).at_ (intCells_at hkl)
      obtain ⟨x, hx⟩ : ∃ x, x = l[k] := ⟨_, rfl⟩
      rw [← hx] at hc hd
      have hkn : (k : Int) < (n : Int) := by omega
      clear hx
      go_wp2
      go_quiet (fail)
      go_wp2
      go_roundw
      case rel => exact ⟨k + 1, by omega, by go_num, below_drewN hb nq⟩
      case measure => simp [intOf]; omega
    · have hkn : decide ((k : Int) < (n : Int)) = false := decide_eq_false (by omega)
      go_wp2
      go_ret
      exact ⟨by rfl, hb⟩
end Go.Proofs.Ytaahakmngdjdfaa
