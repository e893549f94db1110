/-
  The contract of the laws' helper Fit: whatever fields, what comes out are at most 20 right ones. Condition: numbers and lengths are Go's.
-/
import Derived.Test.YtjffbcipfjljpaaTlvTake
import Derived.Test.YtjffbcipfjljpaaPick03
import Derived.Deep.RegionHeld3
namespace Go.Proofs.Ytjffbcipfjljpaa
open Go.RowKit

/-- fields that a slice of Go's may hold -/
def goF (l : List Fld) : Prop := ∀ f ∈ l, -9223372036854775808 ≤ f.1 ∧ f.1 ≤ 9223372036854775807 ∧ f.2.size ≤ 9223372036854775807

theorem fit_ok {L : List Fld} {x : Int} {s : ByteArray} (h : allOk L) (h1 : 0 ≤ x) (h2 : x < 255) (h3 : s.size ≤ 400) : allOk (L ++ [(1 + x, s)]) := by
  intro f hf
  rcases List.mem_append.1 hf with h' | h'
  · exact h f h'
  · rw [List.mem_singleton.1 h']; exact okF_iff.2 ⟨show 1 ≤ 1 + x by omega, show 1 + x ≤ 255 by omega, h3⟩

set_option maxHeartbeats 2000000 in
theorem fit03_calls (raw : List Fld) (A : Option Addr) (n c : Nat) (w : World) (hr : Rd w w.heap.size A (fldCells raw)) (hln : raw.length = n) (hgo : goF raw) :
    Calls Try.prog 20 #[.slice A n c] w fun e w' => ∃ (L : List Fld) (v : Value), e = .returned v ∧ L.length ≤ 20 ∧ allOk L ∧ w'.ownsRow w.heap.size 40 2 v L.length (fldCells L) ∧ Below w.heap.size w w' := by
  obtain ⟨iF, hiF, hzF, hsF, hbF⟩ := info_parts fld_info
  have HR := Lib.hid hr
  have HN := Lib.hid hln
  have HG := Lib.hid hgo
  clear hr hln hgo
  go_enter Try.func20, Try.ntmps20
  go_wp2
  go_loopw [3, 4] (fun v i wr => ∃ (k : Nat) (L : List Fld), k ≤ n ∧ k ≤ 20 ∧ i = .int .i64 k ∧ L.length = k ∧ allOk L ∧ wr.ownsRow w.heap.size 40 2 v k (fldCells L) ∧ Below w.heap.size w wr) (fun _ i _ => n - (intOf i).toNat)
  case atStart => exact ⟨0, [], Nat.zero_le _, by omega, rfl, rfl, by intro f hf; simp at hf, World.ownsRow_nil _ _ _ _, Below.refl _ _⟩
  case round =>
    obtain ⟨k, L, hk, hk20, rfl, hL, hall, hown, hb⟩ := hrel
    obtain ⟨A3, c3, rfl, hc31, hc32⟩ := own_form hown
    have HL := Lib.hid hL
    have HALL := Lib.hid hall
    have HO := Lib.hid hown
    clear hL hall hown
    by_cases hlt : k < n ∧ k < 20
    · obtain ⟨hlt, hlt2⟩ := hlt
      have hkl : k < raw.length := by rw [HN.out]; exact hlt
      obtain ⟨b, off, rfl, hbB, hc0⟩ := (HR.out.below hb).at_ (fldCells_tag hkl)
      have hc1 := (HR.out.below hb).cell_ (fldCells_text hkl)
      rw [← Nat.add_assoc] at hc1
      obtain ⟨hg1, hg2, hg3⟩ := HG.out _ (List.getElem_mem hkl)
      obtain ⟨t, ht⟩ : ∃ t, t = raw[k].1 := ⟨_, rfl⟩
      obtain ⟨s, hs⟩ : ∃ s, s = raw[k].2 := ⟨_, rfl⟩
      rw [← ht] at hc0 hg1 hg2
      rw [← hs] at hc1 hg3
      clear ht hs
      have hbsz := hb.size
      have hkn : (k : Int) < (n : Int) := by omega
      have hk20' : (k : Int) < 20 := by omega
      obtain ⟨m, hm⟩ : ∃ m : Nat, m = min s.size 400 := ⟨_, rfl⟩
      have hmin : (if (400 : Int) < (s.size : Int) then (400 : Int) else (s.size : Int)) = (m : Int) := by split <;> omega
      have m1 : (0 : Int) ≤ (m : Int) := by omega
      have m2 : (m : Int) ≤ (s.size : Int) := by omega
      have m3 : m ≤ 400 := by omega
      have m4 : m ≤ s.size := by omega
      clear hm
      go_wp2
      go_region_held3 (fun x => x.cell? ⟨b, off + k * 2, none⟩ = some (.int .i64 t) ∧ x.cell? ⟨b, off + k * 2 + 1, none⟩ = some (.string s) ∧ Below w.heap.size w x)
        (first
          | exact ⟨hc0, hc1, hb.drew⟩
          | (refine ⟨?_, ?_, ?_⟩ <;> assumption)
          | (go_split_ands; refine ⟨?_, ?_, Below.alloc (by assumption) (Below.size (by assumption)) _⟩ <;> (first | assumption | go_keep)))
        (first
          | (go_at_call 21; go_split_ands; (refine (pick03_int t 255 _ hg1 hg2 (by omega) (by omega)).mono ?_); rintro e w' ⟨x, hx1, hx2, rfl, rfl⟩)
          | (go_split_ands; refine step_append_rd (by rfl) (.tmp 15) (.tmp 37) 22 (by rfl) w.heap.size 40 iF _ 2 24 Try.underlying22 hiF hzF hsF hbF rfl (by decide) (.slice A3 k c3) k (fldCells L) (by rfl) (World.ownsRow.drew (HO.out.alloc _)) _ _ 1 1 _ (by rfl) (Rd.new _ _ _ (0, 0)) (by rfl) (by simp [Value.oneCell']) (by unfold maxLen; omega) (by omega) (by simp; omega) ?_; intro v3 w3 hown3 hgr; have hb3 : Below w.heap.size w w3 := ((hb.alloc hbsz _).drew).grown hgr (by simp; omega) (fun j hj => (HO.out.lt j hj).1); have hd0 : w3.cell? ⟨b, off + k * 2, none⟩ = some (.int .i64 t) := (hb3.cell hbB).trans ((hb.cell hbB).symm.trans hc0); have hd1 : w3.cell? ⟨b, off + k * 2 + 1, none⟩ = some (.string s) := (hb3.cell hbB).trans ((hb.cell hbB).symm.trans hc1); have HO3 := Lib.hid hown3; clear hown3 hgr))
      all_goals go_wp2_with fail
      all_goals
        go_roundw
        case rel =>
          refine ⟨k + 1, L ++ [(1 + x, s.extract 0 m)], by omega, by omega, by go_num, by rw [List.length_append, HL.out]; rfl, fit_ok HALL.out hx1 hx2 (by rw [ByteArray.size_extract]; omega), ?_, by assumption⟩
          rw [fldCells_append]
          have h3 := HO3.out
          rw [show IntKind.i64.wrap (1 + x) = 1 + x from IntWalk.i64_in _ (by omega)] at h3
          exact h3
        case measure => simp [intOf]; omega
    · by_cases hkn : k < n
      · have hk2 : decide ((k : Int) < 20) = false := decide_eq_false (by omega)
        have hkL : L.length ≤ 20 := by rw [HL.out]; exact hk20
        go_wp2
        go_ret
        exact ⟨L, _, rfl, hkL, HALL.out, by rw [HL.out]; exact HO.out, hb⟩
      · have hk2 : decide ((k : Int) < (n : Int)) = false := decide_eq_false (by omega)
        have hkL : L.length ≤ 20 := by rw [HL.out]; exact hk20
        go_wp2
        go_ret
        exact ⟨L, _, rfl, hkL, HALL.out, by rw [HL.out]; exact HO.out, hb⟩
end Go.Proofs.Ytjffbcipfjljpaa
