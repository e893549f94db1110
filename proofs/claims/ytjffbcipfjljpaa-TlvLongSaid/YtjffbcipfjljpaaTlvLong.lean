/-
  TlvLong: what is laid is as long as its fields' texts, and three bytes for each; what is too long or too much is refused: for any raw list and numbers. Condition: counts, numbers and lengths are Go's.
-/
import Derived.Test.YtjffbcipfjljpaaTlvBack
namespace Go.Proofs.Ytjffbcipfjljpaa
open Go.RowKit

/-- n noughts -/
def zeroB (n : Nat) : ByteArray := ⟨(List.replicate n 0).toArray⟩
theorem zeroB_size (n : Nat) : (zeroB n).size = n := by rw [zeroB, size_mk, List.length_replicate]
def zeroRow (n : Nat) : Array Value := (cells8 (List.replicate n 0)).toArray
theorem run_make8 (n : Nat) (hn : n ≤ 140737488351232) (W : World) : (Instr.makeSlice 42 (.int .i64 (n : Int)) (.int .i64 (n : Int))).run Try.prog W = .ok (.slice (some ⟨W.heap.size, 0, none⟩) n n) (W.alloc (.cells (zeroRow n) 5)) := by
  obtain ⟨i8, hi, hz, hs, hb⟩ := info_parts u8_info
  have hr := run_make (P := Try.prog) W 42 5 i8 (.int .u8 0) Try.underlying42 hi hz .i64 .i64 n n (by omega) (by omega) (by rw [hb]; omega) (by omega)
  rw [hr]
  have e : madeCells (Value.int .u8 0).cells (n * i8.size) = zeroRow n := by
    apply Array.ext'
    rw [hs, made8]
    rfl
  simp only [Int.toNat_natCast, e]
theorem run_zero_string (n : Nat) (W : World) : (convert 42 9 (.slice (some ⟨W.heap.size, 0, none⟩) n n)).run Try.prog (W.alloc (.cells (zeroRow n) 5)) = .ok (.string (zeroB n)) (W.alloc (.cells (zeroRow n) 5)) := by
  refine run_row8_string (P := Try.prog) Try.underlying42 Try.underlying5 Try.underlying9 (l := List.replicate n 0) ?_ n n (by simp)
  intro j b hb
  constructor
  · rw [World.cell?_alloc_mark, zeroRow]
    simp only [List.getElem?_toArray, cells8, List.getElem?_map, hb, Option.map_some]
  · rw [World.frozen?_alloc_mark]
    simp

def sumT : List Fld → Nat
  | [] => 0
  | f :: l => f.2.size + sumT l
theorem sumT_step {l : List Fld} {k : Nat} (h : k < l.length) : sumT (l.take (k + 1)) = sumT (l.take k) + l[k].2.size := by
  induction l generalizing k with
  | nil => simp at h
  | cons f l ih =>
    cases k with
    | zero => simp [sumT]
    | succ k =>
      have := ih (k := k) (by simpa using h)
      simp only [List.take_succ_cons, sumT, List.getElem_cons_succ, this]
      omega
theorem layL_sum (l : List Fld) : (layL l).length = 3 * l.length + sumT l := by
  induction l with
  | nil => rfl
  | cons f l ih => rw [layL, List.length_append, oneL_length, ih, sumT, List.length_cons]; omega
theorem sumT_le {l : List Fld} (h : allOk l) : sumT l ≤ 400 * l.length := by
  induction l with
  | nil => simp [sumT]
  | cons f l ih =>
    have h1 := okF_iff.1 (h f (by simp))
    have h2 := ih fun g hg => h g (by simp [hg])
    rw [sumT, List.length_cons]
    omega
theorem allOk_take {l : List Fld} (h : allOk l) (k : Nat) : allOk (l.take k) := fun f hf => h f (List.mem_of_mem_take hf)

/-- Lay, by whether the list is right -/
theorem lay_e (L : List Fld) (n : Nat) (A : Option Addr) (c : Nat) (w : World) (hr : Rd w w.heap.size A (fldCells L)) (hn : L.length = n) :
    Calls Try.prog 11 #[.slice A n c] w fun e w' => ∃ (s : ByteArray) (f : Int), e = .returned (.tuple #[.string s, .int .i64 f]) ∧ ((f = 0 ∧ layOk L = true) ∨ (f = 30 ∧ ¬ layOk L = true)) ∧ Below w.heap.size w w' := by
  refine (lay_calls L A n c w hr hn).mono ?_
  rintro e w' ⟨he, hk⟩
  refine ⟨_, _, he, ?_, hk⟩
  unfold layE
  by_cases h : layOk L = true
  · rw [if_pos h]; exact Or.inl ⟨rfl, h⟩
  · rw [if_neg h]; exact Or.inr ⟨rfl, h⟩
theorem long_ok {p : Nat} : layOk [((1 : Int), zeroB p)] = true ↔ p ≤ 400 := by
  rw [layOk_iff]
  constructor
  · intro h; have := (okF_iff.1 (h.2 _ (List.mem_singleton.2 rfl))).2.2; rwa [zeroB_size] at this
  · intro h
    refine ⟨by simp, fun f hf => ?_⟩
    rw [List.mem_singleton.1 hf]
    exact okF_iff.2 ⟨show (1 : Int) ≤ 1 by decide, show (1 : Int) ≤ 255 by decide, by rw [zeroB_size]; exact h⟩
theorem many_ok {q : Nat} : layOk (List.replicate q ((255 : Int), (⟨#[]⟩ : ByteArray))) = true ↔ q ≤ 64 := by
  rw [layOk_iff, List.length_replicate]
  constructor
  · exact fun h => h.1
  · intro h
    refine ⟨h, fun f hf => ?_⟩
    rw [(List.mem_replicate.1 hf).2]
    decide

theorem rd_at (w : World) (cs : Array Value) (t : TypeId) (g : Nat) (hg : w.heap.size = g) : Rd (w.alloc (.cells cs t)) (w.alloc (.cells cs t)).heap.size (some ⟨g, 0, none⟩) cs.toList := by
  subst hg
  exact rd_new w cs t

set_option maxRecDepth 100000 in
set_option maxHeartbeats 4000000 in
theorem tlvLong_walk (l0 : List Fld) (A0 : Option Addr) (n0 c0 : Nat) (a b : Int) (w : World) (x0 : Rd w w.heap.size A0 (fldCells l0)) (y0 : l0.length = n0) (_z0 : n0 ≤ maxLen) (g0 : goF l0)
    (p1 : -9223372036854775808 ≤ a) (p2 : a ≤ 9223372036854775807) (q1 : -9223372036854775808 ≤ b) (q2 : b ≤ 9223372036854775807) :
    Calls Try.prog 9 #[.slice A0 n0 c0, .int .i64 a, .int .i64 b] w fun e w' => e = .returned (.bool true) ∧ Below w.heap.size w w' := by
  have G0 := Lib.hid g0
  clear g0
  obtain ⟨iF, hiF, hzF, hsF, hbF⟩ := info_parts fld_info
  go_enter Try.func9, Try.ntmps9
  go_wp2_with (first
    | (go_at_call 10; refine (awake03_calls _).mono ?_; rintro e w1 ⟨rfl, hk⟩; replace x0 := rd_call x0 hk; have hb := hk; clear hk)
    | (go_at_call 20; refine (fit_v l0 A0 n0 c0 _ x0 y0 G0.out).mono ?_; rintro e w2 ⟨La, Aa, ca, rfl, hLa, hoa, hra, hk⟩; obtain ⟨s, hs⟩ : ∃ s : ByteArray, s = ⟨(layL La).toArray⟩ := ⟨_, rfl⟩; have hsz : s.size = 3 * La.length + sumT La := (by rw [hs, size_mk, layL_sum]); have HOA := Lib.hid hoa; have HS := Lib.hid hs; clear hs hoa; replace hb := bel_call hb hk; clear hk x0)
    | (go_at_call 11; refine (lay_v La Aa ca s _ HS.out (by omega) HOA.out hra).mono ?_; rintro e w4 ⟨rfl, hk⟩; replace hra := rd_call hra hk; replace hb := bel_call hb hk; clear hk))
  have HSZ := Lib.hid hsz
  have hsum := sumT_le HOA.out
  clear hsz
  go_loopw [11, 12] (fun v i wr => ∃ k : Nat, k ≤ La.length ∧ v = .int .i64 ((3 * La.length + sumT (La.take k) : Nat) : Int) ∧ i = .int .i64 k ∧ wr = w4) (fun _ i _ => La.length - (intOf i).toNat)
  case atStart => exact ⟨0, Nat.zero_le _, by simp [sumT], rfl, rfl⟩
  case round =>
    obtain ⟨k, hk, rfl, rfl, rfl⟩ := hrel
    have hsk : sumT (La.take k) ≤ 400 * 20 := Nat.le_trans (sumT_le (allOk_take HOA.out k)) (by rw [List.length_take]; omega)
    by_cases hlt : k < La.length
    · obtain ⟨bb, off, rfl, hbB, -⟩ := hra.at_ (fldCells_tag hlt)
      have hc1 := hra.cell_ (fldCells_text hlt)
      rw [← Nat.add_assoc] at hc1
      have hstep := sumT_step hlt
      obtain ⟨u, hu⟩ : ∃ u, u = La[k].2 := ⟨_, rfl⟩
      rw [← hu] at hc1 hstep
      have hu4 : u.size ≤ 400 := by rw [hu]; exact (okF_iff.1 (HOA.out _ (List.getElem_mem hlt))).2.2
      have HST := Lib.hid hstep
      clear hu hstep
      go_wp2
      go_roundw
      case rel => exact ⟨k + 1, by omega, congrArg (Value.int .i64) (by rw [HST.out]; push_cast; omega), by go_num, trivial⟩
      case measure => simp [intOf]; omega
    · have hkn : La.take k = La := List.take_of_length_le (by omega)
      rw [hkn]
      clear hkn hsk
      go_wp2_with (first
        | (go_at_call_of 21 (Value.int .i64 a); refine (pick03_nat a 500 _ p1 p2 (by omega) (by omega)).mono ?_; rintro e w' ⟨p, hp, rfl, rfl⟩; have hmk := run_make8 p (by omega); have hzs := run_zero_string p)
        | (go_at_call 11; refine (lay_e [((1 : Int), zeroB p)] 1 _ _ _ (rd_at (wr.alloc (.cells (zeroRow p) 5)) #[.int .i64 1, .string (zeroB p)] 40 _ (by simp)) rfl).mono ?_; rintro e w5 ⟨s1, f1, rfl, hf1, hk⟩; rw [long_ok] at hf1; have HF1 := Lib.hid hf1; replace hb := bel_call (bel_alloc (bel_alloc hb _) _) hk; clear hk hf1 hmk hzs)
        | (go_at_call_of 21 (Value.int .i64 b); refine (pick03_nat b 80 _ q1 q2 (by omega) (by omega)).mono ?_; rintro e w' ⟨q, hq, rfl, rfl⟩))
      go_loopw [15, 16] (fun v i wx => ∃ k : Nat, k ≤ q ∧ i = .int .i64 k ∧ wx.ownsRow w.heap.size 40 2 v k (fldCells (List.replicate k ((255 : Int), (⟨#[]⟩ : ByteArray)))) ∧ Below w.heap.size w wx) (fun _ i _ => q - (intOf i).toNat)
      case atStart => exact ⟨0, Nat.zero_le _, rfl, World.ownsRow_nil _ _ _ _, hb⟩
      case round =>
        clear hb
        obtain ⟨j, hj, rfl, hown, hb⟩ := hrel
        have HO := Lib.hid hown
        clear hown
        by_cases hjq : j < q
        · have hbsz := hb.size
          go_wp2_with (at_builtin; refine wpList_append_rd rfl (.tmp 62) (.tmp 64) 22 rfl w.heap.size 40 iF _ 2 24 Try.underlying22 hiF hzF hsF hbF rfl (by decide) _ j _ rfl (HO.out.alloc _) _ _ 1 1 _ rfl (Rd.new _ _ _ (0, 0)) rfl (by simp [Value.oneCell']) (by unfold maxLen; omega) (by omega) (by simp; omega) ?_; intro v6 w6 hown6 hg6; replace hb := (hb.alloc hbsz _).grown hg6 (by simp; omega) (fun i hi => (HO.out.lt i hi).1); have HO6 := Lib.hid hown6; clear hown6 hg6)
          go_roundw
          case rel => exact ⟨j + 1, by omega, by go_num, by rw [List.replicate_succ', fldCells_append]; exact HO6.out, hb⟩
          case measure => simp [intOf]; omega
        · have hjq : j = q := by omega
          subst hjq
          obtain ⟨A6, c6, rfl, -, -⟩ := own_form HO.out
          go_wp2_with fail
          go_at_call 11
          refine (lay_e _ j _ _ _ (Rd.of_own HO.out) (by simp)).mono ?_
          rintro e w8 ⟨s2, f2, rfl, hf2, hk⟩
          rw [many_ok] at hf2
          replace hb := bel_call hb hk
          have HF2 := Lib.hid hf2
          have hlen : (s.size : Int) = 3 * (La.length : Int) + (sumT La : Int) := by rw [HSZ.out]; push_cast; rfl
          clear hk hf2
          rcases HF1.out with ⟨rfl, e1⟩ | ⟨rfl, e1⟩ <;> rcases HF2.out with ⟨rfl, e2⟩ | ⟨rfl, e2⟩
          all_goals
            go_wp2_with fail
            go_ret
            exact ⟨by first | rfl | (simp; omega), hb⟩
end Go.Proofs.Ytjffbcipfjljpaa
