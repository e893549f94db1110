/-
  The contract of the document's Take: what package tlv's computes. Condition: lengths are Go's.
-/
import Derived.Test.YtekjhhiamboffaaTlvTake
namespace Go.Proofs.Ytekjhhiamboffaa
open Go.RowKit

theorem threeW (n : Nat) (h : n ≤ 400) : IntKind.i64.wrap (3 + (n : Int)) = 3 + (n : Int) := IntWalk.i64_in _ (by omega)
theorem byteI (x : Nat) (h : x < 2 ^ 8) : IntKind.i64.wrap (x : Int) = (x : Int) := IntWalk.i64_in _ (by omega)
theorem bad_F {l : List UInt8} (h : takeL 64 l = none) : takeF l = [] := by unfold takeF; rw [h]; rfl
theorem bad_E {l : List UInt8} (h : takeL 64 l = none) : takeE l = 30 := by unfold takeE; rw [h]; rfl
theorem sumW (x y : Nat) : (x : Int) + 256 * (y : Int) = ((x + 256 * y : Nat) : Int) := by omega

set_option maxHeartbeats 2000000 in
theorem rtake_calls (S : ByteArray) (w : World) (hS : S.size ≤ 9223372036854775807) :
    Calls Try.prog 34 #[.string S] w fun e w' => ∃ v, e = .returned (.tuple #[v, .int .i64 (takeE S.data.toList)]) ∧ w'.ownsRow w.heap.size 57 2 v (takeF S.data.toList).length (fldCells (takeF S.data.toList)) ∧ Below w.heap.size w w' := by
  obtain ⟨iF, hiF, hzF, hsF, hbF⟩ := info_parts fld_info
  go_enter Try.func34, Try.ntmps34
  go_wp2
  go_loopw [0, 4] (fun sv v wr => ∃ (s : ByteArray) (L : List Fld) (A : Option Addr) (c : Nat), sv = .string s ∧ v = .slice A L.length c ∧ s.size ≤ 9223372036854775807 ∧ L.length ≤ 64 ∧ takeL 64 S.data.toList = (takeL (64 - L.length) s.data.toList).map (L ++ ·) ∧ wr.ownsRow w.heap.size 57 2 v L.length (fldCells L) ∧ Below w.heap.size w wr)
    (fun sv _ _ => match sv with | .string s => s.size | _ => 0)
  case atStart => exact ⟨S, [], none, 0, rfl, rfl, hS, by simp, by simp, World.ownsRow_nil _ _ _ _, Below.refl _ _⟩
  case round =>
    obtain ⟨s, L, A, c, rfl, rfl, hsz, hL, heq, hown, hb⟩ := hrel
    have hbsz := hb.size
    by_cases h0 : s.size = 0
    · obtain rfl := emptyB h0
      have hv : takeL 64 S.data.toList = some L := by rw [heq]; simp [takeL]
      have hF : takeF S.data.toList = L := by unfold takeF; rw [hv]; rfl
      have hE : takeE S.data.toList = 0 := by unfold takeE; rw [hv]; rfl
      have HF := Lib.hid hF
      have HE := Lib.hid hE
      have HO := Lib.hid hown
      clear heq hv hF hE hown
      go_wp2
      go_ret2
      exact ⟨_, by rw [HE.out]; rfl, by rw [HF.out]; exact HO.out, hb⟩
    · have k0 : (0 : Int) < (s.size : Int) := by omega
      by_cases h3 : s.size < 3
      · have hbad : takeL 64 S.data.toList = none := by rw [heq, takeL_short (by rw [byteList_size]; omega) (by rw [byteList_size]; exact h3)]; rfl
        have HF := Lib.hid (bad_F hbad)
        have HE := Lib.hid (bad_E hbad)
        clear heq hown hbad
        go_wp2
        go_ret2
        exact ⟨_, by rw [HE.out]; rfl, by rw [HF.out]; exact World.ownsRow_nil _ _ _ _, hb⟩
      · by_cases hL64 : L.length = 64
        · have hbad : takeL 64 S.data.toList = none := by rw [heq, hL64, takeL_zero (by rw [byteList_size]; omega)]; rfl
          have l1 : (64 : Int) ≤ (L.length : Int) := by omega
          have HF := Lib.hid (bad_F hbad)
          have HE := Lib.hid (bad_E hbad)
          clear heq hown hbad
          go_wp2
          go_ret2
          exact ⟨_, by rw [HE.out]; rfl, by rw [HF.out]; exact World.ownsRow_nil _ _ _ _, hb⟩
        · have q0 : 0 < s.size := by omega
          have q1 : 1 < s.size := by omega
          have q2 : 2 < s.size := by omega
          have b1 := s[1].toNat_lt
          have b2 := s[2].toNat_lt
          have b0 := s[0].toNat_lt
          have i1 : (1 : Int) < (s.size : Int) := by omega
          have i2 : (2 : Int) < (s.size : Int) := by omega
          obtain ⟨n, hn⟩ : ∃ n, n = s[1].toNat + 256 * s[2].toNat := ⟨_, rfl⟩
          have w5 := sumW s[1].toNat s[2].toNat
          rw [← hn] at w5
          have W5 := Lib.hid w5
          clear w5
          by_cases hz : s[0] = 0
          · have hbad := take_off hL64 hL (by omega) hn (Or.inl hz) heq
            have hz' : ((s[0].toNat : Int) == 0) = true := by rw [u8_zero]; exact decide_eq_true hz
            clear hz hn
            have HF := Lib.hid (bad_F hbad)
            have HE := Lib.hid (bad_E hbad)
            clear heq hown hbad
            go_wp2
            go_quiet (fail)
            rw [W5.out]
            go_wp2
            go_ret2
            exact ⟨_, by rw [HE.out]; rfl, by rw [HF.out]; exact World.ownsRow_nil _ _ _ _, below_drewN hb nq⟩
          · have hz' : ((s[0].toNat : Int) == 0) = false := by rw [u8_zero]; exact decide_eq_false hz
            by_cases hbig : 400 < n
            · have hbad := take_off hL64 hL (by omega) hn (Or.inr (Or.inl hbig)) heq
              have f1 : (400 : Int) < (n : Int) := by omega
              clear hz hn
              have HF := Lib.hid (bad_F hbad)
              have HE := Lib.hid (bad_E hbad)
              clear heq hown hbad
              go_wp2
              go_quiet (fail)
              rw [W5.out]
              go_wp2
              go_ret2
              exact ⟨_, by rw [HE.out]; rfl, by rw [HF.out]; exact World.ownsRow_nil _ _ _ _, below_drewN hb nq⟩
            by_cases hfit : s.size < n + 3
            · have hbad := take_off hL64 hL (by omega) hn (Or.inr (Or.inr hfit)) heq
              have f1 : (n : Int) ≤ 400 := by omega
              have f2 : (s.size : Int) - 3 < (n : Int) := by omega
              clear hz hn
              have HF := Lib.hid (bad_F hbad)
              have HE := Lib.hid (bad_E hbad)
              clear heq hown hbad
              go_wp2
              go_quiet (fail)
              rw [W5.out]
              go_wp2
              go_ret2
              exact ⟨_, by rw [HE.out]; rfl, by rw [HF.out]; exact World.ownsRow_nil _ _ _ _, below_drewN hb nq⟩
            have HON := Lib.hid (take_on hL64 hL (by omega) hn hz hbig hfit heq)
            have HO := Lib.hid hown
            clear hz heq hn hown
            go_wp2
            go_quiet (fail)
            rw [W5.out]
            have f1 : (n : Int) ≤ 400 := by omega
            have f2 : (n : Int) + 3 ≤ (s.size : Int) := by omega
            have f3 : (n : Int) ≤ (s.size : Int) - 3 := by omega
            have f4 : (3 : Int) + (n : Int) ≤ (s.size : Int) := by omega
            have f5 : (3 : Int) ≤ 3 + (n : Int) := by omega
            have f6 : (0 : Int) ≤ 3 + (n : Int) := by omega
            have f7 : IntKind.i64.wrap (3 + (n : Int)) = 3 + (n : Int) := threeW n (by omega)
            go_wp2
            go_region_law (refine step_append_rd (by rfl) (.tmp 39) (.tmp 48) 59 (by rfl) w.heap.size 57 iF _ 2 24 Try.underlying59 hiF hzF hsF hbF rfl (by decide) (.slice A L.length c) L.length (fldCells L) (by rfl) (World.ownsRow.alloc (w := wr.drewN (nq + 1)) HO.out _) (wr.heap.size + 1) (some ⟨wr.heap.size, 0, none⟩) 1 1 _ (by rfl) (Rd.new (wr.drewN (nq + 1)) _ _ (0, 0)) (by rfl) (by simp [Value.oneCell']) (by unfold maxLen; omega) (by omega) (by simp; omega) ?_; intro v3 w3 hown3 hg3; have HO3 := Lib.hid hown3; have HG3 := Lib.hid hg3; clear hown3 hg3)
            go_wp2
            go_roundw
            case rel =>
              obtain ⟨A', c', rfl, -, -⟩ := own_form HO3.out
              refine ⟨s.extract (3 + n) s.size, L ++ [((s[0].toNat : Int), s.extract 3 (n + 3))], A', c', by rfl, by rw [List.length_append]; rfl, by rw [ByteArray.size_extract]; omega, by rw [List.length_append, List.length_singleton]; omega, by rw [Nat.add_comm 3 n]; exact HON.out, ?_, ((below_drewN hb (nq + 1)).alloc hbsz _).grown HG3.out (by simp; omega) (fun j hj => (HO.out.lt j hj).1)⟩
              rw [fldCells_append, List.length_append]
              have h3 := HO3.out
              rw [show ((3 : Int) + (n : Int)).toNat = n + 3 by omega, byteI _ b0] at h3
              exact h3
            case measure =>
              show (s.extract (3 + n) s.size).size < s.size
              rw [ByteArray.size_extract]
              omega
end Go.Proofs.Ytekjhhiamboffaa
