/-
  The contract of tlv.Take, for all texts. Condition: the text's length is Go's.
-/
import Derived.Test.YtekjhhiamboffaaTlvLay
import Derived.Test.YtekjhhiamboffaaTwoLabels
import Derived.Deep.RegionLaw
namespace Go.Proofs.Ytekjhhiamboffaa
open Go.RowKit

/-- fields out of bytes, at most k of them -/
def takeL : Nat → List UInt8 → Option (List Fld)
  | _, [] => some []
  | 0, _ :: _ => none
  | k + 1, t :: a :: b :: r => if t = 0 ∨ 400 < a.toNat + 256 * b.toNat ∨ r.length < a.toNat + 256 * b.toNat then none
    else (takeL k (r.drop (a.toNat + 256 * b.toNat))).map fun l => ((t.toNat : Int), ⟨(r.take (a.toNat + 256 * b.toNat)).toArray⟩) :: l
  | _ + 1, [_] => none
  | _ + 1, [_, _] => none
theorem takeL_nil (k : Nat) : takeL k [] = some [] := by cases k <;> rfl
theorem takeL_zero {l : List UInt8} (h : 0 < l.length) : takeL 0 l = none := by
  cases l with
  | nil => simp at h
  | cons _ _ => rfl
theorem takeL_short {k : Nat} {l : List UInt8} (h : 0 < l.length) (h3 : l.length < 3) : takeL k l = none := by
  match k, l, h, h3 with
  | 0, _ :: _, _, _ => rfl
  | _ + 1, [_], _, _ => rfl
  | _ + 1, [_, _], _, _ => rfl
  | _ + 1, _ :: _ :: _ :: _, _, h3 => simp at h3; omega
theorem takeL_three {k n : Nat} {l : List UInt8} (h : 3 ≤ l.length) (hn : n = l[1].toNat + 256 * l[2].toNat) :
    takeL (k + 1) l = if l[0] = 0 ∨ 400 < n ∨ l.length < n + 3 then none else (takeL k (l.drop (n + 3))).map fun r => ((l[0].toNat : Int), ⟨((l.drop 3).take n).toArray⟩) :: r := by
  match l, h, hn with
  | t :: a :: b :: r, h, hn =>
    simp only [List.getElem_cons_zero, List.getElem_cons_succ] at hn
    subst hn
    simp only [takeL, List.getElem_cons_zero, List.length_cons, List.drop_succ_cons, List.drop_zero, show ∀ m : Nat, m + 3 = m + 1 + 1 + 1 from fun _ => rfl]
    simp only [show (r.length + 1 + 1 + 1 < a.toNat + 256 * b.toNat + 1 + 1 + 1) = (r.length < a.toNat + 256 * b.toNat) from propext (by omega)]
theorem ext_list (s : ByteArray) (i j : Nat) : (s.extract i j).data.toList = (s.data.toList.take j).drop i := by simp [List.drop_take]
theorem ext_field {s : ByteArray} {n : Nat} : s.extract 3 (n + 3) = ⟨((s.data.toList.drop 3).take n).toArray⟩ := by
  rw [← mk_toList (s.extract 3 (n + 3)), ext_list, List.drop_take]
  rfl
theorem ext_rest {s : ByteArray} {n : Nat} : (s.extract n s.size).data.toList = s.data.toList.drop n := by
  rw [ext_list, List.take_of_length_le (by rw [byteList_size]; exact Nat.le_refl _)]
/-- a text that stops the taking -/
theorem take_bad {s : ByteArray} {k n : Nat} (h3 : 3 ≤ s.size) (hn : n = s[1].toNat + 256 * s[2].toNat) (hb : s[0] = 0 ∨ 400 < n ∨ s.size < n + 3) : takeL (k + 1) s.data.toList = none := by
  rw [takeL_three (n := n) (by rw [byteList_size]; exact h3) (by rw [hn]; rfl), if_pos]
  rcases hb with h | h | h
  · exact Or.inl h
  · exact Or.inr (Or.inl h)
  · exact Or.inr (Or.inr (by rw [byteList_size]; exact h))
theorem take_good {s : ByteArray} {k n : Nat} (h3 : 3 ≤ s.size) (hn : n = s[1].toNat + 256 * s[2].toNat) (h0 : ¬ s[0] = 0) (h1 : ¬ 400 < n) (h2 : ¬ s.size < n + 3) :
    takeL (k + 1) s.data.toList = (takeL k (s.extract (n + 3) s.size).data.toList).map fun r => ((s[0].toNat : Int), s.extract 3 (n + 3)) :: r := by
  rw [takeL_three (n := n) (by rw [byteList_size]; exact h3) (by rw [hn]; rfl), if_neg, ext_rest, ext_field]
  · rfl
  · rintro (h | h | h)
    · exact h0 h
    · exact h1 h
    · rw [byteList_size] at h; exact h2 h
theorem take_on {S s : ByteArray} {L : List Fld} {n : Nat} (hL : ¬ L.length = 64) (hL2 : L.length ≤ 64) (h3 : 3 ≤ s.size) (hn : n = s[1].toNat + 256 * s[2].toNat) (h0 : ¬ s[0] = 0) (h1 : ¬ 400 < n) (h2 : ¬ s.size < n + 3)
    (h : takeL 64 S.data.toList = (takeL (64 - L.length) s.data.toList).map (L ++ ·)) :
    takeL 64 S.data.toList = (takeL (64 - (L ++ [((s[0].toNat : Int), s.extract 3 (n + 3))]).length) (s.extract (n + 3) s.size).data.toList).map ((L ++ [((s[0].toNat : Int), s.extract 3 (n + 3))]) ++ ·) := by
  rw [h, show 64 - L.length = (64 - (L.length + 1)) + 1 by omega, take_good h3 hn h0 h1 h2, List.length_append]
  simp only [Option.map_map, List.length_singleton]
  congr 1
  funext r
  simp
theorem take_off {S s : ByteArray} {L : List Fld} {n : Nat} (hL : ¬ L.length = 64) (hL2 : L.length ≤ 64) (h3 : 3 ≤ s.size) (hn : n = s[1].toNat + 256 * s[2].toNat) (hb : s[0] = 0 ∨ 400 < n ∨ s.size < n + 3)
    (h : takeL 64 S.data.toList = (takeL (64 - L.length) s.data.toList).map (L ++ ·)) : takeL 64 S.data.toList = none := by
  rw [h, show 64 - L.length = (64 - (L.length + 1)) + 1 by omega, take_bad h3 hn hb]
  rfl
def takeF (s : List UInt8) : List Fld := (takeL 64 s).getD []
def takeE (s : List UInt8) : Int := if (takeL 64 s).isSome then 0 else 30

theorem or_two (a b : UInt8) : bits .or .i64 (wrap64 (a.toNat : Int)) (wrap64 (wrap64 (b.toNat : Int) * 256)) = ((a.toNat + 256 * b.toNat : Nat) : Int) := by
  have ha := a.toNat_lt
  have hb := b.toNat_lt
  have e : ((b.toNat : Int) * 256) = ((b.toNat * 256 : Nat) : Int) := by omega
  have e2 : b.toNat * 256 = b.toNat <<< (8 * 1) := by rw [Nat.shiftLeft_eq]
  rw [IntWalk.wrap64_in _ (by omega), IntWalk.wrap64_in (b.toNat : Int) (by omega), e, IntWalk.wrap64_in _ (by omega), i64_or_nat _ _ (by omega) (by omega), e2, or_step (by omega)]
theorem fld_info : (Try.prog.info? 57).map (fun i => (i.zero, i.size, i.bytes)) = some (some (.agg #[.int .i64 0, .string ⟨#[]⟩]), 2, 24) := by kernel_rfl

set_option maxHeartbeats 2000000 in
theorem take_calls (S : ByteArray) (w : World) :
    Calls Try.prog 38 #[.string S] w fun e w' => ∃ v, e = .returned (.tuple #[v, .int .i64 (takeE S.data.toList)]) ∧ w'.ownsRow w.heap.size 57 2 v (takeF S.data.toList).length (fldCells (takeF S.data.toList)) ∧ Below w.heap.size w w' := by
  go_enter Try.func38, Try.ntmps38
  go_wp2
  refine wp_scope_two (rest1 := ?rest1) (fun a' w' => ∃ (s : ByteArray) (L : List Fld) (v : Value) (u5 u6 u7 u8 u9 u10 u11 u12 u13 u14 u15 u16 u17 u18 u19 u20 u21 u22 u23 u24 u25 u26 u27 u28 u29 u30 u31 u32 u33 u34 u35 u36 u37 u38 u39 u40 u41 u42 u43 u44 u45 u46 u47 u48 u49 u50 : Value),
      a' = { tmps := #[.string s, undef, .slice none 0 0, .int .i64 0, v, u5, u6, u7, u8, u9, u10, u11, u12, u13, u14, u15, u16, u17, u18, u19, u20, u21, u22, u23, u24, u25, u26, u27, u28, u29, u30, u31, u32, u33, u34, u35, u36, u37, u38, u39, u40, u41, u42, u43, u44, u45, u46, u47, u48, u49, u50], defers := [] } ∧
        L.length ≤ 64 ∧ takeL 64 S.data.toList = (takeL (64 - L.length) s.data.toList).map (L ++ ·) ∧ w'.ownsRow w.heap.size 57 2 v L.length (fldCells L) ∧ Below w.heap.size w w')
    (fun a' w' => ∃ (u0 v u5 u6 u7 u8 u9 u10 u11 u12 u13 u14 u15 u16 u17 u18 u19 u20 u21 u22 u23 u24 u25 u26 u27 u28 u29 u30 u31 u32 u33 u34 u35 u36 u37 u38 u39 u40 u41 u42 u43 u44 u45 u46 u47 u48 u49 u50 : Value),
      a' = { tmps := #[u0, undef, .slice none 0 0, .int .i64 0, v, u5, u6, u7, u8, u9, u10, u11, u12, u13, u14, u15, u16, u17, u18, u19, u20, u21, u22, u23, u24, u25, u26, u27, u28, u29, u30, u31, u32, u33, u34, u35, u36, u37, u38, u39, u40, u41, u42, u43, u44, u45, u46, u47, u48, u49, u50], defers := [] } ∧
        takeL 64 S.data.toList = none ∧ Below w.heap.size w w')
    (fun a' _ => match a'.tmps.getD 0 undef with | .string s => s.size | _ => 0) ?hf0 ?hf1 ?first ?pass ?last
  case hf0 => rfl
  case hf1 => rfl
  case first =>
    go_wp2
    exact ⟨S, [], .slice none 0 0, _, _, _, _, _, _, _, _, _, _, _, _, _, _, _, _, _, _, _, _, _, _, _, _, _, _, _, _, _, _, _, _, _, _, _, _, _, _, _, _, _, _, _, _, _, _, rfl, by simp, by simp, World.ownsRow_nil _ _ _ _, Below.refl _ _⟩
  case pass =>
    rintro a' w' ⟨s, L, v, u5, u6, u7, u8, u9, u10, u11, u12, u13, u14, u15, u16, u17, u18, u19, u20, u21, u22, u23, u24, u25, u26, u27, u28, u29, u30, u31, u32, u33, u34, u35, u36, u37, u38, u39, u40, u41, u42, u43, u44, u45, u46, u47, u48, u49, u50, rfl, hL, heq, hown, hb⟩
    obtain ⟨A, c, rfl, hc1, hc2⟩ := own_form hown
    by_cases h0 : s.size = 0
    · obtain rfl := emptyB h0
      have hv : takeL 64 S.data.toList = some L := by rw [heq]; simp [takeL]
      have hF : takeF S.data.toList = L := by unfold takeF; rw [hv]; rfl
      have hE : takeE S.data.toList = 0 := by unfold takeE; rw [hv]; rfl
      have HF := Lib.hid hF
      have HE := Lib.hid hE
      have HO := Lib.hid hown
      have he : (ByteArray.mk #[]).toList.isEmpty = true := by rw [ByteArray.toList_eq]; rfl
      clear heq hv hF hE hown h0
      go_wp2
      simp only [jumps]
      go_ret2
      exact ⟨_, by rw [HE.out]; rfl, by rw [HF.out]; exact HO.out, hb⟩
    · have he : s.toList.isEmpty = false := notEmpty (by omega)
      by_cases hL64 : L.length = 64
      · have hLn : ((L.length : Int) == 64) = true := by rw [beq_iff_eq]; omega
        have HBAD : Hid (takeL 64 S.data.toList = none) := Lib.hid (by rw [heq, hL64, takeL_zero (by rw [byteList_size]; omega)]; rfl)
        clear heq hown
        go_wp2
        go_step3
        exact Or.inr ⟨rfl, _, _, _, _, _, _, _, _, _, _, _, _, _, _, _, _, _, _, _, _, _, _, _, _, _, _, _, _, _, _, _, _, _, _, _, _, _, _, _, _, _, _, _, _, _, _, _, _, rfl, HBAD.out, hb⟩
      · have hLn : ((L.length : Int) == 64) = false := by rw [beq_eq_false_iff_ne]; omega
        by_cases h3 : s.size < 3
        · have HBAD : Hid (takeL 64 S.data.toList = none) := Lib.hid (by rw [heq, takeL_short (by rw [byteList_size]; omega) (by rw [byteList_size]; exact h3)]; rfl)
          clear heq hown
          go_wp2
          go_step3
          exact Or.inr ⟨rfl, _, _, _, _, _, _, _, _, _, _, _, _, _, _, _, _, _, _, _, _, _, _, _, _, _, _, _, _, _, _, _, _, _, _, _, _, _, _, _, _, _, _, _, _, _, _, _, _, rfl, HBAD.out, hb⟩
        · have k0 : 0 < s.size := by omega
          have k1 : 1 < s.size := by omega
          have k2 : 2 < s.size := by omega
          by_cases hz : s[0] = 0
          · have hz' : ((s[0].toNat : Int) == 0) = true := by rw [u8_zero]; exact decide_eq_true hz
            have HBAD : Hid (takeL 64 S.data.toList = none) := Lib.hid (take_off hL64 hL (by omega) rfl (Or.inl hz) heq)
            clear heq hown hz
            go_wp2
            go_step3
            exact Or.inr ⟨rfl, _, _, _, _, _, _, _, _, _, _, _, _, _, _, _, _, _, _, _, _, _, _, _, _, _, _, _, _, _, _, _, _, _, _, _, _, _, _, _, _, _, _, _, _, _, _, _, _, rfl, HBAD.out, hb⟩
          · have hz' : ((s[0].toNat : Int) == 0) = false := by rw [u8_zero]; exact decide_eq_false hz
            obtain ⟨n, hn⟩ : ∃ n, n = s[1].toNat + 256 * s[2].toNat := ⟨_, rfl⟩
            have hbits : bits .or .i64 (wrap64 (s[1].toNat : Int)) (wrap64 (wrap64 (s[2].toNat : Int) * 256)) = (n : Int) := by rw [hn]; exact or_two _ _
            have HN := Lib.hid hn
            have HZ := Lib.hid hz
            have HH := Lib.hid heq
            have HO := Lib.hid hown
            have hn2 : n < 65536 := by rw [hn]; have h1 := s[1].toNat_lt; have h2 := s[2].toNat_lt; omega
            clear hz hown heq hn
            have k1' : (1 : Int) < (s.size : Int) := by omega
            have k2' : (2 : Int) < (s.size : Int) := by omega
            by_cases hbig : 400 < n
            · have HBAD : Hid (takeL 64 S.data.toList = none) := Lib.hid (take_off hL64 hL (by omega) HN.out (Or.inr (Or.inl hbig)) HH.out)
              go_wp2
              go_quiet (fail)
              go_wp2
              go_step3
              exact Or.inr ⟨rfl, _, _, _, _, _, _, _, _, _, _, _, _, _, _, _, _, _, _, _, _, _, _, _, _, _, _, _, _, _, _, _, _, _, _, _, _, _, _, _, _, _, _, _, _, _, _, _, _, rfl, HBAD.out, below_drewN hb nq⟩
            · by_cases hfit : s.size < n + 3
              · have HBAD : Hid (takeL 64 S.data.toList = none) := Lib.hid (take_off hL64 hL (by omega) HN.out (Or.inr (Or.inr hfit)) HH.out)
                go_wp2
                go_quiet (fail)
                go_wp2
                go_step3
                exact Or.inr ⟨rfl, _, _, _, _, _, _, _, _, _, _, _, _, _, _, _, _, _, _, _, _, _, _, _, _, _, _, _, _, _, _, _, _, _, _, _, _, _, _, _, _, _, _, _, _, _, _, _, _, rfl, HBAD.out, below_drewN hb nq⟩
              · have HON := Lib.hid (take_on hL64 hL (by omega) HN.out HZ.out hbig hfit HH.out)
                obtain ⟨iF, hiF, hzF, hsF, hbF⟩ := info_parts fld_info
                go_wp2
                go_quiet (fail)
                go_wp2
                have q1 : (n : Int) + 3 ≤ (s.size : Int) := by omega
                have q2 : (3 : Int) ≤ (n : Int) + 3 := by omega
                have q3 : (0 : Int) ≤ (n : Int) + 3 := by omega
                have hw0 : wrap64 (s[0].toNat : Int) = (s[0].toNat : Int) := IntWalk.wrap64_in _ (by have := s[0].toNat_lt; omega)
                have hbsz := hb.size
                go_region_law (refine step_append_rd (by rfl) (.tmp 38) (.tmp 46) 59 (by rfl) w.heap.size 57 iF _ 2 24 Try.underlying59 hiF hzF hsF hbF rfl (by decide) (.slice A L.length c) L.length (fldCells L) (by rfl) (World.ownsRow.alloc (w := w'.drewN (nq + 1)) HO.out _) (w'.heap.size + 1) (some ⟨w'.heap.size, 0, none⟩) 1 1 (fldCells [(IntKind.i64.wrap (s[0].toNat : Int), s.extract 3 ((n : Int) + 3).toNat)]) (by rfl) (Rd.new (w'.drewN (nq + 1)) #[.int .i64 (IntKind.i64.wrap (s[0].toNat : Int)), .string (s.extract 3 ((n : Int) + 3).toNat)] 57 (0, 0)) (by rfl) (fldCells_one _) (by unfold maxLen; omega) (by omega) (by simp; omega) ?_; intro v3 w3 hown3 hg3; have HO3 := Lib.hid hown3; have HG3 := Lib.hid hg3; clear hown3 hg3)
                go_wp2
                go_step3
                refine Or.inl ⟨rfl, ⟨s.extract (n + 3) s.size, L ++ [((s[0].toNat : Int), s.extract 3 (n + 3))], v3, _, _, _, _, _, _, _, _, _, _, _, _, _, _, _, _, _, _, _, _, _, _, _, _, _, _, _, _, _, _, _, _, _, _, _, _, _, _, _, _, _, _, _, _, _, _, rfl, by rw [List.length_append, List.length_singleton]; omega, HON.out, ?_, ?_⟩, ?_⟩
                · rw [fldCells_append, List.length_append]
                  have h3 := HO3.out
                  rw [show ((n : Int) + 3).toNat = n + 3 by omega, show IntKind.i64.wrap (s[0].toNat : Int) = (s[0].toNat : Int) from IntWalk.i64_in _ (by have := s[0].toNat_lt; omega)] at h3
                  exact h3
                · exact ((below_drewN hb (nq + 1)).alloc hbsz _).grown HG3.out (by simp; omega) (fun j hj => (HO.out.lt j hj).1)
                · show (s.extract (n + 3) s.size).size < s.size
                  rw [ByteArray.size_extract]
                  omega
  case last =>
    rintro a' w' ⟨u0, v, u5, u6, u7, u8, u9, u10, u11, u12, u13, u14, u15, u16, u17, u18, u19, u20, u21, u22, u23, u24, u25, u26, u27, u28, u29, u30, u31, u32, u33, u34, u35, u36, u37, u38, u39, u40, u41, u42, u43, u44, u45, u46, u47, u48, u49, u50, rfl, hn, hb⟩
    have hF : takeF S.data.toList = [] := by unfold takeF; rw [hn]; rfl
    have hE : takeE S.data.toList = 30 := by unfold takeE; rw [hn]; rfl
    have HF := Lib.hid hF
    have HE := Lib.hid hE
    clear hn hF hE
    go_wp2
    rw [Exit.noGoto_ret]
    go_ret2
    exact ⟨_, by rw [HE.out]; rfl, by rw [HF.out]; exact World.ownsRow_nil _ _ _ _, hb⟩
end Go.Proofs.Ytekjhhiamboffaa
