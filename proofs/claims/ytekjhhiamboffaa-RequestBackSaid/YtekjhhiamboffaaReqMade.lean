/-
  The contract of RequestBack's closure: raw numbers and texts, as an answer that may be. Condition: none but Go's numbers and lengths.
-/
import Derived.Test.YtekjhhiamboffaaAwake20
namespace Go.Proofs.Ytekjhhiamboffaa
open Go.RowKit

theorem own_drewN20 {w : World} {base n size : Nat} {e : TypeId} {v : Value} {xs : List Value} (h : w.ownsRow base e size v n xs) (k : Nat) : (w.drewN k).ownsRow base e size v n xs := own_keep_below h (below_drewN (Below.refl w.heap.size w) k) (Nat.le_refl _)
theorem zip_snoc {E : List Int} {D : List ByteArray} {x : Int} {d : ByteArray} (h : E.length = D.length) : (E ++ [x]).zip (D ++ [d]) = E.zip D ++ [(x, d)] := by
  rw [List.zip_append h]; rfl
theorem okA_snoc {E : List Int} {D : List ByteArray} {x : Int} {d : ByteArray} (hl : E.length = D.length) (h : ∀ p ∈ E.zip D, okA p = true) (h1 : 0 ≤ x) (h2 : x ≤ 1000) (h3 : d.size ≤ 16) : ∀ p ∈ (E ++ [x]).zip (D ++ [d]), okA p = true := by
  intro p hp
  rw [zip_snoc hl] at hp
  rcases List.mem_append.1 hp with h' | h'
  · exact h p h'
  · rw [List.mem_singleton.1 h']; exact okA_iff.2 ⟨h1, h2, h3⟩

set_option maxRecDepth 100000 in
set_option maxHeartbeats 4000000 in
theorem made20_calls (le : List Int) (lt : List ByteArray) (A B : Option Addr) (n m c cb : Nat) (w : World) (hra : Rd w w.heap.size A (intCells le)) (hrb : Rd w w.heap.size B (lt.map Value.string)) (hE : le.length = n) (hD : lt.length = m)
    (hwf : ∀ z ∈ le, -9223372036854775808 ≤ z ∧ z ≤ 9223372036854775807) (hs : ∀ s ∈ lt, s.size ≤ 9223372036854775807) :
    Calls Try.prog 24 #[.slice A n c, .slice B m cb] w fun e w' => ∃ (E : List Int) (D : List ByteArray) (A' B' : Option Addr) (k ca' cb' : Nat), TellP E D ∧ E.length = k ∧ D.length = k ∧ k ≤ 4 ∧ e = .returned (.tuple #[.slice A' k ca', .slice B' k cb']) ∧ Rd w' w'.heap.size A' (intCells E) ∧ Rd w' w'.heap.size B' (D.map Value.string) ∧ Below w.heap.size w w' := by
  obtain ⟨iE, hiE, hzE, hsE, hbE⟩ := info_parts errno_info
  obtain ⟨iS, hiS, hzS, hsS, hbS⟩ := info_parts string_info2
  have HA := Lib.hid hra
  have HB := Lib.hid hrb
  have HE := Lib.hid hE
  have HD := Lib.hid hD
  have HWF := Lib.hid hwf
  have HSZ := Lib.hid hs
  clear hra hrb hE hD hwf hs
  go_enter Try.func24, Try.ntmps24
  go_wp2
  go_loopw [6, 7, 8] (fun v u i wr => ∃ (k : Nat) (E : List Int) (D : List ByteArray), k ≤ 4 ∧ i = .int .i64 k ∧ E.length = k ∧ D.length = k ∧ (∀ p ∈ E.zip D, okA p = true) ∧ wr.ownsRow w.heap.size 27 1 v k (intCells E) ∧ wr.ownsRow w.heap.size 9 1 u k (D.map Value.string) ∧ Dis v u ∧ Below w.heap.size w wr) (fun _ _ i _ => 4 - (intOf i).toNat)
  case atStart => exact ⟨0, [], [], by omega, rfl, rfl, rfl, by simp, World.ownsRow_nil _ _ _ _, World.ownsRow_nil _ _ _ _, Dis.nil _, Below.refl _ _⟩
  case round =>
    obtain ⟨k, E, D, hk4, rfl, hEl, hDl, hall, hov, hou, hdis, hbw⟩ := hrel
    have HEL := Lib.hid hEl
    have HDL := Lib.hid hDl
    have HALL := Lib.hid hall
    have HV := Lib.hid hov
    have HU := Lib.hid hou
    have HDS := Lib.hid hdis
    have hbsz := hbw.size
    clear hEl hDl hall hov hou hdis
    by_cases hgo : k < 4 ∧ (k = 0 ∨ k < n)
    · have g1 : decide ((k : Int) < 4) = true := decide_eq_true (by omega)
      have hg : ((k : Int) == 0) = true ∨ (((k : Int) == 0) = false ∧ decide (k < n) = true) := by
        by_cases h0 : k = 0
        · exact .inl (by rw [beq_iff_eq]; omega)
        · exact .inr ⟨by rw [beq_eq_false_iff_ne]; omega, decide_eq_true (by omega)⟩
      have hk3 : k < 4 := hgo.1
      clear hgo
      rcases hg with g2 | ⟨g2, g3⟩
      all_goals
        by_cases hkn : k < n
        · by_cases hkm : k < m
          · skip
            have hkE : k < le.length := by rw [HE.out]; exact hkn
            obtain ⟨b, off, rfl, hbB, hc0⟩ := (HA.out.below hbw).at_ (intCells_at hkE)
            obtain ⟨z1, z2⟩ := HWF.out _ (List.getElem_mem hkE)
            obtain ⟨z, hz⟩ : ∃ z, z = le[k] := ⟨_, rfl⟩
            rw [← hz] at hc0 z1 z2
            clear hz hkE
            have hkD : k < lt.length := by rw [HD.out]; exact hkm
            obtain ⟨b', off', rfl, hbB', hd0⟩ := (HB.out.below hbw).at_ (k := k) (u := .string lt[k]) (by simp [hkD])
            have hds := HSZ.out _ (List.getElem_mem hkD)
            obtain ⟨s, hs⟩ : ∃ s, s = lt[k] := ⟨_, rfl⟩
            rw [← hs] at hd0 hds
            clear hs hkD
            obtain ⟨mm, hmm⟩ : ∃ mm : Nat, mm = min s.size 16 := ⟨_, rfl⟩
            have hmin : (if (16 : Int) < (s.size : Int) then (16 : Int) else (s.size : Int)) = (mm : Int) := by split <;> omega
            have mz0 : (0 : Int) ≤ (mm : Int) := by omega
            have mz1 : (mm : Int) ≤ (s.size : Int) := by omega
            have mz2 : mm ≤ 16 := by omega
            have mz3 : mm ≤ s.size := by omega
            have hkmi : (k : Int) < (m : Int) := by omega
            clear hmm
            go_wp2_with (go_at_call 21; (refine (pick20_nat z 1001 _ z1 z2 (by omega) (by omega)).mono ?_); rintro e w' ⟨x, hx, rfl, rfl⟩)
            go_quiet (fail)
            go_wp2_with (first
              | (at_builtin; (refine wpList_append_rd_at rfl (.tmp 49) (.tmp 51) 24 rfl w.heap.size 27 iE _ 1 8 Try.underlying24 hiE hzE hsE hbE rfl (by decide) _ k _ rfl (World.ownsRow.alloc (own_drewN20 HV.out nq) _) ⟨(wr.drewN nq).heap.size, 0, none⟩ 1 1 [.int .i64 (x : Int)] rfl rfl (newInts (wr.drewN nq) [.int .i64 (x : Int)] _) (by simp [Value.oneCell']) (by unfold maxLen; omega) (by omega) (bel_alloc (below_drewN hbw nq) _).size ?_); intro v3 w7 hown3 hg3 hat3; have hb7 : Below w.heap.size w w7 := (bel_alloc (below_drewN hbw nq) _).grown hg3 (bel_alloc (below_drewN hbw nq) _).size (fun i hi => (World.ownsRow.lt (own_drewN20 HV.out nq) i hi).1); have HU7 := Lib.hid (HDS.out.kept (World.ownsRow.alloc (own_drewN20 HU.out nq) _) hg3); have HD7 := Lib.hid (HDS.out.moved (World.ownsRow.alloc (own_drewN20 HU.out nq) _) hat3); have HV7 := Lib.hid hown3; clear hown3 hg3 hat3)
              | (at_builtin; (refine wpList_append_rd_at rfl (.tmp 53) (.tmp 55) 25 rfl w.heap.size 9 iS _ 1 16 Try.underlying25 hiS hzS hsS hbS rfl (by decide) _ k _ rfl (HU7.out.alloc _) ⟨w7.heap.size, 0, none⟩ 1 1 [.string (s.extract 0 mm)] rfl rfl (newCell _ _ _) (oneString _) (by unfold maxLen; omega) (by omega) (bel_alloc hb7 _).size ?_); intro v4 w8 hown4 hg4 hat4; have hb8 : Below w.heap.size w w8 := (bel_alloc hb7 _).grown hg4 (bel_alloc hb7 _).size (fun i hi => (HU7.out.lt i hi).1); have HV8 := Lib.hid (HD7.out.symm.kept (HV7.out.alloc _) hg4); have HD8 := Lib.hid (HD7.out.symm.moved (HV7.out.alloc _) hat4); have HU8 := Lib.hid hown4; clear hown4 hg4 hat4))
            go_roundw
            case rel =>
              refine ⟨k + 1, E ++ [(x : Int)], D ++ [(s.extract 0 mm)], by omega, by go_num, by rw [List.length_append, HEL.out]; rfl, by rw [List.length_append, HDL.out]; rfl, okA_snoc (by rw [HEL.out, HDL.out]) HALL.out (by omega) (by omega) (by rw [ByteArray.size_extract]; omega), by rw [intCells_app]; exact HV8.out, by rw [List.map_append]; exact HU8.out, HD8.out.symm, hb8⟩
            case measure => simp [intOf]; omega
          · skip
            have hkE : k < le.length := by rw [HE.out]; exact hkn
            obtain ⟨b, off, rfl, hbB, hc0⟩ := (HA.out.below hbw).at_ (intCells_at hkE)
            obtain ⟨z1, z2⟩ := HWF.out _ (List.getElem_mem hkE)
            obtain ⟨z, hz⟩ : ∃ z, z = le[k] := ⟨_, rfl⟩
            rw [← hz] at hc0 z1 z2
            clear hz hkE
            have hkm2 : decide (k < m) = false := decide_eq_false hkm
            go_wp2_with (first
              | (go_at_call 21; (refine (pick20_nat z 1001 _ z1 z2 (by omega) (by omega)).mono ?_); rintro e w' ⟨x, hx, rfl, rfl⟩)
              | (at_builtin; (refine wpList_append_rd_at rfl (.tmp 49) (.tmp 51) 24 rfl w.heap.size 27 iE _ 1 8 Try.underlying24 hiE hzE hsE hbE rfl (by decide) _ k _ rfl (World.ownsRow.alloc HV.out _) ⟨wr.heap.size, 0, none⟩ 1 1 [.int .i64 (x : Int)] rfl rfl (newInts wr [.int .i64 (x : Int)] _) (by simp [Value.oneCell']) (by unfold maxLen; omega) (by omega) (bel_alloc hbw _).size ?_); intro v3 w7 hown3 hg3 hat3; have hb7 : Below w.heap.size w w7 := (bel_alloc hbw _).grown hg3 (bel_alloc hbw _).size (fun i hi => (World.ownsRow.lt HV.out i hi).1); have HU7 := Lib.hid (HDS.out.kept (World.ownsRow.alloc HU.out _) hg3); have HD7 := Lib.hid (HDS.out.moved (World.ownsRow.alloc HU.out _) hat3); have HV7 := Lib.hid hown3; clear hown3 hg3 hat3)
              | (at_builtin; (refine wpList_append_rd_at rfl (.tmp 53) (.tmp 55) 25 rfl w.heap.size 9 iS _ 1 16 Try.underlying25 hiS hzS hsS hbS rfl (by decide) _ k _ rfl (HU7.out.alloc _) ⟨w7.heap.size, 0, none⟩ 1 1 [.string ⟨#[]⟩] rfl rfl (newCell _ _ _) (oneString _) (by unfold maxLen; omega) (by omega) (bel_alloc hb7 _).size ?_); intro v4 w8 hown4 hg4 hat4; have hb8 : Below w.heap.size w w8 := (bel_alloc hb7 _).grown hg4 (bel_alloc hb7 _).size (fun i hi => (HU7.out.lt i hi).1); have HV8 := Lib.hid (HD7.out.symm.kept (HV7.out.alloc _) hg4); have HD8 := Lib.hid (HD7.out.symm.moved (HV7.out.alloc _) hat4); have HU8 := Lib.hid hown4; clear hown4 hg4 hat4))
            go_roundw
            case rel =>
              refine ⟨k + 1, E ++ [(x : Int)], D ++ [⟨#[]⟩], by omega, by go_num, by rw [List.length_append, HEL.out]; rfl, by rw [List.length_append, HDL.out]; rfl, okA_snoc (by rw [HEL.out, HDL.out]) HALL.out (by omega) (by omega) (by decide), by rw [intCells_app]; exact HV8.out, by rw [List.map_append]; exact HU8.out, HD8.out.symm, hb8⟩
            case measure => simp [intOf]; omega
        · by_cases hkm : k < m
          · first
            | exact absurd (of_decide_eq_true ‹decide (k < n) = true›) hkn
            | skip
            all_goals
              have hkn2 : decide (k < n) = false := decide_eq_false hkn
              have hkD : k < lt.length := by rw [HD.out]; exact hkm
              obtain ⟨b', off', rfl, hbB', hd0⟩ := (HB.out.below hbw).at_ (k := k) (u := .string lt[k]) (by simp [hkD])
              have hds := HSZ.out _ (List.getElem_mem hkD)
              obtain ⟨s, hs⟩ : ∃ s, s = lt[k] := ⟨_, rfl⟩
              rw [← hs] at hd0 hds
              clear hs hkD
              obtain ⟨mm, hmm⟩ : ∃ mm : Nat, mm = min s.size 16 := ⟨_, rfl⟩
              have hmin : (if (16 : Int) < (s.size : Int) then (16 : Int) else (s.size : Int)) = (mm : Int) := by split <;> omega
              have mz0 : (0 : Int) ≤ (mm : Int) := by omega
              have mz1 : (mm : Int) ≤ (s.size : Int) := by omega
              have mz2 : mm ≤ 16 := by omega
              have mz3 : mm ≤ s.size := by omega
              have hkmi : (k : Int) < (m : Int) := by omega
              clear hmm
              go_wp2_with fail
              go_quiet (fail)
              go_wp2_with (first
                | (at_builtin; (refine wpList_append_rd_at rfl (.tmp 49) (.tmp 51) 24 rfl w.heap.size 27 iE _ 1 8 Try.underlying24 hiE hzE hsE hbE rfl (by decide) _ k _ rfl (World.ownsRow.alloc (own_drewN20 HV.out nq) _) ⟨(wr.drewN nq).heap.size, 0, none⟩ 1 1 [.int .i64 0] rfl rfl (newInts (wr.drewN nq) [.int .i64 0] _) (by simp [Value.oneCell']) (by unfold maxLen; omega) (by omega) (bel_alloc (below_drewN hbw nq) _).size ?_); intro v3 w7 hown3 hg3 hat3; have hb7 : Below w.heap.size w w7 := (bel_alloc (below_drewN hbw nq) _).grown hg3 (bel_alloc (below_drewN hbw nq) _).size (fun i hi => (World.ownsRow.lt (own_drewN20 HV.out nq) i hi).1); have HU7 := Lib.hid (HDS.out.kept (World.ownsRow.alloc (own_drewN20 HU.out nq) _) hg3); have HD7 := Lib.hid (HDS.out.moved (World.ownsRow.alloc (own_drewN20 HU.out nq) _) hat3); have HV7 := Lib.hid hown3; clear hown3 hg3 hat3)
                | (at_builtin; (refine wpList_append_rd_at rfl (.tmp 53) (.tmp 55) 25 rfl w.heap.size 9 iS _ 1 16 Try.underlying25 hiS hzS hsS hbS rfl (by decide) _ k _ rfl (HU7.out.alloc _) ⟨w7.heap.size, 0, none⟩ 1 1 [.string (s.extract 0 mm)] rfl rfl (newCell _ _ _) (oneString _) (by unfold maxLen; omega) (by omega) (bel_alloc hb7 _).size ?_); intro v4 w8 hown4 hg4 hat4; have hb8 : Below w.heap.size w w8 := (bel_alloc hb7 _).grown hg4 (bel_alloc hb7 _).size (fun i hi => (HU7.out.lt i hi).1); have HV8 := Lib.hid (HD7.out.symm.kept (HV7.out.alloc _) hg4); have HD8 := Lib.hid (HD7.out.symm.moved (HV7.out.alloc _) hat4); have HU8 := Lib.hid hown4; clear hown4 hg4 hat4))
              go_roundw
              case rel =>
                refine ⟨k + 1, E ++ [0], D ++ [(s.extract 0 mm)], by omega, by go_num, by rw [List.length_append, HEL.out]; rfl, by rw [List.length_append, HDL.out]; rfl, okA_snoc (by rw [HEL.out, HDL.out]) HALL.out (by omega) (by omega) (by rw [ByteArray.size_extract]; omega), by rw [intCells_app]; exact HV8.out, by rw [List.map_append]; exact HU8.out, HD8.out.symm, hb8⟩
              case measure => simp [intOf]; omega
          · first
            | exact absurd (of_decide_eq_true ‹decide (k < n) = true›) hkn
            | skip
            all_goals
              have hkn2 : decide (k < n) = false := decide_eq_false hkn
              have hkm2 : decide (k < m) = false := decide_eq_false hkm
              go_wp2_with (first
                | (at_builtin; (refine wpList_append_rd_at rfl (.tmp 49) (.tmp 51) 24 rfl w.heap.size 27 iE _ 1 8 Try.underlying24 hiE hzE hsE hbE rfl (by decide) _ k _ rfl (World.ownsRow.alloc HV.out _) ⟨wr.heap.size, 0, none⟩ 1 1 [.int .i64 0] rfl rfl (newInts wr [.int .i64 0] _) (by simp [Value.oneCell']) (by unfold maxLen; omega) (by omega) (bel_alloc hbw _).size ?_); intro v3 w7 hown3 hg3 hat3; have hb7 : Below w.heap.size w w7 := (bel_alloc hbw _).grown hg3 (bel_alloc hbw _).size (fun i hi => (World.ownsRow.lt HV.out i hi).1); have HU7 := Lib.hid (HDS.out.kept (World.ownsRow.alloc HU.out _) hg3); have HD7 := Lib.hid (HDS.out.moved (World.ownsRow.alloc HU.out _) hat3); have HV7 := Lib.hid hown3; clear hown3 hg3 hat3)
                | (at_builtin; (refine wpList_append_rd_at rfl (.tmp 53) (.tmp 55) 25 rfl w.heap.size 9 iS _ 1 16 Try.underlying25 hiS hzS hsS hbS rfl (by decide) _ k _ rfl (HU7.out.alloc _) ⟨w7.heap.size, 0, none⟩ 1 1 [.string ⟨#[]⟩] rfl rfl (newCell _ _ _) (oneString _) (by unfold maxLen; omega) (by omega) (bel_alloc hb7 _).size ?_); intro v4 w8 hown4 hg4 hat4; have hb8 : Below w.heap.size w w8 := (bel_alloc hb7 _).grown hg4 (bel_alloc hb7 _).size (fun i hi => (HU7.out.lt i hi).1); have HV8 := Lib.hid (HD7.out.symm.kept (HV7.out.alloc _) hg4); have HD8 := Lib.hid (HD7.out.symm.moved (HV7.out.alloc _) hat4); have HU8 := Lib.hid hown4; clear hown4 hg4 hat4))
              go_roundw
              case rel =>
                refine ⟨k + 1, E ++ [0], D ++ [⟨#[]⟩], by omega, by go_num, by rw [List.length_append, HEL.out]; rfl, by rw [List.length_append, HDL.out]; rfl, okA_snoc (by rw [HEL.out, HDL.out]) HALL.out (by omega) (by omega) (by decide), by rw [intCells_app]; exact HV8.out, by rw [List.map_append]; exact HU8.out, HD8.out.symm, hb8⟩
              case measure => simp [intOf]; omega
    · have hk1 : 1 ≤ k := by omega
      have hq : decide ((k : Int) < 4) = false ∨ (decide ((k : Int) < 4) = true ∧ ((k : Int) == 0) = false ∧ decide (k < n) = false) := by
        by_cases h4 : k < 4
        · exact .inr ⟨decide_eq_true (by omega), by rw [beq_eq_false_iff_ne]; omega, decide_eq_false (by omega)⟩
        · exact .inl (decide_eq_false (by omega))
      obtain ⟨A2, c2, rfl, -, -⟩ := own_form HV.out
      obtain ⟨B2, c3, rfl, -, -⟩ := own_form HU.out
      clear hgo
      rcases hq with q1 | ⟨q1, q2, q3⟩
      all_goals
        go_wp2
        go_ret2
        exact ⟨E, D, A2, B2, k, c2, c3, ⟨by rw [HEL.out, HDL.out]; exact ⟨hk1, hk4, rfl⟩, HALL.out⟩, HEL.out, HDL.out, hk4, rfl, Rd.of_own HV.out, Rd.of_own HU.out, hbw⟩
end Go.Proofs.Ytekjhhiamboffaa
