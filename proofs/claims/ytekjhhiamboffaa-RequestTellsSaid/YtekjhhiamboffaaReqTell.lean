/-
  The contract of package request's Tell: an answer as bytes, or ErrBad, whatever is told. Condition: slices' lengths are Go's.
-/
import Derived.Test.YtekjhhiamboffaaReqTake
import Derived.Deep.RegionHeld3
import Derived.Deep.RegionLaw
namespace Go.Proofs.Ytekjhhiamboffaa
open Go.RowKit

/-- one answer: an error's number and a text -/
def okA (p : Int × ByteArray) : Bool := decide (0 ≤ p.1 ∧ p.1 ≤ 1000 ∧ p.2.size ≤ 16)
theorem okA_iff {p : Int × ByteArray} : okA p = true ↔ 0 ≤ p.1 ∧ p.1 ≤ 1000 ∧ p.2.size ≤ 16 := decide_eq_true_iff
def tellF (l : List (Int × ByteArray)) : List Fld := l.flatMap fun p => [(5, numB p.1), (6, p.2)]
def tellOk (E : List Int) (D : List ByteArray) : Bool := decide (1 ≤ E.length ∧ E.length ≤ 4 ∧ D.length = E.length) && (E.zip D).all okA
def TellP (E : List Int) (D : List ByteArray) : Prop := (1 ≤ E.length ∧ E.length ≤ 4 ∧ D.length = E.length) ∧ ∀ p ∈ E.zip D, okA p = true
theorem tellOk_iff {E : List Int} {D : List ByteArray} : tellOk E D = true ↔ TellP E D := by
  unfold tellOk TellP
  rw [Bool.and_eq_true, decide_eq_true_iff, List.all_eq_true]
def tellB (E : List Int) (D : List ByteArray) : ByteArray := if tellOk E D then layB (tellF (E.zip D)) else ⟨#[]⟩
def tellE (E : List Int) (D : List ByteArray) : Int := if tellOk E D then 0 else 200
theorem tell_yes {E : List Int} {D : List ByteArray} (h : TellP E D) : tellB E D = layB (tellF (E.zip D)) ∧ tellE E D = 0 := by
  have h' := tellOk_iff.2 h
  unfold tellB tellE
  rw [if_pos h', if_pos h']
  exact ⟨rfl, rfl⟩
theorem tell_no {E : List Int} {D : List ByteArray} (h : ¬ TellP E D) : tellB E D = ⟨#[]⟩ ∧ tellE E D = 200 := by
  have h' : ¬ tellOk E D = true := fun h' => h (tellOk_iff.1 h')
  unfold tellB tellE
  rw [if_neg h', if_neg h']
  exact ⟨rfl, rfl⟩
theorem tellF_length (l : List (Int × ByteArray)) : (tellF l).length = 2 * l.length := by
  unfold tellF
  induction l with
  | nil => rfl
  | cons p l ih => rw [List.flatMap_cons, List.length_append, ih]; simp; omega
theorem tellF_snoc (l : List (Int × ByteArray)) (p : Int × ByteArray) : tellF (l ++ [p]) = tellF l ++ [(5, numB p.1), (6, p.2)] := by
  unfold tellF
  rw [List.flatMap_append]
  simp
theorem okA_num {p : Int × ByteArray} (h : okA p = true) : numOk p.1 = true := by
  have := okA_iff.1 h
  rw [numOk_iff]; omega
theorem tellF_ok {l : List (Int × ByteArray)} (h : ∀ p ∈ l, okA p = true) : allOk (tellF l) := by
  intro f hf
  obtain ⟨p, hp, hf⟩ := List.mem_flatMap.1 hf
  have h1 := okA_iff.1 (h p hp)
  have h2 := numB_size p.1
  simp only [List.mem_cons, List.not_mem_nil, or_false] at hf
  rcases hf with rfl | rfl <;> rw [okF_iff]
  · exact ⟨show (1 : Int) ≤ 5 by decide, show (5 : Int) ≤ 255 by decide, show (numB p.1).size ≤ 400 by omega⟩
  · exact ⟨show (1 : Int) ≤ 6 by decide, show (6 : Int) ≤ 255 by decide, show p.2.size ≤ 400 by omega⟩
theorem zip_at {E : List Int} {D : List ByteArray} {k : Nat} (h1 : k < E.length) (h2 : k < D.length) : (E.zip D)[k]? = some (E[k], D[k]) := by
  simp [List.getElem?_zip_eq_some, h1, h2]
theorem take_snoc {α : Type} {l : List α} {k : Nat} {x : α} (h : l[k]? = some x) : l.take (k + 1) = l.take k ++ [x] := by
  have hk := (List.getElem?_eq_some_iff.1 h).1
  have hv := (List.getElem?_eq_some_iff.1 h).2
  rw [List.take_succ_eq_append_getElem hk, hv]
/-- what the round's region keeps -/
theorem tlS {wr w' : World} {b off : Nat} {x : Value} (hb : b < wr.heap.size) (h0 : wr.cell? ⟨b, off, none⟩ = some x) (h : Below wr.heap.size wr w') : w'.cell? ⟨b, off, none⟩ = some x ∧ Below wr.heap.size wr w' := ⟨(h.cell hb).trans h0, h⟩

set_option maxHeartbeats 1000000 in
theorem tell_short (E : List Int) (D : List ByteArray) (A B : Option Addr) (n m c cb : Nat) (w : World) (hE : E.length = n) (hD : D.length = m) (h : n = 0 ∨ 4 < n ∨ m ≠ n) :
    Calls Try.prog 18 #[.slice A n c, .slice B m cb] w fun e w' => e = .returned (.tuple #[.string (tellB E D), .int .i64 (tellE E D)]) ∧ Below w.heap.size w w' := by
  have hn : ¬ TellP E D := by unfold TellP; rw [hE, hD]; rintro ⟨h1, -⟩; omega
  rw [(tell_no hn).1, (tell_no hn).2]
  clear hE hD hn
  have hcase : (decide ((n : Int) < 1) = true) ∨ (decide ((n : Int) < 1) = false ∧ decide (4 < (n : Int)) = true) ∨ (decide ((n : Int) < 1) = false ∧ decide (4 < (n : Int)) = false ∧ ((m : Int) != (n : Int)) = true) := by
    by_cases h0 : n = 0
    · exact .inl (decide_eq_true (by omega))
    · by_cases h4 : 4 < n
      · exact .inr (.inl ⟨decide_eq_false (by omega), decide_eq_true (by omega)⟩)
      · exact .inr (.inr ⟨decide_eq_false (by omega), decide_eq_false (by omega), by rw [bne_iff_ne]; omega⟩)
  clear h
  rcases hcase with q1 | ⟨q1, q2⟩ | ⟨q1, q2, q3⟩
  all_goals
    go_enter Try.func18, Try.ntmps18
    go_wp2
    go_ret2
    exact ⟨rfl, Below.refl _ _⟩

set_option maxRecDepth 100000 in
set_option maxHeartbeats 4000000 in
theorem tell_long (E : List Int) (D : List ByteArray) (A B : Option Addr) (n c cb : Nat) (w : World) (hra : Rd w w.heap.size A (intCells E)) (hrb : Rd w w.heap.size B (D.map Value.string)) (hE : E.length = n) (hD : D.length = n) (h1 : 1 ≤ n) (h4 : n ≤ 4) (hs : ∀ s ∈ D, s.size ≤ 9223372036854775807) :
    Calls Try.prog 18 #[.slice A n c, .slice B n cb] w fun e w' => e = .returned (.tuple #[.string (tellB E D), .int .i64 (tellE E D)]) ∧ Below w.heap.size w w' := by
  obtain ⟨iF, hiF, hzF, hsF, hbF⟩ := info_parts fld_info
  obtain ⟨rb, hrb'⟩ : ∃ r, r = tellB E D := ⟨_, rfl⟩
  obtain ⟨re, hre'⟩ : ∃ r, r = tellE E D := ⟨_, rfl⟩
  rw [← hrb', ← hre']
  have HRB := Lib.hid hrb'
  have HRE := Lib.hid hre'
  obtain ⟨Z, hZ⟩ : ∃ Z, Z = E.zip D := ⟨_, rfl⟩
  have hZl : Z.length = n := by rw [hZ, List.length_zip, hE, hD]; exact Nat.min_self _
  have HZ := Lib.hid hZ
  have HZL := Lib.hid hZl
  have HA := Lib.hid hra
  have HB := Lib.hid hrb
  have HE := Lib.hid hE
  have HD := Lib.hid hD
  have HS := Lib.hid hs
  have q1 : decide ((n : Int) < 1) = false := decide_eq_false (by omega)
  have q2 : decide (4 < (n : Int)) = false := decide_eq_false (by omega)
  have q3 : ((n : Int) != (n : Int)) = false := by simp
  clear hra hrb hE hD hs hZ hZl hrb' hre'
  go_enter Try.func18, Try.ntmps18
  go_wp2
  go_loopw [6, 26] (fun v i wr => ∃ k : Nat, k ≤ n ∧ i = .int .i64 k ∧ (∀ p ∈ Z.take k, okA p = true) ∧ wr.ownsRow w.heap.size 57 2 v (2 * k) (fldCells (tellF (Z.take k))) ∧ Below w.heap.size w wr) (fun _ i _ => n - (intOf i).toNat)
  case atStart => exact ⟨0, Nat.zero_le _, rfl, by simp, World.ownsRow_nil _ _ _ _, Below.refl _ _⟩
  case round =>
    obtain ⟨k, hk, rfl, hall, hown, hb⟩ := hrel
    have HALL := Lib.hid hall
    have HO := Lib.hid hown
    have hbsz := hb.size
    clear hall hown
    by_cases hlt : k < n
    · have hkE : k < E.length := by rw [HE.out]; exact hlt
      have hkD : k < D.length := by rw [HD.out]; exact hlt
      have hkn : (k : Int) < (n : Int) := by omega
      obtain ⟨b, off, rfl, hbB, hc0⟩ := (HA.out.below hb).at_ (intCells_at hkE)
      obtain ⟨b', off', rfl, hbB', hd0⟩ := (HB.out.below hb).at_ (k := k) (u := .string D[k]) (by simp [hkD])
      have hz : Z[k]? = some (E[k], D[k]) := by rw [HZ.out]; exact zip_at hkE hkD
      have hds := HS.out _ (List.getElem_mem hkD)
      obtain ⟨x, hx⟩ : ∃ x, x = E[k] := ⟨_, rfl⟩
      obtain ⟨d, hd⟩ : ∃ d, d = D[k] := ⟨_, rfl⟩
      rw [← hx] at hc0 hz
      rw [← hd] at hd0 hz hds
      have hmem : (x, d) ∈ E.zip D := by rw [← HZ.out]; exact List.mem_of_getElem? hz
      have hts := take_snoc hz
      clear hx hd
      by_cases ho : okA (x, d) = true
      · obtain ⟨o1, o2, o3⟩ := okA_iff.1 ho
        have o1' : 0 ≤ x := o1
        have o2' : x ≤ 1000 := o2
        have o3' : d.size ≤ 16 := o3
        have d1 : decide (x < 0) = false := decide_eq_false (by omega)
        have d2 : decide (1000 < x) = false := decide_eq_false (by omega)
        have d3 : decide (16 < (d.size : Int)) = false := decide_eq_false (by omega)
        have hall2 : ∀ p ∈ Z.take (k + 1), okA p = true := by
          intro p hp
          rw [hts] at hp
          rcases List.mem_append.1 hp with h | h
          · exact HALL.out p h
          · rw [List.mem_singleton.1 h]; exact ho
        have HALL2 := Lib.hid hall2
        obtain ⟨sx, hsx⟩ : ∃ s, s = numB x := ⟨_, rfl⟩
        have hfl : fldCells (tellF (Z.take (k + 1))) = fldCells (tellF (Z.take k)) ++ [.int .i64 5, .string sx, .int .i64 6, .string d] := by
          rw [hts, tellF_snoc, fldCells_append, hsx]; rfl
        have HFL := Lib.hid hfl
        have HSX := Lib.hid hsx
        have HNX : Hid (numOk x = true) := Lib.hid (okA_num ho)
        have hdw := (hb.cell (p := ⟨b', off' + k, none⟩) hbB').symm.trans hd0
        have HDW := Lib.hid hdw
        clear o1 o2 o3 ho hall2 hfl hsx hts hz hmem hdw
        go_wp2
        go_region_held3 (fun w' => w'.cell? ⟨b', off' + k, none⟩ = some (.string d) ∧ Below w.heap.size w w')
          (first
            | exact tlS hbB' HDW.out hb.drew
            | exact tlS hbB' HDW.out hb6
            | exact tlS hbB' HDW.out (bel_alloc hb6 _)
            | exact tlS hbB' HDW.out hb3)
          (first
            | (go_at_call 27; go_split_ands; (refine (number_yes 5 x _ HNX.out).mono ?_); rw [← HSX.out]; rintro e w6 ⟨rfl, hk⟩; have hbx : Below wr.heap.size wr w6 := bel_call (Below.refl _ wr).drew hk; have hb6 := bel_call hb hbx; clear hk)
            | (go_split_ands; refine step_append_rd (by rfl) (.tmp 45) (.tmp 53) 59 (by rfl) w.heap.size 57 iF _ 2 24 Try.underlying59 hiF hzF hsF hbF rfl (by decide) _ (2 * k) _ (by rfl) (own_keep_below HO.out (bel_alloc hbx _) (Nat.le_refl _)) _ _ 2 2 [.int .i64 5, .string sx, .int .i64 6, .string d] (by rfl) (Rd.new _ _ _ (0, 0)) (by rfl) (by simp [Value.oneCell']) (by unfold maxLen; omega) (by omega) (bel_alloc hb6 _).size ?_; intro v3 w3 hown3 hg3; have hb3 : Below w.heap.size w w3 := (bel_alloc hb6 _).grown hg3 (bel_alloc hb6 _).size (fun j hj => (HO.out.lt j hj).1); have HO3 := Lib.hid hown3; clear hown3 hg3))
        all_goals go_wp2_with fail
        all_goals
          go_roundw
          case rel => exact ⟨k + 1, by omega, by go_num, HALL2.out, by rw [HFL.out, show 2 * (k + 1) = 2 * k + 2 by omega]; exact HO3.out, hb3⟩
          case measure => simp [intOf]; omega
      · have hno : ¬ TellP E D := fun h => ho (h.2 _ hmem)
        have hrb : rb = ⟨#[]⟩ := by rw [HRB.out]; exact (tell_no hno).1
        have hre : re = 200 := by rw [HRE.out]; exact (tell_no hno).2
        have hcase : decide (x < 0) = true ∨ (decide (x < 0) = false ∧ decide (1000 < x) = true) ∨ (decide (x < 0) = false ∧ decide (1000 < x) = false ∧ decide (16 < (d.size : Int)) = true) := by
          by_cases x0 : x < 0
          · exact .inl (decide_eq_true x0)
          · by_cases x1 : 1000 < x
            · exact .inr (.inl ⟨decide_eq_false x0, decide_eq_true x1⟩)
            · refine .inr (.inr ⟨decide_eq_false x0, decide_eq_false x1, decide_eq_true ?_⟩)
              have h := fun h3 => ho (okA_iff.2 ⟨show 0 ≤ x by omega, show x ≤ 1000 by omega, h3⟩)
              have h2 : ¬ d.size ≤ 16 := h
              omega
        subst hrb hre
        clear hno ho hts hz hmem
        rcases hcase with d1 | ⟨d1, d2⟩ | ⟨d1, d2, d3⟩
        all_goals
          go_wp2
          go_ret2
          exact ⟨rfl, hb⟩
    · obtain rfl : k = n := by omega
      have hlt2 : decide (k < k) = false := by simp
      have htk : Z.take k = Z := List.take_of_length_le (by rw [HZL.out]; exact Nat.le_refl _)
      have hall := HALL.out
      rw [htk] at hall
      have hP : TellP E D := ⟨by rw [HE.out, HD.out]; exact ⟨h1, h4, rfl⟩, by rw [← HZ.out]; exact hall⟩
      have hrb : rb = layB (tellF Z) := by rw [HRB.out, HZ.out]; exact (tell_yes hP).1
      have hre : re = 0 := by rw [HRE.out]; exact (tell_yes hP).2
      have HRBB := Lib.hid hrb
      have HOK := Lib.hid (tellF_ok hall)
      have HTL : Hid ((tellF Z).length = 2 * k) := Lib.hid (by rw [tellF_length, HZL.out])
      have ho := HO.out
      rw [htk] at ho
      obtain ⟨A2, c2, rfl, -, -⟩ := own_form ho
      have HR2 := Lib.hid (Rd.of_own ho)
      subst hre
      clear htk hall hP hrb ho hlt
      go_wp2_with (go_at_call 26; (refine (laid_yes (tellF Z) A2 (2 * k) c2 rb _ HR2.out HTL.out (by omega) HOK.out HRBB.out).mono ?_); rintro e w5 ⟨rfl, hk5⟩)
      go_ret2
      exact ⟨rfl, bel_call hb hk5⟩

theorem tell_calls (E : List Int) (D : List ByteArray) (A B : Option Addr) (n m c cb : Nat) (w : World) (hra : Rd w w.heap.size A (intCells E)) (hrb : Rd w w.heap.size B (D.map Value.string)) (hE : E.length = n) (hD : D.length = m) (hs : ∀ s ∈ D, s.size ≤ 9223372036854775807) :
    Calls Try.prog 18 #[.slice A n c, .slice B m cb] w fun e w' => e = .returned (.tuple #[.string (tellB E D), .int .i64 (tellE E D)]) ∧ Below w.heap.size w w' := by
  by_cases h : n = 0 ∨ 4 < n ∨ m ≠ n
  · exact tell_short E D A B n m c cb w hE hD h
  · obtain rfl : m = n := by omega
    exact tell_long E D A B m c cb w hra hrb hE hD (by omega) (by omega) hs
end Go.Proofs.Ytekjhhiamboffaa
