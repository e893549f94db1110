/-
  The contract of package request's Take: the ops of which a request consists, or ErrBad. Condition: texts' lengths are Go's.
-/
import Derived.Test.YtekjhhiamboffaaReqHeard
namespace Go.Proofs.Ytekjhhiamboffaa
open Go.RowKit

theorem blocksZ_bd (N S : Int) : 0 ≤ blocksZ N S ∧ blocksZ N S ≤ 40 := by
  unfold blocksZ
  by_cases h : rightZ N S = true
  · rw [if_pos h]
    obtain ⟨h1, h2, h3, h4⟩ := right_iff.1 h
    have := prod_bounds h1 h2 h3 h4
    omega
  · rw [if_neg h]; omega
set_option maxHeartbeats 1000000 in
theorem split_no (N S a c : Int) (w : World) (c1 : 1 ≤ c) (c2 : c ≤ 4) (h : blocksZ N S < a + c) :
    Calls Try.prog 33 #[.agg #[.int .i64 N, .int .i64 S], .int .i64 a, .int .i64 c] w fun e w' => e = .returned (.tuple #[.slice none 0 0, .int .i64 50]) ∧ Below w.heap.size w w' := by
  obtain ⟨b1, b2⟩ := blocksZ_bd N S
  obtain ⟨T, hT⟩ : ∃ T, T = blocksZ N S := ⟨_, rfl⟩
  rw [← hT] at b1 b2 h
  have HT := Lib.hid hT
  have d1 : decide (c < 1) = false := decide_eq_false (by omega)
  have d2 : decide (4 < c) = false := decide_eq_false (by omega)
  have d3 : decide (T - c < a) = true := decide_eq_true (by omega)
  clear hT h
  go_enter Try.func33, Try.ntmps33
  go_wp2_with (go_at_call 44; (refine (blocks_calls N S _).mono ?_); rw [← HT.out]; rintro e w1 ⟨rfl, hk⟩; have hG : Below (w.alloc (geoBox N S)).heap.size (w.alloc (geoBox N S)) w1 := hk; clear hk)
  go_ret2
  exact ⟨rfl, geo_below hG⟩
theorem split20_yes (N S a c : Int) (w : World) (a1 : 0 ≤ a) (c1 : 1 ≤ c) (c2 : c ≤ 4) (h : a + c ≤ blocksZ N S) :
    Calls Try.prog 33 #[.agg #[.int .i64 N, .int .i64 S], .int .i64 a, .int .i64 c] w fun e w' => ∃ v, e = .returned (.tuple #[v, .int .i64 0]) ∧ Below w.heap.size w w' := by
  unfold blocksZ at h
  by_cases hr : rightZ N S = true
  · rw [if_pos hr] at h
    obtain ⟨h1, h2, h3, h4⟩ := right_iff.1 hr
    obtain ⟨n, rfl⟩ := Int.eq_ofNat_of_zero_le (show 0 ≤ N by omega)
    obtain ⟨s, rfl⟩ := Int.eq_ofNat_of_zero_le (show 0 ≤ S by omega)
    obtain ⟨x, rfl⟩ := Int.eq_ofNat_of_zero_le a1
    obtain ⟨k, rfl⟩ := Int.eq_ofNat_of_zero_le (show 0 ≤ c by omega)
    have e : (s : Int) * ((n : Int) - 1) = ((s * (n - 1) : Nat) : Int) := by
      rw [show (n : Int) - 1 = ((n - 1 : Nat) : Int) by omega]
      exact (Int.natCast_mul s (n - 1)).symm
    rw [e] at h
    refine (split_yes n s x k w (by omega) (by omega) (by omega) (by omega) (by omega) (by omega) (by omega)).mono ?_
    rintro e w' ⟨A, cc, rfl, -, hb⟩
    exact ⟨_, rfl, hb⟩
  · rw [if_neg hr] at h; omega

theorem numB_inj {n m : Int} (h1 : numOk n = true) (h2 : numOk m = true) (h : numB n = numB m) : n = m := by
  have e1 := (get_numB h1).1
  rw [h, (get_numB h2).1] at e1
  exact e1.symm
theorem reqF_inj {k a c k' a' c' : Int} {d d' : ByteArray} (h : ReqP k a c d) (h' : ReqP k' a' c' d') (he : layB (reqF k a c d) = layB (reqF k' a' c' d')) : k = k' ∧ a = a' ∧ c = c' ∧ d = d' := by
  have e := layB_inj (reqF_ok h) (reqF_ok h') (by simp [reqF]) (by simp [reqF]) he
  simp only [reqF, List.cons.injEq, Prod.mk.injEq, true_and, and_true] at e
  obtain ⟨e1, e2, e3, e4⟩ := e
  obtain ⟨n1, n2, n3, -⟩ := req_small h
  obtain ⟨m1, m2, m3, -⟩ := req_small h'
  exact ⟨numB_inj n1 m1 e1, numB_inj n2 m2 e2, numB_inj n3 m3 e3, e4⟩
theorem heard_yes (k a c : Int) (d s : ByteArray) (w : World) (h : ReqP k a c d) (hs : s = layB (reqF k a c d)) :
    Calls Try.prog 31 #[.string s] w fun e w' => e = .returned (.tuple #[.int .i64 k, .int .i64 a, .int .i64 c, .string d, .bool true]) ∧ Below w.heap.size w w' := by
  refine (heard_calls s w).mono ?_
  rintro e w' ⟨k', a', c', d', ok, rfl, h1, h2, hb⟩
  cases ok with
  | false => exact absurd ⟨k, a, c, d, h, hs⟩ (h2 rfl)
  | true =>
    obtain ⟨h3, h4⟩ := h1 rfl
    obtain ⟨rfl, rfl, rfl, rfl⟩ := reqF_inj h h3 (by rw [← hs, h4])
    exact ⟨rfl, hb⟩
theorem heard_no (s : ByteArray) (w : World) (h : ¬ IsReq s) :
    Calls Try.prog 31 #[.string s] w fun e w' => ∃ (k a c : Int) (d : ByteArray), e = .returned (.tuple #[.int .i64 k, .int .i64 a, .int .i64 c, .string d, .bool false]) ∧ Below w.heap.size w w' := by
  refine (heard_calls s w).mono ?_
  rintro e w' ⟨k', a', c', d', ok, rfl, h1, h2, hb⟩
  cases ok with
  | false => exact ⟨k', a', c', d', rfl, hb⟩
  | true => exact absurd ⟨k', a', c', d', h1 rfl⟩ h

/-- an op: its kind, its number, its data -/
abbrev Opr := Int × Int × ByteArray
def opCells : List Opr → List Value
  | [] => []
  | p :: l => .int .i64 p.1 :: .int .i64 p.2.1 :: .string p.2.2 :: opCells l
theorem opCells_length (l : List Opr) : (opCells l).length = l.length * 3 := by
  induction l with
  | nil => rfl
  | cons p l ih => simp only [opCells, List.length_cons, ih]; omega
theorem opCells_append (a b : List Opr) : opCells (a ++ b) = opCells a ++ opCells b := by
  induction a with
  | nil => rfl
  | cons p l ih => simp only [opCells, List.cons_append, ih]
/-- the ops of a request -/
def opOf (k a : Int) (d : ByteArray) (i : Nat) : Opr := (k, a + i, if k = 2 then d.extract (i * 16) ((i + 1) * 16) else ⟨#[]⟩)
def opsL (k a : Int) (d : ByteArray) (n : Nat) : List Opr := (List.range n).map (opOf k a d)
theorem opsL_snoc (k a : Int) (d : ByteArray) (n : Nat) : opsL k a d (n + 1) = opsL k a d n ++ [opOf k a d n] := by simp [opsL, List.range_succ]
theorem opsL_length (k a : Int) (d : ByteArray) (n : Nat) : (opsL k a d n).length = n := by simp [opsL]
/-- does a geometry have what a request asks? -/
def TakeP (N S k a c : Int) : Prop := (k = 3 ∧ rightZ N S = true ∧ a < S) ∨ (k ≠ 3 ∧ a + c ≤ blocksZ N S)

set_option maxHeartbeats 1000000 in
theorem take_nothing (N S : Int) (s : ByteArray) (w : World) (h : ¬ IsReq s) :
    Calls Try.prog 11 #[.agg #[.int .i64 N, .int .i64 S], .string s] w fun e w' => e = .returned (.tuple #[.slice none 0 0, .int .i64 200]) ∧ Below w.heap.size w w' := by
  have H := Lib.hid h
  clear h
  go_enter Try.func11, Try.ntmps11
  go_wp2_with (go_at_call 31; (refine (heard_no s _ H.out).mono ?_); rintro e w1 ⟨k, a, c, d, rfl, hk⟩; have hG : Below (w.alloc (geoBox N S)).heap.size (w.alloc (geoBox N S)) w1 := hk; clear hk)
  go_ret2
  exact ⟨rfl, geo_below hG⟩

set_option maxHeartbeats 2000000 in
theorem take_refused (N S k a c : Int) (d s : ByteArray) (w : World) (h : ReqP k a c d) (hs : s = layB (reqF k a c d)) (hn : ¬ TakeP N S k a c) :
    Calls Try.prog 11 #[.agg #[.int .i64 N, .int .i64 S], .string s] w fun e w' => e = .returned (.tuple #[.slice none 0 0, .int .i64 200]) ∧ Below w.heap.size w w' := by
  obtain ⟨-, -, -, -, k1, k2, c1, c2⟩ := req_small h
  have ha := h.1
  have H := Lib.hid h
  have HS := Lib.hid hs
  clear h hs
  by_cases h3 : k = 3
  · subst h3
    cases hr : rightZ N S with
    | false =>
      have HRZ := Lib.hid hr
      clear hn hr
      go_enter Try.func11, Try.ntmps11
      go_wp2_with (first
        | (go_at_call 31; (refine (heard_yes 3 a c d s _ H.out HS.out).mono ?_); rintro e w1 ⟨rfl, hk⟩; have hG : Below (w.alloc (geoBox N S)).heap.size (w.alloc (geoBox N S)) w1 := hk; have g0 := geo0 hG; have g1 := geo1 hG; clear hk)
        | (go_at_call 32; (refine (right_calls N S _).mono ?_); rw [HRZ.out]; rintro e w2 ⟨rfl, hk⟩; replace hG := bel_call hG hk; clear hk))
      go_ret2
      exact ⟨rfl, geo_below hG⟩
    | true =>
      have haS : ¬ a < S := fun h' => hn (.inl ⟨rfl, hr, h'⟩)
      have HRZ := Lib.hid hr
      have q1 : decide (S ≤ a) = true := decide_eq_true (by omega)
      clear hn hr haS
      go_enter Try.func11, Try.ntmps11
      go_wp2_with (first
        | (go_at_call 31; (refine (heard_yes 3 a c d s _ H.out HS.out).mono ?_); rintro e w1 ⟨rfl, hk⟩; have hG : Below (w.alloc (geoBox N S)).heap.size (w.alloc (geoBox N S)) w1 := hk; have g0 := geo0 hG; have g1 := geo1 hG; clear hk)
        | (go_at_call 32; (refine (right_calls N S _).mono ?_); rw [HRZ.out]; rintro e w2 ⟨rfl, hk⟩; replace hG := bel_call hG hk; have g2 := geo1 hG; clear hk))
      go_ret2
      exact ⟨rfl, geo_below hG⟩
  · have hb : blocksZ N S < a + c := by
      rcases Int.lt_or_le (blocksZ N S) (a + c) with h' | h'
      · exact h'
      · exact absurd (.inr ⟨h3, h'⟩) hn
    have HB := Lib.hid hb
    have q1 : (k == 3) = false := by rw [beq_eq_false_iff_ne]; exact h3
    clear hn h3 hb
    go_enter Try.func11, Try.ntmps11
    go_wp2_with (first
      | (go_at_call 31; (refine (heard_yes k a c d s _ H.out HS.out).mono ?_); rintro e w1 ⟨rfl, hk⟩; have hG : Below (w.alloc (geoBox N S)).heap.size (w.alloc (geoBox N S)) w1 := hk; have g0 := geo0 hG; have g1 := geo1 hG; clear hk)
      | (go_at_call 33; (refine (split_no N S a c _ c1 c2 HB.out).mono ?_); rintro e w2 ⟨rfl, hk⟩; replace hG := bel_call hG hk; clear hk))
    go_ret2
    exact ⟨rfl, geo_below hG⟩

theorem op_info : (Try.prog.info? 45).map (fun i => (i.zero, i.size, i.bytes)) = some (some (.agg #[.int .i64 0, .int .i64 0, .string ⟨#[]⟩]), 3, 32) := by kernel_rfl

set_option maxRecDepth 100000 in
set_option maxHeartbeats 2000000 in
theorem take_ops (N S k a c : Int) (n : Nat) (d s : ByteArray) (w : World) (hc : c = n) (h : ReqP k a c d) (hs : s = layB (reqF k a c d)) (hn : TakeP N S k a c) :
    Calls Try.prog 11 #[.agg #[.int .i64 N, .int .i64 S], .string s] w fun e w' => ∃ (A : Option Addr) (cc : Nat), e = .returned (.tuple #[.slice A n cc, .int .i64 0]) ∧ Rd w' w'.heap.size A (opCells (opsL k a d n)) ∧ Below w.heap.size w w' := by
  obtain ⟨-, -, -, hd64, k1, k2, c1, c2⟩ := req_small h
  obtain ⟨ha1, ha2⟩ := h.1
  have H := Lib.hid h
  have HS := Lib.hid hs
  rcases hn with ⟨h3, hr, haS⟩ | ⟨h3, hb⟩
  · subst h3
    have hc1 : c = 1 := by have := h.2; omega
    subst hc1
    obtain rfl : n = 1 := by omega
    have hd0 : d = ⟨#[]⟩ := emptyB (by have := h.2; omega)
    subst hd0
    have HRZ := Lib.hid hr
    have q1 : decide (S ≤ a) = false := decide_eq_false (by omega)
    clear h hs hr haS hc
    go_enter Try.func11, Try.ntmps11
    go_wp2_with (first
      | (go_at_call 31; (refine (heard_yes 3 a 1 ⟨#[]⟩ s _ H.out HS.out).mono ?_); rintro e w1 ⟨rfl, hk⟩; have hG : Below (w.alloc (geoBox N S)).heap.size (w.alloc (geoBox N S)) w1 := hk; have g0 := geo0 hG; have g1 := geo1 hG; clear hk)
      | (go_at_call 32; (refine (right_calls N S _).mono ?_); rw [HRZ.out]; rintro e w2 ⟨rfl, hk⟩; replace hG := bel_call hG hk; have g2 := geo1 hG; clear hk))
    go_ret2
    refine ⟨_, 1, rfl, ?_, bel_alloc (geo_below hG) _⟩
    have hx : opCells (opsL 3 a ⟨#[]⟩ 1) = [.int .i64 3, .int .i64 a, .string ⟨#[]⟩] := by simp [opsL, opOf, opCells, List.range_succ]
    rw [hx]
    exact rdn_new w2 #[.int .i64 3, .int .i64 a, .string ⟨#[]⟩] 45 _ rfl
  · have q1 : (k == 3) = false := by rw [beq_eq_false_iff_ne]; exact h3
    have HB := Lib.hid hb
    have hk12 : k = 1 ∨ k = 2 := by omega
    have hdk : k = 2 → d.size = 16 * n := fun hk => by have := h.2; omega
    subst hc
    obtain ⟨iO, hiO, hzO, hsO, hbO⟩ := info_parts op_info
    clear h hs h3 hb
    rcases hk12 with rfl | rfl
    · go_enter Try.func11, Try.ntmps11
      go_wp2_with (first
        | (go_at_call 31; (refine (heard_yes 1 a n d s _ H.out HS.out).mono ?_); rintro e w1 ⟨rfl, hk⟩; have hG : Below (w.alloc (geoBox N S)).heap.size (w.alloc (geoBox N S)) w1 := hk; have g0 := geo0 hG; have g1 := geo1 hG; clear hk)
        | (go_at_call 33; (refine (split20_yes N S a n _ ha1 c1 c2 HB.out).mono ?_); rintro e w2 ⟨v, rfl, hk⟩; replace hG := bel_call hG hk; clear hk))
      go_loopw [13, 51] (fun v i wr => ∃ j : Nat, j ≤ n ∧ i = .int .i64 j ∧ wr.ownsRow (w.alloc (geoBox N S)).heap.size 45 3 v j (opCells (opsL 1 a d j)) ∧ Below (w.alloc (geoBox N S)).heap.size (w.alloc (geoBox N S)) wr) (fun _ i _ => n - (intOf i).toNat)
      case atStart => exact ⟨0, Nat.zero_le _, rfl, World.ownsRow_nil _ _ _ _, hG⟩
      case round =>
        clear hG
        obtain ⟨j, hj, rfl, hown, hG⟩ := hrel
        have HO := Lib.hid hown
        clear hown
        by_cases hjt : j < n
        · have hoo : opCells (opsL 1 a d (j + 1)) = opCells (opsL 1 a d j) ++ [.int .i64 1, .int .i64 (a + j), .string ⟨#[]⟩] := by rw [opsL_snoc, opCells_append]; simp [opOf, opCells]
          have HOO := Lib.hid hoo
          have hbsz := hG.size
          clear hoo
          go_wp2_with (at_builtin; (refine wpList_append_rd rfl (.tmp 69) (.tmp 71) 30 rfl (w.alloc (geoBox N S)).heap.size 45 iO _ 3 32 Try.underlying30 hiO hzO hsO hbO rfl (by decide) _ j _ rfl ((HO.out.alloc _).alloc _) _ (some ⟨wr.heap.size + 1, 0, none⟩) 1 1 [.int .i64 1, .int .i64 (a + j), .string ⟨#[]⟩] rfl (rdn_new _ #[.int .i64 1, .int .i64 (a + j), .string ⟨#[]⟩] 45 _ (by simp)) rfl (by simp [Value.oneCell']) (by unfold maxLen; omega) (by omega) (by simp at *; omega) ?_); intro v3 w3 hown3 hg3; have HO3 := Lib.hid hown3; have HG3 := Lib.hid hg3; clear hown3 hg3)
          go_roundw
          case rel => exact ⟨j + 1, by omega, by go_num, by rw [HOO.out]; exact HO3.out, (bel_alloc (bel_alloc hG _) _).grown HG3.out (by simp at *; omega) (fun i hi => (HO.out.lt i hi).1)⟩
          case measure => simp [intOf]; omega
        · obtain rfl : j = n := by omega
          have hlt2 : decide (j < j) = false := by simp
          obtain ⟨A, cc, rfl, -, -⟩ := own_form HO.out
          go_wp2
          go_ret2
          exact ⟨A, cc, rfl, Rd.of_own HO.out, geo_below hG⟩
    · have hsz : d.size = 16 * n := hdk rfl
      clear hdk
      go_enter Try.func11, Try.ntmps11
      go_wp2_with (first
        | (go_at_call 31; (refine (heard_yes 2 a n d s _ H.out HS.out).mono ?_); rintro e w1 ⟨rfl, hk⟩; have hG : Below (w.alloc (geoBox N S)).heap.size (w.alloc (geoBox N S)) w1 := hk; have g0 := geo0 hG; have g1 := geo1 hG; clear hk)
        | (go_at_call 33; (refine (split20_yes N S a n _ ha1 c1 c2 HB.out).mono ?_); rintro e w2 ⟨v, rfl, hk⟩; replace hG := bel_call hG hk; clear hk))
      go_loopw [13, 51] (fun v i wr => ∃ j : Nat, j ≤ n ∧ i = .int .i64 j ∧ wr.ownsRow (w.alloc (geoBox N S)).heap.size 45 3 v j (opCells (opsL 2 a d j)) ∧ Below (w.alloc (geoBox N S)).heap.size (w.alloc (geoBox N S)) wr) (fun _ i _ => n - (intOf i).toNat)
      case atStart => exact ⟨0, Nat.zero_le _, rfl, World.ownsRow_nil _ _ _ _, hG⟩
      case round =>
        clear hG
        obtain ⟨j, hj, rfl, hown, hG⟩ := hrel
        have HO := Lib.hid hown
        clear hown
        by_cases hjt : j < n
        · have hoo : opCells (opsL 2 a d (j + 1)) = opCells (opsL 2 a d j) ++ [.int .i64 2, .int .i64 (a + j), .string (d.extract (j * 16) ((j + 1) * 16))] := by rw [opsL_snoc, opCells_append]; simp [opOf, opCells]
          have HOO := Lib.hid hoo
          have hj1 : (j + 1) * 16 ≤ d.size := by omega
          have hj0 : j * 16 ≤ (j + 1) * 16 := by omega
          have hbsz := hG.size
          clear hoo
          go_wp2_with (at_builtin; (refine wpList_append_rd rfl (.tmp 69) (.tmp 71) 30 rfl (w.alloc (geoBox N S)).heap.size 45 iO _ 3 32 Try.underlying30 hiO hzO hsO hbO rfl (by decide) _ j _ rfl ((HO.out.alloc _).alloc _) _ (some ⟨wr.heap.size + 1, 0, none⟩) 1 1 [.int .i64 2, .int .i64 (a + j), .string (d.extract (j * 16) ((j + 1) * 16))] rfl (rdn_new _ #[.int .i64 2, .int .i64 (a + j), .string (d.extract (j * 16) ((j + 1) * 16))] 45 _ (by simp)) rfl (by simp [Value.oneCell']) (by unfold maxLen; omega) (by omega) (by simp at *; omega) ?_); intro v3 w3 hown3 hg3; have HO3 := Lib.hid hown3; have HG3 := Lib.hid hg3; clear hown3 hg3)
          go_roundw
          case rel => exact ⟨j + 1, by omega, by go_num, by rw [HOO.out]; exact HO3.out, (bel_alloc (bel_alloc hG _) _).grown HG3.out (by simp at *; omega) (fun i hi => (HO.out.lt i hi).1)⟩
          case measure => simp [intOf]; omega
        · obtain rfl : j = n := by omega
          have hlt2 : decide (j < j) = false := by simp
          obtain ⟨A, cc, rfl, -, -⟩ := own_form HO.out
          go_wp2
          go_ret2
          exact ⟨A, cc, rfl, Rd.of_own HO.out, geo_below hG⟩
end Go.Proofs.Ytekjhhiamboffaa
