/-
  The row of RequestBack, proved from its walk. Conditions: none.
-/
import Derived.Test.YtekjhhiamboffaaRows
import Derived.Test.YtekjhhiamboffaaOpenInts
import Derived.Test.YtekjhhiamboffaaRequestBack
namespace Go.Proofs.Ytekjhhiamboffaa.rowRequestBack
open Go.ChangeShapes Go.WideShapes Go.ChangeAt Go.RowKit
open Go.ChangeMaps (open_string shut_string)
set_option linter.unusedVariables false

theorem own : ownKnob Try.prog.godebug = none := by kernel_rfl
theorem laidOut : laidOutB Try.prog = true := by kernel_rfl

set_option maxRecDepth 100000 in
theorem lifted (os : Os) (started : os.Started) (H : Type) (enc : TypeId × Value → H) :
    ReturnsInHanded {} Try.checked os 5 .any (Rows.requestBackSpec.pre6 enc Try.prog Try.f5 Rows.requestBackRow.domain false) (Rows.requestBackSpec.post enc Try.prog Try.f5 false true false false) := by
  refine returnsInHanded_of_change_sized (C := Try.checked) own started (by kernel_rfl) Try.func5
    (ChangeSpec.witness6 (enc := enc) (C := Try.checked) false ⟨#[], #[.slice none 0 0, .slice none 0 0, .slice none 0 0, .slice none 0 0], []⟩ 8 (by kernel_rfl) (by kernel_rfl) (by kernel_rfl) (by kernel_rfl)) ?_
  intro W base args ds gs before hval0 hW hcnd hsz0 _
  have hval : ∀ (j : Nat) t v, Try.f5.params[j]? = some t → args[j]? = some v → Value.okWide Try.prog W .any base t v := hval0
  have hsz : (DataW.weightsEach Try.prog (Try.f5.params.toList ++ Rows.requestBackSpec.plain.varTypes Try.prog) (ds ++ gs)).all (· ≤ reachBytes) = true := hsz0
  have hW' := hW
  obtain ⟨p, q, hA0, hV, rfl, hfz, hnd⟩ := hW
  have hA : DataW.TrodAll enc Try.prog W 0 (fun _ => true) true Try.f5.params.toList args.toList ds p := hA0
  rw [Try.params5] at hA hval hsz
  obtain ⟨v0, vs0, d0, ds0, p0, q0, hargs, rfl, rfl, h0, r0⟩ := trodAll_cons hA
  obtain ⟨v1, vs1, d1, ds1, p1, q1, rfl, rfl, rfl, h1, r1⟩ := trodAll_cons r0
  obtain ⟨v2, vs2, d2, ds2, p2, q2, rfl, rfl, rfl, h2, r2⟩ := trodAll_cons r1
  obtain ⟨v3, vs3, d3, ds3, p3, q3, rfl, rfl, rfl, h3, r3⟩ := trodAll_cons r2
  obtain ⟨rfl, rfl, rfl⟩ := trodAll_nil r3
  obtain rfl : args = #[v0, v1, v2, v3] := by cases args; simp_all
  obtain ⟨rfl, rfl⟩ := trodVars_none hV
  have k0 := h0
  have lt0 : ∀ x ∈ p0, x.block < W.heap.size := by obtain ⟨m, hm⟩ := k0; exact DataW.trod_lt m _ _ _ hm
  have k1 := h1
  have lt1 : ∀ x ∈ p1, x.block < W.heap.size := by obtain ⟨m, hm⟩ := k1; exact DataW.trod_lt m _ _ _ hm
  have k2 := h2
  have lt2 : ∀ x ∈ p2, x.block < W.heap.size := by obtain ⟨m, hm⟩ := k2; exact DataW.trod_lt m _ _ _ hm
  have k3 := h3
  have lt3 : ∀ x ∈ p3, x.block < W.heap.size := by obtain ⟨m, hm⟩ := k3; exact DataW.trod_lt m _ _ _ hm
  obtain ⟨A0, n0, c0, l0, rfl, x0, y0, z0, u0, s0⟩ := opened_ints Try.underlying47 Try.underlying3 (by kernel_rfl) (hval 0 47 v0 rfl rfl) h0 lt0 (by
    intro elems spare he
    have := sized_slice hsz (j := 0) (t := 47) (e := 3) rfl (by rw [he]; rfl) Try.underlying47
    rw [show Try.prog.bytesOf 3 = 8 from by kernel_rfl] at this
    exact this)
  obtain ⟨A1, n1, c1, l1, rfl, x1, y1, z1, u1, s1⟩ := opened_strings Try.underlying25 Try.underlying9 (by kernel_rfl) (hval 1 25 v1 rfl rfl) h1 lt1 (by
    intro elems spare he
    have := sized_slice hsz (j := 1) (t := 25) (e := 9) rfl (by rw [he]; rfl) Try.underlying25
    rw [show Try.prog.bytesOf 9 = 16 from by kernel_rfl] at this
    exact this)
  obtain ⟨A2, n2, c2, l2, rfl, x2, y2, z2, u2, s2⟩ := opened_ints Try.underlying47 Try.underlying3 (by kernel_rfl) (hval 2 47 v2 rfl rfl) h2 lt2 (by
    intro elems spare he
    have := sized_slice hsz (j := 2) (t := 47) (e := 3) rfl (by rw [he]; rfl) Try.underlying47
    rw [show Try.prog.bytesOf 3 = 8 from by kernel_rfl] at this
    exact this)
  obtain ⟨A3, n3, c3, l3, rfl, x3, y3, z3, u3, s3⟩ := opened_strings Try.underlying25 Try.underlying9 (by kernel_rfl) (hval 3 25 v3 rfl rfl) h3 lt3 (by
    intro elems spare he
    have := sized_slice hsz (j := 3) (t := 25) (e := 9) rfl (by rw [he]; rfl) Try.underlying25
    rw [show Try.prog.bytesOf 9 = 16 from by kernel_rfl] at this
    exact this)
  clear hA0 hval0
  refine (requestBack_walk l0 A0 n0 c0 l1 A1 n1 c1 l2 A2 n2 c2 l3 A3 n3 c3 W x0 y0 z0 u0 s0 x1 y1 z1 u1 s1 x2 y2 z2 u2 s2 x3 y3 z3 u3 s3).mono fun e W' ⟨he, bel⟩ => ?_
  subst he
  exact ⟨_, rfl, _, _, _, [], _, [], hW', trodAll_mk1 (shut_bool Try.underlying4 _), (trodAll_cons_mk (Below.trod laidOut (by kernel_rfl) (of_decide_eq_true (by kernel_rfl)) k0 bel lt0) (trodAll_cons_mk (Below.trod laidOut (by kernel_rfl) (of_decide_eq_true (by kernel_rfl)) k1 bel lt1) (trodAll_cons_mk (Below.trod laidOut (by kernel_rfl) (of_decide_eq_true (by kernel_rfl)) k2 bel lt2) (trodAll_cons_mk (Below.trod laidOut (by kernel_rfl) (of_decide_eq_true (by kernel_rfl)) k3 bel lt3) trodAll_mk0)))), rfl, bel.frame _, fun h => by cases h⟩

theorem over : Rows.requestBackRow.holds Try.pinned (OpenSpec.ofChange Rows.requestBackSpec) :=
  OpenClaim.holds_of_wide 5 Try.f5 rfl rfl rfl rfl rfl rfl rfl ⟨rfl, rfl, rfl, rfl, rfl⟩ rfl rfl rfl rfl rfl (by kernel_rfl) Try.func5 (by kernel_rfl)
    (of_decide_eq_true (by kernel_rfl)) (by unfold Func.isWrapper; first | (rw [if_pos (by decide +kernel)]; kernel_rfl) | (rw [if_neg (by decide +kernel)]; exact ⟨rfl, rfl⟩))
    (fun os started H enc _ => lifted os started H enc)

theorem proved : Rows.RequestBackSaid := over
#print axioms proved
end Go.Proofs.Ytekjhhiamboffaa.rowRequestBack
