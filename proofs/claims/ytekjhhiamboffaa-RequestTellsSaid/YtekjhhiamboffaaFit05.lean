/-
  The contracts of Fit (a raw geometry, right) and of layer 5's awake (chapter 5's example). Condition: the numbers are Go's.
-/
import Derived.Test.YtekjhhiamboffaaPick05
import Derived.Test.YtekjhhiamboffaaPlatWalks
namespace Go.Proofs.Ytekjhhiamboffaa
open Go.RowKit

set_option maxHeartbeats 1000000 in
theorem fit_calls (a b : Int) (w : World) (a1 : -9223372036854775808 ≤ a) (a2 : a ≤ 9223372036854775807) (b1 : -9223372036854775808 ≤ b) (b2 : b ≤ 9223372036854775807) :
    Calls Try.prog 20 #[.agg #[.int .i64 a, .int .i64 b]] w fun e w' => ∃ N S : Int, 3 ≤ N ∧ N ≤ 6 ∧ 1 ≤ S ∧ S ≤ 8 ∧ e = .returned (.agg #[.int .i64 N, .int .i64 S]) ∧ Below w.heap.size w w' := by
  obtain ⟨k, hk⟩ : ∃ k, k = pick05Z a 4 := ⟨_, rfl⟩
  obtain ⟨l, hl⟩ : ∃ l, l = pick05Z b 8 := ⟨_, rfl⟩
  have hkr := pick05Z_range a 4 (by omega)
  have hlr := pick05Z_range b 8 (by omega)
  have HK := Lib.hid hk
  have HL := Lib.hid hl
  rw [← hk] at hkr
  rw [← hl] at hlr
  obtain ⟨hk1, hk2⟩ := hkr
  obtain ⟨hl1, hl2⟩ := hlr
  clear hk hl
  have hwk : IntKind.i64.wrap (3 + k) = 3 + k := IntWalk.i64_in _ (by omega)
  have hwl : IntKind.i64.wrap (1 + l) = 1 + l := IntWalk.i64_in _ (by omega)
  go_enter Try.func20, Try.ntmps20
  go_wp2_with fail
  have hc0 : ((w.alloc (geoBox a b)).alloc (geoBox 0 0)).cell? ⟨w.heap.size, 0, none⟩ = some (.int .i64 a) := geo0 (bel_alloc (Below.refl _ _) _)
  have hc1 : ((w.alloc (geoBox a b)).alloc (geoBox 0 0)).cell? ⟨w.heap.size, 1, none⟩ = some (.int .i64 b) := geo1 (bel_alloc (Below.refl _ _) _)
  go_region_held3 (fun w' => w'.cell? ⟨w.heap.size, 0, none⟩ = some (.int .i64 a) ∧ w'.cell? ⟨w.heap.size, 1, none⟩ = some (.int .i64 b))
    (first
      | exact ⟨hc0, hc1⟩
      | go_keep)
    (first
      | (go_at_call_of 40 (Value.int .i64 a); refine (pick05_calls a 4 _ a1 a2 (by omega) (by omega)).mono ?_; rintro e w1 ⟨rfl, rfl⟩; rw [← HK.out])
      | (go_at_call_of 40 (Value.int .i64 b); refine (pick05_calls b 8 _ b1 b2 (by omega) (by omega)).mono ?_; rintro e w1 ⟨rfl, rfl⟩; rw [← HL.out]))
  go_wp2
  refine bodyPost_ret (v := .agg #[.int .i64 (3 + k), .int .i64 (1 + l)]) (by simp [results, Try.results20, go_sem]) rfl ⟨3 + k, 1 + l, by omega, by omega, by omega, by omega, rfl, ?_⟩
  go_grown

theorem awS {w w1 w' : World} (hbg : Below (w.alloc (geoBox 4 3)).heap.size (w.alloc (geoBox 4 3)) w1) (hb : Below (w1.alloc (placeBox 1 2 3)).heap.size (w1.alloc (placeBox 1 2 3)) w') :
    w'.cell? ⟨w.heap.size, 0, none⟩ = some (.int .i64 4) ∧ w'.cell? ⟨w.heap.size, 1, none⟩ = some (.int .i64 3) ∧ w'.cell? ⟨w1.heap.size, 0, none⟩ = some (.int .i64 1) ∧ w'.cell? ⟨w1.heap.size, 1, none⟩ = some (.int .i64 2) ∧ w'.cell? ⟨w1.heap.size, 2, none⟩ = some (.int .i64 3) ∧
      Below (w1.alloc (placeBox 1 2 3)).heap.size (w1.alloc (placeBox 1 2 3)) w' :=
  ⟨geo0 (bel_call (bel_alloc hbg _) hb), geo1 (bel_call (bel_alloc hbg _) hb), pl0 hb, pl1 hb, pl2 hb, hb⟩

end Go.Proofs.Ytekjhhiamboffaa
