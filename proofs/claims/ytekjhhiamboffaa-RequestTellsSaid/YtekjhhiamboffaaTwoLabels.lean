/-
  A scope with several labels, of which the run may jump to each: what holds at every jump, and a measure that every pass lowers. No condition.
-/
import Derived.ScopeJumps
import Derived.WalkMore
namespace Go.Proofs.Ytekjhhiamboffaa

/-- As Q; by a goto to a label: what holds there. -/
def jumps (J : Nat → Act → World → Prop) (Q : Exit → Act → World → Prop) : Exit → Act → World → Prop
  | .goto l, a, w => J l a w
  | e, a, w => Q e a w
section
variable {P : Program} {a : Act} {w : World} {Q : Exit → Act → World → Prop}

theorem wp_scope_many {c : Code} (J : Nat → Act → World → Prop) (μ : Nat → Act → World → Nat) (first : c.wp P (jumps J Q) a w)
    (pass : ∀ l a w, J l a w → ∃ rest, findLabel c l = some rest ∧ rest.wp P (jumps (fun l' a' w' => J l' a' w' ∧ μ l' a' w' < μ l a w) Q) a w) : (Code.scope c).wp P Q a w := by
  intro b k cs
  have key : ∀ n l a w, μ l a w = n → J l a w → ∃ rest, findLabel c l = some rest ∧ ∃ e a' w', Q e a' w' ∧ Arrives P (lone (b.at a (.code rest :: .inScope c :: k)) cs w) b k cs e a' w' := by
    intro n
    induction n using Nat.strongRecOn with
    | _ n ih =>
      intro l a w hn hJ
      obtain ⟨rest, hf, hp⟩ := pass l a w hJ
      refine ⟨rest, hf, ?_⟩
      obtain ⟨e, a₁, w₁, hq, harr⟩ := hp b (.inScope c :: k) cs
      cases e with
      | normal => exact ⟨.normal, a₁, w₁, hq, Steps.trans harr (.one step_inScope)⟩
      | exit id => exact ⟨.exit id, a₁, w₁, hq, fun k' hk => harr k' (by simp [exitTo, hk])⟩
      | goto l' =>
        obtain ⟨hJ', hlt⟩ := hq
        obtain ⟨rest₂, hf₂, e₂, a₂, w₂, hq₂, harr₂⟩ := ih _ (by omega) l' a₁ w₁ rfl hJ'
        have hg : gotoIn l' (.inScope c :: k) = some (.code rest₂ :: .inScope c :: k) := by simp [gotoIn, hf₂]
        exact ⟨e₂, a₂, w₂, hq₂, .of_steps (harr _ hg) harr₂⟩
      | ret => exact ⟨_, a₁, w₁, hq, harr⟩
      | panic ch => exact ⟨_, a₁, w₁, hq, harr⟩
      | outgrown => exact ⟨_, a₁, w₁, hq, harr⟩
  obtain ⟨e, a₁, w₁, hq, harr⟩ := first b (.inScope c :: k) cs
  cases e with
  | normal => exact ⟨.normal, a₁, w₁, hq, .head step_scope (Steps.trans harr (.one step_inScope))⟩
  | exit id => exact ⟨.exit id, a₁, w₁, hq, fun k' hk => .head step_scope (harr k' (by simp [exitTo, hk]))⟩
  | goto l' =>
    obtain ⟨rest₂, hf₂, e₂, a₂, w₂, hq₂, harr₂⟩ := key _ l' a₁ w₁ rfl hq
    have hg : gotoIn l' (.inScope c :: k) = some (.code rest₂ :: .inScope c :: k) := by simp [gotoIn, hf₂]
    exact ⟨e₂, a₂, w₂, hq₂, .of_steps (.head step_scope (harr _ hg)) harr₂⟩
  | ret => exact ⟨_, a₁, w₁, hq, .of_steps (.one step_scope) harr⟩
  | panic ch => exact ⟨_, a₁, w₁, hq, .of_steps (.one step_scope) harr⟩
  | outgrown => exact ⟨_, a₁, w₁, hq, .of_steps (.one step_scope) harr⟩

/-- Two regions, a label behind them to which the run jumps back, and one further on to which it jumps forth. -/
theorem wp_scope_two {r1 r2 rest rest1 : Code} (J0 J1 : Act → World → Prop) (μ : Act → World → Nat)
    (hf0 : findLabel (r1.seq (r2.seq ((Code.label 0).seq rest))) 0 = some (Code.skip.seq rest))
    (hf1 : findLabel (r1.seq (r2.seq ((Code.label 0).seq rest))) 1 = some (Code.skip.seq rest1))
    (first : r1.wp P (Exit.then (r2.wp P (Exit.then J0 fun _ _ _ => False)) fun _ _ _ => False) a w)
    (pass : ∀ a w, J0 a w → rest.wp P (jumps (fun l' a' w' => (l' = 0 ∧ J0 a' w' ∧ μ a' w' < μ a w) ∨ (l' = 1 ∧ J1 a' w')) Q) a w)
    (last : ∀ a w, J1 a w → rest1.wp P (Exit.noGoto Q) a w) : (Code.scope (r1.seq (r2.seq ((Code.label 0).seq rest)))).wp P Q a w := by
  have hskip : ∀ (r : Code) (R : Exit → Act → World → Prop) a w, r.wp P R a w → (Code.skip.seq r).wp P R a w := fun r R a w h => wp_seq (wp_skip h)
  refine wp_scope_many (fun l a w => (l = 0 ∧ J0 a w) ∨ (l = 1 ∧ J1 a w)) (fun l a w => if l = 0 then μ a w + 1 else 0) ?_ ?_
  · have hp : ∀ a w, J0 a w → ((Code.label 0).seq rest).wp P (jumps (fun l a w => (l = 0 ∧ J0 a w) ∨ (l = 1 ∧ J1 a w)) Q) a w := fun a w h => by
      refine wp_seq (wp_label ?_)
      refine wp_mono (pass a w h) ?_
      intro e a' w' hq
      cases e with
      | goto l =>
        rcases hq with ⟨h1, h2, _⟩ | ⟨h1, h2⟩
        · exact Or.inl ⟨h1, h2⟩
        · exact Or.inr ⟨h1, h2⟩
      | _ => exact hq
    have hthen : ∀ (K K' : Act → World → Prop) (R : Exit → Act → World → Prop), (∀ a w, K a w → K' a w) → ∀ e a w, Exit.then K (fun _ _ _ => False) e a w → Exit.then K' R e a w := by
      intro K K' R hK e a w hq
      cases e with
      | normal => exact hK a w hq
      | _ => exact False.elim hq
    refine wp_seq (wp_mono first (hthen _ _ _ fun a w h1 => ?_))
    exact wp_seq (wp_mono h1 (hthen _ _ _ hp))
  · rintro l a w (⟨rfl, h⟩ | ⟨rfl, h⟩)
    · refine ⟨_, hf0, hskip _ _ _ _ (wp_mono (pass a w h) ?_)⟩
      intro e a' w' hq
      cases e with
      | goto l =>
        rcases hq with ⟨rfl, h2, h3⟩ | ⟨rfl, h2⟩
        · exact ⟨Or.inl ⟨rfl, h2⟩, by simp; omega⟩
        · exact ⟨Or.inr ⟨rfl, h2⟩, by simp⟩
      | _ => exact hq
    · refine ⟨_, hf1, hskip _ _ _ _ (wp_mono (last a w h) ?_)⟩
      intro e a' w' hq
      cases e with
      | goto l => exact False.elim hq
      | _ => exact hq
end
end Go.Proofs.Ytekjhhiamboffaa
