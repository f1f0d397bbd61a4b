/- A scope with two labels: the run jumps back to the one and goes on behind the other, at which no more jumps lie. Conditions: none. -/
import Derived.Scope
import Derived.ScopeJumps
import Derived.WalkMore
namespace Go.Proofs.Ytdbkedipfpepbaa.Scope2
open Go
/-- As Q; by a goto to label l1: J; by a goto to label l0: J0; by any other goto: no way out. -/
def two (l1 l0 : Nat) (J J0 : Act → World → Prop) (Q : Exit → Act → World → Prop) : Exit → Act → World → Prop
  | .goto l', a, w => (l' = l1 ∧ J a w) ∨ (l' = l0 ∧ J0 a w)
  | e, a, w => Q e a w
variable {P : Program} {a : Act} {w : World} {Q : Exit → Act → World → Prop}
@[go_sem] theorem two_normal {l1 l0 : Nat} {J J0 : Act → World → Prop} : two l1 l0 J J0 Q .normal a w = Q .normal a w := rfl
@[go_sem] theorem two_ret {l1 l0 : Nat} {J J0 : Act → World → Prop} : two l1 l0 J J0 Q .ret a w = Q .ret a w := rfl
theorem wp_scope_two {c X1 X0 : Code} (l1 l0 : Nat) (J : Nat → Act → World → Prop) (hf1 : findLabel c l1 = some (.seq .skip X1)) (hf0 : findLabel c l0 = some (.seq .skip X0))
    (first : c.wp P (two l1 l0 (fun a w => ∃ n, J n a w) (fun a w => X0.wp P (Exit.noGoto Q) a w) Q) a w)
    (pass : ∀ n a w, J n a w → X1.wp P (two l1 l0 (fun a' w' => ∃ m, m < n ∧ J m a' w') (fun a w => X0.wp P (Exit.noGoto Q) a w) Q) a w) : (Code.scope c).wp P Q a w := by
  intro b k cs
  have hg1 : gotoIn l1 (.inScope c :: k) = some (.code (.seq .skip X1) :: .inScope c :: k) := by simp [gotoIn, hf1]
  have hg0 : gotoIn l0 (.inScope c :: k) = some (.code (.seq .skip X0) :: .inScope c :: k) := by simp [gotoIn, hf0]
  have out : ∀ a w, X0.wp P (Exit.noGoto Q) a w → ∃ e a' w', Q e a' w' ∧ Arrives P (lone (b.at a (.code (.seq .skip X0) :: .inScope c :: k)) cs w) b k cs e a' w' := by
    intro a w h
    have h' : (Code.seq .skip X0).wp P (Exit.noGoto Q) a w := wp_seq (wp_skip h)
    obtain ⟨e, a₁, w₁, hq, harr⟩ := h' b (.inScope c :: k) cs
    cases e with
    | normal => exact ⟨.normal, a₁, w₁, hq, Steps.trans harr (.one step_inScope)⟩
    | exit id => exact ⟨.exit id, a₁, w₁, hq, fun k' hk => harr k' (by simp [exitTo, hk])⟩
    | goto l' => exact hq.elim
    | ret => exact ⟨_, a₁, w₁, hq, harr⟩
    | panic ch => exact ⟨_, a₁, w₁, hq, harr⟩
    | outgrown => exact ⟨_, a₁, w₁, hq, harr⟩
  have key : ∀ n a w, J n a w → ∃ e a' w', Q e a' w' ∧ Arrives P (lone (b.at a (.code (.seq .skip X1) :: .inScope c :: k)) cs w) b k cs e a' w' := by
    intro n
    induction n using Nat.strongRecOn with
    | _ n ih =>
      intro a w hJ
      have h' := wp_seq (wp_skip (pass n a w hJ))
      obtain ⟨e, a₁, w₁, hq, harr⟩ := h' b (.inScope c :: k) cs
      cases e with
      | normal => exact ⟨.normal, a₁, w₁, hq, Steps.trans harr (.one step_inScope)⟩
      | exit id => exact ⟨.exit id, a₁, w₁, hq, fun k' hk => harr k' (by simp [exitTo, hk])⟩
      | goto l' =>
        rcases hq with ⟨rfl, m, hm, hJ'⟩ | ⟨rfl, h0⟩
        · obtain ⟨e₂, a₂, w₂, hq₂, harr₂⟩ := ih m hm a₁ w₁ hJ'
          exact ⟨e₂, a₂, w₂, hq₂, .of_steps (harr _ hg1) harr₂⟩
        · obtain ⟨e₂, a₂, w₂, hq₂, harr₂⟩ := out a₁ w₁ h0
          exact ⟨e₂, a₂, w₂, hq₂, .of_steps (harr _ hg0) harr₂⟩
      | ret => exact ⟨_, a₁, w₁, hq, harr⟩
      | panic ch => exact ⟨_, a₁, w₁, hq, harr⟩
      | outgrown => exact ⟨_, a₁, w₁, hq, harr⟩
  obtain ⟨e, a₁, w₁, hq, harr⟩ := first b (.inScope c :: k) cs
  cases e with
  | normal => exact ⟨.normal, a₁, w₁, hq, .head step_scope (Steps.trans harr (.one step_inScope))⟩
  | exit id => exact ⟨.exit id, a₁, w₁, hq, fun k' hk => .head step_scope (harr k' (by simp [exitTo, hk]))⟩
  | goto l' =>
    rcases hq with ⟨rfl, m, hJ'⟩ | ⟨rfl, h0⟩
    · obtain ⟨e₂, a₂, w₂, hq₂, harr₂⟩ := key m a₁ w₁ hJ'
      exact ⟨e₂, a₂, w₂, hq₂, .of_steps (.head step_scope (harr _ hg1)) harr₂⟩
    · obtain ⟨e₂, a₂, w₂, hq₂, harr₂⟩ := out a₁ w₁ h0
      exact ⟨e₂, a₂, w₂, hq₂, .of_steps (.head step_scope (harr _ hg0)) harr₂⟩
  | ret => exact ⟨_, a₁, w₁, hq, .of_steps (.one step_scope) harr⟩
  | panic ch => exact ⟨_, a₁, w₁, hq, .of_steps (.one step_scope) harr⟩
  | outgrown => exact ⟨_, a₁, w₁, hq, .of_steps (.one step_scope) harr⟩
/-- .. where the run comes to the first label straight, and on from there as from a jump. -/
theorem wp_scope_pass {c X1 X0 : Code} (l1 l0 : Nat) (J : Nat → Act → World → Prop) (hf1 : findLabel c l1 = some (.seq .skip X1)) (hf0 : findLabel c l0 = some (.seq .skip X0))
    (first : ∀ R : Exit → Act → World → Prop, (∀ n a w, J n a w → X1.wp P R a w) → c.wp P R a w)
    (pass : ∀ n a w, J n a w → X1.wp P (two l1 l0 (fun a' w' => ∃ m, m < n ∧ J m a' w') (fun a w => X0.wp P (Exit.noGoto Q) a w) Q) a w) : (Code.scope c).wp P Q a w := by
  refine wp_scope_two l1 l0 J hf1 hf0 (first _ fun n a w hJ => wp_mono (pass n a w hJ) ?_) pass
  intro e a w h
  cases e with
  | goto l' =>
    rcases h with ⟨rfl, m, _, hJ'⟩ | ⟨rfl, h0⟩
    · exact .inl ⟨rfl, m, hJ'⟩
    · exact .inr ⟨rfl, h0⟩
  | normal => exact h
  | exit id => exact h
  | ret => exact h
  | panic ch => exact h
  | outgrown => exact h
end Go.Proofs.Ytdbkedipfpepbaa.Scope2
