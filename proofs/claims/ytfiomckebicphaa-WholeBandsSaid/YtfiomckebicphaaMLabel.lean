/- A scope with one label: what holds at every jump back to it is chosen where the label is reached, and bears a number that every round lowers. -/
import Derived.ScopeJumps
import Derived.WalkMore
import Derived.Deep.LoopGhost
namespace Go.Proofs.Ytfiomckebicphaa.Lab
open Go

section
variable {P : Program} {a : Act} {w : World} {Q : Exit → Act → World → Prop}
/-- From here on the code behind the label goes round and ends: by some relation with a number. -/
def Again (P : Program) (l : Nat) (rest : Code) (Q : Exit → Act → World → Prop) (a : Act) (w : World) : Prop :=
  ∃ (I : Nat → Act → World → Prop) (n : Nat), I n a w ∧ ∀ n a w, I n a w → rest.wp P (Exit.jump l (fun a' w' => ∃ n', n' < n ∧ I n' a' w') Q) a w
theorem wp_scope_late {c rest : Code} (l : Nat) (hf : findLabel c l = some rest)
    (first : ∀ J0 : Act → World → Prop, (∀ a w, Again P l rest Q a w → J0 a w) → c.wp P (Exit.jump l J0 Q) a w) : (Code.scope c).wp P Q a w := by
  refine wp_scope_jumps l (fun a w => Again P l rest Q a w)
    (fun a w => leastOf (fun n => ∃ I : Nat → Act → World → Prop, I n a w ∧ ∀ n a w, I n a w → rest.wp P (Exit.jump l (fun a' w' => ∃ n', n' < n ∧ I n' a' w') Q) a w)) hf (first _ (fun _ _ h => h)) ?_
  rintro a w ⟨I, n, hI, hp⟩
  obtain ⟨I', hI', hp'⟩ := (leastOf_spec (p := fun n => ∃ I : Nat → Act → World → Prop, I n a w ∧ ∀ n a w, I n a w → rest.wp P (Exit.jump l (fun a' w' => ∃ n', n' < n ∧ I n' a' w') Q) a w) ⟨n, I, hI, hp⟩).1
  refine wp_mono (hp' _ a w hI') ?_
  intro e a' w' hq
  cases e with
  | normal => exact hq
  | exit id => exact hq
  | goto l' =>
    obtain ⟨rfl, n', hlt, hI''⟩ := hq
    refine ⟨rfl, ⟨I', n', hI'', hp'⟩, Nat.lt_of_le_of_lt ?_ hlt⟩
    exact (leastOf_spec (p := fun n => ∃ I : Nat → Act → World → Prop, I n a' w' ∧ ∀ n a w, I n a w → rest.wp P (Exit.jump _ (fun a' w' => ∃ n', n' < n ∧ I n' a' w') Q) a w) ⟨n', I', hI'', hp'⟩).2 n' ⟨I', hI'', hp'⟩
  | ret => exact hq
  | panic ch => exact hq
  | outgrown => exact hq
theorem wp_label_ghost_k {rest : Code} {l : Nat} {J0 : Act → World → Prop} (hJ0 : ∀ a w, Again P l (Code.skip.seq rest) Q a w → J0 a w) (I : Nat → Act → World → Prop) (n0 : Nat) (h0 : I n0 a w)
    (round : ∀ n a w, I n a w → ∀ (J : Nat → Act → World → Prop) (K : Act → World → Prop), (∀ k a' w', I k a' w' → J k a' w') → (∀ a' w', Handed J n a' w' → K a' w') → rest.wp P (Exit.jump l K Q) a w) :
    rest.wp P (Exit.jump l J0 Q) a w := by
  have pass : ∀ n a w, I n a w → rest.wp P (Exit.jump l (fun a' w' => ∃ n', n' < n ∧ I n' a' w') Q) a w := fun n a w h => round n a w h I _ (fun _ _ _ q => q) fun _ _ q => q
  have pass' : ∀ n a w, I n a w → (Code.skip.seq rest).wp P (Exit.jump l (fun a' w' => ∃ n', n' < n ∧ I n' a' w') Q) a w := fun n a w h => wp_seq (wp_skip (pass n a w h))
  refine wp_mono (pass n0 a w h0) ?_
  intro e a' w' hq
  cases e with
  | normal => exact hq
  | exit id => exact hq
  | goto l' =>
    obtain ⟨rfl, n', _, hI'⟩ := hq
    exact ⟨rfl, hJ0 _ _ ⟨I, n', hI', pass'⟩⟩
  | ret => exact hq
  | panic ch => exact hq
  | outgrown => exact hq
end
end Go.Proofs.Ytfiomckebicphaa.Lab
