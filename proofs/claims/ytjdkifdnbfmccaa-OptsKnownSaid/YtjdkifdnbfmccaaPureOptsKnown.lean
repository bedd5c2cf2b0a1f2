/-
  OptsKnown: of these bytes there are just so many options, or none.
-/
import Derived.Test.YtjdkifdnbfmccaaOptL
import Derived.Test.YtjdkifdnbfmccaaOptG
import Derived.Test.YtjdkifdnbfmccaaQKnown
namespace Go.Proofs.Ytjdkifdnbfmccaa.Pure
open Go.RowKit Go.Proofs.Ytjdkifdnbfmccaa.Q Go.Proofs.YtjdkifdnbfmccaaW.PrintWords Go.Proofs.YtjdkifdnbfmccaaW.PrintMore Go.Proofs.YtjdkifdnbfmccaaW.PrintLast Go.Proofs.Ytjdkifdnbfmccaa.Own
set_option linter.unusedVariables false
set_option linter.unusedSimpArgs false

theorem OptsKnown : roundhouselaw4_OptsKnown.Pure := by
  intro a _
  obtain ⟨r, hr, h0, h1⟩ := within_ok a 15 (by decide) (by decide)
  refine ⟨50, ?_⟩
  unfold roundhouselaw4_OptsKnown.f
  refine bind_ok (known_ok 50 (by decide)) ?_
  rw [if_pos rfl]
  refine bind_ok rfl (bind_ok rfl (bind_ok rfl (bind_ok hr ?_)))
  rcases (show r = 0 ∨ r = 1 ∨ r = 2 ∨ r = 3 ∨ r = 4 ∨ r = 5 ∨ r = 6 ∨ r = 7 ∨ r = 8 ∨ r = 9 ∨ r = 10 ∨ r = 11 ∨ r = 12 ∨ r = 13 ∨ r = 14 by omega) with rfl | rfl | rfl | rfl | rfl | rfl | rfl | rfl | rfl | rfl | rfl | rfl | rfl | rfl | rfl <;> decide +kernel
end Go.Proofs.Ytjdkifdnbfmccaa.Pure
