/-
  CookieKnown: of these numbers just these come.
-/
import Derived.Test.YtnaplobnkmdfbaaCookN
import Derived.Test.YtnaplobnkmdfbaaQ66
namespace Go.Proofs.Ytnaplobnkmdfbaa.Pure
open Go.RowKit Go.Proofs.Ytnaplobnkmdfbaa.Q Go.Proofs.YtnaplobnkmdfbaaW.PrintWords Go.Proofs.YtnaplobnkmdfbaaW.PrintMore Go.Proofs.YtnaplobnkmdfbaaW.PrintLast Go.Proofs.Ytnaplobnkmdfbaa.Own
set_option linter.unusedVariables false
set_option linter.unusedSimpArgs false

theorem CookieKnown : roundhouselaw5_CookieKnown.Pure := by
  intro a ha
  obtain ⟨r, hr, r0, r1⟩ := within_ok a 10 (by decide) (by decide)
  obtain ⟨k, _, hk⟩ := known_ex 0
  refine ⟨k + 1, ?_⟩
  unfold roundhouselaw5_CookieKnown.f
  refine bind_ok hk ?_
  rw [if_pos rfl]
  refine bind_ok (put_f 0 0 (by decide) (by decide)) (bind_ok (put_f 4294967295 1048575 (by decide) (by decide)) (bind_ok (put_f 256 0 (by decide) (by decide)) (bind_ok (put_f 1048576 7 (by decide) (by decide)) (bind_ok (back_f 1048576 0 (by decide) (by decide)) (bind_ok (back_f 4293918720 0 (by decide) (by decide)) (bind_ok (back_f 2147483648 0 (by decide) (by decide)) (bind_ok (back_f 2146435072 0 (by decide) (by decide)) (bind_ok (back_f 0 4294967295 (by decide) (by decide)) (bind_ok (back_f 5242880 305419896 (by decide) (by decide)) (bind_ok rfl (bind_ok rfl (bind_ok hr ?_))))))))))))
  rw [if_pos r0]
  rcases (show r = 0 ∨ r = 1 ∨ r = 2 ∨ r = 3 ∨ r = 4 ∨ r = 5 ∨ r = 6 ∨ r = 7 ∨ r = 8 ∨ r = 9 by omega) with rfl | rfl | rfl | rfl | rfl | rfl | rfl | rfl | rfl | rfl <;> decide +kernel
end Go.Proofs.Ytnaplobnkmdfbaa.Pure
