/-
  CookieOne: of one flow, one epoch, each slot has one cookie: no two of them the same.
-/
import Derived.Test.YtnaplobnkmdfbaaCookS
import Derived.Test.YtnaplobnkmdfbaaQ50
namespace Go.Proofs.Ytnaplobnkmdfbaa.Pure
open Go.RowKit Go.Proofs.Ytnaplobnkmdfbaa.Q Go.Proofs.YtnaplobnkmdfbaaW.PrintWords Go.Proofs.YtnaplobnkmdfbaaW.PrintMore Go.Proofs.YtnaplobnkmdfbaaW.PrintLast Go.Proofs.Ytnaplobnkmdfbaa.Own
set_option linter.unusedVariables false
set_option linter.unusedSimpArgs false

theorem one_j (k : Nat) (f g s t kind q pa pb ca cb na nb : Int) (hk : kind = 1 ∨ kind = 2) : roundhouselaw5_CookieOne.j0 (k + 2) f g s t kind q pa pb ca cb na nb = some true := by
  obtain ⟨x, hx, x0, x1⟩ := within_ok s 64 (by decide) (by decide)
  obtain ⟨y, hy, y0, y1⟩ := within_ok t 64 (by decide) (by decide)
  obtain ⟨f0, f1, f2, f3, hf⟩ := flow_ex f g
  rw [roundhouselaw5_CookieOne.j0]
  refine bind_ok hx (bind_ok hy (bind_ok hf (bind_ok (make_f k q pa pb ca cb na nb kind f0 f1 f2 f3 x hk ⟨x0, x1⟩) (bind_ok hf (bind_ok (make_f k q pa pb ca cb na nb kind f0 f1 f2 f3 y hk ⟨y0, y1⟩) ?_)))))
  have e : (cookN ca cb kind f0 f1 f2 f3 x (q % 4) == cookN ca cb kind f0 f1 f2 f3 y (q % 4)) = (x == y) := by
    by_cases h : x = y
    · rw [h]; simp
    · have h2 : ¬ cookN ca cb kind f0 f1 f2 f3 x (q % 4) = cookN ca cb kind f0 f1 f2 f3 y (q % 4) := fun h3 => h (cook_inj ca cb kind f0 f1 f2 f3 x y (q % 4) (by omega) ⟨x0, x1⟩ ⟨y0, y1⟩ h3)
      rw [beq_false_of_ne h, beq_false_of_ne h2]
  rw [e]
  simp
theorem CookieOne : roundhouselaw5_CookieOne.Pure := by
  intro a0 a1 a2 a3 a4 a5 a6 _ _ _ _ _ _
  obtain ⟨q, pa, pb, ca, cb, na, nb, hr, _, _⟩ := ring_ex a0 a1
  obtain ⟨k, hk⟩ := known_five
  refine ⟨k + 5, ?_⟩
  unfold roundhouselaw5_CookieOne.f
  refine bind_ok hk ?_
  rw [if_pos rfl]
  refine bind_ok (hr (k + 4)) ?_
  cases a2 with
  | true => rw [if_pos rfl]; exact one_j (k + 3) _ _ _ _ 1 _ _ _ _ _ _ _ (.inl rfl)
  | false => rw [if_neg (by decide)]; exact one_j (k + 3) _ _ _ _ 2 _ _ _ _ _ _ _ (.inr rfl)
end Go.Proofs.Ytnaplobnkmdfbaa.Pure
