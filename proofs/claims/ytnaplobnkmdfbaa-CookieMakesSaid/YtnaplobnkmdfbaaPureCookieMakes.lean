/-
  CookieMakes: of any ring, flow, slot the cookie is the document's; it is read as its slot.
-/
import Derived.Test.YtnaplobnkmdfbaaCookS
import Derived.Test.YtnaplobnkmdfbaaQMakes
namespace Go.Proofs.Ytnaplobnkmdfbaa.Pure
open Go.RowKit Go.Proofs.Ytnaplobnkmdfbaa.Q Go.Proofs.YtnaplobnkmdfbaaW.PrintWords Go.Proofs.YtnaplobnkmdfbaaW.PrintMore Go.Proofs.YtnaplobnkmdfbaaW.PrintLast Go.Proofs.Ytnaplobnkmdfbaa.Own
set_option linter.unusedVariables false
set_option linter.unusedSimpArgs false

theorem makes_j (k : Nat) (b : Bool) (f g s kind q pa pb ca cb na nb : Int) (hq : 0 ≤ q ∧ q < 1073741824) (hb : b = true ∧ kind = 1 ∨ b = false ∧ kind = 2) : roundhouselaw5_CookieMakes.j0 (k + 3) b f g s kind q pa pb ca cb na nb = some true := by
  obtain ⟨x, hx, x0, x1⟩ := within_ok s 64 (by decide) (by decide)
  obtain ⟨f0, f1, f2, f3, hf⟩ := flow_ex f g
  have hk : kind = 1 ∨ kind = 2 := by rcases hb with h | h <;> simp [h.2]
  rw [roundhouselaw5_CookieMakes.j0]
  refine bind_ok hx (bind_ok hf (bind_ok (make_f (k + 1) q pa pb ca cb na nb kind f0 f1 f2 f3 x hk ⟨x0, x1⟩) (bind_ok hf (bind_ok (read_f k q pa pb ca cb na nb kind f0 f1 f2 f3 _ (by omega) hk) (bind_ok hf (bind_ok (rmake_f (k + 1) q pa pb ca cb na nb kind f0 f1 f2 f3 x hk ⟨x0, x1⟩) ?_))))))
  obtain ⟨p1, p2', _⟩ := cook_parts ca cb kind f0 f1 f2 f3 x (q % 4) (by omega) ⟨x0, x1⟩
  rw [read_made q pa pb ca cb na nb kind f0 f1 f2 f3 x (by omega) ⟨x0, x1⟩, if_pos rfl, if_pos rfl, if_pos rfl, if_pos p1]
  rcases hb with ⟨rfl, rfl⟩ | ⟨rfl, rfl⟩
  · rw [show p2 1 = 4096 from rfl] at p2'
    rw [if_pos (by omega), if_pos rfl]
  · rw [show p2 2 = 256 from rfl] at p2'
    rw [if_pos (by omega), if_neg (by decide), decide_eq_true (by omega)]
theorem CookieMakes : roundhouselaw5_CookieMakes.Pure := by
  intro a0 a1 a2 a3 a4 a5 _ _ _ _ _
  obtain ⟨q, pa, pb, ca, cb, na, nb, hr, q0, q1⟩ := ring_ex a0 a1
  obtain ⟨k, hk⟩ := known_five
  refine ⟨k + 5, ?_⟩
  unfold roundhouselaw5_CookieMakes.f
  refine bind_ok hk ?_
  rw [if_pos rfl]
  refine bind_ok (hr (k + 4)) ?_
  cases a2 with
  | true => rw [if_pos rfl]; exact makes_j (k + 2) _ _ _ _ _ _ _ _ _ _ _ _ ⟨q0, q1⟩ (.inl ⟨rfl, rfl⟩)
  | false => rw [if_neg (by decide)]; exact makes_j (k + 2) _ _ _ _ _ _ _ _ _ _ _ _ ⟨q0, q1⟩ (.inr ⟨rfl, rfl⟩)
end Go.Proofs.Ytnaplobnkmdfbaa.Pure
