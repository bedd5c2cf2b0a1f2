/-
  CookieFlows: another kind, another flow has the document's cookie; each is read as its own.
-/
import Derived.Test.YtnaplobnkmdfbaaCookS
import Derived.Test.YtnaplobnkmdfbaaQ58
namespace Go.Proofs.Ytnaplobnkmdfbaa.Pure
open Go.RowKit Go.Proofs.Ytnaplobnkmdfbaa.Q Go.Proofs.YtnaplobnkmdfbaaW.PrintWords Go.Proofs.YtnaplobnkmdfbaaW.PrintMore Go.Proofs.YtnaplobnkmdfbaaW.PrintLast Go.Proofs.Ytnaplobnkmdfbaa.Own
set_option linter.unusedVariables false
set_option linter.unusedSimpArgs false

theorem flows_j (k : Nat) (s q pa pb ca cb na nb x0 x1 x2 x3 y0 y1 y2 y3 : Int) (hq : 0 ≤ q ∧ q < 1073741824) : roundhouselaw5_CookieFlows.j0 (k + 3) s q pa pb ca cb na nb x0 x1 x2 x3 y0 y1 y2 y3 = some true := by
  obtain ⟨x, hx, h0, h1⟩ := within_ok s 64 (by decide) (by decide)
  rw [roundhouselaw5_CookieFlows.j0]
  refine bind_ok hx (bind_ok (make_f (k + 1) q pa pb ca cb na nb 1 y0 y1 y2 y3 x (.inl rfl) ⟨h0, h1⟩) (bind_ok (make_f (k + 1) q pa pb ca cb na nb 2 y0 y1 y2 y3 x (.inr rfl) ⟨h0, h1⟩) (bind_ok (read_f k q pa pb ca cb na nb 1 x0 x1 x2 x3 _ (by omega) (.inl rfl)) (bind_ok (rread_f k q pa pb ca cb na nb 1 x0 x1 x2 x3 _ (.inl rfl)) (bind_ok (rmake_f (k + 1) q pa pb ca cb na nb 1 y0 y1 y2 y3 x (.inl rfl) ⟨h0, h1⟩) ?_)))))
  rw [if_pos rfl]
  refine bind_ok (rmake_f (k + 1) q pa pb ca cb na nb 2 y0 y1 y2 y3 x (.inr rfl) ⟨h0, h1⟩) ?_
  rw [if_pos rfl, if_pos rfl, if_pos (by simp)]
  by_cases h : x0 = y0 ∧ x1 = y1 ∧ x2 = y2 ∧ x3 = y3
  · obtain ⟨rfl, rfl, rfl, rfl⟩ := h
    rw [if_neg (by simp), read_made q pa pb ca cb na nb 1 x0 x1 x2 x3 x (by omega) ⟨h0, h1⟩, if_pos rfl]
    simp
  · rw [if_pos (by
      simp only [Bool.or_eq_true, Bool.not_eq_true', beq_eq_false_iff_ne, ne_eq]
      by_cases e0 : x0 = y0
      · by_cases e1 : x1 = y1
        · by_cases e2 : x2 = y2
          · exact .inr (.inr (.inr fun e3 => h ⟨e0, e1, e2, e3⟩))
          · exact .inr (.inr (.inl e2))
        · exact .inr (.inl e1)
      · exact .inl e0)]
theorem CookieFlows : roundhouselaw5_CookieFlows.Pure := by
  intro a0 a1 a2 a3 a4 a5 a6 _ _ _ _ _ _ _
  obtain ⟨q, pa, pb, ca, cb, na, nb, hr, q0, q1⟩ := ring_ex a0 a1
  obtain ⟨f0, f1, f2, f3, hf⟩ := flow_ex a2 a3
  obtain ⟨x, hx, h0, h1⟩ := within_ok a5 4 (by decide) (by decide)
  obtain ⟨k, hk⟩ := known_five
  refine ⟨k + 5, ?_⟩
  unfold roundhouselaw5_CookieFlows.f
  refine bind_ok hk ?_
  rw [if_pos rfl]
  refine bind_ok (hr (k + 4)) (bind_ok hf (bind_ok hx ?_))
  have hj := fun y0 y1 y2 y3 => flows_j (k + 2) a4 q pa pb ca cb na nb f0 f1 f2 f3 y0 y1 y2 y3 ⟨q0, q1⟩
  split
  · exact hj _ _ _ _
  · split
    · exact hj _ _ _ _
    · split
      · exact hj _ _ _ _
      · split <;> exact hj _ _ _ _
end Go.Proofs.Ytnaplobnkmdfbaa.Pure
