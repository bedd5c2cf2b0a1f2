/-
  CookieAll: of one flow, one epoch all slots together have all sixty-four middles.
-/
import Derived.Test.YtnaplobnkmdfbaaCookS
import Derived.Test.YtnaplobnkmdfbaaQAll
namespace Go.Proofs.Ytnaplobnkmdfbaa.Pure
open Go.RowKit Go.Proofs.Ytnaplobnkmdfbaa.Q Go.Proofs.YtnaplobnkmdfbaaW.PrintWords Go.Proofs.YtnaplobnkmdfbaaW.PrintMore Go.Proofs.YtnaplobnkmdfbaaW.PrintLast Go.Proofs.Ytnaplobnkmdfbaa.Own
set_option linter.unusedVariables false
set_option linter.unusedSimpArgs false

theorem all_l0 (b : Bool) (f g q pa pb ca cb na nb : Int) : ∀ (n k : Nat) (i : Int), i + n = 64 → 0 ≤ i → roundhouselaw5_CookieAll.l0 (k + n + 2) b f g i q pa pb ca cb na nb = some true
  | 0, k, i, hi, h0 => by rw [roundhouselaw5_CookieAll.l0, if_neg (by omega)]
  | n + 1, k, i, hi, h0 => by
    obtain ⟨f0, f1, f2, f3, hf⟩ := flow_ex f g
    obtain ⟨kd, hkd, hk⟩ : ∃ kd, roundhouselaw5_kind.f b = some kd ∧ (kd = 1 ∨ kd = 2) := by
      cases b with
      | true => exact ⟨1, rfl, .inl rfl⟩
      | false => exact ⟨2, rfl, .inr rfl⟩
    rw [show k + (n + 1) + 2 = (k + n + 1 + 1) + 1 from by omega, roundhouselaw5_CookieAll.l0, if_pos (by omega)]
    refine bind_ok hkd (bind_ok hf (bind_ok (make_f (k + n + 1) q pa pb ca cb na nb kd f0 f1 f2 f3 i hk ⟨h0, by omega⟩) ?_))
    have p := cook_parts ca cb kd f0 f1 f2 f3 i (q % 4) (by omega) ⟨h0, by omega⟩
    rw [if_neg (by omega), show wrap64 (i + 1) = i + 1 from by unfold wrap64; omega]
    have h := all_l0 b f g q pa pb ca cb na nb n k (i + 1) (by omega) (by omega)
    rw [show k + n + 2 = k + n + 1 + 1 from by omega] at h
    exact h
theorem CookieAll : roundhouselaw5_CookieAll.Pure := by
  intro a0 a1 a2 a3 a4 _ _ _ _
  obtain ⟨q, pa, pb, ca, cb, na, nb, hr, q0, q1⟩ := ring_ex a0 a1
  refine ⟨80, ?_⟩
  unfold roundhouselaw5_CookieAll.f
  refine bind_ok (known_ok 80 (by decide)) ?_
  rw [if_pos rfl]
  refine bind_ok (hr 79) ?_
  have h := all_l0 a2 a3 a4 q pa pb ca cb na nb 64 13 0 (by decide) (by decide)
  have hj : roundhouselaw5_CookieAll.j0 80 a2 a3 a4 q pa pb ca cb na nb = some true := by
    rw [show (80 : Nat) = 79 + 1 from rfl, roundhouselaw5_CookieAll.j0]
    exact h
  cases a2 with
  | true => rw [if_pos rfl]; exact hj
  | false => rw [if_neg (by decide)]; exact hj
end Go.Proofs.Ytnaplobnkmdfbaa.Pure
