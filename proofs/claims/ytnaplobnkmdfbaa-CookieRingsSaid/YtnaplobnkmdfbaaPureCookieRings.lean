/-
  CookieRings: rings, their keys by epochs, are the document's.
-/
import Derived.Test.YtnaplobnkmdfbaaCookS
import Derived.Test.YtnaplobnkmdfbaaQ49
namespace Go.Proofs.Ytnaplobnkmdfbaa.Pure
open Go.RowKit Go.Proofs.Ytnaplobnkmdfbaa.Q Go.Proofs.YtnaplobnkmdfbaaW.PrintWords Go.Proofs.YtnaplobnkmdfbaaW.PrintMore Go.Proofs.YtnaplobnkmdfbaaW.PrintLast Go.Proofs.Ytnaplobnkmdfbaa.Own
set_option linter.unusedVariables false
set_option linter.unusedSimpArgs false

theorem key_eq (k : Nat) (q a b c d e f x : Int) (hq : 0 ≤ q ∧ q < 1099511627776) : cookie_Key.f (k + 1) q a b c d e f x = some (Own.keyOf q a b c d e f x) := by
  show some (keyAt _ _ _ _ _ _ _ _) = _
  rw [key_same q a b c d e f x (by omega)]
theorem rings_l1 (h t q a b c d e f : Int) (hq : 0 ≤ q ∧ q < 1099511627776) : ∀ (n k : Nat) (i : Int), i + n = 6 → -3 ≤ i → roundhouselaw5_CookieRings.l1 (k + n + 2) h t i q a b c d e f = some true
  | 0, k, i, hi, h3 => by
    rw [roundhouselaw5_CookieRings.l1, if_neg (by omega)]
    refine bind_ok (key_eq k q a b c d e f h hq) (bind_ok rfl ?_)
    rw [if_pos (by simp)]
    simp
  | n + 1, k, i, hi, h3 => by
    rw [show k + (n + 1) + 2 = (k + n + 2) + 1 from by omega, roundhouselaw5_CookieRings.l1, if_pos (by omega)]
    refine bind_ok (key_eq (k + n + 1) q a b c d e f _ hq) (bind_ok rfl ?_)
    rw [if_neg (by simp), if_neg (by simp), show wrap64 (i + 1) = i + 1 from by unfold wrap64; omega]
    exact rings_l1 h t q a b c d e f hq n k (i + 1) (by omega) (by omega)
theorem rings_j1 (k : Nat) (a e n : Int) (l : List S25) : roundhouselaw5_CookieRings.j1 (k + 13) a e n l = some true := by
  obtain ⟨q, hq, q0, q1⟩ := within_ok a 1099511627776 (by decide) (by decide)
  rw [show k + 13 = (k + 12) + 1 from rfl, roundhouselaw5_CookieRings.j1]
  refine bind_ok hq (bind_ok (a := ringOf q l) rfl (bind_ok (a := ringOf q l) rfl ?_))
  rw [if_neg (by simp)]
  refine bind_ok rfl (bind_ok rfl (bind_ok rfl (bind_ok rfl ?_)))
  rw [show k + 12 = (k + 11) + 1 from rfl, roundhouselaw5_CookieRings.j2, if_neg (by simp)]
  exact rings_l1 e q q _ _ _ _ _ _ ⟨q0, q1⟩ 9 k (-3) (by decide) (by decide)
theorem rings_l0 (a e n : Int) (xs : List Int) (hx : xs.length ≤ 4611686018427387904) : ∀ (d : Nat) (k i : Nat) (l : List S25), i + d = 5 → l.length = i → roundhouselaw5_CookieRings.l0 (k + d + 14) a xs e n l i = some true
  | 0, k, i, l, hi, hl => by
    rw [show k + 0 + 14 = (k + 13) + 1 from rfl, roundhouselaw5_CookieRings.l0]
    split
    · rw [if_neg (by omega)]; exact rings_j1 k a e n l
    · exact rings_j1 k a e n l
  | d + 1, k, i, l, hi, hl => by
    rw [show k + (d + 1) + 14 = (k + d + 14) + 1 from by omega, roundhouselaw5_CookieRings.l0]
    split
    · rw [if_pos (by omega), if_pos (by omega)]
      refine bind_ok rfl ?_
      rw [if_pos (by omega), show wrap64 ((i : Int) + 1) = ((i + 1 : Nat) : Int) from by unfold wrap64; omega]
      exact rings_l0 a e n xs hx d k (i + 1) _ (by omega) (by rw [List.length_append, hl]; rfl)
    · rw [show k + d + 14 = (k + d + 1) + 13 from by omega]; exact rings_j1 (k + d + 1) a e n l
theorem CookieRings : roundhouselaw5_CookieRings.Pure := by
  intro a0 l a2 a3 _ hl _ _ _ _
  refine ⟨60, ?_⟩
  unfold roundhouselaw5_CookieRings.f
  refine bind_ok (known_ok 60 (by decide)) ?_
  rw [if_pos rfl]
  exact rings_l0 a0 a2 a3 l (by unfold maxLen at hl; omega) 5 41 0 [] rfl rfl
end Go.Proofs.Ytnaplobnkmdfbaa.Pure
