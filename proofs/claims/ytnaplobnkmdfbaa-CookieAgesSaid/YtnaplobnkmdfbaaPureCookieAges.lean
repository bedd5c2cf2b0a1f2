/-
  CookieAges: what was made is read in the next epoch, and in the one ahead; two epochs on its key is gone.
-/
import Derived.Test.YtnaplobnkmdfbaaCookS
import Derived.Test.YtnaplobnkmdfbaaQAges
namespace Go.Proofs.Ytnaplobnkmdfbaa.Pure
open Go.RowKit Go.Proofs.Ytnaplobnkmdfbaa.Q Go.Proofs.YtnaplobnkmdfbaaW.PrintWords Go.Proofs.YtnaplobnkmdfbaaW.PrintMore Go.Proofs.YtnaplobnkmdfbaaW.PrintLast Go.Proofs.Ytnaplobnkmdfbaa.Own
set_option linter.unusedVariables false
set_option linter.unusedSimpArgs false

/-- A cookie is read by any ring that has its key for its epoch's bits. -/
theorem read_by (q r pa pb ca cb na nb a b kind f0 f1 f2 f3 slot : Int) (hs : 0 ≤ slot ∧ slot < 64) (he : 0 ≤ q ∧ q < 4) (hk : Own.keyOf r pa pb ca cb na nb q = (a, b, true)) : readN r pa pb ca cb na nb kind f0 f1 f2 f3 (cookN a b kind f0 f1 f2 f3 slot q) = (slot, true) := by
  obtain ⟨h1, h2, h3, h4, h5⟩ := cook_parts a b kind f0 f1 f2 f3 slot q he hs
  unfold readN
  rw [if_neg (by omega), h3, h4, h5, hk]
  rw [if_pos rfl]
  show (if sumN a b kind f0 f1 f2 f3 (xr (xr slot _) _) _ % _ = _ then _ else _) = _
  rw [xr_back slot _ hs.1, if_pos rfl]
theorem read_gone (q r pa pb ca cb na nb a b kind f0 f1 f2 f3 slot : Int) (hs : 0 ≤ slot ∧ slot < 64) (he : 0 ≤ q ∧ q < 4) (hk : Own.keyOf r pa pb ca cb na nb q = (0, 0, false)) : readN r pa pb ca cb na nb kind f0 f1 f2 f3 (cookN a b kind f0 f1 f2 f3 slot q) = (0, false) := by
  obtain ⟨h1, h2, h3, h4, h5⟩ := cook_parts a b kind f0 f1 f2 f3 slot q he hs
  unfold readN
  rw [if_neg (by omega), h3, hk, if_neg (by decide)]
theorem ages_j (k : Nat) (f g s n kind q pa pb ca cb na nb : Int) (hq : 0 < q ∧ q < 1073741824) (hk : kind = 1 ∨ kind = 2) : roundhouselaw5_CookieAges.j0 (k + 3) f g s n kind q pa pb ca cb na nb = some true := by
  obtain ⟨x, hx, x0, x1⟩ := within_ok s 64 (by decide) (by decide)
  obtain ⟨f0, f1, f2, f3, hf⟩ := flow_ex f g
  have e1 : wrap64 (q + 1) = q + 1 := by unfold wrap64; omega
  have e2 : wrap64 (q - 1) = q - 1 := by unfold wrap64; omega
  have e3 : wrap64 (q + 1 + 1) = q + 2 := by unfold wrap64; omega
  have k1 : ∀ a b : Int, Own.keyOf (q + 1) ca cb na nb a b (q % 4) = (ca, cb, true) := fun a b => by
    unfold Own.keyOf
    rw [turn_mod, turn_mod, if_pos (by unfold wrap64; omega)]
  have k2 : ∀ a b : Int, Own.keyOf (q - 1) a b pa pb ca cb (q % 4) = (ca, cb, true) := fun a b => by
    unfold Own.keyOf
    rw [turn_mod, turn_mod, turn_mod, turn_mod, if_neg (by unfold wrap64; omega), if_neg (by omega), if_pos (by unfold wrap64; omega)]
  have k3 : ∀ a b c d : Int, Own.keyOf (q + 2) na nb a b c d (q % 4) = (0, 0, false) := fun a b c d => by
    unfold Own.keyOf
    rw [turn_mod, turn_mod, turn_mod, turn_mod, if_neg (by unfold wrap64; omega), if_neg (by omega), if_neg (by unfold wrap64; omega)]
  rw [roundhouselaw5_CookieAges.j0]
  refine bind_ok hx (bind_ok hf (bind_ok (make_f (k + 1) q pa pb ca cb na nb kind f0 f1 f2 f3 x hk ⟨x0, x1⟩) (bind_ok rfl (bind_ok rfl (bind_ok hf (bind_ok (read_f k (wrap64 (q + 1)) ca cb na nb _ _ kind f0 f1 f2 f3 _ (by rw [e1]; omega) hk) (bind_ok rfl (bind_ok hf (bind_ok (read_f k (wrap64 (q - 1)) _ _ pa pb ca cb kind f0 f1 f2 f3 _ (by rw [e2]; omega) hk) (bind_ok rfl (bind_ok rfl (bind_ok hf (bind_ok (read_f k (wrap64 (wrap64 (q + 1) + 1)) na nb _ _ _ _ kind f0 f1 f2 f3 _ (by rw [e1, e3]; omega) hk) ?_)))))))))))))
  simp only [e1, e2, e3]
  rw [read_by (q % 4) (q + 1) ca cb na nb _ _ ca cb kind f0 f1 f2 f3 x ⟨x0, x1⟩ (by omega) (k1 _ _), read_by (q % 4) (q - 1) _ _ pa pb ca cb ca cb kind f0 f1 f2 f3 x ⟨x0, x1⟩ (by omega) (k2 _ _), read_gone (q % 4) (q + 2) na nb _ _ _ _ ca cb kind f0 f1 f2 f3 x ⟨x0, x1⟩ (by omega) (k3 _ _ _ _)]
  rw [if_pos rfl, if_pos rfl, if_pos rfl, if_pos rfl, if_neg (by decide), if_pos trivial, if_pos (by simp), if_pos (by simp)]
  refine bind_ok rfl ?_
  simp
theorem CookieAges : roundhouselaw5_CookieAges.Pure := by
  intro a0 a1 a2 a3 a4 a5 a6 _ _ _ _ _ _
  obtain ⟨t, ht, t0, t1⟩ := within_ok a0 1048576 (by decide) (by decide)
  obtain ⟨r, hr, r0, r1⟩ := within_ok (wrap64 (1 + t)) 1073741824 (by decide) (by decide)
  have er : roundhouselaw5_within.f (wrap64 (1 + t)) 1073741824 = some (1 + t) := by
    unfold roundhouselaw5_within.f
    rw [show wrap64 (1 + t) = 1 + t from by unfold wrap64; omega, if_neg (by decide), Int.tmod_eq_of_lt (by omega) (by omega), if_neg (by omega)]
  obtain rfl : 1 + t = r := Option.some.inj (er.symm.trans hr)
  refine ⟨52, ?_⟩
  unfold roundhouselaw5_CookieAges.f
  refine bind_ok (known_ok 52 (by decide)) ?_
  rw [if_pos rfl]
  refine bind_ok ht (bind_ok (bind_ok hr (bind_ok rfl (bind_ok rfl (bind_ok rfl (bind_ok rfl rfl))))) ?_)
  cases a2 with
  | true => rw [if_pos rfl]; exact ages_j 49 _ _ _ _ 1 _ _ _ _ _ _ _ ⟨by show 0 < 1 + t; omega, by show 1 + t < _; omega⟩ (.inl rfl)
  | false => rw [if_neg (by decide)]; exact ages_j 49 _ _ _ _ 2 _ _ _ _ _ _ _ ⟨by show 0 < 1 + t; omega, by show 1 + t < _; omega⟩ (.inr rfl)
end Go.Proofs.Ytnaplobnkmdfbaa.Pure
