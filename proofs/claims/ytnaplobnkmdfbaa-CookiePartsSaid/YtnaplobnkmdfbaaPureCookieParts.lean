/-
  CookieParts: a cookie's highest bits are its epoch's, its lowest its tag's, as chapter 2 makes it.
-/
import Derived.Test.YtnaplobnkmdfbaaCookS
import Derived.Test.YtnaplobnkmdfbaaQ55
namespace Go.Proofs.Ytnaplobnkmdfbaa.Pure
open Go.RowKit Go.Proofs.Ytnaplobnkmdfbaa.Q Go.Proofs.YtnaplobnkmdfbaaW.PrintWords Go.Proofs.YtnaplobnkmdfbaaW.PrintMore Go.Proofs.YtnaplobnkmdfbaaW.PrintLast Go.Proofs.Ytnaplobnkmdfbaa.Own
set_option linter.unusedVariables false
set_option linter.unusedSimpArgs false

theorem u64_in' (x : Int) (h0 : 0 ≤ x) (h : x < 18446744073709551616) : IntKind.u64.wrap x = x := by rw [IntKind.wrap_u64]; omega
theorem u64_xr (a b : Int) (h0 : 0 ≤ a) (h1 : a < 64) (h2 : 0 ≤ b) (h3 : b < 64) : Go.bits .xor .u64 a b = xr a b := by
  obtain ⟨x, rfl⟩ := Int.eq_ofNat_of_zero_le h0
  obtain ⟨y, rfl⟩ := Int.eq_ofNat_of_zero_le h2
  exact u64_xor_nat x y (by omega) (by omega)
theorem rwords_f (k : Nat) (a b kind f0 f1 f2 f3 x e : Int) : roundhouseref2_Words.f (k + 1) a b [kind, f0, f1, f2, f3, x, e] = some (sumN a b kind f0 f1 f2 f3 x e) := show (if 7 ≤ 1048576 then some _ else none) = _ from if_pos (by decide)
theorem parts_j (k : Nat) (f g s kind t q pa pb ca cb na nb : Int) (hq : 0 ≤ q ∧ q < 1073741824) (hk : kind = 1 ∧ t = 12 ∨ kind = 2 ∧ t = 8) : roundhouselaw5_CookieParts.j0 (k + 2) f g s kind t q pa pb ca cb na nb = some true := by
  obtain ⟨x, hx, x0, x1⟩ := within_ok s 64 (by decide) (by decide)
  obtain ⟨f0, f1, f2, f3, hf⟩ := flow_ex f g
  have e2 : Int.tmod q 4 = q % 4 := Int.tmod_eq_emod_of_nonneg hq.1
  rw [roundhouselaw5_CookieParts.j0, e2]
  have hw := sum_range ca cb kind f0 f1 f2 f3 64 (q % 4)
  have hw2 := sum_range ca cb kind f0 f1 f2 f3 x (q % 4)
  obtain ⟨p1, p2', p3, p4, p5⟩ := cook_parts ca cb kind f0 f1 f2 f3 x (q % 4) (by omega) ⟨x0, x1⟩
  refine bind_ok hf (bind_ok hx (bind_ok (make_f k q pa pb ca cb na nb kind f0 f1 f2 f3 x (by omega) ⟨x0, x1⟩) (bind_ok (rwords_f k ca cb kind f0 f1 f2 f3 x (q % 4)) (bind_ok (rwords_f k ca cb kind f0 f1 f2 f3 64 (q % 4)) ?_))))
  have hm := mod_in (sumN ca cb kind f0 f1 f2 f3 64 (q % 4)) 64 (by decide)
  rw [u64_in' x x0 (by omega), u64_63 _ hw.1 hw.2, u64_xr x _ x0 x1 hm.1 hm.2, ← p4]
  rcases hk with ⟨rfl, rfl⟩ | ⟨rfl, rfl⟩
  · rw [show p2 1 = 4096 from rfl] at p2' p3 p4 p5 ⊢
    generalize cookN ca cb 1 f0 f1 f2 f3 x (q % 4) = c at *
    rw [show IntKind.u64.wrap (6 + 12) = 18 from by decide, if_pos (by decide), shr18, if_pos (by omega), if_pos (by decide), show IntKind.u64.wrap ((shl .u64 1 12) - 1) = 4095 from by decide, u64_in' c p1 (by omega), u64_4095 c p1 (by omega), u64_4095 _ hw2.1 hw2.2, if_pos p5, shr12, and63, u64_in' _ (by omega) (by omega)]
    simp
  · rw [show p2 2 = 256 from rfl] at p2' p3 p4 p5 ⊢
    generalize cookN ca cb 2 f0 f1 f2 f3 x (q % 4) = c at *
    rw [show IntKind.u64.wrap (6 + 8) = 14 from by decide, if_pos (by decide), shr14, if_pos (by omega), if_pos (by decide), show IntKind.u64.wrap ((shl .u64 1 8) - 1) = 255 from by decide, u64_in' c p1 (by omega), u64_255 c p1 (by omega), u64_255 _ hw2.1 hw2.2, if_pos p5, shr8, and63, u64_in' _ (by omega) (by omega)]
    simp
theorem CookieParts : roundhouselaw5_CookieParts.Pure := by
  intro a0 a1 a2 a3 a4 a5 _ _ _ _ _
  obtain ⟨q, pa, pb, ca, cb, na, nb, hr, q0, q1⟩ := ring_ex a0 a1
  obtain ⟨k, hk⟩ := known_five
  refine ⟨k + 5, ?_⟩
  unfold roundhouselaw5_CookieParts.f
  refine bind_ok hk ?_
  rw [if_pos rfl]
  refine bind_ok (hr (k + 4)) ?_
  cases a2 with
  | true => refine bind_ok (a := 1) rfl ?_; rw [if_pos rfl]; exact parts_j (k + 3) _ _ _ _ _ _ _ _ _ _ _ _ ⟨q0, q1⟩ (.inl ⟨rfl, rfl⟩)
  | false => refine bind_ok (a := 2) rfl ?_; rw [if_neg (by decide)]; exact parts_j (k + 3) _ _ _ _ _ _ _ _ _ _ _ _ ⟨q0, q1⟩ (.inr ⟨rfl, rfl⟩)
end Go.Proofs.Ytnaplobnkmdfbaa.Pure
