/-
  CookieReads: any number is read as the document says: a cookie's with a bit turned, of another flow, another ring, too.
-/
import Derived.Test.YtnaplobnkmdfbaaCookS
import Derived.Test.YtnaplobnkmdfbaaQReads
namespace Go.Proofs.Ytnaplobnkmdfbaa.Pure
open Go.RowKit Go.Proofs.Ytnaplobnkmdfbaa.Q Go.Proofs.YtnaplobnkmdfbaaW.PrintWords Go.Proofs.YtnaplobnkmdfbaaW.PrintMore Go.Proofs.YtnaplobnkmdfbaaW.PrintLast Go.Proofs.Ytnaplobnkmdfbaa.Own
set_option linter.unusedVariables false
set_option linter.unusedSimpArgs false

theorem reads_l0 (x0 x1 x3 x4 x8 kind q pa pb ca cb na nb : Int) (hq : 0 ≤ q ∧ q < 1073741824) (hk : kind = 1 ∨ kind = 2) (l : List Int) (hl : l.length ≤ 100) : ∀ (n k i : Nat), l.length = i + n → roundhouselaw5_CookieReads.l0 (k + n + 3) x0 x1 x3 x4 x8 kind l i q pa pb ca cb na nb = some true
  | 0, k, i, hi => by rw [roundhouselaw5_CookieReads.l0, if_neg (by omega)]
  | n + 1, k, i, hi => by
    obtain ⟨f0, f1, f2, f3, hf⟩ := flow_ex x3 x4
    obtain ⟨g0, g1, g2, g3, hg⟩ := flow_ex x3 (wrap64 (x4 + x8))
    obtain ⟨r, ra, rb, rc, rd', re, rf, hr, r0, r1⟩ := ring_ex (wrap64 (x0 + x8)) x1
    rw [show k + (n + 1) + 3 = (k + n + 1 + 2) + 1 from by omega, roundhouselaw5_CookieReads.l0, if_pos (by omega)]
    refine bind_ok hf ?_
    rw [if_pos (by omega)]
    refine bind_ok (read_f (k + n + 1) q pa pb ca cb na nb kind f0 f1 f2 f3 _ (by omega) hk) (bind_ok hf (bind_ok (rread_f (k + n + 1) q pa pb ca cb na nb kind f0 f1 f2 f3 _ hk) (bind_ok (hr (k + n + 2)) (bind_ok hg (bind_ok (read_f (k + n + 1) r ra rb rc rd' re rf kind g0 g1 g2 g3 _ (by omega) hk) (bind_ok (hr (k + n + 2)) (bind_ok hg (bind_ok (rread_f (k + n + 1) r ra rb rc rd' re rf kind g0 g1 g2 g3 _ hk) ?_))))))))
    rw [if_pos rfl, if_neg (by simp), if_pos rfl, if_neg (by simp), show wrap64 ((i : Int) + 1) = ((i + 1 : Nat) : Int) from by unfold wrap64; omega]
    have h := reads_l0 x0 x1 x3 x4 x8 kind q pa pb ca cb na nb hq hk l hl n k (i + 1) (by omega)
    rw [show k + n + 3 = k + n + 1 + 2 from by omega] at h
    exact h
theorem reads_j (k : Nat) (x0 x1 x3 x4 x5 x6 x7 x8 kind q pa pb ca cb na nb : Int) (hq : 0 ≤ q ∧ q < 1073741824) (hk : kind = 1 ∨ kind = 2) : roundhouselaw5_CookieReads.j0 (k + 12) x0 x1 x3 x4 x5 x6 x7 x8 kind q pa pb ca cb na nb = some true := by
  obtain ⟨x, hx, s0, s1⟩ := within_ok x5 64 (by decide) (by decide)
  obtain ⟨y, hy, y0, y1⟩ := within_ok x6 21 (by decide) (by decide)
  obtain ⟨z, hz, _⟩ := within_ok x7 1048576 (by decide) (by decide)
  obtain ⟨u, hu, _⟩ := within_ok x7 65536 (by decide) (by decide)
  obtain ⟨f0, f1, f2, f3, hf⟩ := flow_ex x3 x4
  rw [show k + 12 = (k + 11) + 1 from rfl, roundhouselaw5_CookieReads.j0]
  refine bind_ok hf (bind_ok hx (bind_ok (rmake_f (k + 10) q pa pb ca cb na nb kind f0 f1 f2 f3 x hk ⟨s0, s1⟩) (bind_ok hy ?_)))
  rw [if_pos (by rw [IntKind.wrap_u64]; omega)]
  refine bind_ok hz (bind_ok hu ?_)
  exact reads_l0 x0 x1 x3 x4 x8 kind q pa pb ca cb na nb hq hk _ (by show 8 ≤ 100; decide) 8 k 0 rfl
theorem CookieReads : roundhouselaw5_CookieReads.Pure := by
  intro a0 a1 a2 a3 a4 a5 a6 a7 a8 _ _ _ _ _ _ _ _
  obtain ⟨q, pa, pb, ca, cb, na, nb, hr, q0, q1⟩ := ring_ex a0 a1
  refine ⟨52, ?_⟩
  unfold roundhouselaw5_CookieReads.f
  refine bind_ok (known_ok 52 (by decide)) ?_
  rw [if_pos rfl]
  refine bind_ok (hr 51) ?_
  cases a2 with
  | true => rw [if_pos rfl]; exact reads_j 40 _ _ _ _ _ _ _ _ _ _ _ _ _ _ _ _ ⟨q0, q1⟩ (.inl rfl)
  | false => rw [if_neg (by decide)]; exact reads_j 40 _ _ _ _ _ _ _ _ _ _ _ _ _ _ _ _ ⟨q0, q1⟩ (.inr rfl)
end Go.Proofs.Ytnaplobnkmdfbaa.Pure
