/-
  CookieOrder: of two stamps, the later one not too far ahead, the later is not less, as stamps, whatever their cookies say.
-/
import Derived.Test.YtnaplobnkmdfbaaCookN
import Derived.Test.YtnaplobnkmdfbaaQ53
namespace Go.Proofs.Ytnaplobnkmdfbaa.Pure
open Go.RowKit Go.Proofs.Ytnaplobnkmdfbaa.Q Go.Proofs.YtnaplobnkmdfbaaW.PrintWords Go.Proofs.YtnaplobnkmdfbaaW.PrintMore Go.Proofs.YtnaplobnkmdfbaaW.PrintLast Go.Proofs.Ytnaplobnkmdfbaa.Own
set_option linter.unusedVariables false
set_option linter.unusedSimpArgs false

theorem less_f (a b : Int) : roundhouseref4_Less.f a b = some (decide (farN a b > 0)) := bind_ok (far_f a b) rfl
theorem put_range (v c : Int) (hc : 0 ≤ c ∧ c < 1048576) : 0 ≤ putN v c ∧ putN v c < 4294967296 := by
  unfold putN
  omega
theorem CookieOrder : roundhouselaw5_CookieOrder.Pure := by
  intro v by_ c d hv hb hc hd
  have hv := u32_of hv
  obtain ⟨x, hx, x0, x1⟩ := within_ok c 1048576 (by decide) (by decide)
  obtain ⟨y, hy, y0, y1⟩ := within_ok d 1048576 (by decide) (by decide)
  obtain ⟨n, hn, n0, n1⟩ := within_ok by_ 524032 (by decide) (by decide)
  obtain ⟨k, _, hk⟩ := known_ex 0
  refine ⟨k + 1, ?_⟩
  unfold roundhouselaw5_CookieOrder.f
  refine bind_ok hk ?_
  rw [if_pos rfl]
  have hp := put_range v x ⟨x0, x1⟩
  have hq := put_range ((v + n % 4294967296) % 4294967296) y ⟨y0, y1⟩
  refine bind_ok hx (bind_ok hy (bind_ok hn (bind_ok (put_f v x hv ⟨x0, x1⟩) (bind_ok (put_f _ y (by omega) ⟨y0, y1⟩) (bind_ok (get_f _ hp) (bind_ok (get_f _ hq) ?_))))))
  show (if putN v x / 1048576 = putN ((v + n % 4294967296) % 4294967296) y / 1048576 then _ else _) = _
  by_cases h : putN v x / 1048576 = putN ((v + n % 4294967296) % 4294967296) y / 1048576
  · rw [if_pos h]
    refine bind_ok (less_f _ _) ?_
    have e : (farN (putN v x) (putN ((v + n % 4294967296) % 4294967296) y) > 0) ↔ x < y := by
      unfold farN
      unfold putN at *
      omega
    rw [show decide (farN (putN v x) (putN ((v + n % 4294967296) % 4294967296) y) > 0) = decide (x < y) from decide_eq_decide.2 e]
    simp
  · rw [if_neg h]
    have e1 : farN (putN v x) (putN ((v + n % 4294967296) % 4294967296) y) > 0 := by
      unfold farN
      unfold putN at *
      omega
    have e2 : ¬ farN (putN ((v + n % 4294967296) % 4294967296) y) (putN v x) > 0 := by
      unfold farN
      unfold putN at *
      omega
    refine bind_ok (less_f _ _) ?_
    rw [decide_eq_true e1, if_pos rfl]
    refine bind_ok (less_f _ _) ?_
    rw [decide_eq_false e2]
    rfl
end Go.Proofs.Ytnaplobnkmdfbaa.Pure
