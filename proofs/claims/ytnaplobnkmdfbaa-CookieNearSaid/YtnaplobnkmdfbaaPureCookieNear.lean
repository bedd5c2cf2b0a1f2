/-
  CookieNear: what is brought back has no lowest bits, its coarse part, and is near.
-/
import Derived.Test.YtnaplobnkmdfbaaCookN
import Derived.Test.YtnaplobnkmdfbaaQ65
namespace Go.Proofs.Ytnaplobnkmdfbaa.Pure
open Go.RowKit Go.Proofs.Ytnaplobnkmdfbaa.Q Go.Proofs.YtnaplobnkmdfbaaW.PrintWords Go.Proofs.YtnaplobnkmdfbaaW.PrintMore Go.Proofs.YtnaplobnkmdfbaaW.PrintLast Go.Proofs.Ytnaplobnkmdfbaa.Own
set_option linter.unusedVariables false
set_option linter.unusedSimpArgs false

theorem back_range (v n : Int) : 0 ≤ backN v n ∧ backN v n < 4294967296 := by
  unfold backN
  split <;> omega
theorem CookieNear : roundhouselaw5_CookieNear.Pure := by
  intro v n hv hn
  have hv := u32_of hv
  have hn := u32_of hn
  obtain ⟨k, _, hk⟩ := known_ex 0
  refine ⟨k + 1, ?_⟩
  unfold roundhouselaw5_CookieNear.f
  refine bind_ok hk ?_
  rw [if_pos rfl]
  refine bind_ok (back_f v n hv hn) (bind_ok (get_f v hv) (bind_ok (far_f _ _) ?_))
  have hr := back_range v n
  rw [u32_high n hn.1 hn.2, u32_255 _ hr.1 hr.2, u32_4095 _ (by omega) (by omega)]
  have e : backN v n % 1048576 = v / 1048576 * 256 ∧ farN (n - n % 256) (backN v n) ≥ -524288 ∧ farN (n - n % 256) (backN v n) < 524288 := by
    unfold farN backN
    split <;> omega
  rw [if_pos (by omega), if_pos (by show wrap64 _ = v / 1048576; unfold wrap64; omega), if_pos e.2.1, decide_eq_true e.2.2]
end Go.Proofs.Ytnaplobnkmdfbaa.Pure
