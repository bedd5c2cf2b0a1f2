/- By a program of this session (wip/tools/myprint.py), out of the translation: for each Go function a plain Lean function, and that the call comes to what that function says; a law's row out of its plain statement. Lean checks it. -/
import Derived.Test.YtnaplobnkmdfbaaCookG
import Derived.Test.YtnaplobnkmdfbaaQ0
namespace Go.Proofs.Ytnaplobnkmdfbaa.Q
open Go.RowKit Go.Proofs.YtnaplobnkmdfbaaW.PrintWords Go.Proofs.YtnaplobnkmdfbaaW.PrintLast Go.Proofs.YtnaplobnkmdfbaaW.PrintMore
attribute [local go_sem] max2_int min2_int max_two min_two max_three min_three max_four min_four   -- for this text's walks alone
set_option linter.unusedVariables false
set_option linter.unusedSimpArgs false

open Go.Proofs.Ytnaplobnkmdfbaa.Own
/-! ### roundhouseref5_bits: function 48 -/
def roundhouseref5_bits.f (a0 : Int) : Option (Int) := if a0 = 1 then (some 12) else (some 8)
set_option maxHeartbeats 8000000 in
set_option maxRecDepth 100000 in
theorem roundhouseref5_bits.calls (a0 : Int) (r : Int) (w : World) (h : roundhouseref5_bits.f a0 = some r) :
    Calls Try.prog 48 #[.int .i64 a0] w fun e w' => e = .returned (.int .u64 r) ∧ Drawn0 w w' := by
  have H : (if a0 = 1 then (some 12) else (some 8)) = some r := h
  clear h
  by_cases c2 : a0 = 1
  · rw [if_pos c2] at H
    have c2b0 : (a0 == 1) = true := beq_iff_eq.mpr c2
    have c2b1 : (a0 != 1) = false := bne_eq_false_iff_eq.mpr c2
    clear c2
    obtain rfl := Option.some.inj H
    go_enter Try.func48, Try.ntmps48
    go_wp2
    go_ret
    exact ⟨by first | rfl | (simp; done) | (simp [*]; done), by repeat (first | exact Drawn0.refl _ | apply Drawn0.step)⟩
  · rw [if_neg c2] at H
    have c2b0 : (a0 == 1) = false := beq_eq_false_iff_ne.mpr c2
    have c2b1 : (a0 != 1) = true := bne_iff_ne.mpr c2
    obtain rfl := Option.some.inj H
    go_enter Try.func48, Try.ntmps48
    go_wp2
    go_ret
    exact ⟨by first | rfl | (simp; done) | (simp [*]; done), by repeat (first | exact Drawn0.refl _ | apply Drawn0.step)⟩

end Go.Proofs.Ytnaplobnkmdfbaa.Q
