/- By a program of this session (wip/tools/myprint.py), out of the translation: for each Go function a plain Lean function, and that the call comes to what that function says; a law's row out of its plain statement. Lean checks it. -/
import Derived.Test.YtnaplobnkmdfbaaCookG
import Derived.Test.YtnaplobnkmdfbaaQ0
import Derived.Test.YtnaplobnkmdfbaaQ25
import Derived.Test.YtnaplobnkmdfbaaQ61
namespace Go.Proofs.Ytnaplobnkmdfbaa.Q
open Go.RowKit Go.Proofs.YtnaplobnkmdfbaaW.PrintWords Go.Proofs.YtnaplobnkmdfbaaW.PrintLast Go.Proofs.YtnaplobnkmdfbaaW.PrintMore
attribute [local go_sem] max2_int min2_int max_two min_two max_three min_three max_four min_four   -- for this text's walks alone
set_option linter.unusedVariables false
set_option linter.unusedSimpArgs false

open Go.Proofs.Ytnaplobnkmdfbaa.Own
/-! ### cookie_Back: function 38 -/
def cookie_Back.f (a0 : Int) (a1 : Int) : Option (Int) := (cookie_Get.f a0).bind fun bt556 => ((opts_Far.f (Go.bits .and .u32 (Go.bits .andNot .u32 a1 255) 1048575) ((((bt556.1) % 4294967296) * 256) % 4294967296)).bind fun t558 => (if t558 ≥ 524288 then (some (((Go.bits .andNot .u32 a1 255) + ((wrap64 (t558 - 1048576)) % 4294967296)) % 4294967296)) else (if t558 < (-524288) then (some (((Go.bits .andNot .u32 a1 255) + ((wrap64 (t558 + 1048576)) % 4294967296)) % 4294967296)) else (some (((Go.bits .andNot .u32 a1 255) + ((t558) % 4294967296)) % 4294967296)))))
set_option maxHeartbeats 8000000 in
set_option maxRecDepth 100000 in
theorem cookie_Back.calls (a0 : Int) (a1 : Int) (r : Int) (w : World) (h : cookie_Back.f a0 a1 = some r) :
    Calls Try.prog 38 #[.int .u32 a0, .int .u32 a1] w fun e w' => e = .returned (.int .u32 r) ∧ Drawn0 w w' := by
  have H : ((cookie_Get.f a0).bind fun bt556 => ((opts_Far.f (Go.bits .and .u32 (Go.bits .andNot .u32 a1 255) 1048575) ((((bt556.1) % 4294967296) * 256) % 4294967296)).bind fun t558 => (if t558 ≥ 524288 then (some (((Go.bits .andNot .u32 a1 255) + ((wrap64 (t558 - 1048576)) % 4294967296)) % 4294967296)) else (if t558 < (-524288) then (some (((Go.bits .andNot .u32 a1 255) + ((wrap64 (t558 + 1048576)) % 4294967296)) % 4294967296)) else (some (((Go.bits .andNot .u32 a1 255) + ((t558) % 4294967296)) % 4294967296)))))) = some r := h
  clear h
  replace H := Option.bind_eq_some_iff.mp H
  obtain ⟨⟨t556, t557⟩, A30, H⟩ := H
  replace H : ((opts_Far.f (Go.bits .and .u32 (Go.bits .andNot .u32 a1 255) 1048575) ((((t556) % 4294967296) * 256) % 4294967296)).bind fun t558 => (if t558 ≥ 524288 then (some (((Go.bits .andNot .u32 a1 255) + ((wrap64 (t558 - 1048576)) % 4294967296)) % 4294967296)) else (if t558 < (-524288) then (some (((Go.bits .andNot .u32 a1 255) + ((wrap64 (t558 + 1048576)) % 4294967296)) % 4294967296)) else (some (((Go.bits .andNot .u32 a1 255) + ((t558) % 4294967296)) % 4294967296))))) = some r := H
  have A3 := Aside0.mk A30
  clear A30
  replace H := Option.bind_eq_some_iff.mp H
  obtain ⟨t558, A40, H⟩ := H
  replace H : (if t558 ≥ 524288 then (some (((Go.bits .andNot .u32 a1 255) + ((wrap64 (t558 - 1048576)) % 4294967296)) % 4294967296)) else (if t558 < (-524288) then (some (((Go.bits .andNot .u32 a1 255) + ((wrap64 (t558 + 1048576)) % 4294967296)) % 4294967296)) else (some (((Go.bits .andNot .u32 a1 255) + ((t558) % 4294967296)) % 4294967296)))) = some r := H
  have A4 := Aside0.mk A40
  clear A40
  by_cases c5 : t558 ≥ 524288
  · rw [if_pos c5] at H
    have c5b0 : decide (524288 ≤ t558) = true := decide_eq_true c5
    clear c5
    obtain rfl := Option.some.inj H
    go_enter Try.func38, Try.ntmps38
    go_wp2_with (first | ((with_reducible refine gate_callee (f := 32) rfl ?_); refine goesL_ (some 11) rfl rfl Try.func32 (by kernel_rfl) rfl #[.int .u32 a0] rfl (by (try simp only [List.map_toArray, List.map_cons, List.map_nil]); first | done | rfl | (simp only [List.length_drop, List.length_take]; rfl)) ?_; (with_reducible refine (cookie_Get.calls a0 t556 t557 _ A3.out).mono ?_); rintro e w' ⟨rfl, ⟨nd, rfl⟩⟩; refine ⟨_, rfl, ?_⟩) | ((with_reducible refine gate_callee (f := 52) rfl ?_); refine goesL_ (some 22) rfl rfl Try.func52 (by kernel_rfl) rfl #[.int .u32 (Go.bits .and .u32 (Go.bits .andNot .u32 a1 255) 1048575), .int .u32 ((((t556) % 4294967296) * 256) % 4294967296)] rfl (by (try simp only [List.map_toArray, List.map_cons, List.map_nil]); first | done | rfl | (simp only [List.length_drop, List.length_take]; rfl)) ?_; (with_reducible refine (opts_Far.calls (Go.bits .and .u32 (Go.bits .andNot .u32 a1 255) 1048575) ((((t556) % 4294967296) * 256) % 4294967296) t558 _ A4.out).mono ?_); rintro e w' ⟨rfl, ⟨nd, rfl⟩⟩; refine ⟨_, rfl, ?_⟩))
    go_ret
    exact ⟨by first | rfl | (simp; done) | (simp [*]; done), by repeat (first | exact Drawn0.refl _ | apply Drawn0.step)⟩
  · rw [if_neg c5] at H
    have c5b0 : decide (524288 ≤ t558) = false := decide_eq_false c5
    clear c5
    by_cases c6 : t558 < (-524288)
    · rw [if_pos c6] at H
      have c6b0 : decide (t558 < (-524288)) = true := decide_eq_true c6
      clear c6
      obtain rfl := Option.some.inj H
      go_enter Try.func38, Try.ntmps38
      go_wp2_with (first | ((with_reducible refine gate_callee (f := 32) rfl ?_); refine goesL_ (some 11) rfl rfl Try.func32 (by kernel_rfl) rfl #[.int .u32 a0] rfl (by (try simp only [List.map_toArray, List.map_cons, List.map_nil]); first | done | rfl | (simp only [List.length_drop, List.length_take]; rfl)) ?_; (with_reducible refine (cookie_Get.calls a0 t556 t557 _ A3.out).mono ?_); rintro e w' ⟨rfl, ⟨nd, rfl⟩⟩; refine ⟨_, rfl, ?_⟩) | ((with_reducible refine gate_callee (f := 52) rfl ?_); refine goesL_ (some 22) rfl rfl Try.func52 (by kernel_rfl) rfl #[.int .u32 (Go.bits .and .u32 (Go.bits .andNot .u32 a1 255) 1048575), .int .u32 ((((t556) % 4294967296) * 256) % 4294967296)] rfl (by (try simp only [List.map_toArray, List.map_cons, List.map_nil]); first | done | rfl | (simp only [List.length_drop, List.length_take]; rfl)) ?_; (with_reducible refine (opts_Far.calls (Go.bits .and .u32 (Go.bits .andNot .u32 a1 255) 1048575) ((((t556) % 4294967296) * 256) % 4294967296) t558 _ A4.out).mono ?_); rintro e w' ⟨rfl, ⟨nd, rfl⟩⟩; refine ⟨_, rfl, ?_⟩))
      go_ret
      exact ⟨by first | rfl | (simp; done) | (simp [*]; done), by repeat (first | exact Drawn0.refl _ | apply Drawn0.step)⟩
    · rw [if_neg c6] at H
      have c6b0 : decide (t558 < (-524288)) = false := decide_eq_false c6
      clear c6
      obtain rfl := Option.some.inj H
      go_enter Try.func38, Try.ntmps38
      go_wp2_with (first | ((with_reducible refine gate_callee (f := 32) rfl ?_); refine goesL_ (some 11) rfl rfl Try.func32 (by kernel_rfl) rfl #[.int .u32 a0] rfl (by (try simp only [List.map_toArray, List.map_cons, List.map_nil]); first | done | rfl | (simp only [List.length_drop, List.length_take]; rfl)) ?_; (with_reducible refine (cookie_Get.calls a0 t556 t557 _ A3.out).mono ?_); rintro e w' ⟨rfl, ⟨nd, rfl⟩⟩; refine ⟨_, rfl, ?_⟩) | ((with_reducible refine gate_callee (f := 52) rfl ?_); refine goesL_ (some 22) rfl rfl Try.func52 (by kernel_rfl) rfl #[.int .u32 (Go.bits .and .u32 (Go.bits .andNot .u32 a1 255) 1048575), .int .u32 ((((t556) % 4294967296) * 256) % 4294967296)] rfl (by (try simp only [List.map_toArray, List.map_cons, List.map_nil]); first | done | rfl | (simp only [List.length_drop, List.length_take]; rfl)) ?_; (with_reducible refine (opts_Far.calls (Go.bits .and .u32 (Go.bits .andNot .u32 a1 255) 1048575) ((((t556) % 4294967296) * 256) % 4294967296) t558 _ A4.out).mono ?_); rintro e w' ⟨rfl, ⟨nd, rfl⟩⟩; refine ⟨_, rfl, ?_⟩))
      go_ret
      exact ⟨by first | rfl | (simp; done) | (simp [*]; done), by repeat (first | exact Drawn0.refl _ | apply Drawn0.step)⟩

end Go.Proofs.Ytnaplobnkmdfbaa.Q
