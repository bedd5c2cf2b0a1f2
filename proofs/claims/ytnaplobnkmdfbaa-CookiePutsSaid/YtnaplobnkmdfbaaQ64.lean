/- By a program of this session (wip/tools/myprint.py), out of the translation: for each Go function a plain Lean function, and that the call comes to what that function says; a law's row out of its plain statement. Lean checks it. -/
import Derived.Test.YtnaplobnkmdfbaaCookG
import Derived.Test.YtnaplobnkmdfbaaQ0
import Derived.Test.YtnaplobnkmdfbaaQ24
import Derived.Test.YtnaplobnkmdfbaaQ25
import Derived.Test.YtnaplobnkmdfbaaQ26
import Derived.Test.YtnaplobnkmdfbaaQ31
import Derived.Test.YtnaplobnkmdfbaaQ59
import Derived.Test.YtnaplobnkmdfbaaQ60
import Derived.Test.YtnaplobnkmdfbaaQ62
namespace Go.Proofs.Ytnaplobnkmdfbaa.Q
open Go.RowKit Go.Proofs.YtnaplobnkmdfbaaW.PrintWords Go.Proofs.YtnaplobnkmdfbaaW.PrintLast Go.Proofs.YtnaplobnkmdfbaaW.PrintMore
attribute [local go_sem] max2_int min2_int max_two min_two max_three min_three max_four min_four   -- for this text's walks alone
set_option linter.unusedVariables false
set_option linter.unusedSimpArgs false

open Go.Proofs.Ytnaplobnkmdfbaa.Own
/-! ### roundhouselaw5_CookiePuts: function 13 -/
def roundhouselaw5_CookiePuts.f (k : Nat) (a0 : Int) (a1 : Int) (a2 : Int) (a3 : Int) : Option (Bool) := (roundhouselaw5_known.f k).bind fun t559 => (if t559 = true then ((roundhouselaw5_within.f a1 1048576).bind fun t560 => ((cookie_Put.f a0 t560).bind fun t561 => ((cookie_Get.f t561).bind fun bt562 => ((cookie_Get.f a0).bind fun bt564 => ((roundhouseref5_Get.f a0).bind fun bt566 => ((roundhouselaw5_within.f a3 1048576).bind fun t568 => ((roundhouseref5_Put.f a0 t560).bind fun t569 => (if t561 = t569 then (if bt562.2 = t560 then (if bt562.1 = (wrap64 (Go.bits .and .u32 (a0 / 256) 4095)) then (if bt564.1 = bt566.1 then (if bt564.2 = bt566.2 then ((cookie_Back.f a0 a2).bind fun t570 => ((roundhouseref5_Back.f a0 a2).bind fun t571 => (if t570 = t571 then ((roundhouselaw5_within.f a3 1048576).bind fun t572 => (if t572 < 512 then (some true) else ((roundhouselaw5_within.f a3 1048576).bind fun t573 => (if t573 > 1047552 then (some true) else ((cookie_Back.f t561 ((a0 + ((wrap64 ((wrap64 (t568 - 524288)) + 256)) % 4294967296)) % 4294967296)).bind fun t574 => (some (t574 == (Go.bits .andNot .u32 a0 255)))))))) else (some false)))) else (some false)) else (some false)) else (some false)) else (some false)) else (some false))))))))) else (some false))
theorem roundhouselaw5_CookiePuts.mono : ∀ a0 a1 a2 a3 k, LeO (roundhouselaw5_CookiePuts.f k a0 a1 a2 a3) (roundhouselaw5_CookiePuts.f (k + 1) a0 a1 a2 a3) := by
  intro a0 a1 a2 a3 k
  unfold roundhouselaw5_CookiePuts.f
  repeat' first
      | (with_reducible exact roundhouselaw5_known.mono _)
      | (with_reducible exact LeO.refl _)
      | (with_reducible exact LeO.none _)
      | (with_reducible refine LeO.ite ?_ ?_)
      | (with_reducible refine LeO.bind ?_ (fun _ => ?_))
      | exact roundhouselaw5_known.mono _
      | exact LeO.none _
      | refine LeO.ite ?_ ?_
      | refine LeO.bind ?_ (fun _ => ?_)
set_option maxHeartbeats 8000000 in
set_option maxRecDepth 100000 in
theorem roundhouselaw5_CookiePuts.calls (k : Nat) (a0 : Int) (a1 : Int) (a2 : Int) (a3 : Int) (r : Bool) (w : World) (h : roundhouselaw5_CookiePuts.f k a0 a1 a2 a3 = some r) (hr_ : Aside0 (r = true)) :
    Calls Try.prog 13 #[.int .u32 a0, .int .i64 a1, .int .u32 a2, .int .i64 a3] w fun e w' => e = .returned (.bool r) ∧ Below w.heap.size w w' := by
  have HB := Aside0.mk (Below.refl w.heap.size w)
  have H : ((roundhouselaw5_known.f k).bind fun t559 => (if t559 = true then ((roundhouselaw5_within.f a1 1048576).bind fun t560 => ((cookie_Put.f a0 t560).bind fun t561 => ((cookie_Get.f t561).bind fun bt562 => ((cookie_Get.f a0).bind fun bt564 => ((roundhouseref5_Get.f a0).bind fun bt566 => ((roundhouselaw5_within.f a3 1048576).bind fun t568 => ((roundhouseref5_Put.f a0 t560).bind fun t569 => (if t561 = t569 then (if bt562.2 = t560 then (if bt562.1 = (wrap64 (Go.bits .and .u32 (a0 / 256) 4095)) then (if bt564.1 = bt566.1 then (if bt564.2 = bt566.2 then ((cookie_Back.f a0 a2).bind fun t570 => ((roundhouseref5_Back.f a0 a2).bind fun t571 => (if t570 = t571 then ((roundhouselaw5_within.f a3 1048576).bind fun t572 => (if t572 < 512 then (some true) else ((roundhouselaw5_within.f a3 1048576).bind fun t573 => (if t573 > 1047552 then (some true) else ((cookie_Back.f t561 ((a0 + ((wrap64 ((wrap64 (t568 - 524288)) + 256)) % 4294967296)) % 4294967296)).bind fun t574 => (some (t574 == (Go.bits .andNot .u32 a0 255)))))))) else (some false)))) else (some false)) else (some false)) else (some false)) else (some false)) else (some false))))))))) else (some false))) = some r := h
  clear h
  replace H := Option.bind_eq_some_iff.mp H
  obtain ⟨t559, A50, H⟩ := H
  replace H : (if t559 = true then ((roundhouselaw5_within.f a1 1048576).bind fun t560 => ((cookie_Put.f a0 t560).bind fun t561 => ((cookie_Get.f t561).bind fun bt562 => ((cookie_Get.f a0).bind fun bt564 => ((roundhouseref5_Get.f a0).bind fun bt566 => ((roundhouselaw5_within.f a3 1048576).bind fun t568 => ((roundhouseref5_Put.f a0 t560).bind fun t569 => (if t561 = t569 then (if bt562.2 = t560 then (if bt562.1 = (wrap64 (Go.bits .and .u32 (a0 / 256) 4095)) then (if bt564.1 = bt566.1 then (if bt564.2 = bt566.2 then ((cookie_Back.f a0 a2).bind fun t570 => ((roundhouseref5_Back.f a0 a2).bind fun t571 => (if t570 = t571 then ((roundhouselaw5_within.f a3 1048576).bind fun t572 => (if t572 < 512 then (some true) else ((roundhouselaw5_within.f a3 1048576).bind fun t573 => (if t573 > 1047552 then (some true) else ((cookie_Back.f t561 ((a0 + ((wrap64 ((wrap64 (t568 - 524288)) + 256)) % 4294967296)) % 4294967296)).bind fun t574 => (some (t574 == (Go.bits .andNot .u32 a0 255)))))))) else (some false)))) else (some false)) else (some false)) else (some false)) else (some false)) else (some false))))))))) else (some false)) = some r := H
  have A5 := Aside0.mk A50
  clear A50
  by_cases c6 : t559 = true
  · subst c6
    have H1 : ((roundhouselaw5_within.f a1 1048576).bind fun t560 => ((cookie_Put.f a0 t560).bind fun t561 => ((cookie_Get.f t561).bind fun bt562 => ((cookie_Get.f a0).bind fun bt564 => ((roundhouseref5_Get.f a0).bind fun bt566 => ((roundhouselaw5_within.f a3 1048576).bind fun t568 => ((roundhouseref5_Put.f a0 t560).bind fun t569 => (if t561 = t569 then (if bt562.2 = t560 then (if bt562.1 = (wrap64 (Go.bits .and .u32 (a0 / 256) 4095)) then (if bt564.1 = bt566.1 then (if bt564.2 = bt566.2 then ((cookie_Back.f a0 a2).bind fun t570 => ((roundhouseref5_Back.f a0 a2).bind fun t571 => (if t570 = t571 then ((roundhouselaw5_within.f a3 1048576).bind fun t572 => (if t572 < 512 then (some true) else ((roundhouselaw5_within.f a3 1048576).bind fun t573 => (if t573 > 1047552 then (some true) else ((cookie_Back.f t561 ((a0 + ((wrap64 ((wrap64 (t568 - 524288)) + 256)) % 4294967296)) % 4294967296)).bind fun t574 => (some (t574 == (Go.bits .andNot .u32 a0 255)))))))) else (some false)))) else (some false)) else (some false)) else (some false)) else (some false)) else (some false))))))))) = some r := by rw [if_pos rfl] at H; exact H
    clear H
    have H := H1
    clear H1
    replace H := Option.bind_eq_some_iff.mp H
    obtain ⟨t560, A70, H⟩ := H
    replace H : ((cookie_Put.f a0 t560).bind fun t561 => ((cookie_Get.f t561).bind fun bt562 => ((cookie_Get.f a0).bind fun bt564 => ((roundhouseref5_Get.f a0).bind fun bt566 => ((roundhouselaw5_within.f a3 1048576).bind fun t568 => ((roundhouseref5_Put.f a0 t560).bind fun t569 => (if t561 = t569 then (if bt562.2 = t560 then (if bt562.1 = (wrap64 (Go.bits .and .u32 (a0 / 256) 4095)) then (if bt564.1 = bt566.1 then (if bt564.2 = bt566.2 then ((cookie_Back.f a0 a2).bind fun t570 => ((roundhouseref5_Back.f a0 a2).bind fun t571 => (if t570 = t571 then ((roundhouselaw5_within.f a3 1048576).bind fun t572 => (if t572 < 512 then (some true) else ((roundhouselaw5_within.f a3 1048576).bind fun t573 => (if t573 > 1047552 then (some true) else ((cookie_Back.f t561 ((a0 + ((wrap64 ((wrap64 (t568 - 524288)) + 256)) % 4294967296)) % 4294967296)).bind fun t574 => (some (t574 == (Go.bits .andNot .u32 a0 255)))))))) else (some false)))) else (some false)) else (some false)) else (some false)) else (some false)) else (some false)))))))) = some r := H
    have A7 := Aside0.mk A70
    clear A70
    replace H := Option.bind_eq_some_iff.mp H
    obtain ⟨t561, A80, H⟩ := H
    replace H : ((cookie_Get.f t561).bind fun bt562 => ((cookie_Get.f a0).bind fun bt564 => ((roundhouseref5_Get.f a0).bind fun bt566 => ((roundhouselaw5_within.f a3 1048576).bind fun t568 => ((roundhouseref5_Put.f a0 t560).bind fun t569 => (if t561 = t569 then (if bt562.2 = t560 then (if bt562.1 = (wrap64 (Go.bits .and .u32 (a0 / 256) 4095)) then (if bt564.1 = bt566.1 then (if bt564.2 = bt566.2 then ((cookie_Back.f a0 a2).bind fun t570 => ((roundhouseref5_Back.f a0 a2).bind fun t571 => (if t570 = t571 then ((roundhouselaw5_within.f a3 1048576).bind fun t572 => (if t572 < 512 then (some true) else ((roundhouselaw5_within.f a3 1048576).bind fun t573 => (if t573 > 1047552 then (some true) else ((cookie_Back.f t561 ((a0 + ((wrap64 ((wrap64 (t568 - 524288)) + 256)) % 4294967296)) % 4294967296)).bind fun t574 => (some (t574 == (Go.bits .andNot .u32 a0 255)))))))) else (some false)))) else (some false)) else (some false)) else (some false)) else (some false)) else (some false))))))) = some r := H
    have A8 := Aside0.mk A80
    clear A80
    replace H := Option.bind_eq_some_iff.mp H
    obtain ⟨⟨t562, t563⟩, A90, H⟩ := H
    replace H : ((cookie_Get.f a0).bind fun bt564 => ((roundhouseref5_Get.f a0).bind fun bt566 => ((roundhouselaw5_within.f a3 1048576).bind fun t568 => ((roundhouseref5_Put.f a0 t560).bind fun t569 => (if t561 = t569 then (if t563 = t560 then (if t562 = (wrap64 (Go.bits .and .u32 (a0 / 256) 4095)) then (if bt564.1 = bt566.1 then (if bt564.2 = bt566.2 then ((cookie_Back.f a0 a2).bind fun t570 => ((roundhouseref5_Back.f a0 a2).bind fun t571 => (if t570 = t571 then ((roundhouselaw5_within.f a3 1048576).bind fun t572 => (if t572 < 512 then (some true) else ((roundhouselaw5_within.f a3 1048576).bind fun t573 => (if t573 > 1047552 then (some true) else ((cookie_Back.f t561 ((a0 + ((wrap64 ((wrap64 (t568 - 524288)) + 256)) % 4294967296)) % 4294967296)).bind fun t574 => (some (t574 == (Go.bits .andNot .u32 a0 255)))))))) else (some false)))) else (some false)) else (some false)) else (some false)) else (some false)) else (some false)))))) = some r := H
    have A9 := Aside0.mk A90
    clear A90
    replace H := Option.bind_eq_some_iff.mp H
    obtain ⟨⟨t564, t565⟩, A100, H⟩ := H
    replace H : ((roundhouseref5_Get.f a0).bind fun bt566 => ((roundhouselaw5_within.f a3 1048576).bind fun t568 => ((roundhouseref5_Put.f a0 t560).bind fun t569 => (if t561 = t569 then (if t563 = t560 then (if t562 = (wrap64 (Go.bits .and .u32 (a0 / 256) 4095)) then (if t564 = bt566.1 then (if t565 = bt566.2 then ((cookie_Back.f a0 a2).bind fun t570 => ((roundhouseref5_Back.f a0 a2).bind fun t571 => (if t570 = t571 then ((roundhouselaw5_within.f a3 1048576).bind fun t572 => (if t572 < 512 then (some true) else ((roundhouselaw5_within.f a3 1048576).bind fun t573 => (if t573 > 1047552 then (some true) else ((cookie_Back.f t561 ((a0 + ((wrap64 ((wrap64 (t568 - 524288)) + 256)) % 4294967296)) % 4294967296)).bind fun t574 => (some (t574 == (Go.bits .andNot .u32 a0 255)))))))) else (some false)))) else (some false)) else (some false)) else (some false)) else (some false)) else (some false))))) = some r := H
    have A10 := Aside0.mk A100
    clear A100
    replace H := Option.bind_eq_some_iff.mp H
    obtain ⟨⟨t566, t567⟩, A110, H⟩ := H
    replace H : ((roundhouselaw5_within.f a3 1048576).bind fun t568 => ((roundhouseref5_Put.f a0 t560).bind fun t569 => (if t561 = t569 then (if t563 = t560 then (if t562 = (wrap64 (Go.bits .and .u32 (a0 / 256) 4095)) then (if t564 = t566 then (if t565 = t567 then ((cookie_Back.f a0 a2).bind fun t570 => ((roundhouseref5_Back.f a0 a2).bind fun t571 => (if t570 = t571 then ((roundhouselaw5_within.f a3 1048576).bind fun t572 => (if t572 < 512 then (some true) else ((roundhouselaw5_within.f a3 1048576).bind fun t573 => (if t573 > 1047552 then (some true) else ((cookie_Back.f t561 ((a0 + ((wrap64 ((wrap64 (t568 - 524288)) + 256)) % 4294967296)) % 4294967296)).bind fun t574 => (some (t574 == (Go.bits .andNot .u32 a0 255)))))))) else (some false)))) else (some false)) else (some false)) else (some false)) else (some false)) else (some false)))) = some r := H
    have A11 := Aside0.mk A110
    clear A110
    replace H := Option.bind_eq_some_iff.mp H
    obtain ⟨t568, A120, H⟩ := H
    replace H : ((roundhouseref5_Put.f a0 t560).bind fun t569 => (if t561 = t569 then (if t563 = t560 then (if t562 = (wrap64 (Go.bits .and .u32 (a0 / 256) 4095)) then (if t564 = t566 then (if t565 = t567 then ((cookie_Back.f a0 a2).bind fun t570 => ((roundhouseref5_Back.f a0 a2).bind fun t571 => (if t570 = t571 then ((roundhouselaw5_within.f a3 1048576).bind fun t572 => (if t572 < 512 then (some true) else ((roundhouselaw5_within.f a3 1048576).bind fun t573 => (if t573 > 1047552 then (some true) else ((cookie_Back.f t561 ((a0 + ((wrap64 ((wrap64 (t568 - 524288)) + 256)) % 4294967296)) % 4294967296)).bind fun t574 => (some (t574 == (Go.bits .andNot .u32 a0 255)))))))) else (some false)))) else (some false)) else (some false)) else (some false)) else (some false)) else (some false))) = some r := H
    have A12 := Aside0.mk A120
    clear A120
    replace H := Option.bind_eq_some_iff.mp H
    obtain ⟨t569, A130, H⟩ := H
    replace H : (if t561 = t569 then (if t563 = t560 then (if t562 = (wrap64 (Go.bits .and .u32 (a0 / 256) 4095)) then (if t564 = t566 then (if t565 = t567 then ((cookie_Back.f a0 a2).bind fun t570 => ((roundhouseref5_Back.f a0 a2).bind fun t571 => (if t570 = t571 then ((roundhouselaw5_within.f a3 1048576).bind fun t572 => (if t572 < 512 then (some true) else ((roundhouselaw5_within.f a3 1048576).bind fun t573 => (if t573 > 1047552 then (some true) else ((cookie_Back.f t561 ((a0 + ((wrap64 ((wrap64 (t568 - 524288)) + 256)) % 4294967296)) % 4294967296)).bind fun t574 => (some (t574 == (Go.bits .andNot .u32 a0 255)))))))) else (some false)))) else (some false)) else (some false)) else (some false)) else (some false)) else (some false)) = some r := H
    have A13 := Aside0.mk A130
    clear A130
    by_cases c14 : t561 = t569
    · rw [if_pos c14] at H
      have c14b0 : (t561 == t569) = true := beq_iff_eq.mpr c14
      have c14b1 : (t561 != t569) = false := bne_eq_false_iff_eq.mpr c14
      clear c14
      by_cases c15 : t563 = t560
      · rw [if_pos c15] at H
        have c15b0 : (t563 == t560) = true := beq_iff_eq.mpr c15
        have c15b1 : (t563 != t560) = false := bne_eq_false_iff_eq.mpr c15
        clear c15
        by_cases c16 : t562 = (wrap64 (Go.bits .and .u32 (a0 / 256) 4095))
        · rw [if_pos c16] at H
          have c16b0 : (t562 == (wrap64 (Go.bits .and .u32 (a0 / 256) 4095))) = true := beq_iff_eq.mpr c16
          have c16b1 : (t562 != (wrap64 (Go.bits .and .u32 (a0 / 256) 4095))) = false := bne_eq_false_iff_eq.mpr c16
          clear c16
          by_cases c17 : t564 = t566
          · rw [if_pos c17] at H
            have c17b0 : (t564 == t566) = true := beq_iff_eq.mpr c17
            have c17b1 : (t564 != t566) = false := bne_eq_false_iff_eq.mpr c17
            clear c17
            by_cases c18 : t565 = t567
            · rw [if_pos c18] at H
              have c18b0 : (t565 == t567) = true := beq_iff_eq.mpr c18
              have c18b1 : (t565 != t567) = false := bne_eq_false_iff_eq.mpr c18
              clear c18
              replace H := Option.bind_eq_some_iff.mp H
              obtain ⟨t570, A190, H⟩ := H
              replace H : ((roundhouseref5_Back.f a0 a2).bind fun t571 => (if t570 = t571 then ((roundhouselaw5_within.f a3 1048576).bind fun t572 => (if t572 < 512 then (some true) else ((roundhouselaw5_within.f a3 1048576).bind fun t573 => (if t573 > 1047552 then (some true) else ((cookie_Back.f t561 ((a0 + ((wrap64 ((wrap64 (t568 - 524288)) + 256)) % 4294967296)) % 4294967296)).bind fun t574 => (some (t574 == (Go.bits .andNot .u32 a0 255)))))))) else (some false))) = some r := H
              have A19 := Aside0.mk A190
              clear A190
              replace H := Option.bind_eq_some_iff.mp H
              obtain ⟨t571, A200, H⟩ := H
              replace H : (if t570 = t571 then ((roundhouselaw5_within.f a3 1048576).bind fun t572 => (if t572 < 512 then (some true) else ((roundhouselaw5_within.f a3 1048576).bind fun t573 => (if t573 > 1047552 then (some true) else ((cookie_Back.f t561 ((a0 + ((wrap64 ((wrap64 (t568 - 524288)) + 256)) % 4294967296)) % 4294967296)).bind fun t574 => (some (t574 == (Go.bits .andNot .u32 a0 255)))))))) else (some false)) = some r := H
              have A20 := Aside0.mk A200
              clear A200
              by_cases c21 : t570 = t571
              · rw [if_pos c21] at H
                have c21b0 : (t570 == t571) = true := beq_iff_eq.mpr c21
                have c21b1 : (t570 != t571) = false := bne_eq_false_iff_eq.mpr c21
                clear c21
                replace H := Option.bind_eq_some_iff.mp H
                obtain ⟨t572, A220, H⟩ := H
                replace H : (if t572 < 512 then (some true) else ((roundhouselaw5_within.f a3 1048576).bind fun t573 => (if t573 > 1047552 then (some true) else ((cookie_Back.f t561 ((a0 + ((wrap64 ((wrap64 (t568 - 524288)) + 256)) % 4294967296)) % 4294967296)).bind fun t574 => (some (t574 == (Go.bits .andNot .u32 a0 255))))))) = some r := H
                have A22 := Aside0.mk A220
                clear A220
                by_cases c23 : t572 < 512
                · rw [if_pos c23] at H
                  have c23b0 : decide (t572 < 512) = true := decide_eq_true c23
                  clear c23
                  obtain rfl := Option.some.inj H
                  go_enter Try.func13, Try.ntmps13
                  go_wp2_with (first | ((with_reducible refine gate_callee (f := 16) rfl ?_); refine goesL_ (some 18) rfl rfl Try.func16 (by kernel_rfl) rfl #[] rfl (by (try simp only [List.map_toArray, List.map_cons, List.map_nil]); first | done | rfl | (simp only [List.length_drop, List.length_take]; rfl)) ?_; (with_reducible refine (roundhouselaw5_known.calls k  true _ A5.out).mono ?_); rintro e w24 ⟨rfl, hb⟩; refine ⟨_, rfl, ?_⟩; have n0_ := Aside0.mk (below_step (by repeat (first | (with_reducible first | exact HB.out | apply below_alloc | apply pw_below_drewN | apply below_drew1) | exact HB.out)) hb); clear HB; have HB := n0_; clear n0_; (try clear hb); (try clear hb2); (try clear hk); (try clear hi)) | ((with_reducible refine gate_callee (f := 18) rfl ?_); refine goesL_ (some 21) rfl rfl Try.func18 (by kernel_rfl) rfl #[.int .i64 a1, .int .i64 1048576] rfl (by (try simp only [List.map_toArray, List.map_cons, List.map_nil]); first | done | rfl | (simp only [List.length_drop, List.length_take]; rfl)) ?_; (with_reducible refine (roundhouselaw5_within.calls a1 1048576 t560 _ A7.out).mono ?_); rintro e w' ⟨rfl, ⟨nd, rfl⟩⟩; refine ⟨_, rfl, ?_⟩) | ((with_reducible refine gate_callee (f := 31) rfl ?_); refine goesL_ (some 24) rfl rfl Try.func31 (by kernel_rfl) rfl #[.int .u32 a0, .int .i64 t560] rfl (by (try simp only [List.map_toArray, List.map_cons, List.map_nil]); first | done | rfl | (simp only [List.length_drop, List.length_take]; rfl)) ?_; (with_reducible refine (cookie_Put.calls a0 t560 t561 _ A8.out).mono ?_); rintro e w' ⟨rfl, ⟨nd, rfl⟩⟩; refine ⟨_, rfl, ?_⟩) | ((with_reducible refine gate_callee (f := 32) rfl ?_); refine goesL_ (some 27) rfl rfl Try.func32 (by kernel_rfl) rfl #[.int .u32 t561] rfl (by (try simp only [List.map_toArray, List.map_cons, List.map_nil]); first | done | rfl | (simp only [List.length_drop, List.length_take]; rfl)) ?_; (with_reducible refine (cookie_Get.calls t561 t562 t563 _ A9.out).mono ?_); rintro e w' ⟨rfl, ⟨nd, rfl⟩⟩; refine ⟨_, rfl, ?_⟩) | ((with_reducible refine gate_callee (f := 32) rfl ?_); refine goesL_ (some 32) rfl rfl Try.func32 (by kernel_rfl) rfl #[.int .u32 a0] rfl (by (try simp only [List.map_toArray, List.map_cons, List.map_nil]); first | done | rfl | (simp only [List.length_drop, List.length_take]; rfl)) ?_; (with_reducible refine (cookie_Get.calls a0 t564 t565 _ A10.out).mono ?_); rintro e w' ⟨rfl, ⟨nd, rfl⟩⟩; refine ⟨_, rfl, ?_⟩) | ((with_reducible refine gate_callee (f := 36) rfl ?_); refine goesL_ (some 37) rfl rfl Try.func36 (by kernel_rfl) rfl #[.int .u32 a0] rfl (by (try simp only [List.map_toArray, List.map_cons, List.map_nil]); first | done | rfl | (simp only [List.length_drop, List.length_take]; rfl)) ?_; (with_reducible refine (roundhouseref5_Get.calls a0 t566 t567 _ A11.out).mono ?_); rintro e w' ⟨rfl, ⟨nd, rfl⟩⟩; refine ⟨_, rfl, ?_⟩) | ((with_reducible refine gate_callee (f := 18) rfl ?_); refine goesL_ (some 42) rfl rfl Try.func18 (by kernel_rfl) rfl #[.int .i64 a3, .int .i64 1048576] rfl (by (try simp only [List.map_toArray, List.map_cons, List.map_nil]); first | done | rfl | (simp only [List.length_drop, List.length_take]; rfl)) ?_; (with_reducible refine (roundhouselaw5_within.calls a3 1048576 t568 _ A12.out).mono ?_); rintro e w' ⟨rfl, ⟨nd, rfl⟩⟩; refine ⟨_, rfl, ?_⟩) | ((with_reducible refine gate_callee (f := 37) rfl ?_); refine goesL_ (some 50) rfl rfl Try.func37 (by kernel_rfl) rfl #[.int .u32 a0, .int .i64 t560] rfl (by (try simp only [List.map_toArray, List.map_cons, List.map_nil]); first | done | rfl | (simp only [List.length_drop, List.length_take]; rfl)) ?_; (with_reducible refine (roundhouseref5_Put.calls a0 t560 t569 _ A13.out).mono ?_); rintro e w' ⟨rfl, ⟨nd, rfl⟩⟩; refine ⟨_, rfl, ?_⟩) | (go_at_call 38; (with_reducible refine (cookie_Back.calls a0 a2 t570 _ A19.out).mono ?_); rintro e w' ⟨rfl, ⟨nd, rfl⟩⟩) | (go_at_call 39; (with_reducible refine (roundhouseref5_Back.calls a0 a2 t571 _ A20.out).mono ?_); rintro e w' ⟨rfl, ⟨nd, rfl⟩⟩) | (go_at_call 18; (with_reducible refine (roundhouselaw5_within.calls a3 1048576 t572 _ A22.out).mono ?_); rintro e w' ⟨rfl, ⟨nd, rfl⟩⟩))
                  go_ret
                  exact ⟨by first | rfl | (simp [errW_none, errW_some] <;> rfl) | (simp [*, errW_none, errW_some] <;> rfl), by repeat (first | (with_reducible first | exact HB.out | apply below_alloc | apply pw_below_drewN | apply below_drew1) | exact HB.out)⟩
                · rw [if_neg c23] at H
                  have c23b0 : decide (t572 < 512) = false := decide_eq_false c23
                  clear c23
                  replace H := Option.bind_eq_some_iff.mp H
                  obtain ⟨t573, A250, H⟩ := H
                  replace H : (if t573 > 1047552 then (some true) else ((cookie_Back.f t561 ((a0 + ((wrap64 ((wrap64 (t568 - 524288)) + 256)) % 4294967296)) % 4294967296)).bind fun t574 => (some (t574 == (Go.bits .andNot .u32 a0 255))))) = some r := H
                  have A25 := Aside0.mk A250
                  clear A250
                  by_cases c26 : t573 > 1047552
                  · rw [if_pos c26] at H
                    have c26b0 : decide (1047552 < t572) = true := decide_eq_true (by rw [← show t573 = t572 from Option.some.inj (A25.out.symm.trans A22.out)]; exact c26)
                    clear c26
                    obtain rfl := Option.some.inj H
                    go_enter Try.func13, Try.ntmps13
                    go_wp2_with (first | ((with_reducible refine gate_callee (f := 16) rfl ?_); refine goesL_ (some 18) rfl rfl Try.func16 (by kernel_rfl) rfl #[] rfl (by (try simp only [List.map_toArray, List.map_cons, List.map_nil]); first | done | rfl | (simp only [List.length_drop, List.length_take]; rfl)) ?_; (with_reducible refine (roundhouselaw5_known.calls k  true _ A5.out).mono ?_); rintro e w27 ⟨rfl, hb⟩; refine ⟨_, rfl, ?_⟩; have n0_ := Aside0.mk (below_step (by repeat (first | (with_reducible first | exact HB.out | apply below_alloc | apply pw_below_drewN | apply below_drew1) | exact HB.out)) hb); clear HB; have HB := n0_; clear n0_; (try clear hb); (try clear hb2); (try clear hk); (try clear hi)) | ((with_reducible refine gate_callee (f := 18) rfl ?_); refine goesL_ (some 21) rfl rfl Try.func18 (by kernel_rfl) rfl #[.int .i64 a1, .int .i64 1048576] rfl (by (try simp only [List.map_toArray, List.map_cons, List.map_nil]); first | done | rfl | (simp only [List.length_drop, List.length_take]; rfl)) ?_; (with_reducible refine (roundhouselaw5_within.calls a1 1048576 t560 _ A7.out).mono ?_); rintro e w' ⟨rfl, ⟨nd, rfl⟩⟩; refine ⟨_, rfl, ?_⟩) | ((with_reducible refine gate_callee (f := 31) rfl ?_); refine goesL_ (some 24) rfl rfl Try.func31 (by kernel_rfl) rfl #[.int .u32 a0, .int .i64 t560] rfl (by (try simp only [List.map_toArray, List.map_cons, List.map_nil]); first | done | rfl | (simp only [List.length_drop, List.length_take]; rfl)) ?_; (with_reducible refine (cookie_Put.calls a0 t560 t561 _ A8.out).mono ?_); rintro e w' ⟨rfl, ⟨nd, rfl⟩⟩; refine ⟨_, rfl, ?_⟩) | ((with_reducible refine gate_callee (f := 32) rfl ?_); refine goesL_ (some 27) rfl rfl Try.func32 (by kernel_rfl) rfl #[.int .u32 t561] rfl (by (try simp only [List.map_toArray, List.map_cons, List.map_nil]); first | done | rfl | (simp only [List.length_drop, List.length_take]; rfl)) ?_; (with_reducible refine (cookie_Get.calls t561 t562 t563 _ A9.out).mono ?_); rintro e w' ⟨rfl, ⟨nd, rfl⟩⟩; refine ⟨_, rfl, ?_⟩) | ((with_reducible refine gate_callee (f := 32) rfl ?_); refine goesL_ (some 32) rfl rfl Try.func32 (by kernel_rfl) rfl #[.int .u32 a0] rfl (by (try simp only [List.map_toArray, List.map_cons, List.map_nil]); first | done | rfl | (simp only [List.length_drop, List.length_take]; rfl)) ?_; (with_reducible refine (cookie_Get.calls a0 t564 t565 _ A10.out).mono ?_); rintro e w' ⟨rfl, ⟨nd, rfl⟩⟩; refine ⟨_, rfl, ?_⟩) | ((with_reducible refine gate_callee (f := 36) rfl ?_); refine goesL_ (some 37) rfl rfl Try.func36 (by kernel_rfl) rfl #[.int .u32 a0] rfl (by (try simp only [List.map_toArray, List.map_cons, List.map_nil]); first | done | rfl | (simp only [List.length_drop, List.length_take]; rfl)) ?_; (with_reducible refine (roundhouseref5_Get.calls a0 t566 t567 _ A11.out).mono ?_); rintro e w' ⟨rfl, ⟨nd, rfl⟩⟩; refine ⟨_, rfl, ?_⟩) | ((with_reducible refine gate_callee (f := 18) rfl ?_); refine goesL_ (some 42) rfl rfl Try.func18 (by kernel_rfl) rfl #[.int .i64 a3, .int .i64 1048576] rfl (by (try simp only [List.map_toArray, List.map_cons, List.map_nil]); first | done | rfl | (simp only [List.length_drop, List.length_take]; rfl)) ?_; (with_reducible refine (roundhouselaw5_within.calls a3 1048576 t568 _ A12.out).mono ?_); rintro e w' ⟨rfl, ⟨nd, rfl⟩⟩; refine ⟨_, rfl, ?_⟩) | ((with_reducible refine gate_callee (f := 37) rfl ?_); refine goesL_ (some 50) rfl rfl Try.func37 (by kernel_rfl) rfl #[.int .u32 a0, .int .i64 t560] rfl (by (try simp only [List.map_toArray, List.map_cons, List.map_nil]); first | done | rfl | (simp only [List.length_drop, List.length_take]; rfl)) ?_; (with_reducible refine (roundhouseref5_Put.calls a0 t560 t569 _ A13.out).mono ?_); rintro e w' ⟨rfl, ⟨nd, rfl⟩⟩; refine ⟨_, rfl, ?_⟩) | (go_at_call 38; (with_reducible refine (cookie_Back.calls a0 a2 t570 _ A19.out).mono ?_); rintro e w' ⟨rfl, ⟨nd, rfl⟩⟩) | (go_at_call 39; (with_reducible refine (roundhouseref5_Back.calls a0 a2 t571 _ A20.out).mono ?_); rintro e w' ⟨rfl, ⟨nd, rfl⟩⟩) | (go_at_call 18; (with_reducible refine (roundhouselaw5_within.calls a3 1048576 t572 _ A22.out).mono ?_); rintro e w' ⟨rfl, ⟨nd, rfl⟩⟩) | (go_at_call 18; (with_reducible refine (roundhouselaw5_within.calls a3 1048576 t573 _ A25.out).mono ?_); rintro e w' ⟨rfl, ⟨nd, rfl⟩⟩))
                    go_ret
                    exact ⟨by first | rfl | (simp [errW_none, errW_some] <;> rfl) | (simp [*, errW_none, errW_some] <;> rfl), by repeat (first | (with_reducible first | exact HB.out | apply below_alloc | apply pw_below_drewN | apply below_drew1) | exact HB.out)⟩
                  · rw [if_neg c26] at H
                    have c26b0 : decide (1047552 < t572) = false := decide_eq_false (by rw [← show t573 = t572 from Option.some.inj (A25.out.symm.trans A22.out)]; exact c26)
                    clear c26
                    replace H := Option.bind_eq_some_iff.mp H
                    obtain ⟨t574, A280, H⟩ := H
                    replace H : (some (t574 == (Go.bits .andNot .u32 a0 255))) = some r := H
                    have A28 := Aside0.mk A280
                    clear A280
                    obtain rfl := Option.some.inj H
                    go_enter Try.func13, Try.ntmps13
                    go_wp2_with (first | ((with_reducible refine gate_callee (f := 16) rfl ?_); refine goesL_ (some 18) rfl rfl Try.func16 (by kernel_rfl) rfl #[] rfl (by (try simp only [List.map_toArray, List.map_cons, List.map_nil]); first | done | rfl | (simp only [List.length_drop, List.length_take]; rfl)) ?_; (with_reducible refine (roundhouselaw5_known.calls k  true _ A5.out).mono ?_); rintro e w29 ⟨rfl, hb⟩; refine ⟨_, rfl, ?_⟩; have n0_ := Aside0.mk (below_step (by repeat (first | (with_reducible first | exact HB.out | apply below_alloc | apply pw_below_drewN | apply below_drew1) | exact HB.out)) hb); clear HB; have HB := n0_; clear n0_; (try clear hb); (try clear hb2); (try clear hk); (try clear hi)) | ((with_reducible refine gate_callee (f := 18) rfl ?_); refine goesL_ (some 21) rfl rfl Try.func18 (by kernel_rfl) rfl #[.int .i64 a1, .int .i64 1048576] rfl (by (try simp only [List.map_toArray, List.map_cons, List.map_nil]); first | done | rfl | (simp only [List.length_drop, List.length_take]; rfl)) ?_; (with_reducible refine (roundhouselaw5_within.calls a1 1048576 t560 _ A7.out).mono ?_); rintro e w' ⟨rfl, ⟨nd, rfl⟩⟩; refine ⟨_, rfl, ?_⟩) | ((with_reducible refine gate_callee (f := 31) rfl ?_); refine goesL_ (some 24) rfl rfl Try.func31 (by kernel_rfl) rfl #[.int .u32 a0, .int .i64 t560] rfl (by (try simp only [List.map_toArray, List.map_cons, List.map_nil]); first | done | rfl | (simp only [List.length_drop, List.length_take]; rfl)) ?_; (with_reducible refine (cookie_Put.calls a0 t560 t561 _ A8.out).mono ?_); rintro e w' ⟨rfl, ⟨nd, rfl⟩⟩; refine ⟨_, rfl, ?_⟩) | ((with_reducible refine gate_callee (f := 32) rfl ?_); refine goesL_ (some 27) rfl rfl Try.func32 (by kernel_rfl) rfl #[.int .u32 t561] rfl (by (try simp only [List.map_toArray, List.map_cons, List.map_nil]); first | done | rfl | (simp only [List.length_drop, List.length_take]; rfl)) ?_; (with_reducible refine (cookie_Get.calls t561 t562 t563 _ A9.out).mono ?_); rintro e w' ⟨rfl, ⟨nd, rfl⟩⟩; refine ⟨_, rfl, ?_⟩) | ((with_reducible refine gate_callee (f := 32) rfl ?_); refine goesL_ (some 32) rfl rfl Try.func32 (by kernel_rfl) rfl #[.int .u32 a0] rfl (by (try simp only [List.map_toArray, List.map_cons, List.map_nil]); first | done | rfl | (simp only [List.length_drop, List.length_take]; rfl)) ?_; (with_reducible refine (cookie_Get.calls a0 t564 t565 _ A10.out).mono ?_); rintro e w' ⟨rfl, ⟨nd, rfl⟩⟩; refine ⟨_, rfl, ?_⟩) | ((with_reducible refine gate_callee (f := 36) rfl ?_); refine goesL_ (some 37) rfl rfl Try.func36 (by kernel_rfl) rfl #[.int .u32 a0] rfl (by (try simp only [List.map_toArray, List.map_cons, List.map_nil]); first | done | rfl | (simp only [List.length_drop, List.length_take]; rfl)) ?_; (with_reducible refine (roundhouseref5_Get.calls a0 t566 t567 _ A11.out).mono ?_); rintro e w' ⟨rfl, ⟨nd, rfl⟩⟩; refine ⟨_, rfl, ?_⟩) | ((with_reducible refine gate_callee (f := 18) rfl ?_); refine goesL_ (some 42) rfl rfl Try.func18 (by kernel_rfl) rfl #[.int .i64 a3, .int .i64 1048576] rfl (by (try simp only [List.map_toArray, List.map_cons, List.map_nil]); first | done | rfl | (simp only [List.length_drop, List.length_take]; rfl)) ?_; (with_reducible refine (roundhouselaw5_within.calls a3 1048576 t568 _ A12.out).mono ?_); rintro e w' ⟨rfl, ⟨nd, rfl⟩⟩; refine ⟨_, rfl, ?_⟩) | ((with_reducible refine gate_callee (f := 37) rfl ?_); refine goesL_ (some 50) rfl rfl Try.func37 (by kernel_rfl) rfl #[.int .u32 a0, .int .i64 t560] rfl (by (try simp only [List.map_toArray, List.map_cons, List.map_nil]); first | done | rfl | (simp only [List.length_drop, List.length_take]; rfl)) ?_; (with_reducible refine (roundhouseref5_Put.calls a0 t560 t569 _ A13.out).mono ?_); rintro e w' ⟨rfl, ⟨nd, rfl⟩⟩; refine ⟨_, rfl, ?_⟩) | (go_at_call 38; (with_reducible refine (cookie_Back.calls a0 a2 t570 _ A19.out).mono ?_); rintro e w' ⟨rfl, ⟨nd, rfl⟩⟩) | (go_at_call 39; (with_reducible refine (roundhouseref5_Back.calls a0 a2 t571 _ A20.out).mono ?_); rintro e w' ⟨rfl, ⟨nd, rfl⟩⟩) | (go_at_call 18; (with_reducible refine (roundhouselaw5_within.calls a3 1048576 t572 _ A22.out).mono ?_); rintro e w' ⟨rfl, ⟨nd, rfl⟩⟩) | (go_at_call 18; (with_reducible refine (roundhouselaw5_within.calls a3 1048576 t573 _ A25.out).mono ?_); rintro e w' ⟨rfl, ⟨nd, rfl⟩⟩) | (go_at_call 38; (with_reducible refine (cookie_Back.calls t561 _ t574 _ (by have h_ := A28.out; rw [show ∀ a b : Int, (a + b % 4294967296) % 4294967296 = (a + b) % 4294967296 from fun a b => by omega] at h_; exact h_)).mono ?_); rintro e w' ⟨rfl, ⟨nd, rfl⟩⟩))
                    go_ret
                    exact ⟨by first | rfl | (simp [errW_none, errW_some] <;> rfl) | (simp [*, errW_none, errW_some] <;> rfl), by repeat (first | (with_reducible first | exact HB.out | apply below_alloc | apply pw_below_drewN | apply below_drew1) | exact HB.out)⟩
              · rw [if_neg c21] at H
                have c21b0 : (t570 == t571) = false := beq_eq_false_iff_ne.mpr c21
                have c21b1 : (t570 != t571) = true := bne_iff_ne.mpr c21
                exact absurd hr_.out (by rw [← Option.some.inj H]; decide)
            · rw [if_neg c18] at H
              have c18b0 : (t565 == t567) = false := beq_eq_false_iff_ne.mpr c18
              have c18b1 : (t565 != t567) = true := bne_iff_ne.mpr c18
              exact absurd hr_.out (by rw [← Option.some.inj H]; decide)
          · rw [if_neg c17] at H
            have c17b0 : (t564 == t566) = false := beq_eq_false_iff_ne.mpr c17
            have c17b1 : (t564 != t566) = true := bne_iff_ne.mpr c17
            exact absurd hr_.out (by rw [← Option.some.inj H]; decide)
        · rw [if_neg c16] at H
          have c16b0 : (t562 == (wrap64 (Go.bits .and .u32 (a0 / 256) 4095))) = false := beq_eq_false_iff_ne.mpr c16
          have c16b1 : (t562 != (wrap64 (Go.bits .and .u32 (a0 / 256) 4095))) = true := bne_iff_ne.mpr c16
          exact absurd hr_.out (by rw [← Option.some.inj H]; decide)
      · rw [if_neg c15] at H
        have c15b0 : (t563 == t560) = false := beq_eq_false_iff_ne.mpr c15
        have c15b1 : (t563 != t560) = true := bne_iff_ne.mpr c15
        exact absurd hr_.out (by rw [← Option.some.inj H]; decide)
    · rw [if_neg c14] at H
      have c14b0 : (t561 == t569) = false := beq_eq_false_iff_ne.mpr c14
      have c14b1 : (t561 != t569) = true := bne_iff_ne.mpr c14
      exact absurd hr_.out (by rw [← Option.some.inj H]; decide)
  · replace c6 := Bool.eq_false_iff.mpr c6
    subst c6
    have H1 : (some false) = some r := by rw [if_neg (show ¬ (false = true) by decide)] at H; exact H
    clear H
    have H := H1
    clear H1
    exact absurd hr_.out (by rw [← Option.some.inj H]; decide)
/-- THE ONE PURE STATEMENT of roundhouselaw5_CookiePuts: yours. -/
def roundhouselaw5_CookiePuts.Pure : Prop := ∀ (a0 : Int) (a1 : Int) (a2 : Int) (a3 : Int), (Lit.int .u32 a0).wf = true → (Lit.int .i64 a1).wf = true → (Lit.int .u32 a2).wf = true → (Lit.int .i64 a3).wf = true → ∃ k, roundhouselaw5_CookiePuts.f k a0 a1 a2 a3 = some true
theorem roundhouselaw5_CookiePuts.walk (P : roundhouselaw5_CookiePuts.Pure) (a0 : Int) (a1 : Int) (a2 : Int) (a3 : Int) (w : World) (w0 : (Lit.int .u32 a0).wf = true) (w1 : (Lit.int .i64 a1).wf = true) (w2 : (Lit.int .u32 a2).wf = true) (w3 : (Lit.int .i64 a3).wf = true) :
    Calls Try.prog 13 #[.int .u32 a0, .int .i64 a1, .int .u32 a2, .int .i64 a3] w fun e w' => e = .returned (.bool true) ∧ Below w.heap.size w w' := by
  obtain ⟨k, h⟩ := P a0 a1 a2 a3 w0 w1 w2 w3
  refine (roundhouselaw5_CookiePuts.calls k a0 a1 a2 a3 true w h ⟨rfl⟩).mono ?_
  rintro e w' ⟨rfl, hd⟩
  exact ⟨rfl, hd⟩

end Go.Proofs.Ytnaplobnkmdfbaa.Q
