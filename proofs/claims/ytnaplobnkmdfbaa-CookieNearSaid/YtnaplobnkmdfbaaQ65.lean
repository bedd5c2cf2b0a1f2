/- By a program of this session (wip/tools/myprint.py), out of the translation: for each Go function a plain Lean function, and that the call comes to what that function says; a law's row out of its plain statement. Lean checks it. -/
import Derived.Test.YtnaplobnkmdfbaaCookG
import Derived.Test.YtnaplobnkmdfbaaQ0
import Derived.Test.YtnaplobnkmdfbaaQ25
import Derived.Test.YtnaplobnkmdfbaaQ26
import Derived.Test.YtnaplobnkmdfbaaQ51
import Derived.Test.YtnaplobnkmdfbaaQ62
namespace Go.Proofs.Ytnaplobnkmdfbaa.Q
open Go.RowKit Go.Proofs.YtnaplobnkmdfbaaW.PrintWords Go.Proofs.YtnaplobnkmdfbaaW.PrintLast Go.Proofs.YtnaplobnkmdfbaaW.PrintMore
attribute [local go_sem] max2_int min2_int max_two min_two max_three min_three max_four min_four   -- for this text's walks alone
set_option linter.unusedVariables false
set_option linter.unusedSimpArgs false

open Go.Proofs.Ytnaplobnkmdfbaa.Own
/-! ### roundhouselaw5_CookieNear: function 14 -/
def roundhouselaw5_CookieNear.f (k : Nat) (a0 : Int) (a1 : Int) : Option (Bool) := (roundhouselaw5_known.f k).bind fun t575 => (if t575 = true then ((cookie_Back.f a0 a1).bind fun t576 => ((cookie_Get.f a0).bind fun bt577 => ((roundhouseref4_Far.f (Go.bits .andNot .u32 a1 255) t576).bind fun t579 => (if (Go.bits .and .u32 t576 255) = 0 then (if (wrap64 (Go.bits .and .u32 (t576 / 256) 4095)) = bt577.1 then (if t579 ≥ (-524288) then (some (decide (t579 < 524288))) else (some false)) else (some false)) else (some false))))) else (some false))
theorem roundhouselaw5_CookieNear.mono : ∀ a0 a1 k, LeO (roundhouselaw5_CookieNear.f k a0 a1) (roundhouselaw5_CookieNear.f (k + 1) a0 a1) := by
  intro a0 a1 k
  unfold roundhouselaw5_CookieNear.f
  repeat' first
      | (with_reducible exact roundhouselaw5_known.mono _)
      | (with_reducible exact LeO.refl _)
      | (with_reducible exact LeO.none _)
      | (with_reducible refine LeO.ite ?_ ?_)
      | (with_reducible refine LeO.bind ?_ (fun _ => ?_))
      | exact roundhouselaw5_known.mono _
      | exact LeO.none _
      | refine LeO.ite ?_ ?_
      | refine LeO.bind ?_ (fun _ => ?_)
set_option maxHeartbeats 8000000 in
set_option maxRecDepth 100000 in
theorem roundhouselaw5_CookieNear.calls (k : Nat) (a0 : Int) (a1 : Int) (r : Bool) (w : World) (h : roundhouselaw5_CookieNear.f k a0 a1 = some r) :
    Calls Try.prog 14 #[.int .u32 a0, .int .u32 a1] w fun e w' => e = .returned (.bool r) ∧ Below w.heap.size w w' := by
  have HB := Aside0.mk (Below.refl w.heap.size w)
  have H : ((roundhouselaw5_known.f k).bind fun t575 => (if t575 = true then ((cookie_Back.f a0 a1).bind fun t576 => ((cookie_Get.f a0).bind fun bt577 => ((roundhouseref4_Far.f (Go.bits .andNot .u32 a1 255) t576).bind fun t579 => (if (Go.bits .and .u32 t576 255) = 0 then (if (wrap64 (Go.bits .and .u32 (t576 / 256) 4095)) = bt577.1 then (if t579 ≥ (-524288) then (some (decide (t579 < 524288))) else (some false)) else (some false)) else (some false))))) else (some false))) = some r := h
  clear h
  replace H := Option.bind_eq_some_iff.mp H
  obtain ⟨t575, A30, H⟩ := H
  replace H : (if t575 = true then ((cookie_Back.f a0 a1).bind fun t576 => ((cookie_Get.f a0).bind fun bt577 => ((roundhouseref4_Far.f (Go.bits .andNot .u32 a1 255) t576).bind fun t579 => (if (Go.bits .and .u32 t576 255) = 0 then (if (wrap64 (Go.bits .and .u32 (t576 / 256) 4095)) = bt577.1 then (if t579 ≥ (-524288) then (some (decide (t579 < 524288))) else (some false)) else (some false)) else (some false))))) else (some false)) = some r := H
  have A3 := Aside0.mk A30
  clear A30
  by_cases c4 : t575 = true
  · subst c4
    have H1 : ((cookie_Back.f a0 a1).bind fun t576 => ((cookie_Get.f a0).bind fun bt577 => ((roundhouseref4_Far.f (Go.bits .andNot .u32 a1 255) t576).bind fun t579 => (if (Go.bits .and .u32 t576 255) = 0 then (if (wrap64 (Go.bits .and .u32 (t576 / 256) 4095)) = bt577.1 then (if t579 ≥ (-524288) then (some (decide (t579 < 524288))) else (some false)) else (some false)) else (some false))))) = some r := by rw [if_pos rfl] at H; exact H
    clear H
    have H := H1
    clear H1
    replace H := Option.bind_eq_some_iff.mp H
    obtain ⟨t576, A50, H⟩ := H
    replace H : ((cookie_Get.f a0).bind fun bt577 => ((roundhouseref4_Far.f (Go.bits .andNot .u32 a1 255) t576).bind fun t579 => (if (Go.bits .and .u32 t576 255) = 0 then (if (wrap64 (Go.bits .and .u32 (t576 / 256) 4095)) = bt577.1 then (if t579 ≥ (-524288) then (some (decide (t579 < 524288))) else (some false)) else (some false)) else (some false)))) = some r := H
    have A5 := Aside0.mk A50
    clear A50
    replace H := Option.bind_eq_some_iff.mp H
    obtain ⟨⟨t577, t578⟩, A60, H⟩ := H
    replace H : ((roundhouseref4_Far.f (Go.bits .andNot .u32 a1 255) t576).bind fun t579 => (if (Go.bits .and .u32 t576 255) = 0 then (if (wrap64 (Go.bits .and .u32 (t576 / 256) 4095)) = t577 then (if t579 ≥ (-524288) then (some (decide (t579 < 524288))) else (some false)) else (some false)) else (some false))) = some r := H
    have A6 := Aside0.mk A60
    clear A60
    replace H := Option.bind_eq_some_iff.mp H
    obtain ⟨t579, A70, H⟩ := H
    replace H : (if (Go.bits .and .u32 t576 255) = 0 then (if (wrap64 (Go.bits .and .u32 (t576 / 256) 4095)) = t577 then (if t579 ≥ (-524288) then (some (decide (t579 < 524288))) else (some false)) else (some false)) else (some false)) = some r := H
    have A7 := Aside0.mk A70
    clear A70
    by_cases c8 : (Go.bits .and .u32 t576 255) = 0
    · rw [if_pos c8] at H
      have c8b0 : ((Go.bits .and .u32 t576 255) == 0) = true := beq_iff_eq.mpr c8
      have c8b1 : ((Go.bits .and .u32 t576 255) != 0) = false := bne_eq_false_iff_eq.mpr c8
      clear c8
      by_cases c9 : (wrap64 (Go.bits .and .u32 (t576 / 256) 4095)) = t577
      · rw [if_pos c9] at H
        have c9b0 : ((wrap64 (Go.bits .and .u32 (t576 / 256) 4095)) == t577) = true := beq_iff_eq.mpr c9
        have c9b1 : ((wrap64 (Go.bits .and .u32 (t576 / 256) 4095)) != t577) = false := bne_eq_false_iff_eq.mpr c9
        clear c9
        by_cases c10 : t579 ≥ (-524288)
        · rw [if_pos c10] at H
          have c10b0 : decide ((-524288) ≤ t579) = true := decide_eq_true c10
          clear c10
          obtain rfl := Option.some.inj H
          go_enter Try.func14, Try.ntmps14
          go_wp2_with (first | ((with_reducible refine gate_callee (f := 16) rfl ?_); refine goesL_ (some 9) rfl rfl Try.func16 (by kernel_rfl) rfl #[] rfl (by (try simp only [List.map_toArray, List.map_cons, List.map_nil]); first | done | rfl | (simp only [List.length_drop, List.length_take]; rfl)) ?_; (with_reducible refine (roundhouselaw5_known.calls k  true _ A3.out).mono ?_); rintro e w11 ⟨rfl, hb⟩; refine ⟨_, rfl, ?_⟩; have n0_ := Aside0.mk (below_step (by repeat (first | (with_reducible first | exact HB.out | apply below_alloc | apply pw_below_drewN | apply below_drew1) | exact HB.out)) hb); clear HB; have HB := n0_; clear n0_; (try clear hb); (try clear hb2); (try clear hk); (try clear hi)) | ((with_reducible refine gate_callee (f := 38) rfl ?_); refine goesL_ (some 13) rfl rfl Try.func38 (by kernel_rfl) rfl #[.int .u32 a0, .int .u32 a1] rfl (by (try simp only [List.map_toArray, List.map_cons, List.map_nil]); first | done | rfl | (simp only [List.length_drop, List.length_take]; rfl)) ?_; (with_reducible refine (cookie_Back.calls a0 a1 t576 _ A5.out).mono ?_); rintro e w' ⟨rfl, ⟨nd, rfl⟩⟩; refine ⟨_, rfl, ?_⟩) | ((with_reducible refine gate_callee (f := 32) rfl ?_); refine goesL_ (some 16) rfl rfl Try.func32 (by kernel_rfl) rfl #[.int .u32 a0] rfl (by (try simp only [List.map_toArray, List.map_cons, List.map_nil]); first | done | rfl | (simp only [List.length_drop, List.length_take]; rfl)) ?_; (with_reducible refine (cookie_Get.calls a0 t577 t578 _ A6.out).mono ?_); rintro e w' ⟨rfl, ⟨nd, rfl⟩⟩; refine ⟨_, rfl, ?_⟩) | ((with_reducible refine gate_callee (f := 40) rfl ?_); refine goesL_ (some 22) rfl rfl Try.func40 (by kernel_rfl) rfl #[.int .u32 (Go.bits .andNot .u32 a1 255), .int .u32 t576] rfl (by (try simp only [List.map_toArray, List.map_cons, List.map_nil]); first | done | rfl | (simp only [List.length_drop, List.length_take]; rfl)) ?_; (with_reducible refine (roundhouseref4_Far.calls (Go.bits .andNot .u32 a1 255) t576 t579 _ A7.out).mono ?_); rintro e w' ⟨rfl, ⟨nd, rfl⟩⟩; refine ⟨_, rfl, ?_⟩))
          go_ret
          exact ⟨by first | rfl | (simp [errW_none, errW_some] <;> rfl) | (simp [*, errW_none, errW_some] <;> rfl), by repeat (first | (with_reducible first | exact HB.out | apply below_alloc | apply pw_below_drewN | apply below_drew1) | exact HB.out)⟩
        · rw [if_neg c10] at H
          have c10b0 : decide ((-524288) ≤ t579) = false := decide_eq_false c10
          clear c10
          obtain rfl := Option.some.inj H
          go_enter Try.func14, Try.ntmps14
          go_wp2_with (first | ((with_reducible refine gate_callee (f := 16) rfl ?_); refine goesL_ (some 9) rfl rfl Try.func16 (by kernel_rfl) rfl #[] rfl (by (try simp only [List.map_toArray, List.map_cons, List.map_nil]); first | done | rfl | (simp only [List.length_drop, List.length_take]; rfl)) ?_; (with_reducible refine (roundhouselaw5_known.calls k  true _ A3.out).mono ?_); rintro e w12 ⟨rfl, hb⟩; refine ⟨_, rfl, ?_⟩; have n0_ := Aside0.mk (below_step (by repeat (first | (with_reducible first | exact HB.out | apply below_alloc | apply pw_below_drewN | apply below_drew1) | exact HB.out)) hb); clear HB; have HB := n0_; clear n0_; (try clear hb); (try clear hb2); (try clear hk); (try clear hi)) | ((with_reducible refine gate_callee (f := 38) rfl ?_); refine goesL_ (some 13) rfl rfl Try.func38 (by kernel_rfl) rfl #[.int .u32 a0, .int .u32 a1] rfl (by (try simp only [List.map_toArray, List.map_cons, List.map_nil]); first | done | rfl | (simp only [List.length_drop, List.length_take]; rfl)) ?_; (with_reducible refine (cookie_Back.calls a0 a1 t576 _ A5.out).mono ?_); rintro e w' ⟨rfl, ⟨nd, rfl⟩⟩; refine ⟨_, rfl, ?_⟩) | ((with_reducible refine gate_callee (f := 32) rfl ?_); refine goesL_ (some 16) rfl rfl Try.func32 (by kernel_rfl) rfl #[.int .u32 a0] rfl (by (try simp only [List.map_toArray, List.map_cons, List.map_nil]); first | done | rfl | (simp only [List.length_drop, List.length_take]; rfl)) ?_; (with_reducible refine (cookie_Get.calls a0 t577 t578 _ A6.out).mono ?_); rintro e w' ⟨rfl, ⟨nd, rfl⟩⟩; refine ⟨_, rfl, ?_⟩) | ((with_reducible refine gate_callee (f := 40) rfl ?_); refine goesL_ (some 22) rfl rfl Try.func40 (by kernel_rfl) rfl #[.int .u32 (Go.bits .andNot .u32 a1 255), .int .u32 t576] rfl (by (try simp only [List.map_toArray, List.map_cons, List.map_nil]); first | done | rfl | (simp only [List.length_drop, List.length_take]; rfl)) ?_; (with_reducible refine (roundhouseref4_Far.calls (Go.bits .andNot .u32 a1 255) t576 t579 _ A7.out).mono ?_); rintro e w' ⟨rfl, ⟨nd, rfl⟩⟩; refine ⟨_, rfl, ?_⟩))
          go_ret
          exact ⟨by first | rfl | (simp [errW_none, errW_some] <;> rfl) | (simp [*, errW_none, errW_some] <;> rfl), by repeat (first | (with_reducible first | exact HB.out | apply below_alloc | apply pw_below_drewN | apply below_drew1) | exact HB.out)⟩
      · rw [if_neg c9] at H
        have c9b0 : ((wrap64 (Go.bits .and .u32 (t576 / 256) 4095)) == t577) = false := beq_eq_false_iff_ne.mpr c9
        have c9b1 : ((wrap64 (Go.bits .and .u32 (t576 / 256) 4095)) != t577) = true := bne_iff_ne.mpr c9
        obtain rfl := Option.some.inj H
        go_enter Try.func14, Try.ntmps14
        go_wp2_with (first | ((with_reducible refine gate_callee (f := 16) rfl ?_); refine goesL_ (some 9) rfl rfl Try.func16 (by kernel_rfl) rfl #[] rfl (by (try simp only [List.map_toArray, List.map_cons, List.map_nil]); first | done | rfl | (simp only [List.length_drop, List.length_take]; rfl)) ?_; (with_reducible refine (roundhouselaw5_known.calls k  true _ A3.out).mono ?_); rintro e w13 ⟨rfl, hb⟩; refine ⟨_, rfl, ?_⟩; have n0_ := Aside0.mk (below_step (by repeat (first | (with_reducible first | exact HB.out | apply below_alloc | apply pw_below_drewN | apply below_drew1) | exact HB.out)) hb); clear HB; have HB := n0_; clear n0_; (try clear hb); (try clear hb2); (try clear hk); (try clear hi)) | ((with_reducible refine gate_callee (f := 38) rfl ?_); refine goesL_ (some 13) rfl rfl Try.func38 (by kernel_rfl) rfl #[.int .u32 a0, .int .u32 a1] rfl (by (try simp only [List.map_toArray, List.map_cons, List.map_nil]); first | done | rfl | (simp only [List.length_drop, List.length_take]; rfl)) ?_; (with_reducible refine (cookie_Back.calls a0 a1 t576 _ A5.out).mono ?_); rintro e w' ⟨rfl, ⟨nd, rfl⟩⟩; refine ⟨_, rfl, ?_⟩) | ((with_reducible refine gate_callee (f := 32) rfl ?_); refine goesL_ (some 16) rfl rfl Try.func32 (by kernel_rfl) rfl #[.int .u32 a0] rfl (by (try simp only [List.map_toArray, List.map_cons, List.map_nil]); first | done | rfl | (simp only [List.length_drop, List.length_take]; rfl)) ?_; (with_reducible refine (cookie_Get.calls a0 t577 t578 _ A6.out).mono ?_); rintro e w' ⟨rfl, ⟨nd, rfl⟩⟩; refine ⟨_, rfl, ?_⟩) | ((with_reducible refine gate_callee (f := 40) rfl ?_); refine goesL_ (some 22) rfl rfl Try.func40 (by kernel_rfl) rfl #[.int .u32 (Go.bits .andNot .u32 a1 255), .int .u32 t576] rfl (by (try simp only [List.map_toArray, List.map_cons, List.map_nil]); first | done | rfl | (simp only [List.length_drop, List.length_take]; rfl)) ?_; (with_reducible refine (roundhouseref4_Far.calls (Go.bits .andNot .u32 a1 255) t576 t579 _ A7.out).mono ?_); rintro e w' ⟨rfl, ⟨nd, rfl⟩⟩; refine ⟨_, rfl, ?_⟩))
        go_ret
        exact ⟨by first | rfl | (simp [errW_none, errW_some] <;> rfl) | (simp [*, errW_none, errW_some] <;> rfl), by repeat (first | (with_reducible first | exact HB.out | apply below_alloc | apply pw_below_drewN | apply below_drew1) | exact HB.out)⟩
    · rw [if_neg c8] at H
      have c8b0 : ((Go.bits .and .u32 t576 255) == 0) = false := beq_eq_false_iff_ne.mpr c8
      have c8b1 : ((Go.bits .and .u32 t576 255) != 0) = true := bne_iff_ne.mpr c8
      obtain rfl := Option.some.inj H
      go_enter Try.func14, Try.ntmps14
      go_wp2_with (first | ((with_reducible refine gate_callee (f := 16) rfl ?_); refine goesL_ (some 9) rfl rfl Try.func16 (by kernel_rfl) rfl #[] rfl (by (try simp only [List.map_toArray, List.map_cons, List.map_nil]); first | done | rfl | (simp only [List.length_drop, List.length_take]; rfl)) ?_; (with_reducible refine (roundhouselaw5_known.calls k  true _ A3.out).mono ?_); rintro e w14 ⟨rfl, hb⟩; refine ⟨_, rfl, ?_⟩; have n0_ := Aside0.mk (below_step (by repeat (first | (with_reducible first | exact HB.out | apply below_alloc | apply pw_below_drewN | apply below_drew1) | exact HB.out)) hb); clear HB; have HB := n0_; clear n0_; (try clear hb); (try clear hb2); (try clear hk); (try clear hi)) | ((with_reducible refine gate_callee (f := 38) rfl ?_); refine goesL_ (some 13) rfl rfl Try.func38 (by kernel_rfl) rfl #[.int .u32 a0, .int .u32 a1] rfl (by (try simp only [List.map_toArray, List.map_cons, List.map_nil]); first | done | rfl | (simp only [List.length_drop, List.length_take]; rfl)) ?_; (with_reducible refine (cookie_Back.calls a0 a1 t576 _ A5.out).mono ?_); rintro e w' ⟨rfl, ⟨nd, rfl⟩⟩; refine ⟨_, rfl, ?_⟩) | ((with_reducible refine gate_callee (f := 32) rfl ?_); refine goesL_ (some 16) rfl rfl Try.func32 (by kernel_rfl) rfl #[.int .u32 a0] rfl (by (try simp only [List.map_toArray, List.map_cons, List.map_nil]); first | done | rfl | (simp only [List.length_drop, List.length_take]; rfl)) ?_; (with_reducible refine (cookie_Get.calls a0 t577 t578 _ A6.out).mono ?_); rintro e w' ⟨rfl, ⟨nd, rfl⟩⟩; refine ⟨_, rfl, ?_⟩) | ((with_reducible refine gate_callee (f := 40) rfl ?_); refine goesL_ (some 22) rfl rfl Try.func40 (by kernel_rfl) rfl #[.int .u32 (Go.bits .andNot .u32 a1 255), .int .u32 t576] rfl (by (try simp only [List.map_toArray, List.map_cons, List.map_nil]); first | done | rfl | (simp only [List.length_drop, List.length_take]; rfl)) ?_; (with_reducible refine (roundhouseref4_Far.calls (Go.bits .andNot .u32 a1 255) t576 t579 _ A7.out).mono ?_); rintro e w' ⟨rfl, ⟨nd, rfl⟩⟩; refine ⟨_, rfl, ?_⟩))
      go_ret
      exact ⟨by first | rfl | (simp [errW_none, errW_some] <;> rfl) | (simp [*, errW_none, errW_some] <;> rfl), by repeat (first | (with_reducible first | exact HB.out | apply below_alloc | apply pw_below_drewN | apply below_drew1) | exact HB.out)⟩
  · replace c4 := Bool.eq_false_iff.mpr c4
    subst c4
    have H1 : (some false) = some r := by rw [if_neg (show ¬ (false = true) by decide)] at H; exact H
    clear H
    have H := H1
    clear H1
    obtain rfl := Option.some.inj H
    go_enter Try.func14, Try.ntmps14
    go_wp2_with (first | ((with_reducible refine gate_callee (f := 16) rfl ?_); refine goesL_ (some 9) rfl rfl Try.func16 (by kernel_rfl) rfl #[] rfl (by (try simp only [List.map_toArray, List.map_cons, List.map_nil]); first | done | rfl | (simp only [List.length_drop, List.length_take]; rfl)) ?_; (with_reducible refine (roundhouselaw5_known.calls k  false _ A3.out).mono ?_); rintro e w15 ⟨rfl, hb⟩; refine ⟨_, rfl, ?_⟩; have n0_ := Aside0.mk (below_step (by repeat (first | (with_reducible first | exact HB.out | apply below_alloc | apply pw_below_drewN | apply below_drew1) | exact HB.out)) hb); clear HB; have HB := n0_; clear n0_; (try clear hb); (try clear hb2); (try clear hk); (try clear hi)))
    go_ret
    exact ⟨by first | rfl | (simp [errW_none, errW_some] <;> rfl) | (simp [*, errW_none, errW_some] <;> rfl), by repeat (first | (with_reducible first | exact HB.out | apply below_alloc | apply pw_below_drewN | apply below_drew1) | exact HB.out)⟩

/-- THE ONE PURE STATEMENT of roundhouselaw5_CookieNear: yours. -/
def roundhouselaw5_CookieNear.Pure : Prop := ∀ (a0 : Int) (a1 : Int), (Lit.int .u32 a0).wf = true → (Lit.int .u32 a1).wf = true → ∃ k, roundhouselaw5_CookieNear.f k a0 a1 = some true
theorem roundhouselaw5_CookieNear.walk (P : roundhouselaw5_CookieNear.Pure) (a0 : Int) (a1 : Int) (w : World) (w0 : (Lit.int .u32 a0).wf = true) (w1 : (Lit.int .u32 a1).wf = true) :
    Calls Try.prog 14 #[.int .u32 a0, .int .u32 a1] w fun e w' => e = .returned (.bool true) ∧ Below w.heap.size w w' := by
  obtain ⟨k, h⟩ := P a0 a1 w0 w1
  refine (roundhouselaw5_CookieNear.calls k a0 a1 true w h).mono ?_
  rintro e w' ⟨rfl, hd⟩
  exact ⟨rfl, hd⟩

end Go.Proofs.Ytnaplobnkmdfbaa.Q
