/- By a program of this session (wip/tools/myprint.py), out of the translation: for each Go function a plain Lean function, and that the call comes to what that function says; a law's row out of its plain statement. Lean checks it. -/
import Derived.Test.YtnaplobnkmdfbaaCookG
import Derived.Test.YtnaplobnkmdfbaaQ0
import Derived.Test.YtnaplobnkmdfbaaQ24
import Derived.Test.YtnaplobnkmdfbaaQ25
import Derived.Test.YtnaplobnkmdfbaaQ26
import Derived.Test.YtnaplobnkmdfbaaQ31
import Derived.Test.YtnaplobnkmdfbaaQ52
namespace Go.Proofs.Ytnaplobnkmdfbaa.Q
open Go.RowKit Go.Proofs.YtnaplobnkmdfbaaW.PrintWords Go.Proofs.YtnaplobnkmdfbaaW.PrintLast Go.Proofs.YtnaplobnkmdfbaaW.PrintMore
attribute [local go_sem] max2_int min2_int max_two min_two max_three min_three max_four min_four   -- for this text's walks alone
set_option linter.unusedVariables false
set_option linter.unusedSimpArgs false

open Go.Proofs.Ytnaplobnkmdfbaa.Own
/-! ### roundhouselaw5_CookieOrder: function 8 -/
def roundhouselaw5_CookieOrder.f (k : Nat) (a0 : Int) (a1 : Int) (a2 : Int) (a3 : Int) : Option (Bool) := (roundhouselaw5_known.f k).bind fun t463 => (if t463 = true then ((roundhouselaw5_within.f a2 1048576).bind fun t464 => ((roundhouselaw5_within.f a3 1048576).bind fun t465 => ((roundhouselaw5_within.f a1 524032).bind fun t466 => ((cookie_Put.f a0 t464).bind fun t467 => ((cookie_Put.f ((a0 + ((t466) % 4294967296)) % 4294967296) t465).bind fun t468 => ((cookie_Get.f t467).bind fun bt469 => ((cookie_Get.f t468).bind fun bt471 => (if bt469.1 = bt471.1 then ((roundhouseref4_Less.f t467 t468).bind fun t473 => (some (t473 == (decide (t464 < t465))))) else ((roundhouseref4_Less.f t467 t468).bind fun t474 => (if t474 = true then ((roundhouseref4_Less.f t468 t467).bind fun t475 => (some (!t475))) else (some false))))))))))) else (some false))
theorem roundhouselaw5_CookieOrder.mono : ∀ a0 a1 a2 a3 k, LeO (roundhouselaw5_CookieOrder.f k a0 a1 a2 a3) (roundhouselaw5_CookieOrder.f (k + 1) a0 a1 a2 a3) := by
  intro a0 a1 a2 a3 k
  unfold roundhouselaw5_CookieOrder.f
  repeat' first
      | (with_reducible exact roundhouselaw5_known.mono _)
      | (with_reducible exact LeO.refl _)
      | (with_reducible exact LeO.none _)
      | (with_reducible refine LeO.ite ?_ ?_)
      | (with_reducible refine LeO.bind ?_ (fun _ => ?_))
      | exact roundhouselaw5_known.mono _
      | exact LeO.none _
      | refine LeO.ite ?_ ?_
      | refine LeO.bind ?_ (fun _ => ?_)
set_option maxHeartbeats 8000000 in
set_option maxRecDepth 100000 in
theorem roundhouselaw5_CookieOrder.calls (k : Nat) (a0 : Int) (a1 : Int) (a2 : Int) (a3 : Int) (r : Bool) (w : World) (h : roundhouselaw5_CookieOrder.f k a0 a1 a2 a3 = some r) :
    Calls Try.prog 8 #[.int .u32 a0, .int .i64 a1, .int .i64 a2, .int .i64 a3] w fun e w' => e = .returned (.bool r) ∧ Below w.heap.size w w' := by
  have HB := Aside0.mk (Below.refl w.heap.size w)
  have H : ((roundhouselaw5_known.f k).bind fun t463 => (if t463 = true then ((roundhouselaw5_within.f a2 1048576).bind fun t464 => ((roundhouselaw5_within.f a3 1048576).bind fun t465 => ((roundhouselaw5_within.f a1 524032).bind fun t466 => ((cookie_Put.f a0 t464).bind fun t467 => ((cookie_Put.f ((a0 + ((t466) % 4294967296)) % 4294967296) t465).bind fun t468 => ((cookie_Get.f t467).bind fun bt469 => ((cookie_Get.f t468).bind fun bt471 => (if bt469.1 = bt471.1 then ((roundhouseref4_Less.f t467 t468).bind fun t473 => (some (t473 == (decide (t464 < t465))))) else ((roundhouseref4_Less.f t467 t468).bind fun t474 => (if t474 = true then ((roundhouseref4_Less.f t468 t467).bind fun t475 => (some (!t475))) else (some false))))))))))) else (some false))) = some r := h
  clear h
  replace H := Option.bind_eq_some_iff.mp H
  obtain ⟨t463, A50, H⟩ := H
  replace H : (if t463 = true then ((roundhouselaw5_within.f a2 1048576).bind fun t464 => ((roundhouselaw5_within.f a3 1048576).bind fun t465 => ((roundhouselaw5_within.f a1 524032).bind fun t466 => ((cookie_Put.f a0 t464).bind fun t467 => ((cookie_Put.f ((a0 + ((t466) % 4294967296)) % 4294967296) t465).bind fun t468 => ((cookie_Get.f t467).bind fun bt469 => ((cookie_Get.f t468).bind fun bt471 => (if bt469.1 = bt471.1 then ((roundhouseref4_Less.f t467 t468).bind fun t473 => (some (t473 == (decide (t464 < t465))))) else ((roundhouseref4_Less.f t467 t468).bind fun t474 => (if t474 = true then ((roundhouseref4_Less.f t468 t467).bind fun t475 => (some (!t475))) else (some false))))))))))) else (some false)) = some r := H
  have A5 := Aside0.mk A50
  clear A50
  by_cases c6 : t463 = true
  · subst c6
    have H1 : ((roundhouselaw5_within.f a2 1048576).bind fun t464 => ((roundhouselaw5_within.f a3 1048576).bind fun t465 => ((roundhouselaw5_within.f a1 524032).bind fun t466 => ((cookie_Put.f a0 t464).bind fun t467 => ((cookie_Put.f ((a0 + ((t466) % 4294967296)) % 4294967296) t465).bind fun t468 => ((cookie_Get.f t467).bind fun bt469 => ((cookie_Get.f t468).bind fun bt471 => (if bt469.1 = bt471.1 then ((roundhouseref4_Less.f t467 t468).bind fun t473 => (some (t473 == (decide (t464 < t465))))) else ((roundhouseref4_Less.f t467 t468).bind fun t474 => (if t474 = true then ((roundhouseref4_Less.f t468 t467).bind fun t475 => (some (!t475))) else (some false))))))))))) = some r := by rw [if_pos rfl] at H; exact H
    clear H
    have H := H1
    clear H1
    replace H := Option.bind_eq_some_iff.mp H
    obtain ⟨t464, A70, H⟩ := H
    replace H : ((roundhouselaw5_within.f a3 1048576).bind fun t465 => ((roundhouselaw5_within.f a1 524032).bind fun t466 => ((cookie_Put.f a0 t464).bind fun t467 => ((cookie_Put.f ((a0 + ((t466) % 4294967296)) % 4294967296) t465).bind fun t468 => ((cookie_Get.f t467).bind fun bt469 => ((cookie_Get.f t468).bind fun bt471 => (if bt469.1 = bt471.1 then ((roundhouseref4_Less.f t467 t468).bind fun t473 => (some (t473 == (decide (t464 < t465))))) else ((roundhouseref4_Less.f t467 t468).bind fun t474 => (if t474 = true then ((roundhouseref4_Less.f t468 t467).bind fun t475 => (some (!t475))) else (some false)))))))))) = some r := H
    have A7 := Aside0.mk A70
    clear A70
    replace H := Option.bind_eq_some_iff.mp H
    obtain ⟨t465, A80, H⟩ := H
    replace H : ((roundhouselaw5_within.f a1 524032).bind fun t466 => ((cookie_Put.f a0 t464).bind fun t467 => ((cookie_Put.f ((a0 + ((t466) % 4294967296)) % 4294967296) t465).bind fun t468 => ((cookie_Get.f t467).bind fun bt469 => ((cookie_Get.f t468).bind fun bt471 => (if bt469.1 = bt471.1 then ((roundhouseref4_Less.f t467 t468).bind fun t473 => (some (t473 == (decide (t464 < t465))))) else ((roundhouseref4_Less.f t467 t468).bind fun t474 => (if t474 = true then ((roundhouseref4_Less.f t468 t467).bind fun t475 => (some (!t475))) else (some false))))))))) = some r := H
    have A8 := Aside0.mk A80
    clear A80
    replace H := Option.bind_eq_some_iff.mp H
    obtain ⟨t466, A90, H⟩ := H
    replace H : ((cookie_Put.f a0 t464).bind fun t467 => ((cookie_Put.f ((a0 + ((t466) % 4294967296)) % 4294967296) t465).bind fun t468 => ((cookie_Get.f t467).bind fun bt469 => ((cookie_Get.f t468).bind fun bt471 => (if bt469.1 = bt471.1 then ((roundhouseref4_Less.f t467 t468).bind fun t473 => (some (t473 == (decide (t464 < t465))))) else ((roundhouseref4_Less.f t467 t468).bind fun t474 => (if t474 = true then ((roundhouseref4_Less.f t468 t467).bind fun t475 => (some (!t475))) else (some false)))))))) = some r := H
    have A9 := Aside0.mk A90
    clear A90
    replace H := Option.bind_eq_some_iff.mp H
    obtain ⟨t467, A100, H⟩ := H
    replace H : ((cookie_Put.f ((a0 + ((t466) % 4294967296)) % 4294967296) t465).bind fun t468 => ((cookie_Get.f t467).bind fun bt469 => ((cookie_Get.f t468).bind fun bt471 => (if bt469.1 = bt471.1 then ((roundhouseref4_Less.f t467 t468).bind fun t473 => (some (t473 == (decide (t464 < t465))))) else ((roundhouseref4_Less.f t467 t468).bind fun t474 => (if t474 = true then ((roundhouseref4_Less.f t468 t467).bind fun t475 => (some (!t475))) else (some false))))))) = some r := H
    have A10 := Aside0.mk A100
    clear A100
    replace H := Option.bind_eq_some_iff.mp H
    obtain ⟨t468, A110, H⟩ := H
    replace H : ((cookie_Get.f t467).bind fun bt469 => ((cookie_Get.f t468).bind fun bt471 => (if bt469.1 = bt471.1 then ((roundhouseref4_Less.f t467 t468).bind fun t473 => (some (t473 == (decide (t464 < t465))))) else ((roundhouseref4_Less.f t467 t468).bind fun t474 => (if t474 = true then ((roundhouseref4_Less.f t468 t467).bind fun t475 => (some (!t475))) else (some false)))))) = some r := H
    have A11 := Aside0.mk A110
    clear A110
    replace H := Option.bind_eq_some_iff.mp H
    obtain ⟨⟨t469, t470⟩, A120, H⟩ := H
    replace H : ((cookie_Get.f t468).bind fun bt471 => (if t469 = bt471.1 then ((roundhouseref4_Less.f t467 t468).bind fun t473 => (some (t473 == (decide (t464 < t465))))) else ((roundhouseref4_Less.f t467 t468).bind fun t474 => (if t474 = true then ((roundhouseref4_Less.f t468 t467).bind fun t475 => (some (!t475))) else (some false))))) = some r := H
    have A12 := Aside0.mk A120
    clear A120
    replace H := Option.bind_eq_some_iff.mp H
    obtain ⟨⟨t471, t472⟩, A130, H⟩ := H
    replace H : (if t469 = t471 then ((roundhouseref4_Less.f t467 t468).bind fun t473 => (some (t473 == (decide (t464 < t465))))) else ((roundhouseref4_Less.f t467 t468).bind fun t474 => (if t474 = true then ((roundhouseref4_Less.f t468 t467).bind fun t475 => (some (!t475))) else (some false)))) = some r := H
    have A13 := Aside0.mk A130
    clear A130
    by_cases c14 : t469 = t471
    · rw [if_pos c14] at H
      have c14b0 : (t469 == t471) = true := beq_iff_eq.mpr c14
      have c14b1 : (t469 != t471) = false := bne_eq_false_iff_eq.mpr c14
      clear c14
      replace H := Option.bind_eq_some_iff.mp H
      obtain ⟨t473, A150, H⟩ := H
      replace H : (some (t473 == (decide (t464 < t465)))) = some r := H
      have A15 := Aside0.mk A150
      clear A150
      obtain rfl := Option.some.inj H
      go_enter Try.func8, Try.ntmps8
      go_wp2_with (first | ((with_reducible refine gate_callee (f := 16) rfl ?_); refine goesL_ (some 18) rfl rfl Try.func16 (by kernel_rfl) rfl #[] rfl (by (try simp only [List.map_toArray, List.map_cons, List.map_nil]); first | done | rfl | (simp only [List.length_drop, List.length_take]; rfl)) ?_; (with_reducible refine (roundhouselaw5_known.calls k  true _ A5.out).mono ?_); rintro e w16 ⟨rfl, hb⟩; refine ⟨_, rfl, ?_⟩; have n0_ := Aside0.mk (below_step (by repeat (first | (with_reducible first | exact HB.out | apply below_alloc | apply pw_below_drewN | apply below_drew1) | exact HB.out)) hb); clear HB; have HB := n0_; clear n0_; (try clear hb); (try clear hb2); (try clear hk); (try clear hi)) | ((with_reducible refine gate_callee (f := 18) rfl ?_); refine goesL_ (some 21) rfl rfl Try.func18 (by kernel_rfl) rfl #[.int .i64 a2, .int .i64 1048576] rfl (by (try simp only [List.map_toArray, List.map_cons, List.map_nil]); first | done | rfl | (simp only [List.length_drop, List.length_take]; rfl)) ?_; (with_reducible refine (roundhouselaw5_within.calls a2 1048576 t464 _ A7.out).mono ?_); rintro e w' ⟨rfl, ⟨nd, rfl⟩⟩; refine ⟨_, rfl, ?_⟩) | ((with_reducible refine gate_callee (f := 18) rfl ?_); refine goesL_ (some 23) rfl rfl Try.func18 (by kernel_rfl) rfl #[.int .i64 a3, .int .i64 1048576] rfl (by (try simp only [List.map_toArray, List.map_cons, List.map_nil]); first | done | rfl | (simp only [List.length_drop, List.length_take]; rfl)) ?_; (with_reducible refine (roundhouselaw5_within.calls a3 1048576 t465 _ A8.out).mono ?_); rintro e w' ⟨rfl, ⟨nd, rfl⟩⟩; refine ⟨_, rfl, ?_⟩) | ((with_reducible refine gate_callee (f := 18) rfl ?_); refine goesL_ (some 25) rfl rfl Try.func18 (by kernel_rfl) rfl #[.int .i64 a1, .int .i64 524032] rfl (by (try simp only [List.map_toArray, List.map_cons, List.map_nil]); first | done | rfl | (simp only [List.length_drop, List.length_take]; rfl)) ?_; (with_reducible refine (roundhouselaw5_within.calls a1 524032 t466 _ A9.out).mono ?_); rintro e w' ⟨rfl, ⟨nd, rfl⟩⟩; refine ⟨_, rfl, ?_⟩) | ((with_reducible refine gate_callee (f := 31) rfl ?_); refine goesL_ (some 28) rfl rfl Try.func31 (by kernel_rfl) rfl #[.int .u32 a0, .int .i64 t464] rfl (by (try simp only [List.map_toArray, List.map_cons, List.map_nil]); first | done | rfl | (simp only [List.length_drop, List.length_take]; rfl)) ?_; (with_reducible refine (cookie_Put.calls a0 t464 t467 _ A10.out).mono ?_); rintro e w' ⟨rfl, ⟨nd, rfl⟩⟩; refine ⟨_, rfl, ?_⟩) | ((with_reducible refine gate_callee (f := 31) rfl ?_); refine goesL_ (some 34) rfl rfl Try.func31 (by kernel_rfl) rfl #[.int .u32 ((a0 + ((t466) % 4294967296)) % 4294967296), .int .i64 t465] rfl (by (try simp only [List.map_toArray, List.map_cons, List.map_nil]); first | done | rfl | (simp only [List.length_drop, List.length_take]; rfl)) ?_; (with_reducible refine (cookie_Put.calls ((a0 + ((t466) % 4294967296)) % 4294967296) t465 t468 _ A11.out).mono ?_); rintro e w' ⟨rfl, ⟨nd, rfl⟩⟩; refine ⟨_, rfl, ?_⟩) | ((with_reducible refine gate_callee (f := 32) rfl ?_); refine goesL_ (some 37) rfl rfl Try.func32 (by kernel_rfl) rfl #[.int .u32 t467] rfl (by (try simp only [List.map_toArray, List.map_cons, List.map_nil]); first | done | rfl | (simp only [List.length_drop, List.length_take]; rfl)) ?_; (with_reducible refine (cookie_Get.calls t467 t469 t470 _ A12.out).mono ?_); rintro e w' ⟨rfl, ⟨nd, rfl⟩⟩; refine ⟨_, rfl, ?_⟩) | ((with_reducible refine gate_callee (f := 32) rfl ?_); refine goesL_ (some 42) rfl rfl Try.func32 (by kernel_rfl) rfl #[.int .u32 t468] rfl (by (try simp only [List.map_toArray, List.map_cons, List.map_nil]); first | done | rfl | (simp only [List.length_drop, List.length_take]; rfl)) ?_; (with_reducible refine (cookie_Get.calls t468 t471 t472 _ A13.out).mono ?_); rintro e w' ⟨rfl, ⟨nd, rfl⟩⟩; refine ⟨_, rfl, ?_⟩) | ((with_reducible refine gate_callee (f := 33) rfl ?_); refine goesL_ (some 50) rfl rfl Try.func33 (by kernel_rfl) rfl #[.int .u32 t467, .int .u32 t468] rfl (by (try simp only [List.map_toArray, List.map_cons, List.map_nil]); first | done | rfl | (simp only [List.length_drop, List.length_take]; rfl)) ?_; (with_reducible refine (roundhouseref4_Less.calls t467 t468 t473 _ A15.out).mono ?_); rintro e w' ⟨rfl, ⟨nd, rfl⟩⟩; refine ⟨_, rfl, ?_⟩))
      go_ret
      exact ⟨by first | rfl | (simp [errW_none, errW_some] <;> rfl) | (simp [*, errW_none, errW_some] <;> rfl), by repeat (first | (with_reducible first | exact HB.out | apply below_alloc | apply pw_below_drewN | apply below_drew1) | exact HB.out)⟩
    · rw [if_neg c14] at H
      have c14b0 : (t469 == t471) = false := beq_eq_false_iff_ne.mpr c14
      have c14b1 : (t469 != t471) = true := bne_iff_ne.mpr c14
      replace H := Option.bind_eq_some_iff.mp H
      obtain ⟨t474, A170, H⟩ := H
      replace H : (if t474 = true then ((roundhouseref4_Less.f t468 t467).bind fun t475 => (some (!t475))) else (some false)) = some r := H
      have A17 := Aside0.mk A170
      clear A170
      by_cases c18 : t474 = true
      · subst c18
        have H1 : ((roundhouseref4_Less.f t468 t467).bind fun t475 => (some (!t475))) = some r := by rw [if_pos rfl] at H; exact H
        clear H
        have H := H1
        clear H1
        replace H := Option.bind_eq_some_iff.mp H
        obtain ⟨t475, A190, H⟩ := H
        replace H : (some (!t475)) = some r := H
        have A19 := Aside0.mk A190
        clear A190
        obtain rfl := Option.some.inj H
        go_enter Try.func8, Try.ntmps8
        go_wp2_with (first | ((with_reducible refine gate_callee (f := 16) rfl ?_); refine goesL_ (some 18) rfl rfl Try.func16 (by kernel_rfl) rfl #[] rfl (by (try simp only [List.map_toArray, List.map_cons, List.map_nil]); first | done | rfl | (simp only [List.length_drop, List.length_take]; rfl)) ?_; (with_reducible refine (roundhouselaw5_known.calls k  true _ A5.out).mono ?_); rintro e w20 ⟨rfl, hb⟩; refine ⟨_, rfl, ?_⟩; have n0_ := Aside0.mk (below_step (by repeat (first | (with_reducible first | exact HB.out | apply below_alloc | apply pw_below_drewN | apply below_drew1) | exact HB.out)) hb); clear HB; have HB := n0_; clear n0_; (try clear hb); (try clear hb2); (try clear hk); (try clear hi)) | ((with_reducible refine gate_callee (f := 18) rfl ?_); refine goesL_ (some 21) rfl rfl Try.func18 (by kernel_rfl) rfl #[.int .i64 a2, .int .i64 1048576] rfl (by (try simp only [List.map_toArray, List.map_cons, List.map_nil]); first | done | rfl | (simp only [List.length_drop, List.length_take]; rfl)) ?_; (with_reducible refine (roundhouselaw5_within.calls a2 1048576 t464 _ A7.out).mono ?_); rintro e w' ⟨rfl, ⟨nd, rfl⟩⟩; refine ⟨_, rfl, ?_⟩) | ((with_reducible refine gate_callee (f := 18) rfl ?_); refine goesL_ (some 23) rfl rfl Try.func18 (by kernel_rfl) rfl #[.int .i64 a3, .int .i64 1048576] rfl (by (try simp only [List.map_toArray, List.map_cons, List.map_nil]); first | done | rfl | (simp only [List.length_drop, List.length_take]; rfl)) ?_; (with_reducible refine (roundhouselaw5_within.calls a3 1048576 t465 _ A8.out).mono ?_); rintro e w' ⟨rfl, ⟨nd, rfl⟩⟩; refine ⟨_, rfl, ?_⟩) | ((with_reducible refine gate_callee (f := 18) rfl ?_); refine goesL_ (some 25) rfl rfl Try.func18 (by kernel_rfl) rfl #[.int .i64 a1, .int .i64 524032] rfl (by (try simp only [List.map_toArray, List.map_cons, List.map_nil]); first | done | rfl | (simp only [List.length_drop, List.length_take]; rfl)) ?_; (with_reducible refine (roundhouselaw5_within.calls a1 524032 t466 _ A9.out).mono ?_); rintro e w' ⟨rfl, ⟨nd, rfl⟩⟩; refine ⟨_, rfl, ?_⟩) | ((with_reducible refine gate_callee (f := 31) rfl ?_); refine goesL_ (some 28) rfl rfl Try.func31 (by kernel_rfl) rfl #[.int .u32 a0, .int .i64 t464] rfl (by (try simp only [List.map_toArray, List.map_cons, List.map_nil]); first | done | rfl | (simp only [List.length_drop, List.length_take]; rfl)) ?_; (with_reducible refine (cookie_Put.calls a0 t464 t467 _ A10.out).mono ?_); rintro e w' ⟨rfl, ⟨nd, rfl⟩⟩; refine ⟨_, rfl, ?_⟩) | ((with_reducible refine gate_callee (f := 31) rfl ?_); refine goesL_ (some 34) rfl rfl Try.func31 (by kernel_rfl) rfl #[.int .u32 ((a0 + ((t466) % 4294967296)) % 4294967296), .int .i64 t465] rfl (by (try simp only [List.map_toArray, List.map_cons, List.map_nil]); first | done | rfl | (simp only [List.length_drop, List.length_take]; rfl)) ?_; (with_reducible refine (cookie_Put.calls ((a0 + ((t466) % 4294967296)) % 4294967296) t465 t468 _ A11.out).mono ?_); rintro e w' ⟨rfl, ⟨nd, rfl⟩⟩; refine ⟨_, rfl, ?_⟩) | ((with_reducible refine gate_callee (f := 32) rfl ?_); refine goesL_ (some 37) rfl rfl Try.func32 (by kernel_rfl) rfl #[.int .u32 t467] rfl (by (try simp only [List.map_toArray, List.map_cons, List.map_nil]); first | done | rfl | (simp only [List.length_drop, List.length_take]; rfl)) ?_; (with_reducible refine (cookie_Get.calls t467 t469 t470 _ A12.out).mono ?_); rintro e w' ⟨rfl, ⟨nd, rfl⟩⟩; refine ⟨_, rfl, ?_⟩) | ((with_reducible refine gate_callee (f := 32) rfl ?_); refine goesL_ (some 42) rfl rfl Try.func32 (by kernel_rfl) rfl #[.int .u32 t468] rfl (by (try simp only [List.map_toArray, List.map_cons, List.map_nil]); first | done | rfl | (simp only [List.length_drop, List.length_take]; rfl)) ?_; (with_reducible refine (cookie_Get.calls t468 t471 t472 _ A13.out).mono ?_); rintro e w' ⟨rfl, ⟨nd, rfl⟩⟩; refine ⟨_, rfl, ?_⟩) | ((with_reducible refine gate_callee (f := 33) rfl ?_); refine goesL_ (some 57) rfl rfl Try.func33 (by kernel_rfl) rfl #[.int .u32 t467, .int .u32 t468] rfl (by (try simp only [List.map_toArray, List.map_cons, List.map_nil]); first | done | rfl | (simp only [List.length_drop, List.length_take]; rfl)) ?_; (with_reducible refine (roundhouseref4_Less.calls t467 t468 true _ A17.out).mono ?_); rintro e w' ⟨rfl, ⟨nd, rfl⟩⟩; refine ⟨_, rfl, ?_⟩) | (go_at_call 33; (with_reducible refine (roundhouseref4_Less.calls t468 t467 t475 _ A19.out).mono ?_); rintro e w' ⟨rfl, ⟨nd, rfl⟩⟩))
        go_ret
        exact ⟨by first | rfl | (simp [errW_none, errW_some] <;> rfl) | (simp [*, errW_none, errW_some] <;> rfl), by repeat (first | (with_reducible first | exact HB.out | apply below_alloc | apply pw_below_drewN | apply below_drew1) | exact HB.out)⟩
      · replace c18 := Bool.eq_false_iff.mpr c18
        subst c18
        have H1 : (some false) = some r := by rw [if_neg (show ¬ (false = true) by decide)] at H; exact H
        clear H
        have H := H1
        clear H1
        obtain rfl := Option.some.inj H
        go_enter Try.func8, Try.ntmps8
        go_wp2_with (first | ((with_reducible refine gate_callee (f := 16) rfl ?_); refine goesL_ (some 18) rfl rfl Try.func16 (by kernel_rfl) rfl #[] rfl (by (try simp only [List.map_toArray, List.map_cons, List.map_nil]); first | done | rfl | (simp only [List.length_drop, List.length_take]; rfl)) ?_; (with_reducible refine (roundhouselaw5_known.calls k  true _ A5.out).mono ?_); rintro e w21 ⟨rfl, hb⟩; refine ⟨_, rfl, ?_⟩; have n0_ := Aside0.mk (below_step (by repeat (first | (with_reducible first | exact HB.out | apply below_alloc | apply pw_below_drewN | apply below_drew1) | exact HB.out)) hb); clear HB; have HB := n0_; clear n0_; (try clear hb); (try clear hb2); (try clear hk); (try clear hi)) | ((with_reducible refine gate_callee (f := 18) rfl ?_); refine goesL_ (some 21) rfl rfl Try.func18 (by kernel_rfl) rfl #[.int .i64 a2, .int .i64 1048576] rfl (by (try simp only [List.map_toArray, List.map_cons, List.map_nil]); first | done | rfl | (simp only [List.length_drop, List.length_take]; rfl)) ?_; (with_reducible refine (roundhouselaw5_within.calls a2 1048576 t464 _ A7.out).mono ?_); rintro e w' ⟨rfl, ⟨nd, rfl⟩⟩; refine ⟨_, rfl, ?_⟩) | ((with_reducible refine gate_callee (f := 18) rfl ?_); refine goesL_ (some 23) rfl rfl Try.func18 (by kernel_rfl) rfl #[.int .i64 a3, .int .i64 1048576] rfl (by (try simp only [List.map_toArray, List.map_cons, List.map_nil]); first | done | rfl | (simp only [List.length_drop, List.length_take]; rfl)) ?_; (with_reducible refine (roundhouselaw5_within.calls a3 1048576 t465 _ A8.out).mono ?_); rintro e w' ⟨rfl, ⟨nd, rfl⟩⟩; refine ⟨_, rfl, ?_⟩) | ((with_reducible refine gate_callee (f := 18) rfl ?_); refine goesL_ (some 25) rfl rfl Try.func18 (by kernel_rfl) rfl #[.int .i64 a1, .int .i64 524032] rfl (by (try simp only [List.map_toArray, List.map_cons, List.map_nil]); first | done | rfl | (simp only [List.length_drop, List.length_take]; rfl)) ?_; (with_reducible refine (roundhouselaw5_within.calls a1 524032 t466 _ A9.out).mono ?_); rintro e w' ⟨rfl, ⟨nd, rfl⟩⟩; refine ⟨_, rfl, ?_⟩) | ((with_reducible refine gate_callee (f := 31) rfl ?_); refine goesL_ (some 28) rfl rfl Try.func31 (by kernel_rfl) rfl #[.int .u32 a0, .int .i64 t464] rfl (by (try simp only [List.map_toArray, List.map_cons, List.map_nil]); first | done | rfl | (simp only [List.length_drop, List.length_take]; rfl)) ?_; (with_reducible refine (cookie_Put.calls a0 t464 t467 _ A10.out).mono ?_); rintro e w' ⟨rfl, ⟨nd, rfl⟩⟩; refine ⟨_, rfl, ?_⟩) | ((with_reducible refine gate_callee (f := 31) rfl ?_); refine goesL_ (some 34) rfl rfl Try.func31 (by kernel_rfl) rfl #[.int .u32 ((a0 + ((t466) % 4294967296)) % 4294967296), .int .i64 t465] rfl (by (try simp only [List.map_toArray, List.map_cons, List.map_nil]); first | done | rfl | (simp only [List.length_drop, List.length_take]; rfl)) ?_; (with_reducible refine (cookie_Put.calls ((a0 + ((t466) % 4294967296)) % 4294967296) t465 t468 _ A11.out).mono ?_); rintro e w' ⟨rfl, ⟨nd, rfl⟩⟩; refine ⟨_, rfl, ?_⟩) | ((with_reducible refine gate_callee (f := 32) rfl ?_); refine goesL_ (some 37) rfl rfl Try.func32 (by kernel_rfl) rfl #[.int .u32 t467] rfl (by (try simp only [List.map_toArray, List.map_cons, List.map_nil]); first | done | rfl | (simp only [List.length_drop, List.length_take]; rfl)) ?_; (with_reducible refine (cookie_Get.calls t467 t469 t470 _ A12.out).mono ?_); rintro e w' ⟨rfl, ⟨nd, rfl⟩⟩; refine ⟨_, rfl, ?_⟩) | ((with_reducible refine gate_callee (f := 32) rfl ?_); refine goesL_ (some 42) rfl rfl Try.func32 (by kernel_rfl) rfl #[.int .u32 t468] rfl (by (try simp only [List.map_toArray, List.map_cons, List.map_nil]); first | done | rfl | (simp only [List.length_drop, List.length_take]; rfl)) ?_; (with_reducible refine (cookie_Get.calls t468 t471 t472 _ A13.out).mono ?_); rintro e w' ⟨rfl, ⟨nd, rfl⟩⟩; refine ⟨_, rfl, ?_⟩) | ((with_reducible refine gate_callee (f := 33) rfl ?_); refine goesL_ (some 57) rfl rfl Try.func33 (by kernel_rfl) rfl #[.int .u32 t467, .int .u32 t468] rfl (by (try simp only [List.map_toArray, List.map_cons, List.map_nil]); first | done | rfl | (simp only [List.length_drop, List.length_take]; rfl)) ?_; (with_reducible refine (roundhouseref4_Less.calls t467 t468 false _ A17.out).mono ?_); rintro e w' ⟨rfl, ⟨nd, rfl⟩⟩; refine ⟨_, rfl, ?_⟩))
        go_ret
        exact ⟨by first | rfl | (simp [errW_none, errW_some] <;> rfl) | (simp [*, errW_none, errW_some] <;> rfl), by repeat (first | (with_reducible first | exact HB.out | apply below_alloc | apply pw_below_drewN | apply below_drew1) | exact HB.out)⟩
  · replace c6 := Bool.eq_false_iff.mpr c6
    subst c6
    have H1 : (some false) = some r := by rw [if_neg (show ¬ (false = true) by decide)] at H; exact H
    clear H
    have H := H1
    clear H1
    obtain rfl := Option.some.inj H
    go_enter Try.func8, Try.ntmps8
    go_wp2_with (first | ((with_reducible refine gate_callee (f := 16) rfl ?_); refine goesL_ (some 18) rfl rfl Try.func16 (by kernel_rfl) rfl #[] rfl (by (try simp only [List.map_toArray, List.map_cons, List.map_nil]); first | done | rfl | (simp only [List.length_drop, List.length_take]; rfl)) ?_; (with_reducible refine (roundhouselaw5_known.calls k  false _ A5.out).mono ?_); rintro e w22 ⟨rfl, hb⟩; refine ⟨_, rfl, ?_⟩; have n0_ := Aside0.mk (below_step (by repeat (first | (with_reducible first | exact HB.out | apply below_alloc | apply pw_below_drewN | apply below_drew1) | exact HB.out)) hb); clear HB; have HB := n0_; clear n0_; (try clear hb); (try clear hb2); (try clear hk); (try clear hi)))
    go_ret
    exact ⟨by first | rfl | (simp [errW_none, errW_some] <;> rfl) | (simp [*, errW_none, errW_some] <;> rfl), by repeat (first | (with_reducible first | exact HB.out | apply below_alloc | apply pw_below_drewN | apply below_drew1) | exact HB.out)⟩

/-- THE ONE PURE STATEMENT of roundhouselaw5_CookieOrder: yours. -/
def roundhouselaw5_CookieOrder.Pure : Prop := ∀ (a0 : Int) (a1 : Int) (a2 : Int) (a3 : Int), (Lit.int .u32 a0).wf = true → (Lit.int .i64 a1).wf = true → (Lit.int .i64 a2).wf = true → (Lit.int .i64 a3).wf = true → ∃ k, roundhouselaw5_CookieOrder.f k a0 a1 a2 a3 = some true
theorem roundhouselaw5_CookieOrder.walk (P : roundhouselaw5_CookieOrder.Pure) (a0 : Int) (a1 : Int) (a2 : Int) (a3 : Int) (w : World) (w0 : (Lit.int .u32 a0).wf = true) (w1 : (Lit.int .i64 a1).wf = true) (w2 : (Lit.int .i64 a2).wf = true) (w3 : (Lit.int .i64 a3).wf = true) :
    Calls Try.prog 8 #[.int .u32 a0, .int .i64 a1, .int .i64 a2, .int .i64 a3] w fun e w' => e = .returned (.bool true) ∧ Below w.heap.size w w' := by
  obtain ⟨k, h⟩ := P a0 a1 a2 a3 w0 w1 w2 w3
  refine (roundhouselaw5_CookieOrder.calls k a0 a1 a2 a3 true w h).mono ?_
  rintro e w' ⟨rfl, hd⟩
  exact ⟨rfl, hd⟩

end Go.Proofs.Ytnaplobnkmdfbaa.Q
