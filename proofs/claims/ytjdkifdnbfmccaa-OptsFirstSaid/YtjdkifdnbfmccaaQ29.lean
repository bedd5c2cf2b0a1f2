/- By a program of this session (wip/tools/myprint.py), out of the translation: for each Go function a plain Lean function, and that the call comes to what that function says; a law's row out of its plain statement. Lean checks it. -/
import Derived.Test.YtjdkifdnbfmccaaOptG
import Derived.Test.YtjdkifdnbfmccaaQ0
import Derived.Test.YtjdkifdnbfmccaaQ12
import Derived.Test.YtjdkifdnbfmccaaQ13
namespace Go.Proofs.Ytjdkifdnbfmccaa.Q
open Go.RowKit Go.Proofs.YtjdkifdnbfmccaaW.PrintWords Go.Proofs.YtjdkifdnbfmccaaW.PrintLast Go.Proofs.YtjdkifdnbfmccaaW.PrintMore
attribute [local go_sem] max2_int min2_int max_two min_two max_three min_three max_four min_four   -- for this text's walks alone
set_option linter.unusedVariables false
set_option linter.unusedSimpArgs false

open Go.Proofs.Ytjdkifdnbfmccaa.Own
/-! ### roundhouselaw4_OptsFirst: function 8 -/
def roundhouselaw4_OptsFirst.j0 : Nat → Int → Int → Int → Int → Int → Int → Bool → Option (Bool)
  | 0, _, _, _, _, _, _, _ => none
  | k + 1, x2, x3, x11, x18, x19, x20, x76 => if x76 = true then (some false) else (if x11 = 8 then (if x18 = 2 then (if x19 = 0 then (some (x20 == 0)) else (some false)) else (some false)) else (if x18 = (wrap64 ((wrap64 (2 + x11)) + 4)) then (if x19 = x2 then (some (x20 == x3)) else (some false)) else (some false)))
def roundhouselaw4_OptsFirst.f (k : Nat) (a0 : Int) (a1 : Int) (a2 : Int) (a3 : Int) (a4 : Int) : Option (Bool) := (roundhouselaw4_known.f k).bind fun t373 => (if t373 = true then ((roundhouselaw4_within.f a4 20).bind fun t374 => ((some (([8, (wrap64 (2 + t374)) % 256] : List Int) : List Int)).bind fun y375 => (if 0 ≤ t374 then (if y375.length + (t374 : Int).toNat < 140737488355328 then ((some (y375 ++ List.replicate (t374 : Int).toNat 0 : List Int)).bind fun y378 => ((opts_Make.f k a0 a1).bind fun t381 => ((opts_Make.f k a2 a3).bind fun t384 => (if t381.length + t384.length < 140737488355328 then ((opts_Stamp.f k (t381 ++ t384)).bind fun bt390 => ((opts_Make.f k a2 a3).bind fun t394 => (if y378.length + t394.length < 140737488355328 then ((opts_Stamp.f k (y378 ++ t394)).bind fun bt400 => (if bt390.2.2.2 = true then (if bt390.1 = 4 then (if bt390.2.1 = a0 then (if bt390.2.2.1 = a1 then (roundhouselaw4_OptsFirst.j0 k a2 a3 t374 bt400.1 bt400.2.1 bt400.2.2.1 (!bt400.2.2.2)) else (roundhouselaw4_OptsFirst.j0 k a2 a3 t374 bt400.1 bt400.2.1 bt400.2.2.1 true)) else (roundhouselaw4_OptsFirst.j0 k a2 a3 t374 bt400.1 bt400.2.1 bt400.2.2.1 true)) else (roundhouselaw4_OptsFirst.j0 k a2 a3 t374 bt400.1 bt400.2.1 bt400.2.2.1 true)) else (roundhouselaw4_OptsFirst.j0 k a2 a3 t374 bt400.1 bt400.2.1 bt400.2.2.1 true))) else (none)))) else (none))))) else (none)) else (none)))) else (some false))
theorem roundhouselaw4_OptsFirst.mono_l : ∀ k, (∀ y0 y1 y2 y3 y4 y5 y6, LeO (roundhouselaw4_OptsFirst.j0 k y0 y1 y2 y3 y4 y5 y6) (roundhouselaw4_OptsFirst.j0 (k + 1) y0 y1 y2 y3 y4 y5 y6))
  | 0 => fun _ _ _ _ _ _ _ r h => by simp [roundhouselaw4_OptsFirst.j0] at h
  | k + 1 => by
    have ih0 := roundhouselaw4_OptsFirst.mono_l k
    · intro y0 y1 y2 y3 y4 y5 y6
      unfold roundhouselaw4_OptsFirst.j0
      repeat' first
      | (with_reducible exact ih0 _ _ _ _ _ _ _)
      | (with_reducible exact opts_Make.mono _ _ _)
      | (with_reducible exact opts_Stamp.mono _ _)
      | (with_reducible exact roundhouselaw4_known.mono _)
      | (with_reducible exact LeO.refl _)
      | (with_reducible exact LeO.none _)
      | (with_reducible refine LeO.ite ?_ ?_)
      | (with_reducible refine LeO.bind ?_ (fun _ => ?_))
      | exact ih0 _ _ _ _ _ _ _
      | exact opts_Make.mono _ _ _
      | exact opts_Stamp.mono _ _
      | exact roundhouselaw4_known.mono _
      | exact LeO.none _
      | refine LeO.ite ?_ ?_
      | refine LeO.bind ?_ (fun _ => ?_)
theorem roundhouselaw4_OptsFirst.mono : ∀ a0 a1 a2 a3 a4 k, LeO (roundhouselaw4_OptsFirst.f k a0 a1 a2 a3 a4) (roundhouselaw4_OptsFirst.f (k + 1) a0 a1 a2 a3 a4) := by
  intro a0 a1 a2 a3 a4 k
  have ih0 := roundhouselaw4_OptsFirst.mono_l k
  unfold roundhouselaw4_OptsFirst.f
  repeat' first
      | (with_reducible exact ih0 _ _ _ _ _ _ _)
      | (with_reducible exact opts_Make.mono _ _ _)
      | (with_reducible exact opts_Stamp.mono _ _)
      | (with_reducible exact roundhouselaw4_known.mono _)
      | (with_reducible exact LeO.refl _)
      | (with_reducible exact LeO.none _)
      | (with_reducible refine LeO.ite ?_ ?_)
      | (with_reducible refine LeO.bind ?_ (fun _ => ?_))
      | exact ih0 _ _ _ _ _ _ _
      | exact opts_Make.mono _ _ _
      | exact opts_Stamp.mono _ _
      | exact roundhouselaw4_known.mono _
      | exact LeO.none _
      | refine LeO.ite ?_ ?_
      | refine LeO.bind ?_ (fun _ => ?_)
set_option maxHeartbeats 8000000 in
set_option maxRecDepth 100000 in
theorem roundhouselaw4_OptsFirst.calls (k : Nat) (a0 : Int) (a1 : Int) (a2 : Int) (a3 : Int) (a4 : Int) (r : Bool) (w : World) (h : roundhouselaw4_OptsFirst.f k a0 a1 a2 a3 a4 = some r) :
    Calls Try.prog 8 #[.int .u32 a0, .int .u32 a1, .int .u32 a2, .int .u32 a3, .int .i64 a4] w fun e w' => e = .returned (.bool r) ∧ Below w.heap.size w w' := by
  have HB := Aside0.mk (Below.refl w.heap.size w)
  have H : ((roundhouselaw4_known.f k).bind fun t373 => (if t373 = true then ((roundhouselaw4_within.f a4 20).bind fun t374 => ((some (([8, (wrap64 (2 + t374)) % 256] : List Int) : List Int)).bind fun y375 => (if 0 ≤ t374 then (if y375.length + (t374 : Int).toNat < 140737488355328 then ((some (y375 ++ List.replicate (t374 : Int).toNat 0 : List Int)).bind fun y378 => ((opts_Make.f k a0 a1).bind fun t381 => ((opts_Make.f k a2 a3).bind fun t384 => (if t381.length + t384.length < 140737488355328 then ((opts_Stamp.f k (t381 ++ t384)).bind fun bt390 => ((opts_Make.f k a2 a3).bind fun t394 => (if y378.length + t394.length < 140737488355328 then ((opts_Stamp.f k (y378 ++ t394)).bind fun bt400 => (if bt390.2.2.2 = true then (if bt390.1 = 4 then (if bt390.2.1 = a0 then (if bt390.2.2.1 = a1 then (roundhouselaw4_OptsFirst.j0 k a2 a3 t374 bt400.1 bt400.2.1 bt400.2.2.1 (!bt400.2.2.2)) else (roundhouselaw4_OptsFirst.j0 k a2 a3 t374 bt400.1 bt400.2.1 bt400.2.2.1 true)) else (roundhouselaw4_OptsFirst.j0 k a2 a3 t374 bt400.1 bt400.2.1 bt400.2.2.1 true)) else (roundhouselaw4_OptsFirst.j0 k a2 a3 t374 bt400.1 bt400.2.1 bt400.2.2.1 true)) else (roundhouselaw4_OptsFirst.j0 k a2 a3 t374 bt400.1 bt400.2.1 bt400.2.2.1 true))) else (none)))) else (none))))) else (none)) else (none)))) else (some false))) = some r := h
  clear h
  replace H := Option.bind_eq_some_iff.mp H
  obtain ⟨t373, A60, H⟩ := H
  replace H : (if t373 = true then ((roundhouselaw4_within.f a4 20).bind fun t374 => ((some (([8, (wrap64 (2 + t374)) % 256] : List Int) : List Int)).bind fun y375 => (if 0 ≤ t374 then (if y375.length + (t374 : Int).toNat < 140737488355328 then ((some (y375 ++ List.replicate (t374 : Int).toNat 0 : List Int)).bind fun y378 => ((opts_Make.f k a0 a1).bind fun t381 => ((opts_Make.f k a2 a3).bind fun t384 => (if t381.length + t384.length < 140737488355328 then ((opts_Stamp.f k (t381 ++ t384)).bind fun bt390 => ((opts_Make.f k a2 a3).bind fun t394 => (if y378.length + t394.length < 140737488355328 then ((opts_Stamp.f k (y378 ++ t394)).bind fun bt400 => (if bt390.2.2.2 = true then (if bt390.1 = 4 then (if bt390.2.1 = a0 then (if bt390.2.2.1 = a1 then (roundhouselaw4_OptsFirst.j0 k a2 a3 t374 bt400.1 bt400.2.1 bt400.2.2.1 (!bt400.2.2.2)) else (roundhouselaw4_OptsFirst.j0 k a2 a3 t374 bt400.1 bt400.2.1 bt400.2.2.1 true)) else (roundhouselaw4_OptsFirst.j0 k a2 a3 t374 bt400.1 bt400.2.1 bt400.2.2.1 true)) else (roundhouselaw4_OptsFirst.j0 k a2 a3 t374 bt400.1 bt400.2.1 bt400.2.2.1 true)) else (roundhouselaw4_OptsFirst.j0 k a2 a3 t374 bt400.1 bt400.2.1 bt400.2.2.1 true))) else (none)))) else (none))))) else (none)) else (none)))) else (some false)) = some r := H
  have A6 := Aside0.mk A60
  clear A60
  by_cases c7 : t373 = true
  · subst c7
    have H1 : ((roundhouselaw4_within.f a4 20).bind fun t374 => ((some (([8, (wrap64 (2 + t374)) % 256] : List Int) : List Int)).bind fun y375 => (if 0 ≤ t374 then (if y375.length + (t374 : Int).toNat < 140737488355328 then ((some (y375 ++ List.replicate (t374 : Int).toNat 0 : List Int)).bind fun y378 => ((opts_Make.f k a0 a1).bind fun t381 => ((opts_Make.f k a2 a3).bind fun t384 => (if t381.length + t384.length < 140737488355328 then ((opts_Stamp.f k (t381 ++ t384)).bind fun bt390 => ((opts_Make.f k a2 a3).bind fun t394 => (if y378.length + t394.length < 140737488355328 then ((opts_Stamp.f k (y378 ++ t394)).bind fun bt400 => (if bt390.2.2.2 = true then (if bt390.1 = 4 then (if bt390.2.1 = a0 then (if bt390.2.2.1 = a1 then (roundhouselaw4_OptsFirst.j0 k a2 a3 t374 bt400.1 bt400.2.1 bt400.2.2.1 (!bt400.2.2.2)) else (roundhouselaw4_OptsFirst.j0 k a2 a3 t374 bt400.1 bt400.2.1 bt400.2.2.1 true)) else (roundhouselaw4_OptsFirst.j0 k a2 a3 t374 bt400.1 bt400.2.1 bt400.2.2.1 true)) else (roundhouselaw4_OptsFirst.j0 k a2 a3 t374 bt400.1 bt400.2.1 bt400.2.2.1 true)) else (roundhouselaw4_OptsFirst.j0 k a2 a3 t374 bt400.1 bt400.2.1 bt400.2.2.1 true))) else (none)))) else (none))))) else (none)) else (none)))) = some r := by rw [if_pos rfl] at H; exact H
    clear H
    have H := H1
    clear H1
    replace H := Option.bind_eq_some_iff.mp H
    obtain ⟨t374, A80, H⟩ := H
    replace H : ((some (([8, (wrap64 (2 + t374)) % 256] : List Int) : List Int)).bind fun y375 => (if 0 ≤ t374 then (if y375.length + (t374 : Int).toNat < 140737488355328 then ((some (y375 ++ List.replicate (t374 : Int).toNat 0 : List Int)).bind fun y378 => ((opts_Make.f k a0 a1).bind fun t381 => ((opts_Make.f k a2 a3).bind fun t384 => (if t381.length + t384.length < 140737488355328 then ((opts_Stamp.f k (t381 ++ t384)).bind fun bt390 => ((opts_Make.f k a2 a3).bind fun t394 => (if y378.length + t394.length < 140737488355328 then ((opts_Stamp.f k (y378 ++ t394)).bind fun bt400 => (if bt390.2.2.2 = true then (if bt390.1 = 4 then (if bt390.2.1 = a0 then (if bt390.2.2.1 = a1 then (roundhouselaw4_OptsFirst.j0 k a2 a3 t374 bt400.1 bt400.2.1 bt400.2.2.1 (!bt400.2.2.2)) else (roundhouselaw4_OptsFirst.j0 k a2 a3 t374 bt400.1 bt400.2.1 bt400.2.2.1 true)) else (roundhouselaw4_OptsFirst.j0 k a2 a3 t374 bt400.1 bt400.2.1 bt400.2.2.1 true)) else (roundhouselaw4_OptsFirst.j0 k a2 a3 t374 bt400.1 bt400.2.1 bt400.2.2.1 true)) else (roundhouselaw4_OptsFirst.j0 k a2 a3 t374 bt400.1 bt400.2.1 bt400.2.2.1 true))) else (none)))) else (none))))) else (none)) else (none))) = some r := H
    have A8 := Aside0.mk A80
    clear A80
    obtain ⟨y375, hy375⟩ : ∃ y_ : List Int, y_ = (([8, (wrap64 (2 + t374)) % 256] : List Int)) := ⟨_, rfl⟩
    replace H : (if 0 ≤ t374 then (if y375.length + (t374 : Int).toNat < 140737488355328 then ((some (y375 ++ List.replicate (t374 : Int).toNat 0 : List Int)).bind fun y378 => ((opts_Make.f k a0 a1).bind fun t381 => ((opts_Make.f k a2 a3).bind fun t384 => (if t381.length + t384.length < 140737488355328 then ((opts_Stamp.f k (t381 ++ t384)).bind fun bt390 => ((opts_Make.f k a2 a3).bind fun t394 => (if y378.length + t394.length < 140737488355328 then ((opts_Stamp.f k (y378 ++ t394)).bind fun bt400 => (if bt390.2.2.2 = true then (if bt390.1 = 4 then (if bt390.2.1 = a0 then (if bt390.2.2.1 = a1 then (roundhouselaw4_OptsFirst.j0 k a2 a3 t374 bt400.1 bt400.2.1 bt400.2.2.1 (!bt400.2.2.2)) else (roundhouselaw4_OptsFirst.j0 k a2 a3 t374 bt400.1 bt400.2.1 bt400.2.2.1 true)) else (roundhouselaw4_OptsFirst.j0 k a2 a3 t374 bt400.1 bt400.2.1 bt400.2.2.1 true)) else (roundhouselaw4_OptsFirst.j0 k a2 a3 t374 bt400.1 bt400.2.1 bt400.2.2.1 true)) else (roundhouselaw4_OptsFirst.j0 k a2 a3 t374 bt400.1 bt400.2.1 bt400.2.2.1 true))) else (none)))) else (none))))) else (none)) else (none)) = some r := by first | (rw [hy375]; with_reducible exact H) | (have H2_ := (Option.bind_some _ _).symm.trans H; rw [hy375]; with_reducible exact H2_) | (have H2_ := (Option.bind_some _ _).symm.trans H; with_reducible exact H2_) | with_reducible exact H | (rw [hy375]; exact H) | exact H
    have Ny375 := Aside0.mk hy375
    clear hy375
    by_cases c9 : 0 ≤ t374
    · rw [if_pos c9] at H
      have c9b0 := eq_true c9
      have c9b1 : decide (0 ≤ t374) = true := decide_eq_true c9
      clear c9
      by_cases c10 : y375.length + (t374 : Int).toNat < 140737488355328
      · rw [if_pos c10] at H
        have LMc10 := Aside0.mk c10
        clear c10
        obtain ⟨y378, hy378⟩ : ∃ y_ : List Int, y_ = (y375 ++ List.replicate (t374 : Int).toNat 0) := ⟨_, rfl⟩
        replace H : ((opts_Make.f k a0 a1).bind fun t381 => ((opts_Make.f k a2 a3).bind fun t384 => (if t381.length + t384.length < 140737488355328 then ((opts_Stamp.f k (t381 ++ t384)).bind fun bt390 => ((opts_Make.f k a2 a3).bind fun t394 => (if y378.length + t394.length < 140737488355328 then ((opts_Stamp.f k (y378 ++ t394)).bind fun bt400 => (if bt390.2.2.2 = true then (if bt390.1 = 4 then (if bt390.2.1 = a0 then (if bt390.2.2.1 = a1 then (roundhouselaw4_OptsFirst.j0 k a2 a3 t374 bt400.1 bt400.2.1 bt400.2.2.1 (!bt400.2.2.2)) else (roundhouselaw4_OptsFirst.j0 k a2 a3 t374 bt400.1 bt400.2.1 bt400.2.2.1 true)) else (roundhouselaw4_OptsFirst.j0 k a2 a3 t374 bt400.1 bt400.2.1 bt400.2.2.1 true)) else (roundhouselaw4_OptsFirst.j0 k a2 a3 t374 bt400.1 bt400.2.1 bt400.2.2.1 true)) else (roundhouselaw4_OptsFirst.j0 k a2 a3 t374 bt400.1 bt400.2.1 bt400.2.2.1 true))) else (none)))) else (none)))) = some r := by first | (rw [hy378]; with_reducible exact H) | (have H2_ := (Option.bind_some _ _).symm.trans H; rw [hy378]; with_reducible exact H2_) | (have H2_ := (Option.bind_some _ _).symm.trans H; with_reducible exact H2_) | with_reducible exact H | (rw [hy378]; exact H) | exact H
        have Ny378 := Aside0.mk hy378
        clear hy378
        replace H := Option.bind_eq_some_iff.mp H
        obtain ⟨t381, A110, H⟩ := H
        replace H : ((opts_Make.f k a2 a3).bind fun t384 => (if t381.length + t384.length < 140737488355328 then ((opts_Stamp.f k (t381 ++ t384)).bind fun bt390 => ((opts_Make.f k a2 a3).bind fun t394 => (if y378.length + t394.length < 140737488355328 then ((opts_Stamp.f k (y378 ++ t394)).bind fun bt400 => (if bt390.2.2.2 = true then (if bt390.1 = 4 then (if bt390.2.1 = a0 then (if bt390.2.2.1 = a1 then (roundhouselaw4_OptsFirst.j0 k a2 a3 t374 bt400.1 bt400.2.1 bt400.2.2.1 (!bt400.2.2.2)) else (roundhouselaw4_OptsFirst.j0 k a2 a3 t374 bt400.1 bt400.2.1 bt400.2.2.1 true)) else (roundhouselaw4_OptsFirst.j0 k a2 a3 t374 bt400.1 bt400.2.1 bt400.2.2.1 true)) else (roundhouselaw4_OptsFirst.j0 k a2 a3 t374 bt400.1 bt400.2.1 bt400.2.2.1 true)) else (roundhouselaw4_OptsFirst.j0 k a2 a3 t374 bt400.1 bt400.2.1 bt400.2.2.1 true))) else (none)))) else (none))) = some r := H
        have A11 := Aside0.mk A110
        clear A110
        replace H := Option.bind_eq_some_iff.mp H
        obtain ⟨t384, A120, H⟩ := H
        replace H : (if t381.length + t384.length < 140737488355328 then ((opts_Stamp.f k (t381 ++ t384)).bind fun bt390 => ((opts_Make.f k a2 a3).bind fun t394 => (if y378.length + t394.length < 140737488355328 then ((opts_Stamp.f k (y378 ++ t394)).bind fun bt400 => (if bt390.2.2.2 = true then (if bt390.1 = 4 then (if bt390.2.1 = a0 then (if bt390.2.2.1 = a1 then (roundhouselaw4_OptsFirst.j0 k a2 a3 t374 bt400.1 bt400.2.1 bt400.2.2.1 (!bt400.2.2.2)) else (roundhouselaw4_OptsFirst.j0 k a2 a3 t374 bt400.1 bt400.2.1 bt400.2.2.1 true)) else (roundhouselaw4_OptsFirst.j0 k a2 a3 t374 bt400.1 bt400.2.1 bt400.2.2.1 true)) else (roundhouselaw4_OptsFirst.j0 k a2 a3 t374 bt400.1 bt400.2.1 bt400.2.2.1 true)) else (roundhouselaw4_OptsFirst.j0 k a2 a3 t374 bt400.1 bt400.2.1 bt400.2.2.1 true))) else (none)))) else (none)) = some r := H
        have A12 := Aside0.mk A120
        clear A120
        by_cases c13 : t381.length + t384.length < 140737488355328
        · rw [if_pos c13] at H
          have LMc13 := Aside0.mk c13
          clear c13
          obtain ⟨y387, hy387⟩ : ∃ y_ : List Int, y_ = (t381 ++ t384) := ⟨_, rfl⟩
          replace H : ((opts_Stamp.f k y387).bind fun bt390 => ((opts_Make.f k a2 a3).bind fun t394 => (if y378.length + t394.length < 140737488355328 then ((opts_Stamp.f k (y378 ++ t394)).bind fun bt400 => (if bt390.2.2.2 = true then (if bt390.1 = 4 then (if bt390.2.1 = a0 then (if bt390.2.2.1 = a1 then (roundhouselaw4_OptsFirst.j0 k a2 a3 t374 bt400.1 bt400.2.1 bt400.2.2.1 (!bt400.2.2.2)) else (roundhouselaw4_OptsFirst.j0 k a2 a3 t374 bt400.1 bt400.2.1 bt400.2.2.1 true)) else (roundhouselaw4_OptsFirst.j0 k a2 a3 t374 bt400.1 bt400.2.1 bt400.2.2.1 true)) else (roundhouselaw4_OptsFirst.j0 k a2 a3 t374 bt400.1 bt400.2.1 bt400.2.2.1 true)) else (roundhouselaw4_OptsFirst.j0 k a2 a3 t374 bt400.1 bt400.2.1 bt400.2.2.1 true))) else (none)))) = some r := by first | (rw [hy387]; with_reducible exact H) | (have H2_ := (Option.bind_some _ _).symm.trans H; rw [hy387]; with_reducible exact H2_) | (have H2_ := (Option.bind_some _ _).symm.trans H; with_reducible exact H2_) | with_reducible exact H | (rw [hy387]; exact H) | exact H
          have Ny387 := Aside0.mk hy387
          clear hy387
          replace H := Option.bind_eq_some_iff.mp H
          obtain ⟨⟨t390, t391, t392, t393⟩, A140, H⟩ := H
          replace H : ((opts_Make.f k a2 a3).bind fun t394 => (if y378.length + t394.length < 140737488355328 then ((opts_Stamp.f k (y378 ++ t394)).bind fun bt400 => (if t393 = true then (if t390 = 4 then (if t391 = a0 then (if t392 = a1 then (roundhouselaw4_OptsFirst.j0 k a2 a3 t374 bt400.1 bt400.2.1 bt400.2.2.1 (!bt400.2.2.2)) else (roundhouselaw4_OptsFirst.j0 k a2 a3 t374 bt400.1 bt400.2.1 bt400.2.2.1 true)) else (roundhouselaw4_OptsFirst.j0 k a2 a3 t374 bt400.1 bt400.2.1 bt400.2.2.1 true)) else (roundhouselaw4_OptsFirst.j0 k a2 a3 t374 bt400.1 bt400.2.1 bt400.2.2.1 true)) else (roundhouselaw4_OptsFirst.j0 k a2 a3 t374 bt400.1 bt400.2.1 bt400.2.2.1 true))) else (none))) = some r := H
          have A14 := Aside0.mk A140
          clear A140
          replace H := Option.bind_eq_some_iff.mp H
          obtain ⟨t394, A150, H⟩ := H
          replace H : (if y378.length + t394.length < 140737488355328 then ((opts_Stamp.f k (y378 ++ t394)).bind fun bt400 => (if t393 = true then (if t390 = 4 then (if t391 = a0 then (if t392 = a1 then (roundhouselaw4_OptsFirst.j0 k a2 a3 t374 bt400.1 bt400.2.1 bt400.2.2.1 (!bt400.2.2.2)) else (roundhouselaw4_OptsFirst.j0 k a2 a3 t374 bt400.1 bt400.2.1 bt400.2.2.1 true)) else (roundhouselaw4_OptsFirst.j0 k a2 a3 t374 bt400.1 bt400.2.1 bt400.2.2.1 true)) else (roundhouselaw4_OptsFirst.j0 k a2 a3 t374 bt400.1 bt400.2.1 bt400.2.2.1 true)) else (roundhouselaw4_OptsFirst.j0 k a2 a3 t374 bt400.1 bt400.2.1 bt400.2.2.1 true))) else (none)) = some r := H
          have A15 := Aside0.mk A150
          clear A150
          by_cases c16 : y378.length + t394.length < 140737488355328
          · rw [if_pos c16] at H
            have LMc16 := Aside0.mk c16
            clear c16
            obtain ⟨y397, hy397⟩ : ∃ y_ : List Int, y_ = (y378 ++ t394) := ⟨_, rfl⟩
            replace H : ((opts_Stamp.f k y397).bind fun bt400 => (if t393 = true then (if t390 = 4 then (if t391 = a0 then (if t392 = a1 then (roundhouselaw4_OptsFirst.j0 k a2 a3 t374 bt400.1 bt400.2.1 bt400.2.2.1 (!bt400.2.2.2)) else (roundhouselaw4_OptsFirst.j0 k a2 a3 t374 bt400.1 bt400.2.1 bt400.2.2.1 true)) else (roundhouselaw4_OptsFirst.j0 k a2 a3 t374 bt400.1 bt400.2.1 bt400.2.2.1 true)) else (roundhouselaw4_OptsFirst.j0 k a2 a3 t374 bt400.1 bt400.2.1 bt400.2.2.1 true)) else (roundhouselaw4_OptsFirst.j0 k a2 a3 t374 bt400.1 bt400.2.1 bt400.2.2.1 true))) = some r := by first | (rw [hy397]; with_reducible exact H) | (have H2_ := (Option.bind_some _ _).symm.trans H; rw [hy397]; with_reducible exact H2_) | (have H2_ := (Option.bind_some _ _).symm.trans H; with_reducible exact H2_) | with_reducible exact H | (rw [hy397]; exact H) | exact H
            have Ny397 := Aside0.mk hy397
            clear hy397
            replace H := Option.bind_eq_some_iff.mp H
            obtain ⟨⟨t400, t401, t402, t403⟩, A170, H⟩ := H
            replace H : (if t393 = true then (if t390 = 4 then (if t391 = a0 then (if t392 = a1 then (roundhouselaw4_OptsFirst.j0 k a2 a3 t374 t400 t401 t402 (!t403)) else (roundhouselaw4_OptsFirst.j0 k a2 a3 t374 t400 t401 t402 true)) else (roundhouselaw4_OptsFirst.j0 k a2 a3 t374 t400 t401 t402 true)) else (roundhouselaw4_OptsFirst.j0 k a2 a3 t374 t400 t401 t402 true)) else (roundhouselaw4_OptsFirst.j0 k a2 a3 t374 t400 t401 t402 true)) = some r := H
            have A17 := Aside0.mk A170
            clear A170
            have HC18 := Aside0.mk H
            clear H
            go_enter Try.func8, Try.ntmps8
            go_upto_region 8 with (first | ((with_reducible refine gate_callee (f := 13) rfl ?_); refine goesL_ (some 22) rfl rfl Try.func13 (by kernel_rfl) rfl #[] rfl (by (try simp only [List.map_toArray, List.map_cons, List.map_nil]); first | done | rfl | (simp only [List.length_drop, List.length_take]; rfl)) ?_; (with_reducible refine (roundhouselaw4_known.calls k  true _ A6.out).mono ?_); rintro e w19 ⟨rfl, hb⟩; refine ⟨_, rfl, ?_⟩; have n0_ := Aside0.mk (below_step (by repeat (first | (with_reducible first | exact HB.out | apply below_alloc | apply pw_below_drewN | apply below_drew1) | exact HB.out)) hb); clear HB; have HB := n0_; clear n0_; (try clear hb); (try clear hb2); (try clear hk); (try clear hi)) | ((with_reducible refine gate_callee (f := 15) rfl ?_); refine goesL_ (some 25) rfl rfl Try.func15 (by kernel_rfl) rfl #[.int .i64 a4, .int .i64 20] rfl (by (try simp only [List.map_toArray, List.map_cons, List.map_nil]); first | done | rfl | (simp only [List.length_drop, List.length_take]; rfl)) ?_; (with_reducible refine (roundhouselaw4_within.calls a4 20 t374 _ A8.out).mono ?_); rintro e w' ⟨rfl, ⟨nd, rfl⟩⟩; refine ⟨_, rfl, ?_⟩) | ((with_reducible refine gate_dst (N := 29) rfl ?_); refine Kd.R_lit (Kd.int .u8) _ 5 ?hg (N := 29) ?hd (xs := ([8, (wrap64 (2 + t374)) % 256] : List Int)) (inner := [.int .u8 8, .int .u8 ((wrap64 (2 + t374)) % 256)]) (ok := fun _ => True) (okp := fun _ => True) ?hr ?hp (fun _ hk => hk) trivial (Below.refl _ _) (Nat.le_refl _) (by simp) ?_; (case hd => rfl); (case hg => rfl); (case hr => first | (go_simp; done) | (go_simp; rfl)); (case hp => exact (Reps.one (show Kd.M (Kd.int .u8) _ _ _ 8 [.int .u8 8] from rfl) (Reps.one (show Kd.M (Kd.int .u8) _ _ _ ((wrap64 (2 + t374)) % 256) [.int .u8 ((wrap64 (2 + t374)) % 256)] from rfl) (Reps.none _ _)))); intro v376 w20 ho21 hb hg_ hnew_; clear hg_ hnew_; (first | rw [← Ny375.out] at ho21 | (simp only [Int.reduceToNat] at ho21; rw [← Ny375.out] at ho21)); have n0_ := Aside0.mk (Kd.R_lower ho21 (below_size (by repeat (first | (with_reducible first | exact HB.out | apply below_alloc | apply pw_below_drewN | apply below_drew1) | exact HB.out)))); have n1_ := Aside0.mk (below_step (by repeat (first | (with_reducible first | exact HB.out | apply below_alloc | apply pw_below_drewN | apply below_drew1) | exact HB.out)) hb); clear HB; have HO377 := n0_; have HB := n1_; clear n0_ n1_; clear hb ho21) | (at_builtin; refine Kd.R_append_zeros (Kd.int .u8) (w0 := w) w.heap.size rfl (.tmp 29) (.tmp 30) 23 3 5 (.int .u8 0) 1 rfl Try.underlying23 Try.underlying3 info5 rfl (by decide) (by omega) v376 y375 0 (t374 : Int) (fun _ => True) rfl rfl rfl ?aF ?aO (of_decide_eq_true (by first | (with_reducible assumption) | assumption)) ?aB ?aS ?aL ?_; (case aB => exact (by repeat (first | (with_reducible first | exact HB.out | apply below_alloc | apply pw_below_drewN | apply below_drew1) | exact HB.out))); (case aF => exact (fun _ _ => trivial)); (case aO => exact (by (with_reducible repeat (first | apply Kd.R_alloc | apply Kd.R_drewN | apply Kd.R_drew)); exact HO377.out)); (case aS => exact (below_size (by repeat (first | (with_reducible first | exact HB.out | apply below_alloc | apply pw_below_drewN | apply below_drew1) | exact HB.out)))); (case aL => have := LMc10.out; omega); intro v379 w22 ho hb hg hat; rw [← Ny378.out] at ho; have n0_ := Aside0.mk (hb); have n1_ := Aside0.mk (ho); clear HB; clear HO377; have HB := n0_; have HO380 := n1_; clear n0_ n1_; clear ho hb hg hat) | ((with_reducible refine gate_callee (f := 22) rfl ?_); refine goesL_ (some 34) rfl rfl Try.func22 (by kernel_rfl) rfl #[.int .u32 a0, .int .u32 a1] rfl (by (try simp only [List.map_toArray, List.map_cons, List.map_nil]); first | done | rfl | (simp only [List.length_drop, List.length_take]; rfl)) ?_; (with_reducible refine (opts_Make.calls k a0 a1 t381 _ A11.out).mono ?_); rintro e w23 ⟨v382, rfl, ho0, hb⟩; refine ⟨_, rfl, ?_⟩; have n0_ := Aside0.mk (Kd.R_elder' (by (with_reducible repeat (first | apply Kd.R_alloc | apply Kd.R_drewN | apply Kd.R_drew)); exact HO380.out) (Kd.R_base ho0) hb); have n1_ := Aside0.mk (Kd.R_lower (Kd.R_new' ho0 (Kd.R_lt (by (with_reducible repeat (first | apply Kd.R_alloc | apply Kd.R_drewN | apply Kd.R_drew)); exact HO380.out))) (below_size (by repeat (first | (with_reducible first | exact HB.out | apply below_alloc | apply pw_below_drewN | apply below_drew1) | exact HB.out)))); have n2_ := Aside0.mk (below_step (by repeat (first | (with_reducible first | exact HB.out | apply below_alloc | apply pw_below_drewN | apply below_drew1) | exact HB.out)) hb); clear HO380; clear HB; have HO380 := n0_; have HO383 := n1_; have HB := n2_; clear n0_ n1_ n2_; (try clear hb); (try clear hb2); (try clear hk); (try clear hi); (try clear ho0)) | ((with_reducible refine gate_callee (f := 22) rfl ?_); refine goesL_ (some 37) rfl rfl Try.func22 (by kernel_rfl) rfl #[.int .u32 a2, .int .u32 a3] rfl (by (try simp only [List.map_toArray, List.map_cons, List.map_nil]); first | done | rfl | (simp only [List.length_drop, List.length_take]; rfl)) ?_; (with_reducible refine (opts_Make.calls k a2 a3 t384 _ A12.out).mono ?_); rintro e w24 ⟨v385, rfl, ho0, hb⟩; refine ⟨_, rfl, ?_⟩; have n0_ := Aside0.mk (Kd.R_elder' (by (with_reducible repeat (first | apply Kd.R_alloc | apply Kd.R_drewN | apply Kd.R_drew)); exact HO380.out) (Kd.R_base ho0) hb); have n1_ := Aside0.mk (Kd.R_elder' (by (with_reducible repeat (first | apply Kd.R_alloc | apply Kd.R_drewN | apply Kd.R_drew)); exact HO383.out) (Kd.R_base ho0) hb); have n2_ := Aside0.mk (Kd.R_lower (Kd.R_new' (Kd.R_new' ho0 (Kd.R_lt (by (with_reducible repeat (first | apply Kd.R_alloc | apply Kd.R_drewN | apply Kd.R_drew)); exact HO380.out))) (Kd.R_lt (by (with_reducible repeat (first | apply Kd.R_alloc | apply Kd.R_drewN | apply Kd.R_drew)); exact HO383.out))) (below_size (by repeat (first | (with_reducible first | exact HB.out | apply below_alloc | apply pw_below_drewN | apply below_drew1) | exact HB.out)))); have n3_ := Aside0.mk (below_step (by repeat (first | (with_reducible first | exact HB.out | apply below_alloc | apply pw_below_drewN | apply below_drew1) | exact HB.out)) hb); clear HO380; clear HO383; clear HB; have HO380 := n0_; have HO383 := n1_; have HO386 := n2_; have HB := n3_; clear n0_ n1_ n2_ n3_; (try clear hb); (try clear hb2); (try clear hk); (try clear hi); (try clear ho0); obtain ⟨Ao26, co26, eo26⟩ := Kd.R_slice HO386.out; subst eo26) | ((with_reducible refine gate_builtin (b := .append) (xs := #[.tmp 34, .tmp 37]) rfl ?_); at_builtin; refine Kd.R_append_rows (Kd.int .u8) (w0 := w) w.heap.size rfl (.tmp 34) (.tmp 37) 23 5 (.int .u8 0) 1 rfl Try.underlying23 info5 rfl (by decide) (by omega) v382 t381 t384 _ _ _ (fun k_ => some k_ ≠ (v379 : Value).ownBlock ∧ some k_ ≠ (.slice Ao26 t384.length co26 : Value).ownBlock) (fun _ => False) rfl rfl ?aO ?aR (fun _ _ h => h) (fun _ h => h.elim) ?aF ?aB ?aS ?aL ?_; (case aR => repeat (first | exact (Kd.R_reads' HO386.out).2.2 | (with_reducible refine Kd.C_alloc ?_ _) | (with_reducible refine Kd.C_drewN ?_ _) | (with_reducible refine Kd.C_drew ?_))); (case aB => exact (by repeat (first | (with_reducible first | exact HB.out | apply below_alloc | apply pw_below_drewN | apply below_drew1) | exact HB.out))); (case aF => exact (fun k_ hk => ⟨Kd.fresh' (Kd.R_lt (by (with_reducible repeat (first | apply Kd.R_alloc | apply Kd.R_drewN | apply Kd.R_drew)); exact HO380.out)) k_ hk, Kd.fresh' (Kd.R_lt (by (with_reducible repeat (first | apply Kd.R_alloc | apply Kd.R_drewN | apply Kd.R_drew)); exact HO386.out)) k_ hk⟩)); (case aO => exact (by (with_reducible repeat (first | apply Kd.R_alloc | apply Kd.R_drewN | apply Kd.R_drew)); exact Kd.R_mono HO383.out (fun _ hk => ⟨hk.1.2, hk.2⟩))); (case aS => exact (below_size (by repeat (first | (with_reducible first | exact HB.out | apply below_alloc | apply pw_below_drewN | apply below_drew1) | exact HB.out)))); (case aL => have := LMc13.out; omega); intro v388 w25 ho hb hg hat; rw [← Ny387.out] at ho; have n0_ := Aside0.mk (Kd.R_after (ok := (fun k_ => some k_ ≠ (.slice Ao26 t384.length co26 : Value).ownBlock)) (by (with_reducible repeat (first | apply Kd.R_alloc | apply Kd.R_drewN | apply Kd.R_drew)); exact Kd.R_mono HO380.out (fun _ hk => ⟨hk.2, hk.1.2⟩)) hg hat); have n1_ := Aside0.mk (Kd.R_after (ok := (fun k_ => some k_ ≠ (v379 : Value).ownBlock)) (by (with_reducible repeat (first | apply Kd.R_alloc | apply Kd.R_drewN | apply Kd.R_drew)); exact Kd.R_mono HO386.out (fun _ hk => ⟨hk.1.2, hk.2⟩)) hg hat); have n2_ := Aside0.mk (hb); have n3_ := Aside0.mk (ho); clear HO380; clear HO386; clear HB; clear HO383; have HO380 := n0_; have HO386 := n1_; have HB := n2_; have HO389 := n3_; clear n0_ n1_ n2_ n3_; clear ho hb hg hat; obtain ⟨Ao27, co27, eo27⟩ := Kd.R_slice HO389.out; subst eo27) | ((with_reducible refine gate_callee (f := 18) rfl ?_); refine goesL_ (some 41) rfl rfl Try.func18 (by kernel_rfl) rfl #[.slice Ao27 y387.length co27] rfl (by (try simp only [List.map_toArray, List.map_cons, List.map_nil]); first | done | rfl | (simp only [List.length_drop, List.length_take]; rfl)) ?_; (with_reducible refine (opts_Stamp.calls k _ _ y387 t390 t391 t392 t393 _ ?side1 ?side2 A14.out).mono ?_); (case side1 => repeat (first | exact (Kd.R_reads' HO389.out).2.2 | (with_reducible refine Kd.C_alloc ?_ _) | (with_reducible refine Kd.C_drewN ?_ _) | (with_reducible refine Kd.C_drew ?_))); (case side2 => exact (Kd.R_reads' HO389.out).2.1); rintro e w28 ⟨rfl, hb⟩; refine ⟨_, rfl, ?_⟩; have n0_ := Aside0.mk (Kd.R_below (by (with_reducible repeat (first | apply Kd.R_alloc | apply Kd.R_drewN | apply Kd.R_drew)); exact HO380.out) hb); have n1_ := Aside0.mk (Kd.R_below (by (with_reducible repeat (first | apply Kd.R_alloc | apply Kd.R_drewN | apply Kd.R_drew)); exact HO386.out) hb); have n2_ := Aside0.mk (Kd.R_below (by (with_reducible repeat (first | apply Kd.R_alloc | apply Kd.R_drewN | apply Kd.R_drew)); exact HO389.out) hb); have n3_ := Aside0.mk (below_step (by repeat (first | (with_reducible first | exact HB.out | apply below_alloc | apply pw_below_drewN | apply below_drew1) | exact HB.out)) hb); clear HO380; clear HO386; clear HO389; clear HB; have HO380 := n0_; have HO386 := n1_; have HO389 := n2_; have HB := n3_; clear n0_ n1_ n2_ n3_; (try clear hb); (try clear hb2); (try clear hk); (try clear hi)) | ((with_reducible refine gate_callee (f := 22) rfl ?_); refine goesL_ (some 50) rfl rfl Try.func22 (by kernel_rfl) rfl #[.int .u32 a2, .int .u32 a3] rfl (by (try simp only [List.map_toArray, List.map_cons, List.map_nil]); first | done | rfl | (simp only [List.length_drop, List.length_take]; rfl)) ?_; (with_reducible refine (opts_Make.calls k a2 a3 t394 _ A15.out).mono ?_); rintro e w29 ⟨v395, rfl, ho0, hb⟩; refine ⟨_, rfl, ?_⟩; have n0_ := Aside0.mk (Kd.R_elder' (by (with_reducible repeat (first | apply Kd.R_alloc | apply Kd.R_drewN | apply Kd.R_drew)); exact HO380.out) (Kd.R_base ho0) hb); have n1_ := Aside0.mk (Kd.R_elder' (by (with_reducible repeat (first | apply Kd.R_alloc | apply Kd.R_drewN | apply Kd.R_drew)); exact HO386.out) (Kd.R_base ho0) hb); have n2_ := Aside0.mk (Kd.R_elder' (by (with_reducible repeat (first | apply Kd.R_alloc | apply Kd.R_drewN | apply Kd.R_drew)); exact HO389.out) (Kd.R_base ho0) hb); have n3_ := Aside0.mk (Kd.R_lower (Kd.R_new' (Kd.R_new' (Kd.R_new' ho0 (Kd.R_lt (by (with_reducible repeat (first | apply Kd.R_alloc | apply Kd.R_drewN | apply Kd.R_drew)); exact HO380.out))) (Kd.R_lt (by (with_reducible repeat (first | apply Kd.R_alloc | apply Kd.R_drewN | apply Kd.R_drew)); exact HO386.out))) (Kd.R_lt (by (with_reducible repeat (first | apply Kd.R_alloc | apply Kd.R_drewN | apply Kd.R_drew)); exact HO389.out))) (below_size (by repeat (first | (with_reducible first | exact HB.out | apply below_alloc | apply pw_below_drewN | apply below_drew1) | exact HB.out)))); have n4_ := Aside0.mk (below_step (by repeat (first | (with_reducible first | exact HB.out | apply below_alloc | apply pw_below_drewN | apply below_drew1) | exact HB.out)) hb); clear HO380; clear HO386; clear HO389; clear HB; have HO380 := n0_; have HO386 := n1_; have HO389 := n2_; have HO396 := n3_; have HB := n4_; clear n0_ n1_ n2_ n3_ n4_; (try clear hb); (try clear hb2); (try clear hk); (try clear hi); (try clear ho0); obtain ⟨Ao31, co31, eo31⟩ := Kd.R_slice HO396.out; subst eo31) | ((with_reducible refine gate_builtin (b := .append) (xs := #[.tmp 47, .tmp 50]) rfl ?_); at_builtin; refine Kd.R_append_rows (Kd.int .u8) (w0 := w) w.heap.size rfl (.tmp 47) (.tmp 50) 23 5 (.int .u8 0) 1 rfl Try.underlying23 info5 rfl (by decide) (by omega) v379 y378 t394 _ _ _ (fun k_ => some k_ ≠ (.slice Ao26 t384.length co26 : Value).ownBlock ∧ some k_ ≠ (.slice Ao27 y387.length co27 : Value).ownBlock ∧ some k_ ≠ (.slice Ao31 t394.length co31 : Value).ownBlock) (fun _ => False) rfl rfl ?aO ?aR (fun _ _ h => h) (fun _ h => h.elim) ?aF ?aB ?aS ?aL ?_; (case aR => repeat (first | exact (Kd.R_reads' HO396.out).2.2 | (with_reducible refine Kd.C_alloc ?_ _) | (with_reducible refine Kd.C_drewN ?_ _) | (with_reducible refine Kd.C_drew ?_))); (case aB => exact (by repeat (first | (with_reducible first | exact HB.out | apply below_alloc | apply pw_below_drewN | apply below_drew1) | exact HB.out))); (case aF => exact (fun k_ hk => ⟨Kd.fresh' (Kd.R_lt (by (with_reducible repeat (first | apply Kd.R_alloc | apply Kd.R_drewN | apply Kd.R_drew)); exact HO386.out)) k_ hk, Kd.fresh' (Kd.R_lt (by (with_reducible repeat (first | apply Kd.R_alloc | apply Kd.R_drewN | apply Kd.R_drew)); exact HO389.out)) k_ hk, Kd.fresh' (Kd.R_lt (by (with_reducible repeat (first | apply Kd.R_alloc | apply Kd.R_drewN | apply Kd.R_drew)); exact HO396.out)) k_ hk⟩)); (case aO => exact (by (with_reducible repeat (first | apply Kd.R_alloc | apply Kd.R_drewN | apply Kd.R_drew)); exact Kd.R_mono HO380.out (fun _ hk => ⟨hk.1.1, ⟨hk.1.2, hk.2⟩⟩))); (case aS => exact (below_size (by repeat (first | (with_reducible first | exact HB.out | apply below_alloc | apply pw_below_drewN | apply below_drew1) | exact HB.out)))); (case aL => have := LMc16.out; omega); intro v398 w30 ho hb hg hat; rw [← Ny397.out] at ho; have n0_ := Aside0.mk (Kd.R_after (ok := (fun k_ => some k_ ≠ (.slice Ao27 y387.length co27 : Value).ownBlock ∧ some k_ ≠ (.slice Ao31 t394.length co31 : Value).ownBlock)) (by (with_reducible repeat (first | apply Kd.R_alloc | apply Kd.R_drewN | apply Kd.R_drew)); exact Kd.R_mono HO386.out (fun _ hk => ⟨⟨hk.1.2, hk.2⟩, hk.1.1⟩)) hg hat); have n1_ := Aside0.mk (Kd.R_after (ok := (fun k_ => some k_ ≠ (.slice Ao26 t384.length co26 : Value).ownBlock ∧ some k_ ≠ (.slice Ao31 t394.length co31 : Value).ownBlock)) (by (with_reducible repeat (first | apply Kd.R_alloc | apply Kd.R_drewN | apply Kd.R_drew)); exact Kd.R_mono HO389.out (fun _ hk => ⟨⟨hk.1.2, hk.2⟩, hk.1.1⟩)) hg hat); have n2_ := Aside0.mk (Kd.R_after (ok := (fun k_ => some k_ ≠ (.slice Ao26 t384.length co26 : Value).ownBlock ∧ some k_ ≠ (.slice Ao27 y387.length co27 : Value).ownBlock)) (by (with_reducible repeat (first | apply Kd.R_alloc | apply Kd.R_drewN | apply Kd.R_drew)); exact Kd.R_mono HO396.out (fun _ hk => ⟨⟨hk.1.2, hk.2⟩, hk.1.1.2⟩)) hg hat); have n3_ := Aside0.mk (hb); have n4_ := Aside0.mk (ho); clear HO386; clear HO389; clear HO396; clear HB; clear HO380; have HO386 := n0_; have HO389 := n1_; have HO396 := n2_; have HB := n3_; have HO399 := n4_; clear n0_ n1_ n2_ n3_ n4_; clear ho hb hg hat; obtain ⟨Ao32, co32, eo32⟩ := Kd.R_slice HO399.out; subst eo32) | ((with_reducible refine gate_callee (f := 18) rfl ?_); refine goesL_ (some 52) rfl rfl Try.func18 (by kernel_rfl) rfl #[.slice Ao32 y397.length co32] rfl (by (try simp only [List.map_toArray, List.map_cons, List.map_nil]); first | done | rfl | (simp only [List.length_drop, List.length_take]; rfl)) ?_; (with_reducible refine (opts_Stamp.calls k _ _ y397 t400 t401 t402 t403 _ ?side1 ?side2 A17.out).mono ?_); (case side1 => repeat (first | exact (Kd.R_reads' HO399.out).2.2 | (with_reducible refine Kd.C_alloc ?_ _) | (with_reducible refine Kd.C_drewN ?_ _) | (with_reducible refine Kd.C_drew ?_))); (case side2 => exact (Kd.R_reads' HO399.out).2.1); rintro e w33 ⟨rfl, hb⟩; refine ⟨_, rfl, ?_⟩; have n0_ := Aside0.mk (Kd.R_below (by (with_reducible repeat (first | apply Kd.R_alloc | apply Kd.R_drewN | apply Kd.R_drew)); exact HO386.out) hb); have n1_ := Aside0.mk (Kd.R_below (by (with_reducible repeat (first | apply Kd.R_alloc | apply Kd.R_drewN | apply Kd.R_drew)); exact HO389.out) hb); have n2_ := Aside0.mk (Kd.R_below (by (with_reducible repeat (first | apply Kd.R_alloc | apply Kd.R_drewN | apply Kd.R_drew)); exact HO396.out) hb); have n3_ := Aside0.mk (Kd.R_below (by (with_reducible repeat (first | apply Kd.R_alloc | apply Kd.R_drewN | apply Kd.R_drew)); exact HO399.out) hb); have n4_ := Aside0.mk (below_step (by repeat (first | (with_reducible first | exact HB.out | apply below_alloc | apply pw_below_drewN | apply below_drew1) | exact HB.out)) hb); clear HO386; clear HO389; clear HO396; clear HO399; clear HB; have HO386 := n0_; have HO389 := n1_; have HO396 := n2_; have HO399 := n3_; have HB := n4_; clear n0_ n1_ n2_ n3_ n4_; (try clear hb); (try clear hb2); (try clear hk); (try clear hi)))
            (try simp only [Act.put, List.setIfInBounds_toArray, List.set_cons_zero, List.set_cons_succ])
            go_cut [76] (fun v76 wc => ∃ (kq : Nat) (x76_17 : Bool), v76 = .bool x76_17 ∧ Aside0 (roundhouselaw4_OptsFirst.j0 kq a2 a3 t374 t400 t401 t402 x76_17 = some r) ∧ Aside0 (kq ≤ k) ∧ Aside0 (Below w.heap.size w wc))
            case first =>
              have H := HC18.out
              clear HC18
              by_cases c34 : t393 = true
              · subst c34
                have H1 : (if t390 = 4 then (if t391 = a0 then (if t392 = a1 then (roundhouselaw4_OptsFirst.j0 k a2 a3 t374 t400 t401 t402 (!t403)) else (roundhouselaw4_OptsFirst.j0 k a2 a3 t374 t400 t401 t402 true)) else (roundhouselaw4_OptsFirst.j0 k a2 a3 t374 t400 t401 t402 true)) else (roundhouselaw4_OptsFirst.j0 k a2 a3 t374 t400 t401 t402 true)) = some r := by rw [if_pos rfl] at H; exact H
                clear H
                have H := H1
                clear H1
                by_cases c35 : t390 = 4
                · rw [if_pos c35] at H
                  have c35b0 : (t390 == 4) = true := beq_iff_eq.mpr c35
                  have c35b1 : (t390 != 4) = false := bne_eq_false_iff_eq.mpr c35
                  clear c35
                  (first | rw [c35b0] | (simp only [i64_w, i32_w]; rw [c35b0]) | skip)
                  by_cases c36 : t391 = a0
                  · rw [if_pos c36] at H
                    have c36b0 : (t391 == a0) = true := beq_iff_eq.mpr c36
                    have c36b1 : (t391 != a0) = false := bne_eq_false_iff_eq.mpr c36
                    clear c36
                    by_cases c37 : t392 = a1
                    · rw [if_pos c37] at H
                      have c37b0 : (t392 == a1) = true := beq_iff_eq.mpr c37
                      have c37b1 : (t392 != a1) = false := bne_eq_false_iff_eq.mpr c37
                      clear c37
                      have H' := Aside0.mk H
                      clear H
                      go_wp2
                      go_meet
                      case rel => exact ⟨_, (!t403), (by first | rfl | (simp; done) | (simp [*]; done)), H', ⟨by first | omega | exact Nat.le_refl _⟩, ⟨by repeat (first | (with_reducible first | exact HB.out | apply below_alloc | apply pw_below_drewN | apply below_drew1) | exact HB.out)⟩⟩
                    · rw [if_neg c37] at H
                      have c37b0 : (t392 == a1) = false := beq_eq_false_iff_ne.mpr c37
                      have c37b1 : (t392 != a1) = true := bne_iff_ne.mpr c37
                      have H' := Aside0.mk H
                      clear H
                      go_wp2
                      go_meet
                      case rel => exact ⟨_, (true), (by first | rfl | (simp; done) | (simp [*]; done)), H', ⟨by first | omega | exact Nat.le_refl _⟩, ⟨by repeat (first | (with_reducible first | exact HB.out | apply below_alloc | apply pw_below_drewN | apply below_drew1) | exact HB.out)⟩⟩
                  · rw [if_neg c36] at H
                    have c36b0 : (t391 == a0) = false := beq_eq_false_iff_ne.mpr c36
                    have c36b1 : (t391 != a0) = true := bne_iff_ne.mpr c36
                    have H' := Aside0.mk H
                    clear H
                    go_wp2
                    go_meet
                    case rel => exact ⟨_, (true), (by first | rfl | (simp; done) | (simp [*]; done)), H', ⟨by first | omega | exact Nat.le_refl _⟩, ⟨by repeat (first | (with_reducible first | exact HB.out | apply below_alloc | apply pw_below_drewN | apply below_drew1) | exact HB.out)⟩⟩
                · rw [if_neg c35] at H
                  have c35b0 : (t390 == 4) = false := beq_eq_false_iff_ne.mpr c35
                  have c35b1 : (t390 != 4) = true := bne_iff_ne.mpr c35
                  (first | rw [c35b0] | (simp only [i64_w, i32_w]; rw [c35b0]) | skip)
                  have H' := Aside0.mk H
                  clear H
                  go_wp2
                  go_meet
                  case rel => exact ⟨_, (true), (by first | rfl | (simp; done) | (simp [*]; done)), H', ⟨by first | omega | exact Nat.le_refl _⟩, ⟨by repeat (first | (with_reducible first | exact HB.out | apply below_alloc | apply pw_below_drewN | apply below_drew1) | exact HB.out)⟩⟩
              · replace c34 := Bool.eq_false_iff.mpr c34
                subst c34
                have H1 : (roundhouselaw4_OptsFirst.j0 k a2 a3 t374 t400 t401 t402 true) = some r := by rw [if_neg (show ¬ (false = true) by decide)] at H; exact H
                clear H
                have H := H1
                clear H1
                have H' := Aside0.mk H
                clear H
                go_wp2
                go_meet
                case rel => exact ⟨_, (true), (by first | rfl | (simp; done) | (simp [*]; done)), H', ⟨by first | omega | exact Nat.le_refl _⟩, ⟨by repeat (first | (with_reducible first | exact HB.out | apply below_alloc | apply pw_below_drewN | apply below_drew1) | exact HB.out)⟩⟩
            case rest =>
              clear HC18
              try clear c1
              try clear c2
              try clear p2
              try clear c3
              try clear p6
              try clear c7
              try clear c8
              try clear c9
              try clear c9b0
              try clear c9b1
              try clear c10
              try clear c13
              try clear c15
              try clear c16
              try clear c18
              try clear c22
              try clear c34
              try clear c35
              try clear c35b0
              try clear c35b1
              try clear c36
              try clear c36b0
              try clear c36b1
              try clear c37
              try clear c37b0
              try clear c37b1
              obtain ⟨kq, x76_17, rfl, HA, HJ17, HB⟩ := hcut
              cases kq with
              | zero => exact absurd HA.out (by simp [roundhouselaw4_OptsFirst.j0])
              | succ kj17 =>
                have H := HA.out
                clear HA
                simp only [roundhouselaw4_OptsFirst.j0] at H
                by_cases c38 : x76_17 = true
                · subst c38
                  have H1 : (some false) = some r := by rw [if_pos rfl] at H; exact H
                  clear H
                  have H := H1
                  clear H1
                  obtain rfl := Option.some.inj H
                  go_wp2
                  go_ret
                  exact ⟨by first | rfl | (simp [errW_none, errW_some] <;> rfl) | (simp [*, errW_none, errW_some] <;> rfl), by repeat (first | (with_reducible first | exact HB.out | apply below_alloc | apply pw_below_drewN | apply below_drew1) | exact HB.out)⟩
                · replace c38 := Bool.eq_false_iff.mpr c38
                  subst c38
                  have H1 : (if t374 = 8 then (if t400 = 2 then (if t401 = 0 then (some (t402 == 0)) else (some false)) else (some false)) else (if t400 = (wrap64 ((wrap64 (2 + t374)) + 4)) then (if t401 = a2 then (some (t402 == a3)) else (some false)) else (some false))) = some r := by rw [if_neg (show ¬ (false = true) by decide)] at H; exact H
                  clear H
                  have H := H1
                  clear H1
                  by_cases c39 : t374 = 8
                  · rw [if_pos c39] at H
                    have c39b0 : (t374 == 8) = true := beq_iff_eq.mpr c39
                    have c39b1 : (t374 != 8) = false := bne_eq_false_iff_eq.mpr c39
                    clear c39
                    by_cases c40 : t400 = 2
                    · rw [if_pos c40] at H
                      have c40b0 : (t400 == 2) = true := beq_iff_eq.mpr c40
                      have c40b1 : (t400 != 2) = false := bne_eq_false_iff_eq.mpr c40
                      clear c40
                      by_cases c41 : t401 = 0
                      · rw [if_pos c41] at H
                        have c41b0 : (t401 == 0) = true := beq_iff_eq.mpr c41
                        have c41b1 : (t401 != 0) = false := bne_eq_false_iff_eq.mpr c41
                        clear c41
                        obtain rfl := Option.some.inj H
                        go_wp2
                        go_ret
                        exact ⟨by first | rfl | (simp [errW_none, errW_some] <;> rfl) | (simp [*, errW_none, errW_some] <;> rfl), by repeat (first | (with_reducible first | exact HB.out | apply below_alloc | apply pw_below_drewN | apply below_drew1) | exact HB.out)⟩
                      · rw [if_neg c41] at H
                        have c41b0 : (t401 == 0) = false := beq_eq_false_iff_ne.mpr c41
                        have c41b1 : (t401 != 0) = true := bne_iff_ne.mpr c41
                        obtain rfl := Option.some.inj H
                        go_wp2
                        go_ret
                        exact ⟨by first | rfl | (simp [errW_none, errW_some] <;> rfl) | (simp [*, errW_none, errW_some] <;> rfl), by repeat (first | (with_reducible first | exact HB.out | apply below_alloc | apply pw_below_drewN | apply below_drew1) | exact HB.out)⟩
                    · rw [if_neg c40] at H
                      have c40b0 : (t400 == 2) = false := beq_eq_false_iff_ne.mpr c40
                      have c40b1 : (t400 != 2) = true := bne_iff_ne.mpr c40
                      obtain rfl := Option.some.inj H
                      go_wp2
                      go_ret
                      exact ⟨by first | rfl | (simp [errW_none, errW_some] <;> rfl) | (simp [*, errW_none, errW_some] <;> rfl), by repeat (first | (with_reducible first | exact HB.out | apply below_alloc | apply pw_below_drewN | apply below_drew1) | exact HB.out)⟩
                  · rw [if_neg c39] at H
                    have c39b0 : (t374 == 8) = false := beq_eq_false_iff_ne.mpr c39
                    have c39b1 : (t374 != 8) = true := bne_iff_ne.mpr c39
                    by_cases c42 : t400 = (wrap64 ((wrap64 (2 + t374)) + 4))
                    · rw [if_pos c42] at H
                      have c42b0 : (t400 == (wrap64 ((wrap64 (2 + t374)) + 4))) = true := beq_iff_eq.mpr c42
                      have c42b1 : (t400 != (wrap64 ((wrap64 (2 + t374)) + 4))) = false := bne_eq_false_iff_eq.mpr c42
                      clear c42
                      by_cases c43 : t401 = a2
                      · rw [if_pos c43] at H
                        have c43b0 : (t401 == a2) = true := beq_iff_eq.mpr c43
                        have c43b1 : (t401 != a2) = false := bne_eq_false_iff_eq.mpr c43
                        clear c43
                        obtain rfl := Option.some.inj H
                        go_wp2
                        go_ret
                        exact ⟨by first | rfl | (simp [errW_none, errW_some] <;> rfl) | (simp [*, errW_none, errW_some] <;> rfl), by repeat (first | (with_reducible first | exact HB.out | apply below_alloc | apply pw_below_drewN | apply below_drew1) | exact HB.out)⟩
                      · rw [if_neg c43] at H
                        have c43b0 : (t401 == a2) = false := beq_eq_false_iff_ne.mpr c43
                        have c43b1 : (t401 != a2) = true := bne_iff_ne.mpr c43
                        obtain rfl := Option.some.inj H
                        go_wp2
                        go_ret
                        exact ⟨by first | rfl | (simp [errW_none, errW_some] <;> rfl) | (simp [*, errW_none, errW_some] <;> rfl), by repeat (first | (with_reducible first | exact HB.out | apply below_alloc | apply pw_below_drewN | apply below_drew1) | exact HB.out)⟩
                    · rw [if_neg c42] at H
                      have c42b0 : (t400 == (wrap64 ((wrap64 (2 + t374)) + 4))) = false := beq_eq_false_iff_ne.mpr c42
                      have c42b1 : (t400 != (wrap64 ((wrap64 (2 + t374)) + 4))) = true := bne_iff_ne.mpr c42
                      obtain rfl := Option.some.inj H
                      go_wp2
                      go_ret
                      exact ⟨by first | rfl | (simp [errW_none, errW_some] <;> rfl) | (simp [*, errW_none, errW_some] <;> rfl), by repeat (first | (with_reducible first | exact HB.out | apply below_alloc | apply pw_below_drewN | apply below_drew1) | exact HB.out)⟩
          · rw [if_neg c16] at H
            exact absurd H (by simp)
        · rw [if_neg c13] at H
          exact absurd H (by simp)
      · rw [if_neg c10] at H
        exact absurd H (by simp)
    · rw [if_neg c9] at H
      exact absurd H (by simp)
  · replace c7 := Bool.eq_false_iff.mpr c7
    subst c7
    have H1 : (some false) = some r := by rw [if_neg (show ¬ (false = true) by decide)] at H; exact H
    clear H
    have H := H1
    clear H1
    obtain rfl := Option.some.inj H
    go_enter Try.func8, Try.ntmps8
    go_wp2_with (first | ((with_reducible refine gate_callee (f := 13) rfl ?_); refine goesL_ (some 22) rfl rfl Try.func13 (by kernel_rfl) rfl #[] rfl (by (try simp only [List.map_toArray, List.map_cons, List.map_nil]); first | done | rfl | (simp only [List.length_drop, List.length_take]; rfl)) ?_; (with_reducible refine (roundhouselaw4_known.calls k  false _ A6.out).mono ?_); rintro e w44 ⟨rfl, hb⟩; refine ⟨_, rfl, ?_⟩; have n0_ := Aside0.mk (below_step (by repeat (first | (with_reducible first | exact HB.out | apply below_alloc | apply pw_below_drewN | apply below_drew1) | exact HB.out)) hb); clear HB; have HB := n0_; clear n0_; (try clear hb); (try clear hb2); (try clear hk); (try clear hi)))
    go_ret
    exact ⟨by first | rfl | (simp [errW_none, errW_some] <;> rfl) | (simp [*, errW_none, errW_some] <;> rfl), by repeat (first | (with_reducible first | exact HB.out | apply below_alloc | apply pw_below_drewN | apply below_drew1) | exact HB.out)⟩

/-- THE ONE PURE STATEMENT of roundhouselaw4_OptsFirst: yours. -/
def roundhouselaw4_OptsFirst.Pure : Prop := ∀ (a0 : Int) (a1 : Int) (a2 : Int) (a3 : Int) (a4 : Int), (Lit.int .u32 a0).wf = true → (Lit.int .u32 a1).wf = true → (Lit.int .u32 a2).wf = true → (Lit.int .u32 a3).wf = true → (Lit.int .i64 a4).wf = true → ∃ k, roundhouselaw4_OptsFirst.f k a0 a1 a2 a3 a4 = some true
theorem roundhouselaw4_OptsFirst.walk (P : roundhouselaw4_OptsFirst.Pure) (a0 : Int) (a1 : Int) (a2 : Int) (a3 : Int) (a4 : Int) (w : World) (w0 : (Lit.int .u32 a0).wf = true) (w1 : (Lit.int .u32 a1).wf = true) (w2 : (Lit.int .u32 a2).wf = true) (w3 : (Lit.int .u32 a3).wf = true) (w4 : (Lit.int .i64 a4).wf = true) :
    Calls Try.prog 8 #[.int .u32 a0, .int .u32 a1, .int .u32 a2, .int .u32 a3, .int .i64 a4] w fun e w' => e = .returned (.bool true) ∧ Below w.heap.size w w' := by
  obtain ⟨k, h⟩ := P a0 a1 a2 a3 a4 w0 w1 w2 w3 w4
  refine (roundhouselaw4_OptsFirst.calls k a0 a1 a2 a3 a4 true w h).mono ?_
  rintro e w' ⟨rfl, hd⟩
  exact ⟨rfl, hd⟩

end Go.Proofs.Ytjdkifdnbfmccaa.Q
