/- By a program of this session (wip/tools/myprint.py), out of the translation: for each Go function a plain Lean function, and that the call comes to what that function says; a law's row out of its plain statement. Lean checks it. -/
import Derived.Test.YtnaplobnkmdfbaaCookG
import Derived.Test.YtnaplobnkmdfbaaQ0
import Derived.Test.YtnaplobnkmdfbaaQ18
import Derived.Test.YtnaplobnkmdfbaaQ21
import Derived.Test.YtnaplobnkmdfbaaQ26
import Derived.Test.YtnaplobnkmdfbaaQ31
import Derived.Test.YtnaplobnkmdfbaaQ42
import Derived.Test.YtnaplobnkmdfbaaQ45
namespace Go.Proofs.Ytnaplobnkmdfbaa.Q
open Go.RowKit Go.Proofs.YtnaplobnkmdfbaaW.PrintWords Go.Proofs.YtnaplobnkmdfbaaW.PrintLast Go.Proofs.YtnaplobnkmdfbaaW.PrintMore
attribute [local go_sem] max2_int min2_int max_two min_two max_three min_three max_four min_four   -- for this text's walks alone
set_option linter.unusedVariables false
set_option linter.unusedSimpArgs false

open Go.Proofs.Ytnaplobnkmdfbaa.Own
attribute [local go_sem high] eqA32
/-! ### roundhouselaw5_CookieFlows: function 12 -/
def roundhouselaw5_CookieFlows.j0 : Nat → Int → Int → Int → Int → Int → Int → Int → Int → Int → Int → Int → Int → Int → Int → Int → Int → Option (Bool)
  | 0, _, _, _, _, _, _, _, _, _, _, _, _, _, _, _, _ => none
  | k + 1, x4, x540000, x540001, x540002, x540003, x540004, x540005, x540006, x545000, x545001, x545002, x545003, x546000, x546001, x546002, x546003 => (roundhouselaw5_within.f x4 64).bind fun t547 => ((cookie_Make.f k x540000 x540001 x540002 x540003 x540004 x540005 x540006 1 x546000 x546001 x546002 x546003 t547).bind fun t548 => ((cookie_Make.f k x540000 x540001 x540002 x540003 x540004 x540005 x540006 2 x546000 x546001 x546002 x546003 t547).bind fun t549 => ((cookie_Read.f k x540000 x540001 x540002 x540003 x540004 x540005 x540006 1 x545000 x545001 x545002 x545003 t548).bind fun bt550 => ((roundhouseref5_Read.f k x540000 x540001 x540002 x540003 x540004 x540005 x540006 1 x545000 x545001 x545002 x545003 t548).bind fun bt552 => ((roundhouseref5_Make.f k x540000 x540001 x540002 x540003 x540004 x540005 x540006 1 x546000 x546001 x546002 x546003 t547).bind fun t554 => (if t548 = t554 then ((roundhouseref5_Make.f k x540000 x540001 x540002 x540003 x540004 x540005 x540006 2 x546000 x546001 x546002 x546003 t547).bind fun t555 => (if t549 = t555 then (if bt550.1 = bt552.1 then (if (bt550.2 == bt552.2) = true then (if (!(x545000 == x546000) || (!(x545001 == x546001) || (!(x545002 == x546002) || (!(x545003 == x546003))))) = true then (some true) else (if bt550.2 = true then (some (bt550.1 == t547)) else (some false))) else (some false)) else (some false)) else (some false))) else (some false)))))))
def roundhouselaw5_CookieFlows.f (k : Nat) (a0 : Int) (a1 : Int) (a2 : Int) (a3 : Int) (a4 : Int) (a5 : Int) (a6 : Int) : Option (Bool) := (roundhouselaw5_known.f k).bind fun t531 => (if t531 = true then ((roundhouselaw5_Ring.f k a0 a1).bind fun bt532 => ((roundhouselaw5_Flow.f a2 a3).bind fun bt540 => ((roundhouselaw5_within.f a5 4).bind fun t546 => (if t546 = 0 then (roundhouselaw5_CookieFlows.j0 k a4 bt532.1 bt532.2.1 bt532.2.2.1 bt532.2.2.2.1 bt532.2.2.2.2.1 bt532.2.2.2.2.2.1 bt532.2.2.2.2.2.2 bt540.1 bt540.2.1 bt540.2.2.1 bt540.2.2.2 (Int.tmod (wrap64 (bt540.1 + (Go.bits .and .i64 a6 255))) 4294967296) bt540.2.1 bt540.2.2.1 bt540.2.2.2) else (if t546 = 1 then (roundhouselaw5_CookieFlows.j0 k a4 bt532.1 bt532.2.1 bt532.2.2.1 bt532.2.2.2.1 bt532.2.2.2.2.1 bt532.2.2.2.2.2.1 bt532.2.2.2.2.2.2 bt540.1 bt540.2.1 bt540.2.2.1 bt540.2.2.2 bt540.1 (Int.tmod (wrap64 (bt540.2.1 + (Go.bits .and .i64 a6 255))) 65536) bt540.2.2.1 bt540.2.2.2) else (if t546 = 2 then (roundhouselaw5_CookieFlows.j0 k a4 bt532.1 bt532.2.1 bt532.2.2.1 bt532.2.2.2.1 bt532.2.2.2.2.1 bt532.2.2.2.2.2.1 bt532.2.2.2.2.2.2 bt540.1 bt540.2.1 bt540.2.2.1 bt540.2.2.2 bt540.1 bt540.2.1 (Int.tmod (wrap64 (bt540.2.2.1 + (Go.bits .and .i64 a6 255))) 4294967296) bt540.2.2.2) else (if t546 = 3 then (roundhouselaw5_CookieFlows.j0 k a4 bt532.1 bt532.2.1 bt532.2.2.1 bt532.2.2.2.1 bt532.2.2.2.2.1 bt532.2.2.2.2.2.1 bt532.2.2.2.2.2.2 bt540.1 bt540.2.1 bt540.2.2.1 bt540.2.2.2 bt540.1 bt540.2.1 bt540.2.2.1 (Int.tmod (wrap64 (bt540.2.2.2 + (Go.bits .and .i64 a6 255))) 65536)) else (roundhouselaw5_CookieFlows.j0 k a4 bt532.1 bt532.2.1 bt532.2.2.1 bt532.2.2.2.1 bt532.2.2.2.2.1 bt532.2.2.2.2.2.1 bt532.2.2.2.2.2.2 bt540.1 bt540.2.1 bt540.2.2.1 bt540.2.2.2 bt540.1 bt540.2.1 bt540.2.2.1 bt540.2.2.2)))))))) else (some false))
theorem roundhouselaw5_CookieFlows.mono_l : ∀ k, (∀ y0 y1 y2 y3 y4 y5 y6 y7 y8 y9 y10 y11 y12 y13 y14 y15, LeO (roundhouselaw5_CookieFlows.j0 k y0 y1 y2 y3 y4 y5 y6 y7 y8 y9 y10 y11 y12 y13 y14 y15) (roundhouselaw5_CookieFlows.j0 (k + 1) y0 y1 y2 y3 y4 y5 y6 y7 y8 y9 y10 y11 y12 y13 y14 y15))
  | 0 => fun _ _ _ _ _ _ _ _ _ _ _ _ _ _ _ _ r h => by simp [roundhouselaw5_CookieFlows.j0] at h
  | k + 1 => by
    have ih0 := roundhouselaw5_CookieFlows.mono_l k
    · intro y0 y1 y2 y3 y4 y5 y6 y7 y8 y9 y10 y11 y12 y13 y14 y15
      unfold roundhouselaw5_CookieFlows.j0
      repeat' first
      | (with_reducible exact ih0 _ _ _ _ _ _ _ _ _ _ _ _ _ _ _ _)
      | (with_reducible exact cookie_Make.mono _ _ _ _ _ _ _ _ _ _ _ _ _ _)
      | (with_reducible exact cookie_Read.mono _ _ _ _ _ _ _ _ _ _ _ _ _ _)
      | (with_reducible exact roundhouselaw5_Ring.mono _ _ _)
      | (with_reducible exact roundhouselaw5_known.mono _)
      | (with_reducible exact roundhouseref5_Make.mono _ _ _ _ _ _ _ _ _ _ _ _ _ _)
      | (with_reducible exact roundhouseref5_Read.mono _ _ _ _ _ _ _ _ _ _ _ _ _ _)
      | (with_reducible exact LeO.refl _)
      | (with_reducible exact LeO.none _)
      | (with_reducible refine LeO.ite ?_ ?_)
      | (with_reducible refine LeO.bind ?_ (fun _ => ?_))
      | exact ih0 _ _ _ _ _ _ _ _ _ _ _ _ _ _ _ _
      | exact cookie_Make.mono _ _ _ _ _ _ _ _ _ _ _ _ _ _
      | exact cookie_Read.mono _ _ _ _ _ _ _ _ _ _ _ _ _ _
      | exact roundhouselaw5_Ring.mono _ _ _
      | exact roundhouselaw5_known.mono _
      | exact roundhouseref5_Make.mono _ _ _ _ _ _ _ _ _ _ _ _ _ _
      | exact roundhouseref5_Read.mono _ _ _ _ _ _ _ _ _ _ _ _ _ _
      | exact LeO.none _
      | refine LeO.ite ?_ ?_
      | refine LeO.bind ?_ (fun _ => ?_)
theorem roundhouselaw5_CookieFlows.mono : ∀ a0 a1 a2 a3 a4 a5 a6 k, LeO (roundhouselaw5_CookieFlows.f k a0 a1 a2 a3 a4 a5 a6) (roundhouselaw5_CookieFlows.f (k + 1) a0 a1 a2 a3 a4 a5 a6) := by
  intro a0 a1 a2 a3 a4 a5 a6 k
  have ih0 := roundhouselaw5_CookieFlows.mono_l k
  unfold roundhouselaw5_CookieFlows.f
  repeat' first
      | (with_reducible exact ih0 _ _ _ _ _ _ _ _ _ _ _ _ _ _ _ _)
      | (with_reducible exact cookie_Make.mono _ _ _ _ _ _ _ _ _ _ _ _ _ _)
      | (with_reducible exact cookie_Read.mono _ _ _ _ _ _ _ _ _ _ _ _ _ _)
      | (with_reducible exact roundhouselaw5_Ring.mono _ _ _)
      | (with_reducible exact roundhouselaw5_known.mono _)
      | (with_reducible exact roundhouseref5_Make.mono _ _ _ _ _ _ _ _ _ _ _ _ _ _)
      | (with_reducible exact roundhouseref5_Read.mono _ _ _ _ _ _ _ _ _ _ _ _ _ _)
      | (with_reducible exact LeO.refl _)
      | (with_reducible exact LeO.none _)
      | (with_reducible refine LeO.ite ?_ ?_)
      | (with_reducible refine LeO.bind ?_ (fun _ => ?_))
      | exact ih0 _ _ _ _ _ _ _ _ _ _ _ _ _ _ _ _
      | exact cookie_Make.mono _ _ _ _ _ _ _ _ _ _ _ _ _ _
      | exact cookie_Read.mono _ _ _ _ _ _ _ _ _ _ _ _ _ _
      | exact roundhouselaw5_Ring.mono _ _ _
      | exact roundhouselaw5_known.mono _
      | exact roundhouseref5_Make.mono _ _ _ _ _ _ _ _ _ _ _ _ _ _
      | exact roundhouseref5_Read.mono _ _ _ _ _ _ _ _ _ _ _ _ _ _
      | exact LeO.none _
      | refine LeO.ite ?_ ?_
      | refine LeO.bind ?_ (fun _ => ?_)
def roundhouselaw5_CookieFlows.T16 : Bool × List (List Nat × List Nat) := (true, [([], []), ([], []), ([], []), ([0, 1, 2], [0, 1, 2]), ([], []), ([], []), ([], []), ([4, 5, 6, 3], [4, 5, 6]), ([3, 7, 0, 1, 2, 3], [3]), ([7, 8, 0, 1, 2, 3, 4, 5, 6, 7, 8], [7])])
def roundhouselaw5_CookieFlows.B16 : List Nat := [0, 0, 0, 7, 0, 0, 0, 127, 255, 511]
theorem roundhouselaw5_CookieFlows.tab16 : rtab .any (opsOf Try.f12 16) = roundhouselaw5_CookieFlows.T16 := by kernel_rfl
theorem roundhouselaw5_CookieFlows.bits16 : waitsOk roundhouselaw5_CookieFlows.T16.2 roundhouselaw5_CookieFlows.B16 = true := by kernel_rfl
set_option maxHeartbeats 8000000 in
set_option maxRecDepth 100000 in
theorem roundhouselaw5_CookieFlows.calls (k : Nat) (a0 : Int) (a1 : Int) (a2 : Int) (a3 : Int) (a4 : Int) (a5 : Int) (a6 : Int) (r : Bool) (w : World) (h : roundhouselaw5_CookieFlows.f k a0 a1 a2 a3 a4 a5 a6 = some r) (hr_ : Aside0 (r = true)) :
    Calls Try.prog 12 #[.int .i64 a0, .int .i64 a1, .int .i64 a2, .int .i64 a3, .int .i64 a4, .int .i64 a5, .int .i64 a6] w fun e w' => e = .returned (.bool r) ∧ Below w.heap.size w w' := by
  have hu27 := Try.underlying27
  have hu32 := Try.underlying32
  have HB := Aside0.mk (Below.refl w.heap.size w)
  have H : ((roundhouselaw5_known.f k).bind fun t531 => (if t531 = true then ((roundhouselaw5_Ring.f k a0 a1).bind fun bt532 => ((roundhouselaw5_Flow.f a2 a3).bind fun bt540 => ((roundhouselaw5_within.f a5 4).bind fun t546 => (if t546 = 0 then (roundhouselaw5_CookieFlows.j0 k a4 bt532.1 bt532.2.1 bt532.2.2.1 bt532.2.2.2.1 bt532.2.2.2.2.1 bt532.2.2.2.2.2.1 bt532.2.2.2.2.2.2 bt540.1 bt540.2.1 bt540.2.2.1 bt540.2.2.2 (Int.tmod (wrap64 (bt540.1 + (Go.bits .and .i64 a6 255))) 4294967296) bt540.2.1 bt540.2.2.1 bt540.2.2.2) else (if t546 = 1 then (roundhouselaw5_CookieFlows.j0 k a4 bt532.1 bt532.2.1 bt532.2.2.1 bt532.2.2.2.1 bt532.2.2.2.2.1 bt532.2.2.2.2.2.1 bt532.2.2.2.2.2.2 bt540.1 bt540.2.1 bt540.2.2.1 bt540.2.2.2 bt540.1 (Int.tmod (wrap64 (bt540.2.1 + (Go.bits .and .i64 a6 255))) 65536) bt540.2.2.1 bt540.2.2.2) else (if t546 = 2 then (roundhouselaw5_CookieFlows.j0 k a4 bt532.1 bt532.2.1 bt532.2.2.1 bt532.2.2.2.1 bt532.2.2.2.2.1 bt532.2.2.2.2.2.1 bt532.2.2.2.2.2.2 bt540.1 bt540.2.1 bt540.2.2.1 bt540.2.2.2 bt540.1 bt540.2.1 (Int.tmod (wrap64 (bt540.2.2.1 + (Go.bits .and .i64 a6 255))) 4294967296) bt540.2.2.2) else (if t546 = 3 then (roundhouselaw5_CookieFlows.j0 k a4 bt532.1 bt532.2.1 bt532.2.2.1 bt532.2.2.2.1 bt532.2.2.2.2.1 bt532.2.2.2.2.2.1 bt532.2.2.2.2.2.2 bt540.1 bt540.2.1 bt540.2.2.1 bt540.2.2.2 bt540.1 bt540.2.1 bt540.2.2.1 (Int.tmod (wrap64 (bt540.2.2.2 + (Go.bits .and .i64 a6 255))) 65536)) else (roundhouselaw5_CookieFlows.j0 k a4 bt532.1 bt532.2.1 bt532.2.2.1 bt532.2.2.2.1 bt532.2.2.2.2.1 bt532.2.2.2.2.2.1 bt532.2.2.2.2.2.2 bt540.1 bt540.2.1 bt540.2.2.1 bt540.2.2.2 bt540.1 bt540.2.1 bt540.2.2.1 bt540.2.2.2)))))))) else (some false))) = some r := h
  clear h
  replace H := Option.bind_eq_some_iff.mp H
  obtain ⟨t531, A80, H⟩ := H
  replace H : (if t531 = true then ((roundhouselaw5_Ring.f k a0 a1).bind fun bt532 => ((roundhouselaw5_Flow.f a2 a3).bind fun bt540 => ((roundhouselaw5_within.f a5 4).bind fun t546 => (if t546 = 0 then (roundhouselaw5_CookieFlows.j0 k a4 bt532.1 bt532.2.1 bt532.2.2.1 bt532.2.2.2.1 bt532.2.2.2.2.1 bt532.2.2.2.2.2.1 bt532.2.2.2.2.2.2 bt540.1 bt540.2.1 bt540.2.2.1 bt540.2.2.2 (Int.tmod (wrap64 (bt540.1 + (Go.bits .and .i64 a6 255))) 4294967296) bt540.2.1 bt540.2.2.1 bt540.2.2.2) else (if t546 = 1 then (roundhouselaw5_CookieFlows.j0 k a4 bt532.1 bt532.2.1 bt532.2.2.1 bt532.2.2.2.1 bt532.2.2.2.2.1 bt532.2.2.2.2.2.1 bt532.2.2.2.2.2.2 bt540.1 bt540.2.1 bt540.2.2.1 bt540.2.2.2 bt540.1 (Int.tmod (wrap64 (bt540.2.1 + (Go.bits .and .i64 a6 255))) 65536) bt540.2.2.1 bt540.2.2.2) else (if t546 = 2 then (roundhouselaw5_CookieFlows.j0 k a4 bt532.1 bt532.2.1 bt532.2.2.1 bt532.2.2.2.1 bt532.2.2.2.2.1 bt532.2.2.2.2.2.1 bt532.2.2.2.2.2.2 bt540.1 bt540.2.1 bt540.2.2.1 bt540.2.2.2 bt540.1 bt540.2.1 (Int.tmod (wrap64 (bt540.2.2.1 + (Go.bits .and .i64 a6 255))) 4294967296) bt540.2.2.2) else (if t546 = 3 then (roundhouselaw5_CookieFlows.j0 k a4 bt532.1 bt532.2.1 bt532.2.2.1 bt532.2.2.2.1 bt532.2.2.2.2.1 bt532.2.2.2.2.2.1 bt532.2.2.2.2.2.2 bt540.1 bt540.2.1 bt540.2.2.1 bt540.2.2.2 bt540.1 bt540.2.1 bt540.2.2.1 (Int.tmod (wrap64 (bt540.2.2.2 + (Go.bits .and .i64 a6 255))) 65536)) else (roundhouselaw5_CookieFlows.j0 k a4 bt532.1 bt532.2.1 bt532.2.2.1 bt532.2.2.2.1 bt532.2.2.2.2.1 bt532.2.2.2.2.2.1 bt532.2.2.2.2.2.2 bt540.1 bt540.2.1 bt540.2.2.1 bt540.2.2.2 bt540.1 bt540.2.1 bt540.2.2.1 bt540.2.2.2)))))))) else (some false)) = some r := H
  have A8 := Aside0.mk A80
  clear A80
  by_cases c9 : t531 = true
  · subst c9
    have H1 : ((roundhouselaw5_Ring.f k a0 a1).bind fun bt532 => ((roundhouselaw5_Flow.f a2 a3).bind fun bt540 => ((roundhouselaw5_within.f a5 4).bind fun t546 => (if t546 = 0 then (roundhouselaw5_CookieFlows.j0 k a4 bt532.1 bt532.2.1 bt532.2.2.1 bt532.2.2.2.1 bt532.2.2.2.2.1 bt532.2.2.2.2.2.1 bt532.2.2.2.2.2.2 bt540.1 bt540.2.1 bt540.2.2.1 bt540.2.2.2 (Int.tmod (wrap64 (bt540.1 + (Go.bits .and .i64 a6 255))) 4294967296) bt540.2.1 bt540.2.2.1 bt540.2.2.2) else (if t546 = 1 then (roundhouselaw5_CookieFlows.j0 k a4 bt532.1 bt532.2.1 bt532.2.2.1 bt532.2.2.2.1 bt532.2.2.2.2.1 bt532.2.2.2.2.2.1 bt532.2.2.2.2.2.2 bt540.1 bt540.2.1 bt540.2.2.1 bt540.2.2.2 bt540.1 (Int.tmod (wrap64 (bt540.2.1 + (Go.bits .and .i64 a6 255))) 65536) bt540.2.2.1 bt540.2.2.2) else (if t546 = 2 then (roundhouselaw5_CookieFlows.j0 k a4 bt532.1 bt532.2.1 bt532.2.2.1 bt532.2.2.2.1 bt532.2.2.2.2.1 bt532.2.2.2.2.2.1 bt532.2.2.2.2.2.2 bt540.1 bt540.2.1 bt540.2.2.1 bt540.2.2.2 bt540.1 bt540.2.1 (Int.tmod (wrap64 (bt540.2.2.1 + (Go.bits .and .i64 a6 255))) 4294967296) bt540.2.2.2) else (if t546 = 3 then (roundhouselaw5_CookieFlows.j0 k a4 bt532.1 bt532.2.1 bt532.2.2.1 bt532.2.2.2.1 bt532.2.2.2.2.1 bt532.2.2.2.2.2.1 bt532.2.2.2.2.2.2 bt540.1 bt540.2.1 bt540.2.2.1 bt540.2.2.2 bt540.1 bt540.2.1 bt540.2.2.1 (Int.tmod (wrap64 (bt540.2.2.2 + (Go.bits .and .i64 a6 255))) 65536)) else (roundhouselaw5_CookieFlows.j0 k a4 bt532.1 bt532.2.1 bt532.2.2.1 bt532.2.2.2.1 bt532.2.2.2.2.1 bt532.2.2.2.2.2.1 bt532.2.2.2.2.2.2 bt540.1 bt540.2.1 bt540.2.2.1 bt540.2.2.2 bt540.1 bt540.2.1 bt540.2.2.1 bt540.2.2.2)))))))) = some r := by rw [if_pos rfl] at H; exact H
    clear H
    have H := H1
    clear H1
    replace H := Option.bind_eq_some_iff.mp H
    obtain ⟨⟨t532, t533, t534, t535, t536, t537, t538⟩, A100, H⟩ := H
    replace H : ((roundhouselaw5_Flow.f a2 a3).bind fun bt540 => ((roundhouselaw5_within.f a5 4).bind fun t546 => (if t546 = 0 then (roundhouselaw5_CookieFlows.j0 k a4 t532 t533 t534 t535 t536 t537 t538 bt540.1 bt540.2.1 bt540.2.2.1 bt540.2.2.2 (Int.tmod (wrap64 (bt540.1 + (Go.bits .and .i64 a6 255))) 4294967296) bt540.2.1 bt540.2.2.1 bt540.2.2.2) else (if t546 = 1 then (roundhouselaw5_CookieFlows.j0 k a4 t532 t533 t534 t535 t536 t537 t538 bt540.1 bt540.2.1 bt540.2.2.1 bt540.2.2.2 bt540.1 (Int.tmod (wrap64 (bt540.2.1 + (Go.bits .and .i64 a6 255))) 65536) bt540.2.2.1 bt540.2.2.2) else (if t546 = 2 then (roundhouselaw5_CookieFlows.j0 k a4 t532 t533 t534 t535 t536 t537 t538 bt540.1 bt540.2.1 bt540.2.2.1 bt540.2.2.2 bt540.1 bt540.2.1 (Int.tmod (wrap64 (bt540.2.2.1 + (Go.bits .and .i64 a6 255))) 4294967296) bt540.2.2.2) else (if t546 = 3 then (roundhouselaw5_CookieFlows.j0 k a4 t532 t533 t534 t535 t536 t537 t538 bt540.1 bt540.2.1 bt540.2.2.1 bt540.2.2.2 bt540.1 bt540.2.1 bt540.2.2.1 (Int.tmod (wrap64 (bt540.2.2.2 + (Go.bits .and .i64 a6 255))) 65536)) else (roundhouselaw5_CookieFlows.j0 k a4 t532 t533 t534 t535 t536 t537 t538 bt540.1 bt540.2.1 bt540.2.2.1 bt540.2.2.2 bt540.1 bt540.2.1 bt540.2.2.1 bt540.2.2.2))))))) = some r := H
    have A10 := Aside0.mk A100
    clear A100
    replace H := Option.bind_eq_some_iff.mp H
    obtain ⟨⟨t540, t541, t542, t543⟩, A110, H⟩ := H
    replace H : ((roundhouselaw5_within.f a5 4).bind fun t546 => (if t546 = 0 then (roundhouselaw5_CookieFlows.j0 k a4 t532 t533 t534 t535 t536 t537 t538 t540 t541 t542 t543 (Int.tmod (wrap64 (t540 + (Go.bits .and .i64 a6 255))) 4294967296) t541 t542 t543) else (if t546 = 1 then (roundhouselaw5_CookieFlows.j0 k a4 t532 t533 t534 t535 t536 t537 t538 t540 t541 t542 t543 t540 (Int.tmod (wrap64 (t541 + (Go.bits .and .i64 a6 255))) 65536) t542 t543) else (if t546 = 2 then (roundhouselaw5_CookieFlows.j0 k a4 t532 t533 t534 t535 t536 t537 t538 t540 t541 t542 t543 t540 t541 (Int.tmod (wrap64 (t542 + (Go.bits .and .i64 a6 255))) 4294967296) t543) else (if t546 = 3 then (roundhouselaw5_CookieFlows.j0 k a4 t532 t533 t534 t535 t536 t537 t538 t540 t541 t542 t543 t540 t541 t542 (Int.tmod (wrap64 (t543 + (Go.bits .and .i64 a6 255))) 65536)) else (roundhouselaw5_CookieFlows.j0 k a4 t532 t533 t534 t535 t536 t537 t538 t540 t541 t542 t543 t540 t541 t542 t543)))))) = some r := H
    have A11 := Aside0.mk A110
    clear A110
    replace H := Option.bind_eq_some_iff.mp H
    obtain ⟨t546, A120, H⟩ := H
    replace H : (if t546 = 0 then (roundhouselaw5_CookieFlows.j0 k a4 t532 t533 t534 t535 t536 t537 t538 t540 t541 t542 t543 (Int.tmod (wrap64 (t540 + (Go.bits .and .i64 a6 255))) 4294967296) t541 t542 t543) else (if t546 = 1 then (roundhouselaw5_CookieFlows.j0 k a4 t532 t533 t534 t535 t536 t537 t538 t540 t541 t542 t543 t540 (Int.tmod (wrap64 (t541 + (Go.bits .and .i64 a6 255))) 65536) t542 t543) else (if t546 = 2 then (roundhouselaw5_CookieFlows.j0 k a4 t532 t533 t534 t535 t536 t537 t538 t540 t541 t542 t543 t540 t541 (Int.tmod (wrap64 (t542 + (Go.bits .and .i64 a6 255))) 4294967296) t543) else (if t546 = 3 then (roundhouselaw5_CookieFlows.j0 k a4 t532 t533 t534 t535 t536 t537 t538 t540 t541 t542 t543 t540 t541 t542 (Int.tmod (wrap64 (t543 + (Go.bits .and .i64 a6 255))) 65536)) else (roundhouselaw5_CookieFlows.j0 k a4 t532 t533 t534 t535 t536 t537 t538 t540 t541 t542 t543 t540 t541 t542 t543))))) = some r := H
    have A12 := Aside0.mk A120
    clear A120
    have HC13 := Aside0.mk H
    clear H
    go_enter Try.func12, Try.ntmps12
    go_upto_block 0 with (first | ((with_reducible refine gate_callee (f := 16) rfl ?_); refine goesL_ (some 25) rfl rfl Try.func16 (by kernel_rfl) rfl #[] rfl (by (try simp only [List.map_toArray, List.map_cons, List.map_nil]); first | done | rfl | (simp only [List.length_drop, List.length_take]; rfl)) ?_; (with_reducible refine (roundhouselaw5_known.calls k  true _ A8.out).mono ?_); rintro e w14 ⟨rfl, hb⟩; refine ⟨_, rfl, ?_⟩; have n0_ := Aside0.mk (below_step (by repeat (first | (with_reducible first | exact HB.out | apply below_alloc | apply pw_below_drewN | apply below_drew1) | exact HB.out)) hb); clear HB; have HB := n0_; clear n0_; (try clear hb); (try clear hb2); (try clear hk); (try clear hi)) | ((with_reducible refine gate_callee (f := 17) rfl ?_); refine goesL_ (some 29) rfl rfl Try.func17 (by kernel_rfl) rfl #[.int .i64 a0, .int .i64 a1] rfl (by (try simp only [List.map_toArray, List.map_cons, List.map_nil]); first | done | rfl | (simp only [List.length_drop, List.length_take]; rfl)) ?_; (with_reducible refine (roundhouselaw5_Ring.calls k a0 a1 t532 t533 t534 t535 t536 t537 t538 _ A10.out).mono ?_); rintro e w15 ⟨rfl, hb⟩; refine ⟨_, rfl, ?_⟩; have n0_ := Aside0.mk (below_step (by repeat (first | (with_reducible first | exact HB.out | apply below_alloc | apply pw_below_drewN | apply below_drew1) | exact HB.out)) hb); clear HB; have HB := n0_; clear n0_; (try clear hb); (try clear hb2); (try clear hk); (try clear hi)) | ((with_reducible refine gate_dst (N := 15) rfl ?_); refine box_event ?hg (N := 15) ?hd (cs := #[.int .i64 0, .int .u64 0, .int .u64 0, .int .u64 0, .int .u64 0, .int .u64 0, .int .u64 0]) (t := 27) ?hr ?_; (case hd => rfl); (case hg => rfl); (case hr => first | (go_simp; done) | (go_simp; rfl)); intro gb539 hg w16 hbox hb; have n0_ := Aside0.mk (below_step (by repeat (first | (with_reducible first | exact HB.out | apply below_alloc | apply pw_below_drewN | apply below_drew1) | exact HB.out)) hb); have n1_ := Aside0.mk (hbox); have n2_ := Aside0.mk ((by rw [hg]; exact (below_size (by repeat (first | (with_reducible first | exact HB.out | apply below_alloc | apply pw_below_drewN | apply below_drew1) | exact HB.out))) : w.heap.size ≤ gb539)); have n3_ := Aside0.mk ((by rw [hg]; exact (below_size (by repeat (first | (with_reducible first | exact HB.out | apply below_alloc | apply pw_below_drewN | apply below_drew1) | exact HB.out))) : w.heap.size ≤ gb539)); clear HB; have HB := n0_; have BK539 := n1_; have GW539 := n2_; have GE539 := n3_; clear n0_ n1_ n2_ n3_; clear hb hbox hg; have hcz17_0 : w16.cell? ⟨gb539, 0, none⟩ = some (.int .i64 0) := (blk_cell BK539.out 0).trans rfl; have hcz17_1 : w16.cell? ⟨gb539, 1, none⟩ = some (.int .u64 0) := (blk_cell BK539.out 1).trans rfl; have hcz17_2 : w16.cell? ⟨gb539, 2, none⟩ = some (.int .u64 0) := (blk_cell BK539.out 2).trans rfl; have hcz17_3 : w16.cell? ⟨gb539, 3, none⟩ = some (.int .u64 0) := (blk_cell BK539.out 3).trans rfl; have hcz17_4 : w16.cell? ⟨gb539, 4, none⟩ = some (.int .u64 0) := (blk_cell BK539.out 4).trans rfl; have hcz17_5 : w16.cell? ⟨gb539, 5, none⟩ = some (.int .u64 0) := (blk_cell BK539.out 5).trans rfl; have hcz17_6 : w16.cell? ⟨gb539, 6, none⟩ = some (.int .u64 0) := (blk_cell BK539.out 6).trans rfl; have hfz17_0 := blk_frozen BK539.out 0; have hfz17_1 := blk_frozen BK539.out 1; have hfz17_2 := blk_frozen BK539.out 2; have hfz17_3 := blk_frozen BK539.out 3; have hfz17_4 := blk_frozen BK539.out 4; have hfz17_5 := blk_frozen BK539.out 5; have hfz17_6 := blk_frozen BK539.out 6) | ((with_reducible refine gate_callee (f := 20) rfl ?_); refine goesL_ (some 32) rfl rfl Try.func20 (by kernel_rfl) rfl #[.int .i64 a2, .int .i64 a3] rfl (by (try simp only [List.map_toArray, List.map_cons, List.map_nil]); first | done | rfl | (simp only [List.length_drop, List.length_take]; rfl)) ?_; (with_reducible refine (roundhouselaw5_Flow.calls a2 a3 t540 t541 t542 t543 _ A11.out).mono ?_); rintro e w18 ⟨rfl, hb⟩; refine ⟨_, rfl, ?_⟩; have n0_ := Aside0.mk (blk_below (g := gb539) (o := .cells #[.int .i64 t532, .int .u64 t533, .int .u64 t534, .int .u64 t535, .int .u64 t536, .int .u64 t537, .int .u64 t538] 27 (0, 0)) (by (with_reducible repeat (first | refine blk_drewN ?_ _ | refine blk_drew ?_ | refine blk_alloc ?_ _)); refine blk_put (cs := #[.int .i64 t532, .int .u64 t533, .int .u64 t534, .int .u64 t535, .int .u64 t536, .int .u64 t537, .int .u64 0]) ?_ 6 _ rfl; (with_reducible repeat (first | refine blk_drewN ?_ _ | refine blk_drew ?_ | refine blk_alloc ?_ _)); refine blk_put (cs := #[.int .i64 t532, .int .u64 t533, .int .u64 t534, .int .u64 t535, .int .u64 t536, .int .u64 0, .int .u64 0]) ?_ 5 _ rfl; (with_reducible repeat (first | refine blk_drewN ?_ _ | refine blk_drew ?_ | refine blk_alloc ?_ _)); refine blk_put (cs := #[.int .i64 t532, .int .u64 t533, .int .u64 t534, .int .u64 t535, .int .u64 0, .int .u64 0, .int .u64 0]) ?_ 4 _ rfl; (with_reducible repeat (first | refine blk_drewN ?_ _ | refine blk_drew ?_ | refine blk_alloc ?_ _)); refine blk_put (cs := #[.int .i64 t532, .int .u64 t533, .int .u64 t534, .int .u64 0, .int .u64 0, .int .u64 0, .int .u64 0]) ?_ 3 _ rfl; (with_reducible repeat (first | refine blk_drewN ?_ _ | refine blk_drew ?_ | refine blk_alloc ?_ _)); refine blk_put (cs := #[.int .i64 t532, .int .u64 t533, .int .u64 0, .int .u64 0, .int .u64 0, .int .u64 0, .int .u64 0]) ?_ 2 _ rfl; (with_reducible repeat (first | refine blk_drewN ?_ _ | refine blk_drew ?_ | refine blk_alloc ?_ _)); refine blk_put (cs := #[.int .i64 t532, .int .u64 0, .int .u64 0, .int .u64 0, .int .u64 0, .int .u64 0, .int .u64 0]) ?_ 1 _ rfl; (with_reducible repeat (first | refine blk_drewN ?_ _ | refine blk_drew ?_ | refine blk_alloc ?_ _)); refine blk_put (cs := #[.int .i64 0, .int .u64 0, .int .u64 0, .int .u64 0, .int .u64 0, .int .u64 0, .int .u64 0]) ?_ 0 _ rfl; (with_reducible repeat (first | refine blk_drewN ?_ _ | refine blk_drew ?_ | refine blk_alloc ?_ _)); exact BK539.out) hb); have n1_ := Aside0.mk (below_step (by repeat (first | (with_reducible first | exact HB.out | apply below_alloc | apply pw_below_drewN | apply below_drew1 | refine below_set ?_ GE539.out) | exact HB.out)) hb); clear BK539; clear HB; have BK539 := n0_; have HB := n1_; clear n0_ n1_; (try clear hb); (try clear hb2); (try clear hk); (try clear hi)) | ((with_reducible refine gate_dst (N := 16) rfl ?_); refine box_event ?hg (N := 16) ?hd (cs := #[.int .i64 0, .int .i64 0, .int .i64 0, .int .i64 0]) (t := 32) ?hr ?_; (case hd => rfl); (case hg => rfl); (case hr => first | (go_simp; done) | (go_simp; rfl)); intro gb544 hg w19 hbox hb; have n0_ := Aside0.mk (blk_below (g := gb539) (o := .cells #[.int .i64 t532, .int .u64 t533, .int .u64 t534, .int .u64 t535, .int .u64 t536, .int .u64 t537, .int .u64 t538] 27 (0, 0)) (by (with_reducible repeat (first | refine blk_drewN ?_ _ | refine blk_drew ?_ | refine blk_alloc ?_ _)); exact BK539.out) hb); have n1_ := Aside0.mk (below_step (by repeat (first | (with_reducible first | exact HB.out | apply below_alloc | apply pw_below_drewN | apply below_drew1 | refine below_set ?_ GE539.out) | exact HB.out)) hb); have n2_ := Aside0.mk (hbox); have n3_ := Aside0.mk ((by rw [hg]; exact (below_size (by repeat (first | (with_reducible first | exact HB.out | apply below_alloc | apply pw_below_drewN | apply below_drew1 | refine below_set ?_ GE539.out) | exact HB.out))) : w.heap.size ≤ gb544)); have n4_ := Aside0.mk ((by rw [hg]; exact (below_size (by repeat (first | (with_reducible first | exact HB.out | apply below_alloc | apply pw_below_drewN | apply below_drew1 | refine below_set ?_ GE539.out) | exact HB.out))) : w.heap.size ≤ gb544)); have n5_ := Aside0.mk ((by rw [hg]; exact Nat.ne_of_lt (blk_lt (g := gb539) (o := .cells #[.int .i64 t532, .int .u64 t533, .int .u64 t534, .int .u64 t535, .int .u64 t536, .int .u64 t537, .int .u64 t538] 27 (0, 0)) (by (with_reducible repeat (first | refine blk_drewN ?_ _ | refine blk_drew ?_ | refine blk_alloc ?_ _)); exact BK539.out)) : gb539 ≠ gb544)); have n6_ := Aside0.mk ((by rw [hg]; exact Nat.ne_of_gt (blk_lt (g := gb539) (o := .cells #[.int .i64 t532, .int .u64 t533, .int .u64 t534, .int .u64 t535, .int .u64 t536, .int .u64 t537, .int .u64 t538] 27 (0, 0)) (by (with_reducible repeat (first | refine blk_drewN ?_ _ | refine blk_drew ?_ | refine blk_alloc ?_ _)); exact BK539.out)) : gb544 ≠ gb539)); clear BK539; clear HB; have BK539 := n0_; have HB := n1_; have BK544 := n2_; have GW544 := n3_; have GE544 := n4_; have NB539_544 := n5_; have NB544_539 := n6_; clear n0_ n1_ n2_ n3_ n4_ n5_ n6_; clear hb hbox hg; have hnb20 := NB544_539.out; have hnc20 := NB539_544.out; have hcz21_0 : w19.cell? ⟨gb544, 0, none⟩ = some (.int .i64 0) := (blk_cell BK544.out 0).trans rfl; have hcz21_1 : w19.cell? ⟨gb544, 1, none⟩ = some (.int .i64 0) := (blk_cell BK544.out 1).trans rfl; have hcz21_2 : w19.cell? ⟨gb544, 2, none⟩ = some (.int .i64 0) := (blk_cell BK544.out 2).trans rfl; have hcz21_3 : w19.cell? ⟨gb544, 3, none⟩ = some (.int .i64 0) := (blk_cell BK544.out 3).trans rfl; have hfz21_0 := blk_frozen BK544.out 0; have hfz21_1 := blk_frozen BK544.out 1; have hfz21_2 := blk_frozen BK544.out 2; have hfz21_3 := blk_frozen BK544.out 3) | ((with_reducible refine gate_dst (N := 17) rfl ?_); refine box_event ?hg (N := 17) ?hd (cs := #[.int .i64 0, .int .i64 0, .int .i64 0, .int .i64 0]) (t := 32) ?hr ?_; (case hd => rfl); (case hg => rfl); (case hr => first | (go_simp; done) | (go_simp; rfl)); intro gb545 hg w22 hbox hb; have n0_ := Aside0.mk (blk_below (g := gb539) (o := .cells #[.int .i64 t532, .int .u64 t533, .int .u64 t534, .int .u64 t535, .int .u64 t536, .int .u64 t537, .int .u64 t538] 27 (0, 0)) (by (with_reducible repeat (first | refine blk_drewN ?_ _ | refine blk_drew ?_ | refine blk_alloc ?_ _)); refine blk_far ?_ NB539_544.out _; (with_reducible repeat (first | refine blk_drewN ?_ _ | refine blk_drew ?_ | refine blk_alloc ?_ _)); refine blk_far ?_ NB539_544.out _; (with_reducible repeat (first | refine blk_drewN ?_ _ | refine blk_drew ?_ | refine blk_alloc ?_ _)); refine blk_far ?_ NB539_544.out _; (with_reducible repeat (first | refine blk_drewN ?_ _ | refine blk_drew ?_ | refine blk_alloc ?_ _)); refine blk_far ?_ NB539_544.out _; (with_reducible repeat (first | refine blk_drewN ?_ _ | refine blk_drew ?_ | refine blk_alloc ?_ _)); exact BK539.out) hb); have n1_ := Aside0.mk (blk_below (g := gb544) (o := .cells #[.int .i64 t540, .int .i64 t541, .int .i64 t542, .int .i64 t543] 32 (0, 0)) (by (with_reducible repeat (first | refine blk_drewN ?_ _ | refine blk_drew ?_ | refine blk_alloc ?_ _)); refine blk_put (cs := #[.int .i64 t540, .int .i64 t541, .int .i64 t542, .int .i64 0]) ?_ 3 _ rfl; (with_reducible repeat (first | refine blk_drewN ?_ _ | refine blk_drew ?_ | refine blk_alloc ?_ _)); refine blk_put (cs := #[.int .i64 t540, .int .i64 t541, .int .i64 0, .int .i64 0]) ?_ 2 _ rfl; (with_reducible repeat (first | refine blk_drewN ?_ _ | refine blk_drew ?_ | refine blk_alloc ?_ _)); refine blk_put (cs := #[.int .i64 t540, .int .i64 0, .int .i64 0, .int .i64 0]) ?_ 1 _ rfl; (with_reducible repeat (first | refine blk_drewN ?_ _ | refine blk_drew ?_ | refine blk_alloc ?_ _)); refine blk_put (cs := #[.int .i64 0, .int .i64 0, .int .i64 0, .int .i64 0]) ?_ 0 _ rfl; (with_reducible repeat (first | refine blk_drewN ?_ _ | refine blk_drew ?_ | refine blk_alloc ?_ _)); exact BK544.out) hb); have n2_ := Aside0.mk (below_step (by repeat (first | (with_reducible first | exact HB.out | apply below_alloc | apply pw_below_drewN | apply below_drew1 | refine below_set ?_ GE539.out | refine below_set ?_ GE544.out) | exact HB.out)) hb); have n3_ := Aside0.mk (hbox); have n4_ := Aside0.mk ((by rw [hg]; exact (below_size (by repeat (first | (with_reducible first | exact HB.out | apply below_alloc | apply pw_below_drewN | apply below_drew1 | refine below_set ?_ GE539.out | refine below_set ?_ GE544.out) | exact HB.out))) : w.heap.size ≤ gb545)); have n5_ := Aside0.mk ((by rw [hg]; exact (below_size (by repeat (first | (with_reducible first | exact HB.out | apply below_alloc | apply pw_below_drewN | apply below_drew1 | refine below_set ?_ GE539.out | refine below_set ?_ GE544.out) | exact HB.out))) : w.heap.size ≤ gb545)); have n6_ := Aside0.mk ((by rw [hg]; exact Nat.ne_of_lt (blk_lt (g := gb539) (o := .cells #[.int .i64 t532, .int .u64 t533, .int .u64 t534, .int .u64 t535, .int .u64 t536, .int .u64 t537, .int .u64 t538] 27 (0, 0)) (by (with_reducible repeat (first | refine blk_drewN ?_ _ | refine blk_drew ?_ | refine blk_alloc ?_ _)); refine blk_far ?_ NB539_544.out _; (with_reducible repeat (first | refine blk_drewN ?_ _ | refine blk_drew ?_ | refine blk_alloc ?_ _)); refine blk_far ?_ NB539_544.out _; (with_reducible repeat (first | refine blk_drewN ?_ _ | refine blk_drew ?_ | refine blk_alloc ?_ _)); refine blk_far ?_ NB539_544.out _; (with_reducible repeat (first | refine blk_drewN ?_ _ | refine blk_drew ?_ | refine blk_alloc ?_ _)); refine blk_far ?_ NB539_544.out _; (with_reducible repeat (first | refine blk_drewN ?_ _ | refine blk_drew ?_ | refine blk_alloc ?_ _)); exact BK539.out)) : gb539 ≠ gb545)); have n7_ := Aside0.mk ((by rw [hg]; exact Nat.ne_of_gt (blk_lt (g := gb539) (o := .cells #[.int .i64 t532, .int .u64 t533, .int .u64 t534, .int .u64 t535, .int .u64 t536, .int .u64 t537, .int .u64 t538] 27 (0, 0)) (by (with_reducible repeat (first | refine blk_drewN ?_ _ | refine blk_drew ?_ | refine blk_alloc ?_ _)); refine blk_far ?_ NB539_544.out _; (with_reducible repeat (first | refine blk_drewN ?_ _ | refine blk_drew ?_ | refine blk_alloc ?_ _)); refine blk_far ?_ NB539_544.out _; (with_reducible repeat (first | refine blk_drewN ?_ _ | refine blk_drew ?_ | refine blk_alloc ?_ _)); refine blk_far ?_ NB539_544.out _; (with_reducible repeat (first | refine blk_drewN ?_ _ | refine blk_drew ?_ | refine blk_alloc ?_ _)); refine blk_far ?_ NB539_544.out _; (with_reducible repeat (first | refine blk_drewN ?_ _ | refine blk_drew ?_ | refine blk_alloc ?_ _)); exact BK539.out)) : gb545 ≠ gb539)); have n8_ := Aside0.mk ((by rw [hg]; exact Nat.ne_of_lt (blk_lt (g := gb544) (o := .cells #[.int .i64 t540, .int .i64 t541, .int .i64 t542, .int .i64 t543] 32 (0, 0)) (by (with_reducible repeat (first | refine blk_drewN ?_ _ | refine blk_drew ?_ | refine blk_alloc ?_ _)); refine blk_put (cs := #[.int .i64 t540, .int .i64 t541, .int .i64 t542, .int .i64 0]) ?_ 3 _ rfl; (with_reducible repeat (first | refine blk_drewN ?_ _ | refine blk_drew ?_ | refine blk_alloc ?_ _)); refine blk_put (cs := #[.int .i64 t540, .int .i64 t541, .int .i64 0, .int .i64 0]) ?_ 2 _ rfl; (with_reducible repeat (first | refine blk_drewN ?_ _ | refine blk_drew ?_ | refine blk_alloc ?_ _)); refine blk_put (cs := #[.int .i64 t540, .int .i64 0, .int .i64 0, .int .i64 0]) ?_ 1 _ rfl; (with_reducible repeat (first | refine blk_drewN ?_ _ | refine blk_drew ?_ | refine blk_alloc ?_ _)); refine blk_put (cs := #[.int .i64 0, .int .i64 0, .int .i64 0, .int .i64 0]) ?_ 0 _ rfl; (with_reducible repeat (first | refine blk_drewN ?_ _ | refine blk_drew ?_ | refine blk_alloc ?_ _)); exact BK544.out)) : gb544 ≠ gb545)); have n9_ := Aside0.mk ((by rw [hg]; exact Nat.ne_of_gt (blk_lt (g := gb544) (o := .cells #[.int .i64 t540, .int .i64 t541, .int .i64 t542, .int .i64 t543] 32 (0, 0)) (by (with_reducible repeat (first | refine blk_drewN ?_ _ | refine blk_drew ?_ | refine blk_alloc ?_ _)); refine blk_put (cs := #[.int .i64 t540, .int .i64 t541, .int .i64 t542, .int .i64 0]) ?_ 3 _ rfl; (with_reducible repeat (first | refine blk_drewN ?_ _ | refine blk_drew ?_ | refine blk_alloc ?_ _)); refine blk_put (cs := #[.int .i64 t540, .int .i64 t541, .int .i64 0, .int .i64 0]) ?_ 2 _ rfl; (with_reducible repeat (first | refine blk_drewN ?_ _ | refine blk_drew ?_ | refine blk_alloc ?_ _)); refine blk_put (cs := #[.int .i64 t540, .int .i64 0, .int .i64 0, .int .i64 0]) ?_ 1 _ rfl; (with_reducible repeat (first | refine blk_drewN ?_ _ | refine blk_drew ?_ | refine blk_alloc ?_ _)); refine blk_put (cs := #[.int .i64 0, .int .i64 0, .int .i64 0, .int .i64 0]) ?_ 0 _ rfl; (with_reducible repeat (first | refine blk_drewN ?_ _ | refine blk_drew ?_ | refine blk_alloc ?_ _)); exact BK544.out)) : gb545 ≠ gb544)); clear BK539; clear BK544; clear HB; have BK539 := n0_; have BK544 := n1_; have HB := n2_; have BK545 := n3_; have GW545 := n4_; have GE545 := n5_; have NB539_545 := n6_; have NB545_539 := n7_; have NB544_545 := n8_; have NB545_544 := n9_; clear n0_ n1_ n2_ n3_ n4_ n5_ n6_ n7_ n8_ n9_; clear hb hbox hg; have hnb23 := NB545_539.out; have hnc23 := NB539_545.out; have hnb24 := NB545_544.out; have hnc24 := NB544_545.out; have hcz25_0 : w22.cell? ⟨gb545, 0, none⟩ = some (.int .i64 0) := (blk_cell BK545.out 0).trans rfl; have hcz25_1 : w22.cell? ⟨gb545, 1, none⟩ = some (.int .i64 0) := (blk_cell BK545.out 1).trans rfl; have hcz25_2 : w22.cell? ⟨gb545, 2, none⟩ = some (.int .i64 0) := (blk_cell BK545.out 2).trans rfl; have hcz25_3 : w22.cell? ⟨gb545, 3, none⟩ = some (.int .i64 0) := (blk_cell BK545.out 3).trans rfl; have hfz25_0 := blk_frozen BK545.out 0; have hfz25_1 := blk_frozen BK545.out 1; have hfz25_2 := blk_frozen BK545.out 2; have hfz25_3 := blk_frozen BK545.out 3) | ((with_reducible refine gate_callee (f := 18) rfl ?_); refine goesL_ (some 35) rfl rfl Try.func18 (by kernel_rfl) rfl #[.int .i64 a5, .int .i64 4] rfl (by (try simp only [List.map_toArray, List.map_cons, List.map_nil]); first | done | rfl | (simp only [List.length_drop, List.length_take]; rfl)) ?_; (with_reducible refine (roundhouselaw5_within.calls a5 4 t546 _ A12.out).mono ?_); rintro e w' ⟨rfl, ⟨nd, rfl⟩⟩; refine ⟨_, rfl, ?_⟩))
    (try simp only [Act.put, List.setIfInBounds_toArray, List.set_cons_zero, List.set_cons_succ])
    go_cut [] (fun wc => ∃ (kq : Nat) (x546000_12 : Int) (x546001_12 : Int) (x546002_12 : Int) (x546003_12 : Int), Aside0 (roundhouselaw5_CookieFlows.j0 kq a4 t532 t533 t534 t535 t536 t537 t538 t540 t541 t542 t543 x546000_12 x546001_12 x546002_12 x546003_12 = some r) ∧ Aside0 (kq ≤ k) ∧ Aside0 (wc.heap[gb539]? = some (.cells #[.int .i64 t532, .int .u64 t533, .int .u64 t534, .int .u64 t535, .int .u64 t536, .int .u64 t537, .int .u64 t538] 27 (0, 0))) ∧ Aside0 (wc.heap[gb544]? = some (.cells #[.int .i64 t540, .int .i64 t541, .int .i64 t542, .int .i64 t543] 32 (0, 0))) ∧ Aside0 (wc.heap[gb545]? = some (.cells #[.int .i64 x546000_12, .int .i64 x546001_12, .int .i64 x546002_12, .int .i64 x546003_12] 32 (0, 0))) ∧ Aside0 (Below w.heap.size w wc))
    case first =>
      have H := HC13.out
      clear HC13
      by_cases c26 : t546 = 0
      · rw [if_pos c26] at H
        have c26b0 : (t546 == 0) = true := beq_iff_eq.mpr c26
        have c26b1 : (t546 != 0) = false := bne_eq_false_iff_eq.mpr c26
        clear c26
        (first | rw [c26b0] | (simp only [i64_w, i32_w]; rw [c26b0]) | skip)
        have H' := Aside0.mk H
        clear H
        have hnb27 := NB545_539.out
        have hnc27 := NB539_545.out
        have hnb28 := NB545_544.out
        have hnc28 := NB544_545.out
        have hcz29_0 : w22.cell? ⟨gb545, 0, none⟩ = some (.int .i64 0) := (blk_cell BK545.out 0).trans rfl
        have hcz29_1 : w22.cell? ⟨gb545, 1, none⟩ = some (.int .i64 0) := (blk_cell BK545.out 1).trans rfl
        have hcz29_2 : w22.cell? ⟨gb545, 2, none⟩ = some (.int .i64 0) := (blk_cell BK545.out 2).trans rfl
        have hcz29_3 : w22.cell? ⟨gb545, 3, none⟩ = some (.int .i64 0) := (blk_cell BK545.out 3).trans rfl
        have hfz29_0 := blk_frozen BK545.out 0
        have hfz29_1 := blk_frozen BK545.out 1
        have hfz29_2 := blk_frozen BK545.out 2
        have hfz29_3 := blk_frozen BK545.out 3
        go_wp2
        go_meet
        case rel => exact ⟨_, (Int.tmod (wrap64 (t540 + (Go.bits .and .i64 a6 255))) 4294967296), (t541), (t542), (t543), H', ⟨by first | omega | exact Nat.le_refl _⟩, ⟨by (with_reducible repeat (first | refine blk_drewN ?_ _ | refine blk_drew ?_ | refine blk_alloc ?_ _)); refine blk_far ?_ NB539_545.out _; (with_reducible repeat (first | refine blk_drewN ?_ _ | refine blk_drew ?_ | refine blk_alloc ?_ _)); refine blk_far ?_ NB539_545.out _; (with_reducible repeat (first | refine blk_drewN ?_ _ | refine blk_drew ?_ | refine blk_alloc ?_ _)); refine blk_far ?_ NB539_545.out _; (with_reducible repeat (first | refine blk_drewN ?_ _ | refine blk_drew ?_ | refine blk_alloc ?_ _)); refine blk_far ?_ NB539_545.out _; (with_reducible repeat (first | refine blk_drewN ?_ _ | refine blk_drew ?_ | refine blk_alloc ?_ _)); refine blk_far ?_ NB539_545.out _; (with_reducible repeat (first | refine blk_drewN ?_ _ | refine blk_drew ?_ | refine blk_alloc ?_ _)); exact BK539.out⟩, ⟨by (with_reducible repeat (first | refine blk_drewN ?_ _ | refine blk_drew ?_ | refine blk_alloc ?_ _)); refine blk_far ?_ NB544_545.out _; (with_reducible repeat (first | refine blk_drewN ?_ _ | refine blk_drew ?_ | refine blk_alloc ?_ _)); refine blk_far ?_ NB544_545.out _; (with_reducible repeat (first | refine blk_drewN ?_ _ | refine blk_drew ?_ | refine blk_alloc ?_ _)); refine blk_far ?_ NB544_545.out _; (with_reducible repeat (first | refine blk_drewN ?_ _ | refine blk_drew ?_ | refine blk_alloc ?_ _)); refine blk_far ?_ NB544_545.out _; (with_reducible repeat (first | refine blk_drewN ?_ _ | refine blk_drew ?_ | refine blk_alloc ?_ _)); refine blk_far ?_ NB544_545.out _; (with_reducible repeat (first | refine blk_drewN ?_ _ | refine blk_drew ?_ | refine blk_alloc ?_ _)); exact BK544.out⟩, ⟨by (with_reducible repeat (first | refine blk_drewN ?_ _ | refine blk_drew ?_ | refine blk_alloc ?_ _)); refine blk_put (cs := #[.int .i64 t540, .int .i64 t541, .int .i64 t542, .int .i64 t543]) ?_ 0 _ rfl; (with_reducible repeat (first | refine blk_drewN ?_ _ | refine blk_drew ?_ | refine blk_alloc ?_ _)); refine blk_put (cs := #[.int .i64 t540, .int .i64 t541, .int .i64 t542, .int .i64 0]) ?_ 3 _ rfl; (with_reducible repeat (first | refine blk_drewN ?_ _ | refine blk_drew ?_ | refine blk_alloc ?_ _)); refine blk_put (cs := #[.int .i64 t540, .int .i64 t541, .int .i64 0, .int .i64 0]) ?_ 2 _ rfl; (with_reducible repeat (first | refine blk_drewN ?_ _ | refine blk_drew ?_ | refine blk_alloc ?_ _)); refine blk_put (cs := #[.int .i64 t540, .int .i64 0, .int .i64 0, .int .i64 0]) ?_ 1 _ rfl; (with_reducible repeat (first | refine blk_drewN ?_ _ | refine blk_drew ?_ | refine blk_alloc ?_ _)); refine blk_put (cs := #[.int .i64 0, .int .i64 0, .int .i64 0, .int .i64 0]) ?_ 0 _ rfl; (with_reducible repeat (first | refine blk_drewN ?_ _ | refine blk_drew ?_ | refine blk_alloc ?_ _)); exact BK545.out⟩, ⟨by repeat (first | (with_reducible first | exact HB.out | apply below_alloc | apply pw_below_drewN | apply below_drew1 | refine below_set ?_ GE539.out | refine below_set ?_ GE544.out | refine below_set ?_ GE545.out) | exact HB.out)⟩⟩
      · rw [if_neg c26] at H
        have c26b0 : (t546 == 0) = false := beq_eq_false_iff_ne.mpr c26
        have c26b1 : (t546 != 0) = true := bne_iff_ne.mpr c26
        (first | rw [c26b0] | (simp only [i64_w, i32_w]; rw [c26b0]) | skip)
        by_cases c30 : t546 = 1
        · rw [if_pos c30] at H
          have c30b0 : (t546 == 1) = true := beq_iff_eq.mpr c30
          have c30b1 : (t546 != 1) = false := bne_eq_false_iff_eq.mpr c30
          clear c30
          have H' := Aside0.mk H
          clear H
          have hnb31 := NB545_539.out
          have hnc31 := NB539_545.out
          have hnb32 := NB545_544.out
          have hnc32 := NB544_545.out
          have hcz33_0 : w22.cell? ⟨gb545, 0, none⟩ = some (.int .i64 0) := (blk_cell BK545.out 0).trans rfl
          have hcz33_1 : w22.cell? ⟨gb545, 1, none⟩ = some (.int .i64 0) := (blk_cell BK545.out 1).trans rfl
          have hcz33_2 : w22.cell? ⟨gb545, 2, none⟩ = some (.int .i64 0) := (blk_cell BK545.out 2).trans rfl
          have hcz33_3 : w22.cell? ⟨gb545, 3, none⟩ = some (.int .i64 0) := (blk_cell BK545.out 3).trans rfl
          have hfz33_0 := blk_frozen BK545.out 0
          have hfz33_1 := blk_frozen BK545.out 1
          have hfz33_2 := blk_frozen BK545.out 2
          have hfz33_3 := blk_frozen BK545.out 3
          go_wp2
          go_meet
          case rel => exact ⟨_, (t540), (Int.tmod (wrap64 (t541 + (Go.bits .and .i64 a6 255))) 65536), (t542), (t543), H', ⟨by first | omega | exact Nat.le_refl _⟩, ⟨by (with_reducible repeat (first | refine blk_drewN ?_ _ | refine blk_drew ?_ | refine blk_alloc ?_ _)); refine blk_far ?_ NB539_545.out _; (with_reducible repeat (first | refine blk_drewN ?_ _ | refine blk_drew ?_ | refine blk_alloc ?_ _)); refine blk_far ?_ NB539_545.out _; (with_reducible repeat (first | refine blk_drewN ?_ _ | refine blk_drew ?_ | refine blk_alloc ?_ _)); refine blk_far ?_ NB539_545.out _; (with_reducible repeat (first | refine blk_drewN ?_ _ | refine blk_drew ?_ | refine blk_alloc ?_ _)); refine blk_far ?_ NB539_545.out _; (with_reducible repeat (first | refine blk_drewN ?_ _ | refine blk_drew ?_ | refine blk_alloc ?_ _)); refine blk_far ?_ NB539_545.out _; (with_reducible repeat (first | refine blk_drewN ?_ _ | refine blk_drew ?_ | refine blk_alloc ?_ _)); exact BK539.out⟩, ⟨by (with_reducible repeat (first | refine blk_drewN ?_ _ | refine blk_drew ?_ | refine blk_alloc ?_ _)); refine blk_far ?_ NB544_545.out _; (with_reducible repeat (first | refine blk_drewN ?_ _ | refine blk_drew ?_ | refine blk_alloc ?_ _)); refine blk_far ?_ NB544_545.out _; (with_reducible repeat (first | refine blk_drewN ?_ _ | refine blk_drew ?_ | refine blk_alloc ?_ _)); refine blk_far ?_ NB544_545.out _; (with_reducible repeat (first | refine blk_drewN ?_ _ | refine blk_drew ?_ | refine blk_alloc ?_ _)); refine blk_far ?_ NB544_545.out _; (with_reducible repeat (first | refine blk_drewN ?_ _ | refine blk_drew ?_ | refine blk_alloc ?_ _)); refine blk_far ?_ NB544_545.out _; (with_reducible repeat (first | refine blk_drewN ?_ _ | refine blk_drew ?_ | refine blk_alloc ?_ _)); exact BK544.out⟩, ⟨by (with_reducible repeat (first | refine blk_drewN ?_ _ | refine blk_drew ?_ | refine blk_alloc ?_ _)); refine blk_put (cs := #[.int .i64 t540, .int .i64 t541, .int .i64 t542, .int .i64 t543]) ?_ 1 _ rfl; (with_reducible repeat (first | refine blk_drewN ?_ _ | refine blk_drew ?_ | refine blk_alloc ?_ _)); refine blk_put (cs := #[.int .i64 t540, .int .i64 t541, .int .i64 t542, .int .i64 0]) ?_ 3 _ rfl; (with_reducible repeat (first | refine blk_drewN ?_ _ | refine blk_drew ?_ | refine blk_alloc ?_ _)); refine blk_put (cs := #[.int .i64 t540, .int .i64 t541, .int .i64 0, .int .i64 0]) ?_ 2 _ rfl; (with_reducible repeat (first | refine blk_drewN ?_ _ | refine blk_drew ?_ | refine blk_alloc ?_ _)); refine blk_put (cs := #[.int .i64 t540, .int .i64 0, .int .i64 0, .int .i64 0]) ?_ 1 _ rfl; (with_reducible repeat (first | refine blk_drewN ?_ _ | refine blk_drew ?_ | refine blk_alloc ?_ _)); refine blk_put (cs := #[.int .i64 0, .int .i64 0, .int .i64 0, .int .i64 0]) ?_ 0 _ rfl; (with_reducible repeat (first | refine blk_drewN ?_ _ | refine blk_drew ?_ | refine blk_alloc ?_ _)); exact BK545.out⟩, ⟨by repeat (first | (with_reducible first | exact HB.out | apply below_alloc | apply pw_below_drewN | apply below_drew1 | refine below_set ?_ GE539.out | refine below_set ?_ GE544.out | refine below_set ?_ GE545.out) | exact HB.out)⟩⟩
        · rw [if_neg c30] at H
          have c30b0 : (t546 == 1) = false := beq_eq_false_iff_ne.mpr c30
          have c30b1 : (t546 != 1) = true := bne_iff_ne.mpr c30
          by_cases c34 : t546 = 2
          · rw [if_pos c34] at H
            have c34b0 : (t546 == 2) = true := beq_iff_eq.mpr c34
            have c34b1 : (t546 != 2) = false := bne_eq_false_iff_eq.mpr c34
            clear c34
            have H' := Aside0.mk H
            clear H
            have hnb35 := NB545_539.out
            have hnc35 := NB539_545.out
            have hnb36 := NB545_544.out
            have hnc36 := NB544_545.out
            have hcz37_0 : w22.cell? ⟨gb545, 0, none⟩ = some (.int .i64 0) := (blk_cell BK545.out 0).trans rfl
            have hcz37_1 : w22.cell? ⟨gb545, 1, none⟩ = some (.int .i64 0) := (blk_cell BK545.out 1).trans rfl
            have hcz37_2 : w22.cell? ⟨gb545, 2, none⟩ = some (.int .i64 0) := (blk_cell BK545.out 2).trans rfl
            have hcz37_3 : w22.cell? ⟨gb545, 3, none⟩ = some (.int .i64 0) := (blk_cell BK545.out 3).trans rfl
            have hfz37_0 := blk_frozen BK545.out 0
            have hfz37_1 := blk_frozen BK545.out 1
            have hfz37_2 := blk_frozen BK545.out 2
            have hfz37_3 := blk_frozen BK545.out 3
            go_wp2
            go_meet
            case rel => exact ⟨_, (t540), (t541), (Int.tmod (wrap64 (t542 + (Go.bits .and .i64 a6 255))) 4294967296), (t543), H', ⟨by first | omega | exact Nat.le_refl _⟩, ⟨by (with_reducible repeat (first | refine blk_drewN ?_ _ | refine blk_drew ?_ | refine blk_alloc ?_ _)); refine blk_far ?_ NB539_545.out _; (with_reducible repeat (first | refine blk_drewN ?_ _ | refine blk_drew ?_ | refine blk_alloc ?_ _)); refine blk_far ?_ NB539_545.out _; (with_reducible repeat (first | refine blk_drewN ?_ _ | refine blk_drew ?_ | refine blk_alloc ?_ _)); refine blk_far ?_ NB539_545.out _; (with_reducible repeat (first | refine blk_drewN ?_ _ | refine blk_drew ?_ | refine blk_alloc ?_ _)); refine blk_far ?_ NB539_545.out _; (with_reducible repeat (first | refine blk_drewN ?_ _ | refine blk_drew ?_ | refine blk_alloc ?_ _)); refine blk_far ?_ NB539_545.out _; (with_reducible repeat (first | refine blk_drewN ?_ _ | refine blk_drew ?_ | refine blk_alloc ?_ _)); exact BK539.out⟩, ⟨by (with_reducible repeat (first | refine blk_drewN ?_ _ | refine blk_drew ?_ | refine blk_alloc ?_ _)); refine blk_far ?_ NB544_545.out _; (with_reducible repeat (first | refine blk_drewN ?_ _ | refine blk_drew ?_ | refine blk_alloc ?_ _)); refine blk_far ?_ NB544_545.out _; (with_reducible repeat (first | refine blk_drewN ?_ _ | refine blk_drew ?_ | refine blk_alloc ?_ _)); refine blk_far ?_ NB544_545.out _; (with_reducible repeat (first | refine blk_drewN ?_ _ | refine blk_drew ?_ | refine blk_alloc ?_ _)); refine blk_far ?_ NB544_545.out _; (with_reducible repeat (first | refine blk_drewN ?_ _ | refine blk_drew ?_ | refine blk_alloc ?_ _)); refine blk_far ?_ NB544_545.out _; (with_reducible repeat (first | refine blk_drewN ?_ _ | refine blk_drew ?_ | refine blk_alloc ?_ _)); exact BK544.out⟩, ⟨by (with_reducible repeat (first | refine blk_drewN ?_ _ | refine blk_drew ?_ | refine blk_alloc ?_ _)); refine blk_put (cs := #[.int .i64 t540, .int .i64 t541, .int .i64 t542, .int .i64 t543]) ?_ 2 _ rfl; (with_reducible repeat (first | refine blk_drewN ?_ _ | refine blk_drew ?_ | refine blk_alloc ?_ _)); refine blk_put (cs := #[.int .i64 t540, .int .i64 t541, .int .i64 t542, .int .i64 0]) ?_ 3 _ rfl; (with_reducible repeat (first | refine blk_drewN ?_ _ | refine blk_drew ?_ | refine blk_alloc ?_ _)); refine blk_put (cs := #[.int .i64 t540, .int .i64 t541, .int .i64 0, .int .i64 0]) ?_ 2 _ rfl; (with_reducible repeat (first | refine blk_drewN ?_ _ | refine blk_drew ?_ | refine blk_alloc ?_ _)); refine blk_put (cs := #[.int .i64 t540, .int .i64 0, .int .i64 0, .int .i64 0]) ?_ 1 _ rfl; (with_reducible repeat (first | refine blk_drewN ?_ _ | refine blk_drew ?_ | refine blk_alloc ?_ _)); refine blk_put (cs := #[.int .i64 0, .int .i64 0, .int .i64 0, .int .i64 0]) ?_ 0 _ rfl; (with_reducible repeat (first | refine blk_drewN ?_ _ | refine blk_drew ?_ | refine blk_alloc ?_ _)); exact BK545.out⟩, ⟨by repeat (first | (with_reducible first | exact HB.out | apply below_alloc | apply pw_below_drewN | apply below_drew1 | refine below_set ?_ GE539.out | refine below_set ?_ GE544.out | refine below_set ?_ GE545.out) | exact HB.out)⟩⟩
          · rw [if_neg c34] at H
            have c34b0 : (t546 == 2) = false := beq_eq_false_iff_ne.mpr c34
            have c34b1 : (t546 != 2) = true := bne_iff_ne.mpr c34
            by_cases c38 : t546 = 3
            · rw [if_pos c38] at H
              have c38b0 : (t546 == 3) = true := beq_iff_eq.mpr c38
              have c38b1 : (t546 != 3) = false := bne_eq_false_iff_eq.mpr c38
              clear c38
              have H' := Aside0.mk H
              clear H
              have hnb39 := NB545_539.out
              have hnc39 := NB539_545.out
              have hnb40 := NB545_544.out
              have hnc40 := NB544_545.out
              have hcz41_0 : w22.cell? ⟨gb545, 0, none⟩ = some (.int .i64 0) := (blk_cell BK545.out 0).trans rfl
              have hcz41_1 : w22.cell? ⟨gb545, 1, none⟩ = some (.int .i64 0) := (blk_cell BK545.out 1).trans rfl
              have hcz41_2 : w22.cell? ⟨gb545, 2, none⟩ = some (.int .i64 0) := (blk_cell BK545.out 2).trans rfl
              have hcz41_3 : w22.cell? ⟨gb545, 3, none⟩ = some (.int .i64 0) := (blk_cell BK545.out 3).trans rfl
              have hfz41_0 := blk_frozen BK545.out 0
              have hfz41_1 := blk_frozen BK545.out 1
              have hfz41_2 := blk_frozen BK545.out 2
              have hfz41_3 := blk_frozen BK545.out 3
              go_wp2
              go_meet
              case rel => exact ⟨_, (t540), (t541), (t542), (Int.tmod (wrap64 (t543 + (Go.bits .and .i64 a6 255))) 65536), H', ⟨by first | omega | exact Nat.le_refl _⟩, ⟨by (with_reducible repeat (first | refine blk_drewN ?_ _ | refine blk_drew ?_ | refine blk_alloc ?_ _)); refine blk_far ?_ NB539_545.out _; (with_reducible repeat (first | refine blk_drewN ?_ _ | refine blk_drew ?_ | refine blk_alloc ?_ _)); refine blk_far ?_ NB539_545.out _; (with_reducible repeat (first | refine blk_drewN ?_ _ | refine blk_drew ?_ | refine blk_alloc ?_ _)); refine blk_far ?_ NB539_545.out _; (with_reducible repeat (first | refine blk_drewN ?_ _ | refine blk_drew ?_ | refine blk_alloc ?_ _)); refine blk_far ?_ NB539_545.out _; (with_reducible repeat (first | refine blk_drewN ?_ _ | refine blk_drew ?_ | refine blk_alloc ?_ _)); refine blk_far ?_ NB539_545.out _; (with_reducible repeat (first | refine blk_drewN ?_ _ | refine blk_drew ?_ | refine blk_alloc ?_ _)); exact BK539.out⟩, ⟨by (with_reducible repeat (first | refine blk_drewN ?_ _ | refine blk_drew ?_ | refine blk_alloc ?_ _)); refine blk_far ?_ NB544_545.out _; (with_reducible repeat (first | refine blk_drewN ?_ _ | refine blk_drew ?_ | refine blk_alloc ?_ _)); refine blk_far ?_ NB544_545.out _; (with_reducible repeat (first | refine blk_drewN ?_ _ | refine blk_drew ?_ | refine blk_alloc ?_ _)); refine blk_far ?_ NB544_545.out _; (with_reducible repeat (first | refine blk_drewN ?_ _ | refine blk_drew ?_ | refine blk_alloc ?_ _)); refine blk_far ?_ NB544_545.out _; (with_reducible repeat (first | refine blk_drewN ?_ _ | refine blk_drew ?_ | refine blk_alloc ?_ _)); refine blk_far ?_ NB544_545.out _; (with_reducible repeat (first | refine blk_drewN ?_ _ | refine blk_drew ?_ | refine blk_alloc ?_ _)); exact BK544.out⟩, ⟨by (with_reducible repeat (first | refine blk_drewN ?_ _ | refine blk_drew ?_ | refine blk_alloc ?_ _)); refine blk_put (cs := #[.int .i64 t540, .int .i64 t541, .int .i64 t542, .int .i64 t543]) ?_ 3 _ rfl; (with_reducible repeat (first | refine blk_drewN ?_ _ | refine blk_drew ?_ | refine blk_alloc ?_ _)); refine blk_put (cs := #[.int .i64 t540, .int .i64 t541, .int .i64 t542, .int .i64 0]) ?_ 3 _ rfl; (with_reducible repeat (first | refine blk_drewN ?_ _ | refine blk_drew ?_ | refine blk_alloc ?_ _)); refine blk_put (cs := #[.int .i64 t540, .int .i64 t541, .int .i64 0, .int .i64 0]) ?_ 2 _ rfl; (with_reducible repeat (first | refine blk_drewN ?_ _ | refine blk_drew ?_ | refine blk_alloc ?_ _)); refine blk_put (cs := #[.int .i64 t540, .int .i64 0, .int .i64 0, .int .i64 0]) ?_ 1 _ rfl; (with_reducible repeat (first | refine blk_drewN ?_ _ | refine blk_drew ?_ | refine blk_alloc ?_ _)); refine blk_put (cs := #[.int .i64 0, .int .i64 0, .int .i64 0, .int .i64 0]) ?_ 0 _ rfl; (with_reducible repeat (first | refine blk_drewN ?_ _ | refine blk_drew ?_ | refine blk_alloc ?_ _)); exact BK545.out⟩, ⟨by repeat (first | (with_reducible first | exact HB.out | apply below_alloc | apply pw_below_drewN | apply below_drew1 | refine below_set ?_ GE539.out | refine below_set ?_ GE544.out | refine below_set ?_ GE545.out) | exact HB.out)⟩⟩
            · rw [if_neg c38] at H
              have c38b0 : (t546 == 3) = false := beq_eq_false_iff_ne.mpr c38
              have c38b1 : (t546 != 3) = true := bne_iff_ne.mpr c38
              have H' := Aside0.mk H
              clear H
              go_wp2
              go_meet
              case rel => exact ⟨_, (t540), (t541), (t542), (t543), H', ⟨by first | omega | exact Nat.le_refl _⟩, ⟨by (with_reducible repeat (first | refine blk_drewN ?_ _ | refine blk_drew ?_ | refine blk_alloc ?_ _)); refine blk_far ?_ NB539_545.out _; (with_reducible repeat (first | refine blk_drewN ?_ _ | refine blk_drew ?_ | refine blk_alloc ?_ _)); refine blk_far ?_ NB539_545.out _; (with_reducible repeat (first | refine blk_drewN ?_ _ | refine blk_drew ?_ | refine blk_alloc ?_ _)); refine blk_far ?_ NB539_545.out _; (with_reducible repeat (first | refine blk_drewN ?_ _ | refine blk_drew ?_ | refine blk_alloc ?_ _)); refine blk_far ?_ NB539_545.out _; (with_reducible repeat (first | refine blk_drewN ?_ _ | refine blk_drew ?_ | refine blk_alloc ?_ _)); exact BK539.out⟩, ⟨by (with_reducible repeat (first | refine blk_drewN ?_ _ | refine blk_drew ?_ | refine blk_alloc ?_ _)); refine blk_far ?_ NB544_545.out _; (with_reducible repeat (first | refine blk_drewN ?_ _ | refine blk_drew ?_ | refine blk_alloc ?_ _)); refine blk_far ?_ NB544_545.out _; (with_reducible repeat (first | refine blk_drewN ?_ _ | refine blk_drew ?_ | refine blk_alloc ?_ _)); refine blk_far ?_ NB544_545.out _; (with_reducible repeat (first | refine blk_drewN ?_ _ | refine blk_drew ?_ | refine blk_alloc ?_ _)); refine blk_far ?_ NB544_545.out _; (with_reducible repeat (first | refine blk_drewN ?_ _ | refine blk_drew ?_ | refine blk_alloc ?_ _)); exact BK544.out⟩, ⟨by (with_reducible repeat (first | refine blk_drewN ?_ _ | refine blk_drew ?_ | refine blk_alloc ?_ _)); refine blk_put (cs := #[.int .i64 t540, .int .i64 t541, .int .i64 t542, .int .i64 0]) ?_ 3 _ rfl; (with_reducible repeat (first | refine blk_drewN ?_ _ | refine blk_drew ?_ | refine blk_alloc ?_ _)); refine blk_put (cs := #[.int .i64 t540, .int .i64 t541, .int .i64 0, .int .i64 0]) ?_ 2 _ rfl; (with_reducible repeat (first | refine blk_drewN ?_ _ | refine blk_drew ?_ | refine blk_alloc ?_ _)); refine blk_put (cs := #[.int .i64 t540, .int .i64 0, .int .i64 0, .int .i64 0]) ?_ 1 _ rfl; (with_reducible repeat (first | refine blk_drewN ?_ _ | refine blk_drew ?_ | refine blk_alloc ?_ _)); refine blk_put (cs := #[.int .i64 0, .int .i64 0, .int .i64 0, .int .i64 0]) ?_ 0 _ rfl; (with_reducible repeat (first | refine blk_drewN ?_ _ | refine blk_drew ?_ | refine blk_alloc ?_ _)); exact BK545.out⟩, ⟨by repeat (first | (with_reducible first | exact HB.out | apply below_alloc | apply pw_below_drewN | apply below_drew1 | refine below_set ?_ GE539.out | refine below_set ?_ GE544.out | refine below_set ?_ GE545.out) | exact HB.out)⟩⟩
    case rest =>
      clear HC13
      try clear c1
      try clear c2
      try clear p2
      try clear c3
      try clear c4
      try clear p6
      try clear c9
      try clear c12
      try clear c16
      try clear c17
      try clear c18
      try clear c20
      try clear c23
      try clear c24
      try clear c26
      try clear c26b0
      try clear c26b1
      try clear c27
      try clear c28
      try clear c30
      try clear c30b0
      try clear c30b1
      try clear c31
      try clear c32
      try clear c34
      try clear c34b0
      try clear c34b1
      try clear c35
      try clear c36
      try clear c38
      try clear c38b0
      try clear c38b1
      try clear c39
      try clear c40
      try clear hcz17_0
      try clear hcz17_1
      try clear hcz17_2
      try clear hcz17_3
      try clear hcz17_4
      try clear hcz17_5
      try clear hcz17_6
      try clear hcz21_0
      try clear hcz21_1
      try clear hcz21_2
      try clear hcz21_3
      try clear hcz25_0
      try clear hcz25_1
      try clear hcz25_2
      try clear hcz25_3
      try clear hcz29_0
      try clear hcz29_1
      try clear hcz29_2
      try clear hcz29_3
      try clear hcz33_0
      try clear hcz33_1
      try clear hcz33_2
      try clear hcz33_3
      try clear hcz37_0
      try clear hcz37_1
      try clear hcz37_2
      try clear hcz37_3
      try clear hcz41_0
      try clear hcz41_1
      try clear hcz41_2
      try clear hcz41_3
      try clear hfz17_0
      try clear hfz17_1
      try clear hfz17_2
      try clear hfz17_3
      try clear hfz17_4
      try clear hfz17_5
      try clear hfz17_6
      try clear hfz21_0
      try clear hfz21_1
      try clear hfz21_2
      try clear hfz21_3
      try clear hfz25_0
      try clear hfz25_1
      try clear hfz25_2
      try clear hfz25_3
      try clear hfz29_0
      try clear hfz29_1
      try clear hfz29_2
      try clear hfz29_3
      try clear hfz33_0
      try clear hfz33_1
      try clear hfz33_2
      try clear hfz33_3
      try clear hfz37_0
      try clear hfz37_1
      try clear hfz37_2
      try clear hfz37_3
      try clear hfz41_0
      try clear hfz41_1
      try clear hfz41_2
      try clear hfz41_3
      obtain ⟨kq, x546000_12, x546001_12, x546002_12, x546003_12, HA, HJ12, BK539, BK544, BK545, HB⟩ := hcut
      cases kq with
      | zero => exact absurd HA.out (by simp [roundhouselaw5_CookieFlows.j0])
      | succ kj12 =>
        have H := HA.out
        clear HA
        simp only [roundhouselaw5_CookieFlows.j0] at H
        replace H := Option.bind_eq_some_iff.mp H
        obtain ⟨t547, A420, H⟩ := H
        replace H : ((cookie_Make.f kj12 t532 t533 t534 t535 t536 t537 t538 1 x546000_12 x546001_12 x546002_12 x546003_12 t547).bind fun t548 => ((cookie_Make.f kj12 t532 t533 t534 t535 t536 t537 t538 2 x546000_12 x546001_12 x546002_12 x546003_12 t547).bind fun t549 => ((cookie_Read.f kj12 t532 t533 t534 t535 t536 t537 t538 1 t540 t541 t542 t543 t548).bind fun bt550 => ((roundhouseref5_Read.f kj12 t532 t533 t534 t535 t536 t537 t538 1 t540 t541 t542 t543 t548).bind fun bt552 => ((roundhouseref5_Make.f kj12 t532 t533 t534 t535 t536 t537 t538 1 x546000_12 x546001_12 x546002_12 x546003_12 t547).bind fun t554 => (if t548 = t554 then ((roundhouseref5_Make.f kj12 t532 t533 t534 t535 t536 t537 t538 2 x546000_12 x546001_12 x546002_12 x546003_12 t547).bind fun t555 => (if t549 = t555 then (if bt550.1 = bt552.1 then (if (bt550.2 == bt552.2) = true then (if (!(t540 == x546000_12) || (!(t541 == x546001_12) || (!(t542 == x546002_12) || (!(t543 == x546003_12))))) = true then (some true) else (if bt550.2 = true then (some (bt550.1 == t547)) else (some false))) else (some false)) else (some false)) else (some false))) else (some false))))))) = some r := H
        have A42 := Aside0.mk A420
        clear A420
        replace H := Option.bind_eq_some_iff.mp H
        obtain ⟨t548, A430, H⟩ := H
        replace H : ((cookie_Make.f kj12 t532 t533 t534 t535 t536 t537 t538 2 x546000_12 x546001_12 x546002_12 x546003_12 t547).bind fun t549 => ((cookie_Read.f kj12 t532 t533 t534 t535 t536 t537 t538 1 t540 t541 t542 t543 t548).bind fun bt550 => ((roundhouseref5_Read.f kj12 t532 t533 t534 t535 t536 t537 t538 1 t540 t541 t542 t543 t548).bind fun bt552 => ((roundhouseref5_Make.f kj12 t532 t533 t534 t535 t536 t537 t538 1 x546000_12 x546001_12 x546002_12 x546003_12 t547).bind fun t554 => (if t548 = t554 then ((roundhouseref5_Make.f kj12 t532 t533 t534 t535 t536 t537 t538 2 x546000_12 x546001_12 x546002_12 x546003_12 t547).bind fun t555 => (if t549 = t555 then (if bt550.1 = bt552.1 then (if (bt550.2 == bt552.2) = true then (if (!(t540 == x546000_12) || (!(t541 == x546001_12) || (!(t542 == x546002_12) || (!(t543 == x546003_12))))) = true then (some true) else (if bt550.2 = true then (some (bt550.1 == t547)) else (some false))) else (some false)) else (some false)) else (some false))) else (some false)))))) = some r := H
        have A43 := Aside0.mk A430
        clear A430
        replace H := Option.bind_eq_some_iff.mp H
        obtain ⟨t549, A440, H⟩ := H
        replace H : ((cookie_Read.f kj12 t532 t533 t534 t535 t536 t537 t538 1 t540 t541 t542 t543 t548).bind fun bt550 => ((roundhouseref5_Read.f kj12 t532 t533 t534 t535 t536 t537 t538 1 t540 t541 t542 t543 t548).bind fun bt552 => ((roundhouseref5_Make.f kj12 t532 t533 t534 t535 t536 t537 t538 1 x546000_12 x546001_12 x546002_12 x546003_12 t547).bind fun t554 => (if t548 = t554 then ((roundhouseref5_Make.f kj12 t532 t533 t534 t535 t536 t537 t538 2 x546000_12 x546001_12 x546002_12 x546003_12 t547).bind fun t555 => (if t549 = t555 then (if bt550.1 = bt552.1 then (if (bt550.2 == bt552.2) = true then (if (!(t540 == x546000_12) || (!(t541 == x546001_12) || (!(t542 == x546002_12) || (!(t543 == x546003_12))))) = true then (some true) else (if bt550.2 = true then (some (bt550.1 == t547)) else (some false))) else (some false)) else (some false)) else (some false))) else (some false))))) = some r := H
        have A44 := Aside0.mk A440
        clear A440
        replace H := Option.bind_eq_some_iff.mp H
        obtain ⟨⟨t550, t551⟩, A450, H⟩ := H
        replace H : ((roundhouseref5_Read.f kj12 t532 t533 t534 t535 t536 t537 t538 1 t540 t541 t542 t543 t548).bind fun bt552 => ((roundhouseref5_Make.f kj12 t532 t533 t534 t535 t536 t537 t538 1 x546000_12 x546001_12 x546002_12 x546003_12 t547).bind fun t554 => (if t548 = t554 then ((roundhouseref5_Make.f kj12 t532 t533 t534 t535 t536 t537 t538 2 x546000_12 x546001_12 x546002_12 x546003_12 t547).bind fun t555 => (if t549 = t555 then (if t550 = bt552.1 then (if (t551 == bt552.2) = true then (if (!(t540 == x546000_12) || (!(t541 == x546001_12) || (!(t542 == x546002_12) || (!(t543 == x546003_12))))) = true then (some true) else (if t551 = true then (some (t550 == t547)) else (some false))) else (some false)) else (some false)) else (some false))) else (some false)))) = some r := H
        have A45 := Aside0.mk A450
        clear A450
        replace H := Option.bind_eq_some_iff.mp H
        obtain ⟨⟨t552, t553⟩, A460, H⟩ := H
        replace H : ((roundhouseref5_Make.f kj12 t532 t533 t534 t535 t536 t537 t538 1 x546000_12 x546001_12 x546002_12 x546003_12 t547).bind fun t554 => (if t548 = t554 then ((roundhouseref5_Make.f kj12 t532 t533 t534 t535 t536 t537 t538 2 x546000_12 x546001_12 x546002_12 x546003_12 t547).bind fun t555 => (if t549 = t555 then (if t550 = t552 then (if (t551 == t553) = true then (if (!(t540 == x546000_12) || (!(t541 == x546001_12) || (!(t542 == x546002_12) || (!(t543 == x546003_12))))) = true then (some true) else (if t551 = true then (some (t550 == t547)) else (some false))) else (some false)) else (some false)) else (some false))) else (some false))) = some r := H
        have A46 := Aside0.mk A460
        clear A460
        replace H := Option.bind_eq_some_iff.mp H
        obtain ⟨t554, A470, H⟩ := H
        replace H : (if t548 = t554 then ((roundhouseref5_Make.f kj12 t532 t533 t534 t535 t536 t537 t538 2 x546000_12 x546001_12 x546002_12 x546003_12 t547).bind fun t555 => (if t549 = t555 then (if t550 = t552 then (if (t551 == t553) = true then (if (!(t540 == x546000_12) || (!(t541 == x546001_12) || (!(t542 == x546002_12) || (!(t543 == x546003_12))))) = true then (some true) else (if t551 = true then (some (t550 == t547)) else (some false))) else (some false)) else (some false)) else (some false))) else (some false)) = some r := H
        have A47 := Aside0.mk A470
        clear A470
        by_cases c48 : t548 = t554
        · rw [if_pos c48] at H
          have c48b0 : (t548 == t554) = true := beq_iff_eq.mpr c48
          have c48b1 : (t548 != t554) = false := bne_eq_false_iff_eq.mpr c48
          clear c48
          replace H := Option.bind_eq_some_iff.mp H
          obtain ⟨t555, A490, H⟩ := H
          replace H : (if t549 = t555 then (if t550 = t552 then (if (t551 == t553) = true then (if (!(t540 == x546000_12) || (!(t541 == x546001_12) || (!(t542 == x546002_12) || (!(t543 == x546003_12))))) = true then (some true) else (if t551 = true then (some (t550 == t547)) else (some false))) else (some false)) else (some false)) else (some false)) = some r := H
          have A49 := Aside0.mk A490
          clear A490
          by_cases c50 : t549 = t555
          · rw [if_pos c50] at H
            have c50b0 : (t549 == t555) = true := beq_iff_eq.mpr c50
            have c50b1 : (t549 != t555) = false := bne_eq_false_iff_eq.mpr c50
            clear c50
            by_cases c51 : t550 = t552
            · rw [if_pos c51] at H
              have c51b0 : (t550 == t552) = true := beq_iff_eq.mpr c51
              have c51b1 : (t550 != t552) = false := bne_eq_false_iff_eq.mpr c51
              clear c51
              by_cases c52 : (t551 == t553) = true
              · rw [if_pos c52] at H
                have c52b0 : (t551 == t553) = true := c52
                (try (have c52b1 : decide (t551 = t553) = true := by simpa using c52))
                (try (have c52b2 : (t551 == t553) = true := by simpa using c52))
                clear c52
                by_cases c53 : (!(t540 == x546000_12) || (!(t541 == x546001_12) || (!(t542 == x546002_12) || (!(t543 == x546003_12))))) = true
                · rw [if_pos c53] at H
                  have c53b0 : (!(t540 == x546000_12) || (!(t541 == x546001_12) || (!(t542 == x546002_12) || (!(t543 == x546003_12))))) = true := c53
                  clear c53
                  obtain rfl := Option.some.inj H
                  try go_wp2_with (first | ((with_reducible refine gate_callee (f := 18) rfl ?_); refine goesL_ (some 73) rfl rfl Try.func18 (by kernel_rfl) rfl #[.int .i64 a4, .int .i64 64] rfl (by (try simp only [List.map_toArray, List.map_cons, List.map_nil]); first | done | rfl | (simp only [List.length_drop, List.length_take]; rfl)) ?_; (with_reducible refine (roundhouselaw5_within.calls a4 64 t547 _ A42.out).mono ?_); rintro e w' ⟨rfl, ⟨nd, rfl⟩⟩; refine ⟨_, rfl, ?_⟩))
                  (try (rw [drewN_self wc]; generalize hq_ : World.drewN wc _ = wc; have n0_ : Aside0 (wc.heap[gb539]? = some (.cells #[.int .i64 t532, .int .u64 t533, .int .u64 t534, .int .u64 t535, .int .u64 t536, .int .u64 t537, .int .u64 t538] 27 (0, 0))) := ⟨by rw [← hq_]; exact (by (with_reducible repeat (first | refine blk_drewN ?_ _ | refine blk_drew ?_ | refine blk_alloc ?_ _)); exact BK539.out)⟩; have n1_ : Aside0 (wc.heap[gb544]? = some (.cells #[.int .i64 t540, .int .i64 t541, .int .i64 t542, .int .i64 t543] 32 (0, 0))) := ⟨by rw [← hq_]; exact (by (with_reducible repeat (first | refine blk_drewN ?_ _ | refine blk_drew ?_ | refine blk_alloc ?_ _)); exact BK544.out)⟩; have n2_ : Aside0 (wc.heap[gb545]? = some (.cells #[.int .i64 x546000_12, .int .i64 x546001_12, .int .i64 x546002_12, .int .i64 x546003_12] 32 (0, 0))) := ⟨by rw [← hq_]; exact (by (with_reducible repeat (first | refine blk_drewN ?_ _ | refine blk_drew ?_ | refine blk_alloc ?_ _)); exact BK545.out)⟩; have n3_ : Aside0 (Below w.heap.size w wc) := ⟨by rw [← hq_]; exact (by repeat (first | (with_reducible first | exact HB.out | apply below_alloc | apply pw_below_drewN | apply below_drew1 | refine below_set ?_ GE539.out | refine below_set ?_ GE544.out | refine below_set ?_ GE545.out) | exact HB.out))⟩; clear BK539 BK544 BK545 HB hq_; have BK539 := n0_; have BK544 := n1_; have BK545 := n2_; have HB := n3_; clear n0_ n1_ n2_ n3_))
                  have n0_ := Aside0.mk (blk_drew BK539.out)
                  have n1_ := Aside0.mk (blk_drew BK544.out)
                  have n2_ := Aside0.mk (blk_drew BK545.out)
                  have n3_ := Aside0.mk (below_drew1 HB.out)
                  clear BK539
                  clear BK544
                  clear BK545
                  clear HB
                  have BK539 := n0_
                  have BK544 := n1_
                  have BK545 := n2_
                  have HB := n3_
                  clear n0_ n1_ n2_ n3_
                  refine start_ (n := 10) (S := fun w' => w'.cell? ⟨gb539, 0, none⟩ = some (.int .i64 t532) ∧ w'.cell? ⟨gb539, 1, none⟩ = some (.int .u64 t533) ∧ w'.cell? ⟨gb539, 2, none⟩ = some (.int .u64 t534) ∧ w'.cell? ⟨gb539, 3, none⟩ = some (.int .u64 t535) ∧ w'.cell? ⟨gb539, 4, none⟩ = some (.int .u64 t536) ∧ w'.cell? ⟨gb539, 5, none⟩ = some (.int .u64 t537) ∧ w'.cell? ⟨gb539, 6, none⟩ = some (.int .u64 t538) ∧ w'.cell? ⟨gb545, 0, none⟩ = some (.int .i64 x546000_12) ∧ w'.cell? ⟨gb545, 1, none⟩ = some (.int .i64 x546001_12) ∧ w'.cell? ⟨gb545, 2, none⟩ = some (.int .i64 x546002_12) ∧ w'.cell? ⟨gb545, 3, none⟩ = some (.int .i64 x546003_12)) (ds := []) #[false, false, false, false, false, false, false, false, false, false] (by kernel_rfl) rfl rfl ⟨(blk_cell BK539.out 0).trans rfl, (blk_cell BK539.out 1).trans rfl, (blk_cell BK539.out 2).trans rfl, (blk_cell BK539.out 3).trans rfl, (blk_cell BK539.out 4).trans rfl, (blk_cell BK539.out 5).trans rfl, (blk_cell BK539.out 6).trans rfl, (blk_cell BK545.out 0).trans rfl, (blk_cell BK545.out 1).trans rfl, (blk_cell BK545.out 2).trans rfl, (blk_cell BK545.out 3).trans rfl⟩ (fun hHeld => ?_); refine with_tabW roundhouselaw5_CookieFlows.tab16 roundhouselaw5_CookieFlows.bits16 (fun HT_ HW_ => ?_)
                  generalize wc.drew = w54 at BK539 BK544 BK545 HB hHeld ⊢
                  refine pure_ (i := 2) (N := some 76) (v := ?_) (a' := ?_) #[false, false, true, false, false, false, false, false, false, false] rfl rfl (any_of HT_.out (by kernel_rfl)) (fun _ _ _ h => h) (Or.inl ⟨by rfl, ?_⟩) ?_ ?_
                  rotate_left
                  · intro w'
                    go_simp
                    with_reducible rfl
                  rotate_left
                  · simp only [Act.put, List.setIfInBounds_toArray, List.set_cons_zero, List.set_cons_succ, i64_w, i32_w]
                    rfl
                  refine pure_ (i := 6) (N := some 80) (v := ?_) (a' := ?_) #[false, false, true, false, false, false, true, false, false, false] rfl rfl (any_of HT_.out (by kernel_rfl)) (fun _ _ _ h => h) (Or.inl ⟨by rfl, ?_⟩) ?_ ?_
                  rotate_left
                  · intro w'
                    go_simp
                    with_reducible rfl
                  rotate_left
                  · simp only [Act.put, List.setIfInBounds_toArray, List.set_cons_zero, List.set_cons_succ, i64_w, i32_w]
                    rfl
                  refine take_ (i := 0) (N := some 74) (v := ?_) (a' := ?_) #[true, false, true, false, false, false, true, false, false, false] rfl rfl (take_ofW HT_.out HW_.out (by kernel_rfl)) (fun _ _ _ h => h) (Or.inl ⟨by rfl, ?_⟩) hHeld ?_ ?_
                  rotate_left
                  · rintro w' ⟨s0, s1, s2, s3, s4, s5, s6, s7, s8, s9, s10⟩
                    go_simp
                    with_reducible rfl
                  rotate_left
                  · simp only [Act.put, List.setIfInBounds_toArray, List.set_cons_zero, List.set_cons_succ, i64_w, i32_w]
                    rfl
                  refine take_ (i := 1) (N := some 75) (v := ?_) (a' := ?_) #[true, true, true, false, false, false, true, false, false, false] rfl rfl (take_ofW HT_.out HW_.out (by kernel_rfl)) (fun _ _ _ h => h) (Or.inl ⟨by rfl, ?_⟩) hHeld ?_ ?_
                  rotate_left
                  · rintro w' ⟨s0, s1, s2, s3, s4, s5, s6, s7, s8, s9, s10⟩
                    go_simp
                    with_reducible rfl
                  rotate_left
                  · simp only [Act.put, List.setIfInBounds_toArray, List.set_cons_zero, List.set_cons_succ, i64_w, i32_w]
                    rfl
                  refine take_ (i := 4) (N := some 78) (v := ?_) (a' := ?_) #[true, true, true, false, true, false, true, false, false, false] rfl rfl (take_ofW HT_.out HW_.out (by kernel_rfl)) (fun _ _ _ h => h) (Or.inl ⟨by rfl, ?_⟩) hHeld ?_ ?_
                  rotate_left
                  · rintro w' ⟨s0, s1, s2, s3, s4, s5, s6, s7, s8, s9, s10⟩
                    go_simp
                    with_reducible rfl
                  rotate_left
                  · simp only [Act.put, List.setIfInBounds_toArray, List.set_cons_zero, List.set_cons_succ, i64_w, i32_w]
                    rfl
                  refine take_ (i := 5) (N := some 79) (v := ?_) (a' := ?_) #[true, true, true, false, true, true, true, false, false, false] rfl rfl (take_ofW HT_.out HW_.out (by kernel_rfl)) (fun _ _ _ h => h) (Or.inl ⟨by rfl, ?_⟩) hHeld ?_ ?_
                  rotate_left
                  · rintro w' ⟨s0, s1, s2, s3, s4, s5, s6, s7, s8, s9, s10⟩
                    go_simp
                    with_reducible rfl
                  rotate_left
                  · simp only [Act.put, List.setIfInBounds_toArray, List.set_cons_zero, List.set_cons_succ, i64_w, i32_w]
                    rfl
                  refine one_ (i := 3) (N := some 77) #[true, true, true, true, true, true, true, false, false, false] rfl rfl (one_of HT_.out (by kernel_rfl)) (by decide) (fun K hK => ?_)
                  refine goes_ Try.func19 (by kernel_rfl) rfl #[.agg #[.int .i64 t532, .int .u64 t533, .int .u64 t534, .int .u64 t535, .int .u64 t536, .int .u64 t537, .int .u64 t538], .int .i64 1, .agg #[.int .i64 x546000_12, .int .i64 x546001_12, .int .i64 x546002_12, .int .i64 x546003_12], .int .i64 t547] (by rfl) rfl rfl (by (try simp only [List.map_toArray, List.map_cons, List.map_nil]); first | done | rfl | (simp only [List.length_drop, List.length_take]; rfl)) ?_
                  with_reducible refine (cookie_Make.calls kj12 t532 t533 t534 t535 t536 t537 t538 1 x546000_12 x546001_12 x546002_12 x546003_12 t547 t548 _ A43.out).mono ?_
                  rintro e w55 ⟨rfl, hb⟩
                  refine ⟨_, rfl, ?_⟩
                  have n0_ := Aside0.mk (blk_below (g := gb539) (o := .cells #[.int .i64 t532, .int .u64 t533, .int .u64 t534, .int .u64 t535, .int .u64 t536, .int .u64 t537, .int .u64 t538] 27 (0, 0)) (by (with_reducible repeat (first | refine blk_drewN ?_ _ | refine blk_drew ?_ | refine blk_alloc ?_ _)); exact BK539.out) hb)
                  have n1_ := Aside0.mk (blk_below (g := gb544) (o := .cells #[.int .i64 t540, .int .i64 t541, .int .i64 t542, .int .i64 t543] 32 (0, 0)) (by (with_reducible repeat (first | refine blk_drewN ?_ _ | refine blk_drew ?_ | refine blk_alloc ?_ _)); exact BK544.out) hb)
                  have n2_ := Aside0.mk (blk_below (g := gb545) (o := .cells #[.int .i64 x546000_12, .int .i64 x546001_12, .int .i64 x546002_12, .int .i64 x546003_12] 32 (0, 0)) (by (with_reducible repeat (first | refine blk_drewN ?_ _ | refine blk_drew ?_ | refine blk_alloc ?_ _)); exact BK545.out) hb)
                  have n3_ := Aside0.mk (below_step (by repeat (first | (with_reducible first | exact HB.out | apply below_alloc | apply pw_below_drewN | apply below_drew1 | refine below_set ?_ GE539.out | refine below_set ?_ GE544.out | refine below_set ?_ GE545.out) | exact HB.out)) hb)
                  clear BK539
                  clear BK544
                  clear BK545
                  clear HB
                  have BK539 := n0_
                  have BK544 := n1_
                  have BK545 := n2_
                  have HB := n3_
                  clear n0_ n1_ n2_ n3_
                  (try clear hb)
                  (try clear hb2)
                  (try clear hk)
                  (try clear hi)
                  refine hK.out _ _ ⟨(blk_cell BK539.out 0).trans rfl, (blk_cell BK539.out 1).trans rfl, (blk_cell BK539.out 2).trans rfl, (blk_cell BK539.out 3).trans rfl, (blk_cell BK539.out 4).trans rfl, (blk_cell BK539.out 5).trans rfl, (blk_cell BK539.out 6).trans rfl, (blk_cell BK545.out 0).trans rfl, (blk_cell BK545.out 1).trans rfl, (blk_cell BK545.out 2).trans rfl, (blk_cell BK545.out 3).trans rfl⟩ (fun hHeld => ?_)
                  clear hK K
                  refine norm_ (a' := ?_) ?_ ?_
                  rotate_left
                  · show Act.put _ (some 77) _ = _
                    simp only [Act.put, List.setIfInBounds_toArray, List.set_cons_zero, List.set_cons_succ, i64_w, i32_w]
                    rfl
                  refine one_ (i := 7) (N := some 81) #[true, true, true, true, true, true, true, true, false, false] rfl rfl (one_of HT_.out (by kernel_rfl)) (by decide) (fun K hK => ?_)
                  refine goes_ Try.func19 (by kernel_rfl) rfl #[.agg #[.int .i64 t532, .int .u64 t533, .int .u64 t534, .int .u64 t535, .int .u64 t536, .int .u64 t537, .int .u64 t538], .int .i64 2, .agg #[.int .i64 x546000_12, .int .i64 x546001_12, .int .i64 x546002_12, .int .i64 x546003_12], .int .i64 t547] (by rfl) rfl rfl (by (try simp only [List.map_toArray, List.map_cons, List.map_nil]); first | done | rfl | (simp only [List.length_drop, List.length_take]; rfl)) ?_
                  with_reducible refine (cookie_Make.calls kj12 t532 t533 t534 t535 t536 t537 t538 2 x546000_12 x546001_12 x546002_12 x546003_12 t547 t549 _ A44.out).mono ?_
                  rintro e w56 ⟨rfl, hb⟩
                  refine ⟨_, rfl, ?_⟩
                  have n0_ := Aside0.mk (blk_below (g := gb539) (o := .cells #[.int .i64 t532, .int .u64 t533, .int .u64 t534, .int .u64 t535, .int .u64 t536, .int .u64 t537, .int .u64 t538] 27 (0, 0)) (by (with_reducible repeat (first | refine blk_drewN ?_ _ | refine blk_drew ?_ | refine blk_alloc ?_ _)); exact BK539.out) hb)
                  have n1_ := Aside0.mk (blk_below (g := gb544) (o := .cells #[.int .i64 t540, .int .i64 t541, .int .i64 t542, .int .i64 t543] 32 (0, 0)) (by (with_reducible repeat (first | refine blk_drewN ?_ _ | refine blk_drew ?_ | refine blk_alloc ?_ _)); exact BK544.out) hb)
                  have n2_ := Aside0.mk (blk_below (g := gb545) (o := .cells #[.int .i64 x546000_12, .int .i64 x546001_12, .int .i64 x546002_12, .int .i64 x546003_12] 32 (0, 0)) (by (with_reducible repeat (first | refine blk_drewN ?_ _ | refine blk_drew ?_ | refine blk_alloc ?_ _)); exact BK545.out) hb)
                  have n3_ := Aside0.mk (below_step (by repeat (first | (with_reducible first | exact HB.out | apply below_alloc | apply pw_below_drewN | apply below_drew1 | refine below_set ?_ GE539.out | refine below_set ?_ GE544.out | refine below_set ?_ GE545.out) | exact HB.out)) hb)
                  clear BK539
                  clear BK544
                  clear BK545
                  clear HB
                  have BK539 := n0_
                  have BK544 := n1_
                  have BK545 := n2_
                  have HB := n3_
                  clear n0_ n1_ n2_ n3_
                  (try clear hb)
                  (try clear hb2)
                  (try clear hk)
                  (try clear hi)
                  refine hK.out _ _ ⟨(blk_cell BK539.out 0).trans rfl, (blk_cell BK539.out 1).trans rfl, (blk_cell BK539.out 2).trans rfl, (blk_cell BK539.out 3).trans rfl, (blk_cell BK539.out 4).trans rfl, (blk_cell BK539.out 5).trans rfl, (blk_cell BK539.out 6).trans rfl, (blk_cell BK545.out 0).trans rfl, (blk_cell BK545.out 1).trans rfl, (blk_cell BK545.out 2).trans rfl, (blk_cell BK545.out 3).trans rfl⟩ (fun hHeld => ?_)
                  clear hK K
                  refine norm_ (a' := ?_) ?_ ?_
                  rotate_left
                  · show Act.put _ (some 81) _ = _
                    simp only [Act.put, List.setIfInBounds_toArray, List.set_cons_zero, List.set_cons_succ, i64_w, i32_w]
                    rfl
                  refine pure_ (i := 8) (N := some 19) (v := ?_) (a' := ?_) #[true, true, true, true, true, true, true, true, true, false] rfl rfl (any_of HT_.out (by kernel_rfl)) (fun _ _ _ h => h) (Or.inl ⟨by rfl, ?_⟩) ?_ ?_
                  rotate_left
                  · intro w'
                    go_simp
                    with_reducible rfl
                  rotate_left
                  · simp only [Act.put, List.setIfInBounds_toArray, List.set_cons_zero, List.set_cons_succ, i64_w, i32_w]
                    rfl
                  refine pure_ (i := 9) (N := some 20) (v := ?_) (a' := ?_) #[true, true, true, true, true, true, true, true, true, true] rfl rfl (any_of HT_.out (by kernel_rfl)) (fun _ _ _ h => h) (Or.inl ⟨by rfl, ?_⟩) ?_ ?_
                  rotate_left
                  · intro w'
                    go_simp
                    with_reducible rfl
                  rotate_left
                  · simp only [Act.put, List.setIfInBounds_toArray, List.set_cons_zero, List.set_cons_succ, i64_w, i32_w]
                    rfl
                  refine done_ (done_of HT_.out (by kernel_rfl)) ?_
                  have hnb57 := NB539_544.out
                  have hnc57 := NB544_539.out
                  have hnb58 := NB539_545.out
                  have hnc58 := NB545_539.out
                  have hcz59_0 : w56.cell? ⟨gb539, 0, none⟩ = some (.int .i64 t532) := (blk_cell BK539.out 0).trans rfl
                  have hcz59_1 : w56.cell? ⟨gb539, 1, none⟩ = some (.int .u64 t533) := (blk_cell BK539.out 1).trans rfl
                  have hcz59_2 : w56.cell? ⟨gb539, 2, none⟩ = some (.int .u64 t534) := (blk_cell BK539.out 2).trans rfl
                  have hcz59_3 : w56.cell? ⟨gb539, 3, none⟩ = some (.int .u64 t535) := (blk_cell BK539.out 3).trans rfl
                  have hcz59_4 : w56.cell? ⟨gb539, 4, none⟩ = some (.int .u64 t536) := (blk_cell BK539.out 4).trans rfl
                  have hcz59_5 : w56.cell? ⟨gb539, 5, none⟩ = some (.int .u64 t537) := (blk_cell BK539.out 5).trans rfl
                  have hcz59_6 : w56.cell? ⟨gb539, 6, none⟩ = some (.int .u64 t538) := (blk_cell BK539.out 6).trans rfl
                  have hfz59_0 := blk_frozen BK539.out 0
                  have hfz59_1 := blk_frozen BK539.out 1
                  have hfz59_2 := blk_frozen BK539.out 2
                  have hfz59_3 := blk_frozen BK539.out 3
                  have hfz59_4 := blk_frozen BK539.out 4
                  have hfz59_5 := blk_frozen BK539.out 5
                  have hfz59_6 := blk_frozen BK539.out 6
                  have hnb60 := NB544_545.out
                  have hnc60 := NB545_544.out
                  have hcz61_0 : w56.cell? ⟨gb544, 0, none⟩ = some (.int .i64 t540) := (blk_cell BK544.out 0).trans rfl
                  have hcz61_1 : w56.cell? ⟨gb544, 1, none⟩ = some (.int .i64 t541) := (blk_cell BK544.out 1).trans rfl
                  have hcz61_2 : w56.cell? ⟨gb544, 2, none⟩ = some (.int .i64 t542) := (blk_cell BK544.out 2).trans rfl
                  have hcz61_3 : w56.cell? ⟨gb544, 3, none⟩ = some (.int .i64 t543) := (blk_cell BK544.out 3).trans rfl
                  have hfz61_0 := blk_frozen BK544.out 0
                  have hfz61_1 := blk_frozen BK544.out 1
                  have hfz61_2 := blk_frozen BK544.out 2
                  have hfz61_3 := blk_frozen BK544.out 3
                  try go_wp2_with (first | ((with_reducible refine gate_callee (f := 21) rfl ?_); refine goesL_ (some 86) rfl rfl Try.func21 (by kernel_rfl) rfl #[.agg #[.int .i64 t532, .int .u64 t533, .int .u64 t534, .int .u64 t535, .int .u64 t536, .int .u64 t537, .int .u64 t538], .int .i64 1, .agg #[.int .i64 t540, .int .i64 t541, .int .i64 t542, .int .i64 t543], .int .i64 t548] rfl (by (try simp only [List.map_toArray, List.map_cons, List.map_nil]); first | done | rfl | (simp only [List.length_drop, List.length_take]; rfl)) ?_; (with_reducible refine (cookie_Read.calls kj12 t532 t533 t534 t535 t536 t537 t538 1 t540 t541 t542 t543 t548 t550 t551 _ A45.out).mono ?_); rintro e w62 ⟨rfl, hb⟩; refine ⟨_, rfl, ?_⟩; have n0_ := Aside0.mk (blk_below (g := gb539) (o := .cells #[.int .i64 t532, .int .u64 t533, .int .u64 t534, .int .u64 t535, .int .u64 t536, .int .u64 t537, .int .u64 t538] 27 (0, 0)) (by (with_reducible repeat (first | refine blk_drewN ?_ _ | refine blk_drew ?_ | refine blk_alloc ?_ _)); exact BK539.out) hb); have n1_ := Aside0.mk (blk_below (g := gb544) (o := .cells #[.int .i64 t540, .int .i64 t541, .int .i64 t542, .int .i64 t543] 32 (0, 0)) (by (with_reducible repeat (first | refine blk_drewN ?_ _ | refine blk_drew ?_ | refine blk_alloc ?_ _)); exact BK544.out) hb); have n2_ := Aside0.mk (blk_below (g := gb545) (o := .cells #[.int .i64 x546000_12, .int .i64 x546001_12, .int .i64 x546002_12, .int .i64 x546003_12] 32 (0, 0)) (by (with_reducible repeat (first | refine blk_drewN ?_ _ | refine blk_drew ?_ | refine blk_alloc ?_ _)); exact BK545.out) hb); have n3_ := Aside0.mk (below_step (by repeat (first | (with_reducible first | exact HB.out | apply below_alloc | apply pw_below_drewN | apply below_drew1 | refine below_set ?_ GE539.out | refine below_set ?_ GE544.out | refine below_set ?_ GE545.out) | exact HB.out)) hb); clear BK539; clear BK544; clear BK545; clear HB; have BK539 := n0_; have BK544 := n1_; have BK545 := n2_; have HB := n3_; clear n0_ n1_ n2_ n3_; (try clear hb); (try clear hb2); (try clear hk); (try clear hi); have hcz63_0 : w62.cell? ⟨gb539, 0, none⟩ = some (.int .i64 t532) := (blk_cell BK539.out 0).trans rfl; have hcz63_1 : w62.cell? ⟨gb539, 1, none⟩ = some (.int .u64 t533) := (blk_cell BK539.out 1).trans rfl; have hcz63_2 : w62.cell? ⟨gb539, 2, none⟩ = some (.int .u64 t534) := (blk_cell BK539.out 2).trans rfl; have hcz63_3 : w62.cell? ⟨gb539, 3, none⟩ = some (.int .u64 t535) := (blk_cell BK539.out 3).trans rfl; have hcz63_4 : w62.cell? ⟨gb539, 4, none⟩ = some (.int .u64 t536) := (blk_cell BK539.out 4).trans rfl; have hcz63_5 : w62.cell? ⟨gb539, 5, none⟩ = some (.int .u64 t537) := (blk_cell BK539.out 5).trans rfl; have hcz63_6 : w62.cell? ⟨gb539, 6, none⟩ = some (.int .u64 t538) := (blk_cell BK539.out 6).trans rfl; have hfz63_0 := blk_frozen BK539.out 0; have hfz63_1 := blk_frozen BK539.out 1; have hfz63_2 := blk_frozen BK539.out 2; have hfz63_3 := blk_frozen BK539.out 3; have hfz63_4 := blk_frozen BK539.out 4; have hfz63_5 := blk_frozen BK539.out 5; have hfz63_6 := blk_frozen BK539.out 6; have hcz64_0 : w62.cell? ⟨gb544, 0, none⟩ = some (.int .i64 t540) := (blk_cell BK544.out 0).trans rfl; have hcz64_1 : w62.cell? ⟨gb544, 1, none⟩ = some (.int .i64 t541) := (blk_cell BK544.out 1).trans rfl; have hcz64_2 : w62.cell? ⟨gb544, 2, none⟩ = some (.int .i64 t542) := (blk_cell BK544.out 2).trans rfl; have hcz64_3 : w62.cell? ⟨gb544, 3, none⟩ = some (.int .i64 t543) := (blk_cell BK544.out 3).trans rfl; have hfz64_0 := blk_frozen BK544.out 0; have hfz64_1 := blk_frozen BK544.out 1; have hfz64_2 := blk_frozen BK544.out 2; have hfz64_3 := blk_frozen BK544.out 3) | ((with_reducible refine gate_callee (f := 23) rfl ?_); refine goesL_ (some 93) rfl rfl Try.func23 (by kernel_rfl) rfl #[.agg #[.int .i64 t532, .int .u64 t533, .int .u64 t534, .int .u64 t535, .int .u64 t536, .int .u64 t537, .int .u64 t538], .int .i64 1, .agg #[.int .i64 t540, .int .i64 t541, .int .i64 t542, .int .i64 t543], .int .i64 t548] rfl (by (try simp only [List.map_toArray, List.map_cons, List.map_nil]); first | done | rfl | (simp only [List.length_drop, List.length_take]; rfl)) ?_; (with_reducible refine (roundhouseref5_Read.calls kj12 t532 t533 t534 t535 t536 t537 t538 1 t540 t541 t542 t543 t548 t552 t553 _ A46.out).mono ?_); rintro e w65 ⟨rfl, hb⟩; refine ⟨_, rfl, ?_⟩; have n0_ := Aside0.mk (blk_below (g := gb539) (o := .cells #[.int .i64 t532, .int .u64 t533, .int .u64 t534, .int .u64 t535, .int .u64 t536, .int .u64 t537, .int .u64 t538] 27 (0, 0)) (by (with_reducible repeat (first | refine blk_drewN ?_ _ | refine blk_drew ?_ | refine blk_alloc ?_ _)); exact BK539.out) hb); have n1_ := Aside0.mk (blk_below (g := gb544) (o := .cells #[.int .i64 t540, .int .i64 t541, .int .i64 t542, .int .i64 t543] 32 (0, 0)) (by (with_reducible repeat (first | refine blk_drewN ?_ _ | refine blk_drew ?_ | refine blk_alloc ?_ _)); exact BK544.out) hb); have n2_ := Aside0.mk (blk_below (g := gb545) (o := .cells #[.int .i64 x546000_12, .int .i64 x546001_12, .int .i64 x546002_12, .int .i64 x546003_12] 32 (0, 0)) (by (with_reducible repeat (first | refine blk_drewN ?_ _ | refine blk_drew ?_ | refine blk_alloc ?_ _)); exact BK545.out) hb); have n3_ := Aside0.mk (below_step (by repeat (first | (with_reducible first | exact HB.out | apply below_alloc | apply pw_below_drewN | apply below_drew1 | refine below_set ?_ GE539.out | refine below_set ?_ GE544.out | refine below_set ?_ GE545.out) | exact HB.out)) hb); clear BK539; clear BK544; clear BK545; clear HB; have BK539 := n0_; have BK544 := n1_; have BK545 := n2_; have HB := n3_; clear n0_ n1_ n2_ n3_; (try clear hb); (try clear hb2); (try clear hk); (try clear hi); have hcz66_0 : w65.cell? ⟨gb539, 0, none⟩ = some (.int .i64 t532) := (blk_cell BK539.out 0).trans rfl; have hcz66_1 : w65.cell? ⟨gb539, 1, none⟩ = some (.int .u64 t533) := (blk_cell BK539.out 1).trans rfl; have hcz66_2 : w65.cell? ⟨gb539, 2, none⟩ = some (.int .u64 t534) := (blk_cell BK539.out 2).trans rfl; have hcz66_3 : w65.cell? ⟨gb539, 3, none⟩ = some (.int .u64 t535) := (blk_cell BK539.out 3).trans rfl; have hcz66_4 : w65.cell? ⟨gb539, 4, none⟩ = some (.int .u64 t536) := (blk_cell BK539.out 4).trans rfl; have hcz66_5 : w65.cell? ⟨gb539, 5, none⟩ = some (.int .u64 t537) := (blk_cell BK539.out 5).trans rfl; have hcz66_6 : w65.cell? ⟨gb539, 6, none⟩ = some (.int .u64 t538) := (blk_cell BK539.out 6).trans rfl; have hfz66_0 := blk_frozen BK539.out 0; have hfz66_1 := blk_frozen BK539.out 1; have hfz66_2 := blk_frozen BK539.out 2; have hfz66_3 := blk_frozen BK539.out 3; have hfz66_4 := blk_frozen BK539.out 4; have hfz66_5 := blk_frozen BK539.out 5; have hfz66_6 := blk_frozen BK539.out 6; have hcz67_0 : w65.cell? ⟨gb545, 0, none⟩ = some (.int .i64 x546000_12) := (blk_cell BK545.out 0).trans rfl; have hcz67_1 : w65.cell? ⟨gb545, 1, none⟩ = some (.int .i64 x546001_12) := (blk_cell BK545.out 1).trans rfl; have hcz67_2 : w65.cell? ⟨gb545, 2, none⟩ = some (.int .i64 x546002_12) := (blk_cell BK545.out 2).trans rfl; have hcz67_3 : w65.cell? ⟨gb545, 3, none⟩ = some (.int .i64 x546003_12) := (blk_cell BK545.out 3).trans rfl; have hfz67_0 := blk_frozen BK545.out 0; have hfz67_1 := blk_frozen BK545.out 1; have hfz67_2 := blk_frozen BK545.out 2; have hfz67_3 := blk_frozen BK545.out 3) | ((with_reducible refine gate_callee (f := 22) rfl ?_); refine goesL_ (some 100) rfl rfl Try.func22 (by kernel_rfl) rfl #[.agg #[.int .i64 t532, .int .u64 t533, .int .u64 t534, .int .u64 t535, .int .u64 t536, .int .u64 t537, .int .u64 t538], .int .i64 1, .agg #[.int .i64 x546000_12, .int .i64 x546001_12, .int .i64 x546002_12, .int .i64 x546003_12], .int .i64 t547] rfl (by (try simp only [List.map_toArray, List.map_cons, List.map_nil]); first | done | rfl | (simp only [List.length_drop, List.length_take]; rfl)) ?_; (with_reducible refine (roundhouseref5_Make.calls kj12 t532 t533 t534 t535 t536 t537 t538 1 x546000_12 x546001_12 x546002_12 x546003_12 t547 t554 _ A47.out).mono ?_); rintro e w68 ⟨rfl, hb⟩; refine ⟨_, rfl, ?_⟩; have n0_ := Aside0.mk (blk_below (g := gb539) (o := .cells #[.int .i64 t532, .int .u64 t533, .int .u64 t534, .int .u64 t535, .int .u64 t536, .int .u64 t537, .int .u64 t538] 27 (0, 0)) (by (with_reducible repeat (first | refine blk_drewN ?_ _ | refine blk_drew ?_ | refine blk_alloc ?_ _)); exact BK539.out) hb); have n1_ := Aside0.mk (blk_below (g := gb544) (o := .cells #[.int .i64 t540, .int .i64 t541, .int .i64 t542, .int .i64 t543] 32 (0, 0)) (by (with_reducible repeat (first | refine blk_drewN ?_ _ | refine blk_drew ?_ | refine blk_alloc ?_ _)); exact BK544.out) hb); have n2_ := Aside0.mk (blk_below (g := gb545) (o := .cells #[.int .i64 x546000_12, .int .i64 x546001_12, .int .i64 x546002_12, .int .i64 x546003_12] 32 (0, 0)) (by (with_reducible repeat (first | refine blk_drewN ?_ _ | refine blk_drew ?_ | refine blk_alloc ?_ _)); exact BK545.out) hb); have n3_ := Aside0.mk (below_step (by repeat (first | (with_reducible first | exact HB.out | apply below_alloc | apply pw_below_drewN | apply below_drew1 | refine below_set ?_ GE539.out | refine below_set ?_ GE544.out | refine below_set ?_ GE545.out) | exact HB.out)) hb); clear BK539; clear BK544; clear BK545; clear HB; have BK539 := n0_; have BK544 := n1_; have BK545 := n2_; have HB := n3_; clear n0_ n1_ n2_ n3_; (try clear hb); (try clear hb2); (try clear hk); (try clear hi); have hcz69_0 : w68.cell? ⟨gb539, 0, none⟩ = some (.int .i64 t532) := (blk_cell BK539.out 0).trans rfl; have hcz69_1 : w68.cell? ⟨gb539, 1, none⟩ = some (.int .u64 t533) := (blk_cell BK539.out 1).trans rfl; have hcz69_2 : w68.cell? ⟨gb539, 2, none⟩ = some (.int .u64 t534) := (blk_cell BK539.out 2).trans rfl; have hcz69_3 : w68.cell? ⟨gb539, 3, none⟩ = some (.int .u64 t535) := (blk_cell BK539.out 3).trans rfl; have hcz69_4 : w68.cell? ⟨gb539, 4, none⟩ = some (.int .u64 t536) := (blk_cell BK539.out 4).trans rfl; have hcz69_5 : w68.cell? ⟨gb539, 5, none⟩ = some (.int .u64 t537) := (blk_cell BK539.out 5).trans rfl; have hcz69_6 : w68.cell? ⟨gb539, 6, none⟩ = some (.int .u64 t538) := (blk_cell BK539.out 6).trans rfl; have hfz69_0 := blk_frozen BK539.out 0; have hfz69_1 := blk_frozen BK539.out 1; have hfz69_2 := blk_frozen BK539.out 2; have hfz69_3 := blk_frozen BK539.out 3; have hfz69_4 := blk_frozen BK539.out 4; have hfz69_5 := blk_frozen BK539.out 5; have hfz69_6 := blk_frozen BK539.out 6; have hcz70_0 : w68.cell? ⟨gb545, 0, none⟩ = some (.int .i64 x546000_12) := (blk_cell BK545.out 0).trans rfl; have hcz70_1 : w68.cell? ⟨gb545, 1, none⟩ = some (.int .i64 x546001_12) := (blk_cell BK545.out 1).trans rfl; have hcz70_2 : w68.cell? ⟨gb545, 2, none⟩ = some (.int .i64 x546002_12) := (blk_cell BK545.out 2).trans rfl; have hcz70_3 : w68.cell? ⟨gb545, 3, none⟩ = some (.int .i64 x546003_12) := (blk_cell BK545.out 3).trans rfl; have hfz70_0 := blk_frozen BK545.out 0; have hfz70_1 := blk_frozen BK545.out 1; have hfz70_2 := blk_frozen BK545.out 2; have hfz70_3 := blk_frozen BK545.out 3) | (go_at_call 22; (with_reducible refine (roundhouseref5_Make.calls kj12 t532 t533 t534 t535 t536 t537 t538 2 x546000_12 x546001_12 x546002_12 x546003_12 t547 t555 _ A49.out).mono ?_); rintro e w71 ⟨rfl, hb⟩; have n0_ := Aside0.mk (blk_below (g := gb539) (o := .cells #[.int .i64 t532, .int .u64 t533, .int .u64 t534, .int .u64 t535, .int .u64 t536, .int .u64 t537, .int .u64 t538] 27 (0, 0)) (by (with_reducible repeat (first | refine blk_drewN ?_ _ | refine blk_drew ?_ | refine blk_alloc ?_ _)); exact BK539.out) hb); have n1_ := Aside0.mk (blk_below (g := gb544) (o := .cells #[.int .i64 t540, .int .i64 t541, .int .i64 t542, .int .i64 t543] 32 (0, 0)) (by (with_reducible repeat (first | refine blk_drewN ?_ _ | refine blk_drew ?_ | refine blk_alloc ?_ _)); exact BK544.out) hb); have n2_ := Aside0.mk (blk_below (g := gb545) (o := .cells #[.int .i64 x546000_12, .int .i64 x546001_12, .int .i64 x546002_12, .int .i64 x546003_12] 32 (0, 0)) (by (with_reducible repeat (first | refine blk_drewN ?_ _ | refine blk_drew ?_ | refine blk_alloc ?_ _)); exact BK545.out) hb); have n3_ := Aside0.mk (below_step (by repeat (first | (with_reducible first | exact HB.out | apply below_alloc | apply pw_below_drewN | apply below_drew1 | refine below_set ?_ GE539.out | refine below_set ?_ GE544.out | refine below_set ?_ GE545.out) | exact HB.out)) hb); clear BK539; clear BK544; clear BK545; clear HB; have BK539 := n0_; have BK544 := n1_; have BK545 := n2_; have HB := n3_; clear n0_ n1_ n2_ n3_; (try clear hb); (try clear hb2); (try clear hk); (try clear hi); have hcz72_0 : w71.cell? ⟨gb544, 0, none⟩ = some (.int .i64 t540) := (blk_cell BK544.out 0).trans rfl; have hcz72_1 : w71.cell? ⟨gb544, 1, none⟩ = some (.int .i64 t541) := (blk_cell BK544.out 1).trans rfl; have hcz72_2 : w71.cell? ⟨gb544, 2, none⟩ = some (.int .i64 t542) := (blk_cell BK544.out 2).trans rfl; have hcz72_3 : w71.cell? ⟨gb544, 3, none⟩ = some (.int .i64 t543) := (blk_cell BK544.out 3).trans rfl; have hfz72_0 := blk_frozen BK544.out 0; have hfz72_1 := blk_frozen BK544.out 1; have hfz72_2 := blk_frozen BK544.out 2; have hfz72_3 := blk_frozen BK544.out 3; have hcz73_0 : w71.cell? ⟨gb545, 0, none⟩ = some (.int .i64 x546000_12) := (blk_cell BK545.out 0).trans rfl; have hcz73_1 : w71.cell? ⟨gb545, 1, none⟩ = some (.int .i64 x546001_12) := (blk_cell BK545.out 1).trans rfl; have hcz73_2 : w71.cell? ⟨gb545, 2, none⟩ = some (.int .i64 x546002_12) := (blk_cell BK545.out 2).trans rfl; have hcz73_3 : w71.cell? ⟨gb545, 3, none⟩ = some (.int .i64 x546003_12) := (blk_cell BK545.out 3).trans rfl; have hfz73_0 := blk_frozen BK545.out 0; have hfz73_1 := blk_frozen BK545.out 1; have hfz73_2 := blk_frozen BK545.out 2; have hfz73_3 := blk_frozen BK545.out 3))
                  go_ret
                  exact ⟨by first | rfl | (simp [errW_none, errW_some] <;> rfl) | (simp [*, errW_none, errW_some] <;> rfl), by repeat (first | (with_reducible first | exact HB.out | apply below_alloc | apply pw_below_drewN | apply below_drew1 | refine below_set ?_ GE539.out | refine below_set ?_ GE544.out | refine below_set ?_ GE545.out) | exact HB.out)⟩
                · rw [if_neg c53] at H
                  have c53b0 : (!(t540 == x546000_12) || (!(t541 == x546001_12) || (!(t542 == x546002_12) || (!(t543 == x546003_12))))) = false := by simpa using c53
                  clear c53
                  by_cases c74 : t551 = true
                  · subst c74
                    have H1 : (some (t550 == t547)) = some r := by rw [if_pos rfl] at H; exact H
                    clear H
                    have H := H1
                    clear H1
                    obtain rfl := Option.some.inj H
                    try go_wp2_with (first | ((with_reducible refine gate_callee (f := 18) rfl ?_); refine goesL_ (some 73) rfl rfl Try.func18 (by kernel_rfl) rfl #[.int .i64 a4, .int .i64 64] rfl (by (try simp only [List.map_toArray, List.map_cons, List.map_nil]); first | done | rfl | (simp only [List.length_drop, List.length_take]; rfl)) ?_; (with_reducible refine (roundhouselaw5_within.calls a4 64 t547 _ A42.out).mono ?_); rintro e w' ⟨rfl, ⟨nd, rfl⟩⟩; refine ⟨_, rfl, ?_⟩))
                    (try (rw [drewN_self wc]; generalize hq_ : World.drewN wc _ = wc; have n0_ : Aside0 (wc.heap[gb539]? = some (.cells #[.int .i64 t532, .int .u64 t533, .int .u64 t534, .int .u64 t535, .int .u64 t536, .int .u64 t537, .int .u64 t538] 27 (0, 0))) := ⟨by rw [← hq_]; exact (by (with_reducible repeat (first | refine blk_drewN ?_ _ | refine blk_drew ?_ | refine blk_alloc ?_ _)); exact BK539.out)⟩; have n1_ : Aside0 (wc.heap[gb544]? = some (.cells #[.int .i64 t540, .int .i64 t541, .int .i64 t542, .int .i64 t543] 32 (0, 0))) := ⟨by rw [← hq_]; exact (by (with_reducible repeat (first | refine blk_drewN ?_ _ | refine blk_drew ?_ | refine blk_alloc ?_ _)); exact BK544.out)⟩; have n2_ : Aside0 (wc.heap[gb545]? = some (.cells #[.int .i64 x546000_12, .int .i64 x546001_12, .int .i64 x546002_12, .int .i64 x546003_12] 32 (0, 0))) := ⟨by rw [← hq_]; exact (by (with_reducible repeat (first | refine blk_drewN ?_ _ | refine blk_drew ?_ | refine blk_alloc ?_ _)); exact BK545.out)⟩; have n3_ : Aside0 (Below w.heap.size w wc) := ⟨by rw [← hq_]; exact (by repeat (first | (with_reducible first | exact HB.out | apply below_alloc | apply pw_below_drewN | apply below_drew1 | refine below_set ?_ GE539.out | refine below_set ?_ GE544.out | refine below_set ?_ GE545.out) | exact HB.out))⟩; clear BK539 BK544 BK545 HB hq_; have BK539 := n0_; have BK544 := n1_; have BK545 := n2_; have HB := n3_; clear n0_ n1_ n2_ n3_))
                    have n0_ := Aside0.mk (blk_drew BK539.out)
                    have n1_ := Aside0.mk (blk_drew BK544.out)
                    have n2_ := Aside0.mk (blk_drew BK545.out)
                    have n3_ := Aside0.mk (below_drew1 HB.out)
                    clear BK539
                    clear BK544
                    clear BK545
                    clear HB
                    have BK539 := n0_
                    have BK544 := n1_
                    have BK545 := n2_
                    have HB := n3_
                    clear n0_ n1_ n2_ n3_
                    refine start_ (n := 10) (S := fun w' => w'.cell? ⟨gb539, 0, none⟩ = some (.int .i64 t532) ∧ w'.cell? ⟨gb539, 1, none⟩ = some (.int .u64 t533) ∧ w'.cell? ⟨gb539, 2, none⟩ = some (.int .u64 t534) ∧ w'.cell? ⟨gb539, 3, none⟩ = some (.int .u64 t535) ∧ w'.cell? ⟨gb539, 4, none⟩ = some (.int .u64 t536) ∧ w'.cell? ⟨gb539, 5, none⟩ = some (.int .u64 t537) ∧ w'.cell? ⟨gb539, 6, none⟩ = some (.int .u64 t538) ∧ w'.cell? ⟨gb545, 0, none⟩ = some (.int .i64 x546000_12) ∧ w'.cell? ⟨gb545, 1, none⟩ = some (.int .i64 x546001_12) ∧ w'.cell? ⟨gb545, 2, none⟩ = some (.int .i64 x546002_12) ∧ w'.cell? ⟨gb545, 3, none⟩ = some (.int .i64 x546003_12)) (ds := []) #[false, false, false, false, false, false, false, false, false, false] (by kernel_rfl) rfl rfl ⟨(blk_cell BK539.out 0).trans rfl, (blk_cell BK539.out 1).trans rfl, (blk_cell BK539.out 2).trans rfl, (blk_cell BK539.out 3).trans rfl, (blk_cell BK539.out 4).trans rfl, (blk_cell BK539.out 5).trans rfl, (blk_cell BK539.out 6).trans rfl, (blk_cell BK545.out 0).trans rfl, (blk_cell BK545.out 1).trans rfl, (blk_cell BK545.out 2).trans rfl, (blk_cell BK545.out 3).trans rfl⟩ (fun hHeld => ?_); refine with_tabW roundhouselaw5_CookieFlows.tab16 roundhouselaw5_CookieFlows.bits16 (fun HT_ HW_ => ?_)
                    generalize wc.drew = w75 at BK539 BK544 BK545 HB hHeld ⊢
                    refine pure_ (i := 2) (N := some 76) (v := ?_) (a' := ?_) #[false, false, true, false, false, false, false, false, false, false] rfl rfl (any_of HT_.out (by kernel_rfl)) (fun _ _ _ h => h) (Or.inl ⟨by rfl, ?_⟩) ?_ ?_
                    rotate_left
                    · intro w'
                      go_simp
                      with_reducible rfl
                    rotate_left
                    · simp only [Act.put, List.setIfInBounds_toArray, List.set_cons_zero, List.set_cons_succ, i64_w, i32_w]
                      rfl
                    refine pure_ (i := 6) (N := some 80) (v := ?_) (a' := ?_) #[false, false, true, false, false, false, true, false, false, false] rfl rfl (any_of HT_.out (by kernel_rfl)) (fun _ _ _ h => h) (Or.inl ⟨by rfl, ?_⟩) ?_ ?_
                    rotate_left
                    · intro w'
                      go_simp
                      with_reducible rfl
                    rotate_left
                    · simp only [Act.put, List.setIfInBounds_toArray, List.set_cons_zero, List.set_cons_succ, i64_w, i32_w]
                      rfl
                    refine take_ (i := 0) (N := some 74) (v := ?_) (a' := ?_) #[true, false, true, false, false, false, true, false, false, false] rfl rfl (take_ofW HT_.out HW_.out (by kernel_rfl)) (fun _ _ _ h => h) (Or.inl ⟨by rfl, ?_⟩) hHeld ?_ ?_
                    rotate_left
                    · rintro w' ⟨s0, s1, s2, s3, s4, s5, s6, s7, s8, s9, s10⟩
                      go_simp
                      with_reducible rfl
                    rotate_left
                    · simp only [Act.put, List.setIfInBounds_toArray, List.set_cons_zero, List.set_cons_succ, i64_w, i32_w]
                      rfl
                    refine take_ (i := 1) (N := some 75) (v := ?_) (a' := ?_) #[true, true, true, false, false, false, true, false, false, false] rfl rfl (take_ofW HT_.out HW_.out (by kernel_rfl)) (fun _ _ _ h => h) (Or.inl ⟨by rfl, ?_⟩) hHeld ?_ ?_
                    rotate_left
                    · rintro w' ⟨s0, s1, s2, s3, s4, s5, s6, s7, s8, s9, s10⟩
                      go_simp
                      with_reducible rfl
                    rotate_left
                    · simp only [Act.put, List.setIfInBounds_toArray, List.set_cons_zero, List.set_cons_succ, i64_w, i32_w]
                      rfl
                    refine take_ (i := 4) (N := some 78) (v := ?_) (a' := ?_) #[true, true, true, false, true, false, true, false, false, false] rfl rfl (take_ofW HT_.out HW_.out (by kernel_rfl)) (fun _ _ _ h => h) (Or.inl ⟨by rfl, ?_⟩) hHeld ?_ ?_
                    rotate_left
                    · rintro w' ⟨s0, s1, s2, s3, s4, s5, s6, s7, s8, s9, s10⟩
                      go_simp
                      with_reducible rfl
                    rotate_left
                    · simp only [Act.put, List.setIfInBounds_toArray, List.set_cons_zero, List.set_cons_succ, i64_w, i32_w]
                      rfl
                    refine take_ (i := 5) (N := some 79) (v := ?_) (a' := ?_) #[true, true, true, false, true, true, true, false, false, false] rfl rfl (take_ofW HT_.out HW_.out (by kernel_rfl)) (fun _ _ _ h => h) (Or.inl ⟨by rfl, ?_⟩) hHeld ?_ ?_
                    rotate_left
                    · rintro w' ⟨s0, s1, s2, s3, s4, s5, s6, s7, s8, s9, s10⟩
                      go_simp
                      with_reducible rfl
                    rotate_left
                    · simp only [Act.put, List.setIfInBounds_toArray, List.set_cons_zero, List.set_cons_succ, i64_w, i32_w]
                      rfl
                    refine one_ (i := 3) (N := some 77) #[true, true, true, true, true, true, true, false, false, false] rfl rfl (one_of HT_.out (by kernel_rfl)) (by decide) (fun K hK => ?_)
                    refine goes_ Try.func19 (by kernel_rfl) rfl #[.agg #[.int .i64 t532, .int .u64 t533, .int .u64 t534, .int .u64 t535, .int .u64 t536, .int .u64 t537, .int .u64 t538], .int .i64 1, .agg #[.int .i64 x546000_12, .int .i64 x546001_12, .int .i64 x546002_12, .int .i64 x546003_12], .int .i64 t547] (by rfl) rfl rfl (by (try simp only [List.map_toArray, List.map_cons, List.map_nil]); first | done | rfl | (simp only [List.length_drop, List.length_take]; rfl)) ?_
                    with_reducible refine (cookie_Make.calls kj12 t532 t533 t534 t535 t536 t537 t538 1 x546000_12 x546001_12 x546002_12 x546003_12 t547 t548 _ A43.out).mono ?_
                    rintro e w76 ⟨rfl, hb⟩
                    refine ⟨_, rfl, ?_⟩
                    have n0_ := Aside0.mk (blk_below (g := gb539) (o := .cells #[.int .i64 t532, .int .u64 t533, .int .u64 t534, .int .u64 t535, .int .u64 t536, .int .u64 t537, .int .u64 t538] 27 (0, 0)) (by (with_reducible repeat (first | refine blk_drewN ?_ _ | refine blk_drew ?_ | refine blk_alloc ?_ _)); exact BK539.out) hb)
                    have n1_ := Aside0.mk (blk_below (g := gb544) (o := .cells #[.int .i64 t540, .int .i64 t541, .int .i64 t542, .int .i64 t543] 32 (0, 0)) (by (with_reducible repeat (first | refine blk_drewN ?_ _ | refine blk_drew ?_ | refine blk_alloc ?_ _)); exact BK544.out) hb)
                    have n2_ := Aside0.mk (blk_below (g := gb545) (o := .cells #[.int .i64 x546000_12, .int .i64 x546001_12, .int .i64 x546002_12, .int .i64 x546003_12] 32 (0, 0)) (by (with_reducible repeat (first | refine blk_drewN ?_ _ | refine blk_drew ?_ | refine blk_alloc ?_ _)); exact BK545.out) hb)
                    have n3_ := Aside0.mk (below_step (by repeat (first | (with_reducible first | exact HB.out | apply below_alloc | apply pw_below_drewN | apply below_drew1 | refine below_set ?_ GE539.out | refine below_set ?_ GE544.out | refine below_set ?_ GE545.out) | exact HB.out)) hb)
                    clear BK539
                    clear BK544
                    clear BK545
                    clear HB
                    have BK539 := n0_
                    have BK544 := n1_
                    have BK545 := n2_
                    have HB := n3_
                    clear n0_ n1_ n2_ n3_
                    (try clear hb)
                    (try clear hb2)
                    (try clear hk)
                    (try clear hi)
                    refine hK.out _ _ ⟨(blk_cell BK539.out 0).trans rfl, (blk_cell BK539.out 1).trans rfl, (blk_cell BK539.out 2).trans rfl, (blk_cell BK539.out 3).trans rfl, (blk_cell BK539.out 4).trans rfl, (blk_cell BK539.out 5).trans rfl, (blk_cell BK539.out 6).trans rfl, (blk_cell BK545.out 0).trans rfl, (blk_cell BK545.out 1).trans rfl, (blk_cell BK545.out 2).trans rfl, (blk_cell BK545.out 3).trans rfl⟩ (fun hHeld => ?_)
                    clear hK K
                    refine norm_ (a' := ?_) ?_ ?_
                    rotate_left
                    · show Act.put _ (some 77) _ = _
                      simp only [Act.put, List.setIfInBounds_toArray, List.set_cons_zero, List.set_cons_succ, i64_w, i32_w]
                      rfl
                    refine one_ (i := 7) (N := some 81) #[true, true, true, true, true, true, true, true, false, false] rfl rfl (one_of HT_.out (by kernel_rfl)) (by decide) (fun K hK => ?_)
                    refine goes_ Try.func19 (by kernel_rfl) rfl #[.agg #[.int .i64 t532, .int .u64 t533, .int .u64 t534, .int .u64 t535, .int .u64 t536, .int .u64 t537, .int .u64 t538], .int .i64 2, .agg #[.int .i64 x546000_12, .int .i64 x546001_12, .int .i64 x546002_12, .int .i64 x546003_12], .int .i64 t547] (by rfl) rfl rfl (by (try simp only [List.map_toArray, List.map_cons, List.map_nil]); first | done | rfl | (simp only [List.length_drop, List.length_take]; rfl)) ?_
                    with_reducible refine (cookie_Make.calls kj12 t532 t533 t534 t535 t536 t537 t538 2 x546000_12 x546001_12 x546002_12 x546003_12 t547 t549 _ A44.out).mono ?_
                    rintro e w77 ⟨rfl, hb⟩
                    refine ⟨_, rfl, ?_⟩
                    have n0_ := Aside0.mk (blk_below (g := gb539) (o := .cells #[.int .i64 t532, .int .u64 t533, .int .u64 t534, .int .u64 t535, .int .u64 t536, .int .u64 t537, .int .u64 t538] 27 (0, 0)) (by (with_reducible repeat (first | refine blk_drewN ?_ _ | refine blk_drew ?_ | refine blk_alloc ?_ _)); exact BK539.out) hb)
                    have n1_ := Aside0.mk (blk_below (g := gb544) (o := .cells #[.int .i64 t540, .int .i64 t541, .int .i64 t542, .int .i64 t543] 32 (0, 0)) (by (with_reducible repeat (first | refine blk_drewN ?_ _ | refine blk_drew ?_ | refine blk_alloc ?_ _)); exact BK544.out) hb)
                    have n2_ := Aside0.mk (blk_below (g := gb545) (o := .cells #[.int .i64 x546000_12, .int .i64 x546001_12, .int .i64 x546002_12, .int .i64 x546003_12] 32 (0, 0)) (by (with_reducible repeat (first | refine blk_drewN ?_ _ | refine blk_drew ?_ | refine blk_alloc ?_ _)); exact BK545.out) hb)
                    have n3_ := Aside0.mk (below_step (by repeat (first | (with_reducible first | exact HB.out | apply below_alloc | apply pw_below_drewN | apply below_drew1 | refine below_set ?_ GE539.out | refine below_set ?_ GE544.out | refine below_set ?_ GE545.out) | exact HB.out)) hb)
                    clear BK539
                    clear BK544
                    clear BK545
                    clear HB
                    have BK539 := n0_
                    have BK544 := n1_
                    have BK545 := n2_
                    have HB := n3_
                    clear n0_ n1_ n2_ n3_
                    (try clear hb)
                    (try clear hb2)
                    (try clear hk)
                    (try clear hi)
                    refine hK.out _ _ ⟨(blk_cell BK539.out 0).trans rfl, (blk_cell BK539.out 1).trans rfl, (blk_cell BK539.out 2).trans rfl, (blk_cell BK539.out 3).trans rfl, (blk_cell BK539.out 4).trans rfl, (blk_cell BK539.out 5).trans rfl, (blk_cell BK539.out 6).trans rfl, (blk_cell BK545.out 0).trans rfl, (blk_cell BK545.out 1).trans rfl, (blk_cell BK545.out 2).trans rfl, (blk_cell BK545.out 3).trans rfl⟩ (fun hHeld => ?_)
                    clear hK K
                    refine norm_ (a' := ?_) ?_ ?_
                    rotate_left
                    · show Act.put _ (some 81) _ = _
                      simp only [Act.put, List.setIfInBounds_toArray, List.set_cons_zero, List.set_cons_succ, i64_w, i32_w]
                      rfl
                    refine pure_ (i := 8) (N := some 19) (v := ?_) (a' := ?_) #[true, true, true, true, true, true, true, true, true, false] rfl rfl (any_of HT_.out (by kernel_rfl)) (fun _ _ _ h => h) (Or.inl ⟨by rfl, ?_⟩) ?_ ?_
                    rotate_left
                    · intro w'
                      go_simp
                      with_reducible rfl
                    rotate_left
                    · simp only [Act.put, List.setIfInBounds_toArray, List.set_cons_zero, List.set_cons_succ, i64_w, i32_w]
                      rfl
                    refine pure_ (i := 9) (N := some 20) (v := ?_) (a' := ?_) #[true, true, true, true, true, true, true, true, true, true] rfl rfl (any_of HT_.out (by kernel_rfl)) (fun _ _ _ h => h) (Or.inl ⟨by rfl, ?_⟩) ?_ ?_
                    rotate_left
                    · intro w'
                      go_simp
                      with_reducible rfl
                    rotate_left
                    · simp only [Act.put, List.setIfInBounds_toArray, List.set_cons_zero, List.set_cons_succ, i64_w, i32_w]
                      rfl
                    refine done_ (done_of HT_.out (by kernel_rfl)) ?_
                    have hnb78 := NB539_544.out
                    have hnc78 := NB544_539.out
                    have hnb79 := NB539_545.out
                    have hnc79 := NB545_539.out
                    have hcz80_0 : w77.cell? ⟨gb539, 0, none⟩ = some (.int .i64 t532) := (blk_cell BK539.out 0).trans rfl
                    have hcz80_1 : w77.cell? ⟨gb539, 1, none⟩ = some (.int .u64 t533) := (blk_cell BK539.out 1).trans rfl
                    have hcz80_2 : w77.cell? ⟨gb539, 2, none⟩ = some (.int .u64 t534) := (blk_cell BK539.out 2).trans rfl
                    have hcz80_3 : w77.cell? ⟨gb539, 3, none⟩ = some (.int .u64 t535) := (blk_cell BK539.out 3).trans rfl
                    have hcz80_4 : w77.cell? ⟨gb539, 4, none⟩ = some (.int .u64 t536) := (blk_cell BK539.out 4).trans rfl
                    have hcz80_5 : w77.cell? ⟨gb539, 5, none⟩ = some (.int .u64 t537) := (blk_cell BK539.out 5).trans rfl
                    have hcz80_6 : w77.cell? ⟨gb539, 6, none⟩ = some (.int .u64 t538) := (blk_cell BK539.out 6).trans rfl
                    have hfz80_0 := blk_frozen BK539.out 0
                    have hfz80_1 := blk_frozen BK539.out 1
                    have hfz80_2 := blk_frozen BK539.out 2
                    have hfz80_3 := blk_frozen BK539.out 3
                    have hfz80_4 := blk_frozen BK539.out 4
                    have hfz80_5 := blk_frozen BK539.out 5
                    have hfz80_6 := blk_frozen BK539.out 6
                    have hnb81 := NB544_545.out
                    have hnc81 := NB545_544.out
                    have hcz82_0 : w77.cell? ⟨gb544, 0, none⟩ = some (.int .i64 t540) := (blk_cell BK544.out 0).trans rfl
                    have hcz82_1 : w77.cell? ⟨gb544, 1, none⟩ = some (.int .i64 t541) := (blk_cell BK544.out 1).trans rfl
                    have hcz82_2 : w77.cell? ⟨gb544, 2, none⟩ = some (.int .i64 t542) := (blk_cell BK544.out 2).trans rfl
                    have hcz82_3 : w77.cell? ⟨gb544, 3, none⟩ = some (.int .i64 t543) := (blk_cell BK544.out 3).trans rfl
                    have hfz82_0 := blk_frozen BK544.out 0
                    have hfz82_1 := blk_frozen BK544.out 1
                    have hfz82_2 := blk_frozen BK544.out 2
                    have hfz82_3 := blk_frozen BK544.out 3
                    try go_wp2_with (first | ((with_reducible refine gate_callee (f := 21) rfl ?_); refine goesL_ (some 86) rfl rfl Try.func21 (by kernel_rfl) rfl #[.agg #[.int .i64 t532, .int .u64 t533, .int .u64 t534, .int .u64 t535, .int .u64 t536, .int .u64 t537, .int .u64 t538], .int .i64 1, .agg #[.int .i64 t540, .int .i64 t541, .int .i64 t542, .int .i64 t543], .int .i64 t548] rfl (by (try simp only [List.map_toArray, List.map_cons, List.map_nil]); first | done | rfl | (simp only [List.length_drop, List.length_take]; rfl)) ?_; (with_reducible refine (cookie_Read.calls kj12 t532 t533 t534 t535 t536 t537 t538 1 t540 t541 t542 t543 t548 t550 true _ A45.out).mono ?_); rintro e w83 ⟨rfl, hb⟩; refine ⟨_, rfl, ?_⟩; have n0_ := Aside0.mk (blk_below (g := gb539) (o := .cells #[.int .i64 t532, .int .u64 t533, .int .u64 t534, .int .u64 t535, .int .u64 t536, .int .u64 t537, .int .u64 t538] 27 (0, 0)) (by (with_reducible repeat (first | refine blk_drewN ?_ _ | refine blk_drew ?_ | refine blk_alloc ?_ _)); exact BK539.out) hb); have n1_ := Aside0.mk (blk_below (g := gb544) (o := .cells #[.int .i64 t540, .int .i64 t541, .int .i64 t542, .int .i64 t543] 32 (0, 0)) (by (with_reducible repeat (first | refine blk_drewN ?_ _ | refine blk_drew ?_ | refine blk_alloc ?_ _)); exact BK544.out) hb); have n2_ := Aside0.mk (blk_below (g := gb545) (o := .cells #[.int .i64 x546000_12, .int .i64 x546001_12, .int .i64 x546002_12, .int .i64 x546003_12] 32 (0, 0)) (by (with_reducible repeat (first | refine blk_drewN ?_ _ | refine blk_drew ?_ | refine blk_alloc ?_ _)); exact BK545.out) hb); have n3_ := Aside0.mk (below_step (by repeat (first | (with_reducible first | exact HB.out | apply below_alloc | apply pw_below_drewN | apply below_drew1 | refine below_set ?_ GE539.out | refine below_set ?_ GE544.out | refine below_set ?_ GE545.out) | exact HB.out)) hb); clear BK539; clear BK544; clear BK545; clear HB; have BK539 := n0_; have BK544 := n1_; have BK545 := n2_; have HB := n3_; clear n0_ n1_ n2_ n3_; (try clear hb); (try clear hb2); (try clear hk); (try clear hi); have hcz84_0 : w83.cell? ⟨gb539, 0, none⟩ = some (.int .i64 t532) := (blk_cell BK539.out 0).trans rfl; have hcz84_1 : w83.cell? ⟨gb539, 1, none⟩ = some (.int .u64 t533) := (blk_cell BK539.out 1).trans rfl; have hcz84_2 : w83.cell? ⟨gb539, 2, none⟩ = some (.int .u64 t534) := (blk_cell BK539.out 2).trans rfl; have hcz84_3 : w83.cell? ⟨gb539, 3, none⟩ = some (.int .u64 t535) := (blk_cell BK539.out 3).trans rfl; have hcz84_4 : w83.cell? ⟨gb539, 4, none⟩ = some (.int .u64 t536) := (blk_cell BK539.out 4).trans rfl; have hcz84_5 : w83.cell? ⟨gb539, 5, none⟩ = some (.int .u64 t537) := (blk_cell BK539.out 5).trans rfl; have hcz84_6 : w83.cell? ⟨gb539, 6, none⟩ = some (.int .u64 t538) := (blk_cell BK539.out 6).trans rfl; have hfz84_0 := blk_frozen BK539.out 0; have hfz84_1 := blk_frozen BK539.out 1; have hfz84_2 := blk_frozen BK539.out 2; have hfz84_3 := blk_frozen BK539.out 3; have hfz84_4 := blk_frozen BK539.out 4; have hfz84_5 := blk_frozen BK539.out 5; have hfz84_6 := blk_frozen BK539.out 6; have hcz85_0 : w83.cell? ⟨gb544, 0, none⟩ = some (.int .i64 t540) := (blk_cell BK544.out 0).trans rfl; have hcz85_1 : w83.cell? ⟨gb544, 1, none⟩ = some (.int .i64 t541) := (blk_cell BK544.out 1).trans rfl; have hcz85_2 : w83.cell? ⟨gb544, 2, none⟩ = some (.int .i64 t542) := (blk_cell BK544.out 2).trans rfl; have hcz85_3 : w83.cell? ⟨gb544, 3, none⟩ = some (.int .i64 t543) := (blk_cell BK544.out 3).trans rfl; have hfz85_0 := blk_frozen BK544.out 0; have hfz85_1 := blk_frozen BK544.out 1; have hfz85_2 := blk_frozen BK544.out 2; have hfz85_3 := blk_frozen BK544.out 3) | ((with_reducible refine gate_callee (f := 23) rfl ?_); refine goesL_ (some 93) rfl rfl Try.func23 (by kernel_rfl) rfl #[.agg #[.int .i64 t532, .int .u64 t533, .int .u64 t534, .int .u64 t535, .int .u64 t536, .int .u64 t537, .int .u64 t538], .int .i64 1, .agg #[.int .i64 t540, .int .i64 t541, .int .i64 t542, .int .i64 t543], .int .i64 t548] rfl (by (try simp only [List.map_toArray, List.map_cons, List.map_nil]); first | done | rfl | (simp only [List.length_drop, List.length_take]; rfl)) ?_; (with_reducible refine (roundhouseref5_Read.calls kj12 t532 t533 t534 t535 t536 t537 t538 1 t540 t541 t542 t543 t548 t552 t553 _ A46.out).mono ?_); rintro e w86 ⟨rfl, hb⟩; refine ⟨_, rfl, ?_⟩; have n0_ := Aside0.mk (blk_below (g := gb539) (o := .cells #[.int .i64 t532, .int .u64 t533, .int .u64 t534, .int .u64 t535, .int .u64 t536, .int .u64 t537, .int .u64 t538] 27 (0, 0)) (by (with_reducible repeat (first | refine blk_drewN ?_ _ | refine blk_drew ?_ | refine blk_alloc ?_ _)); exact BK539.out) hb); have n1_ := Aside0.mk (blk_below (g := gb544) (o := .cells #[.int .i64 t540, .int .i64 t541, .int .i64 t542, .int .i64 t543] 32 (0, 0)) (by (with_reducible repeat (first | refine blk_drewN ?_ _ | refine blk_drew ?_ | refine blk_alloc ?_ _)); exact BK544.out) hb); have n2_ := Aside0.mk (blk_below (g := gb545) (o := .cells #[.int .i64 x546000_12, .int .i64 x546001_12, .int .i64 x546002_12, .int .i64 x546003_12] 32 (0, 0)) (by (with_reducible repeat (first | refine blk_drewN ?_ _ | refine blk_drew ?_ | refine blk_alloc ?_ _)); exact BK545.out) hb); have n3_ := Aside0.mk (below_step (by repeat (first | (with_reducible first | exact HB.out | apply below_alloc | apply pw_below_drewN | apply below_drew1 | refine below_set ?_ GE539.out | refine below_set ?_ GE544.out | refine below_set ?_ GE545.out) | exact HB.out)) hb); clear BK539; clear BK544; clear BK545; clear HB; have BK539 := n0_; have BK544 := n1_; have BK545 := n2_; have HB := n3_; clear n0_ n1_ n2_ n3_; (try clear hb); (try clear hb2); (try clear hk); (try clear hi); have hcz87_0 : w86.cell? ⟨gb539, 0, none⟩ = some (.int .i64 t532) := (blk_cell BK539.out 0).trans rfl; have hcz87_1 : w86.cell? ⟨gb539, 1, none⟩ = some (.int .u64 t533) := (blk_cell BK539.out 1).trans rfl; have hcz87_2 : w86.cell? ⟨gb539, 2, none⟩ = some (.int .u64 t534) := (blk_cell BK539.out 2).trans rfl; have hcz87_3 : w86.cell? ⟨gb539, 3, none⟩ = some (.int .u64 t535) := (blk_cell BK539.out 3).trans rfl; have hcz87_4 : w86.cell? ⟨gb539, 4, none⟩ = some (.int .u64 t536) := (blk_cell BK539.out 4).trans rfl; have hcz87_5 : w86.cell? ⟨gb539, 5, none⟩ = some (.int .u64 t537) := (blk_cell BK539.out 5).trans rfl; have hcz87_6 : w86.cell? ⟨gb539, 6, none⟩ = some (.int .u64 t538) := (blk_cell BK539.out 6).trans rfl; have hfz87_0 := blk_frozen BK539.out 0; have hfz87_1 := blk_frozen BK539.out 1; have hfz87_2 := blk_frozen BK539.out 2; have hfz87_3 := blk_frozen BK539.out 3; have hfz87_4 := blk_frozen BK539.out 4; have hfz87_5 := blk_frozen BK539.out 5; have hfz87_6 := blk_frozen BK539.out 6; have hcz88_0 : w86.cell? ⟨gb545, 0, none⟩ = some (.int .i64 x546000_12) := (blk_cell BK545.out 0).trans rfl; have hcz88_1 : w86.cell? ⟨gb545, 1, none⟩ = some (.int .i64 x546001_12) := (blk_cell BK545.out 1).trans rfl; have hcz88_2 : w86.cell? ⟨gb545, 2, none⟩ = some (.int .i64 x546002_12) := (blk_cell BK545.out 2).trans rfl; have hcz88_3 : w86.cell? ⟨gb545, 3, none⟩ = some (.int .i64 x546003_12) := (blk_cell BK545.out 3).trans rfl; have hfz88_0 := blk_frozen BK545.out 0; have hfz88_1 := blk_frozen BK545.out 1; have hfz88_2 := blk_frozen BK545.out 2; have hfz88_3 := blk_frozen BK545.out 3) | ((with_reducible refine gate_callee (f := 22) rfl ?_); refine goesL_ (some 100) rfl rfl Try.func22 (by kernel_rfl) rfl #[.agg #[.int .i64 t532, .int .u64 t533, .int .u64 t534, .int .u64 t535, .int .u64 t536, .int .u64 t537, .int .u64 t538], .int .i64 1, .agg #[.int .i64 x546000_12, .int .i64 x546001_12, .int .i64 x546002_12, .int .i64 x546003_12], .int .i64 t547] rfl (by (try simp only [List.map_toArray, List.map_cons, List.map_nil]); first | done | rfl | (simp only [List.length_drop, List.length_take]; rfl)) ?_; (with_reducible refine (roundhouseref5_Make.calls kj12 t532 t533 t534 t535 t536 t537 t538 1 x546000_12 x546001_12 x546002_12 x546003_12 t547 t554 _ A47.out).mono ?_); rintro e w89 ⟨rfl, hb⟩; refine ⟨_, rfl, ?_⟩; have n0_ := Aside0.mk (blk_below (g := gb539) (o := .cells #[.int .i64 t532, .int .u64 t533, .int .u64 t534, .int .u64 t535, .int .u64 t536, .int .u64 t537, .int .u64 t538] 27 (0, 0)) (by (with_reducible repeat (first | refine blk_drewN ?_ _ | refine blk_drew ?_ | refine blk_alloc ?_ _)); exact BK539.out) hb); have n1_ := Aside0.mk (blk_below (g := gb544) (o := .cells #[.int .i64 t540, .int .i64 t541, .int .i64 t542, .int .i64 t543] 32 (0, 0)) (by (with_reducible repeat (first | refine blk_drewN ?_ _ | refine blk_drew ?_ | refine blk_alloc ?_ _)); exact BK544.out) hb); have n2_ := Aside0.mk (blk_below (g := gb545) (o := .cells #[.int .i64 x546000_12, .int .i64 x546001_12, .int .i64 x546002_12, .int .i64 x546003_12] 32 (0, 0)) (by (with_reducible repeat (first | refine blk_drewN ?_ _ | refine blk_drew ?_ | refine blk_alloc ?_ _)); exact BK545.out) hb); have n3_ := Aside0.mk (below_step (by repeat (first | (with_reducible first | exact HB.out | apply below_alloc | apply pw_below_drewN | apply below_drew1 | refine below_set ?_ GE539.out | refine below_set ?_ GE544.out | refine below_set ?_ GE545.out) | exact HB.out)) hb); clear BK539; clear BK544; clear BK545; clear HB; have BK539 := n0_; have BK544 := n1_; have BK545 := n2_; have HB := n3_; clear n0_ n1_ n2_ n3_; (try clear hb); (try clear hb2); (try clear hk); (try clear hi); have hcz90_0 : w89.cell? ⟨gb539, 0, none⟩ = some (.int .i64 t532) := (blk_cell BK539.out 0).trans rfl; have hcz90_1 : w89.cell? ⟨gb539, 1, none⟩ = some (.int .u64 t533) := (blk_cell BK539.out 1).trans rfl; have hcz90_2 : w89.cell? ⟨gb539, 2, none⟩ = some (.int .u64 t534) := (blk_cell BK539.out 2).trans rfl; have hcz90_3 : w89.cell? ⟨gb539, 3, none⟩ = some (.int .u64 t535) := (blk_cell BK539.out 3).trans rfl; have hcz90_4 : w89.cell? ⟨gb539, 4, none⟩ = some (.int .u64 t536) := (blk_cell BK539.out 4).trans rfl; have hcz90_5 : w89.cell? ⟨gb539, 5, none⟩ = some (.int .u64 t537) := (blk_cell BK539.out 5).trans rfl; have hcz90_6 : w89.cell? ⟨gb539, 6, none⟩ = some (.int .u64 t538) := (blk_cell BK539.out 6).trans rfl; have hfz90_0 := blk_frozen BK539.out 0; have hfz90_1 := blk_frozen BK539.out 1; have hfz90_2 := blk_frozen BK539.out 2; have hfz90_3 := blk_frozen BK539.out 3; have hfz90_4 := blk_frozen BK539.out 4; have hfz90_5 := blk_frozen BK539.out 5; have hfz90_6 := blk_frozen BK539.out 6; have hcz91_0 : w89.cell? ⟨gb545, 0, none⟩ = some (.int .i64 x546000_12) := (blk_cell BK545.out 0).trans rfl; have hcz91_1 : w89.cell? ⟨gb545, 1, none⟩ = some (.int .i64 x546001_12) := (blk_cell BK545.out 1).trans rfl; have hcz91_2 : w89.cell? ⟨gb545, 2, none⟩ = some (.int .i64 x546002_12) := (blk_cell BK545.out 2).trans rfl; have hcz91_3 : w89.cell? ⟨gb545, 3, none⟩ = some (.int .i64 x546003_12) := (blk_cell BK545.out 3).trans rfl; have hfz91_0 := blk_frozen BK545.out 0; have hfz91_1 := blk_frozen BK545.out 1; have hfz91_2 := blk_frozen BK545.out 2; have hfz91_3 := blk_frozen BK545.out 3) | (go_at_call 22; (with_reducible refine (roundhouseref5_Make.calls kj12 t532 t533 t534 t535 t536 t537 t538 2 x546000_12 x546001_12 x546002_12 x546003_12 t547 t555 _ A49.out).mono ?_); rintro e w92 ⟨rfl, hb⟩; have n0_ := Aside0.mk (blk_below (g := gb539) (o := .cells #[.int .i64 t532, .int .u64 t533, .int .u64 t534, .int .u64 t535, .int .u64 t536, .int .u64 t537, .int .u64 t538] 27 (0, 0)) (by (with_reducible repeat (first | refine blk_drewN ?_ _ | refine blk_drew ?_ | refine blk_alloc ?_ _)); exact BK539.out) hb); have n1_ := Aside0.mk (blk_below (g := gb544) (o := .cells #[.int .i64 t540, .int .i64 t541, .int .i64 t542, .int .i64 t543] 32 (0, 0)) (by (with_reducible repeat (first | refine blk_drewN ?_ _ | refine blk_drew ?_ | refine blk_alloc ?_ _)); exact BK544.out) hb); have n2_ := Aside0.mk (blk_below (g := gb545) (o := .cells #[.int .i64 x546000_12, .int .i64 x546001_12, .int .i64 x546002_12, .int .i64 x546003_12] 32 (0, 0)) (by (with_reducible repeat (first | refine blk_drewN ?_ _ | refine blk_drew ?_ | refine blk_alloc ?_ _)); exact BK545.out) hb); have n3_ := Aside0.mk (below_step (by repeat (first | (with_reducible first | exact HB.out | apply below_alloc | apply pw_below_drewN | apply below_drew1 | refine below_set ?_ GE539.out | refine below_set ?_ GE544.out | refine below_set ?_ GE545.out) | exact HB.out)) hb); clear BK539; clear BK544; clear BK545; clear HB; have BK539 := n0_; have BK544 := n1_; have BK545 := n2_; have HB := n3_; clear n0_ n1_ n2_ n3_; (try clear hb); (try clear hb2); (try clear hk); (try clear hi); have hcz93_0 : w92.cell? ⟨gb544, 0, none⟩ = some (.int .i64 t540) := (blk_cell BK544.out 0).trans rfl; have hcz93_1 : w92.cell? ⟨gb544, 1, none⟩ = some (.int .i64 t541) := (blk_cell BK544.out 1).trans rfl; have hcz93_2 : w92.cell? ⟨gb544, 2, none⟩ = some (.int .i64 t542) := (blk_cell BK544.out 2).trans rfl; have hcz93_3 : w92.cell? ⟨gb544, 3, none⟩ = some (.int .i64 t543) := (blk_cell BK544.out 3).trans rfl; have hfz93_0 := blk_frozen BK544.out 0; have hfz93_1 := blk_frozen BK544.out 1; have hfz93_2 := blk_frozen BK544.out 2; have hfz93_3 := blk_frozen BK544.out 3; have hcz94_0 : w92.cell? ⟨gb545, 0, none⟩ = some (.int .i64 x546000_12) := (blk_cell BK545.out 0).trans rfl; have hcz94_1 : w92.cell? ⟨gb545, 1, none⟩ = some (.int .i64 x546001_12) := (blk_cell BK545.out 1).trans rfl; have hcz94_2 : w92.cell? ⟨gb545, 2, none⟩ = some (.int .i64 x546002_12) := (blk_cell BK545.out 2).trans rfl; have hcz94_3 : w92.cell? ⟨gb545, 3, none⟩ = some (.int .i64 x546003_12) := (blk_cell BK545.out 3).trans rfl; have hfz94_0 := blk_frozen BK545.out 0; have hfz94_1 := blk_frozen BK545.out 1; have hfz94_2 := blk_frozen BK545.out 2; have hfz94_3 := blk_frozen BK545.out 3))
                    go_ret
                    exact ⟨by first | rfl | (simp [errW_none, errW_some] <;> rfl) | (simp [*, errW_none, errW_some] <;> rfl), by repeat (first | (with_reducible first | exact HB.out | apply below_alloc | apply pw_below_drewN | apply below_drew1 | refine below_set ?_ GE539.out | refine below_set ?_ GE544.out | refine below_set ?_ GE545.out) | exact HB.out)⟩
                  · replace c74 := Bool.eq_false_iff.mpr c74
                    subst c74
                    have H1 : (some false) = some r := by rw [if_neg (show ¬ (false = true) by decide)] at H; exact H
                    clear H
                    have H := H1
                    clear H1
                    exact absurd hr_.out (by rw [← Option.some.inj H]; decide)
              · rw [if_neg c52] at H
                have c52b0 : (t551 == t553) = false := by simpa using c52
                (try (have c52b1 : decide (t551 = t553) = false := by simpa using c52))
                (try (have c52b2 : (t551 == t553) = false := by simpa using c52))
                (try (have c52b3 : ¬ (t551 = t553) := by simpa using c52))
                clear c52
                exact absurd hr_.out (by rw [← Option.some.inj H]; decide)
            · rw [if_neg c51] at H
              have c51b0 : (t550 == t552) = false := beq_eq_false_iff_ne.mpr c51
              have c51b1 : (t550 != t552) = true := bne_iff_ne.mpr c51
              exact absurd hr_.out (by rw [← Option.some.inj H]; decide)
          · rw [if_neg c50] at H
            have c50b0 : (t549 == t555) = false := beq_eq_false_iff_ne.mpr c50
            have c50b1 : (t549 != t555) = true := bne_iff_ne.mpr c50
            exact absurd hr_.out (by rw [← Option.some.inj H]; decide)
        · rw [if_neg c48] at H
          have c48b0 : (t548 == t554) = false := beq_eq_false_iff_ne.mpr c48
          have c48b1 : (t548 != t554) = true := bne_iff_ne.mpr c48
          exact absurd hr_.out (by rw [← Option.some.inj H]; decide)
  · replace c9 := Bool.eq_false_iff.mpr c9
    subst c9
    have H1 : (some false) = some r := by rw [if_neg (show ¬ (false = true) by decide)] at H; exact H
    clear H
    have H := H1
    clear H1
    exact absurd hr_.out (by rw [← Option.some.inj H]; decide)
/-- THE ONE PURE STATEMENT of roundhouselaw5_CookieFlows: yours. -/
def roundhouselaw5_CookieFlows.Pure : Prop := ∀ (a0 : Int) (a1 : Int) (a2 : Int) (a3 : Int) (a4 : Int) (a5 : Int) (a6 : Int), (Lit.int .i64 a0).wf = true → (Lit.int .i64 a1).wf = true → (Lit.int .i64 a2).wf = true → (Lit.int .i64 a3).wf = true → (Lit.int .i64 a4).wf = true → (Lit.int .i64 a5).wf = true → (Lit.int .i64 a6).wf = true → ∃ k, roundhouselaw5_CookieFlows.f k a0 a1 a2 a3 a4 a5 a6 = some true
theorem roundhouselaw5_CookieFlows.walk (P : roundhouselaw5_CookieFlows.Pure) (a0 : Int) (a1 : Int) (a2 : Int) (a3 : Int) (a4 : Int) (a5 : Int) (a6 : Int) (w : World) (w0 : (Lit.int .i64 a0).wf = true) (w1 : (Lit.int .i64 a1).wf = true) (w2 : (Lit.int .i64 a2).wf = true) (w3 : (Lit.int .i64 a3).wf = true) (w4 : (Lit.int .i64 a4).wf = true) (w5 : (Lit.int .i64 a5).wf = true) (w6 : (Lit.int .i64 a6).wf = true) :
    Calls Try.prog 12 #[.int .i64 a0, .int .i64 a1, .int .i64 a2, .int .i64 a3, .int .i64 a4, .int .i64 a5, .int .i64 a6] w fun e w' => e = .returned (.bool true) ∧ Below w.heap.size w w' := by
  obtain ⟨k, h⟩ := P a0 a1 a2 a3 a4 a5 a6 w0 w1 w2 w3 w4 w5 w6
  refine (roundhouselaw5_CookieFlows.calls k a0 a1 a2 a3 a4 a5 a6 true w h ⟨rfl⟩).mono ?_
  rintro e w' ⟨rfl, hd⟩
  exact ⟨rfl, hd⟩

end Go.Proofs.Ytnaplobnkmdfbaa.Q
