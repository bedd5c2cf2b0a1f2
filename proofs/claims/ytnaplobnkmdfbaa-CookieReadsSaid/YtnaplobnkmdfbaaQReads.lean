/- By a program of this session (wip/tools/myprint.py), out of the translation: for each Go function a plain Lean function, and that the call comes to what that function says; a law's row out of its plain statement. Lean checks it. -/
import Derived.Test.YtnaplobnkmdfbaaCookG
import Derived.Test.YtnaplobnkmdfbaaQ0
import Derived.Test.YtnaplobnkmdfbaaQ21
import Derived.Test.YtnaplobnkmdfbaaQ26
import Derived.Test.YtnaplobnkmdfbaaQ31
import Derived.Test.YtnaplobnkmdfbaaQ42
import Derived.Test.YtnaplobnkmdfbaaQ45
namespace Go.Proofs.Ytnaplobnkmdfbaa.Q
open Go.RowKit Go.Proofs.YtnaplobnkmdfbaaW.PrintWords Go.Proofs.YtnaplobnkmdfbaaW.PrintLast Go.Proofs.YtnaplobnkmdfbaaW.PrintMore
attribute [local go_sem] max2_int min2_int max_two min_two max_three min_three max_four min_four   -- for this text's walks alone
set_option linter.unusedVariables false
set_option linter.unusedSimpArgs false

open Go.Proofs.Ytnaplobnkmdfbaa.Own
/-! ### roundhouselaw5_CookieReads: function 4 -/
mutual
def roundhouselaw5_CookieReads.j0 : Nat → Int → Int → Int → Int → Int → Int → Int → Int → Int → Int → Int → Int → Int → Int → Int → Int → Option (Bool)
  | 0, _, _, _, _, _, _, _, _, _, _, _, _, _, _, _, _ => none
  | k + 1, x0, x1, x3, x4, x5, x6, x7, x8, x20, x269000, x269001, x269002, x269003, x269004, x269005, x269006 => (roundhouselaw5_Flow.f x3 x4).bind fun bt269 => ((roundhouselaw5_within.f x5 64).bind fun t273 => ((roundhouseref5_Make.f k x269000 x269001 x269002 x269003 x269004 x269005 x269006 x20 bt269.1 bt269.2.1 bt269.2.2.1 bt269.2.2.2 t273).bind fun t274 => ((roundhouselaw5_within.f x6 21).bind fun t275 => (if 0 ≤ (IntKind.u64.wrap (t275)) then ((roundhouselaw5_within.f x7 1048576).bind fun t276 => ((roundhouselaw5_within.f x7 65536).bind fun t277 => (roundhouselaw5_CookieReads.l0 k x0 x1 x3 x4 x8 x20 (([t274, Go.bits .xor .i64 t274 (shl .i64 1 (IntKind.u64.wrap (t275))), x7, t276, t277, wrap64 (t274 + 1048576), 0, (-1)] : List Int)) 0 x269000 x269001 x269002 x269003 x269004 x269005 x269006))) else (none)))))
def roundhouselaw5_CookieReads.l0 : Nat → Int → Int → Int → Int → Int → Int → List Int → Int → Int → Int → Int → Int → Int → Int → Int → Option (Bool)
  | 0, _, _, _, _, _, _, _, _, _, _, _, _, _, _, _ => none
  | k + 1, x0, x1, x3, x4, x8, x20, x22, x23, x269000, x269001, x269002, x269003, x269004, x269005, x269006 => if x23 < (x22.length : Int) then ((roundhouselaw5_Flow.f x3 x4).bind fun bt281 => (if 0 ≤ x23 then ((cookie_Read.f k x269000 x269001 x269002 x269003 x269004 x269005 x269006 x20 bt281.1 bt281.2.1 bt281.2.2.1 bt281.2.2.2 (rd x22 x23)).bind fun bt286 => ((roundhouselaw5_Flow.f x3 x4).bind fun bt288 => ((roundhouseref5_Read.f k x269000 x269001 x269002 x269003 x269004 x269005 x269006 x20 bt288.1 bt288.2.1 bt288.2.2.1 bt288.2.2.2 (rd x22 x23)).bind fun bt293 => ((roundhouselaw5_Ring.f k (wrap64 (x0 + x8)) x1).bind fun bt295 => ((roundhouselaw5_Flow.f x3 (wrap64 (x4 + x8))).bind fun bt302 => ((cookie_Read.f k bt295.1 bt295.2.1 bt295.2.2.1 bt295.2.2.2.1 bt295.2.2.2.2.1 bt295.2.2.2.2.2.1 bt295.2.2.2.2.2.2 x20 bt302.1 bt302.2.1 bt302.2.2.1 bt302.2.2.2 (rd x22 x23)).bind fun bt307 => ((roundhouselaw5_Ring.f k (wrap64 (x0 + x8)) x1).bind fun bt309 => ((roundhouselaw5_Flow.f x3 (wrap64 (x4 + x8))).bind fun bt316 => ((roundhouseref5_Read.f k bt309.1 bt309.2.1 bt309.2.2.1 bt309.2.2.2.1 bt309.2.2.2.2.1 bt309.2.2.2.2.2.1 bt309.2.2.2.2.2.2 x20 bt316.1 bt316.2.1 bt316.2.2.1 bt316.2.2.2 (rd x22 x23)).bind fun bt321 => (if bt286.1 = bt293.1 then (if (bt286.2 != bt293.2) = true then (some false) else (if bt307.1 = bt321.1 then (if (bt307.2 != bt321.2) = true then (some false) else (roundhouselaw5_CookieReads.l0 k x0 x1 x3 x4 x8 x20 x22 (wrap64 (x23 + 1)) x269000 x269001 x269002 x269003 x269004 x269005 x269006)) else (some false))) else (some false))))))))))) else (none))) else (some true)
end
def roundhouselaw5_CookieReads.f (k : Nat) (a0 : Int) (a1 : Int) (a2 : Bool) (a3 : Int) (a4 : Int) (a5 : Int) (a6 : Int) (a7 : Int) (a8 : Int) : Option (Bool) := (roundhouselaw5_known.f k).bind fun t260 => (if t260 = true then ((roundhouselaw5_Ring.f k a0 a1).bind fun bt261 => (if a2 = true then (roundhouselaw5_CookieReads.j0 k a0 a1 a3 a4 a5 a6 a7 a8 1 bt261.1 bt261.2.1 bt261.2.2.1 bt261.2.2.2.1 bt261.2.2.2.2.1 bt261.2.2.2.2.2.1 bt261.2.2.2.2.2.2) else (roundhouselaw5_CookieReads.j0 k a0 a1 a3 a4 a5 a6 a7 a8 2 bt261.1 bt261.2.1 bt261.2.2.1 bt261.2.2.2.1 bt261.2.2.2.2.1 bt261.2.2.2.2.2.1 bt261.2.2.2.2.2.2))) else (some false))
theorem roundhouselaw5_CookieReads.mono_l : ∀ k, (∀ y0 y1 y2 y3 y4 y5 y6 y7 y8 y9 y10 y11 y12 y13 y14 y15, LeO (roundhouselaw5_CookieReads.j0 k y0 y1 y2 y3 y4 y5 y6 y7 y8 y9 y10 y11 y12 y13 y14 y15) (roundhouselaw5_CookieReads.j0 (k + 1) y0 y1 y2 y3 y4 y5 y6 y7 y8 y9 y10 y11 y12 y13 y14 y15)) ∧ (∀ y0 y1 y2 y3 y4 y5 y6 y7 y8 y9 y10 y11 y12 y13 y14, LeO (roundhouselaw5_CookieReads.l0 k y0 y1 y2 y3 y4 y5 y6 y7 y8 y9 y10 y11 y12 y13 y14) (roundhouselaw5_CookieReads.l0 (k + 1) y0 y1 y2 y3 y4 y5 y6 y7 y8 y9 y10 y11 y12 y13 y14))
  | 0 => ⟨fun _ _ _ _ _ _ _ _ _ _ _ _ _ _ _ _ r h => by simp [roundhouselaw5_CookieReads.j0] at h, fun _ _ _ _ _ _ _ _ _ _ _ _ _ _ _ r h => by simp [roundhouselaw5_CookieReads.l0] at h⟩
  | k + 1 => by
    obtain ⟨ih0, ih1⟩ := roundhouselaw5_CookieReads.mono_l k
    refine ⟨?_, ?_⟩
    · intro y0 y1 y2 y3 y4 y5 y6 y7 y8 y9 y10 y11 y12 y13 y14 y15
      unfold roundhouselaw5_CookieReads.j0
      repeat' first
      | (with_reducible exact ih0 _ _ _ _ _ _ _ _ _ _ _ _ _ _ _ _)
      | (with_reducible exact ih1 _ _ _ _ _ _ _ _ _ _ _ _ _ _ _)
      | (with_reducible exact cookie_Read.mono _ _ _ _ _ _ _ _ _ _ _ _ _ _)
      | (with_reducible exact roundhouselaw5_Ring.mono _ _ _)
      | (with_reducible exact roundhouselaw5_known.mono _)
      | (with_reducible exact roundhouseref5_Make.mono _ _ _ _ _ _ _ _ _ _ _ _ _ _)
      | (with_reducible exact roundhouseref5_Read.mono _ _ _ _ _ _ _ _ _ _ _ _ _ _)
      | (with_reducible exact LeO.refl _)
      | (with_reducible exact LeO.none _)
      | (with_reducible refine LeO.ite ?_ ?_)
      | (with_reducible refine LeO.bind ?_ (fun _ => ?_))
      | exact ih0 _ _ _ _ _ _ _ _ _ _ _ _ _ _ _ _
      | exact ih1 _ _ _ _ _ _ _ _ _ _ _ _ _ _ _
      | exact cookie_Read.mono _ _ _ _ _ _ _ _ _ _ _ _ _ _
      | exact roundhouselaw5_Ring.mono _ _ _
      | exact roundhouselaw5_known.mono _
      | exact roundhouseref5_Make.mono _ _ _ _ _ _ _ _ _ _ _ _ _ _
      | exact roundhouseref5_Read.mono _ _ _ _ _ _ _ _ _ _ _ _ _ _
      | exact LeO.none _
      | refine LeO.ite ?_ ?_
      | refine LeO.bind ?_ (fun _ => ?_)
    · intro y0 y1 y2 y3 y4 y5 y6 y7 y8 y9 y10 y11 y12 y13 y14
      unfold roundhouselaw5_CookieReads.l0
      repeat' first
      | (with_reducible exact ih0 _ _ _ _ _ _ _ _ _ _ _ _ _ _ _ _)
      | (with_reducible exact ih1 _ _ _ _ _ _ _ _ _ _ _ _ _ _ _)
      | (with_reducible exact cookie_Read.mono _ _ _ _ _ _ _ _ _ _ _ _ _ _)
      | (with_reducible exact roundhouselaw5_Ring.mono _ _ _)
      | (with_reducible exact roundhouselaw5_known.mono _)
      | (with_reducible exact roundhouseref5_Make.mono _ _ _ _ _ _ _ _ _ _ _ _ _ _)
      | (with_reducible exact roundhouseref5_Read.mono _ _ _ _ _ _ _ _ _ _ _ _ _ _)
      | (with_reducible exact LeO.refl _)
      | (with_reducible exact LeO.none _)
      | (with_reducible refine LeO.ite ?_ ?_)
      | (with_reducible refine LeO.bind ?_ (fun _ => ?_))
      | exact ih0 _ _ _ _ _ _ _ _ _ _ _ _ _ _ _ _
      | exact ih1 _ _ _ _ _ _ _ _ _ _ _ _ _ _ _
      | exact cookie_Read.mono _ _ _ _ _ _ _ _ _ _ _ _ _ _
      | exact roundhouselaw5_Ring.mono _ _ _
      | exact roundhouselaw5_known.mono _
      | exact roundhouseref5_Make.mono _ _ _ _ _ _ _ _ _ _ _ _ _ _
      | exact roundhouseref5_Read.mono _ _ _ _ _ _ _ _ _ _ _ _ _ _
      | exact LeO.none _
      | refine LeO.ite ?_ ?_
      | refine LeO.bind ?_ (fun _ => ?_)
theorem roundhouselaw5_CookieReads.mono : ∀ a0 a1 a2 a3 a4 a5 a6 a7 a8 k, LeO (roundhouselaw5_CookieReads.f k a0 a1 a2 a3 a4 a5 a6 a7 a8) (roundhouselaw5_CookieReads.f (k + 1) a0 a1 a2 a3 a4 a5 a6 a7 a8) := by
  intro a0 a1 a2 a3 a4 a5 a6 a7 a8 k
  obtain ⟨ih0, ih1⟩ := roundhouselaw5_CookieReads.mono_l k
  unfold roundhouselaw5_CookieReads.f
  repeat' first
      | (with_reducible exact ih0 _ _ _ _ _ _ _ _ _ _ _ _ _ _ _ _)
      | (with_reducible exact ih1 _ _ _ _ _ _ _ _ _ _ _ _ _ _ _)
      | (with_reducible exact cookie_Read.mono _ _ _ _ _ _ _ _ _ _ _ _ _ _)
      | (with_reducible exact roundhouselaw5_Ring.mono _ _ _)
      | (with_reducible exact roundhouselaw5_known.mono _)
      | (with_reducible exact roundhouseref5_Make.mono _ _ _ _ _ _ _ _ _ _ _ _ _ _)
      | (with_reducible exact roundhouseref5_Read.mono _ _ _ _ _ _ _ _ _ _ _ _ _ _)
      | (with_reducible exact LeO.refl _)
      | (with_reducible exact LeO.none _)
      | (with_reducible refine LeO.ite ?_ ?_)
      | (with_reducible refine LeO.bind ?_ (fun _ => ?_))
      | exact ih0 _ _ _ _ _ _ _ _ _ _ _ _ _ _ _ _
      | exact ih1 _ _ _ _ _ _ _ _ _ _ _ _ _ _ _
      | exact cookie_Read.mono _ _ _ _ _ _ _ _ _ _ _ _ _ _
      | exact roundhouselaw5_Ring.mono _ _ _
      | exact roundhouselaw5_known.mono _
      | exact roundhouseref5_Make.mono _ _ _ _ _ _ _ _ _ _ _ _ _ _
      | exact roundhouseref5_Read.mono _ _ _ _ _ _ _ _ _ _ _ _ _ _
      | exact LeO.none _
      | refine LeO.ite ?_ ?_
      | refine LeO.bind ?_ (fun _ => ?_)
def roundhouselaw5_CookieReads.T7 : Bool × List (List Nat × List Nat) := (true, [([], []), ([], []), ([], []), ([], []), ([2, 3], [2, 3]), ([], []), ([5, 4], [5]), ([0, 1, 4, 6, 6], [0, 1, 4, 6]), ([7, 7, 0, 1, 2, 3, 4, 5, 6, 7], [7])])
def roundhouselaw5_CookieReads.B7 : List Nat := [0, 0, 0, 0, 12, 0, 60, 127, 255]
theorem roundhouselaw5_CookieReads.tab7 : rtab .any (opsOf Try.f4 7) = roundhouselaw5_CookieReads.T7 := by kernel_rfl
theorem roundhouselaw5_CookieReads.bits7 : waitsOk roundhouselaw5_CookieReads.T7.2 roundhouselaw5_CookieReads.B7 = true := by kernel_rfl
def roundhouselaw5_CookieReads.T12 : Bool × List (List Nat × List Nat) := (true, [([], []), ([], []), ([], []), ([], []), ([2, 3], [2, 3]), ([], []), ([], []), ([5, 6], [5, 6]), ([7], [7]), ([0, 1, 4, 8, 4], [0, 1, 4, 8]), ([9], [9]), ([10], [10]), ([10], [10]), ([11, 9, 0, 1, 2, 3, 4, 5, 6, 7, 8, 9, 10, 11], [11]), ([12, 13, 0, 1, 2, 3, 4, 5, 6, 7, 8, 9, 10, 11, 12, 13], [12])])
def roundhouselaw5_CookieReads.B12 : List Nat := [0, 0, 0, 0, 12, 0, 0, 96, 224, 511, 1023, 2047, 2047, 4095, 16383]
theorem roundhouselaw5_CookieReads.tab12 : rtab .any (opsOf Try.f4 12) = roundhouselaw5_CookieReads.T12 := by kernel_rfl
theorem roundhouselaw5_CookieReads.bits12 : waitsOk roundhouselaw5_CookieReads.T12.2 roundhouselaw5_CookieReads.B12 = true := by kernel_rfl
def roundhouselaw5_CookieReads.T13 : Bool × List (List Nat × List Nat) := (true, [([], []), ([], []), ([], []), ([], []), ([2, 3], [2, 3]), ([], []), ([], []), ([5, 6], [5, 6]), ([7], [7]), ([0, 1, 4, 8, 4], [0, 1, 4, 8]), ([9], [9]), ([10], [10]), ([10], [10]), ([11, 9, 0, 1, 2, 3, 4, 5, 6, 7, 8, 9, 10, 11], [11]), ([12, 13, 0, 1, 2, 3, 4, 5, 6, 7, 8, 9, 10, 11, 12, 13], [12])])
def roundhouselaw5_CookieReads.B13 : List Nat := [0, 0, 0, 0, 12, 0, 0, 96, 224, 511, 1023, 2047, 2047, 4095, 16383]
theorem roundhouselaw5_CookieReads.tab13 : rtab .any (opsOf Try.f4 13) = roundhouselaw5_CookieReads.T13 := by kernel_rfl
theorem roundhouselaw5_CookieReads.bits13 : waitsOk roundhouselaw5_CookieReads.T13.2 roundhouselaw5_CookieReads.B13 = true := by kernel_rfl
def roundhouselaw5_CookieReads.T14 : Bool × List (List Nat × List Nat) := (true, [([], []), ([], []), ([0, 1], [0, 1]), ([], []), ([2, 3], [2, 3]), ([], []), ([], []), ([], []), ([], []), ([7, 8], [7, 8]), ([6, 9, 4], [6, 9]), ([], []), ([], []), ([11, 12], [11, 12]), ([13], [13]), ([4, 5, 10, 14, 10], [4, 5, 10, 14]), ([15], [15]), ([16], [16]), ([16], [16]), ([17, 15, 0, 1, 2, 3, 4, 5, 6, 7, 8, 9, 10, 11, 12, 13, 14, 15, 16, 17], [17]), ([18, 19, 0, 1, 2, 3, 4, 5, 6, 7, 8, 9, 10, 11, 12, 13, 14, 15, 16, 17, 18, 19], [18])])
def roundhouselaw5_CookieReads.B14 : List Nat := [0, 0, 3, 0, 15, 0, 0, 0, 0, 384, 991, 0, 0, 6144, 14336, 32767, 65535, 131071, 131071, 262143, 1048575]
theorem roundhouselaw5_CookieReads.tab14 : rtab .any (opsOf Try.f4 14) = roundhouselaw5_CookieReads.T14 := by kernel_rfl
theorem roundhouselaw5_CookieReads.bits14 : waitsOk roundhouselaw5_CookieReads.T14.2 roundhouselaw5_CookieReads.B14 = true := by kernel_rfl
def roundhouselaw5_CookieReads.T15 : Bool × List (List Nat × List Nat) := (true, [([], []), ([], []), ([0, 1], [0, 1]), ([], []), ([2, 3], [2, 3]), ([], []), ([], []), ([], []), ([], []), ([7, 8], [7, 8]), ([6, 9, 4], [6, 9]), ([], []), ([], []), ([11, 12], [11, 12]), ([13], [13]), ([4, 5, 10, 14, 10], [4, 5, 10, 14]), ([15], [15]), ([16], [16]), ([16], [16]), ([17, 15, 0, 1, 2, 3, 4, 5, 6, 7, 8, 9, 10, 11, 12, 13, 14, 15, 16, 17], [17]), ([18, 19, 0, 1, 2, 3, 4, 5, 6, 7, 8, 9, 10, 11, 12, 13, 14, 15, 16, 17, 18, 19], [18])])
def roundhouselaw5_CookieReads.B15 : List Nat := [0, 0, 3, 0, 15, 0, 0, 0, 0, 384, 991, 0, 0, 6144, 14336, 32767, 65535, 131071, 131071, 262143, 1048575]
theorem roundhouselaw5_CookieReads.tab15 : rtab .any (opsOf Try.f4 15) = roundhouselaw5_CookieReads.T15 := by kernel_rfl
theorem roundhouselaw5_CookieReads.bits15 : waitsOk roundhouselaw5_CookieReads.T15.2 roundhouselaw5_CookieReads.B15 = true := by kernel_rfl
set_option maxHeartbeats 8000000 in
set_option maxRecDepth 100000 in
theorem roundhouselaw5_CookieReads.calls (k : Nat) (a0 : Int) (a1 : Int) (a2 : Bool) (a3 : Int) (a4 : Int) (a5 : Int) (a6 : Int) (a7 : Int) (a8 : Int) (r : Bool) (w : World) (h : roundhouselaw5_CookieReads.f k a0 a1 a2 a3 a4 a5 a6 a7 a8 = some r) (hr_ : Aside0 (r = true)) :
    Calls Try.prog 4 #[.int .i64 a0, .int .i64 a1, .bool a2, .int .i64 a3, .int .i64 a4, .int .i64 a5, .int .i64 a6, .int .i64 a7, .int .i64 a8] w fun e w' => e = .returned (.bool r) ∧ Below w.heap.size w w' := by
  have hu27 := Try.underlying27
  have HB := Aside0.mk (Below.refl w.heap.size w)
  have H : ((roundhouselaw5_known.f k).bind fun t260 => (if t260 = true then ((roundhouselaw5_Ring.f k a0 a1).bind fun bt261 => (if a2 = true then (roundhouselaw5_CookieReads.j0 k a0 a1 a3 a4 a5 a6 a7 a8 1 bt261.1 bt261.2.1 bt261.2.2.1 bt261.2.2.2.1 bt261.2.2.2.2.1 bt261.2.2.2.2.2.1 bt261.2.2.2.2.2.2) else (roundhouselaw5_CookieReads.j0 k a0 a1 a3 a4 a5 a6 a7 a8 2 bt261.1 bt261.2.1 bt261.2.2.1 bt261.2.2.2.1 bt261.2.2.2.2.1 bt261.2.2.2.2.2.1 bt261.2.2.2.2.2.2))) else (some false))) = some r := h
  clear h
  replace H := Option.bind_eq_some_iff.mp H
  obtain ⟨t260, A100, H⟩ := H
  replace H : (if t260 = true then ((roundhouselaw5_Ring.f k a0 a1).bind fun bt261 => (if a2 = true then (roundhouselaw5_CookieReads.j0 k a0 a1 a3 a4 a5 a6 a7 a8 1 bt261.1 bt261.2.1 bt261.2.2.1 bt261.2.2.2.1 bt261.2.2.2.2.1 bt261.2.2.2.2.2.1 bt261.2.2.2.2.2.2) else (roundhouselaw5_CookieReads.j0 k a0 a1 a3 a4 a5 a6 a7 a8 2 bt261.1 bt261.2.1 bt261.2.2.1 bt261.2.2.2.1 bt261.2.2.2.2.1 bt261.2.2.2.2.2.1 bt261.2.2.2.2.2.2))) else (some false)) = some r := H
  have A10 := Aside0.mk A100
  clear A100
  by_cases c11 : t260 = true
  · subst c11
    have H1 : ((roundhouselaw5_Ring.f k a0 a1).bind fun bt261 => (if a2 = true then (roundhouselaw5_CookieReads.j0 k a0 a1 a3 a4 a5 a6 a7 a8 1 bt261.1 bt261.2.1 bt261.2.2.1 bt261.2.2.2.1 bt261.2.2.2.2.1 bt261.2.2.2.2.2.1 bt261.2.2.2.2.2.2) else (roundhouselaw5_CookieReads.j0 k a0 a1 a3 a4 a5 a6 a7 a8 2 bt261.1 bt261.2.1 bt261.2.2.1 bt261.2.2.2.1 bt261.2.2.2.2.1 bt261.2.2.2.2.2.1 bt261.2.2.2.2.2.2))) = some r := by rw [if_pos rfl] at H; exact H
    clear H
    have H := H1
    clear H1
    replace H := Option.bind_eq_some_iff.mp H
    obtain ⟨⟨t261, t262, t263, t264, t265, t266, t267⟩, A120, H⟩ := H
    replace H : (if a2 = true then (roundhouselaw5_CookieReads.j0 k a0 a1 a3 a4 a5 a6 a7 a8 1 t261 t262 t263 t264 t265 t266 t267) else (roundhouselaw5_CookieReads.j0 k a0 a1 a3 a4 a5 a6 a7 a8 2 t261 t262 t263 t264 t265 t266 t267)) = some r := H
    have A12 := Aside0.mk A120
    clear A120
    have HC13 := Aside0.mk H
    clear H
    go_enter Try.func4, Try.ntmps4
    go_upto_if 37 with (first | ((with_reducible refine gate_callee (f := 16) rfl ?_); refine goesL_ (some 32) rfl rfl Try.func16 (by kernel_rfl) rfl #[] rfl (by (try simp only [List.map_toArray, List.map_cons, List.map_nil]); first | done | rfl | (simp only [List.length_drop, List.length_take]; rfl)) ?_; (with_reducible refine (roundhouselaw5_known.calls k  true _ A10.out).mono ?_); rintro e w14 ⟨rfl, hb⟩; refine ⟨_, rfl, ?_⟩; have n0_ := Aside0.mk (below_step (by repeat (first | (with_reducible first | exact HB.out | apply below_alloc | apply pw_below_drewN | apply below_drew1) | exact HB.out)) hb); clear HB; have HB := n0_; clear n0_; (try clear hb); (try clear hb2); (try clear hk); (try clear hi)) | ((with_reducible refine gate_callee (f := 17) rfl ?_); refine goesL_ (some 36) rfl rfl Try.func17 (by kernel_rfl) rfl #[.int .i64 a0, .int .i64 a1] rfl (by (try simp only [List.map_toArray, List.map_cons, List.map_nil]); first | done | rfl | (simp only [List.length_drop, List.length_take]; rfl)) ?_; (with_reducible refine (roundhouselaw5_Ring.calls k a0 a1 t261 t262 t263 t264 t265 t266 t267 _ A12.out).mono ?_); rintro e w15 ⟨rfl, hb⟩; refine ⟨_, rfl, ?_⟩; have n0_ := Aside0.mk (below_step (by repeat (first | (with_reducible first | exact HB.out | apply below_alloc | apply pw_below_drewN | apply below_drew1) | exact HB.out)) hb); clear HB; have HB := n0_; clear n0_; (try clear hb); (try clear hb2); (try clear hk); (try clear hi)) | ((with_reducible refine gate_dst (N := 19) rfl ?_); refine box_event ?hg (N := 19) ?hd (cs := #[.int .i64 0, .int .u64 0, .int .u64 0, .int .u64 0, .int .u64 0, .int .u64 0, .int .u64 0]) (t := 27) ?hr ?_; (case hd => rfl); (case hg => rfl); (case hr => first | (go_simp; done) | (go_simp; rfl)); intro gb268 hg w16 hbox hb; have n0_ := Aside0.mk (below_step (by repeat (first | (with_reducible first | exact HB.out | apply below_alloc | apply pw_below_drewN | apply below_drew1) | exact HB.out)) hb); have n1_ := Aside0.mk (hbox); have n2_ := Aside0.mk ((by rw [hg]; exact (below_size (by repeat (first | (with_reducible first | exact HB.out | apply below_alloc | apply pw_below_drewN | apply below_drew1) | exact HB.out))) : w.heap.size ≤ gb268)); have n3_ := Aside0.mk ((by rw [hg]; exact (below_size (by repeat (first | (with_reducible first | exact HB.out | apply below_alloc | apply pw_below_drewN | apply below_drew1) | exact HB.out))) : w.heap.size ≤ gb268)); clear HB; have HB := n0_; have BK268 := n1_; have GW268 := n2_; have GE268 := n3_; clear n0_ n1_ n2_ n3_; clear hb hbox hg; have hcz17_0 : w16.cell? ⟨gb268, 0, none⟩ = some (.int .i64 0) := (blk_cell BK268.out 0).trans rfl; have hcz17_1 : w16.cell? ⟨gb268, 1, none⟩ = some (.int .u64 0) := (blk_cell BK268.out 1).trans rfl; have hcz17_2 : w16.cell? ⟨gb268, 2, none⟩ = some (.int .u64 0) := (blk_cell BK268.out 2).trans rfl; have hcz17_3 : w16.cell? ⟨gb268, 3, none⟩ = some (.int .u64 0) := (blk_cell BK268.out 3).trans rfl; have hcz17_4 : w16.cell? ⟨gb268, 4, none⟩ = some (.int .u64 0) := (blk_cell BK268.out 4).trans rfl; have hcz17_5 : w16.cell? ⟨gb268, 5, none⟩ = some (.int .u64 0) := (blk_cell BK268.out 5).trans rfl; have hcz17_6 : w16.cell? ⟨gb268, 6, none⟩ = some (.int .u64 0) := (blk_cell BK268.out 6).trans rfl; have hfz17_0 := blk_frozen BK268.out 0; have hfz17_1 := blk_frozen BK268.out 1; have hfz17_2 := blk_frozen BK268.out 2; have hfz17_3 := blk_frozen BK268.out 3; have hfz17_4 := blk_frozen BK268.out 4; have hfz17_5 := blk_frozen BK268.out 5; have hfz17_6 := blk_frozen BK268.out 6))
    (try simp only [Act.put, List.setIfInBounds_toArray, List.set_cons_zero, List.set_cons_succ])
    go_cut [20] (fun v20 wc => ∃ (kq : Nat) (x20_12 : Int), v20 = .int .i64 x20_12 ∧ Aside0 (roundhouselaw5_CookieReads.j0 kq a0 a1 a3 a4 a5 a6 a7 a8 x20_12 t261 t262 t263 t264 t265 t266 t267 = some r) ∧ Aside0 (kq ≤ k) ∧ Aside0 (wc.heap[gb268]? = some (.cells #[.int .i64 t261, .int .u64 t262, .int .u64 t263, .int .u64 t264, .int .u64 t265, .int .u64 t266, .int .u64 t267] 27 (0, 0))) ∧ Aside0 (Below w.heap.size w wc))
    case first =>
      have H := HC13.out
      clear HC13
      by_cases c18 : a2 = true
      · subst c18
        have H1 : (roundhouselaw5_CookieReads.j0 k a0 a1 a3 a4 a5 a6 a7 a8 1 t261 t262 t263 t264 t265 t266 t267) = some r := by rw [if_pos rfl] at H; exact H
        clear H
        have H := H1
        clear H1
        have H' := Aside0.mk H
        clear H
        go_wp2
        go_meet
        case rel => exact ⟨_, (1), (by first | rfl | (simp; done) | (simp [*]; done)), H', ⟨by first | omega | exact Nat.le_refl _⟩, ⟨by (with_reducible repeat (first | refine blk_drewN ?_ _ | refine blk_drew ?_ | refine blk_alloc ?_ _)); refine blk_put (cs := #[.int .i64 t261, .int .u64 t262, .int .u64 t263, .int .u64 t264, .int .u64 t265, .int .u64 t266, .int .u64 0]) ?_ 6 _ rfl; (with_reducible repeat (first | refine blk_drewN ?_ _ | refine blk_drew ?_ | refine blk_alloc ?_ _)); refine blk_put (cs := #[.int .i64 t261, .int .u64 t262, .int .u64 t263, .int .u64 t264, .int .u64 t265, .int .u64 0, .int .u64 0]) ?_ 5 _ rfl; (with_reducible repeat (first | refine blk_drewN ?_ _ | refine blk_drew ?_ | refine blk_alloc ?_ _)); refine blk_put (cs := #[.int .i64 t261, .int .u64 t262, .int .u64 t263, .int .u64 t264, .int .u64 0, .int .u64 0, .int .u64 0]) ?_ 4 _ rfl; (with_reducible repeat (first | refine blk_drewN ?_ _ | refine blk_drew ?_ | refine blk_alloc ?_ _)); refine blk_put (cs := #[.int .i64 t261, .int .u64 t262, .int .u64 t263, .int .u64 0, .int .u64 0, .int .u64 0, .int .u64 0]) ?_ 3 _ rfl; (with_reducible repeat (first | refine blk_drewN ?_ _ | refine blk_drew ?_ | refine blk_alloc ?_ _)); refine blk_put (cs := #[.int .i64 t261, .int .u64 t262, .int .u64 0, .int .u64 0, .int .u64 0, .int .u64 0, .int .u64 0]) ?_ 2 _ rfl; (with_reducible repeat (first | refine blk_drewN ?_ _ | refine blk_drew ?_ | refine blk_alloc ?_ _)); refine blk_put (cs := #[.int .i64 t261, .int .u64 0, .int .u64 0, .int .u64 0, .int .u64 0, .int .u64 0, .int .u64 0]) ?_ 1 _ rfl; (with_reducible repeat (first | refine blk_drewN ?_ _ | refine blk_drew ?_ | refine blk_alloc ?_ _)); refine blk_put (cs := #[.int .i64 0, .int .u64 0, .int .u64 0, .int .u64 0, .int .u64 0, .int .u64 0, .int .u64 0]) ?_ 0 _ rfl; (with_reducible repeat (first | refine blk_drewN ?_ _ | refine blk_drew ?_ | refine blk_alloc ?_ _)); exact BK268.out⟩, ⟨by repeat (first | (with_reducible first | exact HB.out | apply below_alloc | apply pw_below_drewN | apply below_drew1 | refine below_set ?_ GE268.out) | exact HB.out)⟩⟩
      · replace c18 := Bool.eq_false_iff.mpr c18
        subst c18
        have H1 : (roundhouselaw5_CookieReads.j0 k a0 a1 a3 a4 a5 a6 a7 a8 2 t261 t262 t263 t264 t265 t266 t267) = some r := by rw [if_neg (show ¬ (false = true) by decide)] at H; exact H
        clear H
        have H := H1
        clear H1
        have H' := Aside0.mk H
        clear H
        go_wp2
        go_meet
        case rel => exact ⟨_, (2), (by first | rfl | (simp; done) | (simp [*]; done)), H', ⟨by first | omega | exact Nat.le_refl _⟩, ⟨by (with_reducible repeat (first | refine blk_drewN ?_ _ | refine blk_drew ?_ | refine blk_alloc ?_ _)); refine blk_put (cs := #[.int .i64 t261, .int .u64 t262, .int .u64 t263, .int .u64 t264, .int .u64 t265, .int .u64 t266, .int .u64 0]) ?_ 6 _ rfl; (with_reducible repeat (first | refine blk_drewN ?_ _ | refine blk_drew ?_ | refine blk_alloc ?_ _)); refine blk_put (cs := #[.int .i64 t261, .int .u64 t262, .int .u64 t263, .int .u64 t264, .int .u64 t265, .int .u64 0, .int .u64 0]) ?_ 5 _ rfl; (with_reducible repeat (first | refine blk_drewN ?_ _ | refine blk_drew ?_ | refine blk_alloc ?_ _)); refine blk_put (cs := #[.int .i64 t261, .int .u64 t262, .int .u64 t263, .int .u64 t264, .int .u64 0, .int .u64 0, .int .u64 0]) ?_ 4 _ rfl; (with_reducible repeat (first | refine blk_drewN ?_ _ | refine blk_drew ?_ | refine blk_alloc ?_ _)); refine blk_put (cs := #[.int .i64 t261, .int .u64 t262, .int .u64 t263, .int .u64 0, .int .u64 0, .int .u64 0, .int .u64 0]) ?_ 3 _ rfl; (with_reducible repeat (first | refine blk_drewN ?_ _ | refine blk_drew ?_ | refine blk_alloc ?_ _)); refine blk_put (cs := #[.int .i64 t261, .int .u64 t262, .int .u64 0, .int .u64 0, .int .u64 0, .int .u64 0, .int .u64 0]) ?_ 2 _ rfl; (with_reducible repeat (first | refine blk_drewN ?_ _ | refine blk_drew ?_ | refine blk_alloc ?_ _)); refine blk_put (cs := #[.int .i64 t261, .int .u64 0, .int .u64 0, .int .u64 0, .int .u64 0, .int .u64 0, .int .u64 0]) ?_ 1 _ rfl; (with_reducible repeat (first | refine blk_drewN ?_ _ | refine blk_drew ?_ | refine blk_alloc ?_ _)); refine blk_put (cs := #[.int .i64 0, .int .u64 0, .int .u64 0, .int .u64 0, .int .u64 0, .int .u64 0, .int .u64 0]) ?_ 0 _ rfl; (with_reducible repeat (first | refine blk_drewN ?_ _ | refine blk_drew ?_ | refine blk_alloc ?_ _)); exact BK268.out⟩, ⟨by repeat (first | (with_reducible first | exact HB.out | apply below_alloc | apply pw_below_drewN | apply below_drew1 | refine below_set ?_ GE268.out) | exact HB.out)⟩⟩
    case rest =>
      clear HC13
      try clear c1
      try clear p2
      try clear c4
      try clear c11
      try clear c16
      try clear c17
      try clear c18
      try clear hcz17_0
      try clear hcz17_1
      try clear hcz17_2
      try clear hcz17_3
      try clear hcz17_4
      try clear hcz17_5
      try clear hcz17_6
      try clear hfz17_0
      try clear hfz17_1
      try clear hfz17_2
      try clear hfz17_3
      try clear hfz17_4
      try clear hfz17_5
      try clear hfz17_6
      obtain ⟨kq, x20_12, rfl, HA, HJ12, BK268, HB⟩ := hcut
      cases kq with
      | zero => exact absurd HA.out (by simp [roundhouselaw5_CookieReads.j0])
      | succ kj12 =>
        have H := HA.out
        clear HA
        simp only [roundhouselaw5_CookieReads.j0] at H
        replace H := Option.bind_eq_some_iff.mp H
        obtain ⟨⟨t269, t270, t271, t272⟩, A190, H⟩ := H
        replace H : ((roundhouselaw5_within.f a5 64).bind fun t273 => ((roundhouseref5_Make.f kj12 t261 t262 t263 t264 t265 t266 t267 x20_12 t269 t270 t271 t272 t273).bind fun t274 => ((roundhouselaw5_within.f a6 21).bind fun t275 => (if 0 ≤ (IntKind.u64.wrap (t275)) then ((roundhouselaw5_within.f a7 1048576).bind fun t276 => ((roundhouselaw5_within.f a7 65536).bind fun t277 => (roundhouselaw5_CookieReads.l0 kj12 a0 a1 a3 a4 a8 x20_12 (([t274, Go.bits .xor .i64 t274 (shl .i64 1 (IntKind.u64.wrap (t275))), a7, t276, t277, wrap64 (t274 + 1048576), 0, (-1)] : List Int)) 0 t261 t262 t263 t264 t265 t266 t267))) else (none))))) = some r := H
        have A19 := Aside0.mk A190
        clear A190
        replace H := Option.bind_eq_some_iff.mp H
        obtain ⟨t273, A200, H⟩ := H
        replace H : ((roundhouseref5_Make.f kj12 t261 t262 t263 t264 t265 t266 t267 x20_12 t269 t270 t271 t272 t273).bind fun t274 => ((roundhouselaw5_within.f a6 21).bind fun t275 => (if 0 ≤ (IntKind.u64.wrap (t275)) then ((roundhouselaw5_within.f a7 1048576).bind fun t276 => ((roundhouselaw5_within.f a7 65536).bind fun t277 => (roundhouselaw5_CookieReads.l0 kj12 a0 a1 a3 a4 a8 x20_12 (([t274, Go.bits .xor .i64 t274 (shl .i64 1 (IntKind.u64.wrap (t275))), a7, t276, t277, wrap64 (t274 + 1048576), 0, (-1)] : List Int)) 0 t261 t262 t263 t264 t265 t266 t267))) else (none)))) = some r := H
        have A20 := Aside0.mk A200
        clear A200
        replace H := Option.bind_eq_some_iff.mp H
        obtain ⟨t274, A210, H⟩ := H
        replace H : ((roundhouselaw5_within.f a6 21).bind fun t275 => (if 0 ≤ (IntKind.u64.wrap (t275)) then ((roundhouselaw5_within.f a7 1048576).bind fun t276 => ((roundhouselaw5_within.f a7 65536).bind fun t277 => (roundhouselaw5_CookieReads.l0 kj12 a0 a1 a3 a4 a8 x20_12 (([t274, Go.bits .xor .i64 t274 (shl .i64 1 (IntKind.u64.wrap (t275))), a7, t276, t277, wrap64 (t274 + 1048576), 0, (-1)] : List Int)) 0 t261 t262 t263 t264 t265 t266 t267))) else (none))) = some r := H
        have A21 := Aside0.mk A210
        clear A210
        replace H := Option.bind_eq_some_iff.mp H
        obtain ⟨t275, A220, H⟩ := H
        replace H : (if 0 ≤ (IntKind.u64.wrap (t275)) then ((roundhouselaw5_within.f a7 1048576).bind fun t276 => ((roundhouselaw5_within.f a7 65536).bind fun t277 => (roundhouselaw5_CookieReads.l0 kj12 a0 a1 a3 a4 a8 x20_12 (([t274, Go.bits .xor .i64 t274 (shl .i64 1 (IntKind.u64.wrap (t275))), a7, t276, t277, wrap64 (t274 + 1048576), 0, (-1)] : List Int)) 0 t261 t262 t263 t264 t265 t266 t267))) else (none)) = some r := H
        have A22 := Aside0.mk A220
        clear A220
        obtain ⟨ji23, hji23⟩ : ∃ j_ : Int, (IntKind.u64.wrap (t275)) = j_ := ⟨_, rfl⟩
        replace H : (if 0 ≤ (ji23) then ((roundhouselaw5_within.f a7 1048576).bind fun t276 => ((roundhouselaw5_within.f a7 65536).bind fun t277 => (roundhouselaw5_CookieReads.l0 kj12 a0 a1 a3 a4 a8 x20_12 (([t274, Go.bits .xor .i64 t274 (shl .i64 1 (ji23)), a7, t276, t277, wrap64 (t274 + 1048576), 0, (-1)] : List Int)) 0 t261 t262 t263 t264 t265 t266 t267))) else (none)) = some r := by first | (rw [hji23] at H; exact H) | (simp only [hji23] at H ⊢; exact H)
        (try rw [hji23] at A19)
        (try rw [hji23] at A20)
        (try rw [hji23] at A21)
        (try rw [hji23] at A22)
        by_cases c24 : 0 ≤ (ji23)
        · rw [if_pos c24] at H
          have c24b0 := eq_true c24
          have c24b1 : decide (0 ≤ (ji23)) = true := decide_eq_true c24
          clear c24
          obtain ⟨ji25, hji25⟩ : ∃ j_ : Int, (shl .i64 1 (ji23)) = j_ := ⟨_, rfl⟩
          replace H : ((roundhouselaw5_within.f a7 1048576).bind fun t276 => ((roundhouselaw5_within.f a7 65536).bind fun t277 => (roundhouselaw5_CookieReads.l0 kj12 a0 a1 a3 a4 a8 x20_12 (([t274, Go.bits .xor .i64 t274 (ji25), a7, t276, t277, wrap64 (t274 + 1048576), 0, (-1)] : List Int)) 0 t261 t262 t263 t264 t265 t266 t267))) = some r := by first | (rw [hji25] at H; exact H) | (simp only [hji25] at H ⊢; exact H)
          (try rw [hji25] at A19)
          (try rw [hji25] at A20)
          (try rw [hji25] at A21)
          (try rw [hji25] at A22)
          have hji25_ : (IntKind.i64.wrap (1 * 2 ^ min (ji23).toNat 64)) = ji25 := hji25
          have hji25z : (ji23) ≤ 64 → (IntKind.i64.wrap (1 * 2 ^ (ji23).toNat)) = ji25 := shl_small hji25
          have hji25u : (IntKind.i64.wrap (2 ^ min (ji23).toNat 64)) = ji25 := by have h_ := hji25_; rw [Int.one_mul] at h_; exact h_
          have hji25v : (ji23) ≤ 64 → (IntKind.i64.wrap (2 ^ (ji23).toNat)) = ji25 := fun hle_ => by have h_ := hji25z hle_; rw [Int.one_mul] at h_; exact h_
          have hji25y : (wrap64 (1 * 2 ^ min (ji23).toNat 64)) = ji25 := (i64_w _).symm.trans hji25_
          have hji25x : (ji23) ≤ 64 → (wrap64 (1 * 2 ^ (ji23).toNat)) = ji25 := fun h_ => (i64_w _).symm.trans (hji25z h_)
          replace H := Option.bind_eq_some_iff.mp H
          obtain ⟨t276, A260, H⟩ := H
          replace H : ((roundhouselaw5_within.f a7 65536).bind fun t277 => (roundhouselaw5_CookieReads.l0 kj12 a0 a1 a3 a4 a8 x20_12 (([t274, Go.bits .xor .i64 t274 (ji25), a7, t276, t277, wrap64 (t274 + 1048576), 0, (-1)] : List Int)) 0 t261 t262 t263 t264 t265 t266 t267)) = some r := H
          have A26 := Aside0.mk A260
          clear A260
          replace H := Option.bind_eq_some_iff.mp H
          obtain ⟨t277, A270, H⟩ := H
          replace H : (roundhouselaw5_CookieReads.l0 kj12 a0 a1 a3 a4 a8 x20_12 (([t274, Go.bits .xor .i64 t274 (ji25), a7, t276, t277, wrap64 (t274 + 1048576), 0, (-1)] : List Int)) 0 t261 t262 t263 t264 t265 t266 t267) = some r := H
          have A27 := Aside0.mk A270
          clear A270
          obtain ⟨y278, hy278⟩ : ∃ y_ : List Int, y_ = (([t274, Go.bits .xor .i64 t274 (ji25), a7, t276, t277, wrap64 (t274 + 1048576), 0, (-1)] : List Int)) := ⟨_, rfl⟩
          replace H : (roundhouselaw5_CookieReads.l0 kj12 a0 a1 a3 a4 a8 x20_12 y278 0 t261 t262 t263 t264 t265 t266 t267) = some r := by first | (rw [hy278]; with_reducible exact H) | (have H2_ := (Option.bind_some _ _).symm.trans H; rw [hy278]; with_reducible exact H2_) | (have H2_ := (Option.bind_some _ _).symm.trans H; with_reducible exact H2_) | with_reducible exact H | (rw [hy278]; exact H) | exact H
          have Ny278 := Aside0.mk hy278
          clear hy278
          have H' := Aside0.mk H
          clear H
          try go_wp2
          have n0_ := Aside0.mk (blk_drew BK268.out)
          have n1_ := Aside0.mk (below_drew1 HB.out)
          clear BK268
          clear HB
          have BK268 := n0_
          have HB := n1_
          clear n0_ n1_
          refine start_ (n := 9) (S := fun w' => w'.cell? ⟨gb268, 0, none⟩ = some (.int .i64 t261) ∧ w'.cell? ⟨gb268, 1, none⟩ = some (.int .u64 t262) ∧ w'.cell? ⟨gb268, 2, none⟩ = some (.int .u64 t263) ∧ w'.cell? ⟨gb268, 3, none⟩ = some (.int .u64 t264) ∧ w'.cell? ⟨gb268, 4, none⟩ = some (.int .u64 t265) ∧ w'.cell? ⟨gb268, 5, none⟩ = some (.int .u64 t266) ∧ w'.cell? ⟨gb268, 6, none⟩ = some (.int .u64 t267)) (ds := []) #[false, false, false, false, false, false, false, false, false] (by kernel_rfl) rfl rfl ⟨(blk_cell BK268.out 0).trans rfl, (blk_cell BK268.out 1).trans rfl, (blk_cell BK268.out 2).trans rfl, (blk_cell BK268.out 3).trans rfl, (blk_cell BK268.out 4).trans rfl, (blk_cell BK268.out 5).trans rfl, (blk_cell BK268.out 6).trans rfl⟩ (fun hHeld => ?_); refine with_tabW roundhouselaw5_CookieReads.tab7 roundhouselaw5_CookieReads.bits7 (fun HT_ HW_ => ?_)
          generalize wc.drew = w28 at BK268 HB hHeld ⊢
          refine pure_ (i := 1) (N := some 39) (v := ?_) (a' := ?_) #[false, true, false, false, false, false, false, false, false] rfl rfl (any_of HT_.out (by kernel_rfl)) (fun _ _ _ h => h) (Or.inl ⟨by rfl, ?_⟩) ?_ ?_
          rotate_left
          · intro w'
            go_simp
            with_reducible rfl
          rotate_left
          · simp only [Act.put, List.setIfInBounds_toArray, List.set_cons_zero, List.set_cons_succ, i64_w, i32_w]
            rfl
          refine pure_ (i := 2) (N := some 40) (v := ?_) (a' := ?_) #[false, true, true, false, false, false, false, false, false] rfl rfl (any_of HT_.out (by kernel_rfl)) (fun _ _ _ h => h) (Or.inl ⟨by rfl, ?_⟩) ?_ ?_
          rotate_left
          · intro w'
            go_simp
            with_reducible rfl
          rotate_left
          · simp only [Act.put, List.setIfInBounds_toArray, List.set_cons_zero, List.set_cons_succ, i64_w, i32_w]
            rfl
          refine pure_ (i := 3) (N := some 41) (v := ?_) (a' := ?_) #[false, true, true, true, false, false, false, false, false] rfl rfl (any_of HT_.out (by kernel_rfl)) (fun _ _ _ h => h) (Or.inl ⟨by rfl, ?_⟩) ?_ ?_
          rotate_left
          · intro w'
            go_simp
            with_reducible rfl
          rotate_left
          · simp only [Act.put, List.setIfInBounds_toArray, List.set_cons_zero, List.set_cons_succ, i64_w, i32_w]
            rfl
          refine pure_ (i := 5) (N := some 43) (v := ?_) (a' := ?_) #[false, true, true, true, false, true, false, false, false] rfl rfl (any_of HT_.out (by kernel_rfl)) (fun _ _ _ h => h) (Or.inl ⟨by rfl, ?_⟩) ?_ ?_
          rotate_left
          · intro w'
            go_simp
            with_reducible rfl
          rotate_left
          · simp only [Act.put, List.setIfInBounds_toArray, List.set_cons_zero, List.set_cons_succ, i64_w, i32_w]
            rfl
          refine take_ (i := 0) (N := some 38) (v := ?_) (a' := ?_) #[true, true, true, true, false, true, false, false, false] rfl rfl (take_ofW HT_.out HW_.out (by kernel_rfl)) (fun _ _ _ h => h) (Or.inl ⟨by rfl, ?_⟩) hHeld ?_ ?_
          rotate_left
          · rintro w' ⟨s0, s1, s2, s3, s4, s5, s6⟩
            go_simp
            with_reducible rfl
          rotate_left
          · simp only [Act.put, List.setIfInBounds_toArray, List.set_cons_zero, List.set_cons_succ, i64_w, i32_w]
            rfl
          refine one_ (i := 4) (N := some 42) #[true, true, true, true, true, true, false, false, false] rfl rfl (one_of HT_.out (by kernel_rfl)) (by decide) (fun K hK => ?_)
          refine goes_ Try.func20 (by kernel_rfl) rfl #[.int .i64 a3, .int .i64 a4] (by rfl) rfl rfl (by (try simp only [List.map_toArray, List.map_cons, List.map_nil]); first | done | rfl | (simp only [List.length_drop, List.length_take]; rfl)) ?_
          with_reducible refine (roundhouselaw5_Flow.calls a3 a4 t269 t270 t271 t272 _ A19.out).mono ?_
          rintro e w29 ⟨rfl, hb⟩
          refine ⟨_, rfl, ?_⟩
          have n0_ := Aside0.mk (blk_below (g := gb268) (o := .cells #[.int .i64 t261, .int .u64 t262, .int .u64 t263, .int .u64 t264, .int .u64 t265, .int .u64 t266, .int .u64 t267] 27 (0, 0)) (by (with_reducible repeat (first | refine blk_drewN ?_ _ | refine blk_drew ?_ | refine blk_alloc ?_ _)); exact BK268.out) hb)
          have n1_ := Aside0.mk (below_step (by repeat (first | (with_reducible first | exact HB.out | apply below_alloc | apply pw_below_drewN | apply below_drew1 | refine below_set ?_ GE268.out) | exact HB.out)) hb)
          clear BK268
          clear HB
          have BK268 := n0_
          have HB := n1_
          clear n0_ n1_
          (try clear hb)
          (try clear hb2)
          (try clear hk)
          (try clear hi)
          refine hK.out _ _ ⟨(blk_cell BK268.out 0).trans rfl, (blk_cell BK268.out 1).trans rfl, (blk_cell BK268.out 2).trans rfl, (blk_cell BK268.out 3).trans rfl, (blk_cell BK268.out 4).trans rfl, (blk_cell BK268.out 5).trans rfl, (blk_cell BK268.out 6).trans rfl⟩ (fun hHeld => ?_)
          clear hK K
          refine norm_ (a' := ?_) ?_ ?_
          rotate_left
          · show Act.put _ (some 42) _ = _
            simp only [Act.put, List.setIfInBounds_toArray, List.set_cons_zero, List.set_cons_succ, i64_w, i32_w]
            rfl
          refine one_ (i := 6) (N := some 44) #[true, true, true, true, true, true, true, false, false] rfl rfl (one_of HT_.out (by kernel_rfl)) (by decide) (fun K hK => ?_)
          refine goes_ Try.func18 (by kernel_rfl) rfl #[.int .i64 a5, .int .i64 64] (by rfl) rfl rfl (by (try simp only [List.map_toArray, List.map_cons, List.map_nil]); first | done | rfl | (simp only [List.length_drop, List.length_take]; rfl)) ?_
          with_reducible refine (roundhouselaw5_within.calls a5 64 t273 _ A20.out).mono ?_
          rintro e w' ⟨rfl, ⟨nd, rfl⟩⟩
          refine ⟨_, rfl, ?_⟩
          refine hK.out _ _ ⟨(blk_cell BK268.out 0).trans rfl, (blk_cell BK268.out 1).trans rfl, (blk_cell BK268.out 2).trans rfl, (blk_cell BK268.out 3).trans rfl, (blk_cell BK268.out 4).trans rfl, (blk_cell BK268.out 5).trans rfl, (blk_cell BK268.out 6).trans rfl⟩ (fun hHeld => ?_)
          clear hK K
          refine norm_ (a' := ?_) ?_ ?_
          rotate_left
          · show Act.put _ (some 44) _ = _
            simp only [Act.put, List.setIfInBounds_toArray, List.set_cons_zero, List.set_cons_succ, i64_w, i32_w]
            rfl
          refine one_ (i := 7) (N := some 45) #[true, true, true, true, true, true, true, true, false] rfl rfl (one_of HT_.out (by kernel_rfl)) (by decide) (fun K hK => ?_)
          refine goes_ Try.func22 (by kernel_rfl) rfl #[.agg #[.int .i64 t261, .int .u64 t262, .int .u64 t263, .int .u64 t264, .int .u64 t265, .int .u64 t266, .int .u64 t267], .int .i64 x20_12, .agg #[.int .i64 t269, .int .i64 t270, .int .i64 t271, .int .i64 t272], .int .i64 t273] (by rfl) rfl rfl (by (try simp only [List.map_toArray, List.map_cons, List.map_nil]); first | done | rfl | (simp only [List.length_drop, List.length_take]; rfl)) ?_
          with_reducible refine (roundhouseref5_Make.calls kj12 t261 t262 t263 t264 t265 t266 t267 x20_12 t269 t270 t271 t272 t273 t274 _ A21.out).mono ?_
          rintro e w30 ⟨rfl, hb⟩
          refine ⟨_, rfl, ?_⟩
          have n0_ := Aside0.mk (blk_below (g := gb268) (o := .cells #[.int .i64 t261, .int .u64 t262, .int .u64 t263, .int .u64 t264, .int .u64 t265, .int .u64 t266, .int .u64 t267] 27 (0, 0)) (by (with_reducible repeat (first | refine blk_drewN ?_ _ | refine blk_drew ?_ | refine blk_alloc ?_ _)); exact BK268.out) hb)
          have n1_ := Aside0.mk (below_step (by repeat (first | (with_reducible first | exact HB.out | apply below_alloc | apply pw_below_drewN | apply below_drew1 | refine below_set ?_ GE268.out) | exact HB.out)) hb)
          clear BK268
          clear HB
          have BK268 := n0_
          have HB := n1_
          clear n0_ n1_
          (try clear hb)
          (try clear hb2)
          (try clear hk)
          (try clear hi)
          refine hK.out _ _ ⟨(blk_cell BK268.out 0).trans rfl, (blk_cell BK268.out 1).trans rfl, (blk_cell BK268.out 2).trans rfl, (blk_cell BK268.out 3).trans rfl, (blk_cell BK268.out 4).trans rfl, (blk_cell BK268.out 5).trans rfl, (blk_cell BK268.out 6).trans rfl⟩ (fun hHeld => ?_)
          clear hK K
          refine norm_ (a' := ?_) ?_ ?_
          rotate_left
          · show Act.put _ (some 45) _ = _
            simp only [Act.put, List.setIfInBounds_toArray, List.set_cons_zero, List.set_cons_succ, i64_w, i32_w]
            rfl
          refine pure_ (i := 8) (N := some 21) (v := ?_) (a' := ?_) #[true, true, true, true, true, true, true, true, true] rfl rfl (any_of HT_.out (by kernel_rfl)) (fun _ _ _ h => h) (Or.inl ⟨by rfl, ?_⟩) ?_ ?_
          rotate_left
          · intro w'
            go_simp
            with_reducible rfl
          rotate_left
          · simp only [Act.put, List.setIfInBounds_toArray, List.set_cons_zero, List.set_cons_succ, i64_w, i32_w]
            rfl
          refine done_ (done_of HT_.out (by kernel_rfl)) ?_
          try go_wp2_with (first | ((with_reducible refine gate_callee (f := 18) rfl ?_); refine goesL_ (some 49) rfl rfl Try.func18 (by kernel_rfl) rfl #[.int .i64 a6, .int .i64 21] rfl (by (try simp only [List.map_toArray, List.map_cons, List.map_nil]); first | done | rfl | (simp only [List.length_drop, List.length_take]; rfl)) ?_; (with_reducible refine (roundhouselaw5_within.calls a6 21 t275 _ A22.out).mono ?_); rintro e w' ⟨rfl, ⟨nd, rfl⟩⟩; refine ⟨_, rfl, ?_⟩) | ((with_reducible refine gate_callee (f := 18) rfl ?_); refine goesL_ (some 55) rfl rfl Try.func18 (by kernel_rfl) rfl #[.int .i64 a7, .int .i64 1048576] rfl (by (try simp only [List.map_toArray, List.map_cons, List.map_nil]); first | done | rfl | (simp only [List.length_drop, List.length_take]; rfl)) ?_; (with_reducible refine (roundhouselaw5_within.calls a7 1048576 t276 _ A26.out).mono ?_); rintro e w' ⟨rfl, ⟨nd, rfl⟩⟩; refine ⟨_, rfl, ?_⟩) | ((with_reducible refine gate_callee (f := 18) rfl ?_); refine goesL_ (some 57) rfl rfl Try.func18 (by kernel_rfl) rfl #[.int .i64 a7, .int .i64 65536] rfl (by (try simp only [List.map_toArray, List.map_cons, List.map_nil]); first | done | rfl | (simp only [List.length_drop, List.length_take]; rfl)) ?_; (with_reducible refine (roundhouselaw5_within.calls a7 65536 t277 _ A27.out).mono ?_); rintro e w' ⟨rfl, ⟨nd, rfl⟩⟩; refine ⟨_, rfl, ?_⟩) | ((with_reducible refine gate_dst (N := 60) rfl ?_); refine Kd.R_lit (Kd.int .i64) _ 3 ?hg (N := 60) ?hd (xs := ([t274, Go.bits .xor .i64 t274 (ji25), a7, t276, t277, wrap64 (t274 + 1048576), 0, (-1)] : List Int)) (inner := [.int .i64 t274, .int .i64 (Go.bits .xor .i64 t274 (ji25)), .int .i64 a7, .int .i64 t276, .int .i64 t277, .int .i64 (wrap64 (t274 + 1048576)), .int .i64 0, .int .i64 (-1)]) (ok := fun _ => True) (okp := fun _ => True) ?hr ?hp (fun _ hk => hk) trivial (Below.refl _ _) (Nat.le_refl _) (by simp) ?_; (case hd => rfl); (case hg => rfl); (case hr => first | (go_simp; done) | (go_simp; rfl)); (case hp => exact (Reps.one (show Kd.M (Kd.int .i64) _ _ _ t274 [.int .i64 t274] from rfl) (Reps.one (show Kd.M (Kd.int .i64) _ _ _ (Go.bits .xor .i64 t274 (ji25)) [.int .i64 (Go.bits .xor .i64 t274 (ji25))] from rfl) (Reps.one (show Kd.M (Kd.int .i64) _ _ _ a7 [.int .i64 a7] from rfl) (Reps.one (show Kd.M (Kd.int .i64) _ _ _ t276 [.int .i64 t276] from rfl) (Reps.one (show Kd.M (Kd.int .i64) _ _ _ t277 [.int .i64 t277] from rfl) (Reps.one (show Kd.M (Kd.int .i64) _ _ _ (wrap64 (t274 + 1048576)) [.int .i64 (wrap64 (t274 + 1048576))] from rfl) (Reps.one (show Kd.M (Kd.int .i64) _ _ _ 0 [.int .i64 0] from rfl) (Reps.one (show Kd.M (Kd.int .i64) _ _ _ (-1) [.int .i64 (-1)] from rfl) (Reps.none _ _)))))))))); intro v279 w31 ho32 hb hg_ hnew_; clear hg_ hnew_; (first | rw [← Ny278.out] at ho32 | (simp only [Int.reduceToNat] at ho32; rw [← Ny278.out] at ho32)); have n0_ := Aside0.mk (Kd.R_lower ho32 (below_size (by repeat (first | (with_reducible first | exact HB.out | apply below_alloc | apply pw_below_drewN | apply below_drew1 | refine below_set ?_ GE268.out) | exact HB.out)))); have n1_ := Aside0.mk (blk_below (g := gb268) (o := .cells #[.int .i64 t261, .int .u64 t262, .int .u64 t263, .int .u64 t264, .int .u64 t265, .int .u64 t266, .int .u64 t267] 27 (0, 0)) (by (with_reducible repeat (first | refine blk_drewN ?_ _ | refine blk_drew ?_ | refine blk_alloc ?_ _)); exact BK268.out) hb); have n2_ := Aside0.mk (below_step (by repeat (first | (with_reducible first | exact HB.out | apply below_alloc | apply pw_below_drewN | apply below_drew1 | refine below_set ?_ GE268.out) | exact HB.out)) hb); clear BK268; clear HB; have HO280 := n0_; have BK268 := n1_; have HB := n2_; clear n0_ n1_ n2_; clear hb ho32))
          go_loopg [23] kj12 (fun kq v23 w' => ∃ (x23_2 : Int), v23 = .int .i64 x23_2 ∧ Aside0 (roundhouselaw5_CookieReads.l0 kq a0 a1 a3 a4 a8 x20_12 y278 x23_2 t261 t262 t263 t264 t265 t266 t267 = some r) ∧ Aside0 (kq ≤ kj12) ∧ Aside0 (Kd.R (Kd.int .i64) 3 w' w.heap.size (fun _ => True) v279 y278) ∧ Aside0 (w'.heap[gb268]? = some (.cells #[.int .i64 t261, .int .u64 t262, .int .u64 t263, .int .u64 t264, .int .u64 t265, .int .u64 t266, .int .u64 t267] 27 (0, 0))) ∧ Aside0 (Below w.heap.size w w'))
          case atStart => exact ⟨(0), (by first | rfl | (simp; done) | (simp [*]; done)), H', ⟨Nat.le_refl _⟩, ⟨by (with_reducible repeat (first | apply Kd.R_alloc | apply Kd.R_drewN | apply Kd.R_drew)); exact HO280.out⟩, ⟨by (with_reducible repeat (first | refine blk_drewN ?_ _ | refine blk_drew ?_ | refine blk_alloc ?_ _)); exact BK268.out⟩, ⟨by repeat (first | (with_reducible first | exact HB.out | apply below_alloc | apply pw_below_drewN | apply below_drew1 | refine below_set ?_ GE268.out) | exact HB.out)⟩⟩
          case round =>
            clear H'
            try clear c1
            try clear c2
            try clear p2
            try clear c4
            try clear p6
            try clear c11
            try clear c16
            try clear c17
            try clear c18
            try clear c20
            try clear c22
            try clear c24
            try clear c24b0
            try clear c24b1
            try clear hcz17_0
            try clear hcz17_1
            try clear hcz17_2
            try clear hcz17_3
            try clear hcz17_4
            try clear hcz17_5
            try clear hcz17_6
            try clear hfz17_0
            try clear hfz17_1
            try clear hfz17_2
            try clear hfz17_3
            try clear hfz17_4
            try clear hfz17_5
            try clear hfz17_6
            try clear p2
            obtain ⟨x23_2, rfl, HA, HK2, HO_22, BK268, HB⟩ := hrel
            cases gk with
            | zero => exact absurd HA.out (by simp [roundhouselaw5_CookieReads.l0])
            | succ k2 =>
              have H := HA.out
              clear HA
              simp only [roundhouselaw5_CookieReads.l0] at H
              by_cases c33 : x23_2 < (y278.length : Int)
              · rw [if_pos c33] at H
                have c33b0 : decide (x23_2 < (y278.length : Int)) = true := decide_eq_true c33
                clear c33
                replace H := Option.bind_eq_some_iff.mp H
                obtain ⟨⟨t281, t282, t283, t284⟩, A340, H⟩ := H
                replace H : (if 0 ≤ x23_2 then ((cookie_Read.f k2 t261 t262 t263 t264 t265 t266 t267 x20_12 t281 t282 t283 t284 (rd y278 x23_2)).bind fun bt286 => ((roundhouselaw5_Flow.f a3 a4).bind fun bt288 => ((roundhouseref5_Read.f k2 t261 t262 t263 t264 t265 t266 t267 x20_12 bt288.1 bt288.2.1 bt288.2.2.1 bt288.2.2.2 (rd y278 x23_2)).bind fun bt293 => ((roundhouselaw5_Ring.f k2 (wrap64 (a0 + a8)) a1).bind fun bt295 => ((roundhouselaw5_Flow.f a3 (wrap64 (a4 + a8))).bind fun bt302 => ((cookie_Read.f k2 bt295.1 bt295.2.1 bt295.2.2.1 bt295.2.2.2.1 bt295.2.2.2.2.1 bt295.2.2.2.2.2.1 bt295.2.2.2.2.2.2 x20_12 bt302.1 bt302.2.1 bt302.2.2.1 bt302.2.2.2 (rd y278 x23_2)).bind fun bt307 => ((roundhouselaw5_Ring.f k2 (wrap64 (a0 + a8)) a1).bind fun bt309 => ((roundhouselaw5_Flow.f a3 (wrap64 (a4 + a8))).bind fun bt316 => ((roundhouseref5_Read.f k2 bt309.1 bt309.2.1 bt309.2.2.1 bt309.2.2.2.1 bt309.2.2.2.2.1 bt309.2.2.2.2.2.1 bt309.2.2.2.2.2.2 x20_12 bt316.1 bt316.2.1 bt316.2.2.1 bt316.2.2.2 (rd y278 x23_2)).bind fun bt321 => (if bt286.1 = bt293.1 then (if (bt286.2 != bt293.2) = true then (some false) else (if bt307.1 = bt321.1 then (if (bt307.2 != bt321.2) = true then (some false) else (roundhouselaw5_CookieReads.l0 k2 a0 a1 a3 a4 a8 x20_12 y278 (wrap64 (x23_2 + 1)) t261 t262 t263 t264 t265 t266 t267)) else (some false))) else (some false))))))))))) else (none)) = some r := H
                have A34 := Aside0.mk A340
                clear A340
                by_cases c35 : 0 ≤ x23_2
                · rw [if_pos c35] at H
                  have c35b0 : decide (0 ≤ x23_2) = true := decide_eq_true c35
                  clear c35
                  replace H := Option.bind_eq_some_iff.mp H
                  obtain ⟨⟨t286, t287⟩, A360, H⟩ := H
                  replace H : ((roundhouselaw5_Flow.f a3 a4).bind fun bt288 => ((roundhouseref5_Read.f k2 t261 t262 t263 t264 t265 t266 t267 x20_12 bt288.1 bt288.2.1 bt288.2.2.1 bt288.2.2.2 (rd y278 x23_2)).bind fun bt293 => ((roundhouselaw5_Ring.f k2 (wrap64 (a0 + a8)) a1).bind fun bt295 => ((roundhouselaw5_Flow.f a3 (wrap64 (a4 + a8))).bind fun bt302 => ((cookie_Read.f k2 bt295.1 bt295.2.1 bt295.2.2.1 bt295.2.2.2.1 bt295.2.2.2.2.1 bt295.2.2.2.2.2.1 bt295.2.2.2.2.2.2 x20_12 bt302.1 bt302.2.1 bt302.2.2.1 bt302.2.2.2 (rd y278 x23_2)).bind fun bt307 => ((roundhouselaw5_Ring.f k2 (wrap64 (a0 + a8)) a1).bind fun bt309 => ((roundhouselaw5_Flow.f a3 (wrap64 (a4 + a8))).bind fun bt316 => ((roundhouseref5_Read.f k2 bt309.1 bt309.2.1 bt309.2.2.1 bt309.2.2.2.1 bt309.2.2.2.2.1 bt309.2.2.2.2.2.1 bt309.2.2.2.2.2.2 x20_12 bt316.1 bt316.2.1 bt316.2.2.1 bt316.2.2.2 (rd y278 x23_2)).bind fun bt321 => (if t286 = bt293.1 then (if (t287 != bt293.2) = true then (some false) else (if bt307.1 = bt321.1 then (if (bt307.2 != bt321.2) = true then (some false) else (roundhouselaw5_CookieReads.l0 k2 a0 a1 a3 a4 a8 x20_12 y278 (wrap64 (x23_2 + 1)) t261 t262 t263 t264 t265 t266 t267)) else (some false))) else (some false)))))))))) = some r := H
                  have A36 := Aside0.mk A360
                  clear A360
                  replace H := Option.bind_eq_some_iff.mp H
                  obtain ⟨⟨t288, t289, t290, t291⟩, A370, H⟩ := H
                  replace H : ((roundhouseref5_Read.f k2 t261 t262 t263 t264 t265 t266 t267 x20_12 t288 t289 t290 t291 (rd y278 x23_2)).bind fun bt293 => ((roundhouselaw5_Ring.f k2 (wrap64 (a0 + a8)) a1).bind fun bt295 => ((roundhouselaw5_Flow.f a3 (wrap64 (a4 + a8))).bind fun bt302 => ((cookie_Read.f k2 bt295.1 bt295.2.1 bt295.2.2.1 bt295.2.2.2.1 bt295.2.2.2.2.1 bt295.2.2.2.2.2.1 bt295.2.2.2.2.2.2 x20_12 bt302.1 bt302.2.1 bt302.2.2.1 bt302.2.2.2 (rd y278 x23_2)).bind fun bt307 => ((roundhouselaw5_Ring.f k2 (wrap64 (a0 + a8)) a1).bind fun bt309 => ((roundhouselaw5_Flow.f a3 (wrap64 (a4 + a8))).bind fun bt316 => ((roundhouseref5_Read.f k2 bt309.1 bt309.2.1 bt309.2.2.1 bt309.2.2.2.1 bt309.2.2.2.2.1 bt309.2.2.2.2.2.1 bt309.2.2.2.2.2.2 x20_12 bt316.1 bt316.2.1 bt316.2.2.1 bt316.2.2.2 (rd y278 x23_2)).bind fun bt321 => (if t286 = bt293.1 then (if (t287 != bt293.2) = true then (some false) else (if bt307.1 = bt321.1 then (if (bt307.2 != bt321.2) = true then (some false) else (roundhouselaw5_CookieReads.l0 k2 a0 a1 a3 a4 a8 x20_12 y278 (wrap64 (x23_2 + 1)) t261 t262 t263 t264 t265 t266 t267)) else (some false))) else (some false))))))))) = some r := H
                  have A37 := Aside0.mk A370
                  clear A370
                  replace H := Option.bind_eq_some_iff.mp H
                  obtain ⟨⟨t293, t294⟩, A380, H⟩ := H
                  replace H : ((roundhouselaw5_Ring.f k2 (wrap64 (a0 + a8)) a1).bind fun bt295 => ((roundhouselaw5_Flow.f a3 (wrap64 (a4 + a8))).bind fun bt302 => ((cookie_Read.f k2 bt295.1 bt295.2.1 bt295.2.2.1 bt295.2.2.2.1 bt295.2.2.2.2.1 bt295.2.2.2.2.2.1 bt295.2.2.2.2.2.2 x20_12 bt302.1 bt302.2.1 bt302.2.2.1 bt302.2.2.2 (rd y278 x23_2)).bind fun bt307 => ((roundhouselaw5_Ring.f k2 (wrap64 (a0 + a8)) a1).bind fun bt309 => ((roundhouselaw5_Flow.f a3 (wrap64 (a4 + a8))).bind fun bt316 => ((roundhouseref5_Read.f k2 bt309.1 bt309.2.1 bt309.2.2.1 bt309.2.2.2.1 bt309.2.2.2.2.1 bt309.2.2.2.2.2.1 bt309.2.2.2.2.2.2 x20_12 bt316.1 bt316.2.1 bt316.2.2.1 bt316.2.2.2 (rd y278 x23_2)).bind fun bt321 => (if t286 = t293 then (if (t287 != t294) = true then (some false) else (if bt307.1 = bt321.1 then (if (bt307.2 != bt321.2) = true then (some false) else (roundhouselaw5_CookieReads.l0 k2 a0 a1 a3 a4 a8 x20_12 y278 (wrap64 (x23_2 + 1)) t261 t262 t263 t264 t265 t266 t267)) else (some false))) else (some false)))))))) = some r := H
                  have A38 := Aside0.mk A380
                  clear A380
                  replace H := Option.bind_eq_some_iff.mp H
                  obtain ⟨⟨t295, t296, t297, t298, t299, t300, t301⟩, A390, H⟩ := H
                  replace H : ((roundhouselaw5_Flow.f a3 (wrap64 (a4 + a8))).bind fun bt302 => ((cookie_Read.f k2 t295 t296 t297 t298 t299 t300 t301 x20_12 bt302.1 bt302.2.1 bt302.2.2.1 bt302.2.2.2 (rd y278 x23_2)).bind fun bt307 => ((roundhouselaw5_Ring.f k2 (wrap64 (a0 + a8)) a1).bind fun bt309 => ((roundhouselaw5_Flow.f a3 (wrap64 (a4 + a8))).bind fun bt316 => ((roundhouseref5_Read.f k2 bt309.1 bt309.2.1 bt309.2.2.1 bt309.2.2.2.1 bt309.2.2.2.2.1 bt309.2.2.2.2.2.1 bt309.2.2.2.2.2.2 x20_12 bt316.1 bt316.2.1 bt316.2.2.1 bt316.2.2.2 (rd y278 x23_2)).bind fun bt321 => (if t286 = t293 then (if (t287 != t294) = true then (some false) else (if bt307.1 = bt321.1 then (if (bt307.2 != bt321.2) = true then (some false) else (roundhouselaw5_CookieReads.l0 k2 a0 a1 a3 a4 a8 x20_12 y278 (wrap64 (x23_2 + 1)) t261 t262 t263 t264 t265 t266 t267)) else (some false))) else (some false))))))) = some r := H
                  have A39 := Aside0.mk A390
                  clear A390
                  replace H := Option.bind_eq_some_iff.mp H
                  obtain ⟨⟨t302, t303, t304, t305⟩, A400, H⟩ := H
                  replace H : ((cookie_Read.f k2 t295 t296 t297 t298 t299 t300 t301 x20_12 t302 t303 t304 t305 (rd y278 x23_2)).bind fun bt307 => ((roundhouselaw5_Ring.f k2 (wrap64 (a0 + a8)) a1).bind fun bt309 => ((roundhouselaw5_Flow.f a3 (wrap64 (a4 + a8))).bind fun bt316 => ((roundhouseref5_Read.f k2 bt309.1 bt309.2.1 bt309.2.2.1 bt309.2.2.2.1 bt309.2.2.2.2.1 bt309.2.2.2.2.2.1 bt309.2.2.2.2.2.2 x20_12 bt316.1 bt316.2.1 bt316.2.2.1 bt316.2.2.2 (rd y278 x23_2)).bind fun bt321 => (if t286 = t293 then (if (t287 != t294) = true then (some false) else (if bt307.1 = bt321.1 then (if (bt307.2 != bt321.2) = true then (some false) else (roundhouselaw5_CookieReads.l0 k2 a0 a1 a3 a4 a8 x20_12 y278 (wrap64 (x23_2 + 1)) t261 t262 t263 t264 t265 t266 t267)) else (some false))) else (some false)))))) = some r := H
                  have A40 := Aside0.mk A400
                  clear A400
                  replace H := Option.bind_eq_some_iff.mp H
                  obtain ⟨⟨t307, t308⟩, A410, H⟩ := H
                  replace H : ((roundhouselaw5_Ring.f k2 (wrap64 (a0 + a8)) a1).bind fun bt309 => ((roundhouselaw5_Flow.f a3 (wrap64 (a4 + a8))).bind fun bt316 => ((roundhouseref5_Read.f k2 bt309.1 bt309.2.1 bt309.2.2.1 bt309.2.2.2.1 bt309.2.2.2.2.1 bt309.2.2.2.2.2.1 bt309.2.2.2.2.2.2 x20_12 bt316.1 bt316.2.1 bt316.2.2.1 bt316.2.2.2 (rd y278 x23_2)).bind fun bt321 => (if t286 = t293 then (if (t287 != t294) = true then (some false) else (if t307 = bt321.1 then (if (t308 != bt321.2) = true then (some false) else (roundhouselaw5_CookieReads.l0 k2 a0 a1 a3 a4 a8 x20_12 y278 (wrap64 (x23_2 + 1)) t261 t262 t263 t264 t265 t266 t267)) else (some false))) else (some false))))) = some r := H
                  have A41 := Aside0.mk A410
                  clear A410
                  replace H := Option.bind_eq_some_iff.mp H
                  obtain ⟨⟨t309, t310, t311, t312, t313, t314, t315⟩, A420, H⟩ := H
                  replace H : ((roundhouselaw5_Flow.f a3 (wrap64 (a4 + a8))).bind fun bt316 => ((roundhouseref5_Read.f k2 t309 t310 t311 t312 t313 t314 t315 x20_12 bt316.1 bt316.2.1 bt316.2.2.1 bt316.2.2.2 (rd y278 x23_2)).bind fun bt321 => (if t286 = t293 then (if (t287 != t294) = true then (some false) else (if t307 = bt321.1 then (if (t308 != bt321.2) = true then (some false) else (roundhouselaw5_CookieReads.l0 k2 a0 a1 a3 a4 a8 x20_12 y278 (wrap64 (x23_2 + 1)) t261 t262 t263 t264 t265 t266 t267)) else (some false))) else (some false)))) = some r := H
                  have A42 := Aside0.mk A420
                  clear A420
                  replace H := Option.bind_eq_some_iff.mp H
                  obtain ⟨⟨t316, t317, t318, t319⟩, A430, H⟩ := H
                  replace H : ((roundhouseref5_Read.f k2 t309 t310 t311 t312 t313 t314 t315 x20_12 t316 t317 t318 t319 (rd y278 x23_2)).bind fun bt321 => (if t286 = t293 then (if (t287 != t294) = true then (some false) else (if t307 = bt321.1 then (if (t308 != bt321.2) = true then (some false) else (roundhouselaw5_CookieReads.l0 k2 a0 a1 a3 a4 a8 x20_12 y278 (wrap64 (x23_2 + 1)) t261 t262 t263 t264 t265 t266 t267)) else (some false))) else (some false))) = some r := H
                  have A43 := Aside0.mk A430
                  clear A430
                  replace H := Option.bind_eq_some_iff.mp H
                  obtain ⟨⟨t321, t322⟩, A440, H⟩ := H
                  replace H : (if t286 = t293 then (if (t287 != t294) = true then (some false) else (if t307 = t321 then (if (t308 != t322) = true then (some false) else (roundhouselaw5_CookieReads.l0 k2 a0 a1 a3 a4 a8 x20_12 y278 (wrap64 (x23_2 + 1)) t261 t262 t263 t264 t265 t266 t267)) else (some false))) else (some false)) = some r := H
                  have A44 := Aside0.mk A440
                  clear A440
                  by_cases c45 : t286 = t293
                  · rw [if_pos c45] at H
                    have c45b0 : (t286 == t293) = true := beq_iff_eq.mpr c45
                    have c45b1 : (t286 != t293) = false := bne_eq_false_iff_eq.mpr c45
                    clear c45
                    by_cases c46 : (t287 != t294) = true
                    · rw [if_pos c46] at H
                      have c46b0 : (t287 != t294) = true := c46
                      (try (have c46b1 : decide (t287 = t294) = false := by simpa using c46))
                      (try (have c46b2 : (t287 == t294) = false := by simpa using c46))
                      (try (have c46b3 : ¬ (t287 = t294) := by simpa using c46))
                      clear c46
                      exact absurd hr_.out (by rw [← Option.some.inj H]; decide)
                    · rw [if_neg c46] at H
                      have c46b0 : (t287 != t294) = false := by simpa using c46
                      (try (have c46b1 : decide (t287 = t294) = true := by simpa using c46))
                      (try (have c46b2 : (t287 == t294) = true := by simpa using c46))
                      clear c46
                      by_cases c62 : t307 = t321
                      · rw [if_pos c62] at H
                        have c62b0 : (t307 == t321) = true := beq_iff_eq.mpr c62
                        have c62b1 : (t307 != t321) = false := bne_eq_false_iff_eq.mpr c62
                        clear c62
                        by_cases c63 : (t308 != t322) = true
                        · rw [if_pos c63] at H
                          have c63b0 : (t308 != t322) = true := c63
                          (try (have c63b1 : decide (t308 = t322) = false := by simpa using c63))
                          (try (have c63b2 : (t308 == t322) = false := by simpa using c63))
                          (try (have c63b3 : ¬ (t308 = t322) := by simpa using c63))
                          clear c63
                          exact absurd hr_.out (by rw [← Option.some.inj H]; decide)
                        · rw [if_neg c63] at H
                          have c63b0 : (t308 != t322) = false := by simpa using c63
                          (try (have c63b1 : decide (t308 = t322) = true := by simpa using c63))
                          (try (have c63b2 : (t308 == t322) = true := by simpa using c63))
                          clear c63
                          have H' := Aside0.mk H
                          clear H
                          obtain ⟨Ao79, co79, eo79⟩ := Kd.R_slice HO_22.out
                          subst eo79
                          try go_wp2
                          have n0_ := Aside0.mk (Kd.R_drew HO_22.out)
                          have n1_ := Aside0.mk (blk_drew BK268.out)
                          have n2_ := Aside0.mk (below_drew1 HB.out)
                          clear HO_22
                          clear BK268
                          clear HB
                          have HO_22 := n0_
                          have BK268 := n1_
                          have HB := n2_
                          clear n0_ n1_ n2_
                          have p285 : 0 ≤ (x23_2 : Int) := of_decide_eq_true (by first | (with_reducible assumption) | assumption)
                          have q285 : x23_2 < (y278.length : Int) := of_decide_eq_true (by first | (with_reducible assumption) | assumption)
                          obtain ⟨ad285, e285, hx285_0⟩ := Kd.at_int (Kd.R_reads' HO_22.out).2.2 x23_2 p285 q285
                          cases e285
                          replace p285 := eq_true p285
                          replace q285 := eq_true q285
                          refine start_ (n := 15) (S := fun w' => w'.cell? ⟨gb268, 0, none⟩ = some (.int .i64 t261) ∧ w'.cell? ⟨gb268, 1, none⟩ = some (.int .u64 t262) ∧ w'.cell? ⟨gb268, 2, none⟩ = some (.int .u64 t263) ∧ w'.cell? ⟨gb268, 3, none⟩ = some (.int .u64 t264) ∧ w'.cell? ⟨gb268, 4, none⟩ = some (.int .u64 t265) ∧ w'.cell? ⟨gb268, 5, none⟩ = some (.int .u64 t266) ∧ w'.cell? ⟨gb268, 6, none⟩ = some (.int .u64 t267) ∧ w'.cell? (ad285.add (x23_2).toNat) = some (.int .i64 (rd y278 x23_2))) (ds := []) #[false, false, false, false, false, false, false, false, false, false, false, false, false, false, false] (by kernel_rfl) rfl rfl ⟨(blk_cell BK268.out 0).trans rfl, (blk_cell BK268.out 1).trans rfl, (blk_cell BK268.out 2).trans rfl, (blk_cell BK268.out 3).trans rfl, (blk_cell BK268.out 4).trans rfl, (blk_cell BK268.out 5).trans rfl, (blk_cell BK268.out 6).trans rfl, hx285_0⟩ (fun hHeld => ?_); refine with_tabW roundhouselaw5_CookieReads.tab12 roundhouselaw5_CookieReads.bits12 (fun HT_ HW_ => ?_)
                          generalize wr.drew = w80 at HO_22 BK268 HB hx285_0 hHeld ⊢
                          refine pure_ (i := 1) (N := some 69) (v := ?_) (a' := ?_) #[false, true, false, false, false, false, false, false, false, false, false, false, false, false, false] rfl rfl (any_of HT_.out (by kernel_rfl)) (fun _ _ _ h => h) (Or.inl ⟨by rfl, ?_⟩) ?_ ?_
                          rotate_left
                          · intro w'
                            go_simp
                            with_reducible rfl
                          rotate_left
                          · simp only [Act.put, List.setIfInBounds_toArray, List.set_cons_zero, List.set_cons_succ, i64_w, i32_w]
                            rfl
                          refine pure_ (i := 2) (N := some 70) (v := ?_) (a' := ?_) #[false, true, true, false, false, false, false, false, false, false, false, false, false, false, false] rfl rfl (any_of HT_.out (by kernel_rfl)) (fun _ _ _ h => h) (Or.inl ⟨by rfl, ?_⟩) ?_ ?_
                          rotate_left
                          · intro w'
                            go_simp
                            with_reducible rfl
                          rotate_left
                          · simp only [Act.put, List.setIfInBounds_toArray, List.set_cons_zero, List.set_cons_succ, i64_w, i32_w]
                            rfl
                          refine pure_ (i := 3) (N := some 71) (v := ?_) (a' := ?_) #[false, true, true, true, false, false, false, false, false, false, false, false, false, false, false] rfl rfl (any_of HT_.out (by kernel_rfl)) (fun _ _ _ h => h) (Or.inl ⟨by rfl, ?_⟩) ?_ ?_
                          rotate_left
                          · intro w'
                            go_simp
                            with_reducible rfl
                          rotate_left
                          · simp only [Act.put, List.setIfInBounds_toArray, List.set_cons_zero, List.set_cons_succ, i64_w, i32_w]
                            rfl
                          refine pure_ (i := 5) (N := some 73) (v := ?_) (a' := ?_) #[false, true, true, true, false, true, false, false, false, false, false, false, false, false, false] rfl rfl (any_of HT_.out (by kernel_rfl)) (fun _ _ _ h => h) (Or.inl ⟨by rfl, ?_⟩) ?_ ?_
                          rotate_left
                          · intro w'
                            go_simp
                            with_reducible rfl
                          rotate_left
                          · simp only [Act.put, List.setIfInBounds_toArray, List.set_cons_zero, List.set_cons_succ, i64_w, i32_w]
                            rfl
                          refine pure_ (i := 6) (N := some 74) (v := ?_) (a' := ?_) #[false, true, true, true, false, true, true, false, false, false, false, false, false, false, false] rfl rfl (any_of HT_.out (by kernel_rfl)) (fun _ _ _ h => h) (Or.inl ⟨by rfl, ?_⟩) ?_ ?_
                          rotate_left
                          · intro w'
                            go_simp
                            with_reducible rfl
                          rotate_left
                          · simp only [Act.put, List.setIfInBounds_toArray, List.set_cons_zero, List.set_cons_succ, i64_w, i32_w]
                            rfl
                          refine pure_ (i := 7) (N := some 75) (v := ?_) (a' := ?_) #[false, true, true, true, false, true, true, true, false, false, false, false, false, false, false] rfl rfl (any_of HT_.out (by kernel_rfl)) (fun _ _ _ h => h) (Or.inl ⟨by rfl, ?_⟩) ?_ ?_
                          rotate_left
                          · intro w'
                            go_simp
                            with_reducible rfl
                          rotate_left
                          · simp only [Act.put, List.setIfInBounds_toArray, List.set_cons_zero, List.set_cons_succ, i64_w, i32_w]
                            rfl
                          refine take_ (i := 0) (N := some 68) (v := ?_) (a' := ?_) #[true, true, true, true, false, true, true, true, false, false, false, false, false, false, false] rfl rfl (take_ofW HT_.out HW_.out (by kernel_rfl)) (fun _ _ _ h => h) (Or.inl ⟨by rfl, ?_⟩) hHeld ?_ ?_
                          rotate_left
                          · rintro w' ⟨s0, s1, s2, s3, s4, s5, s6, s7⟩
                            go_simp
                            with_reducible rfl
                          rotate_left
                          · simp only [Act.put, List.setIfInBounds_toArray, List.set_cons_zero, List.set_cons_succ, i64_w, i32_w]
                            rfl
                          refine take_ (i := 8) (N := some 76) (v := ?_) (a' := ?_) #[true, true, true, true, false, true, true, true, true, false, false, false, false, false, false] rfl rfl (take_ofW HT_.out HW_.out (by kernel_rfl)) (fun _ _ _ h => h) (Or.inl ⟨by rfl, ?_⟩) hHeld ?_ ?_
                          rotate_left
                          · rintro w' ⟨s0, s1, s2, s3, s4, s5, s6, s7⟩
                            go_simp
                            with_reducible rfl
                          rotate_left
                          · simp only [Act.put, List.setIfInBounds_toArray, List.set_cons_zero, List.set_cons_succ, i64_w, i32_w]
                            rfl
                          refine one_ (i := 4) (N := some 72) #[true, true, true, true, true, true, true, true, true, false, false, false, false, false, false] rfl rfl (one_of HT_.out (by kernel_rfl)) (by decide) (fun K hK => ?_)
                          refine goes_ Try.func20 (by kernel_rfl) rfl #[.int .i64 a3, .int .i64 a4] (by rfl) rfl rfl (by (try simp only [List.map_toArray, List.map_cons, List.map_nil]); first | done | rfl | (simp only [List.length_drop, List.length_take]; rfl)) ?_
                          with_reducible refine (roundhouselaw5_Flow.calls a3 a4 t281 t282 t283 t284 _ A34.out).mono ?_
                          rintro e w81 ⟨rfl, hb⟩
                          have HS7_ := (hb.cell (World.block_lt_of_cell? _ _ (hHeld.2.2.2.2.2.2.2))).trans (hHeld.2.2.2.2.2.2.2)
                          refine ⟨_, rfl, ?_⟩
                          have n0_ := Aside0.mk (Kd.R_below (by (with_reducible repeat (first | apply Kd.R_alloc | apply Kd.R_drewN | apply Kd.R_drew)); exact HO_22.out) hb)
                          have n1_ := Aside0.mk (blk_below (g := gb268) (o := .cells #[.int .i64 t261, .int .u64 t262, .int .u64 t263, .int .u64 t264, .int .u64 t265, .int .u64 t266, .int .u64 t267] 27 (0, 0)) (by (with_reducible repeat (first | refine blk_drewN ?_ _ | refine blk_drew ?_ | refine blk_alloc ?_ _)); exact BK268.out) hb)
                          have n2_ := Aside0.mk (below_step (by repeat (first | (with_reducible first | exact HB.out | apply below_alloc | apply pw_below_drewN | apply below_drew1 | refine below_set ?_ GE268.out) | exact HB.out)) hb)
                          clear HO_22
                          clear BK268
                          clear HB
                          have HO_22 := n0_
                          have BK268 := n1_
                          have HB := n2_
                          clear n0_ n1_ n2_
                          (try clear hb)
                          (try clear hb2)
                          (try clear hk)
                          (try clear hi)
                          refine hK.out _ _ ⟨(blk_cell BK268.out 0).trans rfl, (blk_cell BK268.out 1).trans rfl, (blk_cell BK268.out 2).trans rfl, (blk_cell BK268.out 3).trans rfl, (blk_cell BK268.out 4).trans rfl, (blk_cell BK268.out 5).trans rfl, (blk_cell BK268.out 6).trans rfl, HS7_⟩ (fun hHeld => ?_)
                          clear hK K
                          refine norm_ (a' := ?_) ?_ ?_
                          rotate_left
                          · show Act.put _ (some 72) _ = _
                            simp only [Act.put, List.setIfInBounds_toArray, List.set_cons_zero, List.set_cons_succ, i64_w, i32_w]
                            rfl
                          refine one_ (i := 9) (N := some 77) #[true, true, true, true, true, true, true, true, true, true, false, false, false, false, false] rfl rfl (one_of HT_.out (by kernel_rfl)) (by decide) (fun K hK => ?_)
                          refine goes_ Try.func21 (by kernel_rfl) rfl #[.agg #[.int .i64 t261, .int .u64 t262, .int .u64 t263, .int .u64 t264, .int .u64 t265, .int .u64 t266, .int .u64 t267], .int .i64 x20_12, .agg #[.int .i64 t281, .int .i64 t282, .int .i64 t283, .int .i64 t284], .int .i64 (rd y278 x23_2)] (by rfl) rfl rfl (by (try simp only [List.map_toArray, List.map_cons, List.map_nil]); first | done | rfl | (simp only [List.length_drop, List.length_take]; rfl)) ?_
                          with_reducible refine (cookie_Read.calls k2 t261 t262 t263 t264 t265 t266 t267 x20_12 t281 t282 t283 t284 (rd y278 x23_2) t286 t287 _ A36.out).mono ?_
                          rintro e w82 ⟨rfl, hb⟩
                          have HS7_ := (hb.cell (World.block_lt_of_cell? _ _ (hHeld.2.2.2.2.2.2.2))).trans (hHeld.2.2.2.2.2.2.2)
                          refine ⟨_, rfl, ?_⟩
                          have n0_ := Aside0.mk (Kd.R_below (by (with_reducible repeat (first | apply Kd.R_alloc | apply Kd.R_drewN | apply Kd.R_drew)); exact HO_22.out) hb)
                          have n1_ := Aside0.mk (blk_below (g := gb268) (o := .cells #[.int .i64 t261, .int .u64 t262, .int .u64 t263, .int .u64 t264, .int .u64 t265, .int .u64 t266, .int .u64 t267] 27 (0, 0)) (by (with_reducible repeat (first | refine blk_drewN ?_ _ | refine blk_drew ?_ | refine blk_alloc ?_ _)); exact BK268.out) hb)
                          have n2_ := Aside0.mk (below_step (by repeat (first | (with_reducible first | exact HB.out | apply below_alloc | apply pw_below_drewN | apply below_drew1 | refine below_set ?_ GE268.out) | exact HB.out)) hb)
                          clear HO_22
                          clear BK268
                          clear HB
                          have HO_22 := n0_
                          have BK268 := n1_
                          have HB := n2_
                          clear n0_ n1_ n2_
                          (try clear hb)
                          (try clear hb2)
                          (try clear hk)
                          (try clear hi)
                          refine hK.out _ _ ⟨(blk_cell BK268.out 0).trans rfl, (blk_cell BK268.out 1).trans rfl, (blk_cell BK268.out 2).trans rfl, (blk_cell BK268.out 3).trans rfl, (blk_cell BK268.out 4).trans rfl, (blk_cell BK268.out 5).trans rfl, (blk_cell BK268.out 6).trans rfl, HS7_⟩ (fun hHeld => ?_)
                          clear hK K
                          refine norm_ (a' := ?_) ?_ ?_
                          rotate_left
                          · show Act.put _ (some 77) _ = _
                            simp only [Act.put, List.setIfInBounds_toArray, List.set_cons_zero, List.set_cons_succ, i64_w, i32_w]
                            rfl
                          refine pure_ (i := 10) (N := some 67) (v := ?_) (a' := ?_) #[true, true, true, true, true, true, true, true, true, true, true, false, false, false, false] rfl rfl (any_of HT_.out (by kernel_rfl)) (fun _ _ _ h => h) (Or.inl ⟨by rfl, ?_⟩) ?_ ?_
                          rotate_left
                          · intro w'
                            go_simp
                            with_reducible rfl
                          rotate_left
                          · simp only [Act.put, List.setIfInBounds_toArray, List.set_cons_zero, List.set_cons_succ, i64_w, i32_w]
                            rfl
                          refine pure_ (i := 11) (N := some 78) (v := ?_) (a' := ?_) #[true, true, true, true, true, true, true, true, true, true, true, true, false, false, false] rfl rfl (any_of HT_.out (by kernel_rfl)) (fun _ _ _ h => h) (Or.inl ⟨by rfl, ?_⟩) ?_ ?_
                          rotate_left
                          · intro w'
                            go_simp
                            with_reducible rfl
                          rotate_left
                          · simp only [Act.put, List.setIfInBounds_toArray, List.set_cons_zero, List.set_cons_succ, i64_w, i32_w]
                            rfl
                          refine pure_ (i := 12) (N := some 79) (v := ?_) (a' := ?_) #[true, true, true, true, true, true, true, true, true, true, true, true, true, false, false] rfl rfl (any_of HT_.out (by kernel_rfl)) (fun _ _ _ h => h) (Or.inl ⟨by rfl, ?_⟩) ?_ ?_
                          rotate_left
                          · intro w'
                            go_simp
                            with_reducible rfl
                          rotate_left
                          · simp only [Act.put, List.setIfInBounds_toArray, List.set_cons_zero, List.set_cons_succ, i64_w, i32_w]
                            rfl
                          refine pure_ (i := 13) (N := some 24) (v := ?_) (a' := ?_) #[true, true, true, true, true, true, true, true, true, true, true, true, true, true, false] rfl rfl (any_of HT_.out (by kernel_rfl)) (fun _ _ _ h => h) (Or.inl ⟨by rfl, ?_⟩) ?_ ?_
                          rotate_left
                          · intro w'
                            go_simp
                            with_reducible rfl
                          rotate_left
                          · simp only [Act.put, List.setIfInBounds_toArray, List.set_cons_zero, List.set_cons_succ, i64_w, i32_w]
                            rfl
                          refine pure_ (i := 14) (N := some 25) (v := ?_) (a' := ?_) #[true, true, true, true, true, true, true, true, true, true, true, true, true, true, true] rfl rfl (any_of HT_.out (by kernel_rfl)) (fun _ _ _ h => h) (Or.inl ⟨by rfl, ?_⟩) ?_ ?_
                          rotate_left
                          · intro w'
                            go_simp
                            with_reducible rfl
                          rotate_left
                          · simp only [Act.put, List.setIfInBounds_toArray, List.set_cons_zero, List.set_cons_succ, i64_w, i32_w]
                            rfl
                          refine done_ (done_of HT_.out (by kernel_rfl)) ?_
                          try go_wp2
                          have n0_ := Aside0.mk (Kd.R_drew HO_22.out)
                          have n1_ := Aside0.mk (blk_drew BK268.out)
                          have n2_ := Aside0.mk (below_drew1 HB.out)
                          clear HO_22
                          clear BK268
                          clear HB
                          have HO_22 := n0_
                          have BK268 := n1_
                          have HB := n2_
                          clear n0_ n1_ n2_
                          have p292 : 0 ≤ (x23_2 : Int) := of_decide_eq_true (by first | (with_reducible assumption) | assumption)
                          have q292 : x23_2 < (y278.length : Int) := of_decide_eq_true (by first | (with_reducible assumption) | assumption)
                          obtain ⟨ad292, e292, hx292_0⟩ := Kd.at_int (Kd.R_reads' HO_22.out).2.2 x23_2 p292 q292
                          obtain rfl : ad285 = ad292 := (by injection e292)
                          replace p292 := eq_true p292
                          replace q292 := eq_true q292
                          refine start_ (n := 15) (S := fun w' => w'.cell? ⟨gb268, 0, none⟩ = some (.int .i64 t261) ∧ w'.cell? ⟨gb268, 1, none⟩ = some (.int .u64 t262) ∧ w'.cell? ⟨gb268, 2, none⟩ = some (.int .u64 t263) ∧ w'.cell? ⟨gb268, 3, none⟩ = some (.int .u64 t264) ∧ w'.cell? ⟨gb268, 4, none⟩ = some (.int .u64 t265) ∧ w'.cell? ⟨gb268, 5, none⟩ = some (.int .u64 t266) ∧ w'.cell? ⟨gb268, 6, none⟩ = some (.int .u64 t267) ∧ w'.cell? (ad285.add (x23_2).toNat) = some (.int .i64 (rd y278 x23_2))) (ds := []) #[false, false, false, false, false, false, false, false, false, false, false, false, false, false, false] (by kernel_rfl) rfl rfl ⟨(blk_cell BK268.out 0).trans rfl, (blk_cell BK268.out 1).trans rfl, (blk_cell BK268.out 2).trans rfl, (blk_cell BK268.out 3).trans rfl, (blk_cell BK268.out 4).trans rfl, (blk_cell BK268.out 5).trans rfl, (blk_cell BK268.out 6).trans rfl, hx292_0⟩ (fun hHeld => ?_); refine with_tabW roundhouselaw5_CookieReads.tab13 roundhouselaw5_CookieReads.bits13 (fun HT_ HW_ => ?_)
                          generalize w82.drew = w83 at HO_22 BK268 HB hx292_0 hHeld ⊢
                          refine pure_ (i := 1) (N := some 82) (v := ?_) (a' := ?_) #[false, true, false, false, false, false, false, false, false, false, false, false, false, false, false] rfl rfl (any_of HT_.out (by kernel_rfl)) (fun _ _ _ h => h) (Or.inl ⟨by rfl, ?_⟩) ?_ ?_
                          rotate_left
                          · intro w'
                            go_simp
                            with_reducible rfl
                          rotate_left
                          · simp only [Act.put, List.setIfInBounds_toArray, List.set_cons_zero, List.set_cons_succ, i64_w, i32_w]
                            rfl
                          refine pure_ (i := 2) (N := some 83) (v := ?_) (a' := ?_) #[false, true, true, false, false, false, false, false, false, false, false, false, false, false, false] rfl rfl (any_of HT_.out (by kernel_rfl)) (fun _ _ _ h => h) (Or.inl ⟨by rfl, ?_⟩) ?_ ?_
                          rotate_left
                          · intro w'
                            go_simp
                            with_reducible rfl
                          rotate_left
                          · simp only [Act.put, List.setIfInBounds_toArray, List.set_cons_zero, List.set_cons_succ, i64_w, i32_w]
                            rfl
                          refine pure_ (i := 3) (N := some 84) (v := ?_) (a' := ?_) #[false, true, true, true, false, false, false, false, false, false, false, false, false, false, false] rfl rfl (any_of HT_.out (by kernel_rfl)) (fun _ _ _ h => h) (Or.inl ⟨by rfl, ?_⟩) ?_ ?_
                          rotate_left
                          · intro w'
                            go_simp
                            with_reducible rfl
                          rotate_left
                          · simp only [Act.put, List.setIfInBounds_toArray, List.set_cons_zero, List.set_cons_succ, i64_w, i32_w]
                            rfl
                          refine pure_ (i := 5) (N := some 86) (v := ?_) (a' := ?_) #[false, true, true, true, false, true, false, false, false, false, false, false, false, false, false] rfl rfl (any_of HT_.out (by kernel_rfl)) (fun _ _ _ h => h) (Or.inl ⟨by rfl, ?_⟩) ?_ ?_
                          rotate_left
                          · intro w'
                            go_simp
                            with_reducible rfl
                          rotate_left
                          · simp only [Act.put, List.setIfInBounds_toArray, List.set_cons_zero, List.set_cons_succ, i64_w, i32_w]
                            rfl
                          refine pure_ (i := 6) (N := some 87) (v := ?_) (a' := ?_) #[false, true, true, true, false, true, true, false, false, false, false, false, false, false, false] rfl rfl (any_of HT_.out (by kernel_rfl)) (fun _ _ _ h => h) (Or.inl ⟨by rfl, ?_⟩) ?_ ?_
                          rotate_left
                          · intro w'
                            go_simp
                            with_reducible rfl
                          rotate_left
                          · simp only [Act.put, List.setIfInBounds_toArray, List.set_cons_zero, List.set_cons_succ, i64_w, i32_w]
                            rfl
                          refine pure_ (i := 7) (N := some 88) (v := ?_) (a' := ?_) #[false, true, true, true, false, true, true, true, false, false, false, false, false, false, false] rfl rfl (any_of HT_.out (by kernel_rfl)) (fun _ _ _ h => h) (Or.inl ⟨by rfl, ?_⟩) ?_ ?_
                          rotate_left
                          · intro w'
                            go_simp
                            with_reducible rfl
                          rotate_left
                          · simp only [Act.put, List.setIfInBounds_toArray, List.set_cons_zero, List.set_cons_succ, i64_w, i32_w]
                            rfl
                          refine take_ (i := 0) (N := some 81) (v := ?_) (a' := ?_) #[true, true, true, true, false, true, true, true, false, false, false, false, false, false, false] rfl rfl (take_ofW HT_.out HW_.out (by kernel_rfl)) (fun _ _ _ h => h) (Or.inl ⟨by rfl, ?_⟩) hHeld ?_ ?_
                          rotate_left
                          · rintro w' ⟨s0, s1, s2, s3, s4, s5, s6, s7⟩
                            go_simp
                            with_reducible rfl
                          rotate_left
                          · simp only [Act.put, List.setIfInBounds_toArray, List.set_cons_zero, List.set_cons_succ, i64_w, i32_w]
                            rfl
                          refine take_ (i := 8) (N := some 89) (v := ?_) (a' := ?_) #[true, true, true, true, false, true, true, true, true, false, false, false, false, false, false] rfl rfl (take_ofW HT_.out HW_.out (by kernel_rfl)) (fun _ _ _ h => h) (Or.inl ⟨by rfl, ?_⟩) hHeld ?_ ?_
                          rotate_left
                          · rintro w' ⟨s0, s1, s2, s3, s4, s5, s6, s7⟩
                            go_simp
                            with_reducible rfl
                          rotate_left
                          · simp only [Act.put, List.setIfInBounds_toArray, List.set_cons_zero, List.set_cons_succ, i64_w, i32_w]
                            rfl
                          refine one_ (i := 4) (N := some 85) #[true, true, true, true, true, true, true, true, true, false, false, false, false, false, false] rfl rfl (one_of HT_.out (by kernel_rfl)) (by decide) (fun K hK => ?_)
                          refine goes_ Try.func20 (by kernel_rfl) rfl #[.int .i64 a3, .int .i64 a4] (by rfl) rfl rfl (by (try simp only [List.map_toArray, List.map_cons, List.map_nil]); first | done | rfl | (simp only [List.length_drop, List.length_take]; rfl)) ?_
                          with_reducible refine (roundhouselaw5_Flow.calls a3 a4 t288 t289 t290 t291 _ A37.out).mono ?_
                          rintro e w84 ⟨rfl, hb⟩
                          have HS7_ := (hb.cell (World.block_lt_of_cell? _ _ (hHeld.2.2.2.2.2.2.2))).trans (hHeld.2.2.2.2.2.2.2)
                          refine ⟨_, rfl, ?_⟩
                          have n0_ := Aside0.mk (Kd.R_below (by (with_reducible repeat (first | apply Kd.R_alloc | apply Kd.R_drewN | apply Kd.R_drew)); exact HO_22.out) hb)
                          have n1_ := Aside0.mk (blk_below (g := gb268) (o := .cells #[.int .i64 t261, .int .u64 t262, .int .u64 t263, .int .u64 t264, .int .u64 t265, .int .u64 t266, .int .u64 t267] 27 (0, 0)) (by (with_reducible repeat (first | refine blk_drewN ?_ _ | refine blk_drew ?_ | refine blk_alloc ?_ _)); exact BK268.out) hb)
                          have n2_ := Aside0.mk (below_step (by repeat (first | (with_reducible first | exact HB.out | apply below_alloc | apply pw_below_drewN | apply below_drew1 | refine below_set ?_ GE268.out) | exact HB.out)) hb)
                          clear HO_22
                          clear BK268
                          clear HB
                          have HO_22 := n0_
                          have BK268 := n1_
                          have HB := n2_
                          clear n0_ n1_ n2_
                          (try clear hb)
                          (try clear hb2)
                          (try clear hk)
                          (try clear hi)
                          refine hK.out _ _ ⟨(blk_cell BK268.out 0).trans rfl, (blk_cell BK268.out 1).trans rfl, (blk_cell BK268.out 2).trans rfl, (blk_cell BK268.out 3).trans rfl, (blk_cell BK268.out 4).trans rfl, (blk_cell BK268.out 5).trans rfl, (blk_cell BK268.out 6).trans rfl, HS7_⟩ (fun hHeld => ?_)
                          clear hK K
                          refine norm_ (a' := ?_) ?_ ?_
                          rotate_left
                          · show Act.put _ (some 85) _ = _
                            simp only [Act.put, List.setIfInBounds_toArray, List.set_cons_zero, List.set_cons_succ, i64_w, i32_w]
                            rfl
                          refine one_ (i := 9) (N := some 90) #[true, true, true, true, true, true, true, true, true, true, false, false, false, false, false] rfl rfl (one_of HT_.out (by kernel_rfl)) (by decide) (fun K hK => ?_)
                          refine goes_ Try.func23 (by kernel_rfl) rfl #[.agg #[.int .i64 t261, .int .u64 t262, .int .u64 t263, .int .u64 t264, .int .u64 t265, .int .u64 t266, .int .u64 t267], .int .i64 x20_12, .agg #[.int .i64 t288, .int .i64 t289, .int .i64 t290, .int .i64 t291], .int .i64 (rd y278 x23_2)] (by rfl) rfl rfl (by (try simp only [List.map_toArray, List.map_cons, List.map_nil]); first | done | rfl | (simp only [List.length_drop, List.length_take]; rfl)) ?_
                          with_reducible refine (roundhouseref5_Read.calls k2 t261 t262 t263 t264 t265 t266 t267 x20_12 t288 t289 t290 t291 (rd y278 x23_2) t293 t294 _ A38.out).mono ?_
                          rintro e w85 ⟨rfl, hb⟩
                          have HS7_ := (hb.cell (World.block_lt_of_cell? _ _ (hHeld.2.2.2.2.2.2.2))).trans (hHeld.2.2.2.2.2.2.2)
                          refine ⟨_, rfl, ?_⟩
                          have n0_ := Aside0.mk (Kd.R_below (by (with_reducible repeat (first | apply Kd.R_alloc | apply Kd.R_drewN | apply Kd.R_drew)); exact HO_22.out) hb)
                          have n1_ := Aside0.mk (blk_below (g := gb268) (o := .cells #[.int .i64 t261, .int .u64 t262, .int .u64 t263, .int .u64 t264, .int .u64 t265, .int .u64 t266, .int .u64 t267] 27 (0, 0)) (by (with_reducible repeat (first | refine blk_drewN ?_ _ | refine blk_drew ?_ | refine blk_alloc ?_ _)); exact BK268.out) hb)
                          have n2_ := Aside0.mk (below_step (by repeat (first | (with_reducible first | exact HB.out | apply below_alloc | apply pw_below_drewN | apply below_drew1 | refine below_set ?_ GE268.out) | exact HB.out)) hb)
                          clear HO_22
                          clear BK268
                          clear HB
                          have HO_22 := n0_
                          have BK268 := n1_
                          have HB := n2_
                          clear n0_ n1_ n2_
                          (try clear hb)
                          (try clear hb2)
                          (try clear hk)
                          (try clear hi)
                          refine hK.out _ _ ⟨(blk_cell BK268.out 0).trans rfl, (blk_cell BK268.out 1).trans rfl, (blk_cell BK268.out 2).trans rfl, (blk_cell BK268.out 3).trans rfl, (blk_cell BK268.out 4).trans rfl, (blk_cell BK268.out 5).trans rfl, (blk_cell BK268.out 6).trans rfl, HS7_⟩ (fun hHeld => ?_)
                          clear hK K
                          refine norm_ (a' := ?_) ?_ ?_
                          rotate_left
                          · show Act.put _ (some 90) _ = _
                            simp only [Act.put, List.setIfInBounds_toArray, List.set_cons_zero, List.set_cons_succ, i64_w, i32_w]
                            rfl
                          refine pure_ (i := 10) (N := some 80) (v := ?_) (a' := ?_) #[true, true, true, true, true, true, true, true, true, true, true, false, false, false, false] rfl rfl (any_of HT_.out (by kernel_rfl)) (fun _ _ _ h => h) (Or.inl ⟨by rfl, ?_⟩) ?_ ?_
                          rotate_left
                          · intro w'
                            go_simp
                            with_reducible rfl
                          rotate_left
                          · simp only [Act.put, List.setIfInBounds_toArray, List.set_cons_zero, List.set_cons_succ, i64_w, i32_w]
                            rfl
                          refine pure_ (i := 11) (N := some 91) (v := ?_) (a' := ?_) #[true, true, true, true, true, true, true, true, true, true, true, true, false, false, false] rfl rfl (any_of HT_.out (by kernel_rfl)) (fun _ _ _ h => h) (Or.inl ⟨by rfl, ?_⟩) ?_ ?_
                          rotate_left
                          · intro w'
                            go_simp
                            with_reducible rfl
                          rotate_left
                          · simp only [Act.put, List.setIfInBounds_toArray, List.set_cons_zero, List.set_cons_succ, i64_w, i32_w]
                            rfl
                          refine pure_ (i := 12) (N := some 92) (v := ?_) (a' := ?_) #[true, true, true, true, true, true, true, true, true, true, true, true, true, false, false] rfl rfl (any_of HT_.out (by kernel_rfl)) (fun _ _ _ h => h) (Or.inl ⟨by rfl, ?_⟩) ?_ ?_
                          rotate_left
                          · intro w'
                            go_simp
                            with_reducible rfl
                          rotate_left
                          · simp only [Act.put, List.setIfInBounds_toArray, List.set_cons_zero, List.set_cons_succ, i64_w, i32_w]
                            rfl
                          refine pure_ (i := 13) (N := some 26) (v := ?_) (a' := ?_) #[true, true, true, true, true, true, true, true, true, true, true, true, true, true, false] rfl rfl (any_of HT_.out (by kernel_rfl)) (fun _ _ _ h => h) (Or.inl ⟨by rfl, ?_⟩) ?_ ?_
                          rotate_left
                          · intro w'
                            go_simp
                            with_reducible rfl
                          rotate_left
                          · simp only [Act.put, List.setIfInBounds_toArray, List.set_cons_zero, List.set_cons_succ, i64_w, i32_w]
                            rfl
                          refine pure_ (i := 14) (N := some 27) (v := ?_) (a' := ?_) #[true, true, true, true, true, true, true, true, true, true, true, true, true, true, true] rfl rfl (any_of HT_.out (by kernel_rfl)) (fun _ _ _ h => h) (Or.inl ⟨by rfl, ?_⟩) ?_ ?_
                          rotate_left
                          · intro w'
                            go_simp
                            with_reducible rfl
                          rotate_left
                          · simp only [Act.put, List.setIfInBounds_toArray, List.set_cons_zero, List.set_cons_succ, i64_w, i32_w]
                            rfl
                          refine done_ (done_of HT_.out (by kernel_rfl)) ?_
                          try go_wp2
                          have n0_ := Aside0.mk (Kd.R_drew HO_22.out)
                          have n1_ := Aside0.mk (blk_drew BK268.out)
                          have n2_ := Aside0.mk (below_drew1 HB.out)
                          clear HO_22
                          clear BK268
                          clear HB
                          have HO_22 := n0_
                          have BK268 := n1_
                          have HB := n2_
                          clear n0_ n1_ n2_
                          have p306 : 0 ≤ (x23_2 : Int) := of_decide_eq_true (by first | (with_reducible assumption) | assumption)
                          have q306 : x23_2 < (y278.length : Int) := of_decide_eq_true (by first | (with_reducible assumption) | assumption)
                          obtain ⟨ad306, e306, hx306_0⟩ := Kd.at_int (Kd.R_reads' HO_22.out).2.2 x23_2 p306 q306
                          obtain rfl : ad285 = ad306 := (by injection e306)
                          replace p306 := eq_true p306
                          replace q306 := eq_true q306
                          refine start_ (n := 21) (S := fun w' => w'.cell? (ad285.add (x23_2).toNat) = some (.int .i64 (rd y278 x23_2))) (ds := []) #[false, false, false, false, false, false, false, false, false, false, false, false, false, false, false, false, false, false, false, false, false] (by kernel_rfl) rfl rfl (hx306_0) (fun hHeld => ?_); refine with_tabW roundhouselaw5_CookieReads.tab14 roundhouselaw5_CookieReads.bits14 (fun HT_ HW_ => ?_)
                          generalize w85.drew = w86 at HO_22 BK268 HB hx306_0 hHeld ⊢
                          refine pure_ (i := 0) (N := some 94) (v := ?_) (a' := ?_) #[true, false, false, false, false, false, false, false, false, false, false, false, false, false, false, false, false, false, false, false, false] rfl rfl (any_of HT_.out (by kernel_rfl)) (fun _ _ _ h => h) (Or.inl ⟨by rfl, ?_⟩) ?_ ?_
                          rotate_left
                          · intro w'
                            go_simp
                            with_reducible rfl
                          rotate_left
                          · simp only [Act.put, List.setIfInBounds_toArray, List.set_cons_zero, List.set_cons_succ, i64_w, i32_w]
                            rfl
                          refine pure_ (i := 1) (N := some 95) (v := ?_) (a' := ?_) #[true, true, false, false, false, false, false, false, false, false, false, false, false, false, false, false, false, false, false, false, false] rfl rfl (any_of HT_.out (by kernel_rfl)) (fun _ _ _ h => h) (Or.inl ⟨by rfl, ?_⟩) ?_ ?_
                          rotate_left
                          · intro w'
                            go_simp
                            with_reducible rfl
                          rotate_left
                          · simp only [Act.put, List.setIfInBounds_toArray, List.set_cons_zero, List.set_cons_succ, i64_w, i32_w]
                            rfl
                          refine pure_ (i := 2) (N := some 96) (v := ?_) (a' := ?_) #[true, true, true, false, false, false, false, false, false, false, false, false, false, false, false, false, false, false, false, false, false] rfl rfl (any_of HT_.out (by kernel_rfl)) (fun _ _ _ h => h) (Or.inl ⟨by rfl, ?_⟩) ?_ ?_
                          rotate_left
                          · intro w'
                            go_simp
                            with_reducible rfl
                          rotate_left
                          · simp only [Act.put, List.setIfInBounds_toArray, List.set_cons_zero, List.set_cons_succ, i64_w, i32_w]
                            rfl
                          refine pure_ (i := 3) (N := some 97) (v := ?_) (a' := ?_) #[true, true, true, true, false, false, false, false, false, false, false, false, false, false, false, false, false, false, false, false, false] rfl rfl (any_of HT_.out (by kernel_rfl)) (fun _ _ _ h => h) (Or.inl ⟨by rfl, ?_⟩) ?_ ?_
                          rotate_left
                          · intro w'
                            go_simp
                            with_reducible rfl
                          rotate_left
                          · simp only [Act.put, List.setIfInBounds_toArray, List.set_cons_zero, List.set_cons_succ, i64_w, i32_w]
                            rfl
                          refine pure_ (i := 5) (N := some 99) (v := ?_) (a' := ?_) #[true, true, true, true, false, true, false, false, false, false, false, false, false, false, false, false, false, false, false, false, false] rfl rfl (any_of HT_.out (by kernel_rfl)) (fun _ _ _ h => h) (Or.inl ⟨by rfl, ?_⟩) ?_ ?_
                          rotate_left
                          · intro w'
                            go_simp
                            with_reducible rfl
                          rotate_left
                          · simp only [Act.put, List.setIfInBounds_toArray, List.set_cons_zero, List.set_cons_succ, i64_w, i32_w]
                            rfl
                          refine pure_ (i := 6) (N := some 100) (v := ?_) (a' := ?_) #[true, true, true, true, false, true, true, false, false, false, false, false, false, false, false, false, false, false, false, false, false] rfl rfl (any_of HT_.out (by kernel_rfl)) (fun _ _ _ h => h) (Or.inl ⟨by rfl, ?_⟩) ?_ ?_
                          rotate_left
                          · intro w'
                            go_simp
                            with_reducible rfl
                          rotate_left
                          · simp only [Act.put, List.setIfInBounds_toArray, List.set_cons_zero, List.set_cons_succ, i64_w, i32_w]
                            rfl
                          refine pure_ (i := 7) (N := some 101) (v := ?_) (a' := ?_) #[true, true, true, true, false, true, true, true, false, false, false, false, false, false, false, false, false, false, false, false, false] rfl rfl (any_of HT_.out (by kernel_rfl)) (fun _ _ _ h => h) (Or.inl ⟨by rfl, ?_⟩) ?_ ?_
                          rotate_left
                          · intro w'
                            go_simp
                            with_reducible rfl
                          rotate_left
                          · simp only [Act.put, List.setIfInBounds_toArray, List.set_cons_zero, List.set_cons_succ, i64_w, i32_w]
                            rfl
                          refine pure_ (i := 8) (N := some 102) (v := ?_) (a' := ?_) #[true, true, true, true, false, true, true, true, true, false, false, false, false, false, false, false, false, false, false, false, false] rfl rfl (any_of HT_.out (by kernel_rfl)) (fun _ _ _ h => h) (Or.inl ⟨by rfl, ?_⟩) ?_ ?_
                          rotate_left
                          · intro w'
                            go_simp
                            with_reducible rfl
                          rotate_left
                          · simp only [Act.put, List.setIfInBounds_toArray, List.set_cons_zero, List.set_cons_succ, i64_w, i32_w]
                            rfl
                          refine pure_ (i := 9) (N := some 103) (v := ?_) (a' := ?_) #[true, true, true, true, false, true, true, true, true, true, false, false, false, false, false, false, false, false, false, false, false] rfl rfl (any_of HT_.out (by kernel_rfl)) (fun _ _ _ h => h) (Or.inl ⟨by rfl, ?_⟩) ?_ ?_
                          rotate_left
                          · intro w'
                            go_simp
                            with_reducible rfl
                          rotate_left
                          · simp only [Act.put, List.setIfInBounds_toArray, List.set_cons_zero, List.set_cons_succ, i64_w, i32_w]
                            rfl
                          refine pure_ (i := 11) (N := some 105) (v := ?_) (a' := ?_) #[true, true, true, true, false, true, true, true, true, true, false, true, false, false, false, false, false, false, false, false, false] rfl rfl (any_of HT_.out (by kernel_rfl)) (fun _ _ _ h => h) (Or.inl ⟨by rfl, ?_⟩) ?_ ?_
                          rotate_left
                          · intro w'
                            go_simp
                            with_reducible rfl
                          rotate_left
                          · simp only [Act.put, List.setIfInBounds_toArray, List.set_cons_zero, List.set_cons_succ, i64_w, i32_w]
                            rfl
                          refine pure_ (i := 12) (N := some 106) (v := ?_) (a' := ?_) #[true, true, true, true, false, true, true, true, true, true, false, true, true, false, false, false, false, false, false, false, false] rfl rfl (any_of HT_.out (by kernel_rfl)) (fun _ _ _ h => h) (Or.inl ⟨by rfl, ?_⟩) ?_ ?_
                          rotate_left
                          · intro w'
                            go_simp
                            with_reducible rfl
                          rotate_left
                          · simp only [Act.put, List.setIfInBounds_toArray, List.set_cons_zero, List.set_cons_succ, i64_w, i32_w]
                            rfl
                          refine pure_ (i := 13) (N := some 107) (v := ?_) (a' := ?_) #[true, true, true, true, false, true, true, true, true, true, false, true, true, true, false, false, false, false, false, false, false] rfl rfl (any_of HT_.out (by kernel_rfl)) (fun _ _ _ h => h) (Or.inl ⟨by rfl, ?_⟩) ?_ ?_
                          rotate_left
                          · intro w'
                            go_simp
                            with_reducible rfl
                          rotate_left
                          · simp only [Act.put, List.setIfInBounds_toArray, List.set_cons_zero, List.set_cons_succ, i64_w, i32_w]
                            rfl
                          refine take_ (i := 14) (N := some 108) (v := ?_) (a' := ?_) #[true, true, true, true, false, true, true, true, true, true, false, true, true, true, true, false, false, false, false, false, false] rfl rfl (take_ofW HT_.out HW_.out (by kernel_rfl)) (fun _ _ _ h => h) (Or.inl ⟨by rfl, ?_⟩) hHeld ?_ ?_
                          rotate_left
                          · intro w' s0
                            go_simp
                            with_reducible rfl
                          rotate_left
                          · simp only [Act.put, List.setIfInBounds_toArray, List.set_cons_zero, List.set_cons_succ, i64_w, i32_w]
                            rfl
                          refine one_ (i := 4) (N := some 98) #[true, true, true, true, true, true, true, true, true, true, false, true, true, true, true, false, false, false, false, false, false] rfl rfl (one_of HT_.out (by kernel_rfl)) (by decide) (fun K hK => ?_)
                          refine goes_ Try.func17 (by kernel_rfl) rfl #[.int .i64 (wrap64 (a0 + a8)), .int .i64 a1] (by rfl) rfl rfl (by (try simp only [List.map_toArray, List.map_cons, List.map_nil]); first | done | rfl | (simp only [List.length_drop, List.length_take]; rfl)) ?_
                          with_reducible refine (roundhouselaw5_Ring.calls k2 (wrap64 (a0 + a8)) a1 t295 t296 t297 t298 t299 t300 t301 _ A39.out).mono ?_
                          rintro e w87 ⟨rfl, hb⟩
                          have HS0_ := (hb.cell (World.block_lt_of_cell? _ _ (hHeld))).trans (hHeld)
                          refine ⟨_, rfl, ?_⟩
                          have n0_ := Aside0.mk (Kd.R_below (by (with_reducible repeat (first | apply Kd.R_alloc | apply Kd.R_drewN | apply Kd.R_drew)); exact HO_22.out) hb)
                          have n1_ := Aside0.mk (blk_below (g := gb268) (o := .cells #[.int .i64 t261, .int .u64 t262, .int .u64 t263, .int .u64 t264, .int .u64 t265, .int .u64 t266, .int .u64 t267] 27 (0, 0)) (by (with_reducible repeat (first | refine blk_drewN ?_ _ | refine blk_drew ?_ | refine blk_alloc ?_ _)); exact BK268.out) hb)
                          have n2_ := Aside0.mk (below_step (by repeat (first | (with_reducible first | exact HB.out | apply below_alloc | apply pw_below_drewN | apply below_drew1 | refine below_set ?_ GE268.out) | exact HB.out)) hb)
                          clear HO_22
                          clear BK268
                          clear HB
                          have HO_22 := n0_
                          have BK268 := n1_
                          have HB := n2_
                          clear n0_ n1_ n2_
                          (try clear hb)
                          (try clear hb2)
                          (try clear hk)
                          (try clear hi)
                          refine hK.out _ _ (HS0_) (fun hHeld => ?_)
                          clear hK K
                          refine norm_ (a' := ?_) ?_ ?_
                          rotate_left
                          · show Act.put _ (some 98) _ = _
                            simp only [Act.put, List.setIfInBounds_toArray, List.set_cons_zero, List.set_cons_succ, i64_w, i32_w]
                            rfl
                          refine one_ (i := 10) (N := some 104) #[true, true, true, true, true, true, true, true, true, true, true, true, true, true, true, false, false, false, false, false, false] rfl rfl (one_of HT_.out (by kernel_rfl)) (by decide) (fun K hK => ?_)
                          refine goes_ Try.func20 (by kernel_rfl) rfl #[.int .i64 a3, .int .i64 (wrap64 (a4 + a8))] (by rfl) rfl rfl (by (try simp only [List.map_toArray, List.map_cons, List.map_nil]); first | done | rfl | (simp only [List.length_drop, List.length_take]; rfl)) ?_
                          with_reducible refine (roundhouselaw5_Flow.calls a3 (wrap64 (a4 + a8)) t302 t303 t304 t305 _ A40.out).mono ?_
                          rintro e w88 ⟨rfl, hb⟩
                          have HS0_ := (hb.cell (World.block_lt_of_cell? _ _ (hHeld))).trans (hHeld)
                          refine ⟨_, rfl, ?_⟩
                          have n0_ := Aside0.mk (Kd.R_below (by (with_reducible repeat (first | apply Kd.R_alloc | apply Kd.R_drewN | apply Kd.R_drew)); exact HO_22.out) hb)
                          have n1_ := Aside0.mk (blk_below (g := gb268) (o := .cells #[.int .i64 t261, .int .u64 t262, .int .u64 t263, .int .u64 t264, .int .u64 t265, .int .u64 t266, .int .u64 t267] 27 (0, 0)) (by (with_reducible repeat (first | refine blk_drewN ?_ _ | refine blk_drew ?_ | refine blk_alloc ?_ _)); exact BK268.out) hb)
                          have n2_ := Aside0.mk (below_step (by repeat (first | (with_reducible first | exact HB.out | apply below_alloc | apply pw_below_drewN | apply below_drew1 | refine below_set ?_ GE268.out) | exact HB.out)) hb)
                          clear HO_22
                          clear BK268
                          clear HB
                          have HO_22 := n0_
                          have BK268 := n1_
                          have HB := n2_
                          clear n0_ n1_ n2_
                          (try clear hb)
                          (try clear hb2)
                          (try clear hk)
                          (try clear hi)
                          refine hK.out _ _ (HS0_) (fun hHeld => ?_)
                          clear hK K
                          refine norm_ (a' := ?_) ?_ ?_
                          rotate_left
                          · show Act.put _ (some 104) _ = _
                            simp only [Act.put, List.setIfInBounds_toArray, List.set_cons_zero, List.set_cons_succ, i64_w, i32_w]
                            rfl
                          refine one_ (i := 15) (N := some 109) #[true, true, true, true, true, true, true, true, true, true, true, true, true, true, true, true, false, false, false, false, false] rfl rfl (one_of HT_.out (by kernel_rfl)) (by decide) (fun K hK => ?_)
                          refine goes_ Try.func21 (by kernel_rfl) rfl #[.agg #[.int .i64 t295, .int .u64 t296, .int .u64 t297, .int .u64 t298, .int .u64 t299, .int .u64 t300, .int .u64 t301], .int .i64 x20_12, .agg #[.int .i64 t302, .int .i64 t303, .int .i64 t304, .int .i64 t305], .int .i64 (rd y278 x23_2)] (by rfl) rfl rfl (by (try simp only [List.map_toArray, List.map_cons, List.map_nil]); first | done | rfl | (simp only [List.length_drop, List.length_take]; rfl)) ?_
                          with_reducible refine (cookie_Read.calls k2 t295 t296 t297 t298 t299 t300 t301 x20_12 t302 t303 t304 t305 (rd y278 x23_2) t307 t308 _ A41.out).mono ?_
                          rintro e w89 ⟨rfl, hb⟩
                          have HS0_ := (hb.cell (World.block_lt_of_cell? _ _ (hHeld))).trans (hHeld)
                          refine ⟨_, rfl, ?_⟩
                          have n0_ := Aside0.mk (Kd.R_below (by (with_reducible repeat (first | apply Kd.R_alloc | apply Kd.R_drewN | apply Kd.R_drew)); exact HO_22.out) hb)
                          have n1_ := Aside0.mk (blk_below (g := gb268) (o := .cells #[.int .i64 t261, .int .u64 t262, .int .u64 t263, .int .u64 t264, .int .u64 t265, .int .u64 t266, .int .u64 t267] 27 (0, 0)) (by (with_reducible repeat (first | refine blk_drewN ?_ _ | refine blk_drew ?_ | refine blk_alloc ?_ _)); exact BK268.out) hb)
                          have n2_ := Aside0.mk (below_step (by repeat (first | (with_reducible first | exact HB.out | apply below_alloc | apply pw_below_drewN | apply below_drew1 | refine below_set ?_ GE268.out) | exact HB.out)) hb)
                          clear HO_22
                          clear BK268
                          clear HB
                          have HO_22 := n0_
                          have BK268 := n1_
                          have HB := n2_
                          clear n0_ n1_ n2_
                          (try clear hb)
                          (try clear hb2)
                          (try clear hk)
                          (try clear hi)
                          refine hK.out _ _ (HS0_) (fun hHeld => ?_)
                          clear hK K
                          refine norm_ (a' := ?_) ?_ ?_
                          rotate_left
                          · show Act.put _ (some 109) _ = _
                            simp only [Act.put, List.setIfInBounds_toArray, List.set_cons_zero, List.set_cons_succ, i64_w, i32_w]
                            rfl
                          refine pure_ (i := 16) (N := some 93) (v := ?_) (a' := ?_) #[true, true, true, true, true, true, true, true, true, true, true, true, true, true, true, true, true, false, false, false, false] rfl rfl (any_of HT_.out (by kernel_rfl)) (fun _ _ _ h => h) (Or.inl ⟨by rfl, ?_⟩) ?_ ?_
                          rotate_left
                          · intro w'
                            go_simp
                            with_reducible rfl
                          rotate_left
                          · simp only [Act.put, List.setIfInBounds_toArray, List.set_cons_zero, List.set_cons_succ, i64_w, i32_w]
                            rfl
                          refine pure_ (i := 17) (N := some 110) (v := ?_) (a' := ?_) #[true, true, true, true, true, true, true, true, true, true, true, true, true, true, true, true, true, true, false, false, false] rfl rfl (any_of HT_.out (by kernel_rfl)) (fun _ _ _ h => h) (Or.inl ⟨by rfl, ?_⟩) ?_ ?_
                          rotate_left
                          · intro w'
                            go_simp
                            with_reducible rfl
                          rotate_left
                          · simp only [Act.put, List.setIfInBounds_toArray, List.set_cons_zero, List.set_cons_succ, i64_w, i32_w]
                            rfl
                          refine pure_ (i := 18) (N := some 111) (v := ?_) (a' := ?_) #[true, true, true, true, true, true, true, true, true, true, true, true, true, true, true, true, true, true, true, false, false] rfl rfl (any_of HT_.out (by kernel_rfl)) (fun _ _ _ h => h) (Or.inl ⟨by rfl, ?_⟩) ?_ ?_
                          rotate_left
                          · intro w'
                            go_simp
                            with_reducible rfl
                          rotate_left
                          · simp only [Act.put, List.setIfInBounds_toArray, List.set_cons_zero, List.set_cons_succ, i64_w, i32_w]
                            rfl
                          refine pure_ (i := 19) (N := some 28) (v := ?_) (a' := ?_) #[true, true, true, true, true, true, true, true, true, true, true, true, true, true, true, true, true, true, true, true, false] rfl rfl (any_of HT_.out (by kernel_rfl)) (fun _ _ _ h => h) (Or.inl ⟨by rfl, ?_⟩) ?_ ?_
                          rotate_left
                          · intro w'
                            go_simp
                            with_reducible rfl
                          rotate_left
                          · simp only [Act.put, List.setIfInBounds_toArray, List.set_cons_zero, List.set_cons_succ, i64_w, i32_w]
                            rfl
                          refine pure_ (i := 20) (N := some 29) (v := ?_) (a' := ?_) #[true, true, true, true, true, true, true, true, true, true, true, true, true, true, true, true, true, true, true, true, true] rfl rfl (any_of HT_.out (by kernel_rfl)) (fun _ _ _ h => h) (Or.inl ⟨by rfl, ?_⟩) ?_ ?_
                          rotate_left
                          · intro w'
                            go_simp
                            with_reducible rfl
                          rotate_left
                          · simp only [Act.put, List.setIfInBounds_toArray, List.set_cons_zero, List.set_cons_succ, i64_w, i32_w]
                            rfl
                          refine done_ (done_of HT_.out (by kernel_rfl)) ?_
                          try go_wp2
                          have n0_ := Aside0.mk (Kd.R_drew HO_22.out)
                          have n1_ := Aside0.mk (blk_drew BK268.out)
                          have n2_ := Aside0.mk (below_drew1 HB.out)
                          clear HO_22
                          clear BK268
                          clear HB
                          have HO_22 := n0_
                          have BK268 := n1_
                          have HB := n2_
                          clear n0_ n1_ n2_
                          have p320 : 0 ≤ (x23_2 : Int) := of_decide_eq_true (by first | (with_reducible assumption) | assumption)
                          have q320 : x23_2 < (y278.length : Int) := of_decide_eq_true (by first | (with_reducible assumption) | assumption)
                          obtain ⟨ad320, e320, hx320_0⟩ := Kd.at_int (Kd.R_reads' HO_22.out).2.2 x23_2 p320 q320
                          obtain rfl : ad285 = ad320 := (by injection e320)
                          replace p320 := eq_true p320
                          replace q320 := eq_true q320
                          refine start_ (n := 21) (S := fun w' => w'.cell? (ad285.add (x23_2).toNat) = some (.int .i64 (rd y278 x23_2))) (ds := []) #[false, false, false, false, false, false, false, false, false, false, false, false, false, false, false, false, false, false, false, false, false] (by kernel_rfl) rfl rfl (hx320_0) (fun hHeld => ?_); refine with_tabW roundhouselaw5_CookieReads.tab15 roundhouselaw5_CookieReads.bits15 (fun HT_ HW_ => ?_)
                          generalize w89.drew = w90 at HO_22 BK268 HB hx320_0 hHeld ⊢
                          refine pure_ (i := 0) (N := some 113) (v := ?_) (a' := ?_) #[true, false, false, false, false, false, false, false, false, false, false, false, false, false, false, false, false, false, false, false, false] rfl rfl (any_of HT_.out (by kernel_rfl)) (fun _ _ _ h => h) (Or.inl ⟨by rfl, ?_⟩) ?_ ?_
                          rotate_left
                          · intro w'
                            go_simp
                            with_reducible rfl
                          rotate_left
                          · simp only [Act.put, List.setIfInBounds_toArray, List.set_cons_zero, List.set_cons_succ, i64_w, i32_w]
                            rfl
                          refine pure_ (i := 1) (N := some 114) (v := ?_) (a' := ?_) #[true, true, false, false, false, false, false, false, false, false, false, false, false, false, false, false, false, false, false, false, false] rfl rfl (any_of HT_.out (by kernel_rfl)) (fun _ _ _ h => h) (Or.inl ⟨by rfl, ?_⟩) ?_ ?_
                          rotate_left
                          · intro w'
                            go_simp
                            with_reducible rfl
                          rotate_left
                          · simp only [Act.put, List.setIfInBounds_toArray, List.set_cons_zero, List.set_cons_succ, i64_w, i32_w]
                            rfl
                          refine pure_ (i := 2) (N := some 115) (v := ?_) (a' := ?_) #[true, true, true, false, false, false, false, false, false, false, false, false, false, false, false, false, false, false, false, false, false] rfl rfl (any_of HT_.out (by kernel_rfl)) (fun _ _ _ h => h) (Or.inl ⟨by rfl, ?_⟩) ?_ ?_
                          rotate_left
                          · intro w'
                            go_simp
                            with_reducible rfl
                          rotate_left
                          · simp only [Act.put, List.setIfInBounds_toArray, List.set_cons_zero, List.set_cons_succ, i64_w, i32_w]
                            rfl
                          refine pure_ (i := 3) (N := some 116) (v := ?_) (a' := ?_) #[true, true, true, true, false, false, false, false, false, false, false, false, false, false, false, false, false, false, false, false, false] rfl rfl (any_of HT_.out (by kernel_rfl)) (fun _ _ _ h => h) (Or.inl ⟨by rfl, ?_⟩) ?_ ?_
                          rotate_left
                          · intro w'
                            go_simp
                            with_reducible rfl
                          rotate_left
                          · simp only [Act.put, List.setIfInBounds_toArray, List.set_cons_zero, List.set_cons_succ, i64_w, i32_w]
                            rfl
                          refine pure_ (i := 5) (N := some 118) (v := ?_) (a' := ?_) #[true, true, true, true, false, true, false, false, false, false, false, false, false, false, false, false, false, false, false, false, false] rfl rfl (any_of HT_.out (by kernel_rfl)) (fun _ _ _ h => h) (Or.inl ⟨by rfl, ?_⟩) ?_ ?_
                          rotate_left
                          · intro w'
                            go_simp
                            with_reducible rfl
                          rotate_left
                          · simp only [Act.put, List.setIfInBounds_toArray, List.set_cons_zero, List.set_cons_succ, i64_w, i32_w]
                            rfl
                          refine pure_ (i := 6) (N := some 119) (v := ?_) (a' := ?_) #[true, true, true, true, false, true, true, false, false, false, false, false, false, false, false, false, false, false, false, false, false] rfl rfl (any_of HT_.out (by kernel_rfl)) (fun _ _ _ h => h) (Or.inl ⟨by rfl, ?_⟩) ?_ ?_
                          rotate_left
                          · intro w'
                            go_simp
                            with_reducible rfl
                          rotate_left
                          · simp only [Act.put, List.setIfInBounds_toArray, List.set_cons_zero, List.set_cons_succ, i64_w, i32_w]
                            rfl
                          refine pure_ (i := 7) (N := some 120) (v := ?_) (a' := ?_) #[true, true, true, true, false, true, true, true, false, false, false, false, false, false, false, false, false, false, false, false, false] rfl rfl (any_of HT_.out (by kernel_rfl)) (fun _ _ _ h => h) (Or.inl ⟨by rfl, ?_⟩) ?_ ?_
                          rotate_left
                          · intro w'
                            go_simp
                            with_reducible rfl
                          rotate_left
                          · simp only [Act.put, List.setIfInBounds_toArray, List.set_cons_zero, List.set_cons_succ, i64_w, i32_w]
                            rfl
                          refine pure_ (i := 8) (N := some 121) (v := ?_) (a' := ?_) #[true, true, true, true, false, true, true, true, true, false, false, false, false, false, false, false, false, false, false, false, false] rfl rfl (any_of HT_.out (by kernel_rfl)) (fun _ _ _ h => h) (Or.inl ⟨by rfl, ?_⟩) ?_ ?_
                          rotate_left
                          · intro w'
                            go_simp
                            with_reducible rfl
                          rotate_left
                          · simp only [Act.put, List.setIfInBounds_toArray, List.set_cons_zero, List.set_cons_succ, i64_w, i32_w]
                            rfl
                          refine pure_ (i := 9) (N := some 122) (v := ?_) (a' := ?_) #[true, true, true, true, false, true, true, true, true, true, false, false, false, false, false, false, false, false, false, false, false] rfl rfl (any_of HT_.out (by kernel_rfl)) (fun _ _ _ h => h) (Or.inl ⟨by rfl, ?_⟩) ?_ ?_
                          rotate_left
                          · intro w'
                            go_simp
                            with_reducible rfl
                          rotate_left
                          · simp only [Act.put, List.setIfInBounds_toArray, List.set_cons_zero, List.set_cons_succ, i64_w, i32_w]
                            rfl
                          refine pure_ (i := 11) (N := some 124) (v := ?_) (a' := ?_) #[true, true, true, true, false, true, true, true, true, true, false, true, false, false, false, false, false, false, false, false, false] rfl rfl (any_of HT_.out (by kernel_rfl)) (fun _ _ _ h => h) (Or.inl ⟨by rfl, ?_⟩) ?_ ?_
                          rotate_left
                          · intro w'
                            go_simp
                            with_reducible rfl
                          rotate_left
                          · simp only [Act.put, List.setIfInBounds_toArray, List.set_cons_zero, List.set_cons_succ, i64_w, i32_w]
                            rfl
                          refine pure_ (i := 12) (N := some 125) (v := ?_) (a' := ?_) #[true, true, true, true, false, true, true, true, true, true, false, true, true, false, false, false, false, false, false, false, false] rfl rfl (any_of HT_.out (by kernel_rfl)) (fun _ _ _ h => h) (Or.inl ⟨by rfl, ?_⟩) ?_ ?_
                          rotate_left
                          · intro w'
                            go_simp
                            with_reducible rfl
                          rotate_left
                          · simp only [Act.put, List.setIfInBounds_toArray, List.set_cons_zero, List.set_cons_succ, i64_w, i32_w]
                            rfl
                          refine pure_ (i := 13) (N := some 126) (v := ?_) (a' := ?_) #[true, true, true, true, false, true, true, true, true, true, false, true, true, true, false, false, false, false, false, false, false] rfl rfl (any_of HT_.out (by kernel_rfl)) (fun _ _ _ h => h) (Or.inl ⟨by rfl, ?_⟩) ?_ ?_
                          rotate_left
                          · intro w'
                            go_simp
                            with_reducible rfl
                          rotate_left
                          · simp only [Act.put, List.setIfInBounds_toArray, List.set_cons_zero, List.set_cons_succ, i64_w, i32_w]
                            rfl
                          refine take_ (i := 14) (N := some 127) (v := ?_) (a' := ?_) #[true, true, true, true, false, true, true, true, true, true, false, true, true, true, true, false, false, false, false, false, false] rfl rfl (take_ofW HT_.out HW_.out (by kernel_rfl)) (fun _ _ _ h => h) (Or.inl ⟨by rfl, ?_⟩) hHeld ?_ ?_
                          rotate_left
                          · intro w' s0
                            go_simp
                            with_reducible rfl
                          rotate_left
                          · simp only [Act.put, List.setIfInBounds_toArray, List.set_cons_zero, List.set_cons_succ, i64_w, i32_w]
                            rfl
                          refine one_ (i := 4) (N := some 117) #[true, true, true, true, true, true, true, true, true, true, false, true, true, true, true, false, false, false, false, false, false] rfl rfl (one_of HT_.out (by kernel_rfl)) (by decide) (fun K hK => ?_)
                          refine goes_ Try.func17 (by kernel_rfl) rfl #[.int .i64 (wrap64 (a0 + a8)), .int .i64 a1] (by rfl) rfl rfl (by (try simp only [List.map_toArray, List.map_cons, List.map_nil]); first | done | rfl | (simp only [List.length_drop, List.length_take]; rfl)) ?_
                          with_reducible refine (roundhouselaw5_Ring.calls k2 (wrap64 (a0 + a8)) a1 t309 t310 t311 t312 t313 t314 t315 _ A42.out).mono ?_
                          rintro e w91 ⟨rfl, hb⟩
                          have HS0_ := (hb.cell (World.block_lt_of_cell? _ _ (hHeld))).trans (hHeld)
                          refine ⟨_, rfl, ?_⟩
                          have n0_ := Aside0.mk (Kd.R_below (by (with_reducible repeat (first | apply Kd.R_alloc | apply Kd.R_drewN | apply Kd.R_drew)); exact HO_22.out) hb)
                          have n1_ := Aside0.mk (blk_below (g := gb268) (o := .cells #[.int .i64 t261, .int .u64 t262, .int .u64 t263, .int .u64 t264, .int .u64 t265, .int .u64 t266, .int .u64 t267] 27 (0, 0)) (by (with_reducible repeat (first | refine blk_drewN ?_ _ | refine blk_drew ?_ | refine blk_alloc ?_ _)); exact BK268.out) hb)
                          have n2_ := Aside0.mk (below_step (by repeat (first | (with_reducible first | exact HB.out | apply below_alloc | apply pw_below_drewN | apply below_drew1 | refine below_set ?_ GE268.out) | exact HB.out)) hb)
                          clear HO_22
                          clear BK268
                          clear HB
                          have HO_22 := n0_
                          have BK268 := n1_
                          have HB := n2_
                          clear n0_ n1_ n2_
                          (try clear hb)
                          (try clear hb2)
                          (try clear hk)
                          (try clear hi)
                          refine hK.out _ _ (HS0_) (fun hHeld => ?_)
                          clear hK K
                          refine norm_ (a' := ?_) ?_ ?_
                          rotate_left
                          · show Act.put _ (some 117) _ = _
                            simp only [Act.put, List.setIfInBounds_toArray, List.set_cons_zero, List.set_cons_succ, i64_w, i32_w]
                            rfl
                          refine one_ (i := 10) (N := some 123) #[true, true, true, true, true, true, true, true, true, true, true, true, true, true, true, false, false, false, false, false, false] rfl rfl (one_of HT_.out (by kernel_rfl)) (by decide) (fun K hK => ?_)
                          refine goes_ Try.func20 (by kernel_rfl) rfl #[.int .i64 a3, .int .i64 (wrap64 (a4 + a8))] (by rfl) rfl rfl (by (try simp only [List.map_toArray, List.map_cons, List.map_nil]); first | done | rfl | (simp only [List.length_drop, List.length_take]; rfl)) ?_
                          with_reducible refine (roundhouselaw5_Flow.calls a3 (wrap64 (a4 + a8)) t316 t317 t318 t319 _ A43.out).mono ?_
                          rintro e w92 ⟨rfl, hb⟩
                          have HS0_ := (hb.cell (World.block_lt_of_cell? _ _ (hHeld))).trans (hHeld)
                          refine ⟨_, rfl, ?_⟩
                          have n0_ := Aside0.mk (Kd.R_below (by (with_reducible repeat (first | apply Kd.R_alloc | apply Kd.R_drewN | apply Kd.R_drew)); exact HO_22.out) hb)
                          have n1_ := Aside0.mk (blk_below (g := gb268) (o := .cells #[.int .i64 t261, .int .u64 t262, .int .u64 t263, .int .u64 t264, .int .u64 t265, .int .u64 t266, .int .u64 t267] 27 (0, 0)) (by (with_reducible repeat (first | refine blk_drewN ?_ _ | refine blk_drew ?_ | refine blk_alloc ?_ _)); exact BK268.out) hb)
                          have n2_ := Aside0.mk (below_step (by repeat (first | (with_reducible first | exact HB.out | apply below_alloc | apply pw_below_drewN | apply below_drew1 | refine below_set ?_ GE268.out) | exact HB.out)) hb)
                          clear HO_22
                          clear BK268
                          clear HB
                          have HO_22 := n0_
                          have BK268 := n1_
                          have HB := n2_
                          clear n0_ n1_ n2_
                          (try clear hb)
                          (try clear hb2)
                          (try clear hk)
                          (try clear hi)
                          refine hK.out _ _ (HS0_) (fun hHeld => ?_)
                          clear hK K
                          refine norm_ (a' := ?_) ?_ ?_
                          rotate_left
                          · show Act.put _ (some 123) _ = _
                            simp only [Act.put, List.setIfInBounds_toArray, List.set_cons_zero, List.set_cons_succ, i64_w, i32_w]
                            rfl
                          refine one_ (i := 15) (N := some 128) #[true, true, true, true, true, true, true, true, true, true, true, true, true, true, true, true, false, false, false, false, false] rfl rfl (one_of HT_.out (by kernel_rfl)) (by decide) (fun K hK => ?_)
                          refine goes_ Try.func23 (by kernel_rfl) rfl #[.agg #[.int .i64 t309, .int .u64 t310, .int .u64 t311, .int .u64 t312, .int .u64 t313, .int .u64 t314, .int .u64 t315], .int .i64 x20_12, .agg #[.int .i64 t316, .int .i64 t317, .int .i64 t318, .int .i64 t319], .int .i64 (rd y278 x23_2)] (by rfl) rfl rfl (by (try simp only [List.map_toArray, List.map_cons, List.map_nil]); first | done | rfl | (simp only [List.length_drop, List.length_take]; rfl)) ?_
                          with_reducible refine (roundhouseref5_Read.calls k2 t309 t310 t311 t312 t313 t314 t315 x20_12 t316 t317 t318 t319 (rd y278 x23_2) t321 t322 _ A44.out).mono ?_
                          rintro e w93 ⟨rfl, hb⟩
                          have HS0_ := (hb.cell (World.block_lt_of_cell? _ _ (hHeld))).trans (hHeld)
                          refine ⟨_, rfl, ?_⟩
                          have n0_ := Aside0.mk (Kd.R_below (by (with_reducible repeat (first | apply Kd.R_alloc | apply Kd.R_drewN | apply Kd.R_drew)); exact HO_22.out) hb)
                          have n1_ := Aside0.mk (blk_below (g := gb268) (o := .cells #[.int .i64 t261, .int .u64 t262, .int .u64 t263, .int .u64 t264, .int .u64 t265, .int .u64 t266, .int .u64 t267] 27 (0, 0)) (by (with_reducible repeat (first | refine blk_drewN ?_ _ | refine blk_drew ?_ | refine blk_alloc ?_ _)); exact BK268.out) hb)
                          have n2_ := Aside0.mk (below_step (by repeat (first | (with_reducible first | exact HB.out | apply below_alloc | apply pw_below_drewN | apply below_drew1 | refine below_set ?_ GE268.out) | exact HB.out)) hb)
                          clear HO_22
                          clear BK268
                          clear HB
                          have HO_22 := n0_
                          have BK268 := n1_
                          have HB := n2_
                          clear n0_ n1_ n2_
                          (try clear hb)
                          (try clear hb2)
                          (try clear hk)
                          (try clear hi)
                          refine hK.out _ _ (HS0_) (fun hHeld => ?_)
                          clear hK K
                          refine norm_ (a' := ?_) ?_ ?_
                          rotate_left
                          · show Act.put _ (some 128) _ = _
                            simp only [Act.put, List.setIfInBounds_toArray, List.set_cons_zero, List.set_cons_succ, i64_w, i32_w]
                            rfl
                          refine pure_ (i := 16) (N := some 112) (v := ?_) (a' := ?_) #[true, true, true, true, true, true, true, true, true, true, true, true, true, true, true, true, true, false, false, false, false] rfl rfl (any_of HT_.out (by kernel_rfl)) (fun _ _ _ h => h) (Or.inl ⟨by rfl, ?_⟩) ?_ ?_
                          rotate_left
                          · intro w'
                            go_simp
                            with_reducible rfl
                          rotate_left
                          · simp only [Act.put, List.setIfInBounds_toArray, List.set_cons_zero, List.set_cons_succ, i64_w, i32_w]
                            rfl
                          refine pure_ (i := 17) (N := some 129) (v := ?_) (a' := ?_) #[true, true, true, true, true, true, true, true, true, true, true, true, true, true, true, true, true, true, false, false, false] rfl rfl (any_of HT_.out (by kernel_rfl)) (fun _ _ _ h => h) (Or.inl ⟨by rfl, ?_⟩) ?_ ?_
                          rotate_left
                          · intro w'
                            go_simp
                            with_reducible rfl
                          rotate_left
                          · simp only [Act.put, List.setIfInBounds_toArray, List.set_cons_zero, List.set_cons_succ, i64_w, i32_w]
                            rfl
                          refine pure_ (i := 18) (N := some 130) (v := ?_) (a' := ?_) #[true, true, true, true, true, true, true, true, true, true, true, true, true, true, true, true, true, true, true, false, false] rfl rfl (any_of HT_.out (by kernel_rfl)) (fun _ _ _ h => h) (Or.inl ⟨by rfl, ?_⟩) ?_ ?_
                          rotate_left
                          · intro w'
                            go_simp
                            with_reducible rfl
                          rotate_left
                          · simp only [Act.put, List.setIfInBounds_toArray, List.set_cons_zero, List.set_cons_succ, i64_w, i32_w]
                            rfl
                          refine pure_ (i := 19) (N := some 30) (v := ?_) (a' := ?_) #[true, true, true, true, true, true, true, true, true, true, true, true, true, true, true, true, true, true, true, true, false] rfl rfl (any_of HT_.out (by kernel_rfl)) (fun _ _ _ h => h) (Or.inl ⟨by rfl, ?_⟩) ?_ ?_
                          rotate_left
                          · intro w'
                            go_simp
                            with_reducible rfl
                          rotate_left
                          · simp only [Act.put, List.setIfInBounds_toArray, List.set_cons_zero, List.set_cons_succ, i64_w, i32_w]
                            rfl
                          refine pure_ (i := 20) (N := some 31) (v := ?_) (a' := ?_) #[true, true, true, true, true, true, true, true, true, true, true, true, true, true, true, true, true, true, true, true, true] rfl rfl (any_of HT_.out (by kernel_rfl)) (fun _ _ _ h => h) (Or.inl ⟨by rfl, ?_⟩) ?_ ?_
                          rotate_left
                          · intro w'
                            go_simp
                            with_reducible rfl
                          rotate_left
                          · simp only [Act.put, List.setIfInBounds_toArray, List.set_cons_zero, List.set_cons_succ, i64_w, i32_w]
                            rfl
                          refine done_ (done_of HT_.out (by kernel_rfl)) ?_
                          try go_wp2
                          go_roundg k2
                          case measure => have := HJ12.out; have := HK2.out; omega
                          case rel => exact ⟨(wrap64 (x23_2 + 1)), (by first | rfl | (simp; done) | (simp [*]; done)), H', ⟨by have := HJ12.out; have := HK2.out; omega⟩, ⟨by (with_reducible repeat (first | apply Kd.R_alloc | apply Kd.R_drewN | apply Kd.R_drew)); exact HO_22.out⟩, ⟨by (with_reducible repeat (first | refine blk_drewN ?_ _ | refine blk_drew ?_ | refine blk_alloc ?_ _)); exact BK268.out⟩, ⟨by repeat (first | (with_reducible first | exact HB.out | apply below_alloc | apply pw_below_drewN | apply below_drew1 | refine below_set ?_ GE268.out) | exact HB.out)⟩⟩
                      · rw [if_neg c62] at H
                        have c62b0 : (t307 == t321) = false := beq_eq_false_iff_ne.mpr c62
                        have c62b1 : (t307 != t321) = true := bne_iff_ne.mpr c62
                        exact absurd hr_.out (by rw [← Option.some.inj H]; decide)
                  · rw [if_neg c45] at H
                    have c45b0 : (t286 == t293) = false := beq_eq_false_iff_ne.mpr c45
                    have c45b1 : (t286 != t293) = true := bne_iff_ne.mpr c45
                    exact absurd hr_.out (by rw [← Option.some.inj H]; decide)
                · rw [if_neg c35] at H
                  exact absurd H (by simp)
              · rw [if_neg c33] at H
                have c33b0 : decide (x23_2 < (y278.length : Int)) = false := decide_eq_false c33
                clear c33
                obtain rfl := Option.some.inj H
                obtain ⟨Ao124, co124, eo124⟩ := Kd.R_slice HO_22.out
                subst eo124
                go_wp2
                go_ret
                exact ⟨by first | rfl | (simp [errW_none, errW_some] <;> rfl) | (simp only [← hji23, ← hji25]; first | rfl | (simp [errW_none, errW_some] <;> rfl)) | (simp [*, errW_none, errW_some] <;> rfl), by repeat (first | (with_reducible first | exact HB.out | apply below_alloc | apply pw_below_drewN | apply below_drew1 | refine below_set ?_ GE268.out) | exact HB.out)⟩
        · rw [if_neg c24] at H
          exact absurd H (by simp)
  · replace c11 := Bool.eq_false_iff.mpr c11
    subst c11
    have H1 : (some false) = some r := by rw [if_neg (show ¬ (false = true) by decide)] at H; exact H
    clear H
    have H := H1
    clear H1
    exact absurd hr_.out (by rw [← Option.some.inj H]; decide)
/-- THE ONE PURE STATEMENT of roundhouselaw5_CookieReads: yours. -/
def roundhouselaw5_CookieReads.Pure : Prop := ∀ (a0 : Int) (a1 : Int) (a2 : Bool) (a3 : Int) (a4 : Int) (a5 : Int) (a6 : Int) (a7 : Int) (a8 : Int), (Lit.int .i64 a0).wf = true → (Lit.int .i64 a1).wf = true → (Lit.int .i64 a3).wf = true → (Lit.int .i64 a4).wf = true → (Lit.int .i64 a5).wf = true → (Lit.int .i64 a6).wf = true → (Lit.int .i64 a7).wf = true → (Lit.int .i64 a8).wf = true → ∃ k, roundhouselaw5_CookieReads.f k a0 a1 a2 a3 a4 a5 a6 a7 a8 = some true
theorem roundhouselaw5_CookieReads.walk (P : roundhouselaw5_CookieReads.Pure) (a0 : Int) (a1 : Int) (a2 : Bool) (a3 : Int) (a4 : Int) (a5 : Int) (a6 : Int) (a7 : Int) (a8 : Int) (w : World) (w0 : (Lit.int .i64 a0).wf = true) (w1 : (Lit.int .i64 a1).wf = true) (w3 : (Lit.int .i64 a3).wf = true) (w4 : (Lit.int .i64 a4).wf = true) (w5 : (Lit.int .i64 a5).wf = true) (w6 : (Lit.int .i64 a6).wf = true) (w7 : (Lit.int .i64 a7).wf = true) (w8 : (Lit.int .i64 a8).wf = true) :
    Calls Try.prog 4 #[.int .i64 a0, .int .i64 a1, .bool a2, .int .i64 a3, .int .i64 a4, .int .i64 a5, .int .i64 a6, .int .i64 a7, .int .i64 a8] w fun e w' => e = .returned (.bool true) ∧ Below w.heap.size w w' := by
  obtain ⟨k, h⟩ := P a0 a1 a2 a3 a4 a5 a6 a7 a8 w0 w1 w3 w4 w5 w6 w7 w8
  refine (roundhouselaw5_CookieReads.calls k a0 a1 a2 a3 a4 a5 a6 a7 a8 true w h ⟨rfl⟩).mono ?_
  rintro e w' ⟨rfl, hd⟩
  exact ⟨rfl, hd⟩

end Go.Proofs.Ytnaplobnkmdfbaa.Q
