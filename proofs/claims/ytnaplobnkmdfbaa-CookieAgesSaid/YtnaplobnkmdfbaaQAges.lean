/- By a program of this session (wip/tools/myprint.py), out of the translation: for each Go function a plain Lean function, and that the call comes to what that function says; a law's row out of its plain statement. Lean checks it. -/
import Derived.Test.YtnaplobnkmdfbaaCookG
import Derived.Test.YtnaplobnkmdfbaaQ0
import Derived.Test.YtnaplobnkmdfbaaQ1
import Derived.Test.YtnaplobnkmdfbaaQ18
import Derived.Test.YtnaplobnkmdfbaaQ21
import Derived.Test.YtnaplobnkmdfbaaQ22
import Derived.Test.YtnaplobnkmdfbaaQ26
import Derived.Test.YtnaplobnkmdfbaaQ31
namespace Go.Proofs.Ytnaplobnkmdfbaa.Q
open Go.RowKit Go.Proofs.YtnaplobnkmdfbaaW.PrintWords Go.Proofs.YtnaplobnkmdfbaaW.PrintLast Go.Proofs.YtnaplobnkmdfbaaW.PrintMore
attribute [local go_sem] max2_int min2_int max_two min_two max_three min_three max_four min_four   -- for this text's walks alone
set_option linter.unusedVariables false
set_option linter.unusedSimpArgs false

open Go.Proofs.Ytnaplobnkmdfbaa.Own
attribute [local go_sem high] eqA25
/-! ### roundhouselaw5_CookieAges: function 5 -/
def roundhouselaw5_CookieAges.j0 : Nat → Int → Int → Int → Int → Int → Int → Int → Int → Int → Int → Int → Int → Option (Bool)
  | 0, _, _, _, _, _, _, _, _, _, _, _, _ => none
  | k + 1, x3, x4, x5, x6, x16, x333000, x333001, x333002, x333003, x333004, x333005, x333006 => (roundhouselaw5_within.f x5 64).bind fun t333 => ((roundhouselaw5_Flow.f x3 x4).bind fun bt334 => ((cookie_Make.f k x333000 x333001 x333002 x333003 x333004 x333005 x333006 x16 bt334.1 bt334.2.1 bt334.2.2.1 bt334.2.2.2 t333).bind fun t338 => ((roundhouselaw5_Key.f x6).bind fun bt339 => ((cookie_Next.f x333000 x333001 x333002 x333003 x333004 x333005 x333006 bt339.1 bt339.2).bind fun bt341 => ((roundhouselaw5_Flow.f x3 x4).bind fun bt349 => ((cookie_Read.f k bt341.1 bt341.2.1 bt341.2.2.1 bt341.2.2.2.1 bt341.2.2.2.2.1 bt341.2.2.2.2.2.1 bt341.2.2.2.2.2.2 x16 bt349.1 bt349.2.1 bt349.2.2.1 bt349.2.2.2 t338).bind fun bt353 => ((roundhouselaw5_Key.f x6).bind fun bt355 => ((roundhouselaw5_Flow.f x3 x4).bind fun bt358 => ((cookie_Read.f k (wrap64 (x333000 - 1)) bt355.1 bt355.2 x333001 x333002 x333003 x333004 x16 bt358.1 bt358.2.1 bt358.2.2.1 bt358.2.2.2 t338).bind fun bt362 => ((roundhouselaw5_Key.f (wrap64 (x6 + 1))).bind fun bt364 => ((cookie_Next.f bt341.1 bt341.2.1 bt341.2.2.1 bt341.2.2.2.1 bt341.2.2.2.2.1 bt341.2.2.2.2.2.1 bt341.2.2.2.2.2.2 bt364.1 bt364.2).bind fun bt366 => ((roundhouselaw5_Flow.f x3 x4).bind fun bt373 => ((cookie_Read.f k bt366.1 bt366.2.1 bt366.2.2.1 bt366.2.2.2.1 bt366.2.2.2.2.1 bt366.2.2.2.2.2.1 bt366.2.2.2.2.2.2 x16 bt373.1 bt373.2.1 bt373.2.2.1 bt373.2.2.2 t338).bind fun bt377 => (if bt353.2 = true then (if bt353.1 = t333 then (if bt362.2 = true then (if bt362.1 = t333 then (if bt377.2 = true then (some false) else (if bt341.1 = (wrap64 (x333000 + 1)) then (if (bt341.2.1 == x333003 && (bt341.2.2.1 == x333004)) = true then (if (bt341.2.2.2.1 == x333005 && (bt341.2.2.2.2.1 == x333006)) = true then ((roundhouselaw5_Key.f x6).bind fun bt379 => (some (bt341.2.2.2.2.2.1 == bt379.1 && (bt341.2.2.2.2.2.2 == bt379.2)))) else (some false)) else (some false)) else (some false))) else (some false)) else (some false)) else (some false)) else (some false)))))))))))))))
def roundhouselaw5_CookieAges.f (k : Nat) (a0 : Int) (a1 : Int) (a2 : Bool) (a3 : Int) (a4 : Int) (a5 : Int) (a6 : Int) : Option (Bool) := (roundhouselaw5_known.f k).bind fun t323 => (if t323 = true then ((roundhouselaw5_within.f a0 1048576).bind fun t324 => ((roundhouselaw5_Ring.f k (wrap64 (1 + t324)) a1).bind fun bt325 => (if a2 = true then (roundhouselaw5_CookieAges.j0 k a3 a4 a5 a6 1 bt325.1 bt325.2.1 bt325.2.2.1 bt325.2.2.2.1 bt325.2.2.2.2.1 bt325.2.2.2.2.2.1 bt325.2.2.2.2.2.2) else (roundhouselaw5_CookieAges.j0 k a3 a4 a5 a6 2 bt325.1 bt325.2.1 bt325.2.2.1 bt325.2.2.2.1 bt325.2.2.2.2.1 bt325.2.2.2.2.2.1 bt325.2.2.2.2.2.2)))) else (some false))
theorem roundhouselaw5_CookieAges.mono_l : ∀ k, (∀ y0 y1 y2 y3 y4 y5 y6 y7 y8 y9 y10 y11, LeO (roundhouselaw5_CookieAges.j0 k y0 y1 y2 y3 y4 y5 y6 y7 y8 y9 y10 y11) (roundhouselaw5_CookieAges.j0 (k + 1) y0 y1 y2 y3 y4 y5 y6 y7 y8 y9 y10 y11))
  | 0 => fun _ _ _ _ _ _ _ _ _ _ _ _ r h => by simp [roundhouselaw5_CookieAges.j0] at h
  | k + 1 => by
    have ih0 := roundhouselaw5_CookieAges.mono_l k
    · intro y0 y1 y2 y3 y4 y5 y6 y7 y8 y9 y10 y11
      unfold roundhouselaw5_CookieAges.j0
      repeat' first
      | (with_reducible exact ih0 _ _ _ _ _ _ _ _ _ _ _ _)
      | (with_reducible exact cookie_Make.mono _ _ _ _ _ _ _ _ _ _ _ _ _ _)
      | (with_reducible exact cookie_Read.mono _ _ _ _ _ _ _ _ _ _ _ _ _ _)
      | (with_reducible exact roundhouselaw5_Ring.mono _ _ _)
      | (with_reducible exact roundhouselaw5_known.mono _)
      | (with_reducible exact LeO.refl _)
      | (with_reducible exact LeO.none _)
      | (with_reducible refine LeO.ite ?_ ?_)
      | (with_reducible refine LeO.bind ?_ (fun _ => ?_))
      | exact ih0 _ _ _ _ _ _ _ _ _ _ _ _
      | exact cookie_Make.mono _ _ _ _ _ _ _ _ _ _ _ _ _ _
      | exact cookie_Read.mono _ _ _ _ _ _ _ _ _ _ _ _ _ _
      | exact roundhouselaw5_Ring.mono _ _ _
      | exact roundhouselaw5_known.mono _
      | exact LeO.none _
      | refine LeO.ite ?_ ?_
      | refine LeO.bind ?_ (fun _ => ?_)
theorem roundhouselaw5_CookieAges.mono : ∀ a0 a1 a2 a3 a4 a5 a6 k, LeO (roundhouselaw5_CookieAges.f k a0 a1 a2 a3 a4 a5 a6) (roundhouselaw5_CookieAges.f (k + 1) a0 a1 a2 a3 a4 a5 a6) := by
  intro a0 a1 a2 a3 a4 a5 a6 k
  have ih0 := roundhouselaw5_CookieAges.mono_l k
  unfold roundhouselaw5_CookieAges.f
  repeat' first
      | (with_reducible exact ih0 _ _ _ _ _ _ _ _ _ _ _ _)
      | (with_reducible exact cookie_Make.mono _ _ _ _ _ _ _ _ _ _ _ _ _ _)
      | (with_reducible exact cookie_Read.mono _ _ _ _ _ _ _ _ _ _ _ _ _ _)
      | (with_reducible exact roundhouselaw5_Ring.mono _ _ _)
      | (with_reducible exact roundhouselaw5_known.mono _)
      | (with_reducible exact LeO.refl _)
      | (with_reducible exact LeO.none _)
      | (with_reducible refine LeO.ite ?_ ?_)
      | (with_reducible refine LeO.bind ?_ (fun _ => ?_))
      | exact ih0 _ _ _ _ _ _ _ _ _ _ _ _
      | exact cookie_Make.mono _ _ _ _ _ _ _ _ _ _ _ _ _ _
      | exact cookie_Read.mono _ _ _ _ _ _ _ _ _ _ _ _ _ _
      | exact roundhouselaw5_Ring.mono _ _ _
      | exact roundhouselaw5_known.mono _
      | exact LeO.none _
      | refine LeO.ite ?_ ?_
      | refine LeO.bind ?_ (fun _ => ?_)
def roundhouselaw5_CookieAges.T8 : Bool × List (List Nat × List Nat) := (true, [([], []), ([], []), ([], []), ([], []), ([2, 3], [2, 3]), ([], []), ([0, 1, 4, 5, 4], [0, 1, 4, 5]), ([6, 6, 0, 1, 2, 3, 4, 5, 6], [6])])
def roundhouselaw5_CookieAges.B8 : List Nat := [0, 0, 0, 0, 12, 0, 63, 127]
theorem roundhouselaw5_CookieAges.tab8 : rtab .any (opsOf Try.f5 8) = roundhouselaw5_CookieAges.T8 := by kernel_rfl
theorem roundhouselaw5_CookieAges.bits8 : waitsOk roundhouselaw5_CookieAges.T8.2 roundhouselaw5_CookieAges.B8 = true := by kernel_rfl
def roundhouselaw5_CookieAges.T10 : Bool × List (List Nat × List Nat) := (true, [([], []), ([], []), ([], []), ([], []), ([2, 3], [2, 3]), ([], []), ([0, 1, 4, 5, 4], [0, 1, 4, 5]), ([6], [6]), ([7], [7]), ([7], [7]), ([8, 6, 0, 1, 2, 3, 4, 5, 6, 7, 8], [8]), ([9, 10, 0, 1, 2, 3, 4, 5, 6, 7, 8, 9, 10], [9])])
def roundhouselaw5_CookieAges.B10 : List Nat := [0, 0, 0, 0, 12, 0, 63, 127, 255, 255, 511, 2047]
theorem roundhouselaw5_CookieAges.tab10 : rtab .any (opsOf Try.f5 10) = roundhouselaw5_CookieAges.T10 := by kernel_rfl
theorem roundhouselaw5_CookieAges.bits10 : waitsOk roundhouselaw5_CookieAges.T10.2 roundhouselaw5_CookieAges.B10 = true := by kernel_rfl
def roundhouselaw5_CookieAges.T11 : Bool × List (List Nat × List Nat) := (true, [([], []), ([0], [0]), ([1], [1]), ([], []), ([3], [3]), ([], []), ([5], [5]), ([], []), ([7], [7]), ([2, 4, 6, 8], [2, 4, 6, 8]), ([], []), ([10, 9, 4, 0, 1, 2, 3, 4, 5, 6, 7, 8, 9, 10], [9, 10])])
def roundhouselaw5_CookieAges.B11 : List Nat := [0, 1, 3, 0, 8, 0, 32, 0, 128, 511, 0, 2047]
theorem roundhouselaw5_CookieAges.tab11 : rtab .any (opsOf Try.f5 11) = roundhouselaw5_CookieAges.T11 := by kernel_rfl
theorem roundhouselaw5_CookieAges.bits11 : waitsOk roundhouselaw5_CookieAges.T11.2 roundhouselaw5_CookieAges.B11 = true := by kernel_rfl
def roundhouselaw5_CookieAges.T12 : Bool × List (List Nat × List Nat) := (true, [([], []), ([], []), ([], []), ([], []), ([2, 3], [2, 3]), ([], []), ([0, 1, 4, 5, 4], [0, 1, 4, 5]), ([6], [6]), ([7], [7]), ([7], [7]), ([8, 6, 0, 1, 2, 3, 4, 5, 6, 7, 8], [8]), ([9, 10, 0, 1, 2, 3, 4, 5, 6, 7, 8, 9, 10], [9])])
def roundhouselaw5_CookieAges.B12 : List Nat := [0, 0, 0, 0, 12, 0, 63, 127, 255, 255, 511, 2047]
theorem roundhouselaw5_CookieAges.tab12 : rtab .any (opsOf Try.f5 12) = roundhouselaw5_CookieAges.T12 := by kernel_rfl
theorem roundhouselaw5_CookieAges.bits12 : waitsOk roundhouselaw5_CookieAges.T12.2 roundhouselaw5_CookieAges.B12 = true := by kernel_rfl
def roundhouselaw5_CookieAges.T13 : Bool × List (List Nat × List Nat) := (true, [([], []), ([], []), ([1], [1]), ([2], [2]), ([0, 3, 3], [0, 3]), ([], []), ([], []), ([], []), ([6, 7, 4], [6, 7]), ([], []), ([4, 5, 8, 9, 8], [4, 5, 8, 9]), ([10], [10]), ([11], [11]), ([11], [11]), ([12, 10, 0, 1, 2, 3, 4, 5, 6, 7, 8, 9, 10, 11, 12], [12]), ([13, 14, 0, 1, 2, 3, 4, 5, 6, 7, 8, 9, 10, 11, 12, 13, 14], [13])])
def roundhouselaw5_CookieAges.B13 : List Nat := [0, 0, 2, 6, 15, 0, 0, 0, 223, 0, 1023, 2047, 4095, 4095, 8191, 32767]
theorem roundhouselaw5_CookieAges.tab13 : rtab .any (opsOf Try.f5 13) = roundhouselaw5_CookieAges.T13 := by kernel_rfl
theorem roundhouselaw5_CookieAges.bits13 : waitsOk roundhouselaw5_CookieAges.T13.2 roundhouselaw5_CookieAges.B13 = true := by kernel_rfl
def roundhouselaw5_CookieAges.T14 : Bool × List (List Nat × List Nat) := (true, [([], []), ([0], [0]), ([1], [1]), ([1], [1]), ([2, 3, 1], [1, 2, 3]), ([1, 4], [1, 4]), ([5, 1], [5]), ([6], [6]), ([6, 7], [6, 7]), ([8, 6], [8]), ([9], [9]), ([9], [9]), ([10, 11, 9], [9, 10, 11]), ([9, 12], [9, 12]), ([13, 9], [13]), ([14], [14]), ([15, 14], [14, 15]), ([14, 16], [14, 16]), ([17, 14], [17]), ([18], [18]), ([19, 18], [18, 19]), ([18], [18]), ([21, 18], [18, 21]), ([22, 18], [18, 22]), ([20, 23, 18], [18, 20, 23]), ([18, 24], [18, 24]), ([25, 18], [25]), ([26], [26]), ([27, 26], [26, 27]), ([26], [26]), ([29, 26], [26, 29]), ([28, 30, 26], [26, 28, 30]), ([26, 31], [26, 31]), ([32, 26], [32]), ([33], [33]), ([34, 33], [33, 34]), ([33], [33]), ([36, 33], [33, 36]), ([35, 37, 33], [33, 35, 37]), ([33, 38], [33, 38]), ([39, 33], [39]), ([40], [40]), ([41, 40], [40, 41]), ([40], [40]), ([43, 40, 40], [40, 43]), ([42, 44, 40], [40, 42, 44]), ([40, 45], [40, 45]), ([46, 44, 0, 1, 2, 3, 4, 5, 6, 7, 8, 9, 10, 11, 12, 13, 14, 15, 16, 17, 18, 19, 20, 21, 22, 23, 24, 25, 26, 27, 28, 29, 30, 31, 32, 33, 34, 35, 36, 37, 38, 39, 40, 41, 42, 43, 44, 45, 46], [46])])
def roundhouselaw5_CookieAges.B14 : List Nat := [0, 1, 3, 3, 15, 31, 63, 127, 255, 511, 1023, 1023, 4095, 8191, 16383, 32767, 65535, 131071, 262143, 524287, 1048575, 524287, 2621439, 6815743, 16777215, 33554431, 67108863, 134217727, 268435455, 134217727, 671088639, 2147483647, 4294967295, 8589934591, 17179869183, 34359738367, 17179869183, 85899345919, 274877906943, 549755813887, 1099511627775, 2199023255551, 4398046511103, 2199023255551, 10995116277759, 35184372088831, 70368744177663, 140737488355327]
theorem roundhouselaw5_CookieAges.tab14 : rtab .any (opsOf Try.f5 14) = roundhouselaw5_CookieAges.T14 := by kernel_rfl
theorem roundhouselaw5_CookieAges.bits14 : waitsOk roundhouselaw5_CookieAges.T14.2 roundhouselaw5_CookieAges.B14 = true := by kernel_rfl
set_option maxHeartbeats 8000000 in
set_option maxRecDepth 100000 in
theorem roundhouselaw5_CookieAges.calls (k : Nat) (a0 : Int) (a1 : Int) (a2 : Bool) (a3 : Int) (a4 : Int) (a5 : Int) (a6 : Int) (r : Bool) (w : World) (h : roundhouselaw5_CookieAges.f k a0 a1 a2 a3 a4 a5 a6 = some r) (hr_ : Aside0 (r = true)) :
    Calls Try.prog 5 #[.int .i64 a0, .int .i64 a1, .bool a2, .int .i64 a3, .int .i64 a4, .int .i64 a5, .int .i64 a6] w fun e w' => e = .returned (.bool r) ∧ Below w.heap.size w w' := by
  have hu27 := Try.underlying27
  have hu25 := Try.underlying25
  have HB := Aside0.mk (Below.refl w.heap.size w)
  have H : ((roundhouselaw5_known.f k).bind fun t323 => (if t323 = true then ((roundhouselaw5_within.f a0 1048576).bind fun t324 => ((roundhouselaw5_Ring.f k (wrap64 (1 + t324)) a1).bind fun bt325 => (if a2 = true then (roundhouselaw5_CookieAges.j0 k a3 a4 a5 a6 1 bt325.1 bt325.2.1 bt325.2.2.1 bt325.2.2.2.1 bt325.2.2.2.2.1 bt325.2.2.2.2.2.1 bt325.2.2.2.2.2.2) else (roundhouselaw5_CookieAges.j0 k a3 a4 a5 a6 2 bt325.1 bt325.2.1 bt325.2.2.1 bt325.2.2.2.1 bt325.2.2.2.2.1 bt325.2.2.2.2.2.1 bt325.2.2.2.2.2.2)))) else (some false))) = some r := h
  clear h
  replace H := Option.bind_eq_some_iff.mp H
  obtain ⟨t323, A80, H⟩ := H
  replace H : (if t323 = true then ((roundhouselaw5_within.f a0 1048576).bind fun t324 => ((roundhouselaw5_Ring.f k (wrap64 (1 + t324)) a1).bind fun bt325 => (if a2 = true then (roundhouselaw5_CookieAges.j0 k a3 a4 a5 a6 1 bt325.1 bt325.2.1 bt325.2.2.1 bt325.2.2.2.1 bt325.2.2.2.2.1 bt325.2.2.2.2.2.1 bt325.2.2.2.2.2.2) else (roundhouselaw5_CookieAges.j0 k a3 a4 a5 a6 2 bt325.1 bt325.2.1 bt325.2.2.1 bt325.2.2.2.1 bt325.2.2.2.2.1 bt325.2.2.2.2.2.1 bt325.2.2.2.2.2.2)))) else (some false)) = some r := H
  have A8 := Aside0.mk A80
  clear A80
  by_cases c9 : t323 = true
  · subst c9
    have H1 : ((roundhouselaw5_within.f a0 1048576).bind fun t324 => ((roundhouselaw5_Ring.f k (wrap64 (1 + t324)) a1).bind fun bt325 => (if a2 = true then (roundhouselaw5_CookieAges.j0 k a3 a4 a5 a6 1 bt325.1 bt325.2.1 bt325.2.2.1 bt325.2.2.2.1 bt325.2.2.2.2.1 bt325.2.2.2.2.2.1 bt325.2.2.2.2.2.2) else (roundhouselaw5_CookieAges.j0 k a3 a4 a5 a6 2 bt325.1 bt325.2.1 bt325.2.2.1 bt325.2.2.2.1 bt325.2.2.2.2.1 bt325.2.2.2.2.2.1 bt325.2.2.2.2.2.2)))) = some r := by rw [if_pos rfl] at H; exact H
    clear H
    have H := H1
    clear H1
    replace H := Option.bind_eq_some_iff.mp H
    obtain ⟨t324, A100, H⟩ := H
    replace H : ((roundhouselaw5_Ring.f k (wrap64 (1 + t324)) a1).bind fun bt325 => (if a2 = true then (roundhouselaw5_CookieAges.j0 k a3 a4 a5 a6 1 bt325.1 bt325.2.1 bt325.2.2.1 bt325.2.2.2.1 bt325.2.2.2.2.1 bt325.2.2.2.2.2.1 bt325.2.2.2.2.2.2) else (roundhouselaw5_CookieAges.j0 k a3 a4 a5 a6 2 bt325.1 bt325.2.1 bt325.2.2.1 bt325.2.2.2.1 bt325.2.2.2.2.1 bt325.2.2.2.2.2.1 bt325.2.2.2.2.2.2))) = some r := H
    have A10 := Aside0.mk A100
    clear A100
    replace H := Option.bind_eq_some_iff.mp H
    obtain ⟨⟨t325, t326, t327, t328, t329, t330, t331⟩, A110, H⟩ := H
    replace H : (if a2 = true then (roundhouselaw5_CookieAges.j0 k a3 a4 a5 a6 1 t325 t326 t327 t328 t329 t330 t331) else (roundhouselaw5_CookieAges.j0 k a3 a4 a5 a6 2 t325 t326 t327 t328 t329 t330 t331)) = some r := H
    have A11 := Aside0.mk A110
    clear A110
    have HC12 := Aside0.mk H
    clear H
    go_enter Try.func5, Try.ntmps5
    go_upto_if 34 with (first | ((with_reducible refine gate_callee (f := 16) rfl ?_); refine goesL_ (some 27) rfl rfl Try.func16 (by kernel_rfl) rfl #[] rfl (by (try simp only [List.map_toArray, List.map_cons, List.map_nil]); first | done | rfl | (simp only [List.length_drop, List.length_take]; rfl)) ?_; (with_reducible refine (roundhouselaw5_known.calls k  true _ A8.out).mono ?_); rintro e w13 ⟨rfl, hb⟩; refine ⟨_, rfl, ?_⟩; have n0_ := Aside0.mk (below_step (by repeat (first | (with_reducible first | exact HB.out | apply below_alloc | apply pw_below_drewN | apply below_drew1) | exact HB.out)) hb); clear HB; have HB := n0_; clear n0_; (try clear hb); (try clear hb2); (try clear hk); (try clear hi)) | ((with_reducible refine gate_callee (f := 18) rfl ?_); refine goesL_ (some 30) rfl rfl Try.func18 (by kernel_rfl) rfl #[.int .i64 a0, .int .i64 1048576] rfl (by (try simp only [List.map_toArray, List.map_cons, List.map_nil]); first | done | rfl | (simp only [List.length_drop, List.length_take]; rfl)) ?_; (with_reducible refine (roundhouselaw5_within.calls a0 1048576 t324 _ A10.out).mono ?_); rintro e w' ⟨rfl, ⟨nd, rfl⟩⟩; refine ⟨_, rfl, ?_⟩; (try (rw [drewN_self w13]; generalize hq_ : World.drewN w13 _ = w13; have n0_ : Aside0 (Below w.heap.size w w13) := ⟨by rw [← hq_]; exact (by repeat (first | (with_reducible first | exact HB.out | apply below_alloc | apply pw_below_drewN | apply below_drew1) | exact HB.out))⟩; clear HB hq_; have HB := n0_; clear n0_))) | ((with_reducible refine gate_callee (f := 17) rfl ?_); refine goesL_ (some 33) rfl rfl Try.func17 (by kernel_rfl) rfl #[.int .i64 (wrap64 (1 + t324)), .int .i64 a1] rfl (by (try simp only [List.map_toArray, List.map_cons, List.map_nil]); first | done | rfl | (simp only [List.length_drop, List.length_take]; rfl)) ?_; (with_reducible refine (roundhouselaw5_Ring.calls k (wrap64 (1 + t324)) a1 t325 t326 t327 t328 t329 t330 t331 _ A11.out).mono ?_); rintro e w14 ⟨rfl, hb⟩; refine ⟨_, rfl, ?_⟩; have n0_ := Aside0.mk (below_step (by repeat (first | (with_reducible first | exact HB.out | apply below_alloc | apply pw_below_drewN | apply below_drew1) | exact HB.out)) hb); clear HB; have HB := n0_; clear n0_; (try clear hb); (try clear hb2); (try clear hk); (try clear hi)) | ((with_reducible refine gate_dst (N := 15) rfl ?_); refine box_event ?hg (N := 15) ?hd (cs := #[.int .i64 0, .int .u64 0, .int .u64 0, .int .u64 0, .int .u64 0, .int .u64 0, .int .u64 0]) (t := 27) ?hr ?_; (case hd => rfl); (case hg => rfl); (case hr => first | (go_simp; done) | (go_simp; rfl)); intro gb332 hg w15 hbox hb; have n0_ := Aside0.mk (below_step (by repeat (first | (with_reducible first | exact HB.out | apply below_alloc | apply pw_below_drewN | apply below_drew1) | exact HB.out)) hb); have n1_ := Aside0.mk (hbox); have n2_ := Aside0.mk ((by rw [hg]; exact (below_size (by repeat (first | (with_reducible first | exact HB.out | apply below_alloc | apply pw_below_drewN | apply below_drew1) | exact HB.out))) : w.heap.size ≤ gb332)); have n3_ := Aside0.mk ((by rw [hg]; exact (below_size (by repeat (first | (with_reducible first | exact HB.out | apply below_alloc | apply pw_below_drewN | apply below_drew1) | exact HB.out))) : w.heap.size ≤ gb332)); clear HB; have HB := n0_; have BK332 := n1_; have GW332 := n2_; have GE332 := n3_; clear n0_ n1_ n2_ n3_; clear hb hbox hg; have hcz16_0 : w15.cell? ⟨gb332, 0, none⟩ = some (.int .i64 0) := (blk_cell BK332.out 0).trans rfl; have hcz16_1 : w15.cell? ⟨gb332, 1, none⟩ = some (.int .u64 0) := (blk_cell BK332.out 1).trans rfl; have hcz16_2 : w15.cell? ⟨gb332, 2, none⟩ = some (.int .u64 0) := (blk_cell BK332.out 2).trans rfl; have hcz16_3 : w15.cell? ⟨gb332, 3, none⟩ = some (.int .u64 0) := (blk_cell BK332.out 3).trans rfl; have hcz16_4 : w15.cell? ⟨gb332, 4, none⟩ = some (.int .u64 0) := (blk_cell BK332.out 4).trans rfl; have hcz16_5 : w15.cell? ⟨gb332, 5, none⟩ = some (.int .u64 0) := (blk_cell BK332.out 5).trans rfl; have hcz16_6 : w15.cell? ⟨gb332, 6, none⟩ = some (.int .u64 0) := (blk_cell BK332.out 6).trans rfl; have hfz16_0 := blk_frozen BK332.out 0; have hfz16_1 := blk_frozen BK332.out 1; have hfz16_2 := blk_frozen BK332.out 2; have hfz16_3 := blk_frozen BK332.out 3; have hfz16_4 := blk_frozen BK332.out 4; have hfz16_5 := blk_frozen BK332.out 5; have hfz16_6 := blk_frozen BK332.out 6))
    (try simp only [Act.put, List.setIfInBounds_toArray, List.set_cons_zero, List.set_cons_succ])
    go_cut [16] (fun v16 wc => ∃ (kq : Nat) (x16_11 : Int), v16 = .int .i64 x16_11 ∧ Aside0 (roundhouselaw5_CookieAges.j0 kq a3 a4 a5 a6 x16_11 t325 t326 t327 t328 t329 t330 t331 = some r) ∧ Aside0 (kq ≤ k) ∧ Aside0 (wc.heap[gb332]? = some (.cells #[.int .i64 t325, .int .u64 t326, .int .u64 t327, .int .u64 t328, .int .u64 t329, .int .u64 t330, .int .u64 t331] 27 (0, 0))) ∧ Aside0 (Below w.heap.size w wc))
    case first =>
      have H := HC12.out
      clear HC12
      by_cases c17 : a2 = true
      · subst c17
        have H1 : (roundhouselaw5_CookieAges.j0 k a3 a4 a5 a6 1 t325 t326 t327 t328 t329 t330 t331) = some r := by rw [if_pos rfl] at H; exact H
        clear H
        have H := H1
        clear H1
        have H' := Aside0.mk H
        clear H
        go_wp2
        go_meet
        case rel => exact ⟨_, (1), (by first | rfl | (simp; done) | (simp [*]; done)), H', ⟨by first | omega | exact Nat.le_refl _⟩, ⟨by (with_reducible repeat (first | refine blk_drewN ?_ _ | refine blk_drew ?_ | refine blk_alloc ?_ _)); refine blk_put (cs := #[.int .i64 t325, .int .u64 t326, .int .u64 t327, .int .u64 t328, .int .u64 t329, .int .u64 t330, .int .u64 0]) ?_ 6 _ rfl; (with_reducible repeat (first | refine blk_drewN ?_ _ | refine blk_drew ?_ | refine blk_alloc ?_ _)); refine blk_put (cs := #[.int .i64 t325, .int .u64 t326, .int .u64 t327, .int .u64 t328, .int .u64 t329, .int .u64 0, .int .u64 0]) ?_ 5 _ rfl; (with_reducible repeat (first | refine blk_drewN ?_ _ | refine blk_drew ?_ | refine blk_alloc ?_ _)); refine blk_put (cs := #[.int .i64 t325, .int .u64 t326, .int .u64 t327, .int .u64 t328, .int .u64 0, .int .u64 0, .int .u64 0]) ?_ 4 _ rfl; (with_reducible repeat (first | refine blk_drewN ?_ _ | refine blk_drew ?_ | refine blk_alloc ?_ _)); refine blk_put (cs := #[.int .i64 t325, .int .u64 t326, .int .u64 t327, .int .u64 0, .int .u64 0, .int .u64 0, .int .u64 0]) ?_ 3 _ rfl; (with_reducible repeat (first | refine blk_drewN ?_ _ | refine blk_drew ?_ | refine blk_alloc ?_ _)); refine blk_put (cs := #[.int .i64 t325, .int .u64 t326, .int .u64 0, .int .u64 0, .int .u64 0, .int .u64 0, .int .u64 0]) ?_ 2 _ rfl; (with_reducible repeat (first | refine blk_drewN ?_ _ | refine blk_drew ?_ | refine blk_alloc ?_ _)); refine blk_put (cs := #[.int .i64 t325, .int .u64 0, .int .u64 0, .int .u64 0, .int .u64 0, .int .u64 0, .int .u64 0]) ?_ 1 _ rfl; (with_reducible repeat (first | refine blk_drewN ?_ _ | refine blk_drew ?_ | refine blk_alloc ?_ _)); refine blk_put (cs := #[.int .i64 0, .int .u64 0, .int .u64 0, .int .u64 0, .int .u64 0, .int .u64 0, .int .u64 0]) ?_ 0 _ rfl; (with_reducible repeat (first | refine blk_drewN ?_ _ | refine blk_drew ?_ | refine blk_alloc ?_ _)); exact BK332.out⟩, ⟨by repeat (first | (with_reducible first | exact HB.out | apply below_alloc | apply pw_below_drewN | apply below_drew1 | refine below_set ?_ GE332.out) | exact HB.out)⟩⟩
      · replace c17 := Bool.eq_false_iff.mpr c17
        subst c17
        have H1 : (roundhouselaw5_CookieAges.j0 k a3 a4 a5 a6 2 t325 t326 t327 t328 t329 t330 t331) = some r := by rw [if_neg (show ¬ (false = true) by decide)] at H; exact H
        clear H
        have H := H1
        clear H1
        have H' := Aside0.mk H
        clear H
        go_wp2
        go_meet
        case rel => exact ⟨_, (2), (by first | rfl | (simp; done) | (simp [*]; done)), H', ⟨by first | omega | exact Nat.le_refl _⟩, ⟨by (with_reducible repeat (first | refine blk_drewN ?_ _ | refine blk_drew ?_ | refine blk_alloc ?_ _)); refine blk_put (cs := #[.int .i64 t325, .int .u64 t326, .int .u64 t327, .int .u64 t328, .int .u64 t329, .int .u64 t330, .int .u64 0]) ?_ 6 _ rfl; (with_reducible repeat (first | refine blk_drewN ?_ _ | refine blk_drew ?_ | refine blk_alloc ?_ _)); refine blk_put (cs := #[.int .i64 t325, .int .u64 t326, .int .u64 t327, .int .u64 t328, .int .u64 t329, .int .u64 0, .int .u64 0]) ?_ 5 _ rfl; (with_reducible repeat (first | refine blk_drewN ?_ _ | refine blk_drew ?_ | refine blk_alloc ?_ _)); refine blk_put (cs := #[.int .i64 t325, .int .u64 t326, .int .u64 t327, .int .u64 t328, .int .u64 0, .int .u64 0, .int .u64 0]) ?_ 4 _ rfl; (with_reducible repeat (first | refine blk_drewN ?_ _ | refine blk_drew ?_ | refine blk_alloc ?_ _)); refine blk_put (cs := #[.int .i64 t325, .int .u64 t326, .int .u64 t327, .int .u64 0, .int .u64 0, .int .u64 0, .int .u64 0]) ?_ 3 _ rfl; (with_reducible repeat (first | refine blk_drewN ?_ _ | refine blk_drew ?_ | refine blk_alloc ?_ _)); refine blk_put (cs := #[.int .i64 t325, .int .u64 t326, .int .u64 0, .int .u64 0, .int .u64 0, .int .u64 0, .int .u64 0]) ?_ 2 _ rfl; (with_reducible repeat (first | refine blk_drewN ?_ _ | refine blk_drew ?_ | refine blk_alloc ?_ _)); refine blk_put (cs := #[.int .i64 t325, .int .u64 0, .int .u64 0, .int .u64 0, .int .u64 0, .int .u64 0, .int .u64 0]) ?_ 1 _ rfl; (with_reducible repeat (first | refine blk_drewN ?_ _ | refine blk_drew ?_ | refine blk_alloc ?_ _)); refine blk_put (cs := #[.int .i64 0, .int .u64 0, .int .u64 0, .int .u64 0, .int .u64 0, .int .u64 0, .int .u64 0]) ?_ 0 _ rfl; (with_reducible repeat (first | refine blk_drewN ?_ _ | refine blk_drew ?_ | refine blk_alloc ?_ _)); exact BK332.out⟩, ⟨by repeat (first | (with_reducible first | exact HB.out | apply below_alloc | apply pw_below_drewN | apply below_drew1 | refine below_set ?_ GE332.out) | exact HB.out)⟩⟩
    case rest =>
      clear HC12
      try clear c1
      try clear p2
      try clear c5
      try clear p6
      try clear c9
      try clear c16
      try clear c17
      try clear hcz16_0
      try clear hcz16_1
      try clear hcz16_2
      try clear hcz16_3
      try clear hcz16_4
      try clear hcz16_5
      try clear hcz16_6
      try clear hfz16_0
      try clear hfz16_1
      try clear hfz16_2
      try clear hfz16_3
      try clear hfz16_4
      try clear hfz16_5
      try clear hfz16_6
      obtain ⟨kq, x16_11, rfl, HA, HJ11, BK332, HB⟩ := hcut
      cases kq with
      | zero => exact absurd HA.out (by simp [roundhouselaw5_CookieAges.j0])
      | succ kj11 =>
        have H := HA.out
        clear HA
        simp only [roundhouselaw5_CookieAges.j0] at H
        replace H := Option.bind_eq_some_iff.mp H
        obtain ⟨t333, A180, H⟩ := H
        replace H : ((roundhouselaw5_Flow.f a3 a4).bind fun bt334 => ((cookie_Make.f kj11 t325 t326 t327 t328 t329 t330 t331 x16_11 bt334.1 bt334.2.1 bt334.2.2.1 bt334.2.2.2 t333).bind fun t338 => ((roundhouselaw5_Key.f a6).bind fun bt339 => ((cookie_Next.f t325 t326 t327 t328 t329 t330 t331 bt339.1 bt339.2).bind fun bt341 => ((roundhouselaw5_Flow.f a3 a4).bind fun bt349 => ((cookie_Read.f kj11 bt341.1 bt341.2.1 bt341.2.2.1 bt341.2.2.2.1 bt341.2.2.2.2.1 bt341.2.2.2.2.2.1 bt341.2.2.2.2.2.2 x16_11 bt349.1 bt349.2.1 bt349.2.2.1 bt349.2.2.2 t338).bind fun bt353 => ((roundhouselaw5_Key.f a6).bind fun bt355 => ((roundhouselaw5_Flow.f a3 a4).bind fun bt358 => ((cookie_Read.f kj11 (wrap64 (t325 - 1)) bt355.1 bt355.2 t326 t327 t328 t329 x16_11 bt358.1 bt358.2.1 bt358.2.2.1 bt358.2.2.2 t338).bind fun bt362 => ((roundhouselaw5_Key.f (wrap64 (a6 + 1))).bind fun bt364 => ((cookie_Next.f bt341.1 bt341.2.1 bt341.2.2.1 bt341.2.2.2.1 bt341.2.2.2.2.1 bt341.2.2.2.2.2.1 bt341.2.2.2.2.2.2 bt364.1 bt364.2).bind fun bt366 => ((roundhouselaw5_Flow.f a3 a4).bind fun bt373 => ((cookie_Read.f kj11 bt366.1 bt366.2.1 bt366.2.2.1 bt366.2.2.2.1 bt366.2.2.2.2.1 bt366.2.2.2.2.2.1 bt366.2.2.2.2.2.2 x16_11 bt373.1 bt373.2.1 bt373.2.2.1 bt373.2.2.2 t338).bind fun bt377 => (if bt353.2 = true then (if bt353.1 = t333 then (if bt362.2 = true then (if bt362.1 = t333 then (if bt377.2 = true then (some false) else (if bt341.1 = (wrap64 (t325 + 1)) then (if (bt341.2.1 == t328 && (bt341.2.2.1 == t329)) = true then (if (bt341.2.2.2.1 == t330 && (bt341.2.2.2.2.1 == t331)) = true then ((roundhouselaw5_Key.f a6).bind fun bt379 => (some (bt341.2.2.2.2.2.1 == bt379.1 && (bt341.2.2.2.2.2.2 == bt379.2)))) else (some false)) else (some false)) else (some false))) else (some false)) else (some false)) else (some false)) else (some false))))))))))))))) = some r := H
        have A18 := Aside0.mk A180
        clear A180
        replace H := Option.bind_eq_some_iff.mp H
        obtain ⟨⟨t334, t335, t336, t337⟩, A190, H⟩ := H
        replace H : ((cookie_Make.f kj11 t325 t326 t327 t328 t329 t330 t331 x16_11 t334 t335 t336 t337 t333).bind fun t338 => ((roundhouselaw5_Key.f a6).bind fun bt339 => ((cookie_Next.f t325 t326 t327 t328 t329 t330 t331 bt339.1 bt339.2).bind fun bt341 => ((roundhouselaw5_Flow.f a3 a4).bind fun bt349 => ((cookie_Read.f kj11 bt341.1 bt341.2.1 bt341.2.2.1 bt341.2.2.2.1 bt341.2.2.2.2.1 bt341.2.2.2.2.2.1 bt341.2.2.2.2.2.2 x16_11 bt349.1 bt349.2.1 bt349.2.2.1 bt349.2.2.2 t338).bind fun bt353 => ((roundhouselaw5_Key.f a6).bind fun bt355 => ((roundhouselaw5_Flow.f a3 a4).bind fun bt358 => ((cookie_Read.f kj11 (wrap64 (t325 - 1)) bt355.1 bt355.2 t326 t327 t328 t329 x16_11 bt358.1 bt358.2.1 bt358.2.2.1 bt358.2.2.2 t338).bind fun bt362 => ((roundhouselaw5_Key.f (wrap64 (a6 + 1))).bind fun bt364 => ((cookie_Next.f bt341.1 bt341.2.1 bt341.2.2.1 bt341.2.2.2.1 bt341.2.2.2.2.1 bt341.2.2.2.2.2.1 bt341.2.2.2.2.2.2 bt364.1 bt364.2).bind fun bt366 => ((roundhouselaw5_Flow.f a3 a4).bind fun bt373 => ((cookie_Read.f kj11 bt366.1 bt366.2.1 bt366.2.2.1 bt366.2.2.2.1 bt366.2.2.2.2.1 bt366.2.2.2.2.2.1 bt366.2.2.2.2.2.2 x16_11 bt373.1 bt373.2.1 bt373.2.2.1 bt373.2.2.2 t338).bind fun bt377 => (if bt353.2 = true then (if bt353.1 = t333 then (if bt362.2 = true then (if bt362.1 = t333 then (if bt377.2 = true then (some false) else (if bt341.1 = (wrap64 (t325 + 1)) then (if (bt341.2.1 == t328 && (bt341.2.2.1 == t329)) = true then (if (bt341.2.2.2.1 == t330 && (bt341.2.2.2.2.1 == t331)) = true then ((roundhouselaw5_Key.f a6).bind fun bt379 => (some (bt341.2.2.2.2.2.1 == bt379.1 && (bt341.2.2.2.2.2.2 == bt379.2)))) else (some false)) else (some false)) else (some false))) else (some false)) else (some false)) else (some false)) else (some false)))))))))))))) = some r := H
        have A19 := Aside0.mk A190
        clear A190
        replace H := Option.bind_eq_some_iff.mp H
        obtain ⟨t338, A200, H⟩ := H
        replace H : ((roundhouselaw5_Key.f a6).bind fun bt339 => ((cookie_Next.f t325 t326 t327 t328 t329 t330 t331 bt339.1 bt339.2).bind fun bt341 => ((roundhouselaw5_Flow.f a3 a4).bind fun bt349 => ((cookie_Read.f kj11 bt341.1 bt341.2.1 bt341.2.2.1 bt341.2.2.2.1 bt341.2.2.2.2.1 bt341.2.2.2.2.2.1 bt341.2.2.2.2.2.2 x16_11 bt349.1 bt349.2.1 bt349.2.2.1 bt349.2.2.2 t338).bind fun bt353 => ((roundhouselaw5_Key.f a6).bind fun bt355 => ((roundhouselaw5_Flow.f a3 a4).bind fun bt358 => ((cookie_Read.f kj11 (wrap64 (t325 - 1)) bt355.1 bt355.2 t326 t327 t328 t329 x16_11 bt358.1 bt358.2.1 bt358.2.2.1 bt358.2.2.2 t338).bind fun bt362 => ((roundhouselaw5_Key.f (wrap64 (a6 + 1))).bind fun bt364 => ((cookie_Next.f bt341.1 bt341.2.1 bt341.2.2.1 bt341.2.2.2.1 bt341.2.2.2.2.1 bt341.2.2.2.2.2.1 bt341.2.2.2.2.2.2 bt364.1 bt364.2).bind fun bt366 => ((roundhouselaw5_Flow.f a3 a4).bind fun bt373 => ((cookie_Read.f kj11 bt366.1 bt366.2.1 bt366.2.2.1 bt366.2.2.2.1 bt366.2.2.2.2.1 bt366.2.2.2.2.2.1 bt366.2.2.2.2.2.2 x16_11 bt373.1 bt373.2.1 bt373.2.2.1 bt373.2.2.2 t338).bind fun bt377 => (if bt353.2 = true then (if bt353.1 = t333 then (if bt362.2 = true then (if bt362.1 = t333 then (if bt377.2 = true then (some false) else (if bt341.1 = (wrap64 (t325 + 1)) then (if (bt341.2.1 == t328 && (bt341.2.2.1 == t329)) = true then (if (bt341.2.2.2.1 == t330 && (bt341.2.2.2.2.1 == t331)) = true then ((roundhouselaw5_Key.f a6).bind fun bt379 => (some (bt341.2.2.2.2.2.1 == bt379.1 && (bt341.2.2.2.2.2.2 == bt379.2)))) else (some false)) else (some false)) else (some false))) else (some false)) else (some false)) else (some false)) else (some false))))))))))))) = some r := H
        have A20 := Aside0.mk A200
        clear A200
        replace H := Option.bind_eq_some_iff.mp H
        obtain ⟨⟨t339, t340⟩, A210, H⟩ := H
        replace H : ((cookie_Next.f t325 t326 t327 t328 t329 t330 t331 t339 t340).bind fun bt341 => ((roundhouselaw5_Flow.f a3 a4).bind fun bt349 => ((cookie_Read.f kj11 bt341.1 bt341.2.1 bt341.2.2.1 bt341.2.2.2.1 bt341.2.2.2.2.1 bt341.2.2.2.2.2.1 bt341.2.2.2.2.2.2 x16_11 bt349.1 bt349.2.1 bt349.2.2.1 bt349.2.2.2 t338).bind fun bt353 => ((roundhouselaw5_Key.f a6).bind fun bt355 => ((roundhouselaw5_Flow.f a3 a4).bind fun bt358 => ((cookie_Read.f kj11 (wrap64 (t325 - 1)) bt355.1 bt355.2 t326 t327 t328 t329 x16_11 bt358.1 bt358.2.1 bt358.2.2.1 bt358.2.2.2 t338).bind fun bt362 => ((roundhouselaw5_Key.f (wrap64 (a6 + 1))).bind fun bt364 => ((cookie_Next.f bt341.1 bt341.2.1 bt341.2.2.1 bt341.2.2.2.1 bt341.2.2.2.2.1 bt341.2.2.2.2.2.1 bt341.2.2.2.2.2.2 bt364.1 bt364.2).bind fun bt366 => ((roundhouselaw5_Flow.f a3 a4).bind fun bt373 => ((cookie_Read.f kj11 bt366.1 bt366.2.1 bt366.2.2.1 bt366.2.2.2.1 bt366.2.2.2.2.1 bt366.2.2.2.2.2.1 bt366.2.2.2.2.2.2 x16_11 bt373.1 bt373.2.1 bt373.2.2.1 bt373.2.2.2 t338).bind fun bt377 => (if bt353.2 = true then (if bt353.1 = t333 then (if bt362.2 = true then (if bt362.1 = t333 then (if bt377.2 = true then (some false) else (if bt341.1 = (wrap64 (t325 + 1)) then (if (bt341.2.1 == t328 && (bt341.2.2.1 == t329)) = true then (if (bt341.2.2.2.1 == t330 && (bt341.2.2.2.2.1 == t331)) = true then ((roundhouselaw5_Key.f a6).bind fun bt379 => (some (bt341.2.2.2.2.2.1 == bt379.1 && (bt341.2.2.2.2.2.2 == bt379.2)))) else (some false)) else (some false)) else (some false))) else (some false)) else (some false)) else (some false)) else (some false)))))))))))) = some r := H
        have A21 := Aside0.mk A210
        clear A210
        replace H := Option.bind_eq_some_iff.mp H
        obtain ⟨⟨t341, t342, t343, t344, t345, t346, t347⟩, A220, H⟩ := H
        replace H : ((roundhouselaw5_Flow.f a3 a4).bind fun bt349 => ((cookie_Read.f kj11 t341 t342 t343 t344 t345 t346 t347 x16_11 bt349.1 bt349.2.1 bt349.2.2.1 bt349.2.2.2 t338).bind fun bt353 => ((roundhouselaw5_Key.f a6).bind fun bt355 => ((roundhouselaw5_Flow.f a3 a4).bind fun bt358 => ((cookie_Read.f kj11 (wrap64 (t325 - 1)) bt355.1 bt355.2 t326 t327 t328 t329 x16_11 bt358.1 bt358.2.1 bt358.2.2.1 bt358.2.2.2 t338).bind fun bt362 => ((roundhouselaw5_Key.f (wrap64 (a6 + 1))).bind fun bt364 => ((cookie_Next.f t341 t342 t343 t344 t345 t346 t347 bt364.1 bt364.2).bind fun bt366 => ((roundhouselaw5_Flow.f a3 a4).bind fun bt373 => ((cookie_Read.f kj11 bt366.1 bt366.2.1 bt366.2.2.1 bt366.2.2.2.1 bt366.2.2.2.2.1 bt366.2.2.2.2.2.1 bt366.2.2.2.2.2.2 x16_11 bt373.1 bt373.2.1 bt373.2.2.1 bt373.2.2.2 t338).bind fun bt377 => (if bt353.2 = true then (if bt353.1 = t333 then (if bt362.2 = true then (if bt362.1 = t333 then (if bt377.2 = true then (some false) else (if t341 = (wrap64 (t325 + 1)) then (if (t342 == t328 && (t343 == t329)) = true then (if (t344 == t330 && (t345 == t331)) = true then ((roundhouselaw5_Key.f a6).bind fun bt379 => (some (t346 == bt379.1 && (t347 == bt379.2)))) else (some false)) else (some false)) else (some false))) else (some false)) else (some false)) else (some false)) else (some false))))))))))) = some r := H
        have A22 := Aside0.mk A220
        clear A220
        replace H := Option.bind_eq_some_iff.mp H
        obtain ⟨⟨t349, t350, t351, t352⟩, A230, H⟩ := H
        replace H : ((cookie_Read.f kj11 t341 t342 t343 t344 t345 t346 t347 x16_11 t349 t350 t351 t352 t338).bind fun bt353 => ((roundhouselaw5_Key.f a6).bind fun bt355 => ((roundhouselaw5_Flow.f a3 a4).bind fun bt358 => ((cookie_Read.f kj11 (wrap64 (t325 - 1)) bt355.1 bt355.2 t326 t327 t328 t329 x16_11 bt358.1 bt358.2.1 bt358.2.2.1 bt358.2.2.2 t338).bind fun bt362 => ((roundhouselaw5_Key.f (wrap64 (a6 + 1))).bind fun bt364 => ((cookie_Next.f t341 t342 t343 t344 t345 t346 t347 bt364.1 bt364.2).bind fun bt366 => ((roundhouselaw5_Flow.f a3 a4).bind fun bt373 => ((cookie_Read.f kj11 bt366.1 bt366.2.1 bt366.2.2.1 bt366.2.2.2.1 bt366.2.2.2.2.1 bt366.2.2.2.2.2.1 bt366.2.2.2.2.2.2 x16_11 bt373.1 bt373.2.1 bt373.2.2.1 bt373.2.2.2 t338).bind fun bt377 => (if bt353.2 = true then (if bt353.1 = t333 then (if bt362.2 = true then (if bt362.1 = t333 then (if bt377.2 = true then (some false) else (if t341 = (wrap64 (t325 + 1)) then (if (t342 == t328 && (t343 == t329)) = true then (if (t344 == t330 && (t345 == t331)) = true then ((roundhouselaw5_Key.f a6).bind fun bt379 => (some (t346 == bt379.1 && (t347 == bt379.2)))) else (some false)) else (some false)) else (some false))) else (some false)) else (some false)) else (some false)) else (some false)))))))))) = some r := H
        have A23 := Aside0.mk A230
        clear A230
        replace H := Option.bind_eq_some_iff.mp H
        obtain ⟨⟨t353, t354⟩, A240, H⟩ := H
        replace H : ((roundhouselaw5_Key.f a6).bind fun bt355 => ((roundhouselaw5_Flow.f a3 a4).bind fun bt358 => ((cookie_Read.f kj11 (wrap64 (t325 - 1)) bt355.1 bt355.2 t326 t327 t328 t329 x16_11 bt358.1 bt358.2.1 bt358.2.2.1 bt358.2.2.2 t338).bind fun bt362 => ((roundhouselaw5_Key.f (wrap64 (a6 + 1))).bind fun bt364 => ((cookie_Next.f t341 t342 t343 t344 t345 t346 t347 bt364.1 bt364.2).bind fun bt366 => ((roundhouselaw5_Flow.f a3 a4).bind fun bt373 => ((cookie_Read.f kj11 bt366.1 bt366.2.1 bt366.2.2.1 bt366.2.2.2.1 bt366.2.2.2.2.1 bt366.2.2.2.2.2.1 bt366.2.2.2.2.2.2 x16_11 bt373.1 bt373.2.1 bt373.2.2.1 bt373.2.2.2 t338).bind fun bt377 => (if t354 = true then (if t353 = t333 then (if bt362.2 = true then (if bt362.1 = t333 then (if bt377.2 = true then (some false) else (if t341 = (wrap64 (t325 + 1)) then (if (t342 == t328 && (t343 == t329)) = true then (if (t344 == t330 && (t345 == t331)) = true then ((roundhouselaw5_Key.f a6).bind fun bt379 => (some (t346 == bt379.1 && (t347 == bt379.2)))) else (some false)) else (some false)) else (some false))) else (some false)) else (some false)) else (some false)) else (some false))))))))) = some r := H
        have A24 := Aside0.mk A240
        clear A240
        replace H := Option.bind_eq_some_iff.mp H
        obtain ⟨⟨t355, t356⟩, A250, H⟩ := H
        replace H : ((roundhouselaw5_Flow.f a3 a4).bind fun bt358 => ((cookie_Read.f kj11 (wrap64 (t325 - 1)) t355 t356 t326 t327 t328 t329 x16_11 bt358.1 bt358.2.1 bt358.2.2.1 bt358.2.2.2 t338).bind fun bt362 => ((roundhouselaw5_Key.f (wrap64 (a6 + 1))).bind fun bt364 => ((cookie_Next.f t341 t342 t343 t344 t345 t346 t347 bt364.1 bt364.2).bind fun bt366 => ((roundhouselaw5_Flow.f a3 a4).bind fun bt373 => ((cookie_Read.f kj11 bt366.1 bt366.2.1 bt366.2.2.1 bt366.2.2.2.1 bt366.2.2.2.2.1 bt366.2.2.2.2.2.1 bt366.2.2.2.2.2.2 x16_11 bt373.1 bt373.2.1 bt373.2.2.1 bt373.2.2.2 t338).bind fun bt377 => (if t354 = true then (if t353 = t333 then (if bt362.2 = true then (if bt362.1 = t333 then (if bt377.2 = true then (some false) else (if t341 = (wrap64 (t325 + 1)) then (if (t342 == t328 && (t343 == t329)) = true then (if (t344 == t330 && (t345 == t331)) = true then ((roundhouselaw5_Key.f a6).bind fun bt379 => (some (t346 == bt379.1 && (t347 == bt379.2)))) else (some false)) else (some false)) else (some false))) else (some false)) else (some false)) else (some false)) else (some false)))))))) = some r := H
        have A25 := Aside0.mk A250
        clear A250
        replace H := Option.bind_eq_some_iff.mp H
        obtain ⟨⟨t358, t359, t360, t361⟩, A260, H⟩ := H
        replace H : ((cookie_Read.f kj11 (wrap64 (t325 - 1)) t355 t356 t326 t327 t328 t329 x16_11 t358 t359 t360 t361 t338).bind fun bt362 => ((roundhouselaw5_Key.f (wrap64 (a6 + 1))).bind fun bt364 => ((cookie_Next.f t341 t342 t343 t344 t345 t346 t347 bt364.1 bt364.2).bind fun bt366 => ((roundhouselaw5_Flow.f a3 a4).bind fun bt373 => ((cookie_Read.f kj11 bt366.1 bt366.2.1 bt366.2.2.1 bt366.2.2.2.1 bt366.2.2.2.2.1 bt366.2.2.2.2.2.1 bt366.2.2.2.2.2.2 x16_11 bt373.1 bt373.2.1 bt373.2.2.1 bt373.2.2.2 t338).bind fun bt377 => (if t354 = true then (if t353 = t333 then (if bt362.2 = true then (if bt362.1 = t333 then (if bt377.2 = true then (some false) else (if t341 = (wrap64 (t325 + 1)) then (if (t342 == t328 && (t343 == t329)) = true then (if (t344 == t330 && (t345 == t331)) = true then ((roundhouselaw5_Key.f a6).bind fun bt379 => (some (t346 == bt379.1 && (t347 == bt379.2)))) else (some false)) else (some false)) else (some false))) else (some false)) else (some false)) else (some false)) else (some false))))))) = some r := H
        have A26 := Aside0.mk A260
        clear A260
        replace H := Option.bind_eq_some_iff.mp H
        obtain ⟨⟨t362, t363⟩, A270, H⟩ := H
        replace H : ((roundhouselaw5_Key.f (wrap64 (a6 + 1))).bind fun bt364 => ((cookie_Next.f t341 t342 t343 t344 t345 t346 t347 bt364.1 bt364.2).bind fun bt366 => ((roundhouselaw5_Flow.f a3 a4).bind fun bt373 => ((cookie_Read.f kj11 bt366.1 bt366.2.1 bt366.2.2.1 bt366.2.2.2.1 bt366.2.2.2.2.1 bt366.2.2.2.2.2.1 bt366.2.2.2.2.2.2 x16_11 bt373.1 bt373.2.1 bt373.2.2.1 bt373.2.2.2 t338).bind fun bt377 => (if t354 = true then (if t353 = t333 then (if t363 = true then (if t362 = t333 then (if bt377.2 = true then (some false) else (if t341 = (wrap64 (t325 + 1)) then (if (t342 == t328 && (t343 == t329)) = true then (if (t344 == t330 && (t345 == t331)) = true then ((roundhouselaw5_Key.f a6).bind fun bt379 => (some (t346 == bt379.1 && (t347 == bt379.2)))) else (some false)) else (some false)) else (some false))) else (some false)) else (some false)) else (some false)) else (some false)))))) = some r := H
        have A27 := Aside0.mk A270
        clear A270
        replace H := Option.bind_eq_some_iff.mp H
        obtain ⟨⟨t364, t365⟩, A280, H⟩ := H
        replace H : ((cookie_Next.f t341 t342 t343 t344 t345 t346 t347 t364 t365).bind fun bt366 => ((roundhouselaw5_Flow.f a3 a4).bind fun bt373 => ((cookie_Read.f kj11 bt366.1 bt366.2.1 bt366.2.2.1 bt366.2.2.2.1 bt366.2.2.2.2.1 bt366.2.2.2.2.2.1 bt366.2.2.2.2.2.2 x16_11 bt373.1 bt373.2.1 bt373.2.2.1 bt373.2.2.2 t338).bind fun bt377 => (if t354 = true then (if t353 = t333 then (if t363 = true then (if t362 = t333 then (if bt377.2 = true then (some false) else (if t341 = (wrap64 (t325 + 1)) then (if (t342 == t328 && (t343 == t329)) = true then (if (t344 == t330 && (t345 == t331)) = true then ((roundhouselaw5_Key.f a6).bind fun bt379 => (some (t346 == bt379.1 && (t347 == bt379.2)))) else (some false)) else (some false)) else (some false))) else (some false)) else (some false)) else (some false)) else (some false))))) = some r := H
        have A28 := Aside0.mk A280
        clear A280
        replace H := Option.bind_eq_some_iff.mp H
        obtain ⟨⟨t366, t367, t368, t369, t370, t371, t372⟩, A290, H⟩ := H
        replace H : ((roundhouselaw5_Flow.f a3 a4).bind fun bt373 => ((cookie_Read.f kj11 t366 t367 t368 t369 t370 t371 t372 x16_11 bt373.1 bt373.2.1 bt373.2.2.1 bt373.2.2.2 t338).bind fun bt377 => (if t354 = true then (if t353 = t333 then (if t363 = true then (if t362 = t333 then (if bt377.2 = true then (some false) else (if t341 = (wrap64 (t325 + 1)) then (if (t342 == t328 && (t343 == t329)) = true then (if (t344 == t330 && (t345 == t331)) = true then ((roundhouselaw5_Key.f a6).bind fun bt379 => (some (t346 == bt379.1 && (t347 == bt379.2)))) else (some false)) else (some false)) else (some false))) else (some false)) else (some false)) else (some false)) else (some false)))) = some r := H
        have A29 := Aside0.mk A290
        clear A290
        replace H := Option.bind_eq_some_iff.mp H
        obtain ⟨⟨t373, t374, t375, t376⟩, A300, H⟩ := H
        replace H : ((cookie_Read.f kj11 t366 t367 t368 t369 t370 t371 t372 x16_11 t373 t374 t375 t376 t338).bind fun bt377 => (if t354 = true then (if t353 = t333 then (if t363 = true then (if t362 = t333 then (if bt377.2 = true then (some false) else (if t341 = (wrap64 (t325 + 1)) then (if (t342 == t328 && (t343 == t329)) = true then (if (t344 == t330 && (t345 == t331)) = true then ((roundhouselaw5_Key.f a6).bind fun bt379 => (some (t346 == bt379.1 && (t347 == bt379.2)))) else (some false)) else (some false)) else (some false))) else (some false)) else (some false)) else (some false)) else (some false))) = some r := H
        have A30 := Aside0.mk A300
        clear A300
        replace H := Option.bind_eq_some_iff.mp H
        obtain ⟨⟨t377, t378⟩, A310, H⟩ := H
        replace H : (if t354 = true then (if t353 = t333 then (if t363 = true then (if t362 = t333 then (if t378 = true then (some false) else (if t341 = (wrap64 (t325 + 1)) then (if (t342 == t328 && (t343 == t329)) = true then (if (t344 == t330 && (t345 == t331)) = true then ((roundhouselaw5_Key.f a6).bind fun bt379 => (some (t346 == bt379.1 && (t347 == bt379.2)))) else (some false)) else (some false)) else (some false))) else (some false)) else (some false)) else (some false)) else (some false)) = some r := H
        have A31 := Aside0.mk A310
        clear A310
        by_cases c32 : t354 = true
        · subst c32
          have H1 : (if t353 = t333 then (if t363 = true then (if t362 = t333 then (if t378 = true then (some false) else (if t341 = (wrap64 (t325 + 1)) then (if (t342 == t328 && (t343 == t329)) = true then (if (t344 == t330 && (t345 == t331)) = true then ((roundhouselaw5_Key.f a6).bind fun bt379 => (some (t346 == bt379.1 && (t347 == bt379.2)))) else (some false)) else (some false)) else (some false))) else (some false)) else (some false)) else (some false)) = some r := by rw [if_pos rfl] at H; exact H
          clear H
          have H := H1
          clear H1
          by_cases c33 : t353 = t333
          · rw [if_pos c33] at H
            have c33b0 : (t353 == t333) = true := beq_iff_eq.mpr c33
            have c33b1 : (t353 != t333) = false := bne_eq_false_iff_eq.mpr c33
            clear c33
            by_cases c34 : t363 = true
            · subst c34
              have H1 : (if t362 = t333 then (if t378 = true then (some false) else (if t341 = (wrap64 (t325 + 1)) then (if (t342 == t328 && (t343 == t329)) = true then (if (t344 == t330 && (t345 == t331)) = true then ((roundhouselaw5_Key.f a6).bind fun bt379 => (some (t346 == bt379.1 && (t347 == bt379.2)))) else (some false)) else (some false)) else (some false))) else (some false)) = some r := by rw [if_pos rfl] at H; exact H
              clear H
              have H := H1
              clear H1
              by_cases c35 : t362 = t333
              · rw [if_pos c35] at H
                have c35b0 : (t362 == t333) = true := beq_iff_eq.mpr c35
                have c35b1 : (t362 != t333) = false := bne_eq_false_iff_eq.mpr c35
                clear c35
                by_cases c36 : t378 = true
                · subst c36
                  have H1 : (some false) = some r := by rw [if_pos rfl] at H; exact H
                  clear H
                  have H := H1
                  clear H1
                  exact absurd hr_.out (by rw [← Option.some.inj H]; decide)
                · replace c36 := Bool.eq_false_iff.mpr c36
                  subst c36
                  have H1 : (if t341 = (wrap64 (t325 + 1)) then (if (t342 == t328 && (t343 == t329)) = true then (if (t344 == t330 && (t345 == t331)) = true then ((roundhouselaw5_Key.f a6).bind fun bt379 => (some (t346 == bt379.1 && (t347 == bt379.2)))) else (some false)) else (some false)) else (some false)) = some r := by rw [if_neg (show ¬ (false = true) by decide)] at H; exact H
                  clear H
                  have H := H1
                  clear H1
                  by_cases c77 : t341 = (wrap64 (t325 + 1))
                  · rw [if_pos c77] at H
                    have c77b0 : (t341 == (wrap64 (t325 + 1))) = true := beq_iff_eq.mpr c77
                    have c77b1 : (t341 != (wrap64 (t325 + 1))) = false := bne_eq_false_iff_eq.mpr c77
                    clear c77
                    by_cases c78 : (t342 == t328 && (t343 == t329)) = true
                    · rw [if_pos c78] at H
                      have c78b0 : (t342 == t328 && (t343 == t329)) = true := c78
                      (try (have c78b1 : decide (t342 = t328 && (t343 == t329)) = true := by simpa using c78))
                      (try (have c78b2 : (t342 == t328 && (t343 == t329)) = true := by simpa using c78))
                      clear c78
                      by_cases c79 : (t344 == t330 && (t345 == t331)) = true
                      · rw [if_pos c79] at H
                        have c79b0 : (t344 == t330 && (t345 == t331)) = true := c79
                        (try (have c79b1 : decide (t344 = t330 && (t345 == t331)) = true := by simpa using c79))
                        (try (have c79b2 : (t344 == t330 && (t345 == t331)) = true := by simpa using c79))
                        clear c79
                        replace H := Option.bind_eq_some_iff.mp H
                        obtain ⟨⟨t379, t380⟩, A800, H⟩ := H
                        replace H : (some (t346 == t379 && (t347 == t380))) = some r := H
                        have A80 := Aside0.mk A800
                        clear A800
                        obtain rfl := Option.some.inj H
                        try go_wp2_with (first | ((with_reducible refine gate_callee (f := 18) rfl ?_); refine goesL_ (some 36) rfl rfl Try.func18 (by kernel_rfl) rfl #[.int .i64 a5, .int .i64 64] rfl (by (try simp only [List.map_toArray, List.map_cons, List.map_nil]); first | done | rfl | (simp only [List.length_drop, List.length_take]; rfl)) ?_; (with_reducible refine (roundhouselaw5_within.calls a5 64 t333 _ A18.out).mono ?_); rintro e w' ⟨rfl, ⟨nd, rfl⟩⟩; refine ⟨_, rfl, ?_⟩; (try (rw [drewN_self wc]; generalize hq_ : World.drewN wc _ = wc; have n0_ : Aside0 (wc.heap[gb332]? = some (.cells #[.int .i64 t325, .int .u64 t326, .int .u64 t327, .int .u64 t328, .int .u64 t329, .int .u64 t330, .int .u64 t331] 27 (0, 0))) := ⟨by rw [← hq_]; exact (by (with_reducible repeat (first | refine blk_drewN ?_ _ | refine blk_drew ?_ | refine blk_alloc ?_ _)); exact BK332.out)⟩; have n1_ : Aside0 (Below w.heap.size w wc) := ⟨by rw [← hq_]; exact (by repeat (first | (with_reducible first | exact HB.out | apply below_alloc | apply pw_below_drewN | apply below_drew1 | refine below_set ?_ GE332.out) | exact HB.out))⟩; clear BK332 HB hq_; have BK332 := n0_; have HB := n1_; clear n0_ n1_))))
                        have n0_ := Aside0.mk (blk_drew BK332.out)
                        have n1_ := Aside0.mk (below_drew1 HB.out)
                        clear BK332
                        clear HB
                        have BK332 := n0_
                        have HB := n1_
                        clear n0_ n1_
                        refine start_ (n := 8) (S := fun w' => w'.cell? ⟨gb332, 0, none⟩ = some (.int .i64 t325) ∧ w'.cell? ⟨gb332, 1, none⟩ = some (.int .u64 t326) ∧ w'.cell? ⟨gb332, 2, none⟩ = some (.int .u64 t327) ∧ w'.cell? ⟨gb332, 3, none⟩ = some (.int .u64 t328) ∧ w'.cell? ⟨gb332, 4, none⟩ = some (.int .u64 t329) ∧ w'.cell? ⟨gb332, 5, none⟩ = some (.int .u64 t330) ∧ w'.cell? ⟨gb332, 6, none⟩ = some (.int .u64 t331)) (ds := []) #[false, false, false, false, false, false, false, false] (by kernel_rfl) rfl rfl ⟨(blk_cell BK332.out 0).trans rfl, (blk_cell BK332.out 1).trans rfl, (blk_cell BK332.out 2).trans rfl, (blk_cell BK332.out 3).trans rfl, (blk_cell BK332.out 4).trans rfl, (blk_cell BK332.out 5).trans rfl, (blk_cell BK332.out 6).trans rfl⟩ (fun hHeld => ?_); refine with_tabW roundhouselaw5_CookieAges.tab8 roundhouselaw5_CookieAges.bits8 (fun HT_ HW_ => ?_)
                        generalize wc.drew = w81 at BK332 HB hHeld ⊢
                        refine pure_ (i := 1) (N := some 38) (v := ?_) (a' := ?_) #[false, true, false, false, false, false, false, false] rfl rfl (any_of HT_.out (by kernel_rfl)) (fun _ _ _ h => h) (Or.inl ⟨by rfl, ?_⟩) ?_ ?_
                        rotate_left
                        · intro w'
                          go_simp
                          with_reducible rfl
                        rotate_left
                        · simp only [Act.put, List.setIfInBounds_toArray, List.set_cons_zero, List.set_cons_succ, i64_w, i32_w]
                          rfl
                        refine pure_ (i := 2) (N := some 39) (v := ?_) (a' := ?_) #[false, true, true, false, false, false, false, false] rfl rfl (any_of HT_.out (by kernel_rfl)) (fun _ _ _ h => h) (Or.inl ⟨by rfl, ?_⟩) ?_ ?_
                        rotate_left
                        · intro w'
                          go_simp
                          with_reducible rfl
                        rotate_left
                        · simp only [Act.put, List.setIfInBounds_toArray, List.set_cons_zero, List.set_cons_succ, i64_w, i32_w]
                          rfl
                        refine pure_ (i := 3) (N := some 40) (v := ?_) (a' := ?_) #[false, true, true, true, false, false, false, false] rfl rfl (any_of HT_.out (by kernel_rfl)) (fun _ _ _ h => h) (Or.inl ⟨by rfl, ?_⟩) ?_ ?_
                        rotate_left
                        · intro w'
                          go_simp
                          with_reducible rfl
                        rotate_left
                        · simp only [Act.put, List.setIfInBounds_toArray, List.set_cons_zero, List.set_cons_succ, i64_w, i32_w]
                          rfl
                        refine pure_ (i := 5) (N := some 42) (v := ?_) (a' := ?_) #[false, true, true, true, false, true, false, false] rfl rfl (any_of HT_.out (by kernel_rfl)) (fun _ _ _ h => h) (Or.inl ⟨by rfl, ?_⟩) ?_ ?_
                        rotate_left
                        · intro w'
                          go_simp
                          with_reducible rfl
                        rotate_left
                        · simp only [Act.put, List.setIfInBounds_toArray, List.set_cons_zero, List.set_cons_succ, i64_w, i32_w]
                          rfl
                        refine take_ (i := 0) (N := some 37) (v := ?_) (a' := ?_) #[true, true, true, true, false, true, false, false] rfl rfl (take_ofW HT_.out HW_.out (by kernel_rfl)) (fun _ _ _ h => h) (Or.inl ⟨by rfl, ?_⟩) hHeld ?_ ?_
                        rotate_left
                        · rintro w' ⟨s0, s1, s2, s3, s4, s5, s6⟩
                          go_simp
                          with_reducible rfl
                        rotate_left
                        · simp only [Act.put, List.setIfInBounds_toArray, List.set_cons_zero, List.set_cons_succ, i64_w, i32_w]
                          rfl
                        refine one_ (i := 4) (N := some 41) #[true, true, true, true, true, true, false, false] rfl rfl (one_of HT_.out (by kernel_rfl)) (by decide) (fun K hK => ?_)
                        refine goes_ Try.func20 (by kernel_rfl) rfl #[.int .i64 a3, .int .i64 a4] (by rfl) rfl rfl (by (try simp only [List.map_toArray, List.map_cons, List.map_nil]); first | done | rfl | (simp only [List.length_drop, List.length_take]; rfl)) ?_
                        with_reducible refine (roundhouselaw5_Flow.calls a3 a4 t334 t335 t336 t337 _ A19.out).mono ?_
                        rintro e w82 ⟨rfl, hb⟩
                        refine ⟨_, rfl, ?_⟩
                        have n0_ := Aside0.mk (blk_below (g := gb332) (o := .cells #[.int .i64 t325, .int .u64 t326, .int .u64 t327, .int .u64 t328, .int .u64 t329, .int .u64 t330, .int .u64 t331] 27 (0, 0)) (by (with_reducible repeat (first | refine blk_drewN ?_ _ | refine blk_drew ?_ | refine blk_alloc ?_ _)); exact BK332.out) hb)
                        have n1_ := Aside0.mk (below_step (by repeat (first | (with_reducible first | exact HB.out | apply below_alloc | apply pw_below_drewN | apply below_drew1 | refine below_set ?_ GE332.out) | exact HB.out)) hb)
                        clear BK332
                        clear HB
                        have BK332 := n0_
                        have HB := n1_
                        clear n0_ n1_
                        (try clear hb)
                        (try clear hb2)
                        (try clear hk)
                        (try clear hi)
                        refine hK.out _ _ ⟨(blk_cell BK332.out 0).trans rfl, (blk_cell BK332.out 1).trans rfl, (blk_cell BK332.out 2).trans rfl, (blk_cell BK332.out 3).trans rfl, (blk_cell BK332.out 4).trans rfl, (blk_cell BK332.out 5).trans rfl, (blk_cell BK332.out 6).trans rfl⟩ (fun hHeld => ?_)
                        clear hK K
                        refine norm_ (a' := ?_) ?_ ?_
                        rotate_left
                        · show Act.put _ (some 41) _ = _
                          simp only [Act.put, List.setIfInBounds_toArray, List.set_cons_zero, List.set_cons_succ, i64_w, i32_w]
                          rfl
                        refine one_ (i := 6) (N := some 43) #[true, true, true, true, true, true, true, false] rfl rfl (one_of HT_.out (by kernel_rfl)) (by decide) (fun K hK => ?_)
                        refine goes_ Try.func19 (by kernel_rfl) rfl #[.agg #[.int .i64 t325, .int .u64 t326, .int .u64 t327, .int .u64 t328, .int .u64 t329, .int .u64 t330, .int .u64 t331], .int .i64 x16_11, .agg #[.int .i64 t334, .int .i64 t335, .int .i64 t336, .int .i64 t337], .int .i64 t333] (by rfl) rfl rfl (by (try simp only [List.map_toArray, List.map_cons, List.map_nil]); first | done | rfl | (simp only [List.length_drop, List.length_take]; rfl)) ?_
                        with_reducible refine (cookie_Make.calls kj11 t325 t326 t327 t328 t329 t330 t331 x16_11 t334 t335 t336 t337 t333 t338 _ A20.out).mono ?_
                        rintro e w83 ⟨rfl, hb⟩
                        refine ⟨_, rfl, ?_⟩
                        have n0_ := Aside0.mk (blk_below (g := gb332) (o := .cells #[.int .i64 t325, .int .u64 t326, .int .u64 t327, .int .u64 t328, .int .u64 t329, .int .u64 t330, .int .u64 t331] 27 (0, 0)) (by (with_reducible repeat (first | refine blk_drewN ?_ _ | refine blk_drew ?_ | refine blk_alloc ?_ _)); exact BK332.out) hb)
                        have n1_ := Aside0.mk (below_step (by repeat (first | (with_reducible first | exact HB.out | apply below_alloc | apply pw_below_drewN | apply below_drew1 | refine below_set ?_ GE332.out) | exact HB.out)) hb)
                        clear BK332
                        clear HB
                        have BK332 := n0_
                        have HB := n1_
                        clear n0_ n1_
                        (try clear hb)
                        (try clear hb2)
                        (try clear hk)
                        (try clear hi)
                        refine hK.out _ _ ⟨(blk_cell BK332.out 0).trans rfl, (blk_cell BK332.out 1).trans rfl, (blk_cell BK332.out 2).trans rfl, (blk_cell BK332.out 3).trans rfl, (blk_cell BK332.out 4).trans rfl, (blk_cell BK332.out 5).trans rfl, (blk_cell BK332.out 6).trans rfl⟩ (fun hHeld => ?_)
                        clear hK K
                        refine norm_ (a' := ?_) ?_ ?_
                        rotate_left
                        · show Act.put _ (some 43) _ = _
                          simp only [Act.put, List.setIfInBounds_toArray, List.set_cons_zero, List.set_cons_succ, i64_w, i32_w]
                          rfl
                        refine pure_ (i := 7) (N := some 18) (v := ?_) (a' := ?_) #[true, true, true, true, true, true, true, true] rfl rfl (any_of HT_.out (by kernel_rfl)) (fun _ _ _ h => h) (Or.inl ⟨by rfl, ?_⟩) ?_ ?_
                        rotate_left
                        · intro w'
                          go_simp
                          with_reducible rfl
                        rotate_left
                        · simp only [Act.put, List.setIfInBounds_toArray, List.set_cons_zero, List.set_cons_succ, i64_w, i32_w]
                          rfl
                        refine done_ (done_of HT_.out (by kernel_rfl)) ?_
                        try go_wp2
                        have n0_ := Aside0.mk (blk_drew BK332.out)
                        have n1_ := Aside0.mk (below_drew1 HB.out)
                        clear BK332
                        clear HB
                        have BK332 := n0_
                        have HB := n1_
                        clear n0_ n1_
                        refine start_ (n := 6) (S := fun w' => w'.cell? ⟨gb332, 0, none⟩ = some (.int .i64 t325) ∧ w'.cell? ⟨gb332, 1, none⟩ = some (.int .u64 t326) ∧ w'.cell? ⟨gb332, 2, none⟩ = some (.int .u64 t327) ∧ w'.cell? ⟨gb332, 3, none⟩ = some (.int .u64 t328) ∧ w'.cell? ⟨gb332, 4, none⟩ = some (.int .u64 t329) ∧ w'.cell? ⟨gb332, 5, none⟩ = some (.int .u64 t330) ∧ w'.cell? ⟨gb332, 6, none⟩ = some (.int .u64 t331)) (ds := []) #[false, false, false, false, false, false] (by kernel_rfl) rfl rfl ⟨(blk_cell BK332.out 0).trans rfl, (blk_cell BK332.out 1).trans rfl, (blk_cell BK332.out 2).trans rfl, (blk_cell BK332.out 3).trans rfl, (blk_cell BK332.out 4).trans rfl, (blk_cell BK332.out 5).trans rfl, (blk_cell BK332.out 6).trans rfl⟩ (fun hHeld => ?_)
                        generalize w83.drew = w84 at BK332 HB hHeld ⊢
                        refine pure_ (i := 1) (N := some 45) (v := ?_) (a' := ?_) #[false, true, false, false, false, false] rfl rfl (by kernel_rfl) (fun _ _ _ h => h) (Or.inl ⟨by rfl, ?_⟩) ?_ ?_
                        rotate_left
                        · intro w'
                          go_simp
                          with_reducible rfl
                        rotate_left
                        · simp only [Act.put, List.setIfInBounds_toArray, List.set_cons_zero, List.set_cons_succ, i64_w, i32_w]
                          rfl
                        refine take_ (i := 0) (N := some 44) (v := ?_) (a' := ?_) #[true, true, false, false, false, false] rfl rfl (by kernel_rfl) (fun _ _ _ h => h) (Or.inl ⟨by rfl, ?_⟩) hHeld ?_ ?_
                        rotate_left
                        · rintro w' ⟨s0, s1, s2, s3, s4, s5, s6⟩
                          go_simp
                          with_reducible rfl
                        rotate_left
                        · simp only [Act.put, List.setIfInBounds_toArray, List.set_cons_zero, List.set_cons_succ, i64_w, i32_w]
                          rfl
                        refine join_ (σ := Nat) 1 #[true, true, true, true, true, false] (fun s_ => [(46, .agg #[.int .u64 t339, .int .u64 t340]), (47, .agg #[.int .i64 t341, .int .u64 t342, .int .u64 t343, .int .u64 t344, .int .u64 t345, .int .u64 t346, .int .u64 t347]), (19, .pointer (some ⟨s_, 0, none⟩))]) (fun s_ w' => (w'.cell? ⟨gb332, 0, none⟩ = some (.int .i64 t325) ∧ w'.cell? ⟨gb332, 1, none⟩ = some (.int .u64 t326) ∧ w'.cell? ⟨gb332, 2, none⟩ = some (.int .u64 t327) ∧ w'.cell? ⟨gb332, 3, none⟩ = some (.int .u64 t328) ∧ w'.cell? ⟨gb332, 4, none⟩ = some (.int .u64 t329) ∧ w'.cell? ⟨gb332, 5, none⟩ = some (.int .u64 t330) ∧ w'.cell? ⟨gb332, 6, none⟩ = some (.int .u64 t331)) ∧ (w'.heap[gb332]? = some (.cells #[.int .i64 t325, .int .u64 t326, .int .u64 t327, .int .u64 t328, .int .u64 t329, .int .u64 t330, .int .u64 t331] 27 (0, 0))) ∧ (w'.heap[s_]? = some (.cells #[.int .i64 0, .int .u64 0, .int .u64 0, .int .u64 0, .int .u64 0, .int .u64 0, .int .u64 0] 27 (0, 0))) ∧ (w.heap.size ≤ s_) ∧ (w.heap.size ≤ s_) ∧ (gb332 ≠ s_) ∧ (s_ ≠ gb332) ∧ (Below w.heap.size w w')) ?_ ?_
                        rotate_left
                        · intro hCont
                          refine two_ (i := 2) (j := 4) (Ni := some 46) (Nj := some 19) #[true, true, true, false, false, false] #[true, true, false, false, true, false] rfl rfl rfl rfl (by kernel_rfl) (by decide) (by decide) (fun K hK => ?_) (fun K hK => ?_)
                          · skip
                            refine goes_ Try.func25 (by kernel_rfl) rfl #[.int .i64 a6] (by rfl) rfl rfl (by (try simp only [List.map_toArray, List.map_cons, List.map_nil]); first | done | rfl | (simp only [List.length_drop, List.length_take]; rfl)) ?_
                            with_reducible refine (roundhouselaw5_Key.calls a6 t339 t340 _ A21.out).mono ?_
                            rintro e w85 ⟨rfl, hb⟩
                            refine ⟨_, rfl, ?_⟩
                            have n0_ := Aside0.mk (blk_below (g := gb332) (o := .cells #[.int .i64 t325, .int .u64 t326, .int .u64 t327, .int .u64 t328, .int .u64 t329, .int .u64 t330, .int .u64 t331] 27 (0, 0)) (by (with_reducible repeat (first | refine blk_drewN ?_ _ | refine blk_drew ?_ | refine blk_alloc ?_ _)); exact BK332.out) hb)
                            have n1_ := Aside0.mk (below_step (by repeat (first | (with_reducible first | exact HB.out | apply below_alloc | apply pw_below_drewN | apply below_drew1 | refine below_set ?_ GE332.out) | exact HB.out)) hb)
                            clear BK332
                            clear HB
                            have BK332 := n0_
                            have HB := n1_
                            clear n0_ n1_
                            (try clear hb)
                            (try clear hb2)
                            (try clear hk)
                            (try clear hi)
                            refine hK.out _ _ ⟨(blk_cell BK332.out 0).trans rfl, (blk_cell BK332.out 1).trans rfl, (blk_cell BK332.out 2).trans rfl, (blk_cell BK332.out 3).trans rfl, (blk_cell BK332.out 4).trans rfl, (blk_cell BK332.out 5).trans rfl, (blk_cell BK332.out 6).trans rfl⟩ (fun hHeld => ?_)
                            clear hK K
                            refine norm_ (a' := ?_) ?_ ?_
                            rotate_left
                            · show Act.put _ (some 46) _ = _
                              simp only [Act.put, List.setIfInBounds_toArray, List.set_cons_zero, List.set_cons_succ, i64_w, i32_w]
                              rfl
                            refine two_ (i := 3) (j := 4) (Ni := some 47) (Nj := some 19) #[true, true, true, true, false, false] #[true, true, true, false, true, false] rfl rfl rfl rfl (by kernel_rfl) (by decide) (by decide) (fun K hK => ?_) (fun K hK => ?_)
                            · skip
                              refine goes_ Try.func24 (by kernel_rfl) rfl #[.agg #[.int .i64 t325, .int .u64 t326, .int .u64 t327, .int .u64 t328, .int .u64 t329, .int .u64 t330, .int .u64 t331], .agg #[.int .u64 t339, .int .u64 t340]] (by rfl) rfl rfl (by (try simp only [List.map_toArray, List.map_cons, List.map_nil]); first | done | rfl | (simp only [List.length_drop, List.length_take]; rfl)) ?_
                              with_reducible refine (cookie_Next.calls t325 t326 t327 t328 t329 t330 t331 t339 t340 t341 t342 t343 t344 t345 t346 t347 _ A22.out).mono ?_
                              rintro e w86 ⟨rfl, hb⟩
                              refine ⟨_, rfl, ?_⟩
                              have n0_ := Aside0.mk (blk_below (g := gb332) (o := .cells #[.int .i64 t325, .int .u64 t326, .int .u64 t327, .int .u64 t328, .int .u64 t329, .int .u64 t330, .int .u64 t331] 27 (0, 0)) (by (with_reducible repeat (first | refine blk_drewN ?_ _ | refine blk_drew ?_ | refine blk_alloc ?_ _)); exact BK332.out) hb)
                              have n1_ := Aside0.mk (below_step (by repeat (first | (with_reducible first | exact HB.out | apply below_alloc | apply pw_below_drewN | apply below_drew1 | refine below_set ?_ GE332.out) | exact HB.out)) hb)
                              clear BK332
                              clear HB
                              have BK332 := n0_
                              have HB := n1_
                              clear n0_ n1_
                              (try clear hb)
                              (try clear hb2)
                              (try clear hk)
                              (try clear hi)
                              refine hK.out _ _ ⟨(blk_cell BK332.out 0).trans rfl, (blk_cell BK332.out 1).trans rfl, (blk_cell BK332.out 2).trans rfl, (blk_cell BK332.out 3).trans rfl, (blk_cell BK332.out 4).trans rfl, (blk_cell BK332.out 5).trans rfl, (blk_cell BK332.out 6).trans rfl⟩ (fun hHeld => ?_)
                              clear hK K
                              refine norm_ (a' := ?_) ?_ ?_
                              rotate_left
                              · show Act.put _ (some 47) _ = _
                                simp only [Act.put, List.setIfInBounds_toArray, List.set_cons_zero, List.set_cons_succ, i64_w, i32_w]
                                rfl
                              refine one_ (i := 4) (N := some 19) #[true, true, true, true, true, false] rfl rfl (by kernel_rfl) (by decide) (fun K hK => ?_)
                              refine box_step ?hg (N := 19) ?hd (cs := #[.int .i64 0, .int .u64 0, .int .u64 0, .int .u64 0, .int .u64 0, .int .u64 0, .int .u64 0]) (t := 27) ?hr ?_; (case hd => rfl); (case hg => rfl); (case hr => first | (go_simp; done) | (go_simp; rfl))
                              intro gb348 hg w87 hbox hb
                              have n0_ := Aside0.mk (blk_below (g := gb332) (o := .cells #[.int .i64 t325, .int .u64 t326, .int .u64 t327, .int .u64 t328, .int .u64 t329, .int .u64 t330, .int .u64 t331] 27 (0, 0)) (by (with_reducible repeat (first | refine blk_drewN ?_ _ | refine blk_drew ?_ | refine blk_alloc ?_ _)); exact BK332.out) hb)
                              have n1_ := Aside0.mk (below_step (by repeat (first | (with_reducible first | exact HB.out | apply below_alloc | apply pw_below_drewN | apply below_drew1 | refine below_set ?_ GE332.out) | exact HB.out)) hb)
                              have n2_ := Aside0.mk (hbox)
                              have n3_ := Aside0.mk ((by rw [hg]; exact (below_size (by repeat (first | (with_reducible first | exact HB.out | apply below_alloc | apply pw_below_drewN | apply below_drew1 | refine below_set ?_ GE332.out) | exact HB.out))) : w.heap.size ≤ gb348))
                              have n4_ := Aside0.mk ((by rw [hg]; exact (below_size (by repeat (first | (with_reducible first | exact HB.out | apply below_alloc | apply pw_below_drewN | apply below_drew1 | refine below_set ?_ GE332.out) | exact HB.out))) : w.heap.size ≤ gb348))
                              have n5_ := Aside0.mk ((by rw [hg]; exact Nat.ne_of_lt (blk_lt (g := gb332) (o := .cells #[.int .i64 t325, .int .u64 t326, .int .u64 t327, .int .u64 t328, .int .u64 t329, .int .u64 t330, .int .u64 t331] 27 (0, 0)) (by (with_reducible repeat (first | refine blk_drewN ?_ _ | refine blk_drew ?_ | refine blk_alloc ?_ _)); exact BK332.out)) : gb332 ≠ gb348))
                              have n6_ := Aside0.mk ((by rw [hg]; exact Nat.ne_of_gt (blk_lt (g := gb332) (o := .cells #[.int .i64 t325, .int .u64 t326, .int .u64 t327, .int .u64 t328, .int .u64 t329, .int .u64 t330, .int .u64 t331] 27 (0, 0)) (by (with_reducible repeat (first | refine blk_drewN ?_ _ | refine blk_drew ?_ | refine blk_alloc ?_ _)); exact BK332.out)) : gb348 ≠ gb332))
                              clear BK332
                              clear HB
                              have BK332 := n0_
                              have HB := n1_
                              have BK348 := n2_
                              have GW348 := n3_
                              have GE348 := n4_
                              have NB332_348 := n5_
                              have NB348_332 := n6_
                              clear n0_ n1_ n2_ n3_ n4_ n5_ n6_
                              clear hb hbox hg
                              refine hK.out _ _ ⟨(blk_cell BK332.out 0).trans rfl, (blk_cell BK332.out 1).trans rfl, (blk_cell BK332.out 2).trans rfl, (blk_cell BK332.out 3).trans rfl, (blk_cell BK332.out 4).trans rfl, (blk_cell BK332.out 5).trans rfl, (blk_cell BK332.out 6).trans rfl⟩ (fun hHeld => ?_)
                              clear hK K
                              refine norm_ (a' := ?_) ?_ ?_
                              rotate_left
                              · show Act.put _ (some 19) _ = _
                                simp only [Act.put, List.setIfInBounds_toArray, List.set_cons_zero, List.set_cons_succ, i64_w, i32_w]
                                rfl
                              exact norm_ (by simp only [putAll, Act.put, List.setIfInBounds_toArray, List.set_cons_zero, List.set_cons_succ]) (hCont (gb348) _ ⟨hHeld, (by (with_reducible repeat (first | refine blk_drewN ?_ _ | refine blk_drew ?_ | refine blk_alloc ?_ _)); exact BK332.out), (by (with_reducible repeat (first | refine blk_drewN ?_ _ | refine blk_drew ?_ | refine blk_alloc ?_ _)); exact BK348.out), GW348.out, GE348.out, NB332_348.out, NB348_332.out, (by repeat (first | (with_reducible first | exact HB.out | apply below_alloc | apply pw_below_drewN | apply below_drew1 | refine below_set ?_ GE332.out | refine below_set ?_ GE348.out) | exact HB.out))⟩)
                            · skip
                              refine box_step ?hg (N := 19) ?hd (cs := #[.int .i64 0, .int .u64 0, .int .u64 0, .int .u64 0, .int .u64 0, .int .u64 0, .int .u64 0]) (t := 27) ?hr ?_; (case hd => rfl); (case hg => rfl); (case hr => first | (go_simp; done) | (go_simp; rfl))
                              intro gb348 hg w86 hbox hb
                              have n0_ := Aside0.mk (blk_below (g := gb332) (o := .cells #[.int .i64 t325, .int .u64 t326, .int .u64 t327, .int .u64 t328, .int .u64 t329, .int .u64 t330, .int .u64 t331] 27 (0, 0)) (by (with_reducible repeat (first | refine blk_drewN ?_ _ | refine blk_drew ?_ | refine blk_alloc ?_ _)); exact BK332.out) hb)
                              have n1_ := Aside0.mk (below_step (by repeat (first | (with_reducible first | exact HB.out | apply below_alloc | apply pw_below_drewN | apply below_drew1 | refine below_set ?_ GE332.out) | exact HB.out)) hb)
                              have n2_ := Aside0.mk (hbox)
                              have n3_ := Aside0.mk ((by rw [hg]; exact (below_size (by repeat (first | (with_reducible first | exact HB.out | apply below_alloc | apply pw_below_drewN | apply below_drew1 | refine below_set ?_ GE332.out) | exact HB.out))) : w.heap.size ≤ gb348))
                              have n4_ := Aside0.mk ((by rw [hg]; exact (below_size (by repeat (first | (with_reducible first | exact HB.out | apply below_alloc | apply pw_below_drewN | apply below_drew1 | refine below_set ?_ GE332.out) | exact HB.out))) : w.heap.size ≤ gb348))
                              have n5_ := Aside0.mk ((by rw [hg]; exact Nat.ne_of_lt (blk_lt (g := gb332) (o := .cells #[.int .i64 t325, .int .u64 t326, .int .u64 t327, .int .u64 t328, .int .u64 t329, .int .u64 t330, .int .u64 t331] 27 (0, 0)) (by (with_reducible repeat (first | refine blk_drewN ?_ _ | refine blk_drew ?_ | refine blk_alloc ?_ _)); exact BK332.out)) : gb332 ≠ gb348))
                              have n6_ := Aside0.mk ((by rw [hg]; exact Nat.ne_of_gt (blk_lt (g := gb332) (o := .cells #[.int .i64 t325, .int .u64 t326, .int .u64 t327, .int .u64 t328, .int .u64 t329, .int .u64 t330, .int .u64 t331] 27 (0, 0)) (by (with_reducible repeat (first | refine blk_drewN ?_ _ | refine blk_drew ?_ | refine blk_alloc ?_ _)); exact BK332.out)) : gb348 ≠ gb332))
                              clear BK332
                              clear HB
                              have BK332 := n0_
                              have HB := n1_
                              have BK348 := n2_
                              have GW348 := n3_
                              have GE348 := n4_
                              have NB332_348 := n5_
                              have NB348_332 := n6_
                              clear n0_ n1_ n2_ n3_ n4_ n5_ n6_
                              clear hb hbox hg
                              refine hK.out _ _ ⟨(blk_cell BK332.out 0).trans rfl, (blk_cell BK332.out 1).trans rfl, (blk_cell BK332.out 2).trans rfl, (blk_cell BK332.out 3).trans rfl, (blk_cell BK332.out 4).trans rfl, (blk_cell BK332.out 5).trans rfl, (blk_cell BK332.out 6).trans rfl⟩ (fun hHeld => ?_)
                              clear hK K
                              refine norm_ (a' := ?_) ?_ ?_
                              rotate_left
                              · show Act.put _ (some 19) _ = _
                                simp only [Act.put, List.setIfInBounds_toArray, List.set_cons_zero, List.set_cons_succ, i64_w, i32_w]
                                rfl
                              refine one_ (i := 3) (N := some 47) #[true, true, true, true, true, false] rfl rfl (by kernel_rfl) (by decide) (fun K hK => ?_)
                              refine goes_ Try.func24 (by kernel_rfl) rfl #[.agg #[.int .i64 t325, .int .u64 t326, .int .u64 t327, .int .u64 t328, .int .u64 t329, .int .u64 t330, .int .u64 t331], .agg #[.int .u64 t339, .int .u64 t340]] (by rfl) rfl rfl (by (try simp only [List.map_toArray, List.map_cons, List.map_nil]); first | done | rfl | (simp only [List.length_drop, List.length_take]; rfl)) ?_
                              with_reducible refine (cookie_Next.calls t325 t326 t327 t328 t329 t330 t331 t339 t340 t341 t342 t343 t344 t345 t346 t347 _ A22.out).mono ?_
                              rintro e w87 ⟨rfl, hb⟩
                              refine ⟨_, rfl, ?_⟩
                              have n0_ := Aside0.mk (blk_below (g := gb332) (o := .cells #[.int .i64 t325, .int .u64 t326, .int .u64 t327, .int .u64 t328, .int .u64 t329, .int .u64 t330, .int .u64 t331] 27 (0, 0)) (by (with_reducible repeat (first | refine blk_drewN ?_ _ | refine blk_drew ?_ | refine blk_alloc ?_ _)); exact BK332.out) hb)
                              have n1_ := Aside0.mk (blk_below (g := gb348) (o := .cells #[.int .i64 0, .int .u64 0, .int .u64 0, .int .u64 0, .int .u64 0, .int .u64 0, .int .u64 0] 27 (0, 0)) (by (with_reducible repeat (first | refine blk_drewN ?_ _ | refine blk_drew ?_ | refine blk_alloc ?_ _)); exact BK348.out) hb)
                              have n2_ := Aside0.mk (below_step (by repeat (first | (with_reducible first | exact HB.out | apply below_alloc | apply pw_below_drewN | apply below_drew1 | refine below_set ?_ GE332.out | refine below_set ?_ GE348.out) | exact HB.out)) hb)
                              clear BK332
                              clear BK348
                              clear HB
                              have BK332 := n0_
                              have BK348 := n1_
                              have HB := n2_
                              clear n0_ n1_ n2_
                              (try clear hb)
                              (try clear hb2)
                              (try clear hk)
                              (try clear hi)
                              refine hK.out _ _ ⟨(blk_cell BK332.out 0).trans rfl, (blk_cell BK332.out 1).trans rfl, (blk_cell BK332.out 2).trans rfl, (blk_cell BK332.out 3).trans rfl, (blk_cell BK332.out 4).trans rfl, (blk_cell BK332.out 5).trans rfl, (blk_cell BK332.out 6).trans rfl⟩ (fun hHeld => ?_)
                              clear hK K
                              refine norm_ (a' := ?_) ?_ ?_
                              rotate_left
                              · show Act.put _ (some 47) _ = _
                                simp only [Act.put, List.setIfInBounds_toArray, List.set_cons_zero, List.set_cons_succ, i64_w, i32_w]
                                rfl
                              exact norm_ (by simp only [putAll, Act.put, List.setIfInBounds_toArray, List.set_cons_zero, List.set_cons_succ]) (hCont (gb348) _ ⟨hHeld, (by (with_reducible repeat (first | refine blk_drewN ?_ _ | refine blk_drew ?_ | refine blk_alloc ?_ _)); exact BK332.out), (by (with_reducible repeat (first | refine blk_drewN ?_ _ | refine blk_drew ?_ | refine blk_alloc ?_ _)); exact BK348.out), GW348.out, GE348.out, NB332_348.out, NB348_332.out, (by repeat (first | (with_reducible first | exact HB.out | apply below_alloc | apply pw_below_drewN | apply below_drew1 | refine below_set ?_ GE332.out | refine below_set ?_ GE348.out) | exact HB.out))⟩)
                          · skip
                            refine box_step ?hg (N := 19) ?hd (cs := #[.int .i64 0, .int .u64 0, .int .u64 0, .int .u64 0, .int .u64 0, .int .u64 0, .int .u64 0]) (t := 27) ?hr ?_; (case hd => rfl); (case hg => rfl); (case hr => first | (go_simp; done) | (go_simp; rfl))
                            intro gb348 hg w85 hbox hb
                            have n0_ := Aside0.mk (blk_below (g := gb332) (o := .cells #[.int .i64 t325, .int .u64 t326, .int .u64 t327, .int .u64 t328, .int .u64 t329, .int .u64 t330, .int .u64 t331] 27 (0, 0)) (by (with_reducible repeat (first | refine blk_drewN ?_ _ | refine blk_drew ?_ | refine blk_alloc ?_ _)); exact BK332.out) hb)
                            have n1_ := Aside0.mk (below_step (by repeat (first | (with_reducible first | exact HB.out | apply below_alloc | apply pw_below_drewN | apply below_drew1 | refine below_set ?_ GE332.out) | exact HB.out)) hb)
                            have n2_ := Aside0.mk (hbox)
                            have n3_ := Aside0.mk ((by rw [hg]; exact (below_size (by repeat (first | (with_reducible first | exact HB.out | apply below_alloc | apply pw_below_drewN | apply below_drew1 | refine below_set ?_ GE332.out) | exact HB.out))) : w.heap.size ≤ gb348))
                            have n4_ := Aside0.mk ((by rw [hg]; exact (below_size (by repeat (first | (with_reducible first | exact HB.out | apply below_alloc | apply pw_below_drewN | apply below_drew1 | refine below_set ?_ GE332.out) | exact HB.out))) : w.heap.size ≤ gb348))
                            have n5_ := Aside0.mk ((by rw [hg]; exact Nat.ne_of_lt (blk_lt (g := gb332) (o := .cells #[.int .i64 t325, .int .u64 t326, .int .u64 t327, .int .u64 t328, .int .u64 t329, .int .u64 t330, .int .u64 t331] 27 (0, 0)) (by (with_reducible repeat (first | refine blk_drewN ?_ _ | refine blk_drew ?_ | refine blk_alloc ?_ _)); exact BK332.out)) : gb332 ≠ gb348))
                            have n6_ := Aside0.mk ((by rw [hg]; exact Nat.ne_of_gt (blk_lt (g := gb332) (o := .cells #[.int .i64 t325, .int .u64 t326, .int .u64 t327, .int .u64 t328, .int .u64 t329, .int .u64 t330, .int .u64 t331] 27 (0, 0)) (by (with_reducible repeat (first | refine blk_drewN ?_ _ | refine blk_drew ?_ | refine blk_alloc ?_ _)); exact BK332.out)) : gb348 ≠ gb332))
                            clear BK332
                            clear HB
                            have BK332 := n0_
                            have HB := n1_
                            have BK348 := n2_
                            have GW348 := n3_
                            have GE348 := n4_
                            have NB332_348 := n5_
                            have NB348_332 := n6_
                            clear n0_ n1_ n2_ n3_ n4_ n5_ n6_
                            clear hb hbox hg
                            refine hK.out _ _ ⟨(blk_cell BK332.out 0).trans rfl, (blk_cell BK332.out 1).trans rfl, (blk_cell BK332.out 2).trans rfl, (blk_cell BK332.out 3).trans rfl, (blk_cell BK332.out 4).trans rfl, (blk_cell BK332.out 5).trans rfl, (blk_cell BK332.out 6).trans rfl⟩ (fun hHeld => ?_)
                            clear hK K
                            refine norm_ (a' := ?_) ?_ ?_
                            rotate_left
                            · show Act.put _ (some 19) _ = _
                              simp only [Act.put, List.setIfInBounds_toArray, List.set_cons_zero, List.set_cons_succ, i64_w, i32_w]
                              rfl
                            refine one_ (i := 2) (N := some 46) #[true, true, true, false, true, false] rfl rfl (by kernel_rfl) (by decide) (fun K hK => ?_)
                            refine goes_ Try.func25 (by kernel_rfl) rfl #[.int .i64 a6] (by rfl) rfl rfl (by (try simp only [List.map_toArray, List.map_cons, List.map_nil]); first | done | rfl | (simp only [List.length_drop, List.length_take]; rfl)) ?_
                            with_reducible refine (roundhouselaw5_Key.calls a6 t339 t340 _ A21.out).mono ?_
                            rintro e w86 ⟨rfl, hb⟩
                            refine ⟨_, rfl, ?_⟩
                            have n0_ := Aside0.mk (blk_below (g := gb332) (o := .cells #[.int .i64 t325, .int .u64 t326, .int .u64 t327, .int .u64 t328, .int .u64 t329, .int .u64 t330, .int .u64 t331] 27 (0, 0)) (by (with_reducible repeat (first | refine blk_drewN ?_ _ | refine blk_drew ?_ | refine blk_alloc ?_ _)); exact BK332.out) hb)
                            have n1_ := Aside0.mk (blk_below (g := gb348) (o := .cells #[.int .i64 0, .int .u64 0, .int .u64 0, .int .u64 0, .int .u64 0, .int .u64 0, .int .u64 0] 27 (0, 0)) (by (with_reducible repeat (first | refine blk_drewN ?_ _ | refine blk_drew ?_ | refine blk_alloc ?_ _)); exact BK348.out) hb)
                            have n2_ := Aside0.mk (below_step (by repeat (first | (with_reducible first | exact HB.out | apply below_alloc | apply pw_below_drewN | apply below_drew1 | refine below_set ?_ GE332.out | refine below_set ?_ GE348.out) | exact HB.out)) hb)
                            clear BK332
                            clear BK348
                            clear HB
                            have BK332 := n0_
                            have BK348 := n1_
                            have HB := n2_
                            clear n0_ n1_ n2_
                            (try clear hb)
                            (try clear hb2)
                            (try clear hk)
                            (try clear hi)
                            refine hK.out _ _ ⟨(blk_cell BK332.out 0).trans rfl, (blk_cell BK332.out 1).trans rfl, (blk_cell BK332.out 2).trans rfl, (blk_cell BK332.out 3).trans rfl, (blk_cell BK332.out 4).trans rfl, (blk_cell BK332.out 5).trans rfl, (blk_cell BK332.out 6).trans rfl⟩ (fun hHeld => ?_)
                            clear hK K
                            refine norm_ (a' := ?_) ?_ ?_
                            rotate_left
                            · show Act.put _ (some 46) _ = _
                              simp only [Act.put, List.setIfInBounds_toArray, List.set_cons_zero, List.set_cons_succ, i64_w, i32_w]
                              rfl
                            refine one_ (i := 3) (N := some 47) #[true, true, true, true, true, false] rfl rfl (by kernel_rfl) (by decide) (fun K hK => ?_)
                            refine goes_ Try.func24 (by kernel_rfl) rfl #[.agg #[.int .i64 t325, .int .u64 t326, .int .u64 t327, .int .u64 t328, .int .u64 t329, .int .u64 t330, .int .u64 t331], .agg #[.int .u64 t339, .int .u64 t340]] (by rfl) rfl rfl (by (try simp only [List.map_toArray, List.map_cons, List.map_nil]); first | done | rfl | (simp only [List.length_drop, List.length_take]; rfl)) ?_
                            with_reducible refine (cookie_Next.calls t325 t326 t327 t328 t329 t330 t331 t339 t340 t341 t342 t343 t344 t345 t346 t347 _ A22.out).mono ?_
                            rintro e w87 ⟨rfl, hb⟩
                            refine ⟨_, rfl, ?_⟩
                            have n0_ := Aside0.mk (blk_below (g := gb332) (o := .cells #[.int .i64 t325, .int .u64 t326, .int .u64 t327, .int .u64 t328, .int .u64 t329, .int .u64 t330, .int .u64 t331] 27 (0, 0)) (by (with_reducible repeat (first | refine blk_drewN ?_ _ | refine blk_drew ?_ | refine blk_alloc ?_ _)); exact BK332.out) hb)
                            have n1_ := Aside0.mk (blk_below (g := gb348) (o := .cells #[.int .i64 0, .int .u64 0, .int .u64 0, .int .u64 0, .int .u64 0, .int .u64 0, .int .u64 0] 27 (0, 0)) (by (with_reducible repeat (first | refine blk_drewN ?_ _ | refine blk_drew ?_ | refine blk_alloc ?_ _)); exact BK348.out) hb)
                            have n2_ := Aside0.mk (below_step (by repeat (first | (with_reducible first | exact HB.out | apply below_alloc | apply pw_below_drewN | apply below_drew1 | refine below_set ?_ GE332.out | refine below_set ?_ GE348.out) | exact HB.out)) hb)
                            clear BK332
                            clear BK348
                            clear HB
                            have BK332 := n0_
                            have BK348 := n1_
                            have HB := n2_
                            clear n0_ n1_ n2_
                            (try clear hb)
                            (try clear hb2)
                            (try clear hk)
                            (try clear hi)
                            refine hK.out _ _ ⟨(blk_cell BK332.out 0).trans rfl, (blk_cell BK332.out 1).trans rfl, (blk_cell BK332.out 2).trans rfl, (blk_cell BK332.out 3).trans rfl, (blk_cell BK332.out 4).trans rfl, (blk_cell BK332.out 5).trans rfl, (blk_cell BK332.out 6).trans rfl⟩ (fun hHeld => ?_)
                            clear hK K
                            refine norm_ (a' := ?_) ?_ ?_
                            rotate_left
                            · show Act.put _ (some 47) _ = _
                              simp only [Act.put, List.setIfInBounds_toArray, List.set_cons_zero, List.set_cons_succ, i64_w, i32_w]
                              rfl
                            exact norm_ (by simp only [putAll, Act.put, List.setIfInBounds_toArray, List.set_cons_zero, List.set_cons_succ]) (hCont (gb348) _ ⟨hHeld, (by (with_reducible repeat (first | refine blk_drewN ?_ _ | refine blk_drew ?_ | refine blk_alloc ?_ _)); exact BK332.out), (by (with_reducible repeat (first | refine blk_drewN ?_ _ | refine blk_drew ?_ | refine blk_alloc ?_ _)); exact BK348.out), GW348.out, GE348.out, NB332_348.out, NB348_332.out, (by repeat (first | (with_reducible first | exact HB.out | apply below_alloc | apply pw_below_drewN | apply below_drew1 | refine below_set ?_ GE332.out | refine below_set ?_ GE348.out) | exact HB.out))⟩)
                        rintro gb348 w88 ⟨hS_, h0_, h1_, h2_, h3_, h4_, h5_, h6_⟩
                        have n0_ : Aside0 (w88.heap[gb332]? = some (.cells #[.int .i64 t325, .int .u64 t326, .int .u64 t327, .int .u64 t328, .int .u64 t329, .int .u64 t330, .int .u64 t331] 27 (0, 0))) := ⟨h0_⟩
                        have n1_ : Aside0 (w88.heap[gb348]? = some (.cells #[.int .i64 0, .int .u64 0, .int .u64 0, .int .u64 0, .int .u64 0, .int .u64 0, .int .u64 0] 27 (0, 0))) := ⟨h1_⟩
                        have n2_ : Aside0 (w.heap.size ≤ gb348) := ⟨h2_⟩
                        have n3_ : Aside0 (w.heap.size ≤ gb348) := ⟨h3_⟩
                        have n4_ : Aside0 (gb332 ≠ gb348) := ⟨h4_⟩
                        have n5_ : Aside0 (gb348 ≠ gb332) := ⟨h5_⟩
                        have n6_ : Aside0 (Below w.heap.size w w88) := ⟨h6_⟩
                        clear BK332
                        clear HB
                        clear h0_ h1_ h2_ h3_ h4_ h5_ h6_
                        have BK332 := n0_
                        have BK348 := n1_
                        have GW348 := n2_
                        have GE348 := n3_
                        have NB332_348 := n4_
                        have NB348_332 := n5_
                        have HB := n6_
                        clear n0_ n1_ n2_ n3_ n4_ n5_ n6_
                        have hHeld : w88.cell? ⟨gb332, 0, none⟩ = some (.int .i64 t325) ∧ w88.cell? ⟨gb332, 1, none⟩ = some (.int .u64 t326) ∧ w88.cell? ⟨gb332, 2, none⟩ = some (.int .u64 t327) ∧ w88.cell? ⟨gb332, 3, none⟩ = some (.int .u64 t328) ∧ w88.cell? ⟨gb332, 4, none⟩ = some (.int .u64 t329) ∧ w88.cell? ⟨gb332, 5, none⟩ = some (.int .u64 t330) ∧ w88.cell? ⟨gb332, 6, none⟩ = some (.int .u64 t331) := hS_
                        refine norm_ (a' := ?_) ?_ ?_
                        rotate_left
                        · simp only [putAll, Act.put, List.setIfInBounds_toArray, List.set_cons_zero, List.set_cons_succ]
                          rfl
                        refine one_ (i := 5) (N := none) #[true, true, true, true, true, true] rfl rfl (by kernel_rfl) (by decide) (fun K hK => ?_)
                        have hs89 : w88.cell? ⟨gb348, 0, none⟩ = some (.int .i64 0) := (blk_cell BK348.out 0).trans rfl
                        have hfs89 := blk_frozen BK348.out 0
                        have hns89_0 := NB332_348.out
                        have hms89_0 := NB348_332.out
                        have hs90 : w88.cell? ⟨gb348, 1, none⟩ = some (.int .u64 0) := (blk_cell BK348.out 1).trans rfl
                        have hfs90 := blk_frozen BK348.out 1
                        have hns90_0 := NB332_348.out
                        have hms90_0 := NB348_332.out
                        have hs91 : w88.cell? ⟨gb348, 2, none⟩ = some (.int .u64 0) := (blk_cell BK348.out 2).trans rfl
                        have hfs91 := blk_frozen BK348.out 2
                        have hns91_0 := NB332_348.out
                        have hms91_0 := NB348_332.out
                        have hs92 : w88.cell? ⟨gb348, 3, none⟩ = some (.int .u64 0) := (blk_cell BK348.out 3).trans rfl
                        have hfs92 := blk_frozen BK348.out 3
                        have hns92_0 := NB332_348.out
                        have hms92_0 := NB348_332.out
                        have hs93 : w88.cell? ⟨gb348, 4, none⟩ = some (.int .u64 0) := (blk_cell BK348.out 4).trans rfl
                        have hfs93 := blk_frozen BK348.out 4
                        have hns93_0 := NB332_348.out
                        have hms93_0 := NB348_332.out
                        have hs94 : w88.cell? ⟨gb348, 5, none⟩ = some (.int .u64 0) := (blk_cell BK348.out 5).trans rfl
                        have hfs94 := blk_frozen BK348.out 5
                        have hns94_0 := NB332_348.out
                        have hms94_0 := NB348_332.out
                        have hs95 : w88.cell? ⟨gb348, 6, none⟩ = some (.int .u64 0) := (blk_cell BK348.out 6).trans rfl
                        have hfs95 := blk_frozen BK348.out 6
                        have hns95_0 := NB332_348.out
                        have hms95_0 := NB348_332.out
                        refine skip_ (w1 := ?_) (by rfl) rfl ?_ ?_
                        rotate_left
                        · go_simp
                          rfl
                        refine hK.out _ _ ⟨((cell_far (p := ⟨gb348, _, none⟩) NB332_348.out _).trans (((cell_far (p := ⟨gb348, _, none⟩) NB332_348.out _).trans (((cell_far (p := ⟨gb348, _, none⟩) NB332_348.out _).trans (((cell_far (p := ⟨gb348, _, none⟩) NB332_348.out _).trans (((cell_far (p := ⟨gb348, _, none⟩) NB332_348.out _).trans (((cell_far (p := ⟨gb348, _, none⟩) NB332_348.out _).trans (((cell_far (p := ⟨gb348, _, none⟩) NB332_348.out _).trans (hHeld.1)))))))))))))), ((cell_far (p := ⟨gb348, _, none⟩) NB332_348.out _).trans (((cell_far (p := ⟨gb348, _, none⟩) NB332_348.out _).trans (((cell_far (p := ⟨gb348, _, none⟩) NB332_348.out _).trans (((cell_far (p := ⟨gb348, _, none⟩) NB332_348.out _).trans (((cell_far (p := ⟨gb348, _, none⟩) NB332_348.out _).trans (((cell_far (p := ⟨gb348, _, none⟩) NB332_348.out _).trans (((cell_far (p := ⟨gb348, _, none⟩) NB332_348.out _).trans (hHeld.2.1)))))))))))))), ((cell_far (p := ⟨gb348, _, none⟩) NB332_348.out _).trans (((cell_far (p := ⟨gb348, _, none⟩) NB332_348.out _).trans (((cell_far (p := ⟨gb348, _, none⟩) NB332_348.out _).trans (((cell_far (p := ⟨gb348, _, none⟩) NB332_348.out _).trans (((cell_far (p := ⟨gb348, _, none⟩) NB332_348.out _).trans (((cell_far (p := ⟨gb348, _, none⟩) NB332_348.out _).trans (((cell_far (p := ⟨gb348, _, none⟩) NB332_348.out _).trans (hHeld.2.2.1)))))))))))))), ((cell_far (p := ⟨gb348, _, none⟩) NB332_348.out _).trans (((cell_far (p := ⟨gb348, _, none⟩) NB332_348.out _).trans (((cell_far (p := ⟨gb348, _, none⟩) NB332_348.out _).trans (((cell_far (p := ⟨gb348, _, none⟩) NB332_348.out _).trans (((cell_far (p := ⟨gb348, _, none⟩) NB332_348.out _).trans (((cell_far (p := ⟨gb348, _, none⟩) NB332_348.out _).trans (((cell_far (p := ⟨gb348, _, none⟩) NB332_348.out _).trans (hHeld.2.2.2.1)))))))))))))), ((cell_far (p := ⟨gb348, _, none⟩) NB332_348.out _).trans (((cell_far (p := ⟨gb348, _, none⟩) NB332_348.out _).trans (((cell_far (p := ⟨gb348, _, none⟩) NB332_348.out _).trans (((cell_far (p := ⟨gb348, _, none⟩) NB332_348.out _).trans (((cell_far (p := ⟨gb348, _, none⟩) NB332_348.out _).trans (((cell_far (p := ⟨gb348, _, none⟩) NB332_348.out _).trans (((cell_far (p := ⟨gb348, _, none⟩) NB332_348.out _).trans (hHeld.2.2.2.2.1)))))))))))))), ((cell_far (p := ⟨gb348, _, none⟩) NB332_348.out _).trans (((cell_far (p := ⟨gb348, _, none⟩) NB332_348.out _).trans (((cell_far (p := ⟨gb348, _, none⟩) NB332_348.out _).trans (((cell_far (p := ⟨gb348, _, none⟩) NB332_348.out _).trans (((cell_far (p := ⟨gb348, _, none⟩) NB332_348.out _).trans (((cell_far (p := ⟨gb348, _, none⟩) NB332_348.out _).trans (((cell_far (p := ⟨gb348, _, none⟩) NB332_348.out _).trans (hHeld.2.2.2.2.2.1)))))))))))))), ((cell_far (p := ⟨gb348, _, none⟩) NB332_348.out _).trans (((cell_far (p := ⟨gb348, _, none⟩) NB332_348.out _).trans (((cell_far (p := ⟨gb348, _, none⟩) NB332_348.out _).trans (((cell_far (p := ⟨gb348, _, none⟩) NB332_348.out _).trans (((cell_far (p := ⟨gb348, _, none⟩) NB332_348.out _).trans (((cell_far (p := ⟨gb348, _, none⟩) NB332_348.out _).trans (((cell_far (p := ⟨gb348, _, none⟩) NB332_348.out _).trans (hHeld.2.2.2.2.2.2))))))))))))))⟩ (fun hHeld => ?_)
                        clear hK K
                        refine done_ (by kernel_rfl) ?_
                        try go_wp2
                        have n0_ : Aside0 ((((((((w88.setCell ⟨gb348, 0, none⟩ (.int .i64 t341)).setCell ⟨gb348, 1, none⟩ (.int .u64 t342)).setCell ⟨gb348, 2, none⟩ (.int .u64 t343)).setCell ⟨gb348, 3, none⟩ (.int .u64 t344)).setCell ⟨gb348, 4, none⟩ (.int .u64 t345)).setCell ⟨gb348, 5, none⟩ (.int .u64 t346)).setCell ⟨gb348, 6, none⟩ (.int .u64 t347)).heap[gb332]? = some (.cells #[.int .i64 t325, .int .u64 t326, .int .u64 t327, .int .u64 t328, .int .u64 t329, .int .u64 t330, .int .u64 t331] 27 (0, 0))) := ⟨by (with_reducible repeat (first | refine blk_drewN ?_ _ | refine blk_drew ?_ | refine blk_alloc ?_ _)); refine blk_far ?_ NB332_348.out _; (with_reducible repeat (first | refine blk_drewN ?_ _ | refine blk_drew ?_ | refine blk_alloc ?_ _)); refine blk_far ?_ NB332_348.out _; (with_reducible repeat (first | refine blk_drewN ?_ _ | refine blk_drew ?_ | refine blk_alloc ?_ _)); refine blk_far ?_ NB332_348.out _; (with_reducible repeat (first | refine blk_drewN ?_ _ | refine blk_drew ?_ | refine blk_alloc ?_ _)); refine blk_far ?_ NB332_348.out _; (with_reducible repeat (first | refine blk_drewN ?_ _ | refine blk_drew ?_ | refine blk_alloc ?_ _)); refine blk_far ?_ NB332_348.out _; (with_reducible repeat (first | refine blk_drewN ?_ _ | refine blk_drew ?_ | refine blk_alloc ?_ _)); refine blk_far ?_ NB332_348.out _; (with_reducible repeat (first | refine blk_drewN ?_ _ | refine blk_drew ?_ | refine blk_alloc ?_ _)); refine blk_far ?_ NB332_348.out _; (with_reducible repeat (first | refine blk_drewN ?_ _ | refine blk_drew ?_ | refine blk_alloc ?_ _)); exact BK332.out⟩
                        have n1_ : Aside0 ((((((((w88.setCell ⟨gb348, 0, none⟩ (.int .i64 t341)).setCell ⟨gb348, 1, none⟩ (.int .u64 t342)).setCell ⟨gb348, 2, none⟩ (.int .u64 t343)).setCell ⟨gb348, 3, none⟩ (.int .u64 t344)).setCell ⟨gb348, 4, none⟩ (.int .u64 t345)).setCell ⟨gb348, 5, none⟩ (.int .u64 t346)).setCell ⟨gb348, 6, none⟩ (.int .u64 t347)).heap[gb348]? = some (.cells #[.int .i64 t341, .int .u64 t342, .int .u64 t343, .int .u64 t344, .int .u64 t345, .int .u64 t346, .int .u64 t347] 27 (0, 0))) := ⟨by (with_reducible repeat (first | refine blk_drewN ?_ _ | refine blk_drew ?_ | refine blk_alloc ?_ _)); refine blk_put (cs := #[.int .i64 t341, .int .u64 t342, .int .u64 t343, .int .u64 t344, .int .u64 t345, .int .u64 t346, .int .u64 0]) ?_ 6 _ rfl; (with_reducible repeat (first | refine blk_drewN ?_ _ | refine blk_drew ?_ | refine blk_alloc ?_ _)); refine blk_put (cs := #[.int .i64 t341, .int .u64 t342, .int .u64 t343, .int .u64 t344, .int .u64 t345, .int .u64 0, .int .u64 0]) ?_ 5 _ rfl; (with_reducible repeat (first | refine blk_drewN ?_ _ | refine blk_drew ?_ | refine blk_alloc ?_ _)); refine blk_put (cs := #[.int .i64 t341, .int .u64 t342, .int .u64 t343, .int .u64 t344, .int .u64 0, .int .u64 0, .int .u64 0]) ?_ 4 _ rfl; (with_reducible repeat (first | refine blk_drewN ?_ _ | refine blk_drew ?_ | refine blk_alloc ?_ _)); refine blk_put (cs := #[.int .i64 t341, .int .u64 t342, .int .u64 t343, .int .u64 0, .int .u64 0, .int .u64 0, .int .u64 0]) ?_ 3 _ rfl; (with_reducible repeat (first | refine blk_drewN ?_ _ | refine blk_drew ?_ | refine blk_alloc ?_ _)); refine blk_put (cs := #[.int .i64 t341, .int .u64 t342, .int .u64 0, .int .u64 0, .int .u64 0, .int .u64 0, .int .u64 0]) ?_ 2 _ rfl; (with_reducible repeat (first | refine blk_drewN ?_ _ | refine blk_drew ?_ | refine blk_alloc ?_ _)); refine blk_put (cs := #[.int .i64 t341, .int .u64 0, .int .u64 0, .int .u64 0, .int .u64 0, .int .u64 0, .int .u64 0]) ?_ 1 _ rfl; (with_reducible repeat (first | refine blk_drewN ?_ _ | refine blk_drew ?_ | refine blk_alloc ?_ _)); refine blk_put (cs := #[.int .i64 0, .int .u64 0, .int .u64 0, .int .u64 0, .int .u64 0, .int .u64 0, .int .u64 0]) ?_ 0 _ rfl; (with_reducible repeat (first | refine blk_drewN ?_ _ | refine blk_drew ?_ | refine blk_alloc ?_ _)); exact BK348.out⟩
                        have n2_ : Aside0 (Below w.heap.size w (((((((w88.setCell ⟨gb348, 0, none⟩ (.int .i64 t341)).setCell ⟨gb348, 1, none⟩ (.int .u64 t342)).setCell ⟨gb348, 2, none⟩ (.int .u64 t343)).setCell ⟨gb348, 3, none⟩ (.int .u64 t344)).setCell ⟨gb348, 4, none⟩ (.int .u64 t345)).setCell ⟨gb348, 5, none⟩ (.int .u64 t346)).setCell ⟨gb348, 6, none⟩ (.int .u64 t347))) := ⟨by repeat (first | (with_reducible first | exact HB.out | apply below_alloc | apply pw_below_drewN | apply below_drew1 | refine below_set ?_ GE332.out | refine below_set ?_ GE348.out) | exact HB.out)⟩
                        (try clear BK332)
                        (try clear BK348)
                        (try clear HB)
                        generalize (((((((w88.setCell ⟨gb348, 0, none⟩ (.int .i64 t341)).setCell ⟨gb348, 1, none⟩ (.int .u64 t342)).setCell ⟨gb348, 2, none⟩ (.int .u64 t343)).setCell ⟨gb348, 3, none⟩ (.int .u64 t344)).setCell ⟨gb348, 4, none⟩ (.int .u64 t345)).setCell ⟨gb348, 5, none⟩ (.int .u64 t346)).setCell ⟨gb348, 6, none⟩ (.int .u64 t347)) = w96 at n0_ n1_ n2_ ⊢
                        have BK332 := n0_
                        have BK348 := n1_
                        have HB := n2_
                        clear n0_ n1_ n2_
                        have n0_ := Aside0.mk (blk_drew BK332.out)
                        have n1_ := Aside0.mk (blk_drew BK348.out)
                        have n2_ := Aside0.mk (below_drew1 HB.out)
                        clear BK332
                        clear BK348
                        clear HB
                        have BK332 := n0_
                        have BK348 := n1_
                        have HB := n2_
                        clear n0_ n1_ n2_
                        refine start_ (n := 12) (S := fun w' => w'.cell? ⟨gb348, 0, none⟩ = some (.int .i64 t341) ∧ w'.cell? ⟨gb348, 1, none⟩ = some (.int .u64 t342) ∧ w'.cell? ⟨gb348, 2, none⟩ = some (.int .u64 t343) ∧ w'.cell? ⟨gb348, 3, none⟩ = some (.int .u64 t344) ∧ w'.cell? ⟨gb348, 4, none⟩ = some (.int .u64 t345) ∧ w'.cell? ⟨gb348, 5, none⟩ = some (.int .u64 t346) ∧ w'.cell? ⟨gb348, 6, none⟩ = some (.int .u64 t347)) (ds := []) #[false, false, false, false, false, false, false, false, false, false, false, false] (by kernel_rfl) rfl rfl ⟨(blk_cell BK348.out 0).trans rfl, (blk_cell BK348.out 1).trans rfl, (blk_cell BK348.out 2).trans rfl, (blk_cell BK348.out 3).trans rfl, (blk_cell BK348.out 4).trans rfl, (blk_cell BK348.out 5).trans rfl, (blk_cell BK348.out 6).trans rfl⟩ (fun hHeld => ?_); refine with_tabW roundhouselaw5_CookieAges.tab10 roundhouselaw5_CookieAges.bits10 (fun HT_ HW_ => ?_)
                        generalize w96.drew = w97 at BK332 BK348 HB hHeld ⊢
                        refine pure_ (i := 1) (N := some 50) (v := ?_) (a' := ?_) #[false, true, false, false, false, false, false, false, false, false, false, false] rfl rfl (any_of HT_.out (by kernel_rfl)) (fun _ _ _ h => h) (Or.inl ⟨by rfl, ?_⟩) ?_ ?_
                        rotate_left
                        · intro w'
                          go_simp
                          with_reducible rfl
                        rotate_left
                        · simp only [Act.put, List.setIfInBounds_toArray, List.set_cons_zero, List.set_cons_succ, i64_w, i32_w]
                          rfl
                        refine pure_ (i := 2) (N := some 51) (v := ?_) (a' := ?_) #[false, true, true, false, false, false, false, false, false, false, false, false] rfl rfl (any_of HT_.out (by kernel_rfl)) (fun _ _ _ h => h) (Or.inl ⟨by rfl, ?_⟩) ?_ ?_
                        rotate_left
                        · intro w'
                          go_simp
                          with_reducible rfl
                        rotate_left
                        · simp only [Act.put, List.setIfInBounds_toArray, List.set_cons_zero, List.set_cons_succ, i64_w, i32_w]
                          rfl
                        refine pure_ (i := 3) (N := some 52) (v := ?_) (a' := ?_) #[false, true, true, true, false, false, false, false, false, false, false, false] rfl rfl (any_of HT_.out (by kernel_rfl)) (fun _ _ _ h => h) (Or.inl ⟨by rfl, ?_⟩) ?_ ?_
                        rotate_left
                        · intro w'
                          go_simp
                          with_reducible rfl
                        rotate_left
                        · simp only [Act.put, List.setIfInBounds_toArray, List.set_cons_zero, List.set_cons_succ, i64_w, i32_w]
                          rfl
                        refine pure_ (i := 5) (N := some 54) (v := ?_) (a' := ?_) #[false, true, true, true, false, true, false, false, false, false, false, false] rfl rfl (any_of HT_.out (by kernel_rfl)) (fun _ _ _ h => h) (Or.inl ⟨by rfl, ?_⟩) ?_ ?_
                        rotate_left
                        · intro w'
                          go_simp
                          with_reducible rfl
                        rotate_left
                        · simp only [Act.put, List.setIfInBounds_toArray, List.set_cons_zero, List.set_cons_succ, i64_w, i32_w]
                          rfl
                        refine take_ (i := 0) (N := some 49) (v := ?_) (a' := ?_) #[true, true, true, true, false, true, false, false, false, false, false, false] rfl rfl (take_ofW HT_.out HW_.out (by kernel_rfl)) (fun _ _ _ h => h) (Or.inl ⟨by rfl, ?_⟩) hHeld ?_ ?_
                        rotate_left
                        · rintro w' ⟨s0, s1, s2, s3, s4, s5, s6⟩
                          go_simp
                          with_reducible rfl
                        rotate_left
                        · simp only [Act.put, List.setIfInBounds_toArray, List.set_cons_zero, List.set_cons_succ, i64_w, i32_w]
                          rfl
                        refine one_ (i := 4) (N := some 53) #[true, true, true, true, true, true, false, false, false, false, false, false] rfl rfl (one_of HT_.out (by kernel_rfl)) (by decide) (fun K hK => ?_)
                        refine goes_ Try.func20 (by kernel_rfl) rfl #[.int .i64 a3, .int .i64 a4] (by rfl) rfl rfl (by (try simp only [List.map_toArray, List.map_cons, List.map_nil]); first | done | rfl | (simp only [List.length_drop, List.length_take]; rfl)) ?_
                        with_reducible refine (roundhouselaw5_Flow.calls a3 a4 t349 t350 t351 t352 _ A23.out).mono ?_
                        rintro e w98 ⟨rfl, hb⟩
                        refine ⟨_, rfl, ?_⟩
                        have n0_ := Aside0.mk (blk_below (g := gb332) (o := .cells #[.int .i64 t325, .int .u64 t326, .int .u64 t327, .int .u64 t328, .int .u64 t329, .int .u64 t330, .int .u64 t331] 27 (0, 0)) (by (with_reducible repeat (first | refine blk_drewN ?_ _ | refine blk_drew ?_ | refine blk_alloc ?_ _)); exact BK332.out) hb)
                        have n1_ := Aside0.mk (blk_below (g := gb348) (o := .cells #[.int .i64 t341, .int .u64 t342, .int .u64 t343, .int .u64 t344, .int .u64 t345, .int .u64 t346, .int .u64 t347] 27 (0, 0)) (by (with_reducible repeat (first | refine blk_drewN ?_ _ | refine blk_drew ?_ | refine blk_alloc ?_ _)); exact BK348.out) hb)
                        have n2_ := Aside0.mk (below_step (by repeat (first | (with_reducible first | exact HB.out | apply below_alloc | apply pw_below_drewN | apply below_drew1 | refine below_set ?_ GE332.out | refine below_set ?_ GE348.out) | exact HB.out)) hb)
                        clear BK332
                        clear BK348
                        clear HB
                        have BK332 := n0_
                        have BK348 := n1_
                        have HB := n2_
                        clear n0_ n1_ n2_
                        (try clear hb)
                        (try clear hb2)
                        (try clear hk)
                        (try clear hi)
                        refine hK.out _ _ ⟨(blk_cell BK348.out 0).trans rfl, (blk_cell BK348.out 1).trans rfl, (blk_cell BK348.out 2).trans rfl, (blk_cell BK348.out 3).trans rfl, (blk_cell BK348.out 4).trans rfl, (blk_cell BK348.out 5).trans rfl, (blk_cell BK348.out 6).trans rfl⟩ (fun hHeld => ?_)
                        clear hK K
                        refine norm_ (a' := ?_) ?_ ?_
                        rotate_left
                        · show Act.put _ (some 53) _ = _
                          simp only [Act.put, List.setIfInBounds_toArray, List.set_cons_zero, List.set_cons_succ, i64_w, i32_w]
                          rfl
                        refine one_ (i := 6) (N := some 55) #[true, true, true, true, true, true, true, false, false, false, false, false] rfl rfl (one_of HT_.out (by kernel_rfl)) (by decide) (fun K hK => ?_)
                        refine goes_ Try.func21 (by kernel_rfl) rfl #[.agg #[.int .i64 t341, .int .u64 t342, .int .u64 t343, .int .u64 t344, .int .u64 t345, .int .u64 t346, .int .u64 t347], .int .i64 x16_11, .agg #[.int .i64 t349, .int .i64 t350, .int .i64 t351, .int .i64 t352], .int .i64 t338] (by rfl) rfl rfl (by (try simp only [List.map_toArray, List.map_cons, List.map_nil]); first | done | rfl | (simp only [List.length_drop, List.length_take]; rfl)) ?_
                        with_reducible refine (cookie_Read.calls kj11 t341 t342 t343 t344 t345 t346 t347 x16_11 t349 t350 t351 t352 t338 t353 true _ A24.out).mono ?_
                        rintro e w99 ⟨rfl, hb⟩
                        refine ⟨_, rfl, ?_⟩
                        have n0_ := Aside0.mk (blk_below (g := gb332) (o := .cells #[.int .i64 t325, .int .u64 t326, .int .u64 t327, .int .u64 t328, .int .u64 t329, .int .u64 t330, .int .u64 t331] 27 (0, 0)) (by (with_reducible repeat (first | refine blk_drewN ?_ _ | refine blk_drew ?_ | refine blk_alloc ?_ _)); exact BK332.out) hb)
                        have n1_ := Aside0.mk (blk_below (g := gb348) (o := .cells #[.int .i64 t341, .int .u64 t342, .int .u64 t343, .int .u64 t344, .int .u64 t345, .int .u64 t346, .int .u64 t347] 27 (0, 0)) (by (with_reducible repeat (first | refine blk_drewN ?_ _ | refine blk_drew ?_ | refine blk_alloc ?_ _)); exact BK348.out) hb)
                        have n2_ := Aside0.mk (below_step (by repeat (first | (with_reducible first | exact HB.out | apply below_alloc | apply pw_below_drewN | apply below_drew1 | refine below_set ?_ GE332.out | refine below_set ?_ GE348.out) | exact HB.out)) hb)
                        clear BK332
                        clear BK348
                        clear HB
                        have BK332 := n0_
                        have BK348 := n1_
                        have HB := n2_
                        clear n0_ n1_ n2_
                        (try clear hb)
                        (try clear hb2)
                        (try clear hk)
                        (try clear hi)
                        refine hK.out _ _ ⟨(blk_cell BK348.out 0).trans rfl, (blk_cell BK348.out 1).trans rfl, (blk_cell BK348.out 2).trans rfl, (blk_cell BK348.out 3).trans rfl, (blk_cell BK348.out 4).trans rfl, (blk_cell BK348.out 5).trans rfl, (blk_cell BK348.out 6).trans rfl⟩ (fun hHeld => ?_)
                        clear hK K
                        refine norm_ (a' := ?_) ?_ ?_
                        rotate_left
                        · show Act.put _ (some 55) _ = _
                          simp only [Act.put, List.setIfInBounds_toArray, List.set_cons_zero, List.set_cons_succ, i64_w, i32_w]
                          rfl
                        refine pure_ (i := 7) (N := some 48) (v := ?_) (a' := ?_) #[true, true, true, true, true, true, true, true, false, false, false, false] rfl rfl (any_of HT_.out (by kernel_rfl)) (fun _ _ _ h => h) (Or.inl ⟨by rfl, ?_⟩) ?_ ?_
                        rotate_left
                        · intro w'
                          go_simp
                          with_reducible rfl
                        rotate_left
                        · simp only [Act.put, List.setIfInBounds_toArray, List.set_cons_zero, List.set_cons_succ, i64_w, i32_w]
                          rfl
                        refine pure_ (i := 8) (N := some 56) (v := ?_) (a' := ?_) #[true, true, true, true, true, true, true, true, true, false, false, false] rfl rfl (any_of HT_.out (by kernel_rfl)) (fun _ _ _ h => h) (Or.inl ⟨by rfl, ?_⟩) ?_ ?_
                        rotate_left
                        · intro w'
                          go_simp
                          with_reducible rfl
                        rotate_left
                        · simp only [Act.put, List.setIfInBounds_toArray, List.set_cons_zero, List.set_cons_succ, i64_w, i32_w]
                          rfl
                        refine pure_ (i := 9) (N := some 57) (v := ?_) (a' := ?_) #[true, true, true, true, true, true, true, true, true, true, false, false] rfl rfl (any_of HT_.out (by kernel_rfl)) (fun _ _ _ h => h) (Or.inl ⟨by rfl, ?_⟩) ?_ ?_
                        rotate_left
                        · intro w'
                          go_simp
                          with_reducible rfl
                        rotate_left
                        · simp only [Act.put, List.setIfInBounds_toArray, List.set_cons_zero, List.set_cons_succ, i64_w, i32_w]
                          rfl
                        refine pure_ (i := 10) (N := some 20) (v := ?_) (a' := ?_) #[true, true, true, true, true, true, true, true, true, true, true, false] rfl rfl (any_of HT_.out (by kernel_rfl)) (fun _ _ _ h => h) (Or.inl ⟨by rfl, ?_⟩) ?_ ?_
                        rotate_left
                        · intro w'
                          go_simp
                          with_reducible rfl
                        rotate_left
                        · simp only [Act.put, List.setIfInBounds_toArray, List.set_cons_zero, List.set_cons_succ, i64_w, i32_w]
                          rfl
                        refine pure_ (i := 11) (N := some 21) (v := ?_) (a' := ?_) #[true, true, true, true, true, true, true, true, true, true, true, true] rfl rfl (any_of HT_.out (by kernel_rfl)) (fun _ _ _ h => h) (Or.inl ⟨by rfl, ?_⟩) ?_ ?_
                        rotate_left
                        · intro w'
                          go_simp
                          with_reducible rfl
                        rotate_left
                        · simp only [Act.put, List.setIfInBounds_toArray, List.set_cons_zero, List.set_cons_succ, i64_w, i32_w]
                          rfl
                        refine done_ (done_of HT_.out (by kernel_rfl)) ?_
                        try go_wp2
                        have n0_ := Aside0.mk (blk_drew BK332.out)
                        have n1_ := Aside0.mk (blk_drew BK348.out)
                        have n2_ := Aside0.mk (below_drew1 HB.out)
                        clear BK332
                        clear BK348
                        clear HB
                        have BK332 := n0_
                        have BK348 := n1_
                        have HB := n2_
                        clear n0_ n1_ n2_
                        refine start_ (n := 12) (S := fun w' => w'.cell? ⟨gb332, 0, none⟩ = some (.int .i64 t325) ∧ w'.cell? ⟨gb332, 1, none⟩ = some (.int .u64 t326) ∧ w'.cell? ⟨gb332, 2, none⟩ = some (.int .u64 t327) ∧ w'.cell? ⟨gb332, 3, none⟩ = some (.int .u64 t328) ∧ w'.cell? ⟨gb332, 4, none⟩ = some (.int .u64 t329) ∧ w'.cell? ⟨gb332, 5, none⟩ = some (.int .u64 t330) ∧ w'.cell? ⟨gb332, 6, none⟩ = some (.int .u64 t331)) (ds := []) #[false, false, false, false, false, false, false, false, false, false, false, false] (by kernel_rfl) rfl rfl ⟨(blk_cell BK332.out 0).trans rfl, (blk_cell BK332.out 1).trans rfl, (blk_cell BK332.out 2).trans rfl, (blk_cell BK332.out 3).trans rfl, (blk_cell BK332.out 4).trans rfl, (blk_cell BK332.out 5).trans rfl, (blk_cell BK332.out 6).trans rfl⟩ (fun hHeld => ?_); refine with_tabW roundhouselaw5_CookieAges.tab11 roundhouselaw5_CookieAges.bits11 (fun HT_ HW_ => ?_)
                        generalize w99.drew = w100 at BK332 BK348 HB hHeld ⊢
                        refine pure_ (i := 0) (N := some 58) (v := ?_) (a' := ?_) #[true, false, false, false, false, false, false, false, false, false, false, false] rfl rfl (any_of HT_.out (by kernel_rfl)) (fun _ _ _ h => h) (Or.inl ⟨by rfl, ?_⟩) ?_ ?_
                        rotate_left
                        · intro w'
                          go_simp
                          with_reducible rfl
                        rotate_left
                        · simp only [Act.put, List.setIfInBounds_toArray, List.set_cons_zero, List.set_cons_succ, i64_w, i32_w]
                          rfl
                        refine pure_ (i := 3) (N := some 61) (v := ?_) (a' := ?_) #[true, false, false, true, false, false, false, false, false, false, false, false] rfl rfl (any_of HT_.out (by kernel_rfl)) (fun _ _ _ h => h) (Or.inl ⟨by rfl, ?_⟩) ?_ ?_
                        rotate_left
                        · intro w'
                          go_simp
                          with_reducible rfl
                        rotate_left
                        · simp only [Act.put, List.setIfInBounds_toArray, List.set_cons_zero, List.set_cons_succ, i64_w, i32_w]
                          rfl
                        refine pure_ (i := 5) (N := some 63) (v := ?_) (a' := ?_) #[true, false, false, true, false, true, false, false, false, false, false, false] rfl rfl (any_of HT_.out (by kernel_rfl)) (fun _ _ _ h => h) (Or.inl ⟨by rfl, ?_⟩) ?_ ?_
                        rotate_left
                        · intro w'
                          go_simp
                          with_reducible rfl
                        rotate_left
                        · simp only [Act.put, List.setIfInBounds_toArray, List.set_cons_zero, List.set_cons_succ, i64_w, i32_w]
                          rfl
                        refine pure_ (i := 7) (N := some 65) (v := ?_) (a' := ?_) #[true, false, false, true, false, true, false, true, false, false, false, false] rfl rfl (any_of HT_.out (by kernel_rfl)) (fun _ _ _ h => h) (Or.inl ⟨by rfl, ?_⟩) ?_ ?_
                        rotate_left
                        · intro w'
                          go_simp
                          with_reducible rfl
                        rotate_left
                        · simp only [Act.put, List.setIfInBounds_toArray, List.set_cons_zero, List.set_cons_succ, i64_w, i32_w]
                          rfl
                        refine take_ (i := 1) (N := some 59) (v := ?_) (a' := ?_) #[true, true, false, true, false, true, false, true, false, false, false, false] rfl rfl (take_ofW HT_.out HW_.out (by kernel_rfl)) (fun _ _ _ h => h) (Or.inl ⟨by rfl, ?_⟩) hHeld ?_ ?_
                        rotate_left
                        · rintro w' ⟨s0, s1, s2, s3, s4, s5, s6⟩
                          go_simp
                          with_reducible rfl
                        rotate_left
                        · simp only [Act.put, List.setIfInBounds_toArray, List.set_cons_zero, List.set_cons_succ, i64_w, i32_w]
                          rfl
                        refine pure_ (i := 2) (N := some 60) (v := ?_) (a' := ?_) #[true, true, true, true, false, true, false, true, false, false, false, false] rfl rfl (any_of HT_.out (by kernel_rfl)) (fun _ _ _ h => h) (Or.inl ⟨by rfl, ?_⟩) ?_ ?_
                        rotate_left
                        · intro w'
                          go_simp
                          with_reducible rfl
                        rotate_left
                        · simp only [Act.put, List.setIfInBounds_toArray, List.set_cons_zero, List.set_cons_succ, i64_w, i32_w]
                          rfl
                        refine take_ (i := 6) (N := some 64) (v := ?_) (a' := ?_) #[true, true, true, true, false, true, true, true, false, false, false, false] rfl rfl (take_ofW HT_.out HW_.out (by kernel_rfl)) (fun _ _ _ h => h) (Or.inl ⟨by rfl, ?_⟩) hHeld ?_ ?_
                        rotate_left
                        · rintro w' ⟨s0, s1, s2, s3, s4, s5, s6⟩
                          go_simp
                          with_reducible rfl
                        rotate_left
                        · simp only [Act.put, List.setIfInBounds_toArray, List.set_cons_zero, List.set_cons_succ, i64_w, i32_w]
                          rfl
                        refine take_ (i := 8) (N := some 66) (v := ?_) (a' := ?_) #[true, true, true, true, false, true, true, true, true, false, false, false] rfl rfl (take_ofW HT_.out HW_.out (by kernel_rfl)) (fun _ _ _ h => h) (Or.inl ⟨by rfl, ?_⟩) hHeld ?_ ?_
                        rotate_left
                        · rintro w' ⟨s0, s1, s2, s3, s4, s5, s6⟩
                          go_simp
                          with_reducible rfl
                        rotate_left
                        · simp only [Act.put, List.setIfInBounds_toArray, List.set_cons_zero, List.set_cons_succ, i64_w, i32_w]
                          rfl
                        refine join_ (σ := Nat) 1 #[true, true, true, true, true, true, true, true, true, true, true, false] (fun s_ => [(62, .agg #[.int .u64 t355, .int .u64 t356]), (22, .pointer (some ⟨s_, 0, none⟩)), (67, .agg #[.int .i64 (wrap64 (t325 - 1)), .int .u64 t355, .int .u64 t356, .int .u64 t326, .int .u64 t327, .int .u64 t328, .int .u64 t329])]) (fun s_ w' => (w'.cell? ⟨gb332, 0, none⟩ = some (.int .i64 t325) ∧ w'.cell? ⟨gb332, 1, none⟩ = some (.int .u64 t326) ∧ w'.cell? ⟨gb332, 2, none⟩ = some (.int .u64 t327) ∧ w'.cell? ⟨gb332, 3, none⟩ = some (.int .u64 t328) ∧ w'.cell? ⟨gb332, 4, none⟩ = some (.int .u64 t329) ∧ w'.cell? ⟨gb332, 5, none⟩ = some (.int .u64 t330) ∧ w'.cell? ⟨gb332, 6, none⟩ = some (.int .u64 t331)) ∧ (w'.heap[gb332]? = some (.cells #[.int .i64 t325, .int .u64 t326, .int .u64 t327, .int .u64 t328, .int .u64 t329, .int .u64 t330, .int .u64 t331] 27 (0, 0))) ∧ (w'.heap[gb348]? = some (.cells #[.int .i64 t341, .int .u64 t342, .int .u64 t343, .int .u64 t344, .int .u64 t345, .int .u64 t346, .int .u64 t347] 27 (0, 0))) ∧ (w'.heap[s_]? = some (.cells #[.int .i64 0, .int .u64 0, .int .u64 0, .int .u64 0, .int .u64 0, .int .u64 0, .int .u64 0] 27 (0, 0))) ∧ (w.heap.size ≤ s_) ∧ (w.heap.size ≤ s_) ∧ (gb332 ≠ s_) ∧ (s_ ≠ gb332) ∧ (gb348 ≠ s_) ∧ (s_ ≠ gb348) ∧ (Below w.heap.size w w')) ?_ ?_
                        rotate_left
                        · intro hCont
                          refine two_ (i := 4) (j := 10) (Ni := some 62) (Nj := some 22) #[true, true, true, true, true, true, true, true, true, false, false, false] #[true, true, true, true, false, true, true, true, true, false, true, false] rfl rfl rfl rfl (two_of HT_.out (by kernel_rfl)) (by decide) (by decide) (fun K hK => ?_) (fun K hK => ?_)
                          · skip
                            refine goes_ Try.func25 (by kernel_rfl) rfl #[.int .i64 a6] (by rfl) rfl rfl (by (try simp only [List.map_toArray, List.map_cons, List.map_nil]); first | done | rfl | (simp only [List.length_drop, List.length_take]; rfl)) ?_
                            with_reducible refine (roundhouselaw5_Key.calls a6 t355 t356 _ A25.out).mono ?_
                            rintro e w101 ⟨rfl, hb⟩
                            refine ⟨_, rfl, ?_⟩
                            have n0_ := Aside0.mk (blk_below (g := gb332) (o := .cells #[.int .i64 t325, .int .u64 t326, .int .u64 t327, .int .u64 t328, .int .u64 t329, .int .u64 t330, .int .u64 t331] 27 (0, 0)) (by (with_reducible repeat (first | refine blk_drewN ?_ _ | refine blk_drew ?_ | refine blk_alloc ?_ _)); exact BK332.out) hb)
                            have n1_ := Aside0.mk (blk_below (g := gb348) (o := .cells #[.int .i64 t341, .int .u64 t342, .int .u64 t343, .int .u64 t344, .int .u64 t345, .int .u64 t346, .int .u64 t347] 27 (0, 0)) (by (with_reducible repeat (first | refine blk_drewN ?_ _ | refine blk_drew ?_ | refine blk_alloc ?_ _)); exact BK348.out) hb)
                            have n2_ := Aside0.mk (below_step (by repeat (first | (with_reducible first | exact HB.out | apply below_alloc | apply pw_below_drewN | apply below_drew1 | refine below_set ?_ GE332.out | refine below_set ?_ GE348.out) | exact HB.out)) hb)
                            clear BK332
                            clear BK348
                            clear HB
                            have BK332 := n0_
                            have BK348 := n1_
                            have HB := n2_
                            clear n0_ n1_ n2_
                            (try clear hb)
                            (try clear hb2)
                            (try clear hk)
                            (try clear hi)
                            refine hK.out _ _ ⟨(blk_cell BK332.out 0).trans rfl, (blk_cell BK332.out 1).trans rfl, (blk_cell BK332.out 2).trans rfl, (blk_cell BK332.out 3).trans rfl, (blk_cell BK332.out 4).trans rfl, (blk_cell BK332.out 5).trans rfl, (blk_cell BK332.out 6).trans rfl⟩ (fun hHeld => ?_)
                            clear hK K
                            refine norm_ (a' := ?_) ?_ ?_
                            rotate_left
                            · show Act.put _ (some 62) _ = _
                              simp only [Act.put, List.setIfInBounds_toArray, List.set_cons_zero, List.set_cons_succ, i64_w, i32_w]
                              rfl
                            refine pure_ (i := 9) (N := some 67) (v := ?_) (a' := ?_) #[true, true, true, true, true, true, true, true, true, true, false, false] rfl rfl (any_of HT_.out (by kernel_rfl)) (fun _ _ _ h => h) (Or.inl ⟨by rfl, ?_⟩) ?_ ?_
                            rotate_left
                            · intro w'
                              go_simp
                              with_reducible rfl
                            rotate_left
                            · simp only [Act.put, List.setIfInBounds_toArray, List.set_cons_zero, List.set_cons_succ, i64_w, i32_w]
                              rfl
                            refine one_ (i := 10) (N := some 22) #[true, true, true, true, true, true, true, true, true, true, true, false] rfl rfl (one_of HT_.out (by kernel_rfl)) (by decide) (fun K hK => ?_)
                            refine box_step ?hg (N := 22) ?hd (cs := #[.int .i64 0, .int .u64 0, .int .u64 0, .int .u64 0, .int .u64 0, .int .u64 0, .int .u64 0]) (t := 27) ?hr ?_; (case hd => rfl); (case hg => rfl); (case hr => first | (go_simp; done) | (go_simp; rfl))
                            intro gb357 hg w102 hbox hb
                            have n0_ := Aside0.mk (blk_below (g := gb332) (o := .cells #[.int .i64 t325, .int .u64 t326, .int .u64 t327, .int .u64 t328, .int .u64 t329, .int .u64 t330, .int .u64 t331] 27 (0, 0)) (by (with_reducible repeat (first | refine blk_drewN ?_ _ | refine blk_drew ?_ | refine blk_alloc ?_ _)); exact BK332.out) hb)
                            have n1_ := Aside0.mk (blk_below (g := gb348) (o := .cells #[.int .i64 t341, .int .u64 t342, .int .u64 t343, .int .u64 t344, .int .u64 t345, .int .u64 t346, .int .u64 t347] 27 (0, 0)) (by (with_reducible repeat (first | refine blk_drewN ?_ _ | refine blk_drew ?_ | refine blk_alloc ?_ _)); exact BK348.out) hb)
                            have n2_ := Aside0.mk (below_step (by repeat (first | (with_reducible first | exact HB.out | apply below_alloc | apply pw_below_drewN | apply below_drew1 | refine below_set ?_ GE332.out | refine below_set ?_ GE348.out) | exact HB.out)) hb)
                            have n3_ := Aside0.mk (hbox)
                            have n4_ := Aside0.mk ((by rw [hg]; exact (below_size (by repeat (first | (with_reducible first | exact HB.out | apply below_alloc | apply pw_below_drewN | apply below_drew1 | refine below_set ?_ GE332.out | refine below_set ?_ GE348.out) | exact HB.out))) : w.heap.size ≤ gb357))
                            have n5_ := Aside0.mk ((by rw [hg]; exact (below_size (by repeat (first | (with_reducible first | exact HB.out | apply below_alloc | apply pw_below_drewN | apply below_drew1 | refine below_set ?_ GE332.out | refine below_set ?_ GE348.out) | exact HB.out))) : w.heap.size ≤ gb357))
                            have n6_ := Aside0.mk ((by rw [hg]; exact Nat.ne_of_lt (blk_lt (g := gb332) (o := .cells #[.int .i64 t325, .int .u64 t326, .int .u64 t327, .int .u64 t328, .int .u64 t329, .int .u64 t330, .int .u64 t331] 27 (0, 0)) (by (with_reducible repeat (first | refine blk_drewN ?_ _ | refine blk_drew ?_ | refine blk_alloc ?_ _)); exact BK332.out)) : gb332 ≠ gb357))
                            have n7_ := Aside0.mk ((by rw [hg]; exact Nat.ne_of_gt (blk_lt (g := gb332) (o := .cells #[.int .i64 t325, .int .u64 t326, .int .u64 t327, .int .u64 t328, .int .u64 t329, .int .u64 t330, .int .u64 t331] 27 (0, 0)) (by (with_reducible repeat (first | refine blk_drewN ?_ _ | refine blk_drew ?_ | refine blk_alloc ?_ _)); exact BK332.out)) : gb357 ≠ gb332))
                            have n8_ := Aside0.mk ((by rw [hg]; exact Nat.ne_of_lt (blk_lt (g := gb348) (o := .cells #[.int .i64 t341, .int .u64 t342, .int .u64 t343, .int .u64 t344, .int .u64 t345, .int .u64 t346, .int .u64 t347] 27 (0, 0)) (by (with_reducible repeat (first | refine blk_drewN ?_ _ | refine blk_drew ?_ | refine blk_alloc ?_ _)); exact BK348.out)) : gb348 ≠ gb357))
                            have n9_ := Aside0.mk ((by rw [hg]; exact Nat.ne_of_gt (blk_lt (g := gb348) (o := .cells #[.int .i64 t341, .int .u64 t342, .int .u64 t343, .int .u64 t344, .int .u64 t345, .int .u64 t346, .int .u64 t347] 27 (0, 0)) (by (with_reducible repeat (first | refine blk_drewN ?_ _ | refine blk_drew ?_ | refine blk_alloc ?_ _)); exact BK348.out)) : gb357 ≠ gb348))
                            clear BK332
                            clear BK348
                            clear HB
                            have BK332 := n0_
                            have BK348 := n1_
                            have HB := n2_
                            have BK357 := n3_
                            have GW357 := n4_
                            have GE357 := n5_
                            have NB332_357 := n6_
                            have NB357_332 := n7_
                            have NB348_357 := n8_
                            have NB357_348 := n9_
                            clear n0_ n1_ n2_ n3_ n4_ n5_ n6_ n7_ n8_ n9_
                            clear hb hbox hg
                            refine hK.out _ _ ⟨(blk_cell BK332.out 0).trans rfl, (blk_cell BK332.out 1).trans rfl, (blk_cell BK332.out 2).trans rfl, (blk_cell BK332.out 3).trans rfl, (blk_cell BK332.out 4).trans rfl, (blk_cell BK332.out 5).trans rfl, (blk_cell BK332.out 6).trans rfl⟩ (fun hHeld => ?_)
                            clear hK K
                            refine norm_ (a' := ?_) ?_ ?_
                            rotate_left
                            · show Act.put _ (some 22) _ = _
                              simp only [Act.put, List.setIfInBounds_toArray, List.set_cons_zero, List.set_cons_succ, i64_w, i32_w]
                              rfl
                            exact norm_ (by simp only [putAll, Act.put, List.setIfInBounds_toArray, List.set_cons_zero, List.set_cons_succ]) (hCont (gb357) _ ⟨hHeld, (by (with_reducible repeat (first | refine blk_drewN ?_ _ | refine blk_drew ?_ | refine blk_alloc ?_ _)); exact BK332.out), (by (with_reducible repeat (first | refine blk_drewN ?_ _ | refine blk_drew ?_ | refine blk_alloc ?_ _)); exact BK348.out), (by (with_reducible repeat (first | refine blk_drewN ?_ _ | refine blk_drew ?_ | refine blk_alloc ?_ _)); exact BK357.out), GW357.out, GE357.out, NB332_357.out, NB357_332.out, NB348_357.out, NB357_348.out, (by repeat (first | (with_reducible first | exact HB.out | apply below_alloc | apply pw_below_drewN | apply below_drew1 | refine below_set ?_ GE332.out | refine below_set ?_ GE348.out | refine below_set ?_ GE357.out) | exact HB.out))⟩)
                          · skip
                            refine box_step ?hg (N := 22) ?hd (cs := #[.int .i64 0, .int .u64 0, .int .u64 0, .int .u64 0, .int .u64 0, .int .u64 0, .int .u64 0]) (t := 27) ?hr ?_; (case hd => rfl); (case hg => rfl); (case hr => first | (go_simp; done) | (go_simp; rfl))
                            intro gb357 hg w101 hbox hb
                            have n0_ := Aside0.mk (blk_below (g := gb332) (o := .cells #[.int .i64 t325, .int .u64 t326, .int .u64 t327, .int .u64 t328, .int .u64 t329, .int .u64 t330, .int .u64 t331] 27 (0, 0)) (by (with_reducible repeat (first | refine blk_drewN ?_ _ | refine blk_drew ?_ | refine blk_alloc ?_ _)); exact BK332.out) hb)
                            have n1_ := Aside0.mk (blk_below (g := gb348) (o := .cells #[.int .i64 t341, .int .u64 t342, .int .u64 t343, .int .u64 t344, .int .u64 t345, .int .u64 t346, .int .u64 t347] 27 (0, 0)) (by (with_reducible repeat (first | refine blk_drewN ?_ _ | refine blk_drew ?_ | refine blk_alloc ?_ _)); exact BK348.out) hb)
                            have n2_ := Aside0.mk (below_step (by repeat (first | (with_reducible first | exact HB.out | apply below_alloc | apply pw_below_drewN | apply below_drew1 | refine below_set ?_ GE332.out | refine below_set ?_ GE348.out) | exact HB.out)) hb)
                            have n3_ := Aside0.mk (hbox)
                            have n4_ := Aside0.mk ((by rw [hg]; exact (below_size (by repeat (first | (with_reducible first | exact HB.out | apply below_alloc | apply pw_below_drewN | apply below_drew1 | refine below_set ?_ GE332.out | refine below_set ?_ GE348.out) | exact HB.out))) : w.heap.size ≤ gb357))
                            have n5_ := Aside0.mk ((by rw [hg]; exact (below_size (by repeat (first | (with_reducible first | exact HB.out | apply below_alloc | apply pw_below_drewN | apply below_drew1 | refine below_set ?_ GE332.out | refine below_set ?_ GE348.out) | exact HB.out))) : w.heap.size ≤ gb357))
                            have n6_ := Aside0.mk ((by rw [hg]; exact Nat.ne_of_lt (blk_lt (g := gb332) (o := .cells #[.int .i64 t325, .int .u64 t326, .int .u64 t327, .int .u64 t328, .int .u64 t329, .int .u64 t330, .int .u64 t331] 27 (0, 0)) (by (with_reducible repeat (first | refine blk_drewN ?_ _ | refine blk_drew ?_ | refine blk_alloc ?_ _)); exact BK332.out)) : gb332 ≠ gb357))
                            have n7_ := Aside0.mk ((by rw [hg]; exact Nat.ne_of_gt (blk_lt (g := gb332) (o := .cells #[.int .i64 t325, .int .u64 t326, .int .u64 t327, .int .u64 t328, .int .u64 t329, .int .u64 t330, .int .u64 t331] 27 (0, 0)) (by (with_reducible repeat (first | refine blk_drewN ?_ _ | refine blk_drew ?_ | refine blk_alloc ?_ _)); exact BK332.out)) : gb357 ≠ gb332))
                            have n8_ := Aside0.mk ((by rw [hg]; exact Nat.ne_of_lt (blk_lt (g := gb348) (o := .cells #[.int .i64 t341, .int .u64 t342, .int .u64 t343, .int .u64 t344, .int .u64 t345, .int .u64 t346, .int .u64 t347] 27 (0, 0)) (by (with_reducible repeat (first | refine blk_drewN ?_ _ | refine blk_drew ?_ | refine blk_alloc ?_ _)); exact BK348.out)) : gb348 ≠ gb357))
                            have n9_ := Aside0.mk ((by rw [hg]; exact Nat.ne_of_gt (blk_lt (g := gb348) (o := .cells #[.int .i64 t341, .int .u64 t342, .int .u64 t343, .int .u64 t344, .int .u64 t345, .int .u64 t346, .int .u64 t347] 27 (0, 0)) (by (with_reducible repeat (first | refine blk_drewN ?_ _ | refine blk_drew ?_ | refine blk_alloc ?_ _)); exact BK348.out)) : gb357 ≠ gb348))
                            clear BK332
                            clear BK348
                            clear HB
                            have BK332 := n0_
                            have BK348 := n1_
                            have HB := n2_
                            have BK357 := n3_
                            have GW357 := n4_
                            have GE357 := n5_
                            have NB332_357 := n6_
                            have NB357_332 := n7_
                            have NB348_357 := n8_
                            have NB357_348 := n9_
                            clear n0_ n1_ n2_ n3_ n4_ n5_ n6_ n7_ n8_ n9_
                            clear hb hbox hg
                            refine hK.out _ _ ⟨(blk_cell BK332.out 0).trans rfl, (blk_cell BK332.out 1).trans rfl, (blk_cell BK332.out 2).trans rfl, (blk_cell BK332.out 3).trans rfl, (blk_cell BK332.out 4).trans rfl, (blk_cell BK332.out 5).trans rfl, (blk_cell BK332.out 6).trans rfl⟩ (fun hHeld => ?_)
                            clear hK K
                            refine norm_ (a' := ?_) ?_ ?_
                            rotate_left
                            · show Act.put _ (some 22) _ = _
                              simp only [Act.put, List.setIfInBounds_toArray, List.set_cons_zero, List.set_cons_succ, i64_w, i32_w]
                              rfl
                            refine one_ (i := 4) (N := some 62) #[true, true, true, true, true, true, true, true, true, false, true, false] rfl rfl (one_of HT_.out (by kernel_rfl)) (by decide) (fun K hK => ?_)
                            refine goes_ Try.func25 (by kernel_rfl) rfl #[.int .i64 a6] (by rfl) rfl rfl (by (try simp only [List.map_toArray, List.map_cons, List.map_nil]); first | done | rfl | (simp only [List.length_drop, List.length_take]; rfl)) ?_
                            with_reducible refine (roundhouselaw5_Key.calls a6 t355 t356 _ A25.out).mono ?_
                            rintro e w102 ⟨rfl, hb⟩
                            refine ⟨_, rfl, ?_⟩
                            have n0_ := Aside0.mk (blk_below (g := gb332) (o := .cells #[.int .i64 t325, .int .u64 t326, .int .u64 t327, .int .u64 t328, .int .u64 t329, .int .u64 t330, .int .u64 t331] 27 (0, 0)) (by (with_reducible repeat (first | refine blk_drewN ?_ _ | refine blk_drew ?_ | refine blk_alloc ?_ _)); exact BK332.out) hb)
                            have n1_ := Aside0.mk (blk_below (g := gb348) (o := .cells #[.int .i64 t341, .int .u64 t342, .int .u64 t343, .int .u64 t344, .int .u64 t345, .int .u64 t346, .int .u64 t347] 27 (0, 0)) (by (with_reducible repeat (first | refine blk_drewN ?_ _ | refine blk_drew ?_ | refine blk_alloc ?_ _)); exact BK348.out) hb)
                            have n2_ := Aside0.mk (blk_below (g := gb357) (o := .cells #[.int .i64 0, .int .u64 0, .int .u64 0, .int .u64 0, .int .u64 0, .int .u64 0, .int .u64 0] 27 (0, 0)) (by (with_reducible repeat (first | refine blk_drewN ?_ _ | refine blk_drew ?_ | refine blk_alloc ?_ _)); exact BK357.out) hb)
                            have n3_ := Aside0.mk (below_step (by repeat (first | (with_reducible first | exact HB.out | apply below_alloc | apply pw_below_drewN | apply below_drew1 | refine below_set ?_ GE332.out | refine below_set ?_ GE348.out | refine below_set ?_ GE357.out) | exact HB.out)) hb)
                            clear BK332
                            clear BK348
                            clear BK357
                            clear HB
                            have BK332 := n0_
                            have BK348 := n1_
                            have BK357 := n2_
                            have HB := n3_
                            clear n0_ n1_ n2_ n3_
                            (try clear hb)
                            (try clear hb2)
                            (try clear hk)
                            (try clear hi)
                            refine hK.out _ _ ⟨(blk_cell BK332.out 0).trans rfl, (blk_cell BK332.out 1).trans rfl, (blk_cell BK332.out 2).trans rfl, (blk_cell BK332.out 3).trans rfl, (blk_cell BK332.out 4).trans rfl, (blk_cell BK332.out 5).trans rfl, (blk_cell BK332.out 6).trans rfl⟩ (fun hHeld => ?_)
                            clear hK K
                            refine norm_ (a' := ?_) ?_ ?_
                            rotate_left
                            · show Act.put _ (some 62) _ = _
                              simp only [Act.put, List.setIfInBounds_toArray, List.set_cons_zero, List.set_cons_succ, i64_w, i32_w]
                              rfl
                            refine pure_ (i := 9) (N := some 67) (v := ?_) (a' := ?_) #[true, true, true, true, true, true, true, true, true, true, true, false] rfl rfl (any_of HT_.out (by kernel_rfl)) (fun _ _ _ h => h) (Or.inl ⟨by rfl, ?_⟩) ?_ ?_
                            rotate_left
                            · intro w'
                              go_simp
                              with_reducible rfl
                            rotate_left
                            · simp only [Act.put, List.setIfInBounds_toArray, List.set_cons_zero, List.set_cons_succ, i64_w, i32_w]
                              rfl
                            exact norm_ (by simp only [putAll, Act.put, List.setIfInBounds_toArray, List.set_cons_zero, List.set_cons_succ]) (hCont (gb357) _ ⟨hHeld, (by (with_reducible repeat (first | refine blk_drewN ?_ _ | refine blk_drew ?_ | refine blk_alloc ?_ _)); exact BK332.out), (by (with_reducible repeat (first | refine blk_drewN ?_ _ | refine blk_drew ?_ | refine blk_alloc ?_ _)); exact BK348.out), (by (with_reducible repeat (first | refine blk_drewN ?_ _ | refine blk_drew ?_ | refine blk_alloc ?_ _)); exact BK357.out), GW357.out, GE357.out, NB332_357.out, NB357_332.out, NB348_357.out, NB357_348.out, (by repeat (first | (with_reducible first | exact HB.out | apply below_alloc | apply pw_below_drewN | apply below_drew1 | refine below_set ?_ GE332.out | refine below_set ?_ GE348.out | refine below_set ?_ GE357.out) | exact HB.out))⟩)
                        rintro gb357 w103 ⟨hS_, h0_, h1_, h2_, h3_, h4_, h5_, h6_, h7_, h8_, h9_⟩
                        have n0_ : Aside0 (w103.heap[gb332]? = some (.cells #[.int .i64 t325, .int .u64 t326, .int .u64 t327, .int .u64 t328, .int .u64 t329, .int .u64 t330, .int .u64 t331] 27 (0, 0))) := ⟨h0_⟩
                        have n1_ : Aside0 (w103.heap[gb348]? = some (.cells #[.int .i64 t341, .int .u64 t342, .int .u64 t343, .int .u64 t344, .int .u64 t345, .int .u64 t346, .int .u64 t347] 27 (0, 0))) := ⟨h1_⟩
                        have n2_ : Aside0 (w103.heap[gb357]? = some (.cells #[.int .i64 0, .int .u64 0, .int .u64 0, .int .u64 0, .int .u64 0, .int .u64 0, .int .u64 0] 27 (0, 0))) := ⟨h2_⟩
                        have n3_ : Aside0 (w.heap.size ≤ gb357) := ⟨h3_⟩
                        have n4_ : Aside0 (w.heap.size ≤ gb357) := ⟨h4_⟩
                        have n5_ : Aside0 (gb332 ≠ gb357) := ⟨h5_⟩
                        have n6_ : Aside0 (gb357 ≠ gb332) := ⟨h6_⟩
                        have n7_ : Aside0 (gb348 ≠ gb357) := ⟨h7_⟩
                        have n8_ : Aside0 (gb357 ≠ gb348) := ⟨h8_⟩
                        have n9_ : Aside0 (Below w.heap.size w w103) := ⟨h9_⟩
                        clear BK332
                        clear BK348
                        clear HB
                        clear h0_ h1_ h2_ h3_ h4_ h5_ h6_ h7_ h8_ h9_
                        have BK332 := n0_
                        have BK348 := n1_
                        have BK357 := n2_
                        have GW357 := n3_
                        have GE357 := n4_
                        have NB332_357 := n5_
                        have NB357_332 := n6_
                        have NB348_357 := n7_
                        have NB357_348 := n8_
                        have HB := n9_
                        clear n0_ n1_ n2_ n3_ n4_ n5_ n6_ n7_ n8_ n9_
                        have hHeld : w103.cell? ⟨gb332, 0, none⟩ = some (.int .i64 t325) ∧ w103.cell? ⟨gb332, 1, none⟩ = some (.int .u64 t326) ∧ w103.cell? ⟨gb332, 2, none⟩ = some (.int .u64 t327) ∧ w103.cell? ⟨gb332, 3, none⟩ = some (.int .u64 t328) ∧ w103.cell? ⟨gb332, 4, none⟩ = some (.int .u64 t329) ∧ w103.cell? ⟨gb332, 5, none⟩ = some (.int .u64 t330) ∧ w103.cell? ⟨gb332, 6, none⟩ = some (.int .u64 t331) := hS_
                        refine norm_ (a' := ?_) ?_ ?_
                        rotate_left
                        · simp only [putAll, Act.put, List.setIfInBounds_toArray, List.set_cons_zero, List.set_cons_succ]
                          rfl
                        refine one_ (i := 11) (N := none) #[true, true, true, true, true, true, true, true, true, true, true, true] rfl rfl (one_of HT_.out (by kernel_rfl)) (by decide) (fun K hK => ?_)
                        have hs104 : w103.cell? ⟨gb357, 0, none⟩ = some (.int .i64 0) := (blk_cell BK357.out 0).trans rfl
                        have hfs104 := blk_frozen BK357.out 0
                        have hns104_0 := NB332_357.out
                        have hns104_1 := NB348_357.out
                        have hms104_0 := NB357_332.out
                        have hms104_1 := NB357_348.out
                        have hs105 : w103.cell? ⟨gb357, 1, none⟩ = some (.int .u64 0) := (blk_cell BK357.out 1).trans rfl
                        have hfs105 := blk_frozen BK357.out 1
                        have hns105_0 := NB332_357.out
                        have hns105_1 := NB348_357.out
                        have hms105_0 := NB357_332.out
                        have hms105_1 := NB357_348.out
                        have hs106 : w103.cell? ⟨gb357, 2, none⟩ = some (.int .u64 0) := (blk_cell BK357.out 2).trans rfl
                        have hfs106 := blk_frozen BK357.out 2
                        have hns106_0 := NB332_357.out
                        have hns106_1 := NB348_357.out
                        have hms106_0 := NB357_332.out
                        have hms106_1 := NB357_348.out
                        have hs107 : w103.cell? ⟨gb357, 3, none⟩ = some (.int .u64 0) := (blk_cell BK357.out 3).trans rfl
                        have hfs107 := blk_frozen BK357.out 3
                        have hns107_0 := NB332_357.out
                        have hns107_1 := NB348_357.out
                        have hms107_0 := NB357_332.out
                        have hms107_1 := NB357_348.out
                        have hs108 : w103.cell? ⟨gb357, 4, none⟩ = some (.int .u64 0) := (blk_cell BK357.out 4).trans rfl
                        have hfs108 := blk_frozen BK357.out 4
                        have hns108_0 := NB332_357.out
                        have hns108_1 := NB348_357.out
                        have hms108_0 := NB357_332.out
                        have hms108_1 := NB357_348.out
                        have hs109 : w103.cell? ⟨gb357, 5, none⟩ = some (.int .u64 0) := (blk_cell BK357.out 5).trans rfl
                        have hfs109 := blk_frozen BK357.out 5
                        have hns109_0 := NB332_357.out
                        have hns109_1 := NB348_357.out
                        have hms109_0 := NB357_332.out
                        have hms109_1 := NB357_348.out
                        have hs110 : w103.cell? ⟨gb357, 6, none⟩ = some (.int .u64 0) := (blk_cell BK357.out 6).trans rfl
                        have hfs110 := blk_frozen BK357.out 6
                        have hns110_0 := NB332_357.out
                        have hns110_1 := NB348_357.out
                        have hms110_0 := NB357_332.out
                        have hms110_1 := NB357_348.out
                        refine skip_ (w1 := ?_) (by rfl) rfl ?_ ?_
                        rotate_left
                        · go_simp
                          rfl
                        refine hK.out _ _ ⟨((cell_far (p := ⟨gb357, _, none⟩) NB332_357.out _).trans (((cell_far (p := ⟨gb357, _, none⟩) NB332_357.out _).trans (((cell_far (p := ⟨gb357, _, none⟩) NB332_357.out _).trans (((cell_far (p := ⟨gb357, _, none⟩) NB332_357.out _).trans (((cell_far (p := ⟨gb357, _, none⟩) NB332_357.out _).trans (((cell_far (p := ⟨gb357, _, none⟩) NB332_357.out _).trans (((cell_far (p := ⟨gb357, _, none⟩) NB332_357.out _).trans (hHeld.1)))))))))))))), ((cell_far (p := ⟨gb357, _, none⟩) NB332_357.out _).trans (((cell_far (p := ⟨gb357, _, none⟩) NB332_357.out _).trans (((cell_far (p := ⟨gb357, _, none⟩) NB332_357.out _).trans (((cell_far (p := ⟨gb357, _, none⟩) NB332_357.out _).trans (((cell_far (p := ⟨gb357, _, none⟩) NB332_357.out _).trans (((cell_far (p := ⟨gb357, _, none⟩) NB332_357.out _).trans (((cell_far (p := ⟨gb357, _, none⟩) NB332_357.out _).trans (hHeld.2.1)))))))))))))), ((cell_far (p := ⟨gb357, _, none⟩) NB332_357.out _).trans (((cell_far (p := ⟨gb357, _, none⟩) NB332_357.out _).trans (((cell_far (p := ⟨gb357, _, none⟩) NB332_357.out _).trans (((cell_far (p := ⟨gb357, _, none⟩) NB332_357.out _).trans (((cell_far (p := ⟨gb357, _, none⟩) NB332_357.out _).trans (((cell_far (p := ⟨gb357, _, none⟩) NB332_357.out _).trans (((cell_far (p := ⟨gb357, _, none⟩) NB332_357.out _).trans (hHeld.2.2.1)))))))))))))), ((cell_far (p := ⟨gb357, _, none⟩) NB332_357.out _).trans (((cell_far (p := ⟨gb357, _, none⟩) NB332_357.out _).trans (((cell_far (p := ⟨gb357, _, none⟩) NB332_357.out _).trans (((cell_far (p := ⟨gb357, _, none⟩) NB332_357.out _).trans (((cell_far (p := ⟨gb357, _, none⟩) NB332_357.out _).trans (((cell_far (p := ⟨gb357, _, none⟩) NB332_357.out _).trans (((cell_far (p := ⟨gb357, _, none⟩) NB332_357.out _).trans (hHeld.2.2.2.1)))))))))))))), ((cell_far (p := ⟨gb357, _, none⟩) NB332_357.out _).trans (((cell_far (p := ⟨gb357, _, none⟩) NB332_357.out _).trans (((cell_far (p := ⟨gb357, _, none⟩) NB332_357.out _).trans (((cell_far (p := ⟨gb357, _, none⟩) NB332_357.out _).trans (((cell_far (p := ⟨gb357, _, none⟩) NB332_357.out _).trans (((cell_far (p := ⟨gb357, _, none⟩) NB332_357.out _).trans (((cell_far (p := ⟨gb357, _, none⟩) NB332_357.out _).trans (hHeld.2.2.2.2.1)))))))))))))), ((cell_far (p := ⟨gb357, _, none⟩) NB332_357.out _).trans (((cell_far (p := ⟨gb357, _, none⟩) NB332_357.out _).trans (((cell_far (p := ⟨gb357, _, none⟩) NB332_357.out _).trans (((cell_far (p := ⟨gb357, _, none⟩) NB332_357.out _).trans (((cell_far (p := ⟨gb357, _, none⟩) NB332_357.out _).trans (((cell_far (p := ⟨gb357, _, none⟩) NB332_357.out _).trans (((cell_far (p := ⟨gb357, _, none⟩) NB332_357.out _).trans (hHeld.2.2.2.2.2.1)))))))))))))), ((cell_far (p := ⟨gb357, _, none⟩) NB332_357.out _).trans (((cell_far (p := ⟨gb357, _, none⟩) NB332_357.out _).trans (((cell_far (p := ⟨gb357, _, none⟩) NB332_357.out _).trans (((cell_far (p := ⟨gb357, _, none⟩) NB332_357.out _).trans (((cell_far (p := ⟨gb357, _, none⟩) NB332_357.out _).trans (((cell_far (p := ⟨gb357, _, none⟩) NB332_357.out _).trans (((cell_far (p := ⟨gb357, _, none⟩) NB332_357.out _).trans (hHeld.2.2.2.2.2.2))))))))))))))⟩ (fun hHeld => ?_)
                        clear hK K
                        refine done_ (done_of HT_.out (by kernel_rfl)) ?_
                        try go_wp2
                        have n0_ : Aside0 ((((((((w103.setCell ⟨gb357, 0, none⟩ (.int .i64 (wrap64 (t325 - 1)))).setCell ⟨gb357, 1, none⟩ (.int .u64 t355)).setCell ⟨gb357, 2, none⟩ (.int .u64 t356)).setCell ⟨gb357, 3, none⟩ (.int .u64 t326)).setCell ⟨gb357, 4, none⟩ (.int .u64 t327)).setCell ⟨gb357, 5, none⟩ (.int .u64 t328)).setCell ⟨gb357, 6, none⟩ (.int .u64 t329)).heap[gb332]? = some (.cells #[.int .i64 t325, .int .u64 t326, .int .u64 t327, .int .u64 t328, .int .u64 t329, .int .u64 t330, .int .u64 t331] 27 (0, 0))) := ⟨by (with_reducible repeat (first | refine blk_drewN ?_ _ | refine blk_drew ?_ | refine blk_alloc ?_ _)); refine blk_far ?_ NB332_357.out _; (with_reducible repeat (first | refine blk_drewN ?_ _ | refine blk_drew ?_ | refine blk_alloc ?_ _)); refine blk_far ?_ NB332_357.out _; (with_reducible repeat (first | refine blk_drewN ?_ _ | refine blk_drew ?_ | refine blk_alloc ?_ _)); refine blk_far ?_ NB332_357.out _; (with_reducible repeat (first | refine blk_drewN ?_ _ | refine blk_drew ?_ | refine blk_alloc ?_ _)); refine blk_far ?_ NB332_357.out _; (with_reducible repeat (first | refine blk_drewN ?_ _ | refine blk_drew ?_ | refine blk_alloc ?_ _)); refine blk_far ?_ NB332_357.out _; (with_reducible repeat (first | refine blk_drewN ?_ _ | refine blk_drew ?_ | refine blk_alloc ?_ _)); refine blk_far ?_ NB332_357.out _; (with_reducible repeat (first | refine blk_drewN ?_ _ | refine blk_drew ?_ | refine blk_alloc ?_ _)); refine blk_far ?_ NB332_357.out _; (with_reducible repeat (first | refine blk_drewN ?_ _ | refine blk_drew ?_ | refine blk_alloc ?_ _)); exact BK332.out⟩
                        have n1_ : Aside0 ((((((((w103.setCell ⟨gb357, 0, none⟩ (.int .i64 (wrap64 (t325 - 1)))).setCell ⟨gb357, 1, none⟩ (.int .u64 t355)).setCell ⟨gb357, 2, none⟩ (.int .u64 t356)).setCell ⟨gb357, 3, none⟩ (.int .u64 t326)).setCell ⟨gb357, 4, none⟩ (.int .u64 t327)).setCell ⟨gb357, 5, none⟩ (.int .u64 t328)).setCell ⟨gb357, 6, none⟩ (.int .u64 t329)).heap[gb348]? = some (.cells #[.int .i64 t341, .int .u64 t342, .int .u64 t343, .int .u64 t344, .int .u64 t345, .int .u64 t346, .int .u64 t347] 27 (0, 0))) := ⟨by (with_reducible repeat (first | refine blk_drewN ?_ _ | refine blk_drew ?_ | refine blk_alloc ?_ _)); refine blk_far ?_ NB348_357.out _; (with_reducible repeat (first | refine blk_drewN ?_ _ | refine blk_drew ?_ | refine blk_alloc ?_ _)); refine blk_far ?_ NB348_357.out _; (with_reducible repeat (first | refine blk_drewN ?_ _ | refine blk_drew ?_ | refine blk_alloc ?_ _)); refine blk_far ?_ NB348_357.out _; (with_reducible repeat (first | refine blk_drewN ?_ _ | refine blk_drew ?_ | refine blk_alloc ?_ _)); refine blk_far ?_ NB348_357.out _; (with_reducible repeat (first | refine blk_drewN ?_ _ | refine blk_drew ?_ | refine blk_alloc ?_ _)); refine blk_far ?_ NB348_357.out _; (with_reducible repeat (first | refine blk_drewN ?_ _ | refine blk_drew ?_ | refine blk_alloc ?_ _)); refine blk_far ?_ NB348_357.out _; (with_reducible repeat (first | refine blk_drewN ?_ _ | refine blk_drew ?_ | refine blk_alloc ?_ _)); refine blk_far ?_ NB348_357.out _; (with_reducible repeat (first | refine blk_drewN ?_ _ | refine blk_drew ?_ | refine blk_alloc ?_ _)); exact BK348.out⟩
                        have n2_ : Aside0 ((((((((w103.setCell ⟨gb357, 0, none⟩ (.int .i64 (wrap64 (t325 - 1)))).setCell ⟨gb357, 1, none⟩ (.int .u64 t355)).setCell ⟨gb357, 2, none⟩ (.int .u64 t356)).setCell ⟨gb357, 3, none⟩ (.int .u64 t326)).setCell ⟨gb357, 4, none⟩ (.int .u64 t327)).setCell ⟨gb357, 5, none⟩ (.int .u64 t328)).setCell ⟨gb357, 6, none⟩ (.int .u64 t329)).heap[gb357]? = some (.cells #[.int .i64 (wrap64 (t325 - 1)), .int .u64 t355, .int .u64 t356, .int .u64 t326, .int .u64 t327, .int .u64 t328, .int .u64 t329] 27 (0, 0))) := ⟨by (with_reducible repeat (first | refine blk_drewN ?_ _ | refine blk_drew ?_ | refine blk_alloc ?_ _)); refine blk_put (cs := #[.int .i64 (wrap64 (t325 - 1)), .int .u64 t355, .int .u64 t356, .int .u64 t326, .int .u64 t327, .int .u64 t328, .int .u64 0]) ?_ 6 _ rfl; (with_reducible repeat (first | refine blk_drewN ?_ _ | refine blk_drew ?_ | refine blk_alloc ?_ _)); refine blk_put (cs := #[.int .i64 (wrap64 (t325 - 1)), .int .u64 t355, .int .u64 t356, .int .u64 t326, .int .u64 t327, .int .u64 0, .int .u64 0]) ?_ 5 _ rfl; (with_reducible repeat (first | refine blk_drewN ?_ _ | refine blk_drew ?_ | refine blk_alloc ?_ _)); refine blk_put (cs := #[.int .i64 (wrap64 (t325 - 1)), .int .u64 t355, .int .u64 t356, .int .u64 t326, .int .u64 0, .int .u64 0, .int .u64 0]) ?_ 4 _ rfl; (with_reducible repeat (first | refine blk_drewN ?_ _ | refine blk_drew ?_ | refine blk_alloc ?_ _)); refine blk_put (cs := #[.int .i64 (wrap64 (t325 - 1)), .int .u64 t355, .int .u64 t356, .int .u64 0, .int .u64 0, .int .u64 0, .int .u64 0]) ?_ 3 _ rfl; (with_reducible repeat (first | refine blk_drewN ?_ _ | refine blk_drew ?_ | refine blk_alloc ?_ _)); refine blk_put (cs := #[.int .i64 (wrap64 (t325 - 1)), .int .u64 t355, .int .u64 0, .int .u64 0, .int .u64 0, .int .u64 0, .int .u64 0]) ?_ 2 _ rfl; (with_reducible repeat (first | refine blk_drewN ?_ _ | refine blk_drew ?_ | refine blk_alloc ?_ _)); refine blk_put (cs := #[.int .i64 (wrap64 (t325 - 1)), .int .u64 0, .int .u64 0, .int .u64 0, .int .u64 0, .int .u64 0, .int .u64 0]) ?_ 1 _ rfl; (with_reducible repeat (first | refine blk_drewN ?_ _ | refine blk_drew ?_ | refine blk_alloc ?_ _)); refine blk_put (cs := #[.int .i64 0, .int .u64 0, .int .u64 0, .int .u64 0, .int .u64 0, .int .u64 0, .int .u64 0]) ?_ 0 _ rfl; (with_reducible repeat (first | refine blk_drewN ?_ _ | refine blk_drew ?_ | refine blk_alloc ?_ _)); exact BK357.out⟩
                        have n3_ : Aside0 (Below w.heap.size w (((((((w103.setCell ⟨gb357, 0, none⟩ (.int .i64 (wrap64 (t325 - 1)))).setCell ⟨gb357, 1, none⟩ (.int .u64 t355)).setCell ⟨gb357, 2, none⟩ (.int .u64 t356)).setCell ⟨gb357, 3, none⟩ (.int .u64 t326)).setCell ⟨gb357, 4, none⟩ (.int .u64 t327)).setCell ⟨gb357, 5, none⟩ (.int .u64 t328)).setCell ⟨gb357, 6, none⟩ (.int .u64 t329))) := ⟨by repeat (first | (with_reducible first | exact HB.out | apply below_alloc | apply pw_below_drewN | apply below_drew1 | refine below_set ?_ GE332.out | refine below_set ?_ GE348.out | refine below_set ?_ GE357.out) | exact HB.out)⟩
                        (try clear BK332)
                        (try clear BK348)
                        (try clear BK357)
                        (try clear HB)
                        generalize (((((((w103.setCell ⟨gb357, 0, none⟩ (.int .i64 (wrap64 (t325 - 1)))).setCell ⟨gb357, 1, none⟩ (.int .u64 t355)).setCell ⟨gb357, 2, none⟩ (.int .u64 t356)).setCell ⟨gb357, 3, none⟩ (.int .u64 t326)).setCell ⟨gb357, 4, none⟩ (.int .u64 t327)).setCell ⟨gb357, 5, none⟩ (.int .u64 t328)).setCell ⟨gb357, 6, none⟩ (.int .u64 t329)) = w111 at n0_ n1_ n2_ n3_ ⊢
                        have BK332 := n0_
                        have BK348 := n1_
                        have BK357 := n2_
                        have HB := n3_
                        clear n0_ n1_ n2_ n3_
                        have n0_ := Aside0.mk (blk_drew BK332.out)
                        have n1_ := Aside0.mk (blk_drew BK348.out)
                        have n2_ := Aside0.mk (blk_drew BK357.out)
                        have n3_ := Aside0.mk (below_drew1 HB.out)
                        clear BK332
                        clear BK348
                        clear BK357
                        clear HB
                        have BK332 := n0_
                        have BK348 := n1_
                        have BK357 := n2_
                        have HB := n3_
                        clear n0_ n1_ n2_ n3_
                        refine start_ (n := 12) (S := fun w' => w'.cell? ⟨gb357, 0, none⟩ = some (.int .i64 (wrap64 (t325 - 1))) ∧ w'.cell? ⟨gb357, 1, none⟩ = some (.int .u64 t355) ∧ w'.cell? ⟨gb357, 2, none⟩ = some (.int .u64 t356) ∧ w'.cell? ⟨gb357, 3, none⟩ = some (.int .u64 t326) ∧ w'.cell? ⟨gb357, 4, none⟩ = some (.int .u64 t327) ∧ w'.cell? ⟨gb357, 5, none⟩ = some (.int .u64 t328) ∧ w'.cell? ⟨gb357, 6, none⟩ = some (.int .u64 t329)) (ds := []) #[false, false, false, false, false, false, false, false, false, false, false, false] (by kernel_rfl) rfl rfl ⟨(blk_cell BK357.out 0).trans rfl, (blk_cell BK357.out 1).trans rfl, (blk_cell BK357.out 2).trans rfl, (blk_cell BK357.out 3).trans rfl, (blk_cell BK357.out 4).trans rfl, (blk_cell BK357.out 5).trans rfl, (blk_cell BK357.out 6).trans rfl⟩ (fun hHeld => ?_); refine with_tabW roundhouselaw5_CookieAges.tab12 roundhouselaw5_CookieAges.bits12 (fun HT_ HW_ => ?_)
                        generalize w111.drew = w112 at BK332 BK348 BK357 HB hHeld ⊢
                        refine pure_ (i := 1) (N := some 70) (v := ?_) (a' := ?_) #[false, true, false, false, false, false, false, false, false, false, false, false] rfl rfl (any_of HT_.out (by kernel_rfl)) (fun _ _ _ h => h) (Or.inl ⟨by rfl, ?_⟩) ?_ ?_
                        rotate_left
                        · intro w'
                          go_simp
                          with_reducible rfl
                        rotate_left
                        · simp only [Act.put, List.setIfInBounds_toArray, List.set_cons_zero, List.set_cons_succ, i64_w, i32_w]
                          rfl
                        refine pure_ (i := 2) (N := some 71) (v := ?_) (a' := ?_) #[false, true, true, false, false, false, false, false, false, false, false, false] rfl rfl (any_of HT_.out (by kernel_rfl)) (fun _ _ _ h => h) (Or.inl ⟨by rfl, ?_⟩) ?_ ?_
                        rotate_left
                        · intro w'
                          go_simp
                          with_reducible rfl
                        rotate_left
                        · simp only [Act.put, List.setIfInBounds_toArray, List.set_cons_zero, List.set_cons_succ, i64_w, i32_w]
                          rfl
                        refine pure_ (i := 3) (N := some 72) (v := ?_) (a' := ?_) #[false, true, true, true, false, false, false, false, false, false, false, false] rfl rfl (any_of HT_.out (by kernel_rfl)) (fun _ _ _ h => h) (Or.inl ⟨by rfl, ?_⟩) ?_ ?_
                        rotate_left
                        · intro w'
                          go_simp
                          with_reducible rfl
                        rotate_left
                        · simp only [Act.put, List.setIfInBounds_toArray, List.set_cons_zero, List.set_cons_succ, i64_w, i32_w]
                          rfl
                        refine pure_ (i := 5) (N := some 74) (v := ?_) (a' := ?_) #[false, true, true, true, false, true, false, false, false, false, false, false] rfl rfl (any_of HT_.out (by kernel_rfl)) (fun _ _ _ h => h) (Or.inl ⟨by rfl, ?_⟩) ?_ ?_
                        rotate_left
                        · intro w'
                          go_simp
                          with_reducible rfl
                        rotate_left
                        · simp only [Act.put, List.setIfInBounds_toArray, List.set_cons_zero, List.set_cons_succ, i64_w, i32_w]
                          rfl
                        refine take_ (i := 0) (N := some 69) (v := ?_) (a' := ?_) #[true, true, true, true, false, true, false, false, false, false, false, false] rfl rfl (take_ofW HT_.out HW_.out (by kernel_rfl)) (fun _ _ _ h => h) (Or.inl ⟨by rfl, ?_⟩) hHeld ?_ ?_
                        rotate_left
                        · rintro w' ⟨s0, s1, s2, s3, s4, s5, s6⟩
                          go_simp
                          with_reducible rfl
                        rotate_left
                        · simp only [Act.put, List.setIfInBounds_toArray, List.set_cons_zero, List.set_cons_succ, i64_w, i32_w]
                          rfl
                        refine one_ (i := 4) (N := some 73) #[true, true, true, true, true, true, false, false, false, false, false, false] rfl rfl (one_of HT_.out (by kernel_rfl)) (by decide) (fun K hK => ?_)
                        refine goes_ Try.func20 (by kernel_rfl) rfl #[.int .i64 a3, .int .i64 a4] (by rfl) rfl rfl (by (try simp only [List.map_toArray, List.map_cons, List.map_nil]); first | done | rfl | (simp only [List.length_drop, List.length_take]; rfl)) ?_
                        with_reducible refine (roundhouselaw5_Flow.calls a3 a4 t358 t359 t360 t361 _ A26.out).mono ?_
                        rintro e w113 ⟨rfl, hb⟩
                        refine ⟨_, rfl, ?_⟩
                        have n0_ := Aside0.mk (blk_below (g := gb332) (o := .cells #[.int .i64 t325, .int .u64 t326, .int .u64 t327, .int .u64 t328, .int .u64 t329, .int .u64 t330, .int .u64 t331] 27 (0, 0)) (by (with_reducible repeat (first | refine blk_drewN ?_ _ | refine blk_drew ?_ | refine blk_alloc ?_ _)); exact BK332.out) hb)
                        have n1_ := Aside0.mk (blk_below (g := gb348) (o := .cells #[.int .i64 t341, .int .u64 t342, .int .u64 t343, .int .u64 t344, .int .u64 t345, .int .u64 t346, .int .u64 t347] 27 (0, 0)) (by (with_reducible repeat (first | refine blk_drewN ?_ _ | refine blk_drew ?_ | refine blk_alloc ?_ _)); exact BK348.out) hb)
                        have n2_ := Aside0.mk (blk_below (g := gb357) (o := .cells #[.int .i64 (wrap64 (t325 - 1)), .int .u64 t355, .int .u64 t356, .int .u64 t326, .int .u64 t327, .int .u64 t328, .int .u64 t329] 27 (0, 0)) (by (with_reducible repeat (first | refine blk_drewN ?_ _ | refine blk_drew ?_ | refine blk_alloc ?_ _)); exact BK357.out) hb)
                        have n3_ := Aside0.mk (below_step (by repeat (first | (with_reducible first | exact HB.out | apply below_alloc | apply pw_below_drewN | apply below_drew1 | refine below_set ?_ GE332.out | refine below_set ?_ GE348.out | refine below_set ?_ GE357.out) | exact HB.out)) hb)
                        clear BK332
                        clear BK348
                        clear BK357
                        clear HB
                        have BK332 := n0_
                        have BK348 := n1_
                        have BK357 := n2_
                        have HB := n3_
                        clear n0_ n1_ n2_ n3_
                        (try clear hb)
                        (try clear hb2)
                        (try clear hk)
                        (try clear hi)
                        refine hK.out _ _ ⟨(blk_cell BK357.out 0).trans rfl, (blk_cell BK357.out 1).trans rfl, (blk_cell BK357.out 2).trans rfl, (blk_cell BK357.out 3).trans rfl, (blk_cell BK357.out 4).trans rfl, (blk_cell BK357.out 5).trans rfl, (blk_cell BK357.out 6).trans rfl⟩ (fun hHeld => ?_)
                        clear hK K
                        refine norm_ (a' := ?_) ?_ ?_
                        rotate_left
                        · show Act.put _ (some 73) _ = _
                          simp only [Act.put, List.setIfInBounds_toArray, List.set_cons_zero, List.set_cons_succ, i64_w, i32_w]
                          rfl
                        refine one_ (i := 6) (N := some 75) #[true, true, true, true, true, true, true, false, false, false, false, false] rfl rfl (one_of HT_.out (by kernel_rfl)) (by decide) (fun K hK => ?_)
                        refine goes_ Try.func21 (by kernel_rfl) rfl #[.agg #[.int .i64 (wrap64 (t325 - 1)), .int .u64 t355, .int .u64 t356, .int .u64 t326, .int .u64 t327, .int .u64 t328, .int .u64 t329], .int .i64 x16_11, .agg #[.int .i64 t358, .int .i64 t359, .int .i64 t360, .int .i64 t361], .int .i64 t338] (by rfl) rfl rfl (by (try simp only [List.map_toArray, List.map_cons, List.map_nil]); first | done | rfl | (simp only [List.length_drop, List.length_take]; rfl)) ?_
                        with_reducible refine (cookie_Read.calls kj11 (wrap64 (t325 - 1)) t355 t356 t326 t327 t328 t329 x16_11 t358 t359 t360 t361 t338 t362 true _ A27.out).mono ?_
                        rintro e w114 ⟨rfl, hb⟩
                        refine ⟨_, rfl, ?_⟩
                        have n0_ := Aside0.mk (blk_below (g := gb332) (o := .cells #[.int .i64 t325, .int .u64 t326, .int .u64 t327, .int .u64 t328, .int .u64 t329, .int .u64 t330, .int .u64 t331] 27 (0, 0)) (by (with_reducible repeat (first | refine blk_drewN ?_ _ | refine blk_drew ?_ | refine blk_alloc ?_ _)); exact BK332.out) hb)
                        have n1_ := Aside0.mk (blk_below (g := gb348) (o := .cells #[.int .i64 t341, .int .u64 t342, .int .u64 t343, .int .u64 t344, .int .u64 t345, .int .u64 t346, .int .u64 t347] 27 (0, 0)) (by (with_reducible repeat (first | refine blk_drewN ?_ _ | refine blk_drew ?_ | refine blk_alloc ?_ _)); exact BK348.out) hb)
                        have n2_ := Aside0.mk (blk_below (g := gb357) (o := .cells #[.int .i64 (wrap64 (t325 - 1)), .int .u64 t355, .int .u64 t356, .int .u64 t326, .int .u64 t327, .int .u64 t328, .int .u64 t329] 27 (0, 0)) (by (with_reducible repeat (first | refine blk_drewN ?_ _ | refine blk_drew ?_ | refine blk_alloc ?_ _)); exact BK357.out) hb)
                        have n3_ := Aside0.mk (below_step (by repeat (first | (with_reducible first | exact HB.out | apply below_alloc | apply pw_below_drewN | apply below_drew1 | refine below_set ?_ GE332.out | refine below_set ?_ GE348.out | refine below_set ?_ GE357.out) | exact HB.out)) hb)
                        clear BK332
                        clear BK348
                        clear BK357
                        clear HB
                        have BK332 := n0_
                        have BK348 := n1_
                        have BK357 := n2_
                        have HB := n3_
                        clear n0_ n1_ n2_ n3_
                        (try clear hb)
                        (try clear hb2)
                        (try clear hk)
                        (try clear hi)
                        refine hK.out _ _ ⟨(blk_cell BK357.out 0).trans rfl, (blk_cell BK357.out 1).trans rfl, (blk_cell BK357.out 2).trans rfl, (blk_cell BK357.out 3).trans rfl, (blk_cell BK357.out 4).trans rfl, (blk_cell BK357.out 5).trans rfl, (blk_cell BK357.out 6).trans rfl⟩ (fun hHeld => ?_)
                        clear hK K
                        refine norm_ (a' := ?_) ?_ ?_
                        rotate_left
                        · show Act.put _ (some 75) _ = _
                          simp only [Act.put, List.setIfInBounds_toArray, List.set_cons_zero, List.set_cons_succ, i64_w, i32_w]
                          rfl
                        refine pure_ (i := 7) (N := some 68) (v := ?_) (a' := ?_) #[true, true, true, true, true, true, true, true, false, false, false, false] rfl rfl (any_of HT_.out (by kernel_rfl)) (fun _ _ _ h => h) (Or.inl ⟨by rfl, ?_⟩) ?_ ?_
                        rotate_left
                        · intro w'
                          go_simp
                          with_reducible rfl
                        rotate_left
                        · simp only [Act.put, List.setIfInBounds_toArray, List.set_cons_zero, List.set_cons_succ, i64_w, i32_w]
                          rfl
                        refine pure_ (i := 8) (N := some 76) (v := ?_) (a' := ?_) #[true, true, true, true, true, true, true, true, true, false, false, false] rfl rfl (any_of HT_.out (by kernel_rfl)) (fun _ _ _ h => h) (Or.inl ⟨by rfl, ?_⟩) ?_ ?_
                        rotate_left
                        · intro w'
                          go_simp
                          with_reducible rfl
                        rotate_left
                        · simp only [Act.put, List.setIfInBounds_toArray, List.set_cons_zero, List.set_cons_succ, i64_w, i32_w]
                          rfl
                        refine pure_ (i := 9) (N := some 77) (v := ?_) (a' := ?_) #[true, true, true, true, true, true, true, true, true, true, false, false] rfl rfl (any_of HT_.out (by kernel_rfl)) (fun _ _ _ h => h) (Or.inl ⟨by rfl, ?_⟩) ?_ ?_
                        rotate_left
                        · intro w'
                          go_simp
                          with_reducible rfl
                        rotate_left
                        · simp only [Act.put, List.setIfInBounds_toArray, List.set_cons_zero, List.set_cons_succ, i64_w, i32_w]
                          rfl
                        refine pure_ (i := 10) (N := some 23) (v := ?_) (a' := ?_) #[true, true, true, true, true, true, true, true, true, true, true, false] rfl rfl (any_of HT_.out (by kernel_rfl)) (fun _ _ _ h => h) (Or.inl ⟨by rfl, ?_⟩) ?_ ?_
                        rotate_left
                        · intro w'
                          go_simp
                          with_reducible rfl
                        rotate_left
                        · simp only [Act.put, List.setIfInBounds_toArray, List.set_cons_zero, List.set_cons_succ, i64_w, i32_w]
                          rfl
                        refine pure_ (i := 11) (N := some 24) (v := ?_) (a' := ?_) #[true, true, true, true, true, true, true, true, true, true, true, true] rfl rfl (any_of HT_.out (by kernel_rfl)) (fun _ _ _ h => h) (Or.inl ⟨by rfl, ?_⟩) ?_ ?_
                        rotate_left
                        · intro w'
                          go_simp
                          with_reducible rfl
                        rotate_left
                        · simp only [Act.put, List.setIfInBounds_toArray, List.set_cons_zero, List.set_cons_succ, i64_w, i32_w]
                          rfl
                        refine done_ (done_of HT_.out (by kernel_rfl)) ?_
                        try go_wp2
                        have n0_ := Aside0.mk (blk_drew BK332.out)
                        have n1_ := Aside0.mk (blk_drew BK348.out)
                        have n2_ := Aside0.mk (blk_drew BK357.out)
                        have n3_ := Aside0.mk (below_drew1 HB.out)
                        clear BK332
                        clear BK348
                        clear BK357
                        clear HB
                        have BK332 := n0_
                        have BK348 := n1_
                        have BK357 := n2_
                        have HB := n3_
                        clear n0_ n1_ n2_ n3_
                        refine start_ (n := 16) (S := fun w' => w'.cell? ⟨gb348, 0, none⟩ = some (.int .i64 t341) ∧ w'.cell? ⟨gb348, 1, none⟩ = some (.int .u64 t342) ∧ w'.cell? ⟨gb348, 2, none⟩ = some (.int .u64 t343) ∧ w'.cell? ⟨gb348, 3, none⟩ = some (.int .u64 t344) ∧ w'.cell? ⟨gb348, 4, none⟩ = some (.int .u64 t345) ∧ w'.cell? ⟨gb348, 5, none⟩ = some (.int .u64 t346) ∧ w'.cell? ⟨gb348, 6, none⟩ = some (.int .u64 t347)) (ds := []) #[false, false, false, false, false, false, false, false, false, false, false, false, false, false, false, false] (by kernel_rfl) rfl rfl ⟨(blk_cell BK348.out 0).trans rfl, (blk_cell BK348.out 1).trans rfl, (blk_cell BK348.out 2).trans rfl, (blk_cell BK348.out 3).trans rfl, (blk_cell BK348.out 4).trans rfl, (blk_cell BK348.out 5).trans rfl, (blk_cell BK348.out 6).trans rfl⟩ (fun hHeld => ?_); refine with_tabW roundhouselaw5_CookieAges.tab13 roundhouselaw5_CookieAges.bits13 (fun HT_ HW_ => ?_)
                        generalize w114.drew = w115 at BK332 BK348 BK357 HB hHeld ⊢
                        refine pure_ (i := 1) (N := some 80) (v := ?_) (a' := ?_) #[false, true, false, false, false, false, false, false, false, false, false, false, false, false, false, false] rfl rfl (any_of HT_.out (by kernel_rfl)) (fun _ _ _ h => h) (Or.inl ⟨by rfl, ?_⟩) ?_ ?_
                        rotate_left
                        · intro w'
                          go_simp
                          with_reducible rfl
                        rotate_left
                        · simp only [Act.put, List.setIfInBounds_toArray, List.set_cons_zero, List.set_cons_succ, i64_w, i32_w]
                          rfl
                        refine pure_ (i := 2) (N := some 81) (v := ?_) (a' := ?_) #[false, true, true, false, false, false, false, false, false, false, false, false, false, false, false, false] rfl rfl (any_of HT_.out (by kernel_rfl)) (fun _ _ _ h => h) (Or.inl ⟨by rfl, ?_⟩) ?_ ?_
                        rotate_left
                        · intro w'
                          go_simp
                          with_reducible rfl
                        rotate_left
                        · simp only [Act.put, List.setIfInBounds_toArray, List.set_cons_zero, List.set_cons_succ, i64_w, i32_w]
                          rfl
                        refine pure_ (i := 5) (N := some 84) (v := ?_) (a' := ?_) #[false, true, true, false, false, true, false, false, false, false, false, false, false, false, false, false] rfl rfl (any_of HT_.out (by kernel_rfl)) (fun _ _ _ h => h) (Or.inl ⟨by rfl, ?_⟩) ?_ ?_
                        rotate_left
                        · intro w'
                          go_simp
                          with_reducible rfl
                        rotate_left
                        · simp only [Act.put, List.setIfInBounds_toArray, List.set_cons_zero, List.set_cons_succ, i64_w, i32_w]
                          rfl
                        refine pure_ (i := 6) (N := some 85) (v := ?_) (a' := ?_) #[false, true, true, false, false, true, true, false, false, false, false, false, false, false, false, false] rfl rfl (any_of HT_.out (by kernel_rfl)) (fun _ _ _ h => h) (Or.inl ⟨by rfl, ?_⟩) ?_ ?_
                        rotate_left
                        · intro w'
                          go_simp
                          with_reducible rfl
                        rotate_left
                        · simp only [Act.put, List.setIfInBounds_toArray, List.set_cons_zero, List.set_cons_succ, i64_w, i32_w]
                          rfl
                        refine pure_ (i := 7) (N := some 86) (v := ?_) (a' := ?_) #[false, true, true, false, false, true, true, true, false, false, false, false, false, false, false, false] rfl rfl (any_of HT_.out (by kernel_rfl)) (fun _ _ _ h => h) (Or.inl ⟨by rfl, ?_⟩) ?_ ?_
                        rotate_left
                        · intro w'
                          go_simp
                          with_reducible rfl
                        rotate_left
                        · simp only [Act.put, List.setIfInBounds_toArray, List.set_cons_zero, List.set_cons_succ, i64_w, i32_w]
                          rfl
                        refine pure_ (i := 9) (N := some 88) (v := ?_) (a' := ?_) #[false, true, true, false, false, true, true, true, false, true, false, false, false, false, false, false] rfl rfl (any_of HT_.out (by kernel_rfl)) (fun _ _ _ h => h) (Or.inl ⟨by rfl, ?_⟩) ?_ ?_
                        rotate_left
                        · intro w'
                          go_simp
                          with_reducible rfl
                        rotate_left
                        · simp only [Act.put, List.setIfInBounds_toArray, List.set_cons_zero, List.set_cons_succ, i64_w, i32_w]
                          rfl
                        refine take_ (i := 0) (N := some 79) (v := ?_) (a' := ?_) #[true, true, true, false, false, true, true, true, false, true, false, false, false, false, false, false] rfl rfl (take_ofW HT_.out HW_.out (by kernel_rfl)) (fun _ _ _ h => h) (Or.inl ⟨by rfl, ?_⟩) hHeld ?_ ?_
                        rotate_left
                        · rintro w' ⟨s0, s1, s2, s3, s4, s5, s6⟩
                          go_simp
                          with_reducible rfl
                        rotate_left
                        · simp only [Act.put, List.setIfInBounds_toArray, List.set_cons_zero, List.set_cons_succ, i64_w, i32_w]
                          rfl
                        refine one_ (i := 3) (N := some 82) #[true, true, true, true, false, true, true, true, false, true, false, false, false, false, false, false] rfl rfl (one_of HT_.out (by kernel_rfl)) (by decide) (fun K hK => ?_)
                        refine goes_ Try.func25 (by kernel_rfl) rfl #[.int .i64 (wrap64 (a6 + 1))] (by rfl) rfl rfl (by (try simp only [List.map_toArray, List.map_cons, List.map_nil]); first | done | rfl | (simp only [List.length_drop, List.length_take]; rfl)) ?_
                        with_reducible refine (roundhouselaw5_Key.calls (wrap64 (a6 + 1)) t364 t365 _ A28.out).mono ?_
                        rintro e w116 ⟨rfl, hb⟩
                        refine ⟨_, rfl, ?_⟩
                        have n0_ := Aside0.mk (blk_below (g := gb332) (o := .cells #[.int .i64 t325, .int .u64 t326, .int .u64 t327, .int .u64 t328, .int .u64 t329, .int .u64 t330, .int .u64 t331] 27 (0, 0)) (by (with_reducible repeat (first | refine blk_drewN ?_ _ | refine blk_drew ?_ | refine blk_alloc ?_ _)); exact BK332.out) hb)
                        have n1_ := Aside0.mk (blk_below (g := gb348) (o := .cells #[.int .i64 t341, .int .u64 t342, .int .u64 t343, .int .u64 t344, .int .u64 t345, .int .u64 t346, .int .u64 t347] 27 (0, 0)) (by (with_reducible repeat (first | refine blk_drewN ?_ _ | refine blk_drew ?_ | refine blk_alloc ?_ _)); exact BK348.out) hb)
                        have n2_ := Aside0.mk (blk_below (g := gb357) (o := .cells #[.int .i64 (wrap64 (t325 - 1)), .int .u64 t355, .int .u64 t356, .int .u64 t326, .int .u64 t327, .int .u64 t328, .int .u64 t329] 27 (0, 0)) (by (with_reducible repeat (first | refine blk_drewN ?_ _ | refine blk_drew ?_ | refine blk_alloc ?_ _)); exact BK357.out) hb)
                        have n3_ := Aside0.mk (below_step (by repeat (first | (with_reducible first | exact HB.out | apply below_alloc | apply pw_below_drewN | apply below_drew1 | refine below_set ?_ GE332.out | refine below_set ?_ GE348.out | refine below_set ?_ GE357.out) | exact HB.out)) hb)
                        clear BK332
                        clear BK348
                        clear BK357
                        clear HB
                        have BK332 := n0_
                        have BK348 := n1_
                        have BK357 := n2_
                        have HB := n3_
                        clear n0_ n1_ n2_ n3_
                        (try clear hb)
                        (try clear hb2)
                        (try clear hk)
                        (try clear hi)
                        refine hK.out _ _ ⟨(blk_cell BK348.out 0).trans rfl, (blk_cell BK348.out 1).trans rfl, (blk_cell BK348.out 2).trans rfl, (blk_cell BK348.out 3).trans rfl, (blk_cell BK348.out 4).trans rfl, (blk_cell BK348.out 5).trans rfl, (blk_cell BK348.out 6).trans rfl⟩ (fun hHeld => ?_)
                        clear hK K
                        refine norm_ (a' := ?_) ?_ ?_
                        rotate_left
                        · show Act.put _ (some 82) _ = _
                          simp only [Act.put, List.setIfInBounds_toArray, List.set_cons_zero, List.set_cons_succ, i64_w, i32_w]
                          rfl
                        refine one_ (i := 4) (N := some 83) #[true, true, true, true, true, true, true, true, false, true, false, false, false, false, false, false] rfl rfl (one_of HT_.out (by kernel_rfl)) (by decide) (fun K hK => ?_)
                        refine goes_ Try.func24 (by kernel_rfl) rfl #[.agg #[.int .i64 t341, .int .u64 t342, .int .u64 t343, .int .u64 t344, .int .u64 t345, .int .u64 t346, .int .u64 t347], .agg #[.int .u64 t364, .int .u64 t365]] (by rfl) rfl rfl (by (try simp only [List.map_toArray, List.map_cons, List.map_nil]); first | done | rfl | (simp only [List.length_drop, List.length_take]; rfl)) ?_
                        with_reducible refine (cookie_Next.calls t341 t342 t343 t344 t345 t346 t347 t364 t365 t366 t367 t368 t369 t370 t371 t372 _ A29.out).mono ?_
                        rintro e w117 ⟨rfl, hb⟩
                        refine ⟨_, rfl, ?_⟩
                        have n0_ := Aside0.mk (blk_below (g := gb332) (o := .cells #[.int .i64 t325, .int .u64 t326, .int .u64 t327, .int .u64 t328, .int .u64 t329, .int .u64 t330, .int .u64 t331] 27 (0, 0)) (by (with_reducible repeat (first | refine blk_drewN ?_ _ | refine blk_drew ?_ | refine blk_alloc ?_ _)); exact BK332.out) hb)
                        have n1_ := Aside0.mk (blk_below (g := gb348) (o := .cells #[.int .i64 t341, .int .u64 t342, .int .u64 t343, .int .u64 t344, .int .u64 t345, .int .u64 t346, .int .u64 t347] 27 (0, 0)) (by (with_reducible repeat (first | refine blk_drewN ?_ _ | refine blk_drew ?_ | refine blk_alloc ?_ _)); exact BK348.out) hb)
                        have n2_ := Aside0.mk (blk_below (g := gb357) (o := .cells #[.int .i64 (wrap64 (t325 - 1)), .int .u64 t355, .int .u64 t356, .int .u64 t326, .int .u64 t327, .int .u64 t328, .int .u64 t329] 27 (0, 0)) (by (with_reducible repeat (first | refine blk_drewN ?_ _ | refine blk_drew ?_ | refine blk_alloc ?_ _)); exact BK357.out) hb)
                        have n3_ := Aside0.mk (below_step (by repeat (first | (with_reducible first | exact HB.out | apply below_alloc | apply pw_below_drewN | apply below_drew1 | refine below_set ?_ GE332.out | refine below_set ?_ GE348.out | refine below_set ?_ GE357.out) | exact HB.out)) hb)
                        clear BK332
                        clear BK348
                        clear BK357
                        clear HB
                        have BK332 := n0_
                        have BK348 := n1_
                        have BK357 := n2_
                        have HB := n3_
                        clear n0_ n1_ n2_ n3_
                        (try clear hb)
                        (try clear hb2)
                        (try clear hk)
                        (try clear hi)
                        refine hK.out _ _ ⟨(blk_cell BK348.out 0).trans rfl, (blk_cell BK348.out 1).trans rfl, (blk_cell BK348.out 2).trans rfl, (blk_cell BK348.out 3).trans rfl, (blk_cell BK348.out 4).trans rfl, (blk_cell BK348.out 5).trans rfl, (blk_cell BK348.out 6).trans rfl⟩ (fun hHeld => ?_)
                        clear hK K
                        refine norm_ (a' := ?_) ?_ ?_
                        rotate_left
                        · show Act.put _ (some 83) _ = _
                          simp only [Act.put, List.setIfInBounds_toArray, List.set_cons_zero, List.set_cons_succ, i64_w, i32_w]
                          rfl
                        refine one_ (i := 8) (N := some 87) #[true, true, true, true, true, true, true, true, true, true, false, false, false, false, false, false] rfl rfl (one_of HT_.out (by kernel_rfl)) (by decide) (fun K hK => ?_)
                        refine goes_ Try.func20 (by kernel_rfl) rfl #[.int .i64 a3, .int .i64 a4] (by rfl) rfl rfl (by (try simp only [List.map_toArray, List.map_cons, List.map_nil]); first | done | rfl | (simp only [List.length_drop, List.length_take]; rfl)) ?_
                        with_reducible refine (roundhouselaw5_Flow.calls a3 a4 t373 t374 t375 t376 _ A30.out).mono ?_
                        rintro e w118 ⟨rfl, hb⟩
                        refine ⟨_, rfl, ?_⟩
                        have n0_ := Aside0.mk (blk_below (g := gb332) (o := .cells #[.int .i64 t325, .int .u64 t326, .int .u64 t327, .int .u64 t328, .int .u64 t329, .int .u64 t330, .int .u64 t331] 27 (0, 0)) (by (with_reducible repeat (first | refine blk_drewN ?_ _ | refine blk_drew ?_ | refine blk_alloc ?_ _)); exact BK332.out) hb)
                        have n1_ := Aside0.mk (blk_below (g := gb348) (o := .cells #[.int .i64 t341, .int .u64 t342, .int .u64 t343, .int .u64 t344, .int .u64 t345, .int .u64 t346, .int .u64 t347] 27 (0, 0)) (by (with_reducible repeat (first | refine blk_drewN ?_ _ | refine blk_drew ?_ | refine blk_alloc ?_ _)); exact BK348.out) hb)
                        have n2_ := Aside0.mk (blk_below (g := gb357) (o := .cells #[.int .i64 (wrap64 (t325 - 1)), .int .u64 t355, .int .u64 t356, .int .u64 t326, .int .u64 t327, .int .u64 t328, .int .u64 t329] 27 (0, 0)) (by (with_reducible repeat (first | refine blk_drewN ?_ _ | refine blk_drew ?_ | refine blk_alloc ?_ _)); exact BK357.out) hb)
                        have n3_ := Aside0.mk (below_step (by repeat (first | (with_reducible first | exact HB.out | apply below_alloc | apply pw_below_drewN | apply below_drew1 | refine below_set ?_ GE332.out | refine below_set ?_ GE348.out | refine below_set ?_ GE357.out) | exact HB.out)) hb)
                        clear BK332
                        clear BK348
                        clear BK357
                        clear HB
                        have BK332 := n0_
                        have BK348 := n1_
                        have BK357 := n2_
                        have HB := n3_
                        clear n0_ n1_ n2_ n3_
                        (try clear hb)
                        (try clear hb2)
                        (try clear hk)
                        (try clear hi)
                        refine hK.out _ _ ⟨(blk_cell BK348.out 0).trans rfl, (blk_cell BK348.out 1).trans rfl, (blk_cell BK348.out 2).trans rfl, (blk_cell BK348.out 3).trans rfl, (blk_cell BK348.out 4).trans rfl, (blk_cell BK348.out 5).trans rfl, (blk_cell BK348.out 6).trans rfl⟩ (fun hHeld => ?_)
                        clear hK K
                        refine norm_ (a' := ?_) ?_ ?_
                        rotate_left
                        · show Act.put _ (some 87) _ = _
                          simp only [Act.put, List.setIfInBounds_toArray, List.set_cons_zero, List.set_cons_succ, i64_w, i32_w]
                          rfl
                        refine one_ (i := 10) (N := some 89) #[true, true, true, true, true, true, true, true, true, true, true, false, false, false, false, false] rfl rfl (one_of HT_.out (by kernel_rfl)) (by decide) (fun K hK => ?_)
                        refine goes_ Try.func21 (by kernel_rfl) rfl #[.agg #[.int .i64 t366, .int .u64 t367, .int .u64 t368, .int .u64 t369, .int .u64 t370, .int .u64 t371, .int .u64 t372], .int .i64 x16_11, .agg #[.int .i64 t373, .int .i64 t374, .int .i64 t375, .int .i64 t376], .int .i64 t338] (by rfl) rfl rfl (by (try simp only [List.map_toArray, List.map_cons, List.map_nil]); first | done | rfl | (simp only [List.length_drop, List.length_take]; rfl)) ?_
                        with_reducible refine (cookie_Read.calls kj11 t366 t367 t368 t369 t370 t371 t372 x16_11 t373 t374 t375 t376 t338 t377 false _ A31.out).mono ?_
                        rintro e w119 ⟨rfl, hb⟩
                        refine ⟨_, rfl, ?_⟩
                        have n0_ := Aside0.mk (blk_below (g := gb332) (o := .cells #[.int .i64 t325, .int .u64 t326, .int .u64 t327, .int .u64 t328, .int .u64 t329, .int .u64 t330, .int .u64 t331] 27 (0, 0)) (by (with_reducible repeat (first | refine blk_drewN ?_ _ | refine blk_drew ?_ | refine blk_alloc ?_ _)); exact BK332.out) hb)
                        have n1_ := Aside0.mk (blk_below (g := gb348) (o := .cells #[.int .i64 t341, .int .u64 t342, .int .u64 t343, .int .u64 t344, .int .u64 t345, .int .u64 t346, .int .u64 t347] 27 (0, 0)) (by (with_reducible repeat (first | refine blk_drewN ?_ _ | refine blk_drew ?_ | refine blk_alloc ?_ _)); exact BK348.out) hb)
                        have n2_ := Aside0.mk (blk_below (g := gb357) (o := .cells #[.int .i64 (wrap64 (t325 - 1)), .int .u64 t355, .int .u64 t356, .int .u64 t326, .int .u64 t327, .int .u64 t328, .int .u64 t329] 27 (0, 0)) (by (with_reducible repeat (first | refine blk_drewN ?_ _ | refine blk_drew ?_ | refine blk_alloc ?_ _)); exact BK357.out) hb)
                        have n3_ := Aside0.mk (below_step (by repeat (first | (with_reducible first | exact HB.out | apply below_alloc | apply pw_below_drewN | apply below_drew1 | refine below_set ?_ GE332.out | refine below_set ?_ GE348.out | refine below_set ?_ GE357.out) | exact HB.out)) hb)
                        clear BK332
                        clear BK348
                        clear BK357
                        clear HB
                        have BK332 := n0_
                        have BK348 := n1_
                        have BK357 := n2_
                        have HB := n3_
                        clear n0_ n1_ n2_ n3_
                        (try clear hb)
                        (try clear hb2)
                        (try clear hk)
                        (try clear hi)
                        refine hK.out _ _ ⟨(blk_cell BK348.out 0).trans rfl, (blk_cell BK348.out 1).trans rfl, (blk_cell BK348.out 2).trans rfl, (blk_cell BK348.out 3).trans rfl, (blk_cell BK348.out 4).trans rfl, (blk_cell BK348.out 5).trans rfl, (blk_cell BK348.out 6).trans rfl⟩ (fun hHeld => ?_)
                        clear hK K
                        refine norm_ (a' := ?_) ?_ ?_
                        rotate_left
                        · show Act.put _ (some 89) _ = _
                          simp only [Act.put, List.setIfInBounds_toArray, List.set_cons_zero, List.set_cons_succ, i64_w, i32_w]
                          rfl
                        refine pure_ (i := 11) (N := some 78) (v := ?_) (a' := ?_) #[true, true, true, true, true, true, true, true, true, true, true, true, false, false, false, false] rfl rfl (any_of HT_.out (by kernel_rfl)) (fun _ _ _ h => h) (Or.inl ⟨by rfl, ?_⟩) ?_ ?_
                        rotate_left
                        · intro w'
                          go_simp
                          with_reducible rfl
                        rotate_left
                        · simp only [Act.put, List.setIfInBounds_toArray, List.set_cons_zero, List.set_cons_succ, i64_w, i32_w]
                          rfl
                        refine pure_ (i := 12) (N := some 90) (v := ?_) (a' := ?_) #[true, true, true, true, true, true, true, true, true, true, true, true, true, false, false, false] rfl rfl (any_of HT_.out (by kernel_rfl)) (fun _ _ _ h => h) (Or.inl ⟨by rfl, ?_⟩) ?_ ?_
                        rotate_left
                        · intro w'
                          go_simp
                          with_reducible rfl
                        rotate_left
                        · simp only [Act.put, List.setIfInBounds_toArray, List.set_cons_zero, List.set_cons_succ, i64_w, i32_w]
                          rfl
                        refine pure_ (i := 13) (N := some 91) (v := ?_) (a' := ?_) #[true, true, true, true, true, true, true, true, true, true, true, true, true, true, false, false] rfl rfl (any_of HT_.out (by kernel_rfl)) (fun _ _ _ h => h) (Or.inl ⟨by rfl, ?_⟩) ?_ ?_
                        rotate_left
                        · intro w'
                          go_simp
                          with_reducible rfl
                        rotate_left
                        · simp only [Act.put, List.setIfInBounds_toArray, List.set_cons_zero, List.set_cons_succ, i64_w, i32_w]
                          rfl
                        refine pure_ (i := 14) (N := some 25) (v := ?_) (a' := ?_) #[true, true, true, true, true, true, true, true, true, true, true, true, true, true, true, false] rfl rfl (any_of HT_.out (by kernel_rfl)) (fun _ _ _ h => h) (Or.inl ⟨by rfl, ?_⟩) ?_ ?_
                        rotate_left
                        · intro w'
                          go_simp
                          with_reducible rfl
                        rotate_left
                        · simp only [Act.put, List.setIfInBounds_toArray, List.set_cons_zero, List.set_cons_succ, i64_w, i32_w]
                          rfl
                        refine pure_ (i := 15) (N := some 26) (v := ?_) (a' := ?_) #[true, true, true, true, true, true, true, true, true, true, true, true, true, true, true, true] rfl rfl (any_of HT_.out (by kernel_rfl)) (fun _ _ _ h => h) (Or.inl ⟨by rfl, ?_⟩) ?_ ?_
                        rotate_left
                        · intro w'
                          go_simp
                          with_reducible rfl
                        rotate_left
                        · simp only [Act.put, List.setIfInBounds_toArray, List.set_cons_zero, List.set_cons_succ, i64_w, i32_w]
                          rfl
                        refine done_ (done_of HT_.out (by kernel_rfl)) ?_
                        try go_wp2
                        have n0_ := Aside0.mk (blk_drew BK332.out)
                        have n1_ := Aside0.mk (blk_drew BK348.out)
                        have n2_ := Aside0.mk (blk_drew BK357.out)
                        have n3_ := Aside0.mk (below_drew1 HB.out)
                        clear BK332
                        clear BK348
                        clear BK357
                        clear HB
                        have BK332 := n0_
                        have BK348 := n1_
                        have BK357 := n2_
                        have HB := n3_
                        clear n0_ n1_ n2_ n3_
                        refine start_ (n := 48) (S := fun w' => w'.cell? ⟨gb348, 0, none⟩ = some (.int .i64 t341) ∧ w'.cell? ⟨gb348, 1, none⟩ = some (.int .u64 t342) ∧ w'.cell? ⟨gb348, 2, none⟩ = some (.int .u64 t343) ∧ w'.cell? ⟨gb348, 3, none⟩ = some (.int .u64 t344) ∧ w'.cell? ⟨gb348, 4, none⟩ = some (.int .u64 t345) ∧ w'.cell? ⟨gb348, 5, none⟩ = some (.int .u64 t346) ∧ w'.cell? ⟨gb348, 6, none⟩ = some (.int .u64 t347) ∧ w'.cell? ⟨gb332, 0, none⟩ = some (.int .i64 t325) ∧ w'.cell? ⟨gb332, 1, none⟩ = some (.int .u64 t326) ∧ w'.cell? ⟨gb332, 2, none⟩ = some (.int .u64 t327) ∧ w'.cell? ⟨gb332, 3, none⟩ = some (.int .u64 t328) ∧ w'.cell? ⟨gb332, 4, none⟩ = some (.int .u64 t329) ∧ w'.cell? ⟨gb332, 5, none⟩ = some (.int .u64 t330) ∧ w'.cell? ⟨gb332, 6, none⟩ = some (.int .u64 t331)) (ds := []) #[false, false, false, false, false, false, false, false, false, false, false, false, false, false, false, false, false, false, false, false, false, false, false, false, false, false, false, false, false, false, false, false, false, false, false, false, false, false, false, false, false, false, false, false, false, false, false, false] (by kernel_rfl) rfl rfl ⟨(blk_cell BK348.out 0).trans rfl, (blk_cell BK348.out 1).trans rfl, (blk_cell BK348.out 2).trans rfl, (blk_cell BK348.out 3).trans rfl, (blk_cell BK348.out 4).trans rfl, (blk_cell BK348.out 5).trans rfl, (blk_cell BK348.out 6).trans rfl, (blk_cell BK332.out 0).trans rfl, (blk_cell BK332.out 1).trans rfl, (blk_cell BK332.out 2).trans rfl, (blk_cell BK332.out 3).trans rfl, (blk_cell BK332.out 4).trans rfl, (blk_cell BK332.out 5).trans rfl, (blk_cell BK332.out 6).trans rfl⟩ (fun hHeld => ?_); refine with_tabW roundhouselaw5_CookieAges.tab14 roundhouselaw5_CookieAges.bits14 (fun HT_ HW_ => ?_)
                        generalize w119.drew = w120 at BK332 BK348 BK357 HB hHeld ⊢
                        refine pure_ (i := 0) (N := some 92) (v := ?_) (a' := ?_) #[true, false, false, false, false, false, false, false, false, false, false, false, false, false, false, false, false, false, false, false, false, false, false, false, false, false, false, false, false, false, false, false, false, false, false, false, false, false, false, false, false, false, false, false, false, false, false, false] rfl rfl (any_of HT_.out (by kernel_rfl)) (fun _ _ _ h => h) (Or.inl ⟨by rfl, ?_⟩) ?_ ?_
                        rotate_left
                        · intro w'
                          go_simp
                          with_reducible rfl
                        rotate_left
                        · simp only [Act.put, List.setIfInBounds_toArray, List.set_cons_zero, List.set_cons_succ, i64_w, i32_w]
                          rfl
                        refine pure_ (i := 1) (N := some 93) (v := ?_) (a' := ?_) #[true, true, false, false, false, false, false, false, false, false, false, false, false, false, false, false, false, false, false, false, false, false, false, false, false, false, false, false, false, false, false, false, false, false, false, false, false, false, false, false, false, false, false, false, false, false, false, false] rfl rfl (any_of HT_.out (by kernel_rfl)) (fun _ _ _ h => h) (Or.inl ⟨by rfl, ?_⟩) ?_ ?_
                        rotate_left
                        · intro w'
                          go_simp
                          with_reducible rfl
                        rotate_left
                        · simp only [Act.put, List.setIfInBounds_toArray, List.set_cons_zero, List.set_cons_succ, i64_w, i32_w]
                          rfl
                        refine pure_ (i := 2) (N := some 94) (v := ?_) (a' := ?_) #[true, true, true, false, false, false, false, false, false, false, false, false, false, false, false, false, false, false, false, false, false, false, false, false, false, false, false, false, false, false, false, false, false, false, false, false, false, false, false, false, false, false, false, false, false, false, false, false] rfl rfl (any_of HT_.out (by kernel_rfl)) (fun _ _ _ h => h) (Or.inl ⟨by rfl, ?_⟩) ?_ ?_
                        rotate_left
                        · intro w'
                          go_simp
                          with_reducible rfl
                        rotate_left
                        · simp only [Act.put, List.setIfInBounds_toArray, List.set_cons_zero, List.set_cons_succ, i64_w, i32_w]
                          rfl
                        refine pure_ (i := 3) (N := some 95) (v := ?_) (a' := ?_) #[true, true, true, true, false, false, false, false, false, false, false, false, false, false, false, false, false, false, false, false, false, false, false, false, false, false, false, false, false, false, false, false, false, false, false, false, false, false, false, false, false, false, false, false, false, false, false, false] rfl rfl (any_of HT_.out (by kernel_rfl)) (fun _ _ _ h => h) (Or.inl ⟨by rfl, ?_⟩) ?_ ?_
                        rotate_left
                        · intro w'
                          go_simp
                          with_reducible rfl
                        rotate_left
                        · simp only [Act.put, List.setIfInBounds_toArray, List.set_cons_zero, List.set_cons_succ, i64_w, i32_w]
                          rfl
                        refine pure_ (i := 4) (N := some 96) (v := ?_) (a' := ?_) #[true, true, true, true, true, false, false, false, false, false, false, false, false, false, false, false, false, false, false, false, false, false, false, false, false, false, false, false, false, false, false, false, false, false, false, false, false, false, false, false, false, false, false, false, false, false, false, false] rfl rfl (any_of HT_.out (by kernel_rfl)) (fun _ _ _ h => h) (Or.inl ⟨by rfl, ?_⟩) ?_ ?_
                        rotate_left
                        · intro w'
                          go_simp
                          with_reducible rfl
                        rotate_left
                        · simp only [Act.put, List.setIfInBounds_toArray, List.set_cons_zero, List.set_cons_succ, i64_w, i32_w]
                          rfl
                        refine pure_ (i := 5) (N := some 97) (v := ?_) (a' := ?_) #[true, true, true, true, true, true, false, false, false, false, false, false, false, false, false, false, false, false, false, false, false, false, false, false, false, false, false, false, false, false, false, false, false, false, false, false, false, false, false, false, false, false, false, false, false, false, false, false] rfl rfl (any_of HT_.out (by kernel_rfl)) (fun _ _ _ h => h) (Or.inl ⟨by rfl, ?_⟩) ?_ ?_
                        rotate_left
                        · intro w'
                          go_simp
                          with_reducible rfl
                        rotate_left
                        · simp only [Act.put, List.setIfInBounds_toArray, List.set_cons_zero, List.set_cons_succ, i64_w, i32_w]
                          rfl
                        refine pure_ (i := 6) (N := some 98) (v := ?_) (a' := ?_) #[true, true, true, true, true, true, true, false, false, false, false, false, false, false, false, false, false, false, false, false, false, false, false, false, false, false, false, false, false, false, false, false, false, false, false, false, false, false, false, false, false, false, false, false, false, false, false, false] rfl rfl (any_of HT_.out (by kernel_rfl)) (fun _ _ _ h => h) (Or.inl ⟨by rfl, ?_⟩) ?_ ?_
                        rotate_left
                        · intro w'
                          go_simp
                          with_reducible rfl
                        rotate_left
                        · simp only [Act.put, List.setIfInBounds_toArray, List.set_cons_zero, List.set_cons_succ, i64_w, i32_w]
                          rfl
                        refine pure_ (i := 7) (N := some 99) (v := ?_) (a' := ?_) #[true, true, true, true, true, true, true, true, false, false, false, false, false, false, false, false, false, false, false, false, false, false, false, false, false, false, false, false, false, false, false, false, false, false, false, false, false, false, false, false, false, false, false, false, false, false, false, false] rfl rfl (any_of HT_.out (by kernel_rfl)) (fun _ _ _ h => h) (Or.inl ⟨by rfl, ?_⟩) ?_ ?_
                        rotate_left
                        · intro w'
                          go_simp
                          with_reducible rfl
                        rotate_left
                        · simp only [Act.put, List.setIfInBounds_toArray, List.set_cons_zero, List.set_cons_succ, i64_w, i32_w]
                          rfl
                        refine pure_ (i := 8) (N := some 100) (v := ?_) (a' := ?_) #[true, true, true, true, true, true, true, true, true, false, false, false, false, false, false, false, false, false, false, false, false, false, false, false, false, false, false, false, false, false, false, false, false, false, false, false, false, false, false, false, false, false, false, false, false, false, false, false] rfl rfl (any_of HT_.out (by kernel_rfl)) (fun _ _ _ h => h) (Or.inl ⟨by rfl, ?_⟩) ?_ ?_
                        rotate_left
                        · intro w'
                          go_simp
                          with_reducible rfl
                        rotate_left
                        · simp only [Act.put, List.setIfInBounds_toArray, List.set_cons_zero, List.set_cons_succ, i64_w, i32_w]
                          rfl
                        refine pure_ (i := 9) (N := some 101) (v := ?_) (a' := ?_) #[true, true, true, true, true, true, true, true, true, true, false, false, false, false, false, false, false, false, false, false, false, false, false, false, false, false, false, false, false, false, false, false, false, false, false, false, false, false, false, false, false, false, false, false, false, false, false, false] rfl rfl (any_of HT_.out (by kernel_rfl)) (fun _ _ _ h => h) (Or.inl ⟨by rfl, ?_⟩) ?_ ?_
                        rotate_left
                        · intro w'
                          go_simp
                          with_reducible rfl
                        rotate_left
                        · simp only [Act.put, List.setIfInBounds_toArray, List.set_cons_zero, List.set_cons_succ, i64_w, i32_w]
                          rfl
                        refine pure_ (i := 10) (N := some 102) (v := ?_) (a' := ?_) #[true, true, true, true, true, true, true, true, true, true, true, false, false, false, false, false, false, false, false, false, false, false, false, false, false, false, false, false, false, false, false, false, false, false, false, false, false, false, false, false, false, false, false, false, false, false, false, false] rfl rfl (any_of HT_.out (by kernel_rfl)) (fun _ _ _ h => h) (Or.inl ⟨by rfl, ?_⟩) ?_ ?_
                        rotate_left
                        · intro w'
                          go_simp
                          with_reducible rfl
                        rotate_left
                        · simp only [Act.put, List.setIfInBounds_toArray, List.set_cons_zero, List.set_cons_succ, i64_w, i32_w]
                          rfl
                        refine pure_ (i := 11) (N := some 103) (v := ?_) (a' := ?_) #[true, true, true, true, true, true, true, true, true, true, true, true, false, false, false, false, false, false, false, false, false, false, false, false, false, false, false, false, false, false, false, false, false, false, false, false, false, false, false, false, false, false, false, false, false, false, false, false] rfl rfl (any_of HT_.out (by kernel_rfl)) (fun _ _ _ h => h) (Or.inl ⟨by rfl, ?_⟩) ?_ ?_
                        rotate_left
                        · intro w'
                          go_simp
                          with_reducible rfl
                        rotate_left
                        · simp only [Act.put, List.setIfInBounds_toArray, List.set_cons_zero, List.set_cons_succ, i64_w, i32_w]
                          rfl
                        refine pure_ (i := 12) (N := some 104) (v := ?_) (a' := ?_) #[true, true, true, true, true, true, true, true, true, true, true, true, true, false, false, false, false, false, false, false, false, false, false, false, false, false, false, false, false, false, false, false, false, false, false, false, false, false, false, false, false, false, false, false, false, false, false, false] rfl rfl (any_of HT_.out (by kernel_rfl)) (fun _ _ _ h => h) (Or.inl ⟨by rfl, ?_⟩) ?_ ?_
                        rotate_left
                        · intro w'
                          go_simp
                          with_reducible rfl
                        rotate_left
                        · simp only [Act.put, List.setIfInBounds_toArray, List.set_cons_zero, List.set_cons_succ, i64_w, i32_w]
                          rfl
                        refine pure_ (i := 13) (N := some 105) (v := ?_) (a' := ?_) #[true, true, true, true, true, true, true, true, true, true, true, true, true, true, false, false, false, false, false, false, false, false, false, false, false, false, false, false, false, false, false, false, false, false, false, false, false, false, false, false, false, false, false, false, false, false, false, false] rfl rfl (any_of HT_.out (by kernel_rfl)) (fun _ _ _ h => h) (Or.inl ⟨by rfl, ?_⟩) ?_ ?_
                        rotate_left
                        · intro w'
                          go_simp
                          with_reducible rfl
                        rotate_left
                        · simp only [Act.put, List.setIfInBounds_toArray, List.set_cons_zero, List.set_cons_succ, i64_w, i32_w]
                          rfl
                        refine pure_ (i := 14) (N := some 106) (v := ?_) (a' := ?_) #[true, true, true, true, true, true, true, true, true, true, true, true, true, true, true, false, false, false, false, false, false, false, false, false, false, false, false, false, false, false, false, false, false, false, false, false, false, false, false, false, false, false, false, false, false, false, false, false] rfl rfl (any_of HT_.out (by kernel_rfl)) (fun _ _ _ h => h) (Or.inl ⟨by rfl, ?_⟩) ?_ ?_
                        rotate_left
                        · intro w'
                          go_simp
                          with_reducible rfl
                        rotate_left
                        · simp only [Act.put, List.setIfInBounds_toArray, List.set_cons_zero, List.set_cons_succ, i64_w, i32_w]
                          rfl
                        refine pure_ (i := 15) (N := some 107) (v := ?_) (a' := ?_) #[true, true, true, true, true, true, true, true, true, true, true, true, true, true, true, true, false, false, false, false, false, false, false, false, false, false, false, false, false, false, false, false, false, false, false, false, false, false, false, false, false, false, false, false, false, false, false, false] rfl rfl (any_of HT_.out (by kernel_rfl)) (fun _ _ _ h => h) (Or.inl ⟨by rfl, ?_⟩) ?_ ?_
                        rotate_left
                        · intro w'
                          go_simp
                          with_reducible rfl
                        rotate_left
                        · simp only [Act.put, List.setIfInBounds_toArray, List.set_cons_zero, List.set_cons_succ, i64_w, i32_w]
                          rfl
                        refine pure_ (i := 16) (N := some 108) (v := ?_) (a' := ?_) #[true, true, true, true, true, true, true, true, true, true, true, true, true, true, true, true, true, false, false, false, false, false, false, false, false, false, false, false, false, false, false, false, false, false, false, false, false, false, false, false, false, false, false, false, false, false, false, false] rfl rfl (any_of HT_.out (by kernel_rfl)) (fun _ _ _ h => h) (Or.inl ⟨by rfl, ?_⟩) ?_ ?_
                        rotate_left
                        · intro w'
                          go_simp
                          with_reducible rfl
                        rotate_left
                        · simp only [Act.put, List.setIfInBounds_toArray, List.set_cons_zero, List.set_cons_succ, i64_w, i32_w]
                          rfl
                        refine pure_ (i := 17) (N := some 109) (v := ?_) (a' := ?_) #[true, true, true, true, true, true, true, true, true, true, true, true, true, true, true, true, true, true, false, false, false, false, false, false, false, false, false, false, false, false, false, false, false, false, false, false, false, false, false, false, false, false, false, false, false, false, false, false] rfl rfl (any_of HT_.out (by kernel_rfl)) (fun _ _ _ h => h) (Or.inl ⟨by rfl, ?_⟩) ?_ ?_
                        rotate_left
                        · intro w'
                          go_simp
                          with_reducible rfl
                        rotate_left
                        · simp only [Act.put, List.setIfInBounds_toArray, List.set_cons_zero, List.set_cons_succ, i64_w, i32_w]
                          rfl
                        refine pure_ (i := 18) (N := some 110) (v := ?_) (a' := ?_) #[true, true, true, true, true, true, true, true, true, true, true, true, true, true, true, true, true, true, true, false, false, false, false, false, false, false, false, false, false, false, false, false, false, false, false, false, false, false, false, false, false, false, false, false, false, false, false, false] rfl rfl (any_of HT_.out (by kernel_rfl)) (fun _ _ _ h => h) (Or.inl ⟨by rfl, ?_⟩) ?_ ?_
                        rotate_left
                        · intro w'
                          go_simp
                          with_reducible rfl
                        rotate_left
                        · simp only [Act.put, List.setIfInBounds_toArray, List.set_cons_zero, List.set_cons_succ, i64_w, i32_w]
                          rfl
                        refine pure_ (i := 19) (N := some 111) (v := ?_) (a' := ?_) #[true, true, true, true, true, true, true, true, true, true, true, true, true, true, true, true, true, true, true, true, false, false, false, false, false, false, false, false, false, false, false, false, false, false, false, false, false, false, false, false, false, false, false, false, false, false, false, false] rfl rfl (any_of HT_.out (by kernel_rfl)) (fun _ _ _ h => h) (Or.inl ⟨by rfl, ?_⟩) ?_ ?_
                        rotate_left
                        · intro w'
                          go_simp
                          with_reducible rfl
                        rotate_left
                        · simp only [Act.put, List.setIfInBounds_toArray, List.set_cons_zero, List.set_cons_succ, i64_w, i32_w]
                          rfl
                        refine pure_ (i := 21) (N := some 113) (v := ?_) (a' := ?_) #[true, true, true, true, true, true, true, true, true, true, true, true, true, true, true, true, true, true, true, true, false, true, false, false, false, false, false, false, false, false, false, false, false, false, false, false, false, false, false, false, false, false, false, false, false, false, false, false] rfl rfl (any_of HT_.out (by kernel_rfl)) (fun _ _ _ h => h) (Or.inl ⟨by rfl, ?_⟩) ?_ ?_
                        rotate_left
                        · intro w'
                          go_simp
                          with_reducible rfl
                        rotate_left
                        · simp only [Act.put, List.setIfInBounds_toArray, List.set_cons_zero, List.set_cons_succ, i64_w, i32_w]
                          rfl
                        refine take_ (i := 20) (N := some 112) (v := ?_) (a' := ?_) #[true, true, true, true, true, true, true, true, true, true, true, true, true, true, true, true, true, true, true, true, true, true, false, false, false, false, false, false, false, false, false, false, false, false, false, false, false, false, false, false, false, false, false, false, false, false, false, false] rfl rfl (take_ofW HT_.out HW_.out (by kernel_rfl)) (fun _ _ _ h => h) (Or.inl ⟨by rfl, ?_⟩) hHeld ?_ ?_
                        rotate_left
                        · rintro w' ⟨s0, s1, s2, s3, s4, s5, s6, s7, s8, s9, s10, s11, s12, s13⟩
                          go_simp
                          with_reducible rfl
                        rotate_left
                        · simp only [Act.put, List.setIfInBounds_toArray, List.set_cons_zero, List.set_cons_succ, i64_w, i32_w]
                          rfl
                        refine take_ (i := 22) (N := some 114) (v := ?_) (a' := ?_) #[true, true, true, true, true, true, true, true, true, true, true, true, true, true, true, true, true, true, true, true, true, true, true, false, false, false, false, false, false, false, false, false, false, false, false, false, false, false, false, false, false, false, false, false, false, false, false, false] rfl rfl (take_ofW HT_.out HW_.out (by kernel_rfl)) (fun _ _ _ h => h) (Or.inl ⟨by rfl, ?_⟩) hHeld ?_ ?_
                        rotate_left
                        · rintro w' ⟨s0, s1, s2, s3, s4, s5, s6, s7, s8, s9, s10, s11, s12, s13⟩
                          go_simp
                          with_reducible rfl
                        rotate_left
                        · simp only [Act.put, List.setIfInBounds_toArray, List.set_cons_zero, List.set_cons_succ, i64_w, i32_w]
                          rfl
                        refine pure_ (i := 23) (N := some 115) (v := ?_) (a' := ?_) #[true, true, true, true, true, true, true, true, true, true, true, true, true, true, true, true, true, true, true, true, true, true, true, true, false, false, false, false, false, false, false, false, false, false, false, false, false, false, false, false, false, false, false, false, false, false, false, false] rfl rfl (any_of HT_.out (by kernel_rfl)) (fun _ _ _ h => h) (Or.inl ⟨by rfl, ?_⟩) ?_ ?_
                        rotate_left
                        · intro w'
                          go_simp
                          with_reducible rfl
                        rotate_left
                        · simp only [Act.put, List.setIfInBounds_toArray, List.set_cons_zero, List.set_cons_succ, i64_w, i32_w]
                          rfl
                        refine pure_ (i := 24) (N := some 116) (v := ?_) (a' := ?_) #[true, true, true, true, true, true, true, true, true, true, true, true, true, true, true, true, true, true, true, true, true, true, true, true, true, false, false, false, false, false, false, false, false, false, false, false, false, false, false, false, false, false, false, false, false, false, false, false] rfl rfl (any_of HT_.out (by kernel_rfl)) (fun _ _ _ h => h) (Or.inl ⟨by rfl, ?_⟩) ?_ ?_
                        rotate_left
                        · intro w'
                          go_simp
                          with_reducible rfl
                        rotate_left
                        · simp only [Act.put, List.setIfInBounds_toArray, List.set_cons_zero, List.set_cons_succ, i64_w, i32_w]
                          rfl
                        refine pure_ (i := 25) (N := some 117) (v := ?_) (a' := ?_) #[true, true, true, true, true, true, true, true, true, true, true, true, true, true, true, true, true, true, true, true, true, true, true, true, true, true, false, false, false, false, false, false, false, false, false, false, false, false, false, false, false, false, false, false, false, false, false, false] rfl rfl (any_of HT_.out (by kernel_rfl)) (fun _ _ _ h => h) (Or.inl ⟨by rfl, ?_⟩) ?_ ?_
                        rotate_left
                        · intro w'
                          go_simp
                          with_reducible rfl
                        rotate_left
                        · simp only [Act.put, List.setIfInBounds_toArray, List.set_cons_zero, List.set_cons_succ, i64_w, i32_w]
                          rfl
                        refine pure_ (i := 26) (N := some 118) (v := ?_) (a' := ?_) #[true, true, true, true, true, true, true, true, true, true, true, true, true, true, true, true, true, true, true, true, true, true, true, true, true, true, true, false, false, false, false, false, false, false, false, false, false, false, false, false, false, false, false, false, false, false, false, false] rfl rfl (any_of HT_.out (by kernel_rfl)) (fun _ _ _ h => h) (Or.inl ⟨by rfl, ?_⟩) ?_ ?_
                        rotate_left
                        · intro w'
                          go_simp
                          with_reducible rfl
                        rotate_left
                        · simp only [Act.put, List.setIfInBounds_toArray, List.set_cons_zero, List.set_cons_succ, i64_w, i32_w]
                          rfl
                        refine pure_ (i := 27) (N := some 119) (v := ?_) (a' := ?_) #[true, true, true, true, true, true, true, true, true, true, true, true, true, true, true, true, true, true, true, true, true, true, true, true, true, true, true, true, false, false, false, false, false, false, false, false, false, false, false, false, false, false, false, false, false, false, false, false] rfl rfl (any_of HT_.out (by kernel_rfl)) (fun _ _ _ h => h) (Or.inl ⟨by rfl, ?_⟩) ?_ ?_
                        rotate_left
                        · intro w'
                          go_simp
                          with_reducible rfl
                        rotate_left
                        · simp only [Act.put, List.setIfInBounds_toArray, List.set_cons_zero, List.set_cons_succ, i64_w, i32_w]
                          rfl
                        refine pure_ (i := 29) (N := some 121) (v := ?_) (a' := ?_) #[true, true, true, true, true, true, true, true, true, true, true, true, true, true, true, true, true, true, true, true, true, true, true, true, true, true, true, true, false, true, false, false, false, false, false, false, false, false, false, false, false, false, false, false, false, false, false, false] rfl rfl (any_of HT_.out (by kernel_rfl)) (fun _ _ _ h => h) (Or.inl ⟨by rfl, ?_⟩) ?_ ?_
                        rotate_left
                        · intro w'
                          go_simp
                          with_reducible rfl
                        rotate_left
                        · simp only [Act.put, List.setIfInBounds_toArray, List.set_cons_zero, List.set_cons_succ, i64_w, i32_w]
                          rfl
                        refine take_ (i := 28) (N := some 120) (v := ?_) (a' := ?_) #[true, true, true, true, true, true, true, true, true, true, true, true, true, true, true, true, true, true, true, true, true, true, true, true, true, true, true, true, true, true, false, false, false, false, false, false, false, false, false, false, false, false, false, false, false, false, false, false] rfl rfl (take_ofW HT_.out HW_.out (by kernel_rfl)) (fun _ _ _ h => h) (Or.inl ⟨by rfl, ?_⟩) hHeld ?_ ?_
                        rotate_left
                        · rintro w' ⟨s0, s1, s2, s3, s4, s5, s6, s7, s8, s9, s10, s11, s12, s13⟩
                          go_simp
                          with_reducible rfl
                        rotate_left
                        · simp only [Act.put, List.setIfInBounds_toArray, List.set_cons_zero, List.set_cons_succ, i64_w, i32_w]
                          rfl
                        refine take_ (i := 30) (N := some 122) (v := ?_) (a' := ?_) #[true, true, true, true, true, true, true, true, true, true, true, true, true, true, true, true, true, true, true, true, true, true, true, true, true, true, true, true, true, true, true, false, false, false, false, false, false, false, false, false, false, false, false, false, false, false, false, false] rfl rfl (take_ofW HT_.out HW_.out (by kernel_rfl)) (fun _ _ _ h => h) (Or.inl ⟨by rfl, ?_⟩) hHeld ?_ ?_
                        rotate_left
                        · rintro w' ⟨s0, s1, s2, s3, s4, s5, s6, s7, s8, s9, s10, s11, s12, s13⟩
                          go_simp
                          with_reducible rfl
                        rotate_left
                        · simp only [Act.put, List.setIfInBounds_toArray, List.set_cons_zero, List.set_cons_succ, i64_w, i32_w]
                          rfl
                        refine pure_ (i := 31) (N := some 123) (v := ?_) (a' := ?_) #[true, true, true, true, true, true, true, true, true, true, true, true, true, true, true, true, true, true, true, true, true, true, true, true, true, true, true, true, true, true, true, true, false, false, false, false, false, false, false, false, false, false, false, false, false, false, false, false] rfl rfl (any_of HT_.out (by kernel_rfl)) (fun _ _ _ h => h) (Or.inl ⟨by rfl, ?_⟩) ?_ ?_
                        rotate_left
                        · intro w'
                          go_simp
                          with_reducible rfl
                        rotate_left
                        · simp only [Act.put, List.setIfInBounds_toArray, List.set_cons_zero, List.set_cons_succ, i64_w, i32_w]
                          rfl
                        refine pure_ (i := 32) (N := some 124) (v := ?_) (a' := ?_) #[true, true, true, true, true, true, true, true, true, true, true, true, true, true, true, true, true, true, true, true, true, true, true, true, true, true, true, true, true, true, true, true, true, false, false, false, false, false, false, false, false, false, false, false, false, false, false, false] rfl rfl (any_of HT_.out (by kernel_rfl)) (fun _ _ _ h => h) (Or.inl ⟨by rfl, ?_⟩) ?_ ?_
                        rotate_left
                        · intro w'
                          go_simp
                          with_reducible rfl
                        rotate_left
                        · simp only [Act.put, List.setIfInBounds_toArray, List.set_cons_zero, List.set_cons_succ, i64_w, i32_w]
                          rfl
                        refine pure_ (i := 33) (N := some 125) (v := ?_) (a' := ?_) #[true, true, true, true, true, true, true, true, true, true, true, true, true, true, true, true, true, true, true, true, true, true, true, true, true, true, true, true, true, true, true, true, true, true, false, false, false, false, false, false, false, false, false, false, false, false, false, false] rfl rfl (any_of HT_.out (by kernel_rfl)) (fun _ _ _ h => h) (Or.inl ⟨by rfl, ?_⟩) ?_ ?_
                        rotate_left
                        · intro w'
                          go_simp
                          with_reducible rfl
                        rotate_left
                        · simp only [Act.put, List.setIfInBounds_toArray, List.set_cons_zero, List.set_cons_succ, i64_w, i32_w]
                          rfl
                        refine pure_ (i := 34) (N := some 126) (v := ?_) (a' := ?_) #[true, true, true, true, true, true, true, true, true, true, true, true, true, true, true, true, true, true, true, true, true, true, true, true, true, true, true, true, true, true, true, true, true, true, true, false, false, false, false, false, false, false, false, false, false, false, false, false] rfl rfl (any_of HT_.out (by kernel_rfl)) (fun _ _ _ h => h) (Or.inl ⟨by rfl, ?_⟩) ?_ ?_
                        rotate_left
                        · intro w'
                          go_simp
                          with_reducible rfl
                        rotate_left
                        · simp only [Act.put, List.setIfInBounds_toArray, List.set_cons_zero, List.set_cons_succ, i64_w, i32_w]
                          rfl
                        refine pure_ (i := 36) (N := some 128) (v := ?_) (a' := ?_) #[true, true, true, true, true, true, true, true, true, true, true, true, true, true, true, true, true, true, true, true, true, true, true, true, true, true, true, true, true, true, true, true, true, true, true, false, true, false, false, false, false, false, false, false, false, false, false, false] rfl rfl (any_of HT_.out (by kernel_rfl)) (fun _ _ _ h => h) (Or.inl ⟨by rfl, ?_⟩) ?_ ?_
                        rotate_left
                        · intro w'
                          go_simp
                          with_reducible rfl
                        rotate_left
                        · simp only [Act.put, List.setIfInBounds_toArray, List.set_cons_zero, List.set_cons_succ, i64_w, i32_w]
                          rfl
                        refine take_ (i := 35) (N := some 127) (v := ?_) (a' := ?_) #[true, true, true, true, true, true, true, true, true, true, true, true, true, true, true, true, true, true, true, true, true, true, true, true, true, true, true, true, true, true, true, true, true, true, true, true, true, false, false, false, false, false, false, false, false, false, false, false] rfl rfl (take_ofW HT_.out HW_.out (by kernel_rfl)) (fun _ _ _ h => h) (Or.inl ⟨by rfl, ?_⟩) hHeld ?_ ?_
                        rotate_left
                        · rintro w' ⟨s0, s1, s2, s3, s4, s5, s6, s7, s8, s9, s10, s11, s12, s13⟩
                          go_simp
                          with_reducible rfl
                        rotate_left
                        · simp only [Act.put, List.setIfInBounds_toArray, List.set_cons_zero, List.set_cons_succ, i64_w, i32_w]
                          rfl
                        refine take_ (i := 37) (N := some 129) (v := ?_) (a' := ?_) #[true, true, true, true, true, true, true, true, true, true, true, true, true, true, true, true, true, true, true, true, true, true, true, true, true, true, true, true, true, true, true, true, true, true, true, true, true, true, false, false, false, false, false, false, false, false, false, false] rfl rfl (take_ofW HT_.out HW_.out (by kernel_rfl)) (fun _ _ _ h => h) (Or.inl ⟨by rfl, ?_⟩) hHeld ?_ ?_
                        rotate_left
                        · rintro w' ⟨s0, s1, s2, s3, s4, s5, s6, s7, s8, s9, s10, s11, s12, s13⟩
                          go_simp
                          with_reducible rfl
                        rotate_left
                        · simp only [Act.put, List.setIfInBounds_toArray, List.set_cons_zero, List.set_cons_succ, i64_w, i32_w]
                          rfl
                        refine pure_ (i := 38) (N := some 130) (v := ?_) (a' := ?_) #[true, true, true, true, true, true, true, true, true, true, true, true, true, true, true, true, true, true, true, true, true, true, true, true, true, true, true, true, true, true, true, true, true, true, true, true, true, true, true, false, false, false, false, false, false, false, false, false] rfl rfl (any_of HT_.out (by kernel_rfl)) (fun _ _ _ h => h) (Or.inl ⟨by rfl, ?_⟩) ?_ ?_
                        rotate_left
                        · intro w'
                          go_simp
                          with_reducible rfl
                        rotate_left
                        · simp only [Act.put, List.setIfInBounds_toArray, List.set_cons_zero, List.set_cons_succ, i64_w, i32_w]
                          rfl
                        refine pure_ (i := 39) (N := some 131) (v := ?_) (a' := ?_) #[true, true, true, true, true, true, true, true, true, true, true, true, true, true, true, true, true, true, true, true, true, true, true, true, true, true, true, true, true, true, true, true, true, true, true, true, true, true, true, true, false, false, false, false, false, false, false, false] rfl rfl (any_of HT_.out (by kernel_rfl)) (fun _ _ _ h => h) (Or.inl ⟨by rfl, ?_⟩) ?_ ?_
                        rotate_left
                        · intro w'
                          go_simp
                          with_reducible rfl
                        rotate_left
                        · simp only [Act.put, List.setIfInBounds_toArray, List.set_cons_zero, List.set_cons_succ, i64_w, i32_w]
                          rfl
                        refine pure_ (i := 40) (N := some 132) (v := ?_) (a' := ?_) #[true, true, true, true, true, true, true, true, true, true, true, true, true, true, true, true, true, true, true, true, true, true, true, true, true, true, true, true, true, true, true, true, true, true, true, true, true, true, true, true, true, false, false, false, false, false, false, false] rfl rfl (any_of HT_.out (by kernel_rfl)) (fun _ _ _ h => h) (Or.inl ⟨by rfl, ?_⟩) ?_ ?_
                        rotate_left
                        · intro w'
                          go_simp
                          with_reducible rfl
                        rotate_left
                        · simp only [Act.put, List.setIfInBounds_toArray, List.set_cons_zero, List.set_cons_succ, i64_w, i32_w]
                          rfl
                        refine pure_ (i := 41) (N := some 133) (v := ?_) (a' := ?_) #[true, true, true, true, true, true, true, true, true, true, true, true, true, true, true, true, true, true, true, true, true, true, true, true, true, true, true, true, true, true, true, true, true, true, true, true, true, true, true, true, true, true, false, false, false, false, false, false] rfl rfl (any_of HT_.out (by kernel_rfl)) (fun _ _ _ h => h) (Or.inl ⟨by rfl, ?_⟩) ?_ ?_
                        rotate_left
                        · intro w'
                          go_simp
                          with_reducible rfl
                        rotate_left
                        · simp only [Act.put, List.setIfInBounds_toArray, List.set_cons_zero, List.set_cons_succ, i64_w, i32_w]
                          rfl
                        refine pure_ (i := 43) (N := some 135) (v := ?_) (a' := ?_) #[true, true, true, true, true, true, true, true, true, true, true, true, true, true, true, true, true, true, true, true, true, true, true, true, true, true, true, true, true, true, true, true, true, true, true, true, true, true, true, true, true, true, false, true, false, false, false, false] rfl rfl (any_of HT_.out (by kernel_rfl)) (fun _ _ _ h => h) (Or.inl ⟨by rfl, ?_⟩) ?_ ?_
                        rotate_left
                        · intro w'
                          go_simp
                          with_reducible rfl
                        rotate_left
                        · simp only [Act.put, List.setIfInBounds_toArray, List.set_cons_zero, List.set_cons_succ, i64_w, i32_w]
                          rfl
                        refine take_ (i := 42) (N := some 134) (v := ?_) (a' := ?_) #[true, true, true, true, true, true, true, true, true, true, true, true, true, true, true, true, true, true, true, true, true, true, true, true, true, true, true, true, true, true, true, true, true, true, true, true, true, true, true, true, true, true, true, true, false, false, false, false] rfl rfl (take_ofW HT_.out HW_.out (by kernel_rfl)) (fun _ _ _ h => h) (Or.inl ⟨by rfl, ?_⟩) hHeld ?_ ?_
                        rotate_left
                        · rintro w' ⟨s0, s1, s2, s3, s4, s5, s6, s7, s8, s9, s10, s11, s12, s13⟩
                          go_simp
                          with_reducible rfl
                        rotate_left
                        · simp only [Act.put, List.setIfInBounds_toArray, List.set_cons_zero, List.set_cons_succ, i64_w, i32_w]
                          rfl
                        refine one_ (i := 44) (N := some 136) #[true, true, true, true, true, true, true, true, true, true, true, true, true, true, true, true, true, true, true, true, true, true, true, true, true, true, true, true, true, true, true, true, true, true, true, true, true, true, true, true, true, true, true, true, true, false, false, false] rfl rfl (one_of HT_.out (by kernel_rfl)) (by decide) (fun K hK => ?_)
                        refine goes_ Try.func25 (by kernel_rfl) rfl #[.int .i64 a6] (by rfl) rfl rfl (by (try simp only [List.map_toArray, List.map_cons, List.map_nil]); first | done | rfl | (simp only [List.length_drop, List.length_take]; rfl)) ?_
                        with_reducible refine (roundhouselaw5_Key.calls a6 t379 t380 _ A80.out).mono ?_
                        rintro e w121 ⟨rfl, hb⟩
                        refine ⟨_, rfl, ?_⟩
                        have n0_ := Aside0.mk (blk_below (g := gb332) (o := .cells #[.int .i64 t325, .int .u64 t326, .int .u64 t327, .int .u64 t328, .int .u64 t329, .int .u64 t330, .int .u64 t331] 27 (0, 0)) (by (with_reducible repeat (first | refine blk_drewN ?_ _ | refine blk_drew ?_ | refine blk_alloc ?_ _)); exact BK332.out) hb)
                        have n1_ := Aside0.mk (blk_below (g := gb348) (o := .cells #[.int .i64 t341, .int .u64 t342, .int .u64 t343, .int .u64 t344, .int .u64 t345, .int .u64 t346, .int .u64 t347] 27 (0, 0)) (by (with_reducible repeat (first | refine blk_drewN ?_ _ | refine blk_drew ?_ | refine blk_alloc ?_ _)); exact BK348.out) hb)
                        have n2_ := Aside0.mk (blk_below (g := gb357) (o := .cells #[.int .i64 (wrap64 (t325 - 1)), .int .u64 t355, .int .u64 t356, .int .u64 t326, .int .u64 t327, .int .u64 t328, .int .u64 t329] 27 (0, 0)) (by (with_reducible repeat (first | refine blk_drewN ?_ _ | refine blk_drew ?_ | refine blk_alloc ?_ _)); exact BK357.out) hb)
                        have n3_ := Aside0.mk (below_step (by repeat (first | (with_reducible first | exact HB.out | apply below_alloc | apply pw_below_drewN | apply below_drew1 | refine below_set ?_ GE332.out | refine below_set ?_ GE348.out | refine below_set ?_ GE357.out) | exact HB.out)) hb)
                        clear BK332
                        clear BK348
                        clear BK357
                        clear HB
                        have BK332 := n0_
                        have BK348 := n1_
                        have BK357 := n2_
                        have HB := n3_
                        clear n0_ n1_ n2_ n3_
                        (try clear hb)
                        (try clear hb2)
                        (try clear hk)
                        (try clear hi)
                        refine hK.out _ _ ⟨(blk_cell BK348.out 0).trans rfl, (blk_cell BK348.out 1).trans rfl, (blk_cell BK348.out 2).trans rfl, (blk_cell BK348.out 3).trans rfl, (blk_cell BK348.out 4).trans rfl, (blk_cell BK348.out 5).trans rfl, (blk_cell BK348.out 6).trans rfl, (blk_cell BK332.out 0).trans rfl, (blk_cell BK332.out 1).trans rfl, (blk_cell BK332.out 2).trans rfl, (blk_cell BK332.out 3).trans rfl, (blk_cell BK332.out 4).trans rfl, (blk_cell BK332.out 5).trans rfl, (blk_cell BK332.out 6).trans rfl⟩ (fun hHeld => ?_)
                        clear hK K
                        refine norm_ (a' := ?_) ?_ ?_
                        rotate_left
                        · show Act.put _ (some 136) _ = _
                          simp only [Act.put, List.setIfInBounds_toArray, List.set_cons_zero, List.set_cons_succ, i64_w, i32_w]
                          rfl
                        refine pure_ (i := 45) (N := some 137) (v := ?_) (a' := ?_) #[true, true, true, true, true, true, true, true, true, true, true, true, true, true, true, true, true, true, true, true, true, true, true, true, true, true, true, true, true, true, true, true, true, true, true, true, true, true, true, true, true, true, true, true, true, true, false, false] rfl rfl (any_of HT_.out (by kernel_rfl)) (fun _ _ _ h => h) (Or.inl ⟨by rfl, ?_⟩) ?_ ?_
                        rotate_left
                        · intro w'
                          go_simp
                          with_reducible rfl
                        rotate_left
                        · simp only [Act.put, List.setIfInBounds_toArray, List.set_cons_zero, List.set_cons_succ, i64_w, i32_w]
                          rfl
                        refine pure_ (i := 46) (N := some 138) (v := ?_) (a' := ?_) #[true, true, true, true, true, true, true, true, true, true, true, true, true, true, true, true, true, true, true, true, true, true, true, true, true, true, true, true, true, true, true, true, true, true, true, true, true, true, true, true, true, true, true, true, true, true, true, false] rfl rfl (any_of HT_.out (by kernel_rfl)) (fun _ _ _ h => h) (Or.inl ⟨by rfl, ?_⟩) ?_ ?_
                        rotate_left
                        · intro w'
                          go_simp
                          with_reducible rfl
                        rotate_left
                        · simp only [Act.put, List.setIfInBounds_toArray, List.set_cons_zero, List.set_cons_succ, i64_w, i32_w]
                          rfl
                        refine pure_ (i := 47) (N := some 14) (v := ?_) (a' := ?_) #[true, true, true, true, true, true, true, true, true, true, true, true, true, true, true, true, true, true, true, true, true, true, true, true, true, true, true, true, true, true, true, true, true, true, true, true, true, true, true, true, true, true, true, true, true, true, true, true] rfl rfl (any_of HT_.out (by kernel_rfl)) (fun _ _ _ h => h) (Or.inl ⟨by rfl, ?_⟩) ?_ ?_
                        rotate_left
                        · intro w'
                          go_simp
                          with_reducible rfl
                        rotate_left
                        · simp only [Act.put, List.setIfInBounds_toArray, List.set_cons_zero, List.set_cons_succ, i64_w, i32_w]
                          rfl
                        refine done_ (done_of HT_.out (by kernel_rfl)) ?_
                        try go_wp2
                        go_ret
                        exact ⟨by first | rfl | (simp [errW_none, errW_some] <;> rfl) | (simp [*, errW_none, errW_some] <;> rfl), by repeat (first | (with_reducible first | exact HB.out | apply below_alloc | apply pw_below_drewN | apply below_drew1 | refine below_set ?_ GE332.out | refine below_set ?_ GE348.out | refine below_set ?_ GE357.out) | exact HB.out)⟩
                      · rw [if_neg c79] at H
                        have c79b0 : (t344 == t330 && (t345 == t331)) = false := by simpa using c79
                        (try (have c79b1 : decide (t344 = t330 && (t345 == t331)) = false := by simpa using c79))
                        (try (have c79b2 : (t344 == t330 && (t345 == t331)) = false := by simpa using c79))
                        (try (have c79b3 : ¬ (t344 = t330 && (t345 == t331)) := by simpa using c79))
                        clear c79
                        exact absurd hr_.out (by rw [← Option.some.inj H]; decide)
                    · rw [if_neg c78] at H
                      have c78b0 : (t342 == t328 && (t343 == t329)) = false := by simpa using c78
                      (try (have c78b1 : decide (t342 = t328 && (t343 == t329)) = false := by simpa using c78))
                      (try (have c78b2 : (t342 == t328 && (t343 == t329)) = false := by simpa using c78))
                      (try (have c78b3 : ¬ (t342 = t328 && (t343 == t329)) := by simpa using c78))
                      clear c78
                      exact absurd hr_.out (by rw [← Option.some.inj H]; decide)
                  · rw [if_neg c77] at H
                    have c77b0 : (t341 == (wrap64 (t325 + 1))) = false := beq_eq_false_iff_ne.mpr c77
                    have c77b1 : (t341 != (wrap64 (t325 + 1))) = true := bne_iff_ne.mpr c77
                    exact absurd hr_.out (by rw [← Option.some.inj H]; decide)
              · rw [if_neg c35] at H
                have c35b0 : (t362 == t333) = false := beq_eq_false_iff_ne.mpr c35
                have c35b1 : (t362 != t333) = true := bne_iff_ne.mpr c35
                exact absurd hr_.out (by rw [← Option.some.inj H]; decide)
            · replace c34 := Bool.eq_false_iff.mpr c34
              subst c34
              have H1 : (some false) = some r := by rw [if_neg (show ¬ (false = true) by decide)] at H; exact H
              clear H
              have H := H1
              clear H1
              exact absurd hr_.out (by rw [← Option.some.inj H]; decide)
          · rw [if_neg c33] at H
            have c33b0 : (t353 == t333) = false := beq_eq_false_iff_ne.mpr c33
            have c33b1 : (t353 != t333) = true := bne_iff_ne.mpr c33
            exact absurd hr_.out (by rw [← Option.some.inj H]; decide)
        · replace c32 := Bool.eq_false_iff.mpr c32
          subst c32
          have H1 : (some false) = some r := by rw [if_neg (show ¬ (false = true) by decide)] at H; exact H
          clear H
          have H := H1
          clear H1
          exact absurd hr_.out (by rw [← Option.some.inj H]; decide)
  · replace c9 := Bool.eq_false_iff.mpr c9
    subst c9
    have H1 : (some false) = some r := by rw [if_neg (show ¬ (false = true) by decide)] at H; exact H
    clear H
    have H := H1
    clear H1
    exact absurd hr_.out (by rw [← Option.some.inj H]; decide)
/-- THE ONE PURE STATEMENT of roundhouselaw5_CookieAges: yours. -/
def roundhouselaw5_CookieAges.Pure : Prop := ∀ (a0 : Int) (a1 : Int) (a2 : Bool) (a3 : Int) (a4 : Int) (a5 : Int) (a6 : Int), (Lit.int .i64 a0).wf = true → (Lit.int .i64 a1).wf = true → (Lit.int .i64 a3).wf = true → (Lit.int .i64 a4).wf = true → (Lit.int .i64 a5).wf = true → (Lit.int .i64 a6).wf = true → ∃ k, roundhouselaw5_CookieAges.f k a0 a1 a2 a3 a4 a5 a6 = some true
theorem roundhouselaw5_CookieAges.walk (P : roundhouselaw5_CookieAges.Pure) (a0 : Int) (a1 : Int) (a2 : Bool) (a3 : Int) (a4 : Int) (a5 : Int) (a6 : Int) (w : World) (w0 : (Lit.int .i64 a0).wf = true) (w1 : (Lit.int .i64 a1).wf = true) (w3 : (Lit.int .i64 a3).wf = true) (w4 : (Lit.int .i64 a4).wf = true) (w5 : (Lit.int .i64 a5).wf = true) (w6 : (Lit.int .i64 a6).wf = true) :
    Calls Try.prog 5 #[.int .i64 a0, .int .i64 a1, .bool a2, .int .i64 a3, .int .i64 a4, .int .i64 a5, .int .i64 a6] w fun e w' => e = .returned (.bool true) ∧ Below w.heap.size w w' := by
  obtain ⟨k, h⟩ := P a0 a1 a2 a3 a4 a5 a6 w0 w1 w3 w4 w5 w6
  refine (roundhouselaw5_CookieAges.calls k a0 a1 a2 a3 a4 a5 a6 true w h ⟨rfl⟩).mono ?_
  rintro e w' ⟨rfl, hd⟩
  exact ⟨rfl, hd⟩

end Go.Proofs.Ytnaplobnkmdfbaa.Q
