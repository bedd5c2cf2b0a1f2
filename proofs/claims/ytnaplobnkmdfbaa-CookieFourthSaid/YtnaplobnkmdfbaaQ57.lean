/- By a program of this session (wip/tools/myprint.py), out of the translation: for each Go function a plain Lean function, and that the call comes to what that function says; a law's row out of its plain statement. Lean checks it. -/
import Derived.Test.YtnaplobnkmdfbaaCookG
import Derived.Test.YtnaplobnkmdfbaaQ0
import Derived.Test.YtnaplobnkmdfbaaQ1
import Derived.Test.YtnaplobnkmdfbaaQ21
import Derived.Test.YtnaplobnkmdfbaaQ26
import Derived.Test.YtnaplobnkmdfbaaQ31
import Derived.Test.YtnaplobnkmdfbaaQ54
namespace Go.Proofs.Ytnaplobnkmdfbaa.Q
open Go.RowKit Go.Proofs.YtnaplobnkmdfbaaW.PrintWords Go.Proofs.YtnaplobnkmdfbaaW.PrintLast Go.Proofs.YtnaplobnkmdfbaaW.PrintMore
attribute [local go_sem] max2_int min2_int max_two min_two max_three min_three max_four min_four   -- for this text's walks alone
set_option linter.unusedVariables false
set_option linter.unusedSimpArgs false

open Go.Proofs.Ytnaplobnkmdfbaa.Own
attribute [local go_sem high] eqA25
/-! ### roundhouselaw5_CookieFourth: function 11 -/
def roundhouselaw5_CookieFourth.j0 : Nat → Bool → Int → Int → Int → Int → Int → Int → Int → Int → Int → Int → Int → Option (Bool)
  | 0, _, _, _, _, _, _, _, _, _, _, _, _ => none
  | k + 1, x2, x3, x4, x5, x14, x519000, x519001, x519002, x519003, x519004, x519005, x519006 => if 0 ≤ x14 then ((roundhouselaw5_within.f x5 (shl .i64 1 x14)).bind fun t519 => ((roundhouselaw5_kind.f x2).bind fun t520 => ((roundhouselaw5_Flow.f x3 x4).bind fun bt521 => ((cookie_Read.f k x519000 x519001 x519002 x519003 x519004 x519005 x519006 t520 bt521.1 bt521.2.1 bt521.2.2.1 bt521.2.2.2 (Go.bits .or .i64 t519 (shl .i64 (Int.tmod (wrap64 (x519000 + 2)) 4) x14))).bind fun bt525 => ((cookie_Key.f k x519000 x519001 x519002 x519003 x519004 x519005 x519006 (wrap64 (x519000 + 2))).bind fun bt527 => (if bt525.2 = true then (some false) else (if bt525.1 = 0 then (if bt527.2.2 = true then (some false) else (some (bt527.1 == 0 && (bt527.2.1 == 0)))) else (some false)))))))) else (none)
def roundhouselaw5_CookieFourth.f (k : Nat) (a0 : Int) (a1 : Int) (a2 : Bool) (a3 : Int) (a4 : Int) (a5 : Int) : Option (Bool) := (roundhouselaw5_known.f k).bind fun t510 => (if t510 = true then ((roundhouselaw5_Ring.f k a0 a1).bind fun bt511 => (if a2 = true then (roundhouselaw5_CookieFourth.j0 k a2 a3 a4 a5 18 bt511.1 bt511.2.1 bt511.2.2.1 bt511.2.2.2.1 bt511.2.2.2.2.1 bt511.2.2.2.2.2.1 bt511.2.2.2.2.2.2) else (roundhouselaw5_CookieFourth.j0 k a2 a3 a4 a5 14 bt511.1 bt511.2.1 bt511.2.2.1 bt511.2.2.2.1 bt511.2.2.2.2.1 bt511.2.2.2.2.2.1 bt511.2.2.2.2.2.2))) else (some false))
theorem roundhouselaw5_CookieFourth.mono_l : ∀ k, (∀ y0 y1 y2 y3 y4 y5 y6 y7 y8 y9 y10 y11, LeO (roundhouselaw5_CookieFourth.j0 k y0 y1 y2 y3 y4 y5 y6 y7 y8 y9 y10 y11) (roundhouselaw5_CookieFourth.j0 (k + 1) y0 y1 y2 y3 y4 y5 y6 y7 y8 y9 y10 y11))
  | 0 => fun _ _ _ _ _ _ _ _ _ _ _ _ r h => by simp [roundhouselaw5_CookieFourth.j0] at h
  | k + 1 => by
    have ih0 := roundhouselaw5_CookieFourth.mono_l k
    · intro y0 y1 y2 y3 y4 y5 y6 y7 y8 y9 y10 y11
      unfold roundhouselaw5_CookieFourth.j0
      repeat' first
      | (with_reducible exact ih0 _ _ _ _ _ _ _ _ _ _ _ _)
      | (with_reducible exact cookie_Key.mono _ _ _ _ _ _ _ _ _)
      | (with_reducible exact cookie_Read.mono _ _ _ _ _ _ _ _ _ _ _ _ _ _)
      | (with_reducible exact roundhouselaw5_Ring.mono _ _ _)
      | (with_reducible exact roundhouselaw5_known.mono _)
      | (with_reducible exact LeO.refl _)
      | (with_reducible exact LeO.none _)
      | (with_reducible refine LeO.ite ?_ ?_)
      | (with_reducible refine LeO.bind ?_ (fun _ => ?_))
      | exact ih0 _ _ _ _ _ _ _ _ _ _ _ _
      | exact cookie_Key.mono _ _ _ _ _ _ _ _ _
      | exact cookie_Read.mono _ _ _ _ _ _ _ _ _ _ _ _ _ _
      | exact roundhouselaw5_Ring.mono _ _ _
      | exact roundhouselaw5_known.mono _
      | exact LeO.none _
      | refine LeO.ite ?_ ?_
      | refine LeO.bind ?_ (fun _ => ?_)
theorem roundhouselaw5_CookieFourth.mono : ∀ a0 a1 a2 a3 a4 a5 k, LeO (roundhouselaw5_CookieFourth.f k a0 a1 a2 a3 a4 a5) (roundhouselaw5_CookieFourth.f (k + 1) a0 a1 a2 a3 a4 a5) := by
  intro a0 a1 a2 a3 a4 a5 k
  have ih0 := roundhouselaw5_CookieFourth.mono_l k
  unfold roundhouselaw5_CookieFourth.f
  repeat' first
      | (with_reducible exact ih0 _ _ _ _ _ _ _ _ _ _ _ _)
      | (with_reducible exact cookie_Key.mono _ _ _ _ _ _ _ _ _)
      | (with_reducible exact cookie_Read.mono _ _ _ _ _ _ _ _ _ _ _ _ _ _)
      | (with_reducible exact roundhouselaw5_Ring.mono _ _ _)
      | (with_reducible exact roundhouselaw5_known.mono _)
      | (with_reducible exact LeO.refl _)
      | (with_reducible exact LeO.none _)
      | (with_reducible refine LeO.ite ?_ ?_)
      | (with_reducible refine LeO.bind ?_ (fun _ => ?_))
      | exact ih0 _ _ _ _ _ _ _ _ _ _ _ _
      | exact cookie_Key.mono _ _ _ _ _ _ _ _ _
      | exact cookie_Read.mono _ _ _ _ _ _ _ _ _ _ _ _ _ _
      | exact roundhouselaw5_Ring.mono _ _ _
      | exact roundhouselaw5_known.mono _
      | exact LeO.none _
      | refine LeO.ite ?_ ?_
      | refine LeO.bind ?_ (fun _ => ?_)
def roundhouselaw5_CookieFourth.T7 : Bool × List (List Nat × List Nat) := (true, [([], []), ([], []), ([1], [1]), ([0, 2], [0, 2]), ([], []), ([4], [4]), ([5], [5]), ([6], [6]), ([], []), ([7, 8], [7, 8]), ([3, 9], [3, 9]), ([10, 3, 0, 1, 2, 3, 4, 5, 6, 7, 8, 9, 10], [10])])
def roundhouselaw5_CookieFourth.B7 : List Nat := [0, 0, 2, 7, 0, 16, 48, 112, 0, 496, 1023, 2047]
theorem roundhouselaw5_CookieFourth.tab7 : rtab .any (opsOf Try.f11 7) = roundhouselaw5_CookieFourth.T7 := by kernel_rfl
theorem roundhouselaw5_CookieFourth.bits7 : waitsOk roundhouselaw5_CookieFourth.T7.2 roundhouselaw5_CookieFourth.B7 = true := by kernel_rfl
def roundhouselaw5_CookieFourth.T8 : Bool × List (List Nat × List Nat) := (true, [([], []), ([], []), ([1], [1]), ([], []), ([], []), ([3, 4, 2], [3, 4]), ([], []), ([0, 2, 5, 6, 5], [0, 2, 5, 6]), ([7], [7]), ([8], [8]), ([8], [8]), ([9, 7, 0, 1, 2, 3, 4, 5, 6, 7, 8, 9], [9]), ([10, 11, 0, 1, 2, 3, 4, 5, 6, 7, 8, 9, 10, 11], [10])])
def roundhouselaw5_CookieFourth.B8 : List Nat := [0, 0, 2, 0, 0, 30, 0, 127, 255, 511, 511, 1023, 4095]
theorem roundhouselaw5_CookieFourth.tab8 : rtab .any (opsOf Try.f11 8) = roundhouselaw5_CookieFourth.T8 := by kernel_rfl
theorem roundhouselaw5_CookieFourth.bits8 : waitsOk roundhouselaw5_CookieFourth.T8.2 roundhouselaw5_CookieFourth.B8 = true := by kernel_rfl
set_option maxHeartbeats 8000000 in
set_option maxRecDepth 100000 in
theorem roundhouselaw5_CookieFourth.calls (k : Nat) (a0 : Int) (a1 : Int) (a2 : Bool) (a3 : Int) (a4 : Int) (a5 : Int) (r : Bool) (w : World) (h : roundhouselaw5_CookieFourth.f k a0 a1 a2 a3 a4 a5 = some r) (hr_ : Aside0 (r = true)) :
    Calls Try.prog 11 #[.int .i64 a0, .int .i64 a1, .bool a2, .int .i64 a3, .int .i64 a4, .int .i64 a5] w fun e w' => e = .returned (.bool r) ∧ Below w.heap.size w w' := by
  have hu27 := Try.underlying27
  have hu25 := Try.underlying25
  have HB := Aside0.mk (Below.refl w.heap.size w)
  have H : ((roundhouselaw5_known.f k).bind fun t510 => (if t510 = true then ((roundhouselaw5_Ring.f k a0 a1).bind fun bt511 => (if a2 = true then (roundhouselaw5_CookieFourth.j0 k a2 a3 a4 a5 18 bt511.1 bt511.2.1 bt511.2.2.1 bt511.2.2.2.1 bt511.2.2.2.2.1 bt511.2.2.2.2.2.1 bt511.2.2.2.2.2.2) else (roundhouselaw5_CookieFourth.j0 k a2 a3 a4 a5 14 bt511.1 bt511.2.1 bt511.2.2.1 bt511.2.2.2.1 bt511.2.2.2.2.1 bt511.2.2.2.2.2.1 bt511.2.2.2.2.2.2))) else (some false))) = some r := h
  clear h
  replace H := Option.bind_eq_some_iff.mp H
  obtain ⟨t510, A70, H⟩ := H
  replace H : (if t510 = true then ((roundhouselaw5_Ring.f k a0 a1).bind fun bt511 => (if a2 = true then (roundhouselaw5_CookieFourth.j0 k a2 a3 a4 a5 18 bt511.1 bt511.2.1 bt511.2.2.1 bt511.2.2.2.1 bt511.2.2.2.2.1 bt511.2.2.2.2.2.1 bt511.2.2.2.2.2.2) else (roundhouselaw5_CookieFourth.j0 k a2 a3 a4 a5 14 bt511.1 bt511.2.1 bt511.2.2.1 bt511.2.2.2.1 bt511.2.2.2.2.1 bt511.2.2.2.2.2.1 bt511.2.2.2.2.2.2))) else (some false)) = some r := H
  have A7 := Aside0.mk A70
  clear A70
  by_cases c8 : t510 = true
  · subst c8
    have H1 : ((roundhouselaw5_Ring.f k a0 a1).bind fun bt511 => (if a2 = true then (roundhouselaw5_CookieFourth.j0 k a2 a3 a4 a5 18 bt511.1 bt511.2.1 bt511.2.2.1 bt511.2.2.2.1 bt511.2.2.2.2.1 bt511.2.2.2.2.2.1 bt511.2.2.2.2.2.2) else (roundhouselaw5_CookieFourth.j0 k a2 a3 a4 a5 14 bt511.1 bt511.2.1 bt511.2.2.1 bt511.2.2.2.1 bt511.2.2.2.2.1 bt511.2.2.2.2.2.1 bt511.2.2.2.2.2.2))) = some r := by rw [if_pos rfl] at H; exact H
    clear H
    have H := H1
    clear H1
    replace H := Option.bind_eq_some_iff.mp H
    obtain ⟨⟨t511, t512, t513, t514, t515, t516, t517⟩, A90, H⟩ := H
    replace H : (if a2 = true then (roundhouselaw5_CookieFourth.j0 k a2 a3 a4 a5 18 t511 t512 t513 t514 t515 t516 t517) else (roundhouselaw5_CookieFourth.j0 k a2 a3 a4 a5 14 t511 t512 t513 t514 t515 t516 t517)) = some r := H
    have A9 := Aside0.mk A90
    clear A90
    have HC10 := Aside0.mk H
    clear H
    go_enter Try.func11, Try.ntmps11
    go_upto_if 25 with (first | ((with_reducible refine gate_callee (f := 16) rfl ?_); refine goesL_ (some 20) rfl rfl Try.func16 (by kernel_rfl) rfl #[] rfl (by (try simp only [List.map_toArray, List.map_cons, List.map_nil]); first | done | rfl | (simp only [List.length_drop, List.length_take]; rfl)) ?_; (with_reducible refine (roundhouselaw5_known.calls k  true _ A7.out).mono ?_); rintro e w11 ⟨rfl, hb⟩; refine ⟨_, rfl, ?_⟩; have n0_ := Aside0.mk (below_step (by repeat (first | (with_reducible first | exact HB.out | apply below_alloc | apply pw_below_drewN | apply below_drew1) | exact HB.out)) hb); clear HB; have HB := n0_; clear n0_; (try clear hb); (try clear hb2); (try clear hk); (try clear hi)) | ((with_reducible refine gate_callee (f := 17) rfl ?_); refine goesL_ (some 24) rfl rfl Try.func17 (by kernel_rfl) rfl #[.int .i64 a0, .int .i64 a1] rfl (by (try simp only [List.map_toArray, List.map_cons, List.map_nil]); first | done | rfl | (simp only [List.length_drop, List.length_take]; rfl)) ?_; (with_reducible refine (roundhouselaw5_Ring.calls k a0 a1 t511 t512 t513 t514 t515 t516 t517 _ A9.out).mono ?_); rintro e w12 ⟨rfl, hb⟩; refine ⟨_, rfl, ?_⟩; have n0_ := Aside0.mk (below_step (by repeat (first | (with_reducible first | exact HB.out | apply below_alloc | apply pw_below_drewN | apply below_drew1) | exact HB.out)) hb); clear HB; have HB := n0_; clear n0_; (try clear hb); (try clear hb2); (try clear hk); (try clear hi)) | ((with_reducible refine gate_dst (N := 13) rfl ?_); refine box_event ?hg (N := 13) ?hd (cs := #[.int .i64 0, .int .u64 0, .int .u64 0, .int .u64 0, .int .u64 0, .int .u64 0, .int .u64 0]) (t := 27) ?hr ?_; (case hd => rfl); (case hg => rfl); (case hr => first | (go_simp; done) | (go_simp; rfl)); intro gb518 hg w13 hbox hb; have n0_ := Aside0.mk (below_step (by repeat (first | (with_reducible first | exact HB.out | apply below_alloc | apply pw_below_drewN | apply below_drew1) | exact HB.out)) hb); have n1_ := Aside0.mk (hbox); have n2_ := Aside0.mk ((by rw [hg]; exact (below_size (by repeat (first | (with_reducible first | exact HB.out | apply below_alloc | apply pw_below_drewN | apply below_drew1) | exact HB.out))) : w.heap.size ≤ gb518)); have n3_ := Aside0.mk ((by rw [hg]; exact (below_size (by repeat (first | (with_reducible first | exact HB.out | apply below_alloc | apply pw_below_drewN | apply below_drew1) | exact HB.out))) : w.heap.size ≤ gb518)); clear HB; have HB := n0_; have BK518 := n1_; have GW518 := n2_; have GE518 := n3_; clear n0_ n1_ n2_ n3_; clear hb hbox hg; have hcz14_0 : w13.cell? ⟨gb518, 0, none⟩ = some (.int .i64 0) := (blk_cell BK518.out 0).trans rfl; have hcz14_1 : w13.cell? ⟨gb518, 1, none⟩ = some (.int .u64 0) := (blk_cell BK518.out 1).trans rfl; have hcz14_2 : w13.cell? ⟨gb518, 2, none⟩ = some (.int .u64 0) := (blk_cell BK518.out 2).trans rfl; have hcz14_3 : w13.cell? ⟨gb518, 3, none⟩ = some (.int .u64 0) := (blk_cell BK518.out 3).trans rfl; have hcz14_4 : w13.cell? ⟨gb518, 4, none⟩ = some (.int .u64 0) := (blk_cell BK518.out 4).trans rfl; have hcz14_5 : w13.cell? ⟨gb518, 5, none⟩ = some (.int .u64 0) := (blk_cell BK518.out 5).trans rfl; have hcz14_6 : w13.cell? ⟨gb518, 6, none⟩ = some (.int .u64 0) := (blk_cell BK518.out 6).trans rfl; have hfz14_0 := blk_frozen BK518.out 0; have hfz14_1 := blk_frozen BK518.out 1; have hfz14_2 := blk_frozen BK518.out 2; have hfz14_3 := blk_frozen BK518.out 3; have hfz14_4 := blk_frozen BK518.out 4; have hfz14_5 := blk_frozen BK518.out 5; have hfz14_6 := blk_frozen BK518.out 6))
    (try simp only [Act.put, List.setIfInBounds_toArray, List.set_cons_zero, List.set_cons_succ])
    go_cut [14] (fun v14 wc => ∃ (kq : Nat) (x14_9 : Int), v14 = .int .u64 x14_9 ∧ Aside0 (roundhouselaw5_CookieFourth.j0 kq a2 a3 a4 a5 x14_9 t511 t512 t513 t514 t515 t516 t517 = some r) ∧ Aside0 (kq ≤ k) ∧ Aside0 (wc.heap[gb518]? = some (.cells #[.int .i64 t511, .int .u64 t512, .int .u64 t513, .int .u64 t514, .int .u64 t515, .int .u64 t516, .int .u64 t517] 27 (0, 0))) ∧ Aside0 (Below w.heap.size w wc))
    case first =>
      have H := HC10.out
      clear HC10
      by_cases c15 : a2 = true
      · subst c15
        have H1 : (roundhouselaw5_CookieFourth.j0 k true a3 a4 a5 18 t511 t512 t513 t514 t515 t516 t517) = some r := by rw [if_pos rfl] at H; exact H
        clear H
        have H := H1
        clear H1
        have H' := Aside0.mk H
        clear H
        go_wp2
        go_meet
        case rel => exact ⟨_, (18), (by first | rfl | (simp; done) | (simp [*]; done)), H', ⟨by first | omega | exact Nat.le_refl _⟩, ⟨by (with_reducible repeat (first | refine blk_drewN ?_ _ | refine blk_drew ?_ | refine blk_alloc ?_ _)); refine blk_put (cs := #[.int .i64 t511, .int .u64 t512, .int .u64 t513, .int .u64 t514, .int .u64 t515, .int .u64 t516, .int .u64 0]) ?_ 6 _ rfl; (with_reducible repeat (first | refine blk_drewN ?_ _ | refine blk_drew ?_ | refine blk_alloc ?_ _)); refine blk_put (cs := #[.int .i64 t511, .int .u64 t512, .int .u64 t513, .int .u64 t514, .int .u64 t515, .int .u64 0, .int .u64 0]) ?_ 5 _ rfl; (with_reducible repeat (first | refine blk_drewN ?_ _ | refine blk_drew ?_ | refine blk_alloc ?_ _)); refine blk_put (cs := #[.int .i64 t511, .int .u64 t512, .int .u64 t513, .int .u64 t514, .int .u64 0, .int .u64 0, .int .u64 0]) ?_ 4 _ rfl; (with_reducible repeat (first | refine blk_drewN ?_ _ | refine blk_drew ?_ | refine blk_alloc ?_ _)); refine blk_put (cs := #[.int .i64 t511, .int .u64 t512, .int .u64 t513, .int .u64 0, .int .u64 0, .int .u64 0, .int .u64 0]) ?_ 3 _ rfl; (with_reducible repeat (first | refine blk_drewN ?_ _ | refine blk_drew ?_ | refine blk_alloc ?_ _)); refine blk_put (cs := #[.int .i64 t511, .int .u64 t512, .int .u64 0, .int .u64 0, .int .u64 0, .int .u64 0, .int .u64 0]) ?_ 2 _ rfl; (with_reducible repeat (first | refine blk_drewN ?_ _ | refine blk_drew ?_ | refine blk_alloc ?_ _)); refine blk_put (cs := #[.int .i64 t511, .int .u64 0, .int .u64 0, .int .u64 0, .int .u64 0, .int .u64 0, .int .u64 0]) ?_ 1 _ rfl; (with_reducible repeat (first | refine blk_drewN ?_ _ | refine blk_drew ?_ | refine blk_alloc ?_ _)); refine blk_put (cs := #[.int .i64 0, .int .u64 0, .int .u64 0, .int .u64 0, .int .u64 0, .int .u64 0, .int .u64 0]) ?_ 0 _ rfl; (with_reducible repeat (first | refine blk_drewN ?_ _ | refine blk_drew ?_ | refine blk_alloc ?_ _)); exact BK518.out⟩, ⟨by repeat (first | (with_reducible first | exact HB.out | apply below_alloc | apply pw_below_drewN | apply below_drew1 | refine below_set ?_ GE518.out) | exact HB.out)⟩⟩
      · replace c15 := Bool.eq_false_iff.mpr c15
        subst c15
        have H1 : (roundhouselaw5_CookieFourth.j0 k false a3 a4 a5 14 t511 t512 t513 t514 t515 t516 t517) = some r := by rw [if_neg (show ¬ (false = true) by decide)] at H; exact H
        clear H
        have H := H1
        clear H1
        have H' := Aside0.mk H
        clear H
        go_wp2
        go_meet
        case rel => exact ⟨_, (14), (by first | rfl | (simp; done) | (simp [*]; done)), H', ⟨by first | omega | exact Nat.le_refl _⟩, ⟨by (with_reducible repeat (first | refine blk_drewN ?_ _ | refine blk_drew ?_ | refine blk_alloc ?_ _)); refine blk_put (cs := #[.int .i64 t511, .int .u64 t512, .int .u64 t513, .int .u64 t514, .int .u64 t515, .int .u64 t516, .int .u64 0]) ?_ 6 _ rfl; (with_reducible repeat (first | refine blk_drewN ?_ _ | refine blk_drew ?_ | refine blk_alloc ?_ _)); refine blk_put (cs := #[.int .i64 t511, .int .u64 t512, .int .u64 t513, .int .u64 t514, .int .u64 t515, .int .u64 0, .int .u64 0]) ?_ 5 _ rfl; (with_reducible repeat (first | refine blk_drewN ?_ _ | refine blk_drew ?_ | refine blk_alloc ?_ _)); refine blk_put (cs := #[.int .i64 t511, .int .u64 t512, .int .u64 t513, .int .u64 t514, .int .u64 0, .int .u64 0, .int .u64 0]) ?_ 4 _ rfl; (with_reducible repeat (first | refine blk_drewN ?_ _ | refine blk_drew ?_ | refine blk_alloc ?_ _)); refine blk_put (cs := #[.int .i64 t511, .int .u64 t512, .int .u64 t513, .int .u64 0, .int .u64 0, .int .u64 0, .int .u64 0]) ?_ 3 _ rfl; (with_reducible repeat (first | refine blk_drewN ?_ _ | refine blk_drew ?_ | refine blk_alloc ?_ _)); refine blk_put (cs := #[.int .i64 t511, .int .u64 t512, .int .u64 0, .int .u64 0, .int .u64 0, .int .u64 0, .int .u64 0]) ?_ 2 _ rfl; (with_reducible repeat (first | refine blk_drewN ?_ _ | refine blk_drew ?_ | refine blk_alloc ?_ _)); refine blk_put (cs := #[.int .i64 t511, .int .u64 0, .int .u64 0, .int .u64 0, .int .u64 0, .int .u64 0, .int .u64 0]) ?_ 1 _ rfl; (with_reducible repeat (first | refine blk_drewN ?_ _ | refine blk_drew ?_ | refine blk_alloc ?_ _)); refine blk_put (cs := #[.int .i64 0, .int .u64 0, .int .u64 0, .int .u64 0, .int .u64 0, .int .u64 0, .int .u64 0]) ?_ 0 _ rfl; (with_reducible repeat (first | refine blk_drewN ?_ _ | refine blk_drew ?_ | refine blk_alloc ?_ _)); exact BK518.out⟩, ⟨by repeat (first | (with_reducible first | exact HB.out | apply below_alloc | apply pw_below_drewN | apply below_drew1 | refine below_set ?_ GE518.out) | exact HB.out)⟩⟩
    case rest =>
      clear HC10
      try clear c1
      try clear p2
      try clear c8
      try clear c11
      try clear c15
      try clear hcz14_0
      try clear hcz14_1
      try clear hcz14_2
      try clear hcz14_3
      try clear hcz14_4
      try clear hcz14_5
      try clear hcz14_6
      try clear hfz14_0
      try clear hfz14_1
      try clear hfz14_2
      try clear hfz14_3
      try clear hfz14_4
      try clear hfz14_5
      try clear hfz14_6
      obtain ⟨kq, x14_9, rfl, HA, HJ9, BK518, HB⟩ := hcut
      cases kq with
      | zero => exact absurd HA.out (by simp [roundhouselaw5_CookieFourth.j0])
      | succ kj9 =>
        have H := HA.out
        clear HA
        simp only [roundhouselaw5_CookieFourth.j0] at H
        by_cases c16 : 0 ≤ x14_9
        · rw [if_pos c16] at H
          have c16b0 := eq_true c16
          have c16b1 : decide (0 ≤ x14_9) = true := decide_eq_true c16
          clear c16
          obtain ⟨ji17, hji17⟩ : ∃ j_ : Int, (shl .i64 1 x14_9) = j_ := ⟨_, rfl⟩
          replace H : ((roundhouselaw5_within.f a5 (ji17)).bind fun t519 => ((roundhouselaw5_kind.f a2).bind fun t520 => ((roundhouselaw5_Flow.f a3 a4).bind fun bt521 => ((cookie_Read.f kj9 t511 t512 t513 t514 t515 t516 t517 t520 bt521.1 bt521.2.1 bt521.2.2.1 bt521.2.2.2 (Go.bits .or .i64 t519 (shl .i64 (Int.tmod (wrap64 (t511 + 2)) 4) x14_9))).bind fun bt525 => ((cookie_Key.f kj9 t511 t512 t513 t514 t515 t516 t517 (wrap64 (t511 + 2))).bind fun bt527 => (if bt525.2 = true then (some false) else (if bt525.1 = 0 then (if bt527.2.2 = true then (some false) else (some (bt527.1 == 0 && (bt527.2.1 == 0)))) else (some false)))))))) = some r := by first | (rw [hji17] at H; exact H) | (simp only [hji17] at H ⊢; exact H)
          have hji17_ : (IntKind.i64.wrap (1 * 2 ^ min x14_9.toNat 64)) = ji17 := hji17
          have hji17z : x14_9 ≤ 64 → (IntKind.i64.wrap (1 * 2 ^ x14_9.toNat)) = ji17 := shl_small hji17
          have hji17u : (IntKind.i64.wrap (2 ^ min x14_9.toNat 64)) = ji17 := by have h_ := hji17_; rw [Int.one_mul] at h_; exact h_
          have hji17v : x14_9 ≤ 64 → (IntKind.i64.wrap (2 ^ x14_9.toNat)) = ji17 := fun hle_ => by have h_ := hji17z hle_; rw [Int.one_mul] at h_; exact h_
          have hji17y : (wrap64 (1 * 2 ^ min x14_9.toNat 64)) = ji17 := (i64_w _).symm.trans hji17_
          have hji17x : x14_9 ≤ 64 → (wrap64 (1 * 2 ^ x14_9.toNat)) = ji17 := fun h_ => (i64_w _).symm.trans (hji17z h_)
          replace H := Option.bind_eq_some_iff.mp H
          obtain ⟨t519, A180, H⟩ := H
          replace H : ((roundhouselaw5_kind.f a2).bind fun t520 => ((roundhouselaw5_Flow.f a3 a4).bind fun bt521 => ((cookie_Read.f kj9 t511 t512 t513 t514 t515 t516 t517 t520 bt521.1 bt521.2.1 bt521.2.2.1 bt521.2.2.2 (Go.bits .or .i64 t519 (shl .i64 (Int.tmod (wrap64 (t511 + 2)) 4) x14_9))).bind fun bt525 => ((cookie_Key.f kj9 t511 t512 t513 t514 t515 t516 t517 (wrap64 (t511 + 2))).bind fun bt527 => (if bt525.2 = true then (some false) else (if bt525.1 = 0 then (if bt527.2.2 = true then (some false) else (some (bt527.1 == 0 && (bt527.2.1 == 0)))) else (some false))))))) = some r := H
          have A18 := Aside0.mk A180
          clear A180
          have c19b0 := eq_true (of_decide_eq_true (by first | (with_reducible assumption) | assumption) : 0 ≤ x14_9)
          obtain ⟨ji20, hji20⟩ : ∃ j_ : Int, (shl .i64 (Int.tmod (wrap64 (t511 + 2)) 4) x14_9) = j_ := ⟨_, rfl⟩
          replace H : ((roundhouselaw5_kind.f a2).bind fun t520 => ((roundhouselaw5_Flow.f a3 a4).bind fun bt521 => ((cookie_Read.f kj9 t511 t512 t513 t514 t515 t516 t517 t520 bt521.1 bt521.2.1 bt521.2.2.1 bt521.2.2.2 (Go.bits .or .i64 t519 (ji20))).bind fun bt525 => ((cookie_Key.f kj9 t511 t512 t513 t514 t515 t516 t517 (wrap64 (t511 + 2))).bind fun bt527 => (if bt525.2 = true then (some false) else (if bt525.1 = 0 then (if bt527.2.2 = true then (some false) else (some (bt527.1 == 0 && (bt527.2.1 == 0)))) else (some false))))))) = some r := by first | (rw [hji20] at H; exact H) | (simp only [hji20] at H ⊢; exact H)
          (try rw [hji20] at A18)
          have hji20_ : (IntKind.i64.wrap ((Int.tmod (wrap64 (t511 + 2)) 4) * 2 ^ min x14_9.toNat 64)) = ji20 := hji20
          have hji20z : x14_9 ≤ 64 → (IntKind.i64.wrap ((Int.tmod (wrap64 (t511 + 2)) 4) * 2 ^ x14_9.toNat)) = ji20 := shl_small hji20
          have hji20y : (wrap64 ((Int.tmod (wrap64 (t511 + 2)) 4) * 2 ^ min x14_9.toNat 64)) = ji20 := (i64_w _).symm.trans hji20_
          have hji20x : x14_9 ≤ 64 → (wrap64 ((Int.tmod (wrap64 (t511 + 2)) 4) * 2 ^ x14_9.toNat)) = ji20 := fun h_ => (i64_w _).symm.trans (hji20z h_)
          replace H := Option.bind_eq_some_iff.mp H
          obtain ⟨t520, A210, H⟩ := H
          replace H : ((roundhouselaw5_Flow.f a3 a4).bind fun bt521 => ((cookie_Read.f kj9 t511 t512 t513 t514 t515 t516 t517 t520 bt521.1 bt521.2.1 bt521.2.2.1 bt521.2.2.2 (Go.bits .or .i64 t519 (ji20))).bind fun bt525 => ((cookie_Key.f kj9 t511 t512 t513 t514 t515 t516 t517 (wrap64 (t511 + 2))).bind fun bt527 => (if bt525.2 = true then (some false) else (if bt525.1 = 0 then (if bt527.2.2 = true then (some false) else (some (bt527.1 == 0 && (bt527.2.1 == 0)))) else (some false)))))) = some r := H
          have A21 := Aside0.mk A210
          clear A210
          replace H := Option.bind_eq_some_iff.mp H
          obtain ⟨⟨t521, t522, t523, t524⟩, A220, H⟩ := H
          replace H : ((cookie_Read.f kj9 t511 t512 t513 t514 t515 t516 t517 t520 t521 t522 t523 t524 (Go.bits .or .i64 t519 (ji20))).bind fun bt525 => ((cookie_Key.f kj9 t511 t512 t513 t514 t515 t516 t517 (wrap64 (t511 + 2))).bind fun bt527 => (if bt525.2 = true then (some false) else (if bt525.1 = 0 then (if bt527.2.2 = true then (some false) else (some (bt527.1 == 0 && (bt527.2.1 == 0)))) else (some false))))) = some r := H
          have A22 := Aside0.mk A220
          clear A220
          replace H := Option.bind_eq_some_iff.mp H
          obtain ⟨⟨t525, t526⟩, A230, H⟩ := H
          replace H : ((cookie_Key.f kj9 t511 t512 t513 t514 t515 t516 t517 (wrap64 (t511 + 2))).bind fun bt527 => (if t526 = true then (some false) else (if t525 = 0 then (if bt527.2.2 = true then (some false) else (some (bt527.1 == 0 && (bt527.2.1 == 0)))) else (some false)))) = some r := H
          have A23 := Aside0.mk A230
          clear A230
          replace H := Option.bind_eq_some_iff.mp H
          obtain ⟨⟨t527, t528, t529⟩, A240, H⟩ := H
          replace H : (if t526 = true then (some false) else (if t525 = 0 then (if t529 = true then (some false) else (some (t527 == 0 && (t528 == 0)))) else (some false))) = some r := H
          have A24 := Aside0.mk A240
          clear A240
          by_cases c25 : t526 = true
          · subst c25
            have H1 : (some false) = some r := by rw [if_pos rfl] at H; exact H
            clear H
            have H := H1
            clear H1
            exact absurd hr_.out (by rw [← Option.some.inj H]; decide)
          · replace c25 := Bool.eq_false_iff.mpr c25
            subst c25
            have H1 : (if t525 = 0 then (if t529 = true then (some false) else (some (t527 == 0 && (t528 == 0)))) else (some false)) = some r := by rw [if_neg (show ¬ (false = true) by decide)] at H; exact H
            clear H
            have H := H1
            clear H1
            by_cases c35 : t525 = 0
            · rw [if_pos c35] at H
              have c35b0 : (t525 == 0) = true := beq_iff_eq.mpr c35
              have c35b1 : (t525 != 0) = false := bne_eq_false_iff_eq.mpr c35
              clear c35
              by_cases c36 : t529 = true
              · subst c36
                have H1 : (some false) = some r := by rw [if_pos rfl] at H; exact H
                clear H
                have H := H1
                clear H1
                exact absurd hr_.out (by rw [← Option.some.inj H]; decide)
              · replace c36 := Bool.eq_false_iff.mpr c36
                subst c36
                have H1 : (some (t527 == 0 && (t528 == 0))) = some r := by rw [if_neg (show ¬ (false = true) by decide)] at H; exact H
                clear H
                have H := H1
                clear H1
                obtain rfl := Option.some.inj H
                try go_wp2
                have n0_ := Aside0.mk (blk_drew BK518.out)
                have n1_ := Aside0.mk (below_drew1 HB.out)
                clear BK518
                clear HB
                have BK518 := n0_
                have HB := n1_
                clear n0_ n1_
                refine start_ (n := 12) (S := fun w' => w'.cell? ⟨gb518, 0, none⟩ = some (.int .i64 t511) ∧ w'.cell? ⟨gb518, 1, none⟩ = some (.int .u64 t512) ∧ w'.cell? ⟨gb518, 2, none⟩ = some (.int .u64 t513) ∧ w'.cell? ⟨gb518, 3, none⟩ = some (.int .u64 t514) ∧ w'.cell? ⟨gb518, 4, none⟩ = some (.int .u64 t515) ∧ w'.cell? ⟨gb518, 5, none⟩ = some (.int .u64 t516) ∧ w'.cell? ⟨gb518, 6, none⟩ = some (.int .u64 t517)) (ds := []) #[false, false, false, false, false, false, false, false, false, false, false, false] (by kernel_rfl) rfl rfl ⟨(blk_cell BK518.out 0).trans rfl, (blk_cell BK518.out 1).trans rfl, (blk_cell BK518.out 2).trans rfl, (blk_cell BK518.out 3).trans rfl, (blk_cell BK518.out 4).trans rfl, (blk_cell BK518.out 5).trans rfl, (blk_cell BK518.out 6).trans rfl⟩ (fun hHeld => ?_); refine with_tabW roundhouselaw5_CookieFourth.tab7 roundhouselaw5_CookieFourth.bits7 (fun HT_ HW_ => ?_)
                generalize wc.drew = w46 at BK518 HB hHeld ⊢
                refine pure_ (i := 0) (N := some 26) (v := ?_) (a' := ?_) #[true, false, false, false, false, false, false, false, false, false, false, false] rfl rfl (any_of HT_.out (by kernel_rfl)) (fun _ _ _ h => h) (Or.inl ⟨by rfl, ?_⟩) ?_ ?_
                rotate_left
                · intro w'
                  go_simp
                  with_reducible rfl
                rotate_left
                · simp only [Act.put, List.setIfInBounds_toArray, List.set_cons_zero, List.set_cons_succ, i64_w, i32_w]
                  rfl
                refine pure_ (i := 1) (N := some 27) (v := ?_) (a' := ?_) #[true, true, false, false, false, false, false, false, false, false, false, false] rfl rfl (any_of HT_.out (by kernel_rfl)) (fun _ _ _ h => h) (Or.inl ⟨by rfl, ?_⟩) ?_ ?_
                rotate_left
                · intro w'
                  go_simp
                  with_reducible rfl
                rotate_left
                · simp only [Act.put, List.setIfInBounds_toArray, List.set_cons_zero, List.set_cons_succ, i64_w, i32_w]
                  rfl
                refine pure_ (i := 2) (N := some 28) (v := ?_) (a' := ?_) #[true, true, true, false, false, false, false, false, false, false, false, false] rfl rfl (any_of HT_.out (by kernel_rfl)) (fun _ _ _ h => h) (Or.inl ⟨by rfl, ?_⟩) ?_ ?_
                rotate_left
                · intro w'
                  go_simp
                  with_reducible rfl
                rotate_left
                · simp only [Act.put, List.setIfInBounds_toArray, List.set_cons_zero, List.set_cons_succ, i64_w, i32_w]
                  rfl
                refine pure_ (i := 4) (N := some 30) (v := ?_) (a' := ?_) #[true, true, true, false, true, false, false, false, false, false, false, false] rfl rfl (any_of HT_.out (by kernel_rfl)) (fun _ _ _ h => h) (Or.inl ⟨by rfl, ?_⟩) ?_ ?_
                rotate_left
                · intro w'
                  go_simp
                  with_reducible rfl
                rotate_left
                · simp only [Act.put, List.setIfInBounds_toArray, List.set_cons_zero, List.set_cons_succ, i64_w, i32_w]
                  rfl
                refine pure_ (i := 8) (N := some 34) (v := ?_) (a' := ?_) #[true, true, true, false, true, false, false, false, true, false, false, false] rfl rfl (any_of HT_.out (by kernel_rfl)) (fun _ _ _ h => h) (Or.inl ⟨by rfl, ?_⟩) ?_ ?_
                rotate_left
                · intro w'
                  go_simp
                  with_reducible rfl
                rotate_left
                · simp only [Act.put, List.setIfInBounds_toArray, List.set_cons_zero, List.set_cons_succ, i64_w, i32_w]
                  rfl
                refine take_ (i := 5) (N := some 31) (v := ?_) (a' := ?_) #[true, true, true, false, true, true, false, false, true, false, false, false] rfl rfl (take_ofW HT_.out HW_.out (by kernel_rfl)) (fun _ _ _ h => h) (Or.inl ⟨by rfl, ?_⟩) hHeld ?_ ?_
                rotate_left
                · rintro w' ⟨s0, s1, s2, s3, s4, s5, s6⟩
                  go_simp
                  with_reducible rfl
                rotate_left
                · simp only [Act.put, List.setIfInBounds_toArray, List.set_cons_zero, List.set_cons_succ, i64_w, i32_w]
                  rfl
                refine pure_ (i := 6) (N := some 32) (v := ?_) (a' := ?_) #[true, true, true, false, true, true, true, false, true, false, false, false] rfl rfl (any_of HT_.out (by kernel_rfl)) (fun _ _ _ h => h) (Or.inl ⟨by rfl, ?_⟩) ?_ ?_
                rotate_left
                · intro w'
                  go_simp
                  with_reducible rfl
                rotate_left
                · simp only [Act.put, List.setIfInBounds_toArray, List.set_cons_zero, List.set_cons_succ, i64_w, i32_w]
                  rfl
                refine pure_ (i := 7) (N := some 33) (v := ?_) (a' := ?_) #[true, true, true, false, true, true, true, true, true, false, false, false] rfl rfl (any_of HT_.out (by kernel_rfl)) (fun _ _ _ h => h) (Or.inl ⟨by rfl, ?_⟩) ?_ ?_
                rotate_left
                · intro w'
                  go_simp
                  with_reducible rfl
                rotate_left
                · simp only [Act.put, List.setIfInBounds_toArray, List.set_cons_zero, List.set_cons_succ, i64_w, i32_w]
                  rfl
                refine pure_ (i := 9) (N := some 35) (v := ?_) (a' := ?_) #[true, true, true, false, true, true, true, true, true, true, false, false] rfl rfl (any_of HT_.out (by kernel_rfl)) (fun _ _ _ h => h) (Or.inl ⟨by rfl, ?_⟩) ?_ ?_
                rotate_left
                · intro w'
                  go_simp
                  with_reducible rfl
                rotate_left
                · simp only [Act.put, List.setIfInBounds_toArray, List.set_cons_zero, List.set_cons_succ, i64_w, i32_w]
                  rfl
                refine one_ (i := 3) (N := some 29) #[true, true, true, true, true, true, true, true, true, true, false, false] rfl rfl (one_of HT_.out (by kernel_rfl)) (by decide) (fun K hK => ?_)
                refine goes_ Try.func18 (by kernel_rfl) rfl #[.int .i64 a5, .int .i64 ji17] (by rfl) rfl rfl (by (try simp only [List.map_toArray, List.map_cons, List.map_nil]); first | done | (simp only [hji17]; rfl) | rfl | (simp only [List.length_drop, List.length_take]; rfl)) ?_
                with_reducible refine (roundhouselaw5_within.calls a5 ji17 t519 _ A18.out).mono ?_
                rintro e w' ⟨rfl, ⟨nd, rfl⟩⟩
                refine ⟨_, rfl, ?_⟩
                refine hK.out _ _ ⟨(blk_cell BK518.out 0).trans rfl, (blk_cell BK518.out 1).trans rfl, (blk_cell BK518.out 2).trans rfl, (blk_cell BK518.out 3).trans rfl, (blk_cell BK518.out 4).trans rfl, (blk_cell BK518.out 5).trans rfl, (blk_cell BK518.out 6).trans rfl⟩ (fun hHeld => ?_)
                clear hK K
                refine norm_ (a' := ?_) ?_ ?_
                rotate_left
                · show Act.put _ (some 29) _ = _
                  simp only [Act.put, List.setIfInBounds_toArray, List.set_cons_zero, List.set_cons_succ, i64_w, i32_w]
                  rfl
                refine pure_ (i := 10) (N := some 36) (v := ?_) (a' := ?_) #[true, true, true, true, true, true, true, true, true, true, true, false] rfl rfl (any_of HT_.out (by kernel_rfl)) (fun _ _ _ h => h) (Or.inl ⟨by rfl, ?_⟩) ?_ ?_
                rotate_left
                · intro w'
                  go_simp
                  with_reducible rfl
                rotate_left
                · simp only [Act.put, List.setIfInBounds_toArray, List.set_cons_zero, List.set_cons_succ, i64_w, i32_w]
                  rfl
                refine pure_ (i := 11) (N := some 15) (v := ?_) (a' := ?_) #[true, true, true, true, true, true, true, true, true, true, true, true] rfl rfl (any_of HT_.out (by kernel_rfl)) (fun _ _ _ h => h) (Or.inl ⟨by rfl, ?_⟩) ?_ ?_
                rotate_left
                · intro w'
                  go_simp
                  with_reducible rfl
                rotate_left
                · simp only [Act.put, List.setIfInBounds_toArray, List.set_cons_zero, List.set_cons_succ, i64_w, i32_w]
                  rfl
                refine done_ (done_of HT_.out (by kernel_rfl)) ?_
                try go_wp2
                (try (rw [drewN_self w46]; generalize hq_ : World.drewN w46 _ = w46; have n0_ : Aside0 (w46.heap[gb518]? = some (.cells #[.int .i64 t511, .int .u64 t512, .int .u64 t513, .int .u64 t514, .int .u64 t515, .int .u64 t516, .int .u64 t517] 27 (0, 0))) := ⟨by rw [← hq_]; exact (by (with_reducible repeat (first | refine blk_drewN ?_ _ | refine blk_drew ?_ | refine blk_alloc ?_ _)); exact BK518.out)⟩; have n1_ : Aside0 (Below w.heap.size w w46) := ⟨by rw [← hq_]; exact (by repeat (first | (with_reducible first | exact HB.out | apply below_alloc | apply pw_below_drewN | apply below_drew1 | refine below_set ?_ GE518.out) | exact HB.out))⟩; clear BK518 HB hq_; have BK518 := n0_; have HB := n1_; clear n0_ n1_))
                have n0_ := Aside0.mk (blk_drew BK518.out)
                have n1_ := Aside0.mk (below_drew1 HB.out)
                clear BK518
                clear HB
                have BK518 := n0_
                have HB := n1_
                clear n0_ n1_
                refine start_ (n := 13) (S := fun w' => w'.cell? ⟨gb518, 0, none⟩ = some (.int .i64 t511) ∧ w'.cell? ⟨gb518, 1, none⟩ = some (.int .u64 t512) ∧ w'.cell? ⟨gb518, 2, none⟩ = some (.int .u64 t513) ∧ w'.cell? ⟨gb518, 3, none⟩ = some (.int .u64 t514) ∧ w'.cell? ⟨gb518, 4, none⟩ = some (.int .u64 t515) ∧ w'.cell? ⟨gb518, 5, none⟩ = some (.int .u64 t516) ∧ w'.cell? ⟨gb518, 6, none⟩ = some (.int .u64 t517)) (ds := []) #[false, false, false, false, false, false, false, false, false, false, false, false, false] (by kernel_rfl) rfl rfl ⟨(blk_cell BK518.out 0).trans rfl, (blk_cell BK518.out 1).trans rfl, (blk_cell BK518.out 2).trans rfl, (blk_cell BK518.out 3).trans rfl, (blk_cell BK518.out 4).trans rfl, (blk_cell BK518.out 5).trans rfl, (blk_cell BK518.out 6).trans rfl⟩ (fun hHeld => ?_); refine with_tabW roundhouselaw5_CookieFourth.tab8 roundhouselaw5_CookieFourth.bits8 (fun HT_ HW_ => ?_)
                generalize w46.drew = w47 at BK518 HB hHeld ⊢
                refine pure_ (i := 1) (N := some 39) (v := ?_) (a' := ?_) #[false, true, false, false, false, false, false, false, false, false, false, false, false] rfl rfl (any_of HT_.out (by kernel_rfl)) (fun _ _ _ h => h) (Or.inl ⟨by rfl, ?_⟩) ?_ ?_
                rotate_left
                · intro w'
                  go_simp
                  with_reducible rfl
                rotate_left
                · simp only [Act.put, List.setIfInBounds_toArray, List.set_cons_zero, List.set_cons_succ, i64_w, i32_w]
                  rfl
                refine pure_ (i := 3) (N := some 41) (v := ?_) (a' := ?_) #[false, true, false, true, false, false, false, false, false, false, false, false, false] rfl rfl (any_of HT_.out (by kernel_rfl)) (fun _ _ _ h => h) (Or.inl ⟨by rfl, ?_⟩) ?_ ?_
                rotate_left
                · intro w'
                  go_simp
                  with_reducible rfl
                rotate_left
                · simp only [Act.put, List.setIfInBounds_toArray, List.set_cons_zero, List.set_cons_succ, i64_w, i32_w]
                  rfl
                refine pure_ (i := 4) (N := some 42) (v := ?_) (a' := ?_) #[false, true, false, true, true, false, false, false, false, false, false, false, false] rfl rfl (any_of HT_.out (by kernel_rfl)) (fun _ _ _ h => h) (Or.inl ⟨by rfl, ?_⟩) ?_ ?_
                rotate_left
                · intro w'
                  go_simp
                  with_reducible rfl
                rotate_left
                · simp only [Act.put, List.setIfInBounds_toArray, List.set_cons_zero, List.set_cons_succ, i64_w, i32_w]
                  rfl
                refine pure_ (i := 6) (N := some 44) (v := ?_) (a' := ?_) #[false, true, false, true, true, false, true, false, false, false, false, false, false] rfl rfl (any_of HT_.out (by kernel_rfl)) (fun _ _ _ h => h) (Or.inl ⟨by rfl, ?_⟩) ?_ ?_
                rotate_left
                · intro w'
                  go_simp
                  with_reducible rfl
                rotate_left
                · simp only [Act.put, List.setIfInBounds_toArray, List.set_cons_zero, List.set_cons_succ, i64_w, i32_w]
                  rfl
                refine take_ (i := 0) (N := some 38) (v := ?_) (a' := ?_) #[true, true, false, true, true, false, true, false, false, false, false, false, false] rfl rfl (take_ofW HT_.out HW_.out (by kernel_rfl)) (fun _ _ _ h => h) (Or.inl ⟨by rfl, ?_⟩) hHeld ?_ ?_
                rotate_left
                · rintro w' ⟨s0, s1, s2, s3, s4, s5, s6⟩
                  go_simp
                  with_reducible rfl
                rotate_left
                · simp only [Act.put, List.setIfInBounds_toArray, List.set_cons_zero, List.set_cons_succ, i64_w, i32_w]
                  rfl
                refine one_ (i := 2) (N := some 40) #[true, true, true, true, true, false, true, false, false, false, false, false, false] rfl rfl (one_of HT_.out (by kernel_rfl)) (by decide) (fun K hK => ?_)
                refine goes_ Try.func34 (by kernel_rfl) rfl #[.bool a2] (by rfl) rfl rfl (by (try simp only [List.map_toArray, List.map_cons, List.map_nil]); first | done | rfl | (simp only [List.length_drop, List.length_take]; rfl)) ?_
                with_reducible refine (roundhouselaw5_kind.calls a2 t520 _ A21.out).mono ?_
                rintro e w' ⟨rfl, ⟨nd, rfl⟩⟩
                refine ⟨_, rfl, ?_⟩
                refine hK.out _ _ ⟨(blk_cell BK518.out 0).trans rfl, (blk_cell BK518.out 1).trans rfl, (blk_cell BK518.out 2).trans rfl, (blk_cell BK518.out 3).trans rfl, (blk_cell BK518.out 4).trans rfl, (blk_cell BK518.out 5).trans rfl, (blk_cell BK518.out 6).trans rfl⟩ (fun hHeld => ?_)
                clear hK K
                refine norm_ (a' := ?_) ?_ ?_
                rotate_left
                · show Act.put _ (some 40) _ = _
                  simp only [Act.put, List.setIfInBounds_toArray, List.set_cons_zero, List.set_cons_succ, i64_w, i32_w]
                  rfl
                refine one_ (i := 5) (N := some 43) #[true, true, true, true, true, true, true, false, false, false, false, false, false] rfl rfl (one_of HT_.out (by kernel_rfl)) (by decide) (fun K hK => ?_)
                refine goes_ Try.func20 (by kernel_rfl) rfl #[.int .i64 a3, .int .i64 a4] (by rfl) rfl rfl (by (try simp only [List.map_toArray, List.map_cons, List.map_nil]); first | done | rfl | (simp only [List.length_drop, List.length_take]; rfl)) ?_
                with_reducible refine (roundhouselaw5_Flow.calls a3 a4 t521 t522 t523 t524 _ A22.out).mono ?_
                rintro e w48 ⟨rfl, hb⟩
                refine ⟨_, rfl, ?_⟩
                have n0_ := Aside0.mk (blk_below (g := gb518) (o := .cells #[.int .i64 t511, .int .u64 t512, .int .u64 t513, .int .u64 t514, .int .u64 t515, .int .u64 t516, .int .u64 t517] 27 (0, 0)) (by (with_reducible repeat (first | refine blk_drewN ?_ _ | refine blk_drew ?_ | refine blk_alloc ?_ _)); exact BK518.out) hb)
                have n1_ := Aside0.mk (below_step (by repeat (first | (with_reducible first | exact HB.out | apply below_alloc | apply pw_below_drewN | apply below_drew1 | refine below_set ?_ GE518.out) | exact HB.out)) hb)
                clear BK518
                clear HB
                have BK518 := n0_
                have HB := n1_
                clear n0_ n1_
                (try clear hb)
                (try clear hb2)
                (try clear hk)
                (try clear hi)
                refine hK.out _ _ ⟨(blk_cell BK518.out 0).trans rfl, (blk_cell BK518.out 1).trans rfl, (blk_cell BK518.out 2).trans rfl, (blk_cell BK518.out 3).trans rfl, (blk_cell BK518.out 4).trans rfl, (blk_cell BK518.out 5).trans rfl, (blk_cell BK518.out 6).trans rfl⟩ (fun hHeld => ?_)
                clear hK K
                refine norm_ (a' := ?_) ?_ ?_
                rotate_left
                · show Act.put _ (some 43) _ = _
                  simp only [Act.put, List.setIfInBounds_toArray, List.set_cons_zero, List.set_cons_succ, i64_w, i32_w]
                  rfl
                refine one_ (i := 7) (N := some 45) #[true, true, true, true, true, true, true, true, false, false, false, false, false] rfl rfl (one_of HT_.out (by kernel_rfl)) (by decide) (fun K hK => ?_)
                refine goes_ Try.func21 (by kernel_rfl) rfl #[.agg #[.int .i64 t511, .int .u64 t512, .int .u64 t513, .int .u64 t514, .int .u64 t515, .int .u64 t516, .int .u64 t517], .int .i64 t520, .agg #[.int .i64 t521, .int .i64 t522, .int .i64 t523, .int .i64 t524], .int .i64 (Go.bits .or .i64 t519 (ji20))] (by rfl) rfl rfl (by (try simp only [List.map_toArray, List.map_cons, List.map_nil]); first | done | (simp only [hji20]; rfl) | rfl | (simp only [List.length_drop, List.length_take]; rfl)) ?_
                with_reducible refine (cookie_Read.calls kj9 t511 t512 t513 t514 t515 t516 t517 t520 t521 t522 t523 t524 (Go.bits .or .i64 t519 (ji20)) t525 false _ A23.out).mono ?_
                rintro e w49 ⟨rfl, hb⟩
                refine ⟨_, rfl, ?_⟩
                have n0_ := Aside0.mk (blk_below (g := gb518) (o := .cells #[.int .i64 t511, .int .u64 t512, .int .u64 t513, .int .u64 t514, .int .u64 t515, .int .u64 t516, .int .u64 t517] 27 (0, 0)) (by (with_reducible repeat (first | refine blk_drewN ?_ _ | refine blk_drew ?_ | refine blk_alloc ?_ _)); exact BK518.out) hb)
                have n1_ := Aside0.mk (below_step (by repeat (first | (with_reducible first | exact HB.out | apply below_alloc | apply pw_below_drewN | apply below_drew1 | refine below_set ?_ GE518.out) | exact HB.out)) hb)
                clear BK518
                clear HB
                have BK518 := n0_
                have HB := n1_
                clear n0_ n1_
                (try clear hb)
                (try clear hb2)
                (try clear hk)
                (try clear hi)
                refine hK.out _ _ ⟨(blk_cell BK518.out 0).trans rfl, (blk_cell BK518.out 1).trans rfl, (blk_cell BK518.out 2).trans rfl, (blk_cell BK518.out 3).trans rfl, (blk_cell BK518.out 4).trans rfl, (blk_cell BK518.out 5).trans rfl, (blk_cell BK518.out 6).trans rfl⟩ (fun hHeld => ?_)
                clear hK K
                refine norm_ (a' := ?_) ?_ ?_
                rotate_left
                · show Act.put _ (some 45) _ = _
                  simp only [Act.put, List.setIfInBounds_toArray, List.set_cons_zero, List.set_cons_succ, i64_w, i32_w]
                  rfl
                refine pure_ (i := 8) (N := some 37) (v := ?_) (a' := ?_) #[true, true, true, true, true, true, true, true, true, false, false, false, false] rfl rfl (any_of HT_.out (by kernel_rfl)) (fun _ _ _ h => h) (Or.inl ⟨by rfl, ?_⟩) ?_ ?_
                rotate_left
                · intro w'
                  go_simp
                  with_reducible rfl
                rotate_left
                · simp only [Act.put, List.setIfInBounds_toArray, List.set_cons_zero, List.set_cons_succ, i64_w, i32_w]
                  rfl
                refine pure_ (i := 9) (N := some 46) (v := ?_) (a' := ?_) #[true, true, true, true, true, true, true, true, true, true, false, false, false] rfl rfl (any_of HT_.out (by kernel_rfl)) (fun _ _ _ h => h) (Or.inl ⟨by rfl, ?_⟩) ?_ ?_
                rotate_left
                · intro w'
                  go_simp
                  with_reducible rfl
                rotate_left
                · simp only [Act.put, List.setIfInBounds_toArray, List.set_cons_zero, List.set_cons_succ, i64_w, i32_w]
                  rfl
                refine pure_ (i := 10) (N := some 47) (v := ?_) (a' := ?_) #[true, true, true, true, true, true, true, true, true, true, true, false, false] rfl rfl (any_of HT_.out (by kernel_rfl)) (fun _ _ _ h => h) (Or.inl ⟨by rfl, ?_⟩) ?_ ?_
                rotate_left
                · intro w'
                  go_simp
                  with_reducible rfl
                rotate_left
                · simp only [Act.put, List.setIfInBounds_toArray, List.set_cons_zero, List.set_cons_succ, i64_w, i32_w]
                  rfl
                refine pure_ (i := 11) (N := some 16) (v := ?_) (a' := ?_) #[true, true, true, true, true, true, true, true, true, true, true, true, false] rfl rfl (any_of HT_.out (by kernel_rfl)) (fun _ _ _ h => h) (Or.inl ⟨by rfl, ?_⟩) ?_ ?_
                rotate_left
                · intro w'
                  go_simp
                  with_reducible rfl
                rotate_left
                · simp only [Act.put, List.setIfInBounds_toArray, List.set_cons_zero, List.set_cons_succ, i64_w, i32_w]
                  rfl
                refine pure_ (i := 12) (N := some 17) (v := ?_) (a' := ?_) #[true, true, true, true, true, true, true, true, true, true, true, true, true] rfl rfl (any_of HT_.out (by kernel_rfl)) (fun _ _ _ h => h) (Or.inl ⟨by rfl, ?_⟩) ?_ ?_
                rotate_left
                · intro w'
                  go_simp
                  with_reducible rfl
                rotate_left
                · simp only [Act.put, List.setIfInBounds_toArray, List.set_cons_zero, List.set_cons_succ, i64_w, i32_w]
                  rfl
                refine done_ (done_of HT_.out (by kernel_rfl)) ?_
                have hcz50_0 : w49.cell? ⟨gb518, 0, none⟩ = some (.int .i64 t511) := (blk_cell BK518.out 0).trans rfl
                have hcz50_1 : w49.cell? ⟨gb518, 1, none⟩ = some (.int .u64 t512) := (blk_cell BK518.out 1).trans rfl
                have hcz50_2 : w49.cell? ⟨gb518, 2, none⟩ = some (.int .u64 t513) := (blk_cell BK518.out 2).trans rfl
                have hcz50_3 : w49.cell? ⟨gb518, 3, none⟩ = some (.int .u64 t514) := (blk_cell BK518.out 3).trans rfl
                have hcz50_4 : w49.cell? ⟨gb518, 4, none⟩ = some (.int .u64 t515) := (blk_cell BK518.out 4).trans rfl
                have hcz50_5 : w49.cell? ⟨gb518, 5, none⟩ = some (.int .u64 t516) := (blk_cell BK518.out 5).trans rfl
                have hcz50_6 : w49.cell? ⟨gb518, 6, none⟩ = some (.int .u64 t517) := (blk_cell BK518.out 6).trans rfl
                have hfz50_0 := blk_frozen BK518.out 0
                have hfz50_1 := blk_frozen BK518.out 1
                have hfz50_2 := blk_frozen BK518.out 2
                have hfz50_3 := blk_frozen BK518.out 3
                have hfz50_4 := blk_frozen BK518.out 4
                have hfz50_5 := blk_frozen BK518.out 5
                have hfz50_6 := blk_frozen BK518.out 6
                try go_wp2_with (first | ((with_reducible refine gate_callee (f := 29) rfl ?_); refine goesL_ (some 53) rfl rfl Try.func29 (by kernel_rfl) rfl #[.agg #[.int .i64 t511, .int .u64 t512, .int .u64 t513, .int .u64 t514, .int .u64 t515, .int .u64 t516, .int .u64 t517], .int .i64 (wrap64 (t511 + 2))] rfl (by (try simp only [List.map_toArray, List.map_cons, List.map_nil]); first | done | rfl | (simp only [List.length_drop, List.length_take]; rfl)) ?_; (with_reducible refine (cookie_Key.calls kj9 t511 t512 t513 t514 t515 t516 t517 (wrap64 (t511 + 2)) t527 t528 false _ A24.out).mono ?_); rintro e w51 ⟨rfl, hb⟩; refine ⟨_, rfl, ?_⟩; have n0_ := Aside0.mk (blk_below (g := gb518) (o := .cells #[.int .i64 t511, .int .u64 t512, .int .u64 t513, .int .u64 t514, .int .u64 t515, .int .u64 t516, .int .u64 t517] 27 (0, 0)) (by (with_reducible repeat (first | refine blk_drewN ?_ _ | refine blk_drew ?_ | refine blk_alloc ?_ _)); exact BK518.out) hb); have n1_ := Aside0.mk (below_step (by repeat (first | (with_reducible first | exact HB.out | apply below_alloc | apply pw_below_drewN | apply below_drew1 | refine below_set ?_ GE518.out) | exact HB.out)) hb); clear BK518; clear HB; have BK518 := n0_; have HB := n1_; clear n0_ n1_; (try clear hb); (try clear hb2); (try clear hk); (try clear hi)) | ((with_reducible refine gate_dst (N := 18) rfl ?_); refine box_event ?hg (N := 18) ?hd (cs := #[.int .u64 0, .int .u64 0]) (t := 25) ?hr ?_; (case hd => rfl); (case hg => rfl); (case hr => first | (go_simp; done) | (go_simp; rfl)); intro gb530 hg w52 hbox hb; have n0_ := Aside0.mk (blk_below (g := gb518) (o := .cells #[.int .i64 t511, .int .u64 t512, .int .u64 t513, .int .u64 t514, .int .u64 t515, .int .u64 t516, .int .u64 t517] 27 (0, 0)) (by (with_reducible repeat (first | refine blk_drewN ?_ _ | refine blk_drew ?_ | refine blk_alloc ?_ _)); exact BK518.out) hb); have n1_ := Aside0.mk (below_step (by repeat (first | (with_reducible first | exact HB.out | apply below_alloc | apply pw_below_drewN | apply below_drew1 | refine below_set ?_ GE518.out) | exact HB.out)) hb); have n2_ := Aside0.mk (hbox); have n3_ := Aside0.mk ((by rw [hg]; exact (below_size (by repeat (first | (with_reducible first | exact HB.out | apply below_alloc | apply pw_below_drewN | apply below_drew1 | refine below_set ?_ GE518.out) | exact HB.out))) : w.heap.size ≤ gb530)); have n4_ := Aside0.mk ((by rw [hg]; exact (below_size (by repeat (first | (with_reducible first | exact HB.out | apply below_alloc | apply pw_below_drewN | apply below_drew1 | refine below_set ?_ GE518.out) | exact HB.out))) : w.heap.size ≤ gb530)); have n5_ := Aside0.mk ((by rw [hg]; exact Nat.ne_of_lt (blk_lt (g := gb518) (o := .cells #[.int .i64 t511, .int .u64 t512, .int .u64 t513, .int .u64 t514, .int .u64 t515, .int .u64 t516, .int .u64 t517] 27 (0, 0)) (by (with_reducible repeat (first | refine blk_drewN ?_ _ | refine blk_drew ?_ | refine blk_alloc ?_ _)); exact BK518.out)) : gb518 ≠ gb530)); have n6_ := Aside0.mk ((by rw [hg]; exact Nat.ne_of_gt (blk_lt (g := gb518) (o := .cells #[.int .i64 t511, .int .u64 t512, .int .u64 t513, .int .u64 t514, .int .u64 t515, .int .u64 t516, .int .u64 t517] 27 (0, 0)) (by (with_reducible repeat (first | refine blk_drewN ?_ _ | refine blk_drew ?_ | refine blk_alloc ?_ _)); exact BK518.out)) : gb530 ≠ gb518)); clear BK518; clear HB; have BK518 := n0_; have HB := n1_; have BK530 := n2_; have GW530 := n3_; have GE530 := n4_; have NB518_530 := n5_; have NB530_518 := n6_; clear n0_ n1_ n2_ n3_ n4_ n5_ n6_; clear hb hbox hg; have hnb53 := NB530_518.out; have hnc53 := NB518_530.out; have hcz54_0 : w52.cell? ⟨gb530, 0, none⟩ = some (.int .u64 0) := (blk_cell BK530.out 0).trans rfl; have hcz54_1 : w52.cell? ⟨gb530, 1, none⟩ = some (.int .u64 0) := (blk_cell BK530.out 1).trans rfl; have hfz54_0 := blk_frozen BK530.out 0; have hfz54_1 := blk_frozen BK530.out 1))
                go_ret
                exact ⟨by first | rfl | (simp [errW_none, errW_some] <;> rfl) | (simp only [← hji17, ← hji20]; first | rfl | (simp [errW_none, errW_some] <;> rfl)) | (simp [*, errW_none, errW_some] <;> rfl), by repeat (first | (with_reducible first | exact HB.out | apply below_alloc | apply pw_below_drewN | apply below_drew1 | refine below_set ?_ GE518.out | refine below_set ?_ GE530.out) | exact HB.out)⟩
            · rw [if_neg c35] at H
              have c35b0 : (t525 == 0) = false := beq_eq_false_iff_ne.mpr c35
              have c35b1 : (t525 != 0) = true := bne_iff_ne.mpr c35
              exact absurd hr_.out (by rw [← Option.some.inj H]; decide)
        · rw [if_neg c16] at H
          exact absurd H (by simp)
  · replace c8 := Bool.eq_false_iff.mpr c8
    subst c8
    have H1 : (some false) = some r := by rw [if_neg (show ¬ (false = true) by decide)] at H; exact H
    clear H
    have H := H1
    clear H1
    exact absurd hr_.out (by rw [← Option.some.inj H]; decide)
/-- THE ONE PURE STATEMENT of roundhouselaw5_CookieFourth: yours. -/
def roundhouselaw5_CookieFourth.Pure : Prop := ∀ (a0 : Int) (a1 : Int) (a2 : Bool) (a3 : Int) (a4 : Int) (a5 : Int), (Lit.int .i64 a0).wf = true → (Lit.int .i64 a1).wf = true → (Lit.int .i64 a3).wf = true → (Lit.int .i64 a4).wf = true → (Lit.int .i64 a5).wf = true → ∃ k, roundhouselaw5_CookieFourth.f k a0 a1 a2 a3 a4 a5 = some true
theorem roundhouselaw5_CookieFourth.walk (P : roundhouselaw5_CookieFourth.Pure) (a0 : Int) (a1 : Int) (a2 : Bool) (a3 : Int) (a4 : Int) (a5 : Int) (w : World) (w0 : (Lit.int .i64 a0).wf = true) (w1 : (Lit.int .i64 a1).wf = true) (w3 : (Lit.int .i64 a3).wf = true) (w4 : (Lit.int .i64 a4).wf = true) (w5 : (Lit.int .i64 a5).wf = true) :
    Calls Try.prog 11 #[.int .i64 a0, .int .i64 a1, .bool a2, .int .i64 a3, .int .i64 a4, .int .i64 a5] w fun e w' => e = .returned (.bool true) ∧ Below w.heap.size w w' := by
  obtain ⟨k, h⟩ := P a0 a1 a2 a3 a4 a5 w0 w1 w3 w4 w5
  refine (roundhouselaw5_CookieFourth.calls k a0 a1 a2 a3 a4 a5 true w h ⟨rfl⟩).mono ?_
  rintro e w' ⟨rfl, hd⟩
  exact ⟨rfl, hd⟩

end Go.Proofs.Ytnaplobnkmdfbaa.Q
