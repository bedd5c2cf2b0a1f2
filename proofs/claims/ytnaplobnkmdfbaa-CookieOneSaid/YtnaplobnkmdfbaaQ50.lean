/- By a program of this session (wip/tools/myprint.py), out of the translation: for each Go function a plain Lean function, and that the call comes to what that function says; a law's row out of its plain statement. Lean checks it. -/
import Derived.Test.YtnaplobnkmdfbaaCookG
import Derived.Test.YtnaplobnkmdfbaaQ0
import Derived.Test.YtnaplobnkmdfbaaQ18
import Derived.Test.YtnaplobnkmdfbaaQ26
import Derived.Test.YtnaplobnkmdfbaaQ31
namespace Go.Proofs.Ytnaplobnkmdfbaa.Q
open Go.RowKit Go.Proofs.YtnaplobnkmdfbaaW.PrintWords Go.Proofs.YtnaplobnkmdfbaaW.PrintLast Go.Proofs.YtnaplobnkmdfbaaW.PrintMore
attribute [local go_sem] max2_int min2_int max_two min_two max_three min_three max_four min_four   -- for this text's walks alone
set_option linter.unusedVariables false
set_option linter.unusedSimpArgs false

open Go.Proofs.Ytnaplobnkmdfbaa.Own
/-! ### roundhouselaw5_CookieOne: function 7 -/
def roundhouselaw5_CookieOne.j0 : Nat → Int → Int → Int → Int → Int → Int → Int → Int → Int → Int → Int → Int → Option (Bool)
  | 0, _, _, _, _, _, _, _, _, _, _, _, _ => none
  | k + 1, x3, x4, x5, x6, x16, x450000, x450001, x450002, x450003, x450004, x450005, x450006 => (roundhouselaw5_within.f x5 64).bind fun t450 => ((roundhouselaw5_within.f x6 64).bind fun t451 => ((roundhouselaw5_Flow.f x3 x4).bind fun bt452 => ((cookie_Make.f k x450000 x450001 x450002 x450003 x450004 x450005 x450006 x16 bt452.1 bt452.2.1 bt452.2.2.1 bt452.2.2.2 t450).bind fun t456 => ((roundhouselaw5_Flow.f x3 x4).bind fun bt457 => ((cookie_Make.f k x450000 x450001 x450002 x450003 x450004 x450005 x450006 x16 bt457.1 bt457.2.1 bt457.2.2.1 bt457.2.2.2 t451).bind fun t461 => (some ((t456 == t461) == (t450 == t451))))))))
def roundhouselaw5_CookieOne.f (k : Nat) (a0 : Int) (a1 : Int) (a2 : Bool) (a3 : Int) (a4 : Int) (a5 : Int) (a6 : Int) : Option (Bool) := (roundhouselaw5_known.f k).bind fun t441 => (if t441 = true then ((roundhouselaw5_Ring.f k a0 a1).bind fun bt442 => (if a2 = true then (roundhouselaw5_CookieOne.j0 k a3 a4 a5 a6 1 bt442.1 bt442.2.1 bt442.2.2.1 bt442.2.2.2.1 bt442.2.2.2.2.1 bt442.2.2.2.2.2.1 bt442.2.2.2.2.2.2) else (roundhouselaw5_CookieOne.j0 k a3 a4 a5 a6 2 bt442.1 bt442.2.1 bt442.2.2.1 bt442.2.2.2.1 bt442.2.2.2.2.1 bt442.2.2.2.2.2.1 bt442.2.2.2.2.2.2))) else (some false))
theorem roundhouselaw5_CookieOne.mono_l : ∀ k, (∀ y0 y1 y2 y3 y4 y5 y6 y7 y8 y9 y10 y11, LeO (roundhouselaw5_CookieOne.j0 k y0 y1 y2 y3 y4 y5 y6 y7 y8 y9 y10 y11) (roundhouselaw5_CookieOne.j0 (k + 1) y0 y1 y2 y3 y4 y5 y6 y7 y8 y9 y10 y11))
  | 0 => fun _ _ _ _ _ _ _ _ _ _ _ _ r h => by simp [roundhouselaw5_CookieOne.j0] at h
  | k + 1 => by
    have ih0 := roundhouselaw5_CookieOne.mono_l k
    · intro y0 y1 y2 y3 y4 y5 y6 y7 y8 y9 y10 y11
      unfold roundhouselaw5_CookieOne.j0
      repeat' first
      | (with_reducible exact ih0 _ _ _ _ _ _ _ _ _ _ _ _)
      | (with_reducible exact cookie_Make.mono _ _ _ _ _ _ _ _ _ _ _ _ _ _)
      | (with_reducible exact roundhouselaw5_Ring.mono _ _ _)
      | (with_reducible exact roundhouselaw5_known.mono _)
      | (with_reducible exact LeO.refl _)
      | (with_reducible exact LeO.none _)
      | (with_reducible refine LeO.ite ?_ ?_)
      | (with_reducible refine LeO.bind ?_ (fun _ => ?_))
      | exact ih0 _ _ _ _ _ _ _ _ _ _ _ _
      | exact cookie_Make.mono _ _ _ _ _ _ _ _ _ _ _ _ _ _
      | exact roundhouselaw5_Ring.mono _ _ _
      | exact roundhouselaw5_known.mono _
      | exact LeO.none _
      | refine LeO.ite ?_ ?_
      | refine LeO.bind ?_ (fun _ => ?_)
theorem roundhouselaw5_CookieOne.mono : ∀ a0 a1 a2 a3 a4 a5 a6 k, LeO (roundhouselaw5_CookieOne.f k a0 a1 a2 a3 a4 a5 a6) (roundhouselaw5_CookieOne.f (k + 1) a0 a1 a2 a3 a4 a5 a6) := by
  intro a0 a1 a2 a3 a4 a5 a6 k
  have ih0 := roundhouselaw5_CookieOne.mono_l k
  unfold roundhouselaw5_CookieOne.f
  repeat' first
      | (with_reducible exact ih0 _ _ _ _ _ _ _ _ _ _ _ _)
      | (with_reducible exact cookie_Make.mono _ _ _ _ _ _ _ _ _ _ _ _ _ _)
      | (with_reducible exact roundhouselaw5_Ring.mono _ _ _)
      | (with_reducible exact roundhouselaw5_known.mono _)
      | (with_reducible exact LeO.refl _)
      | (with_reducible exact LeO.none _)
      | (with_reducible refine LeO.ite ?_ ?_)
      | (with_reducible refine LeO.bind ?_ (fun _ => ?_))
      | exact ih0 _ _ _ _ _ _ _ _ _ _ _ _
      | exact cookie_Make.mono _ _ _ _ _ _ _ _ _ _ _ _ _ _
      | exact roundhouselaw5_Ring.mono _ _ _
      | exact roundhouselaw5_known.mono _
      | exact LeO.none _
      | refine LeO.ite ?_ ?_
      | refine LeO.bind ?_ (fun _ => ?_)
def roundhouselaw5_CookieOne.T8 : Bool × List (List Nat × List Nat) := (true, [([], []), ([], []), ([], []), ([], []), ([2, 3], [2, 3]), ([], []), ([0, 1, 4, 5, 4], [0, 1, 4, 5]), ([], []), ([], []), ([], []), ([], []), ([9, 10, 6], [9, 10]), ([], []), ([7, 8, 11, 12, 11], [7, 8, 11, 12]), ([6, 13], [6, 13]), ([], []), ([], []), ([15, 16], [15, 16]), ([14, 17], [14, 17]), ([18, 13, 0, 1, 2, 3, 4, 5, 6, 7, 8, 9, 10, 11, 12, 13, 14, 15, 16, 17, 18], [18])])
def roundhouselaw5_CookieOne.B8 : List Nat := [0, 0, 0, 0, 12, 0, 63, 0, 0, 0, 0, 1663, 0, 8191, 16383, 0, 0, 98304, 262143, 524287]
theorem roundhouselaw5_CookieOne.tab8 : rtab .any (opsOf Try.f7 8) = roundhouselaw5_CookieOne.T8 := by kernel_rfl
theorem roundhouselaw5_CookieOne.bits8 : waitsOk roundhouselaw5_CookieOne.T8.2 roundhouselaw5_CookieOne.B8 = true := by kernel_rfl
set_option maxHeartbeats 8000000 in
set_option maxRecDepth 100000 in
theorem roundhouselaw5_CookieOne.calls (k : Nat) (a0 : Int) (a1 : Int) (a2 : Bool) (a3 : Int) (a4 : Int) (a5 : Int) (a6 : Int) (r : Bool) (w : World) (h : roundhouselaw5_CookieOne.f k a0 a1 a2 a3 a4 a5 a6 = some r) (hr_ : Aside0 (r = true)) :
    Calls Try.prog 7 #[.int .i64 a0, .int .i64 a1, .bool a2, .int .i64 a3, .int .i64 a4, .int .i64 a5, .int .i64 a6] w fun e w' => e = .returned (.bool r) ∧ Below w.heap.size w w' := by
  have hu27 := Try.underlying27
  have HB := Aside0.mk (Below.refl w.heap.size w)
  have H : ((roundhouselaw5_known.f k).bind fun t441 => (if t441 = true then ((roundhouselaw5_Ring.f k a0 a1).bind fun bt442 => (if a2 = true then (roundhouselaw5_CookieOne.j0 k a3 a4 a5 a6 1 bt442.1 bt442.2.1 bt442.2.2.1 bt442.2.2.2.1 bt442.2.2.2.2.1 bt442.2.2.2.2.2.1 bt442.2.2.2.2.2.2) else (roundhouselaw5_CookieOne.j0 k a3 a4 a5 a6 2 bt442.1 bt442.2.1 bt442.2.2.1 bt442.2.2.2.1 bt442.2.2.2.2.1 bt442.2.2.2.2.2.1 bt442.2.2.2.2.2.2))) else (some false))) = some r := h
  clear h
  replace H := Option.bind_eq_some_iff.mp H
  obtain ⟨t441, A80, H⟩ := H
  replace H : (if t441 = true then ((roundhouselaw5_Ring.f k a0 a1).bind fun bt442 => (if a2 = true then (roundhouselaw5_CookieOne.j0 k a3 a4 a5 a6 1 bt442.1 bt442.2.1 bt442.2.2.1 bt442.2.2.2.1 bt442.2.2.2.2.1 bt442.2.2.2.2.2.1 bt442.2.2.2.2.2.2) else (roundhouselaw5_CookieOne.j0 k a3 a4 a5 a6 2 bt442.1 bt442.2.1 bt442.2.2.1 bt442.2.2.2.1 bt442.2.2.2.2.1 bt442.2.2.2.2.2.1 bt442.2.2.2.2.2.2))) else (some false)) = some r := H
  have A8 := Aside0.mk A80
  clear A80
  by_cases c9 : t441 = true
  · subst c9
    have H1 : ((roundhouselaw5_Ring.f k a0 a1).bind fun bt442 => (if a2 = true then (roundhouselaw5_CookieOne.j0 k a3 a4 a5 a6 1 bt442.1 bt442.2.1 bt442.2.2.1 bt442.2.2.2.1 bt442.2.2.2.2.1 bt442.2.2.2.2.2.1 bt442.2.2.2.2.2.2) else (roundhouselaw5_CookieOne.j0 k a3 a4 a5 a6 2 bt442.1 bt442.2.1 bt442.2.2.1 bt442.2.2.2.1 bt442.2.2.2.2.1 bt442.2.2.2.2.2.1 bt442.2.2.2.2.2.2))) = some r := by rw [if_pos rfl] at H; exact H
    clear H
    have H := H1
    clear H1
    replace H := Option.bind_eq_some_iff.mp H
    obtain ⟨⟨t442, t443, t444, t445, t446, t447, t448⟩, A100, H⟩ := H
    replace H : (if a2 = true then (roundhouselaw5_CookieOne.j0 k a3 a4 a5 a6 1 t442 t443 t444 t445 t446 t447 t448) else (roundhouselaw5_CookieOne.j0 k a3 a4 a5 a6 2 t442 t443 t444 t445 t446 t447 t448)) = some r := H
    have A10 := Aside0.mk A100
    clear A100
    have HC11 := Aside0.mk H
    clear H
    go_enter Try.func7, Try.ntmps7
    go_upto_if 24 with (first | ((with_reducible refine gate_callee (f := 16) rfl ?_); refine goesL_ (some 19) rfl rfl Try.func16 (by kernel_rfl) rfl #[] rfl (by (try simp only [List.map_toArray, List.map_cons, List.map_nil]); first | done | rfl | (simp only [List.length_drop, List.length_take]; rfl)) ?_; (with_reducible refine (roundhouselaw5_known.calls k  true _ A8.out).mono ?_); rintro e w12 ⟨rfl, hb⟩; refine ⟨_, rfl, ?_⟩; have n0_ := Aside0.mk (below_step (by repeat (first | (with_reducible first | exact HB.out | apply below_alloc | apply pw_below_drewN | apply below_drew1) | exact HB.out)) hb); clear HB; have HB := n0_; clear n0_; (try clear hb); (try clear hb2); (try clear hk); (try clear hi)) | ((with_reducible refine gate_callee (f := 17) rfl ?_); refine goesL_ (some 23) rfl rfl Try.func17 (by kernel_rfl) rfl #[.int .i64 a0, .int .i64 a1] rfl (by (try simp only [List.map_toArray, List.map_cons, List.map_nil]); first | done | rfl | (simp only [List.length_drop, List.length_take]; rfl)) ?_; (with_reducible refine (roundhouselaw5_Ring.calls k a0 a1 t442 t443 t444 t445 t446 t447 t448 _ A10.out).mono ?_); rintro e w13 ⟨rfl, hb⟩; refine ⟨_, rfl, ?_⟩; have n0_ := Aside0.mk (below_step (by repeat (first | (with_reducible first | exact HB.out | apply below_alloc | apply pw_below_drewN | apply below_drew1) | exact HB.out)) hb); clear HB; have HB := n0_; clear n0_; (try clear hb); (try clear hb2); (try clear hk); (try clear hi)) | ((with_reducible refine gate_dst (N := 15) rfl ?_); refine box_event ?hg (N := 15) ?hd (cs := #[.int .i64 0, .int .u64 0, .int .u64 0, .int .u64 0, .int .u64 0, .int .u64 0, .int .u64 0]) (t := 27) ?hr ?_; (case hd => rfl); (case hg => rfl); (case hr => first | (go_simp; done) | (go_simp; rfl)); intro gb449 hg w14 hbox hb; have n0_ := Aside0.mk (below_step (by repeat (first | (with_reducible first | exact HB.out | apply below_alloc | apply pw_below_drewN | apply below_drew1) | exact HB.out)) hb); have n1_ := Aside0.mk (hbox); have n2_ := Aside0.mk ((by rw [hg]; exact (below_size (by repeat (first | (with_reducible first | exact HB.out | apply below_alloc | apply pw_below_drewN | apply below_drew1) | exact HB.out))) : w.heap.size ≤ gb449)); have n3_ := Aside0.mk ((by rw [hg]; exact (below_size (by repeat (first | (with_reducible first | exact HB.out | apply below_alloc | apply pw_below_drewN | apply below_drew1) | exact HB.out))) : w.heap.size ≤ gb449)); clear HB; have HB := n0_; have BK449 := n1_; have GW449 := n2_; have GE449 := n3_; clear n0_ n1_ n2_ n3_; clear hb hbox hg; have hcz15_0 : w14.cell? ⟨gb449, 0, none⟩ = some (.int .i64 0) := (blk_cell BK449.out 0).trans rfl; have hcz15_1 : w14.cell? ⟨gb449, 1, none⟩ = some (.int .u64 0) := (blk_cell BK449.out 1).trans rfl; have hcz15_2 : w14.cell? ⟨gb449, 2, none⟩ = some (.int .u64 0) := (blk_cell BK449.out 2).trans rfl; have hcz15_3 : w14.cell? ⟨gb449, 3, none⟩ = some (.int .u64 0) := (blk_cell BK449.out 3).trans rfl; have hcz15_4 : w14.cell? ⟨gb449, 4, none⟩ = some (.int .u64 0) := (blk_cell BK449.out 4).trans rfl; have hcz15_5 : w14.cell? ⟨gb449, 5, none⟩ = some (.int .u64 0) := (blk_cell BK449.out 5).trans rfl; have hcz15_6 : w14.cell? ⟨gb449, 6, none⟩ = some (.int .u64 0) := (blk_cell BK449.out 6).trans rfl; have hfz15_0 := blk_frozen BK449.out 0; have hfz15_1 := blk_frozen BK449.out 1; have hfz15_2 := blk_frozen BK449.out 2; have hfz15_3 := blk_frozen BK449.out 3; have hfz15_4 := blk_frozen BK449.out 4; have hfz15_5 := blk_frozen BK449.out 5; have hfz15_6 := blk_frozen BK449.out 6))
    (try simp only [Act.put, List.setIfInBounds_toArray, List.set_cons_zero, List.set_cons_succ])
    go_cut [16] (fun v16 wc => ∃ (kq : Nat) (x16_10 : Int), v16 = .int .i64 x16_10 ∧ Aside0 (roundhouselaw5_CookieOne.j0 kq a3 a4 a5 a6 x16_10 t442 t443 t444 t445 t446 t447 t448 = some r) ∧ Aside0 (kq ≤ k) ∧ Aside0 (wc.heap[gb449]? = some (.cells #[.int .i64 t442, .int .u64 t443, .int .u64 t444, .int .u64 t445, .int .u64 t446, .int .u64 t447, .int .u64 t448] 27 (0, 0))) ∧ Aside0 (Below w.heap.size w wc))
    case first =>
      have H := HC11.out
      clear HC11
      by_cases c16 : a2 = true
      · subst c16
        have H1 : (roundhouselaw5_CookieOne.j0 k a3 a4 a5 a6 1 t442 t443 t444 t445 t446 t447 t448) = some r := by rw [if_pos rfl] at H; exact H
        clear H
        have H := H1
        clear H1
        have H' := Aside0.mk H
        clear H
        go_wp2
        go_meet
        case rel => exact ⟨_, (1), (by first | rfl | (simp; done) | (simp [*]; done)), H', ⟨by first | omega | exact Nat.le_refl _⟩, ⟨by (with_reducible repeat (first | refine blk_drewN ?_ _ | refine blk_drew ?_ | refine blk_alloc ?_ _)); refine blk_put (cs := #[.int .i64 t442, .int .u64 t443, .int .u64 t444, .int .u64 t445, .int .u64 t446, .int .u64 t447, .int .u64 0]) ?_ 6 _ rfl; (with_reducible repeat (first | refine blk_drewN ?_ _ | refine blk_drew ?_ | refine blk_alloc ?_ _)); refine blk_put (cs := #[.int .i64 t442, .int .u64 t443, .int .u64 t444, .int .u64 t445, .int .u64 t446, .int .u64 0, .int .u64 0]) ?_ 5 _ rfl; (with_reducible repeat (first | refine blk_drewN ?_ _ | refine blk_drew ?_ | refine blk_alloc ?_ _)); refine blk_put (cs := #[.int .i64 t442, .int .u64 t443, .int .u64 t444, .int .u64 t445, .int .u64 0, .int .u64 0, .int .u64 0]) ?_ 4 _ rfl; (with_reducible repeat (first | refine blk_drewN ?_ _ | refine blk_drew ?_ | refine blk_alloc ?_ _)); refine blk_put (cs := #[.int .i64 t442, .int .u64 t443, .int .u64 t444, .int .u64 0, .int .u64 0, .int .u64 0, .int .u64 0]) ?_ 3 _ rfl; (with_reducible repeat (first | refine blk_drewN ?_ _ | refine blk_drew ?_ | refine blk_alloc ?_ _)); refine blk_put (cs := #[.int .i64 t442, .int .u64 t443, .int .u64 0, .int .u64 0, .int .u64 0, .int .u64 0, .int .u64 0]) ?_ 2 _ rfl; (with_reducible repeat (first | refine blk_drewN ?_ _ | refine blk_drew ?_ | refine blk_alloc ?_ _)); refine blk_put (cs := #[.int .i64 t442, .int .u64 0, .int .u64 0, .int .u64 0, .int .u64 0, .int .u64 0, .int .u64 0]) ?_ 1 _ rfl; (with_reducible repeat (first | refine blk_drewN ?_ _ | refine blk_drew ?_ | refine blk_alloc ?_ _)); refine blk_put (cs := #[.int .i64 0, .int .u64 0, .int .u64 0, .int .u64 0, .int .u64 0, .int .u64 0, .int .u64 0]) ?_ 0 _ rfl; (with_reducible repeat (first | refine blk_drewN ?_ _ | refine blk_drew ?_ | refine blk_alloc ?_ _)); exact BK449.out⟩, ⟨by repeat (first | (with_reducible first | exact HB.out | apply below_alloc | apply pw_below_drewN | apply below_drew1 | refine below_set ?_ GE449.out) | exact HB.out)⟩⟩
      · replace c16 := Bool.eq_false_iff.mpr c16
        subst c16
        have H1 : (roundhouselaw5_CookieOne.j0 k a3 a4 a5 a6 2 t442 t443 t444 t445 t446 t447 t448) = some r := by rw [if_neg (show ¬ (false = true) by decide)] at H; exact H
        clear H
        have H := H1
        clear H1
        have H' := Aside0.mk H
        clear H
        go_wp2
        go_meet
        case rel => exact ⟨_, (2), (by first | rfl | (simp; done) | (simp [*]; done)), H', ⟨by first | omega | exact Nat.le_refl _⟩, ⟨by (with_reducible repeat (first | refine blk_drewN ?_ _ | refine blk_drew ?_ | refine blk_alloc ?_ _)); refine blk_put (cs := #[.int .i64 t442, .int .u64 t443, .int .u64 t444, .int .u64 t445, .int .u64 t446, .int .u64 t447, .int .u64 0]) ?_ 6 _ rfl; (with_reducible repeat (first | refine blk_drewN ?_ _ | refine blk_drew ?_ | refine blk_alloc ?_ _)); refine blk_put (cs := #[.int .i64 t442, .int .u64 t443, .int .u64 t444, .int .u64 t445, .int .u64 t446, .int .u64 0, .int .u64 0]) ?_ 5 _ rfl; (with_reducible repeat (first | refine blk_drewN ?_ _ | refine blk_drew ?_ | refine blk_alloc ?_ _)); refine blk_put (cs := #[.int .i64 t442, .int .u64 t443, .int .u64 t444, .int .u64 t445, .int .u64 0, .int .u64 0, .int .u64 0]) ?_ 4 _ rfl; (with_reducible repeat (first | refine blk_drewN ?_ _ | refine blk_drew ?_ | refine blk_alloc ?_ _)); refine blk_put (cs := #[.int .i64 t442, .int .u64 t443, .int .u64 t444, .int .u64 0, .int .u64 0, .int .u64 0, .int .u64 0]) ?_ 3 _ rfl; (with_reducible repeat (first | refine blk_drewN ?_ _ | refine blk_drew ?_ | refine blk_alloc ?_ _)); refine blk_put (cs := #[.int .i64 t442, .int .u64 t443, .int .u64 0, .int .u64 0, .int .u64 0, .int .u64 0, .int .u64 0]) ?_ 2 _ rfl; (with_reducible repeat (first | refine blk_drewN ?_ _ | refine blk_drew ?_ | refine blk_alloc ?_ _)); refine blk_put (cs := #[.int .i64 t442, .int .u64 0, .int .u64 0, .int .u64 0, .int .u64 0, .int .u64 0, .int .u64 0]) ?_ 1 _ rfl; (with_reducible repeat (first | refine blk_drewN ?_ _ | refine blk_drew ?_ | refine blk_alloc ?_ _)); refine blk_put (cs := #[.int .i64 0, .int .u64 0, .int .u64 0, .int .u64 0, .int .u64 0, .int .u64 0, .int .u64 0]) ?_ 0 _ rfl; (with_reducible repeat (first | refine blk_drewN ?_ _ | refine blk_drew ?_ | refine blk_alloc ?_ _)); exact BK449.out⟩, ⟨by repeat (first | (with_reducible first | exact HB.out | apply below_alloc | apply pw_below_drewN | apply below_drew1 | refine below_set ?_ GE449.out) | exact HB.out)⟩⟩
    case rest =>
      clear HC11
      try clear c1
      try clear p2
      try clear c7
      try clear c9
      try clear c16
      try clear hcz15_0
      try clear hcz15_1
      try clear hcz15_2
      try clear hcz15_3
      try clear hcz15_4
      try clear hcz15_5
      try clear hcz15_6
      try clear hfz15_0
      try clear hfz15_1
      try clear hfz15_2
      try clear hfz15_3
      try clear hfz15_4
      try clear hfz15_5
      try clear hfz15_6
      obtain ⟨kq, x16_10, rfl, HA, HJ10, BK449, HB⟩ := hcut
      cases kq with
      | zero => exact absurd HA.out (by simp [roundhouselaw5_CookieOne.j0])
      | succ kj10 =>
        have H := HA.out
        clear HA
        simp only [roundhouselaw5_CookieOne.j0] at H
        replace H := Option.bind_eq_some_iff.mp H
        obtain ⟨t450, A170, H⟩ := H
        replace H : ((roundhouselaw5_within.f a6 64).bind fun t451 => ((roundhouselaw5_Flow.f a3 a4).bind fun bt452 => ((cookie_Make.f kj10 t442 t443 t444 t445 t446 t447 t448 x16_10 bt452.1 bt452.2.1 bt452.2.2.1 bt452.2.2.2 t450).bind fun t456 => ((roundhouselaw5_Flow.f a3 a4).bind fun bt457 => ((cookie_Make.f kj10 t442 t443 t444 t445 t446 t447 t448 x16_10 bt457.1 bt457.2.1 bt457.2.2.1 bt457.2.2.2 t451).bind fun t461 => (some ((t456 == t461) == (t450 == t451)))))))) = some r := H
        have A17 := Aside0.mk A170
        clear A170
        replace H := Option.bind_eq_some_iff.mp H
        obtain ⟨t451, A180, H⟩ := H
        replace H : ((roundhouselaw5_Flow.f a3 a4).bind fun bt452 => ((cookie_Make.f kj10 t442 t443 t444 t445 t446 t447 t448 x16_10 bt452.1 bt452.2.1 bt452.2.2.1 bt452.2.2.2 t450).bind fun t456 => ((roundhouselaw5_Flow.f a3 a4).bind fun bt457 => ((cookie_Make.f kj10 t442 t443 t444 t445 t446 t447 t448 x16_10 bt457.1 bt457.2.1 bt457.2.2.1 bt457.2.2.2 t451).bind fun t461 => (some ((t456 == t461) == (t450 == t451))))))) = some r := H
        have A18 := Aside0.mk A180
        clear A180
        replace H := Option.bind_eq_some_iff.mp H
        obtain ⟨⟨t452, t453, t454, t455⟩, A190, H⟩ := H
        replace H : ((cookie_Make.f kj10 t442 t443 t444 t445 t446 t447 t448 x16_10 t452 t453 t454 t455 t450).bind fun t456 => ((roundhouselaw5_Flow.f a3 a4).bind fun bt457 => ((cookie_Make.f kj10 t442 t443 t444 t445 t446 t447 t448 x16_10 bt457.1 bt457.2.1 bt457.2.2.1 bt457.2.2.2 t451).bind fun t461 => (some ((t456 == t461) == (t450 == t451)))))) = some r := H
        have A19 := Aside0.mk A190
        clear A190
        replace H := Option.bind_eq_some_iff.mp H
        obtain ⟨t456, A200, H⟩ := H
        replace H : ((roundhouselaw5_Flow.f a3 a4).bind fun bt457 => ((cookie_Make.f kj10 t442 t443 t444 t445 t446 t447 t448 x16_10 bt457.1 bt457.2.1 bt457.2.2.1 bt457.2.2.2 t451).bind fun t461 => (some ((t456 == t461) == (t450 == t451))))) = some r := H
        have A20 := Aside0.mk A200
        clear A200
        replace H := Option.bind_eq_some_iff.mp H
        obtain ⟨⟨t457, t458, t459, t460⟩, A210, H⟩ := H
        replace H : ((cookie_Make.f kj10 t442 t443 t444 t445 t446 t447 t448 x16_10 t457 t458 t459 t460 t451).bind fun t461 => (some ((t456 == t461) == (t450 == t451)))) = some r := H
        have A21 := Aside0.mk A210
        clear A210
        replace H := Option.bind_eq_some_iff.mp H
        obtain ⟨t461, A220, H⟩ := H
        replace H : (some ((t456 == t461) == (t450 == t451))) = some r := H
        have A22 := Aside0.mk A220
        clear A220
        obtain rfl := Option.some.inj H
        try go_wp2_with (first | ((with_reducible refine gate_callee (f := 18) rfl ?_); refine goesL_ (some 26) rfl rfl Try.func18 (by kernel_rfl) rfl #[.int .i64 a5, .int .i64 64] rfl (by (try simp only [List.map_toArray, List.map_cons, List.map_nil]); first | done | rfl | (simp only [List.length_drop, List.length_take]; rfl)) ?_; (with_reducible refine (roundhouselaw5_within.calls a5 64 t450 _ A17.out).mono ?_); rintro e w' ⟨rfl, ⟨nd, rfl⟩⟩; refine ⟨_, rfl, ?_⟩) | ((with_reducible refine gate_callee (f := 18) rfl ?_); refine goesL_ (some 28) rfl rfl Try.func18 (by kernel_rfl) rfl #[.int .i64 a6, .int .i64 64] rfl (by (try simp only [List.map_toArray, List.map_cons, List.map_nil]); first | done | rfl | (simp only [List.length_drop, List.length_take]; rfl)) ?_; (with_reducible refine (roundhouselaw5_within.calls a6 64 t451 _ A18.out).mono ?_); rintro e w' ⟨rfl, ⟨nd, rfl⟩⟩; refine ⟨_, rfl, ?_⟩))
        (try (rw [drewN_self wc]; generalize hq_ : World.drewN wc _ = wc; have n0_ : Aside0 (wc.heap[gb449]? = some (.cells #[.int .i64 t442, .int .u64 t443, .int .u64 t444, .int .u64 t445, .int .u64 t446, .int .u64 t447, .int .u64 t448] 27 (0, 0))) := ⟨by rw [← hq_]; exact (by (with_reducible repeat (first | refine blk_drewN ?_ _ | refine blk_drew ?_ | refine blk_alloc ?_ _)); exact BK449.out)⟩; have n1_ : Aside0 (Below w.heap.size w wc) := ⟨by rw [← hq_]; exact (by repeat (first | (with_reducible first | exact HB.out | apply below_alloc | apply pw_below_drewN | apply below_drew1 | refine below_set ?_ GE449.out) | exact HB.out))⟩; clear BK449 HB hq_; have BK449 := n0_; have HB := n1_; clear n0_ n1_))
        have n0_ := Aside0.mk (blk_drew BK449.out)
        have n1_ := Aside0.mk (below_drew1 HB.out)
        clear BK449
        clear HB
        have BK449 := n0_
        have HB := n1_
        clear n0_ n1_
        refine start_ (n := 20) (S := fun w' => w'.cell? ⟨gb449, 0, none⟩ = some (.int .i64 t442) ∧ w'.cell? ⟨gb449, 1, none⟩ = some (.int .u64 t443) ∧ w'.cell? ⟨gb449, 2, none⟩ = some (.int .u64 t444) ∧ w'.cell? ⟨gb449, 3, none⟩ = some (.int .u64 t445) ∧ w'.cell? ⟨gb449, 4, none⟩ = some (.int .u64 t446) ∧ w'.cell? ⟨gb449, 5, none⟩ = some (.int .u64 t447) ∧ w'.cell? ⟨gb449, 6, none⟩ = some (.int .u64 t448)) (ds := []) #[false, false, false, false, false, false, false, false, false, false, false, false, false, false, false, false, false, false, false, false] (by kernel_rfl) rfl rfl ⟨(blk_cell BK449.out 0).trans rfl, (blk_cell BK449.out 1).trans rfl, (blk_cell BK449.out 2).trans rfl, (blk_cell BK449.out 3).trans rfl, (blk_cell BK449.out 4).trans rfl, (blk_cell BK449.out 5).trans rfl, (blk_cell BK449.out 6).trans rfl⟩ (fun hHeld => ?_); refine with_tabW roundhouselaw5_CookieOne.tab8 roundhouselaw5_CookieOne.bits8 (fun HT_ HW_ => ?_)
        generalize wc.drew = w23 at BK449 HB hHeld ⊢
        refine pure_ (i := 1) (N := some 30) (v := ?_) (a' := ?_) #[false, true, false, false, false, false, false, false, false, false, false, false, false, false, false, false, false, false, false, false] rfl rfl (any_of HT_.out (by kernel_rfl)) (fun _ _ _ h => h) (Or.inl ⟨by rfl, ?_⟩) ?_ ?_
        rotate_left
        · intro w'
          go_simp
          with_reducible rfl
        rotate_left
        · simp only [Act.put, List.setIfInBounds_toArray, List.set_cons_zero, List.set_cons_succ, i64_w, i32_w]
          rfl
        refine pure_ (i := 2) (N := some 31) (v := ?_) (a' := ?_) #[false, true, true, false, false, false, false, false, false, false, false, false, false, false, false, false, false, false, false, false] rfl rfl (any_of HT_.out (by kernel_rfl)) (fun _ _ _ h => h) (Or.inl ⟨by rfl, ?_⟩) ?_ ?_
        rotate_left
        · intro w'
          go_simp
          with_reducible rfl
        rotate_left
        · simp only [Act.put, List.setIfInBounds_toArray, List.set_cons_zero, List.set_cons_succ, i64_w, i32_w]
          rfl
        refine pure_ (i := 3) (N := some 32) (v := ?_) (a' := ?_) #[false, true, true, true, false, false, false, false, false, false, false, false, false, false, false, false, false, false, false, false] rfl rfl (any_of HT_.out (by kernel_rfl)) (fun _ _ _ h => h) (Or.inl ⟨by rfl, ?_⟩) ?_ ?_
        rotate_left
        · intro w'
          go_simp
          with_reducible rfl
        rotate_left
        · simp only [Act.put, List.setIfInBounds_toArray, List.set_cons_zero, List.set_cons_succ, i64_w, i32_w]
          rfl
        refine pure_ (i := 5) (N := some 34) (v := ?_) (a' := ?_) #[false, true, true, true, false, true, false, false, false, false, false, false, false, false, false, false, false, false, false, false] rfl rfl (any_of HT_.out (by kernel_rfl)) (fun _ _ _ h => h) (Or.inl ⟨by rfl, ?_⟩) ?_ ?_
        rotate_left
        · intro w'
          go_simp
          with_reducible rfl
        rotate_left
        · simp only [Act.put, List.setIfInBounds_toArray, List.set_cons_zero, List.set_cons_succ, i64_w, i32_w]
          rfl
        refine pure_ (i := 8) (N := some 37) (v := ?_) (a' := ?_) #[false, true, true, true, false, true, false, false, true, false, false, false, false, false, false, false, false, false, false, false] rfl rfl (any_of HT_.out (by kernel_rfl)) (fun _ _ _ h => h) (Or.inl ⟨by rfl, ?_⟩) ?_ ?_
        rotate_left
        · intro w'
          go_simp
          with_reducible rfl
        rotate_left
        · simp only [Act.put, List.setIfInBounds_toArray, List.set_cons_zero, List.set_cons_succ, i64_w, i32_w]
          rfl
        refine pure_ (i := 9) (N := some 38) (v := ?_) (a' := ?_) #[false, true, true, true, false, true, false, false, true, true, false, false, false, false, false, false, false, false, false, false] rfl rfl (any_of HT_.out (by kernel_rfl)) (fun _ _ _ h => h) (Or.inl ⟨by rfl, ?_⟩) ?_ ?_
        rotate_left
        · intro w'
          go_simp
          with_reducible rfl
        rotate_left
        · simp only [Act.put, List.setIfInBounds_toArray, List.set_cons_zero, List.set_cons_succ, i64_w, i32_w]
          rfl
        refine pure_ (i := 10) (N := some 39) (v := ?_) (a' := ?_) #[false, true, true, true, false, true, false, false, true, true, true, false, false, false, false, false, false, false, false, false] rfl rfl (any_of HT_.out (by kernel_rfl)) (fun _ _ _ h => h) (Or.inl ⟨by rfl, ?_⟩) ?_ ?_
        rotate_left
        · intro w'
          go_simp
          with_reducible rfl
        rotate_left
        · simp only [Act.put, List.setIfInBounds_toArray, List.set_cons_zero, List.set_cons_succ, i64_w, i32_w]
          rfl
        refine pure_ (i := 12) (N := some 41) (v := ?_) (a' := ?_) #[false, true, true, true, false, true, false, false, true, true, true, false, true, false, false, false, false, false, false, false] rfl rfl (any_of HT_.out (by kernel_rfl)) (fun _ _ _ h => h) (Or.inl ⟨by rfl, ?_⟩) ?_ ?_
        rotate_left
        · intro w'
          go_simp
          with_reducible rfl
        rotate_left
        · simp only [Act.put, List.setIfInBounds_toArray, List.set_cons_zero, List.set_cons_succ, i64_w, i32_w]
          rfl
        refine pure_ (i := 15) (N := some 44) (v := ?_) (a' := ?_) #[false, true, true, true, false, true, false, false, true, true, true, false, true, false, false, true, false, false, false, false] rfl rfl (any_of HT_.out (by kernel_rfl)) (fun _ _ _ h => h) (Or.inl ⟨by rfl, ?_⟩) ?_ ?_
        rotate_left
        · intro w'
          go_simp
          with_reducible rfl
        rotate_left
        · simp only [Act.put, List.setIfInBounds_toArray, List.set_cons_zero, List.set_cons_succ, i64_w, i32_w]
          rfl
        refine pure_ (i := 16) (N := some 45) (v := ?_) (a' := ?_) #[false, true, true, true, false, true, false, false, true, true, true, false, true, false, false, true, true, false, false, false] rfl rfl (any_of HT_.out (by kernel_rfl)) (fun _ _ _ h => h) (Or.inl ⟨by rfl, ?_⟩) ?_ ?_
        rotate_left
        · intro w'
          go_simp
          with_reducible rfl
        rotate_left
        · simp only [Act.put, List.setIfInBounds_toArray, List.set_cons_zero, List.set_cons_succ, i64_w, i32_w]
          rfl
        refine pure_ (i := 17) (N := some 46) (v := ?_) (a' := ?_) #[false, true, true, true, false, true, false, false, true, true, true, false, true, false, false, true, true, true, false, false] rfl rfl (any_of HT_.out (by kernel_rfl)) (fun _ _ _ h => h) (Or.inl ⟨by rfl, ?_⟩) ?_ ?_
        rotate_left
        · intro w'
          go_simp
          with_reducible rfl
        rotate_left
        · simp only [Act.put, List.setIfInBounds_toArray, List.set_cons_zero, List.set_cons_succ, i64_w, i32_w]
          rfl
        refine take_ (i := 0) (N := some 29) (v := ?_) (a' := ?_) #[true, true, true, true, false, true, false, false, true, true, true, false, true, false, false, true, true, true, false, false] rfl rfl (take_ofW HT_.out HW_.out (by kernel_rfl)) (fun _ _ _ h => h) (Or.inl ⟨by rfl, ?_⟩) hHeld ?_ ?_
        rotate_left
        · rintro w' ⟨s0, s1, s2, s3, s4, s5, s6⟩
          go_simp
          with_reducible rfl
        rotate_left
        · simp only [Act.put, List.setIfInBounds_toArray, List.set_cons_zero, List.set_cons_succ, i64_w, i32_w]
          rfl
        refine take_ (i := 7) (N := some 36) (v := ?_) (a' := ?_) #[true, true, true, true, false, true, false, true, true, true, true, false, true, false, false, true, true, true, false, false] rfl rfl (take_ofW HT_.out HW_.out (by kernel_rfl)) (fun _ _ _ h => h) (Or.inl ⟨by rfl, ?_⟩) hHeld ?_ ?_
        rotate_left
        · rintro w' ⟨s0, s1, s2, s3, s4, s5, s6⟩
          go_simp
          with_reducible rfl
        rotate_left
        · simp only [Act.put, List.setIfInBounds_toArray, List.set_cons_zero, List.set_cons_succ, i64_w, i32_w]
          rfl
        refine one_ (i := 4) (N := some 33) #[true, true, true, true, true, true, false, true, true, true, true, false, true, false, false, true, true, true, false, false] rfl rfl (one_of HT_.out (by kernel_rfl)) (by decide) (fun K hK => ?_)
        refine goes_ Try.func20 (by kernel_rfl) rfl #[.int .i64 a3, .int .i64 a4] (by rfl) rfl rfl (by (try simp only [List.map_toArray, List.map_cons, List.map_nil]); first | done | rfl | (simp only [List.length_drop, List.length_take]; rfl)) ?_
        with_reducible refine (roundhouselaw5_Flow.calls a3 a4 t452 t453 t454 t455 _ A19.out).mono ?_
        rintro e w24 ⟨rfl, hb⟩
        refine ⟨_, rfl, ?_⟩
        have n0_ := Aside0.mk (blk_below (g := gb449) (o := .cells #[.int .i64 t442, .int .u64 t443, .int .u64 t444, .int .u64 t445, .int .u64 t446, .int .u64 t447, .int .u64 t448] 27 (0, 0)) (by (with_reducible repeat (first | refine blk_drewN ?_ _ | refine blk_drew ?_ | refine blk_alloc ?_ _)); exact BK449.out) hb)
        have n1_ := Aside0.mk (below_step (by repeat (first | (with_reducible first | exact HB.out | apply below_alloc | apply pw_below_drewN | apply below_drew1 | refine below_set ?_ GE449.out) | exact HB.out)) hb)
        clear BK449
        clear HB
        have BK449 := n0_
        have HB := n1_
        clear n0_ n1_
        (try clear hb)
        (try clear hb2)
        (try clear hk)
        (try clear hi)
        refine hK.out _ _ ⟨(blk_cell BK449.out 0).trans rfl, (blk_cell BK449.out 1).trans rfl, (blk_cell BK449.out 2).trans rfl, (blk_cell BK449.out 3).trans rfl, (blk_cell BK449.out 4).trans rfl, (blk_cell BK449.out 5).trans rfl, (blk_cell BK449.out 6).trans rfl⟩ (fun hHeld => ?_)
        clear hK K
        refine norm_ (a' := ?_) ?_ ?_
        rotate_left
        · show Act.put _ (some 33) _ = _
          simp only [Act.put, List.setIfInBounds_toArray, List.set_cons_zero, List.set_cons_succ, i64_w, i32_w]
          rfl
        refine one_ (i := 6) (N := some 35) #[true, true, true, true, true, true, true, true, true, true, true, false, true, false, false, true, true, true, false, false] rfl rfl (one_of HT_.out (by kernel_rfl)) (by decide) (fun K hK => ?_)
        refine goes_ Try.func19 (by kernel_rfl) rfl #[.agg #[.int .i64 t442, .int .u64 t443, .int .u64 t444, .int .u64 t445, .int .u64 t446, .int .u64 t447, .int .u64 t448], .int .i64 x16_10, .agg #[.int .i64 t452, .int .i64 t453, .int .i64 t454, .int .i64 t455], .int .i64 t450] (by rfl) rfl rfl (by (try simp only [List.map_toArray, List.map_cons, List.map_nil]); first | done | rfl | (simp only [List.length_drop, List.length_take]; rfl)) ?_
        with_reducible refine (cookie_Make.calls kj10 t442 t443 t444 t445 t446 t447 t448 x16_10 t452 t453 t454 t455 t450 t456 _ A20.out).mono ?_
        rintro e w25 ⟨rfl, hb⟩
        refine ⟨_, rfl, ?_⟩
        have n0_ := Aside0.mk (blk_below (g := gb449) (o := .cells #[.int .i64 t442, .int .u64 t443, .int .u64 t444, .int .u64 t445, .int .u64 t446, .int .u64 t447, .int .u64 t448] 27 (0, 0)) (by (with_reducible repeat (first | refine blk_drewN ?_ _ | refine blk_drew ?_ | refine blk_alloc ?_ _)); exact BK449.out) hb)
        have n1_ := Aside0.mk (below_step (by repeat (first | (with_reducible first | exact HB.out | apply below_alloc | apply pw_below_drewN | apply below_drew1 | refine below_set ?_ GE449.out) | exact HB.out)) hb)
        clear BK449
        clear HB
        have BK449 := n0_
        have HB := n1_
        clear n0_ n1_
        (try clear hb)
        (try clear hb2)
        (try clear hk)
        (try clear hi)
        refine hK.out _ _ ⟨(blk_cell BK449.out 0).trans rfl, (blk_cell BK449.out 1).trans rfl, (blk_cell BK449.out 2).trans rfl, (blk_cell BK449.out 3).trans rfl, (blk_cell BK449.out 4).trans rfl, (blk_cell BK449.out 5).trans rfl, (blk_cell BK449.out 6).trans rfl⟩ (fun hHeld => ?_)
        clear hK K
        refine norm_ (a' := ?_) ?_ ?_
        rotate_left
        · show Act.put _ (some 35) _ = _
          simp only [Act.put, List.setIfInBounds_toArray, List.set_cons_zero, List.set_cons_succ, i64_w, i32_w]
          rfl
        refine one_ (i := 11) (N := some 40) #[true, true, true, true, true, true, true, true, true, true, true, true, true, false, false, true, true, true, false, false] rfl rfl (one_of HT_.out (by kernel_rfl)) (by decide) (fun K hK => ?_)
        refine goes_ Try.func20 (by kernel_rfl) rfl #[.int .i64 a3, .int .i64 a4] (by rfl) rfl rfl (by (try simp only [List.map_toArray, List.map_cons, List.map_nil]); first | done | rfl | (simp only [List.length_drop, List.length_take]; rfl)) ?_
        with_reducible refine (roundhouselaw5_Flow.calls a3 a4 t457 t458 t459 t460 _ A21.out).mono ?_
        rintro e w26 ⟨rfl, hb⟩
        refine ⟨_, rfl, ?_⟩
        have n0_ := Aside0.mk (blk_below (g := gb449) (o := .cells #[.int .i64 t442, .int .u64 t443, .int .u64 t444, .int .u64 t445, .int .u64 t446, .int .u64 t447, .int .u64 t448] 27 (0, 0)) (by (with_reducible repeat (first | refine blk_drewN ?_ _ | refine blk_drew ?_ | refine blk_alloc ?_ _)); exact BK449.out) hb)
        have n1_ := Aside0.mk (below_step (by repeat (first | (with_reducible first | exact HB.out | apply below_alloc | apply pw_below_drewN | apply below_drew1 | refine below_set ?_ GE449.out) | exact HB.out)) hb)
        clear BK449
        clear HB
        have BK449 := n0_
        have HB := n1_
        clear n0_ n1_
        (try clear hb)
        (try clear hb2)
        (try clear hk)
        (try clear hi)
        refine hK.out _ _ ⟨(blk_cell BK449.out 0).trans rfl, (blk_cell BK449.out 1).trans rfl, (blk_cell BK449.out 2).trans rfl, (blk_cell BK449.out 3).trans rfl, (blk_cell BK449.out 4).trans rfl, (blk_cell BK449.out 5).trans rfl, (blk_cell BK449.out 6).trans rfl⟩ (fun hHeld => ?_)
        clear hK K
        refine norm_ (a' := ?_) ?_ ?_
        rotate_left
        · show Act.put _ (some 40) _ = _
          simp only [Act.put, List.setIfInBounds_toArray, List.set_cons_zero, List.set_cons_succ, i64_w, i32_w]
          rfl
        refine one_ (i := 13) (N := some 42) #[true, true, true, true, true, true, true, true, true, true, true, true, true, true, false, true, true, true, false, false] rfl rfl (one_of HT_.out (by kernel_rfl)) (by decide) (fun K hK => ?_)
        refine goes_ Try.func19 (by kernel_rfl) rfl #[.agg #[.int .i64 t442, .int .u64 t443, .int .u64 t444, .int .u64 t445, .int .u64 t446, .int .u64 t447, .int .u64 t448], .int .i64 x16_10, .agg #[.int .i64 t457, .int .i64 t458, .int .i64 t459, .int .i64 t460], .int .i64 t451] (by rfl) rfl rfl (by (try simp only [List.map_toArray, List.map_cons, List.map_nil]); first | done | rfl | (simp only [List.length_drop, List.length_take]; rfl)) ?_
        with_reducible refine (cookie_Make.calls kj10 t442 t443 t444 t445 t446 t447 t448 x16_10 t457 t458 t459 t460 t451 t461 _ A22.out).mono ?_
        rintro e w27 ⟨rfl, hb⟩
        refine ⟨_, rfl, ?_⟩
        have n0_ := Aside0.mk (blk_below (g := gb449) (o := .cells #[.int .i64 t442, .int .u64 t443, .int .u64 t444, .int .u64 t445, .int .u64 t446, .int .u64 t447, .int .u64 t448] 27 (0, 0)) (by (with_reducible repeat (first | refine blk_drewN ?_ _ | refine blk_drew ?_ | refine blk_alloc ?_ _)); exact BK449.out) hb)
        have n1_ := Aside0.mk (below_step (by repeat (first | (with_reducible first | exact HB.out | apply below_alloc | apply pw_below_drewN | apply below_drew1 | refine below_set ?_ GE449.out) | exact HB.out)) hb)
        clear BK449
        clear HB
        have BK449 := n0_
        have HB := n1_
        clear n0_ n1_
        (try clear hb)
        (try clear hb2)
        (try clear hk)
        (try clear hi)
        refine hK.out _ _ ⟨(blk_cell BK449.out 0).trans rfl, (blk_cell BK449.out 1).trans rfl, (blk_cell BK449.out 2).trans rfl, (blk_cell BK449.out 3).trans rfl, (blk_cell BK449.out 4).trans rfl, (blk_cell BK449.out 5).trans rfl, (blk_cell BK449.out 6).trans rfl⟩ (fun hHeld => ?_)
        clear hK K
        refine norm_ (a' := ?_) ?_ ?_
        rotate_left
        · show Act.put _ (some 42) _ = _
          simp only [Act.put, List.setIfInBounds_toArray, List.set_cons_zero, List.set_cons_succ, i64_w, i32_w]
          rfl
        refine pure_ (i := 14) (N := some 43) (v := ?_) (a' := ?_) #[true, true, true, true, true, true, true, true, true, true, true, true, true, true, true, true, true, true, false, false] rfl rfl (any_of HT_.out (by kernel_rfl)) (fun _ _ _ h => h) (Or.inl ⟨by rfl, ?_⟩) ?_ ?_
        rotate_left
        · intro w'
          go_simp
          with_reducible rfl
        rotate_left
        · simp only [Act.put, List.setIfInBounds_toArray, List.set_cons_zero, List.set_cons_succ, i64_w, i32_w]
          rfl
        refine pure_ (i := 18) (N := some 47) (v := ?_) (a' := ?_) #[true, true, true, true, true, true, true, true, true, true, true, true, true, true, true, true, true, true, true, false] rfl rfl (any_of HT_.out (by kernel_rfl)) (fun _ _ _ h => h) (Or.inl ⟨by rfl, ?_⟩) ?_ ?_
        rotate_left
        · intro w'
          go_simp
          with_reducible rfl
        rotate_left
        · simp only [Act.put, List.setIfInBounds_toArray, List.set_cons_zero, List.set_cons_succ, i64_w, i32_w]
          rfl
        refine pure_ (i := 19) (N := some 14) (v := ?_) (a' := ?_) #[true, true, true, true, true, true, true, true, true, true, true, true, true, true, true, true, true, true, true, true] rfl rfl (any_of HT_.out (by kernel_rfl)) (fun _ _ _ h => h) (Or.inl ⟨by rfl, ?_⟩) ?_ ?_
        rotate_left
        · intro w'
          go_simp
          with_reducible rfl
        rotate_left
        · simp only [Act.put, List.setIfInBounds_toArray, List.set_cons_zero, List.set_cons_succ, i64_w, i32_w]
          rfl
        refine done_ (done_of HT_.out (by kernel_rfl)) ?_
        try go_wp2
        go_ret
        exact ⟨by first | rfl | (simp [errW_none, errW_some] <;> rfl) | (simp [*, errW_none, errW_some] <;> rfl), by repeat (first | (with_reducible first | exact HB.out | apply below_alloc | apply pw_below_drewN | apply below_drew1 | refine below_set ?_ GE449.out) | exact HB.out)⟩
  · replace c9 := Bool.eq_false_iff.mpr c9
    subst c9
    have H1 : (some false) = some r := by rw [if_neg (show ¬ (false = true) by decide)] at H; exact H
    clear H
    have H := H1
    clear H1
    exact absurd hr_.out (by rw [← Option.some.inj H]; decide)
/-- THE ONE PURE STATEMENT of roundhouselaw5_CookieOne: yours. -/
def roundhouselaw5_CookieOne.Pure : Prop := ∀ (a0 : Int) (a1 : Int) (a2 : Bool) (a3 : Int) (a4 : Int) (a5 : Int) (a6 : Int), (Lit.int .i64 a0).wf = true → (Lit.int .i64 a1).wf = true → (Lit.int .i64 a3).wf = true → (Lit.int .i64 a4).wf = true → (Lit.int .i64 a5).wf = true → (Lit.int .i64 a6).wf = true → ∃ k, roundhouselaw5_CookieOne.f k a0 a1 a2 a3 a4 a5 a6 = some true
theorem roundhouselaw5_CookieOne.walk (P : roundhouselaw5_CookieOne.Pure) (a0 : Int) (a1 : Int) (a2 : Bool) (a3 : Int) (a4 : Int) (a5 : Int) (a6 : Int) (w : World) (w0 : (Lit.int .i64 a0).wf = true) (w1 : (Lit.int .i64 a1).wf = true) (w3 : (Lit.int .i64 a3).wf = true) (w4 : (Lit.int .i64 a4).wf = true) (w5 : (Lit.int .i64 a5).wf = true) (w6 : (Lit.int .i64 a6).wf = true) :
    Calls Try.prog 7 #[.int .i64 a0, .int .i64 a1, .bool a2, .int .i64 a3, .int .i64 a4, .int .i64 a5, .int .i64 a6] w fun e w' => e = .returned (.bool true) ∧ Below w.heap.size w w' := by
  obtain ⟨k, h⟩ := P a0 a1 a2 a3 a4 a5 a6 w0 w1 w3 w4 w5 w6
  refine (roundhouselaw5_CookieOne.calls k a0 a1 a2 a3 a4 a5 a6 true w h ⟨rfl⟩).mono ?_
  rintro e w' ⟨rfl, hd⟩
  exact ⟨rfl, hd⟩

end Go.Proofs.Ytnaplobnkmdfbaa.Q
