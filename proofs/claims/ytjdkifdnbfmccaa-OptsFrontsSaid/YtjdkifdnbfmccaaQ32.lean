/- By a program of this session (wip/tools/myprint.py), out of the translation: for each Go function a plain Lean function, and that the call comes to what that function says; a law's row out of its plain statement. Lean checks it. -/
import Derived.Test.YtjdkifdnbfmccaaOptG
import Derived.Test.YtjdkifdnbfmccaaQ0
import Derived.Test.YtjdkifdnbfmccaaQ12
import Derived.Test.YtjdkifdnbfmccaaQ13
import Derived.Test.YtjdkifdnbfmccaaQ14
import Derived.Test.YtjdkifdnbfmccaaQ18
import Derived.Test.YtjdkifdnbfmccaaQ19
namespace Go.Proofs.Ytjdkifdnbfmccaa.Q
open Go.RowKit Go.Proofs.YtjdkifdnbfmccaaW.PrintWords Go.Proofs.YtjdkifdnbfmccaaW.PrintLast Go.Proofs.YtjdkifdnbfmccaaW.PrintMore
attribute [local go_sem] max2_int min2_int max_two min_two max_three min_three max_four min_four   -- for this text's walks alone
set_option linter.unusedVariables false
set_option linter.unusedSimpArgs false

open Go.Proofs.Ytjdkifdnbfmccaa.Own
/-! ### roundhouselaw4_OptsFronts: function 11 -/
mutual
def roundhouselaw4_OptsFronts.j0 : Nat → Int → List Int → List (S42) → Int → Bool → Option (Bool)
  | 0, _, _, _, _, _ => none
  | k + 1, x2, x7, x8, x9, x33 => if x33 = true then (if x9 = 0 then (some ((x7.length : Int) == 0)) else (some true)) else ((roundhouselaw4_within.f x2 (x8.length : Int)).bind fun t471 => (if 0 ≤ t471 then (if t471 < (x8.length : Int) then (if ((rd_T42 x8 t471).f1) < 0 then (roundhouselaw4_OptsFronts.j1 k x7 x8 t471 true) else (roundhouselaw4_OptsFronts.j1 k x7 x8 t471 (decide (((rd_T42 x8 t471).f1) > (x7.length : Int))))) else (none)) else (none)))
def roundhouselaw4_OptsFronts.j1 : Nat → List Int → List (S42) → Int → Bool → Option (Bool)
  | 0, _, _, _, _ => none
  | k + 1, x7, x8, x10, x60 => if x60 = true then (some false) else (if 0 ≤ x10 then (if x10 < (x8.length : Int) then (if 0 ≤ ((rd_T42 x8 x10).f1) then (if ((rd_T42 x8 x10).f1) ≤ (x7.length : Int) then ((opts_Walk.f k (x7.take (((rd_T42 x8 x10).f1) : Int).toNat)).bind fun bt479 => (if bt479.2 = 0 then ((roundhouselaw4_as.f k bt479.1).bind fun t483 => (if x10 ≤ (x8.length : Int) then ((roundhouselaw4_as.f k (x8.take (x10 : Int).toNat)).bind fun t491 => ((roundhouselaw4_same.f k t483 t491).bind fun t494 => (some t494))) else (none))) else (some false))) else (none)) else (none)) else (none)) else (none))
end
def roundhouselaw4_OptsFronts.f (k : Nat) (l0 : List Int) (l1 : List Int) (a2 : Int) : Option (Bool) := (roundhouselaw4_known.f k).bind fun t460 => (if t460 = true then (if (l1.length : Int) > 40 then (some true) else ((roundhouselaw4_Some.f k l0).bind fun t461 => (if t461.length + l1.length < 140737488355328 then ((some (t461 ++ l1 : List Int)).bind fun y464 => ((opts_Walk.f k y464).bind fun bt467 => (if bt467.2 = 0 then (roundhouselaw4_OptsFronts.j0 k a2 y464 bt467.1 bt467.2 ((bt467.1.length : Int) == 0)) else (roundhouselaw4_OptsFronts.j0 k a2 y464 bt467.1 bt467.2 true)))) else (none)))) else (some false))
theorem roundhouselaw4_OptsFronts.mono_l : ∀ k, (∀ y0 y1 y2 y3 y4, LeO (roundhouselaw4_OptsFronts.j0 k y0 y1 y2 y3 y4) (roundhouselaw4_OptsFronts.j0 (k + 1) y0 y1 y2 y3 y4)) ∧ (∀ y0 y1 y2 y3, LeO (roundhouselaw4_OptsFronts.j1 k y0 y1 y2 y3) (roundhouselaw4_OptsFronts.j1 (k + 1) y0 y1 y2 y3))
  | 0 => ⟨fun _ _ _ _ _ r h => by simp [roundhouselaw4_OptsFronts.j0] at h, fun _ _ _ _ r h => by simp [roundhouselaw4_OptsFronts.j1] at h⟩
  | k + 1 => by
    obtain ⟨ih0, ih1⟩ := roundhouselaw4_OptsFronts.mono_l k
    refine ⟨?_, ?_⟩
    · intro y0 y1 y2 y3 y4
      unfold roundhouselaw4_OptsFronts.j0
      repeat' first
      | (with_reducible exact ih0 _ _ _ _ _)
      | (with_reducible exact ih1 _ _ _ _)
      | (with_reducible exact opts_Walk.mono _ _)
      | (with_reducible exact roundhouselaw4_Some.mono _ _)
      | (with_reducible exact roundhouselaw4_as.mono _ _)
      | (with_reducible exact roundhouselaw4_known.mono _)
      | (with_reducible exact roundhouselaw4_same.mono _ _ _)
      | (with_reducible exact LeO.refl _)
      | (with_reducible exact LeO.none _)
      | (with_reducible refine LeO.ite ?_ ?_)
      | (with_reducible refine LeO.bind ?_ (fun _ => ?_))
      | exact ih0 _ _ _ _ _
      | exact ih1 _ _ _ _
      | exact opts_Walk.mono _ _
      | exact roundhouselaw4_Some.mono _ _
      | exact roundhouselaw4_as.mono _ _
      | exact roundhouselaw4_known.mono _
      | exact roundhouselaw4_same.mono _ _ _
      | exact LeO.none _
      | refine LeO.ite ?_ ?_
      | refine LeO.bind ?_ (fun _ => ?_)
    · intro y0 y1 y2 y3
      unfold roundhouselaw4_OptsFronts.j1
      repeat' first
      | (with_reducible exact ih0 _ _ _ _ _)
      | (with_reducible exact ih1 _ _ _ _)
      | (with_reducible exact opts_Walk.mono _ _)
      | (with_reducible exact roundhouselaw4_Some.mono _ _)
      | (with_reducible exact roundhouselaw4_as.mono _ _)
      | (with_reducible exact roundhouselaw4_known.mono _)
      | (with_reducible exact roundhouselaw4_same.mono _ _ _)
      | (with_reducible exact LeO.refl _)
      | (with_reducible exact LeO.none _)
      | (with_reducible refine LeO.ite ?_ ?_)
      | (with_reducible refine LeO.bind ?_ (fun _ => ?_))
      | exact ih0 _ _ _ _ _
      | exact ih1 _ _ _ _
      | exact opts_Walk.mono _ _
      | exact roundhouselaw4_Some.mono _ _
      | exact roundhouselaw4_as.mono _ _
      | exact roundhouselaw4_known.mono _
      | exact roundhouselaw4_same.mono _ _ _
      | exact LeO.none _
      | refine LeO.ite ?_ ?_
      | refine LeO.bind ?_ (fun _ => ?_)
theorem roundhouselaw4_OptsFronts.mono : ∀ a0 a1 a2 k, LeO (roundhouselaw4_OptsFronts.f k a0 a1 a2) (roundhouselaw4_OptsFronts.f (k + 1) a0 a1 a2) := by
  intro a0 a1 a2 k
  obtain ⟨ih0, ih1⟩ := roundhouselaw4_OptsFronts.mono_l k
  unfold roundhouselaw4_OptsFronts.f
  repeat' first
      | (with_reducible exact ih0 _ _ _ _ _)
      | (with_reducible exact ih1 _ _ _ _)
      | (with_reducible exact opts_Walk.mono _ _)
      | (with_reducible exact roundhouselaw4_Some.mono _ _)
      | (with_reducible exact roundhouselaw4_as.mono _ _)
      | (with_reducible exact roundhouselaw4_known.mono _)
      | (with_reducible exact roundhouselaw4_same.mono _ _ _)
      | (with_reducible exact LeO.refl _)
      | (with_reducible exact LeO.none _)
      | (with_reducible refine LeO.ite ?_ ?_)
      | (with_reducible refine LeO.bind ?_ (fun _ => ?_))
      | exact ih0 _ _ _ _ _
      | exact ih1 _ _ _ _
      | exact opts_Walk.mono _ _
      | exact roundhouselaw4_Some.mono _ _
      | exact roundhouselaw4_as.mono _ _
      | exact roundhouselaw4_known.mono _
      | exact roundhouselaw4_same.mono _ _ _
      | exact LeO.none _
      | refine LeO.ite ?_ ?_
      | refine LeO.bind ?_ (fun _ => ?_)
def roundhouselaw4_OptsFronts.T13 : Bool × List (List Nat × List Nat) := (true, [([], []), ([0], [0]), ([1], [1]), ([2], [2]), ([3, 2, 2], [2, 3]), ([2], [2]), ([2], [2]), ([5, 6, 2], [2, 5, 6]), ([7, 4, 2], [2, 7]), ([4, 8, 8, 2], [2, 4, 8]), ([2, 9], [2, 9]), ([10, 9, 0, 1, 2, 3, 4, 5, 6, 7, 8, 9, 10], [10])])
def roundhouselaw4_OptsFronts.B13 : List Nat := [0, 1, 3, 7, 15, 7, 7, 103, 255, 511, 1023, 2047]
theorem roundhouselaw4_OptsFronts.tab13 : rtab .any (opsOf Try.f11 13) = roundhouselaw4_OptsFronts.T13 := by kernel_rfl
theorem roundhouselaw4_OptsFronts.bits13 : waitsOk roundhouselaw4_OptsFronts.T13.2 roundhouselaw4_OptsFronts.B13 = true := by kernel_rfl
set_option maxHeartbeats 8000000 in
set_option maxRecDepth 100000 in
theorem roundhouselaw4_OptsFronts.calls (k : Nat) (A0 : Option Addr) (c0 : Nat) (l0 : List Int) (A1 : Option Addr) (c1 : Nat) (l1 : List Int) (a2 : Int) (r : Bool) (w : World) (hr0 : Kd.C (Kd.int .i64) w A0 l0.length l0) (hc0 : l0.length ≤ c0) (hr1 : Kd.C (Kd.int .u8) w A1 l1.length l1) (hc1 : l1.length ≤ c1) (h : roundhouselaw4_OptsFronts.f k l0 l1 a2 = some r) :
    Calls Try.prog 11 #[.slice A0 l0.length c0, .slice A1 l1.length c1, .int .i64 a2] w fun e w' => e = .returned (.bool r) ∧ Below w.heap.size w w' := by
  have HR0 := Aside0.mk hr0
  have HC0 := Aside0.mk hc0
  clear hr0 hc0
  have HR1 := Aside0.mk hr1
  have HC1 := Aside0.mk hc1
  clear hr1 hc1
  have HB := Aside0.mk (Below.refl w.heap.size w)
  have H : ((roundhouselaw4_known.f k).bind fun t460 => (if t460 = true then (if (l1.length : Int) > 40 then (some true) else ((roundhouselaw4_Some.f k l0).bind fun t461 => (if t461.length + l1.length < 140737488355328 then ((some (t461 ++ l1 : List Int)).bind fun y464 => ((opts_Walk.f k y464).bind fun bt467 => (if bt467.2 = 0 then (roundhouselaw4_OptsFronts.j0 k a2 y464 bt467.1 bt467.2 ((bt467.1.length : Int) == 0)) else (roundhouselaw4_OptsFronts.j0 k a2 y464 bt467.1 bt467.2 true)))) else (none)))) else (some false))) = some r := h
  clear h
  replace H := Option.bind_eq_some_iff.mp H
  obtain ⟨t460, A40, H⟩ := H
  replace H : (if t460 = true then (if (l1.length : Int) > 40 then (some true) else ((roundhouselaw4_Some.f k l0).bind fun t461 => (if t461.length + l1.length < 140737488355328 then ((some (t461 ++ l1 : List Int)).bind fun y464 => ((opts_Walk.f k y464).bind fun bt467 => (if bt467.2 = 0 then (roundhouselaw4_OptsFronts.j0 k a2 y464 bt467.1 bt467.2 ((bt467.1.length : Int) == 0)) else (roundhouselaw4_OptsFronts.j0 k a2 y464 bt467.1 bt467.2 true)))) else (none)))) else (some false)) = some r := H
  have A4 := Aside0.mk A40
  clear A40
  by_cases c5 : t460 = true
  · subst c5
    have H1 : (if (l1.length : Int) > 40 then (some true) else ((roundhouselaw4_Some.f k l0).bind fun t461 => (if t461.length + l1.length < 140737488355328 then ((some (t461 ++ l1 : List Int)).bind fun y464 => ((opts_Walk.f k y464).bind fun bt467 => (if bt467.2 = 0 then (roundhouselaw4_OptsFronts.j0 k a2 y464 bt467.1 bt467.2 ((bt467.1.length : Int) == 0)) else (roundhouselaw4_OptsFronts.j0 k a2 y464 bt467.1 bt467.2 true)))) else (none)))) = some r := by rw [if_pos rfl] at H; exact H
    clear H
    have H := H1
    clear H1
    by_cases c6 : (l1.length : Int) > 40
    · rw [if_pos c6] at H
      have c6b0 : decide (40 < (l1.length : Int)) = true := decide_eq_true c6
      have c6b1 : decide (40 < l1.length) = true := decide_eq_true (by omega)
      clear c6
      obtain rfl := Option.some.inj H
      go_enter Try.func11, Try.ntmps11
      go_wp2_with (first | ((with_reducible refine gate_callee (f := 13) rfl ?_); refine goesL_ (some 13) rfl rfl Try.func13 (by kernel_rfl) rfl #[] rfl (by (try simp only [List.map_toArray, List.map_cons, List.map_nil]); first | done | rfl | (simp only [List.length_drop, List.length_take]; rfl)) ?_; (with_reducible refine (roundhouselaw4_known.calls k  true _ A4.out).mono ?_); rintro e w7 ⟨rfl, hb⟩; refine ⟨_, rfl, ?_⟩; have n0_ := Aside0.mk (below_step (by repeat (first | (with_reducible first | exact HB.out | apply below_alloc | apply pw_below_drewN | apply below_drew1) | exact HB.out)) hb); clear HB; have HB := n0_; clear n0_; (try clear hb); (try clear hb2); (try clear hk); (try clear hi)))
      go_ret
      exact ⟨by first | rfl | (simp [errW_none, errW_some] <;> rfl) | (simp [*, errW_none, errW_some] <;> rfl), by repeat (first | (with_reducible first | exact HB.out | apply below_alloc | apply pw_below_drewN | apply below_drew1) | exact HB.out)⟩
    · rw [if_neg c6] at H
      have c6b0 : decide (40 < (l1.length : Int)) = false := decide_eq_false c6
      have c6b1 : decide (40 < l1.length) = false := decide_eq_false (by omega)
      clear c6
      replace H := Option.bind_eq_some_iff.mp H
      obtain ⟨t461, A80, H⟩ := H
      replace H : (if t461.length + l1.length < 140737488355328 then ((some (t461 ++ l1 : List Int)).bind fun y464 => ((opts_Walk.f k y464).bind fun bt467 => (if bt467.2 = 0 then (roundhouselaw4_OptsFronts.j0 k a2 y464 bt467.1 bt467.2 ((bt467.1.length : Int) == 0)) else (roundhouselaw4_OptsFronts.j0 k a2 y464 bt467.1 bt467.2 true)))) else (none)) = some r := H
      have A8 := Aside0.mk A80
      clear A80
      by_cases c9 : t461.length + l1.length < 140737488355328
      · rw [if_pos c9] at H
        have LMc9 := Aside0.mk c9
        clear c9
        obtain ⟨y464, hy464⟩ : ∃ y_ : List Int, y_ = (t461 ++ l1) := ⟨_, rfl⟩
        replace H : ((opts_Walk.f k y464).bind fun bt467 => (if bt467.2 = 0 then (roundhouselaw4_OptsFronts.j0 k a2 y464 bt467.1 bt467.2 ((bt467.1.length : Int) == 0)) else (roundhouselaw4_OptsFronts.j0 k a2 y464 bt467.1 bt467.2 true))) = some r := by first | (rw [hy464]; with_reducible exact H) | (have H2_ := (Option.bind_some _ _).symm.trans H; rw [hy464]; with_reducible exact H2_) | (have H2_ := (Option.bind_some _ _).symm.trans H; with_reducible exact H2_) | with_reducible exact H | (rw [hy464]; exact H) | exact H
        have Ny464 := Aside0.mk hy464
        clear hy464
        replace H := Option.bind_eq_some_iff.mp H
        obtain ⟨⟨t467, t470⟩, A100, H⟩ := H
        replace H : (if t470 = 0 then (roundhouselaw4_OptsFronts.j0 k a2 y464 t467 t470 ((t467.length : Int) == 0)) else (roundhouselaw4_OptsFronts.j0 k a2 y464 t467 t470 true)) = some r := H
        have A10 := Aside0.mk A100
        clear A100
        have HC11 := Aside0.mk H
        clear H
        go_enter Try.func11, Try.ntmps11
        go_upto_region 7 with (first | ((with_reducible refine gate_callee (f := 13) rfl ?_); refine goesL_ (some 13) rfl rfl Try.func13 (by kernel_rfl) rfl #[] rfl (by (try simp only [List.map_toArray, List.map_cons, List.map_nil]); first | done | rfl | (simp only [List.length_drop, List.length_take]; rfl)) ?_; (with_reducible refine (roundhouselaw4_known.calls k  true _ A4.out).mono ?_); rintro e w12 ⟨rfl, hb⟩; refine ⟨_, rfl, ?_⟩; have n0_ := Aside0.mk (below_step (by repeat (first | (with_reducible first | exact HB.out | apply below_alloc | apply pw_below_drewN | apply below_drew1) | exact HB.out)) hb); clear HB; have HB := n0_; clear n0_; (try clear hb); (try clear hb2); (try clear hk); (try clear hi)) | ((with_reducible refine gate_callee (f := 14) rfl ?_); refine goesL_ (some 19) rfl rfl Try.func14 (by kernel_rfl) rfl #[.slice A0 l0.length c0] rfl (by (try simp only [List.map_toArray, List.map_cons, List.map_nil]); first | done | rfl | (simp only [List.length_drop, List.length_take]; rfl)) ?_; (with_reducible refine (roundhouselaw4_Some.calls k _ _ l0 t461 _ ?side1 ?side2 A8.out).mono ?_); (case side1 => repeat (first | exact (Kd.C_below HR0.out HB.out) | (with_reducible refine Kd.C_alloc ?_ _) | (with_reducible refine Kd.C_drewN ?_ _) | (with_reducible refine Kd.C_drew ?_))); (case side2 => exact HC0.out); rintro e w13 ⟨v462, rfl, ho0, hb⟩; refine ⟨_, rfl, ?_⟩; have n0_ := Aside0.mk (Kd.R_lower ho0 (below_size (by repeat (first | (with_reducible first | exact HB.out | apply below_alloc | apply pw_below_drewN | apply below_drew1) | exact HB.out)))); have n1_ := Aside0.mk (below_step (by repeat (first | (with_reducible first | exact HB.out | apply below_alloc | apply pw_below_drewN | apply below_drew1) | exact HB.out)) hb); clear HB; have HO463 := n0_; have HB := n1_; clear n0_ n1_; (try clear hb); (try clear hb2); (try clear hk); (try clear hi); (try clear ho0)) | ((with_reducible refine gate_builtin (b := .append) (xs := #[.tmp 19, .tmp 20]) rfl ?_); (try (refine gate_guard (by rfl) ?_; dsimp only)); at_builtin; refine Kd.R_append_rows (Kd.int .u8) (w0 := w) w.heap.size rfl (.tmp 19) (.tmp 20) 23 5 (.int .u8 0) 1 rfl Try.underlying23 info5 rfl (by decide) (by omega) v462 t461 l1 _ _ _ (fun _ => True) (fun _ => False) rfl rfl ?aO ?aR (fun _ _ h => h) (fun _ h => h.elim) ?aF ?aB ?aS ?aL ?_; (case aR => repeat (first | exact (Kd.C_below HR1.out HB.out) | (with_reducible refine Kd.C_alloc ?_ _) | (with_reducible refine Kd.C_drewN ?_ _) | (with_reducible refine Kd.C_drew ?_))); (case aB => exact (by repeat (first | (with_reducible first | exact HB.out | apply below_alloc | apply pw_below_drewN | apply below_drew1) | exact HB.out))); (case aF => exact (fun _ _ => trivial)); (case aO => exact (by (with_reducible repeat (first | apply Kd.R_alloc | apply Kd.R_drewN | apply Kd.R_drew)); exact HO463.out)); (case aS => exact (below_size (by repeat (first | (with_reducible first | exact HB.out | apply below_alloc | apply pw_below_drewN | apply below_drew1) | exact HB.out)))); (case aL => have := LMc9.out; omega); intro v465 w14 ho hb hg hat; rw [← Ny464.out] at ho; have n0_ := Aside0.mk (hb); have n1_ := Aside0.mk (ho); clear HB; clear HO463; have HB := n0_; have HO466 := n1_; clear n0_ n1_; clear ho hb hg hat; obtain ⟨Ao15, co15, eo15⟩ := Kd.R_slice HO466.out; subst eo15) | ((with_reducible refine gate_callee (f := 16) rfl ?_); refine goesL_ (some 24) rfl rfl Try.func16 (by kernel_rfl) rfl #[.slice Ao15 y464.length co15] rfl (by (try simp only [List.map_toArray, List.map_cons, List.map_nil]); first | done | rfl | (simp only [List.length_drop, List.length_take]; rfl)) ?_; (with_reducible refine (opts_Walk.calls k _ _ y464 t467 t470 _ ?side1 ?side2 A10.out).mono ?_); (case side1 => repeat (first | exact (Kd.R_reads' HO466.out).2.2 | (with_reducible refine Kd.C_alloc ?_ _) | (with_reducible refine Kd.C_drewN ?_ _) | (with_reducible refine Kd.C_drew ?_))); (case side2 => exact (Kd.R_reads' HO466.out).2.1); rintro e w16 ⟨v468, rfl, ho0, hb⟩; refine ⟨_, rfl, ?_⟩; have n0_ := Aside0.mk (Kd.R_below (by (with_reducible repeat (first | apply Kd.R_alloc | apply Kd.R_drewN | apply Kd.R_drew)); exact HO466.out) hb); have n1_ := Aside0.mk (Kd.V_lower (Kd.V_mono (ok' := fun k_ => some k_ ≠ (.slice Ao15 y464.length co15 : Value).ownBlock) ho0 (fun k_ hk_ => (Kd.fresh' (Kd.R_lt (by (with_reducible repeat (first | apply Kd.R_alloc | apply Kd.R_drewN | apply Kd.R_drew)); exact HO466.out)) k_ hk_))) (below_size (by repeat (first | (with_reducible first | exact HB.out | apply below_alloc | apply pw_below_drewN | apply below_drew1) | exact HB.out)))); have n2_ := Aside0.mk (below_step (by repeat (first | (with_reducible first | exact HB.out | apply below_alloc | apply pw_below_drewN | apply below_drew1) | exact HB.out)) hb); clear HO466; clear HB; have HO466 := n0_; have HO469 := n1_; have HB := n2_; clear n0_ n1_ n2_; (try clear hb); (try clear hb2); (try clear hk); (try clear hi); (try clear ho0)))
        (try simp only [Act.put, List.setIfInBounds_toArray, List.set_cons_zero, List.set_cons_succ])
        go_cut [33] (fun v33 wc => ∃ (kq : Nat) (x33_10 : Bool), v33 = .bool x33_10 ∧ Aside0 (roundhouselaw4_OptsFronts.j0 kq a2 y464 t467 t470 x33_10 = some r) ∧ Aside0 (kq ≤ k) ∧ Aside0 (Kd.R (Kd.int .u8) 5 wc w.heap.size (fun _ => True) (.slice Ao15 y464.length co15) y464) ∧ Aside0 (Kd.V k42 42 wc w.heap.size (fun k_ => some k_ ≠ ((.slice Ao15 y464.length co15) : Value).ownBlock) v468 t467) ∧ Aside0 (Below w.heap.size w wc))
        case first =>
          have H := HC11.out
          clear HC11
          by_cases c17 : t470 = 0
          · rw [if_pos c17] at H
            have c17b0 : (t470 == 0) = true := beq_iff_eq.mpr c17
            have c17b1 : (t470 != 0) = false := bne_eq_false_iff_eq.mpr c17
            clear c17
            (first | rw [c17b0] | (simp only [i64_w, i32_w]; rw [c17b0]) | skip)
            have H' := Aside0.mk H
            clear H
            obtain ⟨Ao18, co18, eo18⟩ := Kd.V_slice HO469.out
            subst eo18
            go_wp2
            go_meet
            case rel => exact ⟨_, (((t467.length : Int) == 0)), (by first | rfl | (simp; done) | (simp [*]; done)), H', ⟨by first | omega | exact Nat.le_refl _⟩, ⟨by (with_reducible repeat (first | apply Kd.R_alloc | apply Kd.R_drewN | apply Kd.R_drew)); exact HO466.out⟩, ⟨by (with_reducible repeat (first | apply Kd.V_alloc | apply Kd.V_drewN | apply Kd.V_drew)); exact HO469.out⟩, ⟨by repeat (first | (with_reducible first | exact HB.out | apply below_alloc | apply pw_below_drewN | apply below_drew1) | exact HB.out)⟩⟩
          · rw [if_neg c17] at H
            have c17b0 : (t470 == 0) = false := beq_eq_false_iff_ne.mpr c17
            have c17b1 : (t470 != 0) = true := bne_iff_ne.mpr c17
            (first | rw [c17b0] | (simp only [i64_w, i32_w]; rw [c17b0]) | skip)
            have H' := Aside0.mk H
            clear H
            go_wp2
            go_meet
            case rel => exact ⟨_, (true), (by first | rfl | (simp; done) | (simp [*]; done)), H', ⟨by first | omega | exact Nat.le_refl _⟩, ⟨by (with_reducible repeat (first | apply Kd.R_alloc | apply Kd.R_drewN | apply Kd.R_drew)); exact HO466.out⟩, ⟨by (with_reducible repeat (first | apply Kd.V_alloc | apply Kd.V_drewN | apply Kd.V_drew)); exact HO469.out⟩, ⟨by repeat (first | (with_reducible first | exact HB.out | apply below_alloc | apply pw_below_drewN | apply below_drew1) | exact HB.out)⟩⟩
        case rest =>
          clear HC11
          try clear c1
          try clear p2
          try clear c5
          try clear c6
          try clear c6b0
          try clear c6b1
          try clear c9
          try clear c11
          try clear c13
          try clear c14
          try clear c16
          try clear c17
          try clear c17b0
          try clear c17b1
          obtain ⟨kq, x33_10, rfl, HA, HJ10, HO_7, HO_8, HB⟩ := hcut
          cases kq with
          | zero => exact absurd HA.out (by simp [roundhouselaw4_OptsFronts.j0])
          | succ kj10 =>
            have H := HA.out
            clear HA
            simp only [roundhouselaw4_OptsFronts.j0] at H
            by_cases c19 : x33_10 = true
            · subst c19
              have H1 : (if t470 = 0 then (some ((y464.length : Int) == 0)) else (some true)) = some r := by rw [if_pos rfl] at H; exact H
              clear H
              have H := H1
              clear H1
              by_cases c20 : t470 = 0
              · rw [if_pos c20] at H
                have c20b0 : (t470 == 0) = true := beq_iff_eq.mpr c20
                have c20b1 : (t470 != 0) = false := bne_eq_false_iff_eq.mpr c20
                clear c20
                obtain rfl := Option.some.inj H
                go_wp2
                go_ret
                exact ⟨by first | rfl | (simp [errW_none, errW_some] <;> rfl) | (simp [*, errW_none, errW_some] <;> rfl), by repeat (first | (with_reducible first | exact HB.out | apply below_alloc | apply pw_below_drewN | apply below_drew1) | exact HB.out)⟩
              · rw [if_neg c20] at H
                have c20b0 : (t470 == 0) = false := beq_eq_false_iff_ne.mpr c20
                have c20b1 : (t470 != 0) = true := bne_iff_ne.mpr c20
                obtain rfl := Option.some.inj H
                go_wp2
                go_ret
                exact ⟨by first | rfl | (simp [errW_none, errW_some] <;> rfl) | (simp [*, errW_none, errW_some] <;> rfl), by repeat (first | (with_reducible first | exact HB.out | apply below_alloc | apply pw_below_drewN | apply below_drew1) | exact HB.out)⟩
            · replace c19 := Bool.eq_false_iff.mpr c19
              subst c19
              have H1 : ((roundhouselaw4_within.f a2 (t467.length : Int)).bind fun t471 => (if 0 ≤ t471 then (if t471 < (t467.length : Int) then (if ((rd_T42 t467 t471).f1) < 0 then (roundhouselaw4_OptsFronts.j1 kj10 y464 t467 t471 true) else (roundhouselaw4_OptsFronts.j1 kj10 y464 t467 t471 (decide (((rd_T42 t467 t471).f1) > (y464.length : Int))))) else (none)) else (none))) = some r := by rw [if_neg (show ¬ (false = true) by decide)] at H; exact H
              clear H
              have H := H1
              clear H1
              replace H := Option.bind_eq_some_iff.mp H
              obtain ⟨t471, A210, H⟩ := H
              replace H : (if 0 ≤ t471 then (if t471 < (t467.length : Int) then (if ((rd_T42 t467 t471).f1) < 0 then (roundhouselaw4_OptsFronts.j1 kj10 y464 t467 t471 true) else (roundhouselaw4_OptsFronts.j1 kj10 y464 t467 t471 (decide (((rd_T42 t467 t471).f1) > (y464.length : Int))))) else (none)) else (none)) = some r := H
              have A21 := Aside0.mk A210
              clear A210
              have HC22 := Aside0.mk H
              clear H
              obtain ⟨Ao23, co23, eo23⟩ := Kd.V_slice HO_8.out
              subst eo23
              go_upto_region 10 with (first | ((with_reducible refine gate_callee (f := 15) rfl ?_); refine goesL_ (some 44) rfl rfl Try.func15 (by kernel_rfl) rfl #[.int .i64 a2, .int .i64 (t467.length : Int)] rfl (by (try simp only [List.map_toArray, List.map_cons, List.map_nil]); first | done | rfl | (simp only [List.length_drop, List.length_take]; rfl)) ?_; (with_reducible refine (roundhouselaw4_within.calls a2 (t467.length : Int) t471 _ A21.out).mono ?_); rintro e w' ⟨rfl, ⟨nd, rfl⟩⟩; refine ⟨_, rfl, ?_⟩))
              (try simp only [Act.put, List.setIfInBounds_toArray, List.set_cons_zero, List.set_cons_succ])
              go_cut [60] (fun v60 wc => ∃ (kq : Nat) (x60_21 : Bool), v60 = .bool x60_21 ∧ Aside0 (roundhouselaw4_OptsFronts.j1 kq y464 t467 t471 x60_21 = some r) ∧ Aside0 (kq ≤ kj10) ∧ Aside0 (Kd.R (Kd.int .u8) 5 wc w.heap.size (fun _ => True) (.slice Ao15 y464.length co15) y464) ∧ Aside0 (Kd.V k42 42 wc w.heap.size (fun k_ => some k_ ≠ ((.slice Ao15 y464.length co15) : Value).ownBlock) (.slice Ao23 t467.length co23) t467) ∧ Aside0 (Below w.heap.size w wc))
              case first =>
                have H := HC22.out
                clear HC22
                by_cases c24 : 0 ≤ t471
                · rw [if_pos c24] at H
                  have c24b0 : decide (0 ≤ t471) = true := decide_eq_true c24
                  clear c24
                  (first | rw [c24b0] | (simp only [i64_w, i32_w]; rw [c24b0]) | skip)
                  by_cases c25 : t471 < (t467.length : Int)
                  · rw [if_pos c25] at H
                    have c25b0 : decide (t471 < (t467.length : Int)) = true := decide_eq_true c25
                    clear c25
                    by_cases c26 : ((rd_T42 t467 t471).f1) < 0
                    · rw [if_pos c26] at H
                      have c26b0 : decide (((rd_T42 t467 t471).f1) < 0) = true := decide_eq_true c26
                      clear c26
                      have H' := Aside0.mk H
                      clear H
                      have p472 : 0 ≤ (t471 : Int) := of_decide_eq_true (by first | (with_reducible assumption) | assumption)
                      have q472 : t471 < (t467.length : Int) := of_decide_eq_true (by first | (with_reducible assumption) | assumption)
                      obtain ⟨ad472, e472, hx472_0, hx472_1, hx472_2⟩ := at_T42 (Kd.V_reads' HO_8.out).2.2 t471 p472 q472
                      cases e472
                      replace p472 := eq_true p472
                      replace q472 := eq_true q472
                      go_wp2
                      go_meet
                      case rel => exact ⟨_, (true), (by first | rfl | (simp; done) | (simp [*]; done)), H', ⟨by have := HJ10.out; first | omega | exact Nat.le_refl _⟩, ⟨by (with_reducible repeat (first | apply Kd.R_alloc | apply Kd.R_drewN | apply Kd.R_drew)); exact HO_7.out⟩, ⟨by (with_reducible repeat (first | apply Kd.V_alloc | apply Kd.V_drewN | apply Kd.V_drew)); exact HO_8.out⟩, ⟨by repeat (first | (with_reducible first | exact HB.out | apply below_alloc | apply pw_below_drewN | apply below_drew1) | exact HB.out)⟩⟩
                    · rw [if_neg c26] at H
                      have c26b0 : decide (((rd_T42 t467 t471).f1) < 0) = false := decide_eq_false c26
                      clear c26
                      have H' := Aside0.mk H
                      clear H
                      have p472 : 0 ≤ (t471 : Int) := of_decide_eq_true (by first | (with_reducible assumption) | assumption)
                      have q472 : t471 < (t467.length : Int) := of_decide_eq_true (by first | (with_reducible assumption) | assumption)
                      obtain ⟨ad472, e472, hx472_0, hx472_1, hx472_2⟩ := at_T42 (Kd.V_reads' HO_8.out).2.2 t471 p472 q472
                      cases e472
                      replace p472 := eq_true p472
                      replace q472 := eq_true q472
                      have p473 : 0 ≤ (t471 : Int) := of_decide_eq_true (by first | (with_reducible assumption) | assumption)
                      have q473 : t471 < (t467.length : Int) := of_decide_eq_true (by first | (with_reducible assumption) | assumption)
                      obtain ⟨ad473, e473, hx473_0, hx473_1, hx473_2⟩ := at_T42 (Kd.V_reads' HO_8.out).2.2 t471 p473 q473
                      obtain rfl : ad472 = ad473 := (by injection e473)
                      replace p473 := eq_true p473
                      replace q473 := eq_true q473
                      go_wp2
                      go_meet
                      case rel => exact ⟨_, (decide (((rd_T42 t467 t471).f1) > (y464.length : Int))), (by first | rfl | (simp; done) | (simp [*]; done)), H', ⟨by have := HJ10.out; first | omega | exact Nat.le_refl _⟩, ⟨by (with_reducible repeat (first | apply Kd.R_alloc | apply Kd.R_drewN | apply Kd.R_drew)); exact HO_7.out⟩, ⟨by (with_reducible repeat (first | apply Kd.V_alloc | apply Kd.V_drewN | apply Kd.V_drew)); exact HO_8.out⟩, ⟨by repeat (first | (with_reducible first | exact HB.out | apply below_alloc | apply pw_below_drewN | apply below_drew1) | exact HB.out)⟩⟩
                  · rw [if_neg c25] at H
                    exact absurd H (by simp)
                · rw [if_neg c24] at H
                  exact absurd H (by simp)
              case rest =>
                clear HC22
                try clear c1
                try clear c2
                try clear p2
                try clear p4
                try clear q4
                try clear hx4
                try clear c5
                try clear c6
                try clear c6b0
                try clear c6b1
                try clear c9
                try clear c11
                try clear c13
                try clear c14
                try clear c15
                try clear c16
                try clear c17
                try clear c17b0
                try clear c17b1
                try clear c19
                try clear c20
                try clear c20b0
                try clear c20b1
                try clear c24
                try clear c24b0
                try clear c25
                try clear c25b0
                try clear c26
                try clear c26b0
                try clear hx472_0
                try clear hx472_1
                try clear hx472_2
                try clear hx473_0
                try clear hx473_1
                try clear hx473_2
                try clear p2
                try clear p472
                try clear p473
                try clear q472
                try clear q473
                obtain ⟨kq, x60_21, rfl, HA, HJ21, HO_7, HO_8, HB⟩ := hcut
                cases kq with
                | zero => exact absurd HA.out (by simp [roundhouselaw4_OptsFronts.j1])
                | succ kj21 =>
                  have H := HA.out
                  clear HA
                  simp only [roundhouselaw4_OptsFronts.j1] at H
                  by_cases c27 : x60_21 = true
                  · subst c27
                    have H1 : (some false) = some r := by rw [if_pos rfl] at H; exact H
                    clear H
                    have H := H1
                    clear H1
                    obtain rfl := Option.some.inj H
                    go_wp2
                    go_ret
                    exact ⟨by first | rfl | (simp [errW_none, errW_some] <;> rfl) | (simp [*, errW_none, errW_some] <;> rfl), by repeat (first | (with_reducible first | exact HB.out | apply below_alloc | apply pw_below_drewN | apply below_drew1) | exact HB.out)⟩
                  · replace c27 := Bool.eq_false_iff.mpr c27
                    subst c27
                    have H1 : (if 0 ≤ t471 then (if t471 < (t467.length : Int) then (if 0 ≤ ((rd_T42 t467 t471).f1) then (if ((rd_T42 t467 t471).f1) ≤ (y464.length : Int) then ((opts_Walk.f kj21 (y464.take (((rd_T42 t467 t471).f1) : Int).toNat)).bind fun bt479 => (if bt479.2 = 0 then ((roundhouselaw4_as.f kj21 bt479.1).bind fun t483 => (if t471 ≤ (t467.length : Int) then ((roundhouselaw4_as.f kj21 (t467.take (t471 : Int).toNat)).bind fun t491 => ((roundhouselaw4_same.f kj21 t483 t491).bind fun t494 => (some t494))) else (none))) else (some false))) else (none)) else (none)) else (none)) else (none)) = some r := by rw [if_neg (show ¬ (false = true) by decide)] at H; exact H
                    clear H
                    have H := H1
                    clear H1
                    by_cases c28 : 0 ≤ t471
                    · rw [if_pos c28] at H
                      have c28b0 : decide (0 ≤ t471) = true := decide_eq_true c28
                      clear c28
                      by_cases c29 : t471 < (t467.length : Int)
                      · rw [if_pos c29] at H
                        have c29b0 : decide (t471 < (t467.length : Int)) = true := decide_eq_true c29
                        clear c29
                        by_cases c30 : 0 ≤ ((rd_T42 t467 t471).f1)
                        · rw [if_pos c30] at H
                          have c30b0 := eq_true c30
                          have c30b1 : decide (0 ≤ ((rd_T42 t467 t471).f1)) = true := decide_eq_true c30
                          clear c30
                          by_cases c31 : ((rd_T42 t467 t471).f1) ≤ (y464.length : Int)
                          · rw [if_pos c31] at H
                            have c31b0 := eq_true c31
                            have c31b1 : decide (((rd_T42 t467 t471).f1) ≤ (y464.length : Int)) = true := decide_eq_true c31
                            clear c31
                            obtain ⟨y475, hy475⟩ : ∃ y_ : List Int, y_ = (y464.take (((rd_T42 t467 t471).f1) : Int).toNat) := ⟨_, rfl⟩
                            replace H : ((opts_Walk.f kj21 y475).bind fun bt479 => (if bt479.2 = 0 then ((roundhouselaw4_as.f kj21 bt479.1).bind fun t483 => (if t471 ≤ (t467.length : Int) then ((roundhouselaw4_as.f kj21 (t467.take (t471 : Int).toNat)).bind fun t491 => ((roundhouselaw4_same.f kj21 t483 t491).bind fun t494 => (some t494))) else (none))) else (some false))) = some r := by first | (rw [hy475]; with_reducible exact H) | (have H2_ := (Option.bind_some _ _).symm.trans H; rw [hy475]; with_reducible exact H2_) | (have H2_ := (Option.bind_some _ _).symm.trans H; with_reducible exact H2_) | with_reducible exact H | (rw [hy475]; exact H) | exact H
                            have Ny475 := Aside0.mk hy475
                            clear hy475
                            replace H := Option.bind_eq_some_iff.mp H
                            obtain ⟨⟨t479, t482⟩, A320, H⟩ := H
                            replace H : (if t482 = 0 then ((roundhouselaw4_as.f kj21 t479).bind fun t483 => (if t471 ≤ (t467.length : Int) then ((roundhouselaw4_as.f kj21 (t467.take (t471 : Int).toNat)).bind fun t491 => ((roundhouselaw4_same.f kj21 t483 t491).bind fun t494 => (some t494))) else (none))) else (some false)) = some r := H
                            have A32 := Aside0.mk A320
                            clear A320
                            by_cases c33 : t482 = 0
                            · rw [if_pos c33] at H
                              have c33b0 : (t482 == 0) = true := beq_iff_eq.mpr c33
                              have c33b1 : (t482 != 0) = false := bne_eq_false_iff_eq.mpr c33
                              clear c33
                              replace H := Option.bind_eq_some_iff.mp H
                              obtain ⟨t483, A340, H⟩ := H
                              replace H : (if t471 ≤ (t467.length : Int) then ((roundhouselaw4_as.f kj21 (t467.take (t471 : Int).toNat)).bind fun t491 => ((roundhouselaw4_same.f kj21 t483 t491).bind fun t494 => (some t494))) else (none)) = some r := H
                              have A34 := Aside0.mk A340
                              clear A340
                              have c35b0 := eq_true (of_decide_eq_true (by first | (with_reducible assumption) | assumption) : 0 ≤ t471)
                              by_cases c36 : t471 ≤ (t467.length : Int)
                              · rw [if_pos c36] at H
                                have c36b0 := eq_true c36
                                have c36b1 : decide (t471 ≤ (t467.length : Int)) = true := decide_eq_true c36
                                clear c36
                                obtain ⟨y486, hy486⟩ : ∃ y_ : List (S42), y_ = (t467.take (t471 : Int).toNat) := ⟨_, rfl⟩
                                replace H : ((roundhouselaw4_as.f kj21 y486).bind fun t491 => ((roundhouselaw4_same.f kj21 t483 t491).bind fun t494 => (some t494))) = some r := by first | (rw [hy486]; with_reducible exact H) | (have H2_ := (Option.bind_some _ _).symm.trans H; rw [hy486]; with_reducible exact H2_) | (have H2_ := (Option.bind_some _ _).symm.trans H; with_reducible exact H2_) | with_reducible exact H | (rw [hy486]; exact H) | exact H
                                have Ny486 := Aside0.mk hy486
                                clear hy486
                                replace H := Option.bind_eq_some_iff.mp H
                                obtain ⟨t491, A370, H⟩ := H
                                replace H : ((roundhouselaw4_same.f kj21 t483 t491).bind fun t494 => (some t494)) = some r := H
                                have A37 := Aside0.mk A370
                                clear A370
                                replace H := Option.bind_eq_some_iff.mp H
                                obtain ⟨t494, A380, H⟩ := H
                                replace H : (some t494) = some r := H
                                have A38 := Aside0.mk A380
                                clear A380
                                obtain rfl := Option.some.inj H
                                have p474 : 0 ≤ (t471 : Int) := of_decide_eq_true (by first | (with_reducible assumption) | assumption)
                                have q474 : t471 < (t467.length : Int) := of_decide_eq_true (by first | (with_reducible assumption) | assumption)
                                obtain ⟨ad474, e474, hx474_0, hx474_1, hx474_2⟩ := at_T42 (Kd.V_reads' HO_8.out).2.2 t471 p474 q474
                                cases e474
                                replace p474 := eq_true p474
                                replace q474 := eq_true q474
                                have q39 : (((rd_T42 t467 t471).f1) : Int) ≤ ((y464.length : Int) : Int) := of_decide_eq_true (by first | (with_reducible assumption) | assumption)
                                obtain ⟨i039, hi039, _, hsz39, _⟩ := info_parts info5
                                have hroom39 : y464.length ≤ co15 := (Kd.R_reads' HO_7.out).2.1
                                have hC39 : Kd.C (Kd.int .u8) _ Ao15 y464.length y464 := (Kd.R_reads' HO_7.out).2.2
                                have hcut39 := cut_to (P := Try.prog) 23 5 .i64 Try.underlying23 hi039 Ao15 y464.length co15 ((rd_T42 t467 t471).f1) (of_decide_eq_true (by first | (with_reducible assumption) | assumption)) q39 hroom39
                                have hr39 := Kd.C_take (m := (((rd_T42 t467 t471).f1) : Int).toNat) hC39 (by omega)
                                have hy39 : y475.length = (((rd_T42 t467 t471).f1) : Int).toNat := (by rw [Ny475.out, List.length_take]; omega)
                                rw [← Ny475.out] at hr39
                                rw [← hy39] at hcut39
                                have HR478 := Aside0.mk hr39
                                have HC478 := Aside0.mk (show y475.length ≤ co15 from by omega)
                                clear hr39 hC39 hroom39 hi039 hsz39
                                have KY39 := Aside0.mk hy39
                                clear hy39
                                have KL39 := Aside0.mk (show (((rd_T42 t467 t471).f1) : Int).toNat ≤ y464.length from by omega)
                                replace q39 := eq_true q39
                                try go_wp2_with (first | ((with_reducible refine gate_callee (f := 16) rfl ?_); refine goesL_ (some 69) rfl rfl Try.func16 (by kernel_rfl) rfl #[.slice Ao15 y475.length co15] rfl (by (try simp only [List.map_toArray, List.map_cons, List.map_nil]); first | done | rfl | (simp only [List.length_drop, List.length_take]; rfl)) ?_; (with_reducible refine (opts_Walk.calls kj21 _ _ y475 t479 t482 _ ?side1 ?side2 A32.out).mono ?_); (case side1 => repeat (first | exact (by repeat (first | (with_reducible exact HR478.out) | (with_reducible refine Kd.C_alloc ?_ _) | (with_reducible refine Kd.C_drewN ?_ _) | (with_reducible refine Kd.C_drew ?_) | exact HR478.out)) | (with_reducible refine Kd.C_alloc ?_ _) | (with_reducible refine Kd.C_drewN ?_ _) | (with_reducible refine Kd.C_drew ?_))); (case side2 => exact HC478.out); rintro e w40 ⟨v480, rfl, ho0, hb⟩; refine ⟨_, rfl, ?_⟩; have n0_ := Aside0.mk (Kd.R_below (by (with_reducible repeat (first | apply Kd.R_alloc | apply Kd.R_drewN | apply Kd.R_drew)); exact HO_7.out) hb); have n1_ := Aside0.mk (Kd.V_below (by (with_reducible repeat (first | apply Kd.V_alloc | apply Kd.V_drewN | apply Kd.V_drew)); exact HO_8.out) hb); have n2_ := Aside0.mk (Kd.V_lower (Kd.V_mono (ok' := fun k_ => some k_ ≠ (.slice Ao15 y464.length co15 : Value).ownBlock) ho0 (fun k_ hk_ => (Kd.fresh' (Kd.R_lt (by (with_reducible repeat (first | apply Kd.R_alloc | apply Kd.R_drewN | apply Kd.R_drew)); exact HO_7.out)) k_ hk_))) (below_size (by repeat (first | (with_reducible first | exact HB.out | apply below_alloc | apply pw_below_drewN | apply below_drew1) | exact HB.out)))); have n3_ := Aside0.mk (Kd.C_below (by repeat (first | (with_reducible exact HR478.out) | (with_reducible refine Kd.C_alloc ?_ _) | (with_reducible refine Kd.C_drewN ?_ _) | (with_reducible refine Kd.C_drew ?_) | exact HR478.out)) hb); have n4_ := Aside0.mk (below_step (by repeat (first | (with_reducible first | exact HB.out | apply below_alloc | apply pw_below_drewN | apply below_drew1) | exact HB.out)) hb); clear HO_7; clear HO_8; clear HR478; clear HB; have HO_7 := n0_; have HO_8 := n1_; have HO481 := n2_; have HR478 := n3_; have HB := n4_; clear n0_ n1_ n2_ n3_ n4_; (try clear hb); (try clear hb2); (try clear hk); (try clear hi); (try clear ho0)))
                                have n0_ := Aside0.mk (Kd.R_drew HO_7.out)
                                have n1_ := Aside0.mk (Kd.V_drew HO_8.out)
                                have n2_ := Aside0.mk (Kd.V_drew HO481.out)
                                have n3_ := Aside0.mk (Kd.C_drew HR478.out)
                                have n4_ := Aside0.mk (below_drew1 HB.out)
                                clear HO_7
                                clear HO_8
                                clear HO481
                                clear HR478
                                clear HB
                                have HO_7 := n0_
                                have HO_8 := n1_
                                have HO481 := n2_
                                have HR478 := n3_
                                have HB := n4_
                                clear n0_ n1_ n2_ n3_ n4_
                                have q42 : (t471 : Int) ≤ ((t467.length : Int) : Int) := of_decide_eq_true (by first | (with_reducible assumption) | assumption)
                                obtain ⟨i042, hi042, _, hsz42, _⟩ := info_parts info42
                                have hroom42 : t467.length ≤ co23 := (Kd.V_reads' HO_8.out).2.1
                                have hC42 : Kd.F k42 _ _ (some ad474) t467.length t467 := (Kd.V_at (base := w.heap.size) HO_8.out).2.2
                                have hcut42 := cut_to (P := Try.prog) 28 42 .i64 Try.underlying28 hi042 (some ad474) t467.length co23 t471 (of_decide_eq_true (by first | (with_reducible assumption) | assumption)) q42 hroom42
                                have hr42 := Kd.F_take (m := (t471 : Int).toNat) hC42 (by omega)
                                have hy42 : y486.length = (t471 : Int).toNat := (by rw [Ny486.out, List.length_take]; omega)
                                rw [← Ny486.out] at hr42
                                rw [← hy42] at hcut42
                                have HO490 := Aside0.mk (show Kd.V k42 42 _ w.heap.size _ (.slice (some ad474) y486.length co23) y486 from Kd.V_mk (by omega) hr42)
                                have HC490 := Aside0.mk (show y486.length ≤ co23 from by omega)
                                clear hr42 hC42 hroom42 hi042 hsz42
                                have KY42 := Aside0.mk hy42
                                clear hy42
                                replace q42 := eq_true q42
                                obtain ⟨Ao43, co43, eo43⟩ := Kd.V_slice HO481.out
                                (first | subst eo43 | (injection eo43 with f1_ f2_ f3_; have f4_ := f1_.symm; have f5_ := f3_.symm; clear f1_ f2_ f3_; subst f4_; subst f5_))
                                refine start_ (n := 12) (S := fun w' => True) (ds := []) #[false, false, false, false, false, false, false, false, false, false, false, false] (by kernel_rfl) rfl rfl trivial (fun hHeld => ?_); refine with_tabW roundhouselaw4_OptsFronts.tab13 roundhouselaw4_OptsFronts.bits13 (fun HT_ HW_ => ?_)
                                generalize w40.drew = w41 at HO_7 HO_8 HO481 HR478 HB HO490 hHeld ⊢
                                refine pure_ (i := 0) (N := some 72) (v := ?_) (a' := ?_) #[true, false, false, false, false, false, false, false, false, false, false, false] rfl rfl (any_of HT_.out (by kernel_rfl)) (fun _ _ _ h => h) (Or.inl ⟨by rfl, ?_⟩) ?_ ?_
                                rotate_left
                                · intro w'
                                  go_simp
                                  with_reducible rfl
                                rotate_left
                                · simp only [Act.put, List.setIfInBounds_toArray, List.set_cons_zero, List.set_cons_succ, i64_w, i32_w]
                                  rfl
                                refine pure_ (i := 1) (N := some 73) (v := ?_) (a' := ?_) #[true, true, false, false, false, false, false, false, false, false, false, false] rfl rfl (any_of HT_.out (by kernel_rfl)) (fun _ _ _ h => h) (Or.inl ⟨by rfl, ?_⟩) ?_ ?_
                                rotate_left
                                · intro w'
                                  go_simp
                                  with_reducible rfl
                                rotate_left
                                · simp only [Act.put, List.setIfInBounds_toArray, List.set_cons_zero, List.set_cons_succ, i64_w, i32_w]
                                  rfl
                                refine pure_ (i := 2) (N := some 74) (v := ?_) (a' := ?_) #[true, true, true, false, false, false, false, false, false, false, false, false] rfl rfl (any_of HT_.out (by kernel_rfl)) (fun _ _ _ h => h) (Or.inl ⟨by rfl, ?_⟩) ?_ ?_
                                rotate_left
                                · intro w'
                                  go_simp
                                  with_reducible rfl
                                rotate_left
                                · simp only [Act.put, List.setIfInBounds_toArray, List.set_cons_zero, List.set_cons_succ, i64_w, i32_w]
                                  rfl
                                refine pure_ (i := 3) (N := some 75) (v := ?_) (a' := ?_) #[true, true, true, true, false, false, false, false, false, false, false, false] rfl rfl (any_of HT_.out (by kernel_rfl)) (fun _ _ _ h => h) (Or.inl ⟨by rfl, ?_⟩) ?_ ?_
                                rotate_left
                                · intro w'
                                  go_simp
                                  with_reducible rfl
                                rotate_left
                                · simp only [Act.put, List.setIfInBounds_toArray, List.set_cons_zero, List.set_cons_succ, i64_w, i32_w]
                                  rfl
                                refine pure_ (i := 5) (N := some 77) (v := ?_) (a' := ?_) #[true, true, true, true, false, true, false, false, false, false, false, false] rfl rfl (any_of HT_.out (by kernel_rfl)) (fun _ _ _ h => h) (Or.inl ⟨by rfl, ?_⟩) ?_ ?_
                                rotate_left
                                · intro w'
                                  go_simp
                                  with_reducible rfl
                                rotate_left
                                · simp only [Act.put, List.setIfInBounds_toArray, List.set_cons_zero, List.set_cons_succ, i64_w, i32_w]
                                  rfl
                                refine pure_ (i := 6) (N := some 78) (v := ?_) (a' := ?_) #[true, true, true, true, false, true, true, false, false, false, false, false] rfl rfl (any_of HT_.out (by kernel_rfl)) (fun _ _ _ h => h) (Or.inl ⟨by rfl, ?_⟩) ?_ ?_
                                rotate_left
                                · intro w'
                                  go_simp
                                  with_reducible rfl
                                rotate_left
                                · simp only [Act.put, List.setIfInBounds_toArray, List.set_cons_zero, List.set_cons_succ, i64_w, i32_w]
                                  rfl
                                refine pure_ (i := 7) (N := some 79) (v := ?_) (a' := ?_) #[true, true, true, true, false, true, true, true, false, false, false, false] rfl rfl (any_of HT_.out (by kernel_rfl)) (fun _ _ _ h => h) (Or.inl ⟨by rfl, ?_⟩) ?_ ?_
                                rotate_left
                                · intro w'
                                  go_simp
                                  with_reducible rfl
                                rotate_left
                                · simp only [Act.put, List.setIfInBounds_toArray, List.set_cons_zero, List.set_cons_succ, i64_w, i32_w]
                                  rfl
                                refine one_ (i := 4) (N := some 76) #[true, true, true, true, true, true, true, true, false, false, false, false] rfl rfl (one_of HT_.out (by kernel_rfl)) (by decide) (fun K hK => ?_)
                                refine goes_ Try.func21 (by kernel_rfl) rfl #[.slice Ao43 t479.length co43] (by rfl) rfl rfl (by (try simp only [List.map_toArray, List.map_cons, List.map_nil]); first | done | rfl | (simp only [List.length_drop, List.length_take]; rfl)) ?_
                                with_reducible refine (roundhouselaw4_as.calls kj21 _ _ t479 t483 _ ?side1 ?side2 A34.out).mono ?_
                                (case side1 => repeat (first | exact (Kd.V_reads' HO481.out).2.2 | (with_reducible refine Kd.C_alloc ?_ _) | (with_reducible refine Kd.C_drewN ?_ _) | (with_reducible refine Kd.C_drew ?_)))
                                (case side2 => exact (Kd.V_reads' HO481.out).2.1)
                                rintro e w44 ⟨v484, rfl, ho0, hb⟩
                                refine ⟨_, rfl, ?_⟩
                                have n0_ := Aside0.mk (Kd.R_below (by (with_reducible repeat (first | apply Kd.R_alloc | apply Kd.R_drewN | apply Kd.R_drew)); exact HO_7.out) hb)
                                have n1_ := Aside0.mk (Kd.V_elder' (by (with_reducible repeat (first | apply Kd.V_alloc | apply Kd.V_drewN | apply Kd.V_drew)); exact HO_8.out) (Kd.R_base ho0) hb)
                                have n2_ := Aside0.mk (Kd.V_elder' (by (with_reducible repeat (first | apply Kd.V_alloc | apply Kd.V_drewN | apply Kd.V_drew)); exact HO481.out) (Kd.R_base ho0) hb)
                                have n3_ := Aside0.mk (Kd.V_elder' (by (with_reducible repeat (first | apply Kd.V_alloc | apply Kd.V_drewN | apply Kd.V_drew)); exact HO490.out) (Kd.R_base ho0) hb)
                                have n4_ := Aside0.mk (Kd.R_lower ho0 (below_size (by repeat (first | (with_reducible first | exact HB.out | apply below_alloc | apply pw_below_drewN | apply below_drew1) | exact HB.out))))
                                have n5_ := Aside0.mk (Kd.C_below (by repeat (first | (with_reducible exact HR478.out) | (with_reducible refine Kd.C_alloc ?_ _) | (with_reducible refine Kd.C_drewN ?_ _) | (with_reducible refine Kd.C_drew ?_) | exact HR478.out)) hb)
                                have n6_ := Aside0.mk (below_step (by repeat (first | (with_reducible first | exact HB.out | apply below_alloc | apply pw_below_drewN | apply below_drew1) | exact HB.out)) hb)
                                clear HO_7
                                clear HO_8
                                clear HO481
                                clear HO490
                                clear HR478
                                clear HB
                                have HO_7 := n0_
                                have HO_8 := n1_
                                have HO481 := n2_
                                have HO490 := n3_
                                have HO485 := n4_
                                have HR478 := n5_
                                have HB := n6_
                                clear n0_ n1_ n2_ n3_ n4_ n5_ n6_
                                (try clear hb)
                                (try clear hb2)
                                (try clear hk)
                                (try clear hi)
                                (try clear ho0)
                                refine hK.out _ _ trivial (fun hHeld => ?_)
                                clear hK K
                                refine norm_ (a' := ?_) ?_ ?_
                                rotate_left
                                · show Act.put _ (some 76) _ = _
                                  simp only [Act.put, List.setIfInBounds_toArray, List.set_cons_zero, List.set_cons_succ, i64_w, i32_w]
                                  rfl
                                refine one_ (i := 8) (N := some 80) #[true, true, true, true, true, true, true, true, true, false, false, false] rfl rfl (one_of HT_.out (by kernel_rfl)) (by decide) (fun K hK => ?_)
                                refine goes_ Try.func21 (by kernel_rfl) rfl #[.slice (some ad474) y486.length co23] (by rfl) rfl rfl (by (try simp only [List.map_toArray, List.map_cons, List.map_nil]); first | done | rfl | (simp only [List.length_drop, List.length_take]; rfl)) ?_
                                with_reducible refine (roundhouselaw4_as.calls kj21 _ _ y486 t491 _ ?side1 ?side2 A37.out).mono ?_
                                (case side1 => repeat (first | exact (Kd.V_reads' HO490.out).2.2 | (with_reducible refine Kd.C_alloc ?_ _) | (with_reducible refine Kd.C_drewN ?_ _) | (with_reducible refine Kd.C_drew ?_)))
                                (case side2 => exact (Kd.V_reads' HO490.out).2.1)
                                rintro e w45 ⟨v492, rfl, ho0, hb⟩
                                refine ⟨_, rfl, ?_⟩
                                have n0_ := Aside0.mk (Kd.R_below (by (with_reducible repeat (first | apply Kd.R_alloc | apply Kd.R_drewN | apply Kd.R_drew)); exact HO_7.out) hb)
                                have n1_ := Aside0.mk (Kd.V_elder' (by (with_reducible repeat (first | apply Kd.V_alloc | apply Kd.V_drewN | apply Kd.V_drew)); exact HO_8.out) (Kd.R_base ho0) hb)
                                have n2_ := Aside0.mk (Kd.V_elder' (by (with_reducible repeat (first | apply Kd.V_alloc | apply Kd.V_drewN | apply Kd.V_drew)); exact HO481.out) (Kd.R_base ho0) hb)
                                have n3_ := Aside0.mk (Kd.V_elder' (by (with_reducible repeat (first | apply Kd.V_alloc | apply Kd.V_drewN | apply Kd.V_drew)); exact HO490.out) (Kd.R_base ho0) hb)
                                have n4_ := Aside0.mk (Kd.R_elder' (by (with_reducible repeat (first | apply Kd.R_alloc | apply Kd.R_drewN | apply Kd.R_drew)); exact HO485.out) (Kd.R_base ho0) hb)
                                have n5_ := Aside0.mk (Kd.R_lower (Kd.R_new' ho0 (Kd.R_lt (by (with_reducible repeat (first | apply Kd.R_alloc | apply Kd.R_drewN | apply Kd.R_drew)); exact HO485.out))) (below_size (by repeat (first | (with_reducible first | exact HB.out | apply below_alloc | apply pw_below_drewN | apply below_drew1) | exact HB.out))))
                                have n6_ := Aside0.mk (Kd.C_below (by repeat (first | (with_reducible exact HR478.out) | (with_reducible refine Kd.C_alloc ?_ _) | (with_reducible refine Kd.C_drewN ?_ _) | (with_reducible refine Kd.C_drew ?_) | exact HR478.out)) hb)
                                have n7_ := Aside0.mk (below_step (by repeat (first | (with_reducible first | exact HB.out | apply below_alloc | apply pw_below_drewN | apply below_drew1) | exact HB.out)) hb)
                                clear HO_7
                                clear HO_8
                                clear HO481
                                clear HO490
                                clear HO485
                                clear HR478
                                clear HB
                                have HO_7 := n0_
                                have HO_8 := n1_
                                have HO481 := n2_
                                have HO490 := n3_
                                have HO485 := n4_
                                have HO493 := n5_
                                have HR478 := n6_
                                have HB := n7_
                                clear n0_ n1_ n2_ n3_ n4_ n5_ n6_ n7_
                                (try clear hb)
                                (try clear hb2)
                                (try clear hk)
                                (try clear hi)
                                (try clear ho0)
                                obtain ⟨Ao46, co46, eo46⟩ := Kd.R_slice HO485.out
                                (first | subst eo46 | (injection eo46 with f1_ f2_ f3_; have f4_ := f1_.symm; have f5_ := f3_.symm; clear f1_ f2_ f3_; subst f4_; subst f5_))
                                obtain ⟨Ao47, co47, eo47⟩ := Kd.R_slice HO493.out
                                (first | subst eo47 | (injection eo47 with f1_ f2_ f3_; have f4_ := f1_.symm; have f5_ := f3_.symm; clear f1_ f2_ f3_; subst f4_; subst f5_))
                                refine hK.out _ _ trivial (fun hHeld => ?_)
                                clear hK K
                                refine norm_ (a' := ?_) ?_ ?_
                                rotate_left
                                · show Act.put _ (some 80) _ = _
                                  simp only [Act.put, List.setIfInBounds_toArray, List.set_cons_zero, List.set_cons_succ, i64_w, i32_w]
                                  rfl
                                refine one_ (i := 9) (N := some 81) #[true, true, true, true, true, true, true, true, true, true, false, false] rfl rfl (one_of HT_.out (by kernel_rfl)) (by decide) (fun K hK => ?_)
                                refine goes_ Try.func20 (by kernel_rfl) rfl #[.slice Ao46 t483.length co46, .slice Ao47 t491.length co47] (by rfl) rfl rfl (by (try simp only [List.map_toArray, List.map_cons, List.map_nil]); first | done | rfl | (simp only [List.length_drop, List.length_take]; rfl)) ?_
                                with_reducible refine (roundhouselaw4_same.calls kj21 _ _ t483 _ _ t491 t494 _ ?side1 ?side2 ?side3 ?side4 A38.out).mono ?_
                                (case side1 => repeat (first | exact (Kd.R_reads' HO485.out).2.2 | (with_reducible refine Kd.C_alloc ?_ _) | (with_reducible refine Kd.C_drewN ?_ _) | (with_reducible refine Kd.C_drew ?_)))
                                (case side2 => exact (Kd.R_reads' HO485.out).2.1)
                                (case side3 => repeat (first | exact (Kd.R_reads' HO493.out).2.2 | (with_reducible refine Kd.C_alloc ?_ _) | (with_reducible refine Kd.C_drewN ?_ _) | (with_reducible refine Kd.C_drew ?_)))
                                (case side4 => exact (Kd.R_reads' HO493.out).2.1)
                                rintro e w' ⟨rfl, ⟨nd, rfl⟩⟩
                                refine ⟨_, rfl, ?_⟩
                                refine hK.out _ _ trivial (fun hHeld => ?_)
                                clear hK K
                                refine norm_ (a' := ?_) ?_ ?_
                                rotate_left
                                · show Act.put _ (some 81) _ = _
                                  simp only [Act.put, List.setIfInBounds_toArray, List.set_cons_zero, List.set_cons_succ, i64_w, i32_w]
                                  rfl
                                refine pure_ (i := 10) (N := some 82) (v := ?_) (a' := ?_) #[true, true, true, true, true, true, true, true, true, true, true, false] rfl rfl (any_of HT_.out (by kernel_rfl)) (fun _ _ _ h => h) (Or.inl ⟨by rfl, ?_⟩) ?_ ?_
                                rotate_left
                                · intro w'
                                  go_simp
                                  with_reducible rfl
                                rotate_left
                                · simp only [Act.put, List.setIfInBounds_toArray, List.set_cons_zero, List.set_cons_succ, i64_w, i32_w]
                                  rfl
                                refine pure_ (i := 11) (N := some 6) (v := ?_) (a' := ?_) #[true, true, true, true, true, true, true, true, true, true, true, true] rfl rfl (any_of HT_.out (by kernel_rfl)) (fun _ _ _ h => h) (Or.inl ⟨by rfl, ?_⟩) ?_ ?_
                                rotate_left
                                · intro w'
                                  go_simp
                                  with_reducible rfl
                                rotate_left
                                · simp only [Act.put, List.setIfInBounds_toArray, List.set_cons_zero, List.set_cons_succ, i64_w, i32_w]
                                  rfl
                                refine done_ (done_of HT_.out (by kernel_rfl)) ?_
                                try go_wp2
                                go_ret
                                exact ⟨by first | rfl | (simp [errW_none, errW_some] <;> rfl) | (simp [*, errW_none, errW_some] <;> rfl), by repeat (first | (with_reducible first | exact HB.out | apply below_alloc | apply pw_below_drewN | apply below_drew1) | exact HB.out)⟩
                              · rw [if_neg c36] at H
                                exact absurd H (by simp)
                            · rw [if_neg c33] at H
                              have c33b0 : (t482 == 0) = false := beq_eq_false_iff_ne.mpr c33
                              have c33b1 : (t482 != 0) = true := bne_iff_ne.mpr c33
                              obtain rfl := Option.some.inj H
                              have p474 : 0 ≤ (t471 : Int) := of_decide_eq_true (by first | (with_reducible assumption) | assumption)
                              have q474 : t471 < (t467.length : Int) := of_decide_eq_true (by first | (with_reducible assumption) | assumption)
                              obtain ⟨ad474, e474, hx474_0, hx474_1, hx474_2⟩ := at_T42 (Kd.V_reads' HO_8.out).2.2 t471 p474 q474
                              cases e474
                              replace p474 := eq_true p474
                              replace q474 := eq_true q474
                              have q48 : (((rd_T42 t467 t471).f1) : Int) ≤ ((y464.length : Int) : Int) := of_decide_eq_true (by first | (with_reducible assumption) | assumption)
                              obtain ⟨i048, hi048, _, hsz48, _⟩ := info_parts info5
                              have hroom48 : y464.length ≤ co15 := (Kd.R_reads' HO_7.out).2.1
                              have hC48 : Kd.C (Kd.int .u8) _ Ao15 y464.length y464 := (Kd.R_reads' HO_7.out).2.2
                              have hcut48 := cut_to (P := Try.prog) 23 5 .i64 Try.underlying23 hi048 Ao15 y464.length co15 ((rd_T42 t467 t471).f1) (of_decide_eq_true (by first | (with_reducible assumption) | assumption)) q48 hroom48
                              have hr48 := Kd.C_take (m := (((rd_T42 t467 t471).f1) : Int).toNat) hC48 (by omega)
                              have hy48 : y475.length = (((rd_T42 t467 t471).f1) : Int).toNat := (by rw [Ny475.out, List.length_take]; omega)
                              rw [← Ny475.out] at hr48
                              rw [← hy48] at hcut48
                              have HR478 := Aside0.mk hr48
                              have HC478 := Aside0.mk (show y475.length ≤ co15 from by omega)
                              clear hr48 hC48 hroom48 hi048 hsz48
                              have KY48 := Aside0.mk hy48
                              clear hy48
                              have KL48 := Aside0.mk (show (((rd_T42 t467 t471).f1) : Int).toNat ≤ y464.length from by omega)
                              replace q48 := eq_true q48
                              try go_wp2_with (first | ((with_reducible refine gate_callee (f := 16) rfl ?_); refine goesL_ (some 69) rfl rfl Try.func16 (by kernel_rfl) rfl #[.slice Ao15 y475.length co15] rfl (by (try simp only [List.map_toArray, List.map_cons, List.map_nil]); first | done | rfl | (simp only [List.length_drop, List.length_take]; rfl)) ?_; (with_reducible refine (opts_Walk.calls kj21 _ _ y475 t479 t482 _ ?side1 ?side2 A32.out).mono ?_); (case side1 => repeat (first | exact (by repeat (first | (with_reducible exact HR478.out) | (with_reducible refine Kd.C_alloc ?_ _) | (with_reducible refine Kd.C_drewN ?_ _) | (with_reducible refine Kd.C_drew ?_) | exact HR478.out)) | (with_reducible refine Kd.C_alloc ?_ _) | (with_reducible refine Kd.C_drewN ?_ _) | (with_reducible refine Kd.C_drew ?_))); (case side2 => exact HC478.out); rintro e w49 ⟨v480, rfl, ho0, hb⟩; refine ⟨_, rfl, ?_⟩; have n0_ := Aside0.mk (Kd.R_below (by (with_reducible repeat (first | apply Kd.R_alloc | apply Kd.R_drewN | apply Kd.R_drew)); exact HO_7.out) hb); have n1_ := Aside0.mk (Kd.V_below (by (with_reducible repeat (first | apply Kd.V_alloc | apply Kd.V_drewN | apply Kd.V_drew)); exact HO_8.out) hb); have n2_ := Aside0.mk (Kd.V_lower (Kd.V_mono (ok' := fun k_ => some k_ ≠ (.slice Ao15 y464.length co15 : Value).ownBlock) ho0 (fun k_ hk_ => (Kd.fresh' (Kd.R_lt (by (with_reducible repeat (first | apply Kd.R_alloc | apply Kd.R_drewN | apply Kd.R_drew)); exact HO_7.out)) k_ hk_))) (below_size (by repeat (first | (with_reducible first | exact HB.out | apply below_alloc | apply pw_below_drewN | apply below_drew1) | exact HB.out)))); have n3_ := Aside0.mk (Kd.C_below (by repeat (first | (with_reducible exact HR478.out) | (with_reducible refine Kd.C_alloc ?_ _) | (with_reducible refine Kd.C_drewN ?_ _) | (with_reducible refine Kd.C_drew ?_) | exact HR478.out)) hb); have n4_ := Aside0.mk (below_step (by repeat (first | (with_reducible first | exact HB.out | apply below_alloc | apply pw_below_drewN | apply below_drew1) | exact HB.out)) hb); clear HO_7; clear HO_8; clear HR478; clear HB; have HO_7 := n0_; have HO_8 := n1_; have HO481 := n2_; have HR478 := n3_; have HB := n4_; clear n0_ n1_ n2_ n3_ n4_; (try clear hb); (try clear hb2); (try clear hk); (try clear hi); (try clear ho0)))
                              have n0_ := Aside0.mk (Kd.R_drew HO_7.out)
                              have n1_ := Aside0.mk (Kd.V_drew HO_8.out)
                              have n2_ := Aside0.mk (Kd.V_drew HO481.out)
                              have n3_ := Aside0.mk (Kd.C_drew HR478.out)
                              have n4_ := Aside0.mk (below_drew1 HB.out)
                              clear HO_7
                              clear HO_8
                              clear HO481
                              clear HR478
                              clear HB
                              have HO_7 := n0_
                              have HO_8 := n1_
                              have HO481 := n2_
                              have HR478 := n3_
                              have HB := n4_
                              clear n0_ n1_ n2_ n3_ n4_
                              refine start_ (n := 12) (S := fun w' => True) (ds := []) #[false, false, false, false, false, false, false, false, false, false, false, false] (by kernel_rfl) rfl rfl trivial (fun hHeld => ?_); refine with_tabW roundhouselaw4_OptsFronts.tab13 roundhouselaw4_OptsFronts.bits13 (fun HT_ HW_ => ?_)
                              generalize w49.drew = w50 at HO_7 HO_8 HO481 HR478 HB hHeld ⊢
                              refine pure_ (i := 0) (N := some 72) (v := ?_) (a' := ?_) #[true, false, false, false, false, false, false, false, false, false, false, false] rfl rfl (any_of HT_.out (by kernel_rfl)) (fun _ _ _ h => h) (Or.inl ⟨by rfl, ?_⟩) ?_ ?_
                              rotate_left
                              · intro w'
                                go_simp
                                with_reducible rfl
                              rotate_left
                              · simp only [Act.put, List.setIfInBounds_toArray, List.set_cons_zero, List.set_cons_succ, i64_w, i32_w]
                                rfl
                              refine pure_ (i := 1) (N := some 73) (v := ?_) (a' := ?_) #[true, true, false, false, false, false, false, false, false, false, false, false] rfl rfl (any_of HT_.out (by kernel_rfl)) (fun _ _ _ h => h) (Or.inl ⟨by rfl, ?_⟩) ?_ ?_
                              rotate_left
                              · intro w'
                                go_simp
                                with_reducible rfl
                              rotate_left
                              · simp only [Act.put, List.setIfInBounds_toArray, List.set_cons_zero, List.set_cons_succ, i64_w, i32_w]
                                rfl
                              refine pure_ (i := 2) (N := some 74) (v := ?_) (a' := ?_) #[true, true, true, false, false, false, false, false, false, false, false, false] rfl rfl (any_of HT_.out (by kernel_rfl)) (fun _ _ _ h => h) (Or.inl ⟨by rfl, ?_⟩) ?_ ?_
                              rotate_left
                              · intro w'
                                go_simp
                                with_reducible rfl
                              rotate_left
                              · simp only [Act.put, List.setIfInBounds_toArray, List.set_cons_zero, List.set_cons_succ, i64_w, i32_w]
                                rfl
                              refine pure_ (i := 3) (N := some 75) (v := undef) (a' := ?_) #[true, true, true, true, false, false, false, false, false, false, false, false] rfl rfl (any_of HT_.out (by kernel_rfl)) (fun _ _ _ h => h) (Or.inr ⟨by rfl, rfl⟩) ?_ ?_
                              rotate_left
                              · simp only [Act.put, List.setIfInBounds_toArray, List.set_cons_zero, List.set_cons_succ, i64_w, i32_w]
                                rfl
                              refine pure_ (i := 4) (N := some 76) (v := undef) (a' := ?_) #[true, true, true, true, true, false, false, false, false, false, false, false] rfl rfl (any_of HT_.out (by kernel_rfl)) (fun _ _ _ h => h) (Or.inr ⟨by rfl, rfl⟩) ?_ ?_
                              rotate_left
                              · simp only [Act.put, List.setIfInBounds_toArray, List.set_cons_zero, List.set_cons_succ, i64_w, i32_w]
                                rfl
                              refine pure_ (i := 5) (N := some 77) (v := undef) (a' := ?_) #[true, true, true, true, true, true, false, false, false, false, false, false] rfl rfl (any_of HT_.out (by kernel_rfl)) (fun _ _ _ h => h) (Or.inr ⟨by rfl, rfl⟩) ?_ ?_
                              rotate_left
                              · simp only [Act.put, List.setIfInBounds_toArray, List.set_cons_zero, List.set_cons_succ, i64_w, i32_w]
                                rfl
                              refine pure_ (i := 6) (N := some 78) (v := undef) (a' := ?_) #[true, true, true, true, true, true, true, false, false, false, false, false] rfl rfl (any_of HT_.out (by kernel_rfl)) (fun _ _ _ h => h) (Or.inr ⟨by rfl, rfl⟩) ?_ ?_
                              rotate_left
                              · simp only [Act.put, List.setIfInBounds_toArray, List.set_cons_zero, List.set_cons_succ, i64_w, i32_w]
                                rfl
                              refine pure_ (i := 7) (N := some 79) (v := undef) (a' := ?_) #[true, true, true, true, true, true, true, true, false, false, false, false] rfl rfl (any_of HT_.out (by kernel_rfl)) (fun _ _ _ h => h) (Or.inr ⟨by rfl, rfl⟩) ?_ ?_
                              rotate_left
                              · simp only [Act.put, List.setIfInBounds_toArray, List.set_cons_zero, List.set_cons_succ, i64_w, i32_w]
                                rfl
                              refine pure_ (i := 8) (N := some 80) (v := undef) (a' := ?_) #[true, true, true, true, true, true, true, true, true, false, false, false] rfl rfl (any_of HT_.out (by kernel_rfl)) (fun _ _ _ h => h) (Or.inr ⟨by rfl, rfl⟩) ?_ ?_
                              rotate_left
                              · simp only [Act.put, List.setIfInBounds_toArray, List.set_cons_zero, List.set_cons_succ, i64_w, i32_w]
                                rfl
                              refine pure_ (i := 9) (N := some 81) (v := undef) (a' := ?_) #[true, true, true, true, true, true, true, true, true, true, false, false] rfl rfl (any_of HT_.out (by kernel_rfl)) (fun _ _ _ h => h) (Or.inr ⟨by rfl, rfl⟩) ?_ ?_
                              rotate_left
                              · simp only [Act.put, List.setIfInBounds_toArray, List.set_cons_zero, List.set_cons_succ, i64_w, i32_w]
                                rfl
                              refine pure_ (i := 10) (N := some 82) (v := ?_) (a' := ?_) #[true, true, true, true, true, true, true, true, true, true, true, false] rfl rfl (any_of HT_.out (by kernel_rfl)) (fun _ _ _ h => h) (Or.inl ⟨by rfl, ?_⟩) ?_ ?_
                              rotate_left
                              · intro w'
                                go_simp
                                with_reducible rfl
                              rotate_left
                              · simp only [Act.put, List.setIfInBounds_toArray, List.set_cons_zero, List.set_cons_succ, i64_w, i32_w]
                                rfl
                              refine pure_ (i := 11) (N := some 6) (v := ?_) (a' := ?_) #[true, true, true, true, true, true, true, true, true, true, true, true] rfl rfl (any_of HT_.out (by kernel_rfl)) (fun _ _ _ h => h) (Or.inl ⟨by rfl, ?_⟩) ?_ ?_
                              rotate_left
                              · intro w'
                                go_simp
                                with_reducible rfl
                              rotate_left
                              · simp only [Act.put, List.setIfInBounds_toArray, List.set_cons_zero, List.set_cons_succ, i64_w, i32_w]
                                rfl
                              refine done_ (done_of HT_.out (by kernel_rfl)) ?_
                              try go_wp2
                              go_ret
                              exact ⟨by first | rfl | (simp [errW_none, errW_some] <;> rfl) | (simp [*, errW_none, errW_some] <;> rfl), by repeat (first | (with_reducible first | exact HB.out | apply below_alloc | apply pw_below_drewN | apply below_drew1) | exact HB.out)⟩
                          · rw [if_neg c31] at H
                            exact absurd H (by simp)
                        · rw [if_neg c30] at H
                          exact absurd H (by simp)
                      · rw [if_neg c29] at H
                        exact absurd H (by simp)
                    · rw [if_neg c28] at H
                      exact absurd H (by simp)
      · rw [if_neg c9] at H
        exact absurd H (by simp)
  · replace c5 := Bool.eq_false_iff.mpr c5
    subst c5
    have H1 : (some false) = some r := by rw [if_neg (show ¬ (false = true) by decide)] at H; exact H
    clear H
    have H := H1
    clear H1
    obtain rfl := Option.some.inj H
    go_enter Try.func11, Try.ntmps11
    go_wp2_with (first | ((with_reducible refine gate_callee (f := 13) rfl ?_); refine goesL_ (some 13) rfl rfl Try.func13 (by kernel_rfl) rfl #[] rfl (by (try simp only [List.map_toArray, List.map_cons, List.map_nil]); first | done | rfl | (simp only [List.length_drop, List.length_take]; rfl)) ?_; (with_reducible refine (roundhouselaw4_known.calls k  false _ A4.out).mono ?_); rintro e w51 ⟨rfl, hb⟩; refine ⟨_, rfl, ?_⟩; have n0_ := Aside0.mk (below_step (by repeat (first | (with_reducible first | exact HB.out | apply below_alloc | apply pw_below_drewN | apply below_drew1) | exact HB.out)) hb); clear HB; have HB := n0_; clear n0_; (try clear hb); (try clear hb2); (try clear hk); (try clear hi)))
    go_ret
    exact ⟨by first | rfl | (simp [errW_none, errW_some] <;> rfl) | (simp [*, errW_none, errW_some] <;> rfl), by repeat (first | (with_reducible first | exact HB.out | apply below_alloc | apply pw_below_drewN | apply below_drew1) | exact HB.out)⟩

/-- THE ONE PURE STATEMENT of roundhouselaw4_OptsFronts: yours. -/
def roundhouselaw4_OptsFronts.Pure : Prop := ∀ (l0 : List Int) (l1 : List Int) (a2 : Int), l0.length ≤ maxLen → l0.length * 8 ≤ 140737488351232 → (∀ x ∈ l0, (Lit.int .i64 x).wf = true) → l1.length ≤ maxLen → l1.length * 1 ≤ 140737488351232 → (∀ x ∈ l1, (Lit.int .u8 x).wf = true) → (Lit.int .i64 a2).wf = true → ∃ k, roundhouselaw4_OptsFronts.f k l0 l1 a2 = some true
theorem roundhouselaw4_OptsFronts.walk (P : roundhouselaw4_OptsFronts.Pure) (a0 : Option Addr) (len0 cap0 : Nat) (z0 : List Int) (a1 : Option Addr) (len1 cap1 : Nat) (z1 : List Int) (a2 : Int) (w : World) (w0 : (a0 = none ∧ len0 = 0 ∧ cap0 = 0 ∧ z0 = []) ∨ ∃ x, a0 = some x ∧ len0 ≤ cap0 ∧ cap0 ≤ maxLen ∧ z0.length = cap0 ∧ (∀ i, i < z0.length → w.cell? (x.add i) = some (.int .i64 (z0.getD i 0))) ∧ ∀ n ∈ z0, (Lit.int .i64 n).wf = true) (y0 : len0 * 8 ≤ 140737488351232) (w1 : (a1 = none ∧ len1 = 0 ∧ cap1 = 0 ∧ z1 = []) ∨ ∃ x, a1 = some x ∧ len1 ≤ cap1 ∧ cap1 ≤ maxLen ∧ z1.length = cap1 ∧ (∀ i, i < z1.length → w.cell? (x.add i) = some (.int .u8 (z1.getD i 0))) ∧ ∀ n ∈ z1, (Lit.int .u8 n).wf = true) (y1 : len1 * 1 ≤ 140737488351232) (w2 : (Lit.int .i64 a2).wf = true) :
    Calls Try.prog 11 #[.slice a0 len0 cap0, .slice a1 len1 cap1, .int .i64 a2] w fun e w' => e = .returned (.bool true) ∧ Below w.heap.size w w' := by
  obtain ⟨l0, rfl, hr0, hm0, hw0, hc0⟩ := ReadsInt.ofRowC w0
  obtain ⟨l1, rfl, hr1, hm1, hw1, hc1⟩ := ReadsInt.ofRowC w1
  obtain ⟨k, h⟩ := P l0 l1 a2 hm0 y0 hw0 hm1 y1 hw1 w2
  refine (roundhouselaw4_OptsFronts.calls k _ _ l0 _ _ l1 a2 true w (Kd.C_of_reads (d := (0 : Int)) (h1 := fun _ => rfl) hr0) hc0 (Kd.C_of_reads (d := (0 : Int)) (h1 := fun _ => rfl) hr1) hc1 h).mono ?_
  rintro e w' ⟨rfl, hd⟩
  exact ⟨rfl, hd⟩

end Go.Proofs.Ytjdkifdnbfmccaa.Q
