/- By a program of this session (wip/tools/myprint.py), out of the translation: for each Go function a plain Lean function, and that the call comes to what that function says; a law's row out of its plain statement. Lean checks it. -/
import Derived.Test.YtjdkifdnbfmccaaOptG
import Derived.Test.YtjdkifdnbfmccaaQ0
import Derived.Test.YtjdkifdnbfmccaaQ12
import Derived.Test.YtjdkifdnbfmccaaQ13
import Derived.Test.YtjdkifdnbfmccaaQ14
import Derived.Test.YtjdkifdnbfmccaaQ15
import Derived.Test.YtjdkifdnbfmccaaQ17
import Derived.Test.YtjdkifdnbfmccaaQ18
import Derived.Test.YtjdkifdnbfmccaaQ19
namespace Go.Proofs.Ytjdkifdnbfmccaa.Q
open Go.RowKit Go.Proofs.YtjdkifdnbfmccaaW.PrintWords Go.Proofs.YtjdkifdnbfmccaaW.PrintLast Go.Proofs.YtjdkifdnbfmccaaW.PrintMore
attribute [local go_sem] max2_int min2_int max_two min_two max_three min_three max_four min_four   -- for this text's walks alone
set_option linter.unusedVariables false
set_option linter.unusedSimpArgs false

open Go.Proofs.Ytjdkifdnbfmccaa.Own
/-! ### roundhouselaw4_OptsWalks: function 3 -/
mutual
def roundhouselaw4_OptsWalks.j0 : Nat → List Int → Int → List Int → List Int → Option (Bool)
  | 0, _, _, _, _ => none
  | k + 1, x1, x2, x9, x10 => (some (([] : List Int) : List Int)).bind fun y204 => (if y204.length + x9.length < 140737488355328 then ((some (y204 ++ x9 : List Int)).bind fun y207 => (if y207.length + x1.length < 140737488355328 then ((roundhouselaw4_within.f x2 (wrap64 ((x9.length : Int) + 1))).bind fun t213 => (if 0 ≤ t213 then (if t213 ≤ (x9.length : Int) then (roundhouselaw4_OptsWalks.l0 k (([x9, x10, x1, (y207 ++ x1), (x9.take (t213 : Int).toNat)] : List (List Int))) 0) else (none)) else (none))) else (none))) else (none))
def roundhouselaw4_OptsWalks.l0 : Nat → List (List Int) → Int → Option (Bool)
  | 0, _, _ => none
  | k + 1, x11, x12 => if x12 < (x11.length : Int) then (if 0 ≤ x12 then ((opts_Walk.f k (rd_L1 x11 x12)).bind fun bt223 => ((roundhouseref4_Walk.f k (rd_L1 x11 x12)).bind fun bt228 => ((opts_Stamp.f k (rd_L1 x11 x12)).bind fun bt233 => ((roundhouseref4_Stamp.f k (rd_L1 x11 x12)).bind fun bt238 => (if bt223.2 = bt228.2 then ((roundhouselaw4_as.f k bt223.1).bind fun t242 => ((roundhouselaw4_same.f k t242 bt228.1).bind fun t245 => (if t245 = true then (if bt233.1 = bt238.1 then (if bt233.2.1 = bt238.2.1 then (if bt233.2.2.1 = bt238.2.2.1 then (if (bt233.2.2.2 != bt238.2.2.2) = true then (some false) else (roundhouselaw4_OptsWalks.l0 k x11 (wrap64 (x12 + 1)))) else (some false)) else (some false)) else (some false)) else (some false)))) else (some false)))))) else (none)) else (some true)
end
def roundhouselaw4_OptsWalks.f (k : Nat) (l0 : List Int) (l1 : List Int) (a2 : Int) (a3 : Int) : Option (Bool) := (roundhouselaw4_known.f k).bind fun t191 => (if t191 = true then (if (l1.length : Int) > 60 then (some true) else ((roundhouselaw4_Some.f k l0).bind fun t192 => ((some (([] : List Int) : List Int)).bind fun y195 => (if y195.length + t192.length < 140737488355328 then ((some (y195 ++ t192 : List Int)).bind fun y198 => (if (y198.length : Int) > 0 then ((roundhouselaw4_within.f a2 (y198.length : Int)).bind fun t201 => (if 0 ≤ t201 then (if t201 < (y198.length : Int) then (roundhouselaw4_OptsWalks.j0 k l1 a2 t192 (y198.set (t201 : Int).toNat (((rd y198 t201) + a3) % 256))) else (none)) else (none))) else (roundhouselaw4_OptsWalks.j0 k l1 a2 t192 y198))) else (none))))) else (some false))
theorem roundhouselaw4_OptsWalks.mono_l : ∀ k, (∀ y0 y1 y2 y3, LeO (roundhouselaw4_OptsWalks.j0 k y0 y1 y2 y3) (roundhouselaw4_OptsWalks.j0 (k + 1) y0 y1 y2 y3)) ∧ (∀ y0 y1, LeO (roundhouselaw4_OptsWalks.l0 k y0 y1) (roundhouselaw4_OptsWalks.l0 (k + 1) y0 y1))
  | 0 => ⟨fun _ _ _ _ r h => by simp [roundhouselaw4_OptsWalks.j0] at h, fun _ _ r h => by simp [roundhouselaw4_OptsWalks.l0] at h⟩
  | k + 1 => by
    obtain ⟨ih0, ih1⟩ := roundhouselaw4_OptsWalks.mono_l k
    refine ⟨?_, ?_⟩
    · intro y0 y1 y2 y3
      unfold roundhouselaw4_OptsWalks.j0
      repeat' first
      | (with_reducible exact ih0 _ _ _ _)
      | (with_reducible exact ih1 _ _)
      | (with_reducible exact opts_Stamp.mono _ _)
      | (with_reducible exact opts_Walk.mono _ _)
      | (with_reducible exact roundhouselaw4_Some.mono _ _)
      | (with_reducible exact roundhouselaw4_as.mono _ _)
      | (with_reducible exact roundhouselaw4_known.mono _)
      | (with_reducible exact roundhouselaw4_same.mono _ _ _)
      | (with_reducible exact roundhouseref4_Stamp.mono _ _)
      | (with_reducible exact roundhouseref4_Walk.mono _ _)
      | (with_reducible exact LeO.refl _)
      | (with_reducible exact LeO.none _)
      | (with_reducible refine LeO.ite ?_ ?_)
      | (with_reducible refine LeO.bind ?_ (fun _ => ?_))
      | exact ih0 _ _ _ _
      | exact ih1 _ _
      | exact opts_Stamp.mono _ _
      | exact opts_Walk.mono _ _
      | exact roundhouselaw4_Some.mono _ _
      | exact roundhouselaw4_as.mono _ _
      | exact roundhouselaw4_known.mono _
      | exact roundhouselaw4_same.mono _ _ _
      | exact roundhouseref4_Stamp.mono _ _
      | exact roundhouseref4_Walk.mono _ _
      | exact LeO.none _
      | refine LeO.ite ?_ ?_
      | refine LeO.bind ?_ (fun _ => ?_)
    · intro y0 y1
      unfold roundhouselaw4_OptsWalks.l0
      repeat' first
      | (with_reducible exact ih0 _ _ _ _)
      | (with_reducible exact ih1 _ _)
      | (with_reducible exact opts_Stamp.mono _ _)
      | (with_reducible exact opts_Walk.mono _ _)
      | (with_reducible exact roundhouselaw4_Some.mono _ _)
      | (with_reducible exact roundhouselaw4_as.mono _ _)
      | (with_reducible exact roundhouselaw4_known.mono _)
      | (with_reducible exact roundhouselaw4_same.mono _ _ _)
      | (with_reducible exact roundhouseref4_Stamp.mono _ _)
      | (with_reducible exact roundhouseref4_Walk.mono _ _)
      | (with_reducible exact LeO.refl _)
      | (with_reducible exact LeO.none _)
      | (with_reducible refine LeO.ite ?_ ?_)
      | (with_reducible refine LeO.bind ?_ (fun _ => ?_))
      | exact ih0 _ _ _ _
      | exact ih1 _ _
      | exact opts_Stamp.mono _ _
      | exact opts_Walk.mono _ _
      | exact roundhouselaw4_Some.mono _ _
      | exact roundhouselaw4_as.mono _ _
      | exact roundhouselaw4_known.mono _
      | exact roundhouselaw4_same.mono _ _ _
      | exact roundhouseref4_Stamp.mono _ _
      | exact roundhouseref4_Walk.mono _ _
      | exact LeO.none _
      | refine LeO.ite ?_ ?_
      | refine LeO.bind ?_ (fun _ => ?_)
theorem roundhouselaw4_OptsWalks.mono : ∀ a0 a1 a2 a3 k, LeO (roundhouselaw4_OptsWalks.f k a0 a1 a2 a3) (roundhouselaw4_OptsWalks.f (k + 1) a0 a1 a2 a3) := by
  intro a0 a1 a2 a3 k
  obtain ⟨ih0, ih1⟩ := roundhouselaw4_OptsWalks.mono_l k
  unfold roundhouselaw4_OptsWalks.f
  repeat' first
      | (with_reducible exact ih0 _ _ _ _)
      | (with_reducible exact ih1 _ _)
      | (with_reducible exact opts_Stamp.mono _ _)
      | (with_reducible exact opts_Walk.mono _ _)
      | (with_reducible exact roundhouselaw4_Some.mono _ _)
      | (with_reducible exact roundhouselaw4_as.mono _ _)
      | (with_reducible exact roundhouselaw4_known.mono _)
      | (with_reducible exact roundhouselaw4_same.mono _ _ _)
      | (with_reducible exact roundhouseref4_Stamp.mono _ _)
      | (with_reducible exact roundhouseref4_Walk.mono _ _)
      | (with_reducible exact LeO.refl _)
      | (with_reducible exact LeO.none _)
      | (with_reducible refine LeO.ite ?_ ?_)
      | (with_reducible refine LeO.bind ?_ (fun _ => ?_))
      | exact ih0 _ _ _ _
      | exact ih1 _ _
      | exact opts_Stamp.mono _ _
      | exact opts_Walk.mono _ _
      | exact roundhouselaw4_Some.mono _ _
      | exact roundhouselaw4_as.mono _ _
      | exact roundhouselaw4_known.mono _
      | exact roundhouselaw4_same.mono _ _ _
      | exact roundhouseref4_Stamp.mono _ _
      | exact roundhouseref4_Walk.mono _ _
      | exact LeO.none _
      | refine LeO.ite ?_ ?_
      | refine LeO.bind ?_ (fun _ => ?_)
set_option maxHeartbeats 8000000 in
set_option maxRecDepth 100000 in
theorem roundhouselaw4_OptsWalks.calls (k : Nat) (A0 : Option Addr) (c0 : Nat) (l0 : List Int) (A1 : Option Addr) (c1 : Nat) (l1 : List Int) (a2 : Int) (a3 : Int) (r : Bool) (w : World) (hr0 : Kd.C (Kd.int .i64) w A0 l0.length l0) (hc0 : l0.length ≤ c0) (hr1 : Kd.C (Kd.int .u8) w A1 l1.length l1) (hc1 : l1.length ≤ c1) (h : roundhouselaw4_OptsWalks.f k l0 l1 a2 a3 = some r) (hr_ : Aside0 (r = true)) :
    Calls Try.prog 3 #[.slice A0 l0.length c0, .slice A1 l1.length c1, .int .i64 a2, .int .u8 a3] w fun e w' => e = .returned (.bool r) ∧ Below w.heap.size w w' := by
  have HR0 := Aside0.mk hr0
  have HC0 := Aside0.mk hc0
  clear hr0 hc0
  have HR1 := Aside0.mk hr1
  have HC1 := Aside0.mk hc1
  clear hr1 hc1
  have HB := Aside0.mk (Below.refl w.heap.size w)
  have H : ((roundhouselaw4_known.f k).bind fun t191 => (if t191 = true then (if (l1.length : Int) > 60 then (some true) else ((roundhouselaw4_Some.f k l0).bind fun t192 => ((some (([] : List Int) : List Int)).bind fun y195 => (if y195.length + t192.length < 140737488355328 then ((some (y195 ++ t192 : List Int)).bind fun y198 => (if (y198.length : Int) > 0 then ((roundhouselaw4_within.f a2 (y198.length : Int)).bind fun t201 => (if 0 ≤ t201 then (if t201 < (y198.length : Int) then (roundhouselaw4_OptsWalks.j0 k l1 a2 t192 (y198.set (t201 : Int).toNat (((rd y198 t201) + a3) % 256))) else (none)) else (none))) else (roundhouselaw4_OptsWalks.j0 k l1 a2 t192 y198))) else (none))))) else (some false))) = some r := h
  clear h
  replace H := Option.bind_eq_some_iff.mp H
  obtain ⟨t191, A50, H⟩ := H
  replace H : (if t191 = true then (if (l1.length : Int) > 60 then (some true) else ((roundhouselaw4_Some.f k l0).bind fun t192 => ((some (([] : List Int) : List Int)).bind fun y195 => (if y195.length + t192.length < 140737488355328 then ((some (y195 ++ t192 : List Int)).bind fun y198 => (if (y198.length : Int) > 0 then ((roundhouselaw4_within.f a2 (y198.length : Int)).bind fun t201 => (if 0 ≤ t201 then (if t201 < (y198.length : Int) then (roundhouselaw4_OptsWalks.j0 k l1 a2 t192 (y198.set (t201 : Int).toNat (((rd y198 t201) + a3) % 256))) else (none)) else (none))) else (roundhouselaw4_OptsWalks.j0 k l1 a2 t192 y198))) else (none))))) else (some false)) = some r := H
  have A5 := Aside0.mk A50
  clear A50
  by_cases c6 : t191 = true
  · subst c6
    have H1 : (if (l1.length : Int) > 60 then (some true) else ((roundhouselaw4_Some.f k l0).bind fun t192 => ((some (([] : List Int) : List Int)).bind fun y195 => (if y195.length + t192.length < 140737488355328 then ((some (y195 ++ t192 : List Int)).bind fun y198 => (if (y198.length : Int) > 0 then ((roundhouselaw4_within.f a2 (y198.length : Int)).bind fun t201 => (if 0 ≤ t201 then (if t201 < (y198.length : Int) then (roundhouselaw4_OptsWalks.j0 k l1 a2 t192 (y198.set (t201 : Int).toNat (((rd y198 t201) + a3) % 256))) else (none)) else (none))) else (roundhouselaw4_OptsWalks.j0 k l1 a2 t192 y198))) else (none))))) = some r := by rw [if_pos rfl] at H; exact H
    clear H
    have H := H1
    clear H1
    by_cases c7 : (l1.length : Int) > 60
    · rw [if_pos c7] at H
      have c7b0 : decide (60 < (l1.length : Int)) = true := decide_eq_true c7
      have c7b1 : decide (60 < l1.length) = true := decide_eq_true (by omega)
      clear c7
      obtain rfl := Option.some.inj H
      go_enter Try.func3, Try.ntmps3
      go_wp2_with (first | ((with_reducible refine gate_callee (f := 13) rfl ?_); refine goesL_ (some 25) rfl rfl Try.func13 (by kernel_rfl) rfl #[] rfl (by (try simp only [List.map_toArray, List.map_cons, List.map_nil]); first | done | rfl | (simp only [List.length_drop, List.length_take]; rfl)) ?_; (with_reducible refine (roundhouselaw4_known.calls k  true _ A5.out).mono ?_); rintro e w8 ⟨rfl, hb⟩; refine ⟨_, rfl, ?_⟩; have n0_ := Aside0.mk (below_step (by repeat (first | (with_reducible first | exact HB.out | apply below_alloc | apply pw_below_drewN | apply below_drew1) | exact HB.out)) hb); clear HB; have HB := n0_; clear n0_; (try clear hb); (try clear hb2); (try clear hk); (try clear hi)))
      go_ret
      exact ⟨by first | rfl | (simp [errW_none, errW_some] <;> rfl) | (simp [*, errW_none, errW_some] <;> rfl), by repeat (first | (with_reducible first | exact HB.out | apply below_alloc | apply pw_below_drewN | apply below_drew1) | exact HB.out)⟩
    · rw [if_neg c7] at H
      have c7b0 : decide (60 < (l1.length : Int)) = false := decide_eq_false c7
      have c7b1 : decide (60 < l1.length) = false := decide_eq_false (by omega)
      clear c7
      replace H := Option.bind_eq_some_iff.mp H
      obtain ⟨t192, A90, H⟩ := H
      replace H : ((some (([] : List Int) : List Int)).bind fun y195 => (if y195.length + t192.length < 140737488355328 then ((some (y195 ++ t192 : List Int)).bind fun y198 => (if (y198.length : Int) > 0 then ((roundhouselaw4_within.f a2 (y198.length : Int)).bind fun t201 => (if 0 ≤ t201 then (if t201 < (y198.length : Int) then (roundhouselaw4_OptsWalks.j0 k l1 a2 t192 (y198.set (t201 : Int).toNat (((rd y198 t201) + a3) % 256))) else (none)) else (none))) else (roundhouselaw4_OptsWalks.j0 k l1 a2 t192 y198))) else (none))) = some r := H
      have A9 := Aside0.mk A90
      clear A90
      obtain ⟨y195, hy195⟩ : ∃ y_ : List Int, y_ = (([] : List Int)) := ⟨_, rfl⟩
      replace H : (if y195.length + t192.length < 140737488355328 then ((some (y195 ++ t192 : List Int)).bind fun y198 => (if (y198.length : Int) > 0 then ((roundhouselaw4_within.f a2 (y198.length : Int)).bind fun t201 => (if 0 ≤ t201 then (if t201 < (y198.length : Int) then (roundhouselaw4_OptsWalks.j0 k l1 a2 t192 (y198.set (t201 : Int).toNat (((rd y198 t201) + a3) % 256))) else (none)) else (none))) else (roundhouselaw4_OptsWalks.j0 k l1 a2 t192 y198))) else (none)) = some r := by first | (rw [hy195]; with_reducible exact H) | (have H2_ := (Option.bind_some _ _).symm.trans H; rw [hy195]; with_reducible exact H2_) | (have H2_ := (Option.bind_some _ _).symm.trans H; with_reducible exact H2_) | with_reducible exact H | (rw [hy195]; exact H) | exact H
      have Ny195 := Aside0.mk hy195
      clear hy195
      by_cases c10 : y195.length + t192.length < 140737488355328
      · rw [if_pos c10] at H
        have LMc10 := Aside0.mk c10
        clear c10
        obtain ⟨y198, hy198⟩ : ∃ y_ : List Int, y_ = (y195 ++ t192) := ⟨_, rfl⟩
        replace H : (if (y198.length : Int) > 0 then ((roundhouselaw4_within.f a2 (y198.length : Int)).bind fun t201 => (if 0 ≤ t201 then (if t201 < (y198.length : Int) then (roundhouselaw4_OptsWalks.j0 k l1 a2 t192 (y198.set (t201 : Int).toNat (((rd y198 t201) + a3) % 256))) else (none)) else (none))) else (roundhouselaw4_OptsWalks.j0 k l1 a2 t192 y198)) = some r := by first | (rw [hy198]; with_reducible exact H) | (have H2_ := (Option.bind_some _ _).symm.trans H; rw [hy198]; with_reducible exact H2_) | (have H2_ := (Option.bind_some _ _).symm.trans H; with_reducible exact H2_) | with_reducible exact H | (rw [hy198]; exact H) | exact H
        have Ny198 := Aside0.mk hy198
        clear hy198
        have HC11 := Aside0.mk H
        clear H
        go_enter Try.func3, Try.ntmps3
        go_upto_if 37 with (first | ((with_reducible refine gate_callee (f := 13) rfl ?_); refine goesL_ (some 25) rfl rfl Try.func13 (by kernel_rfl) rfl #[] rfl (by (try simp only [List.map_toArray, List.map_cons, List.map_nil]); first | done | rfl | (simp only [List.length_drop, List.length_take]; rfl)) ?_; (with_reducible refine (roundhouselaw4_known.calls k  true _ A5.out).mono ?_); rintro e w12 ⟨rfl, hb⟩; refine ⟨_, rfl, ?_⟩; have n0_ := Aside0.mk (below_step (by repeat (first | (with_reducible first | exact HB.out | apply below_alloc | apply pw_below_drewN | apply below_drew1) | exact HB.out)) hb); clear HB; have HB := n0_; clear n0_; (try clear hb); (try clear hb2); (try clear hk); (try clear hi)) | ((with_reducible refine gate_callee (f := 14) rfl ?_); refine goesL_ (some 31) rfl rfl Try.func14 (by kernel_rfl) rfl #[.slice A0 l0.length c0] rfl (by (try simp only [List.map_toArray, List.map_cons, List.map_nil]); first | done | rfl | (simp only [List.length_drop, List.length_take]; rfl)) ?_; (with_reducible refine (roundhouselaw4_Some.calls k _ _ l0 t192 _ ?side1 ?side2 A9.out).mono ?_); (case side1 => repeat (first | exact (Kd.C_below HR0.out HB.out) | (with_reducible refine Kd.C_alloc ?_ _) | (with_reducible refine Kd.C_drewN ?_ _) | (with_reducible refine Kd.C_drew ?_))); (case side2 => exact HC0.out); rintro e w13 ⟨v193, rfl, ho0, hb⟩; refine ⟨_, rfl, ?_⟩; have n0_ := Aside0.mk (Kd.R_lower ho0 (below_size (by repeat (first | (with_reducible first | exact HB.out | apply below_alloc | apply pw_below_drewN | apply below_drew1) | exact HB.out)))); have n1_ := Aside0.mk (below_step (by repeat (first | (with_reducible first | exact HB.out | apply below_alloc | apply pw_below_drewN | apply below_drew1) | exact HB.out)) hb); clear HB; have HO194 := n0_; have HB := n1_; clear n0_ n1_; (try clear hb); (try clear hb2); (try clear hk); (try clear hi); (try clear ho0)) | ((with_reducible refine gate_dst (N := 32) rfl ?_); refine Kd.R_lit (Kd.int .u8) _ 5 ?hg (N := 32) ?hd (xs := ([] : List Int)) (inner := []) (ok := fun _ => True) (okp := fun _ => True) ?hr ?hp (fun _ hk => hk) trivial (Below.refl _ _) (Nat.le_refl _) (by simp) ?_; (case hd => rfl); (case hg => rfl); (case hr => first | (go_simp; done) | (go_simp; rfl)); (case hp => exact (Reps.none _ _)); intro v196 w14 ho15 hb hg_ hnew_; clear hg_ hnew_; (first | rw [← Ny195.out] at ho15 | (simp only [Int.reduceToNat] at ho15; rw [← Ny195.out] at ho15)); have n0_ := Aside0.mk (Kd.R_elder' (by (with_reducible repeat (first | apply Kd.R_alloc | apply Kd.R_drewN | apply Kd.R_drew)); exact HO194.out) (Kd.R_base ho15) hb); have n1_ := Aside0.mk (Kd.R_lower (Kd.R_new' ho15 (Kd.R_lt (by (with_reducible repeat (first | apply Kd.R_alloc | apply Kd.R_drewN | apply Kd.R_drew)); exact HO194.out))) (below_size (by repeat (first | (with_reducible first | exact HB.out | apply below_alloc | apply pw_below_drewN | apply below_drew1) | exact HB.out)))); have n2_ := Aside0.mk (below_step (by repeat (first | (with_reducible first | exact HB.out | apply below_alloc | apply pw_below_drewN | apply below_drew1) | exact HB.out)) hb); clear HO194; clear HB; have HO194 := n0_; have HO197 := n1_; have HB := n2_; clear n0_ n1_ n2_; clear hb ho15; obtain ⟨Ao17, co17, eo17⟩ := Kd.R_slice HO194.out; subst eo17) | ((with_reducible refine gate_builtin (b := .append) (xs := #[.tmp 32, .tmp 33]) rfl ?_); at_builtin; refine Kd.R_append_rows (Kd.int .u8) (w0 := w) w.heap.size rfl (.tmp 32) (.tmp 33) 23 5 (.int .u8 0) 1 rfl Try.underlying23 info5 rfl (by decide) (by omega) v196 y195 t192 _ _ _ (fun k_ => some k_ ≠ (.slice Ao17 t192.length co17 : Value).ownBlock) (fun _ => False) rfl rfl ?aO ?aR (fun _ _ h => h) (fun _ h => h.elim) ?aF ?aB ?aS ?aL ?_; (case aR => repeat (first | exact (Kd.R_reads' HO194.out).2.2 | (with_reducible refine Kd.C_alloc ?_ _) | (with_reducible refine Kd.C_drewN ?_ _) | (with_reducible refine Kd.C_drew ?_))); (case aB => exact (by repeat (first | (with_reducible first | exact HB.out | apply below_alloc | apply pw_below_drewN | apply below_drew1) | exact HB.out))); (case aF => exact (fun k_ hk => Kd.fresh' (Kd.R_lt (by (with_reducible repeat (first | apply Kd.R_alloc | apply Kd.R_drewN | apply Kd.R_drew)); exact HO194.out)) k_ hk)); (case aO => exact (by (with_reducible repeat (first | apply Kd.R_alloc | apply Kd.R_drewN | apply Kd.R_drew)); exact Kd.R_mono HO197.out (fun _ hk => hk.2))); (case aS => exact (below_size (by repeat (first | (with_reducible first | exact HB.out | apply below_alloc | apply pw_below_drewN | apply below_drew1) | exact HB.out)))); (case aL => have := LMc10.out; omega); intro v199 w16 ho hb hg hat; rw [← Ny198.out] at ho; have n0_ := Aside0.mk (Kd.R_after (ok := (fun _ => True)) (by (with_reducible repeat (first | apply Kd.R_alloc | apply Kd.R_drewN | apply Kd.R_drew)); exact HO194.out) hg hat); have n1_ := Aside0.mk (hb); have n2_ := Aside0.mk (ho); clear HO194; clear HB; clear HO197; have HO194 := n0_; have HB := n1_; have HO200 := n2_; clear n0_ n1_ n2_; clear ho hb hg hat; obtain ⟨Ao18, co18, eo18⟩ := Kd.R_slice HO200.out; subst eo18))
        (try simp only [Act.put, List.setIfInBounds_toArray, List.set_cons_zero, List.set_cons_succ])
        go_cut [] (fun wc => ∃ (kq : Nat) (x10_10 : List Int), Aside0 (roundhouselaw4_OptsWalks.j0 kq l1 a2 t192 x10_10 = some r) ∧ Aside0 (kq ≤ k) ∧ Aside0 (Kd.R (Kd.int .u8) 5 wc w.heap.size (fun k_ => some k_ ≠ ((.slice Ao18 y198.length co18) : Value).ownBlock) (.slice Ao17 t192.length co17) t192) ∧ Aside0 (Kd.R (Kd.int .u8) 5 wc w.heap.size (fun k_ => some k_ ≠ ((.slice Ao17 t192.length co17) : Value).ownBlock) (.slice Ao18 y198.length co18) x10_10) ∧ Aside0 (Below w.heap.size w wc))
        case first =>
          have H := HC11.out
          clear HC11
          by_cases c19 : (y198.length : Int) > 0
          · rw [if_pos c19] at H
            have c19b0 : decide (0 < (y198.length : Int)) = true := decide_eq_true c19
            have c19b1 : decide (0 < y198.length) = true := decide_eq_true (by omega)
            clear c19
            (first | rw [c19b0] | rw [c19b1] | (simp only [i64_w, i32_w]; rw [c19b0]) | skip)
            replace H := Option.bind_eq_some_iff.mp H
            obtain ⟨t201, A200, H⟩ := H
            replace H : (if 0 ≤ t201 then (if t201 < (y198.length : Int) then (roundhouselaw4_OptsWalks.j0 k l1 a2 t192 (y198.set (t201 : Int).toNat (((rd y198 t201) + a3) % 256))) else (none)) else (none)) = some r := H
            have A20 := Aside0.mk A200
            clear A200
            by_cases c21 : 0 ≤ t201
            · rw [if_pos c21] at H
              have c21b0 : decide (0 ≤ t201) = true := decide_eq_true c21
              clear c21
              by_cases c22 : t201 < (y198.length : Int)
              · rw [if_pos c22] at H
                have c22b0 : decide (t201 < (y198.length : Int)) = true := decide_eq_true c22
                clear c22
                obtain ⟨y203, hy203⟩ : ∃ y_ : List Int, y_ = (y198.set (t201 : Int).toNat (((rd y198 t201) + a3) % 256)) := ⟨_, rfl⟩
                replace H : (roundhouselaw4_OptsWalks.j0 k l1 a2 t192 y203) = some r := by first | (rw [hy203]; with_reducible exact H) | (have H2_ := (Option.bind_some _ _).symm.trans H; rw [hy203]; with_reducible exact H2_) | (have H2_ := (Option.bind_some _ _).symm.trans H; with_reducible exact H2_) | with_reducible exact H | (rw [hy203]; exact H) | exact H
                have Ny203 := Aside0.mk hy203
                clear hy203
                have H' := Aside0.mk H
                clear H
                go_wp2_with (first | ((with_reducible refine gate_callee (f := 15) rfl ?_); refine goesL_ (some 42) rfl rfl Try.func15 (by kernel_rfl) rfl #[.int .i64 a2, .int .i64 (y198.length : Int)] rfl (by (try simp only [List.map_toArray, List.map_cons, List.map_nil]); first | done | rfl | (simp only [List.length_drop, List.length_take]; rfl)) ?_; (with_reducible refine (roundhouselaw4_within.calls a2 (y198.length : Int) t201 _ A20.out).mono ?_); rintro e w' ⟨rfl, ⟨nd, rfl⟩⟩; refine ⟨_, rfl, ?_⟩; (try (rw [drewN_self w16]; generalize hq_ : World.drewN w16 _ = w16; have n0_ : Aside0 (Kd.R (Kd.int .u8) 5 w16 w.heap.size (fun k_ => some k_ ≠ (.slice Ao18 y198.length co18 : Value).ownBlock) (.slice Ao17 t192.length co17) t192) := ⟨by rw [← hq_]; exact (by (with_reducible repeat (first | apply Kd.R_alloc | apply Kd.R_drewN | apply Kd.R_drew)); exact Kd.R_mono HO194.out (fun _ hk => hk.2))⟩; have n1_ : Aside0 (Kd.R (Kd.int .u8) 5 w16 w.heap.size (fun k_ => some k_ ≠ (.slice Ao17 t192.length co17 : Value).ownBlock) (.slice Ao18 y198.length co18) y198) := ⟨by rw [← hq_]; exact (by (with_reducible repeat (first | apply Kd.R_alloc | apply Kd.R_drewN | apply Kd.R_drew)); exact HO200.out)⟩; have n2_ : Aside0 (Below w.heap.size w w16) := ⟨by rw [← hq_]; exact (by repeat (first | (with_reducible first | exact HB.out | apply below_alloc | apply pw_below_drewN | apply below_drew1) | exact HB.out))⟩; clear HO194 HO200 HB hq_; have HO194 := n0_; have HO200 := n1_; have HB := n2_; clear n0_ n1_ n2_)); have p202 : 0 ≤ (t201 : Int) := of_decide_eq_true (by first | (with_reducible assumption) | assumption); have q202 : t201 < (y198.length : Int) := of_decide_eq_true (by first | (with_reducible assumption) | assumption); obtain ⟨ad202, e202, hx202_0⟩ := Kd.at_int (Kd.R_reads' HO200.out).2.2 t201 p202 q202; cases e202; replace p202 := eq_true p202; replace q202 := eq_true q202; have p23 : 0 ≤ (t201 : Int) := of_decide_eq_true (by first | (with_reducible assumption) | assumption); have q23 : (t201 : Int) < ((y198.length : Int) : Int) := of_decide_eq_true (by first | (with_reducible assumption) | assumption); obtain ⟨go23, co23, eo23, gb23, gl23, cl23, HG23⟩ := Kd.R_form HO200.out (by omega); (first | cases eo23 | (injection eo23 with ea_ en_ ec_; (first | subst ea_ | (injection ea_ with ea_; subst ea_)); subst ec_; clear en_)); have GB23 := Aside0.mk gb23; have GG23 := Aside0.mk HG23; clear gb23 gl23 HG23; (first | simp only [add_plain] at hx202_0 | skip); obtain ⟨hx23_0, hf23_0⟩ := Kd.R_celln 0 HO200.out (t201 : Int) p23 q23; replace p23 := eq_true p23; replace q23 := eq_true q23; obtain ⟨hy24_, hz24_⟩ := Kd.R_celln 0 HO200.out (t201 : Int) (of_decide_eq_true (by first | (with_reducible assumption) | assumption)) (of_decide_eq_true (by first | (with_reducible assumption) | assumption)); have HP24 := Kd.R_putg HO200.out (t201 : Int) (((rd y198 t201) + a3) % 256)) | ((with_reducible refine gate_store (t := 5) (p := 47) rfl ?_); refine store_event (t := 5) (p := 47) (v := ?vo_w25) (w1 := (w16.setCell ⟨go23, (t201 : Int).toNat, none⟩ (.int .u8 (((rd y198 t201) + a3) % 256)))) ?hg ?ho ?hn ?hr ?_; (case ho => rfl); (case hg => rfl); (case hn => rfl); (case hr => first | (go_simp; done) | (go_simp; rfl)); intro w25 hw; have hg : w16.grownBy w25 (some go23) := (by rw [hw]; exact HP24.2); have hp_ : Kd.R (Kd.int .u8) 5 w25 w.heap.size (fun k_ => some k_ ≠ (.slice Ao17 t192.length co17 : Value).ownBlock) (.slice (some ⟨go23, 0, none⟩) y198.length co18) y203 := (by rw [hw, Ny203.out]; exact HP24.1); clear HP24; have n0_ := Aside0.mk (Kd.R_after (v := (.slice (some ⟨go23, 0, none⟩) y198.length co18)) (v1 := (.slice (some ⟨go23, 0, none⟩) y198.length co18)) (ok := (fun _ => True)) (by (with_reducible repeat (first | apply Kd.R_alloc | apply Kd.R_drewN | apply Kd.R_drew)); first | exact HO194.out | exact Kd.R_mono HO194.out (fun _ hk => ⟨trivial, hk⟩)) hg (.inl rfl)); have n1_ := Aside0.mk (hp_); have n2_ := Aside0.mk ((by rw [hw]; exact below_set (HB.out) GB23.out : Below w.heap.size w w25)); clear HO194; clear HO200; clear HB; have HO194 := n0_; have HO200 := n1_; have HB := n2_; clear n0_ n1_ n2_; clear hg hw hp_))
                go_meet
                case rel => exact ⟨_, (y203), H', ⟨by first | omega | exact Nat.le_refl _⟩, ⟨by (with_reducible repeat (first | apply Kd.R_alloc | apply Kd.R_drewN | apply Kd.R_drew)); exact Kd.R_mono HO194.out (fun _ hk => hk.2)⟩, ⟨by (with_reducible repeat (first | apply Kd.R_alloc | apply Kd.R_drewN | apply Kd.R_drew)); exact HO200.out⟩, ⟨by repeat (first | (with_reducible first | exact HB.out | apply below_alloc | apply pw_below_drewN | apply below_drew1) | exact HB.out)⟩⟩
              · rw [if_neg c22] at H
                exact absurd H (by simp)
            · rw [if_neg c21] at H
              exact absurd H (by simp)
          · rw [if_neg c19] at H
            have c19b0 : decide (0 < (y198.length : Int)) = false := decide_eq_false c19
            have c19b1 : decide (0 < y198.length) = false := decide_eq_false (by omega)
            clear c19
            (first | rw [c19b0] | rw [c19b1] | (simp only [i64_w, i32_w]; rw [c19b0]) | skip)
            have H' := Aside0.mk H
            clear H
            go_wp2
            go_meet
            case rel => exact ⟨_, (y198), H', ⟨by first | omega | exact Nat.le_refl _⟩, ⟨by (with_reducible repeat (first | apply Kd.R_alloc | apply Kd.R_drewN | apply Kd.R_drew)); exact Kd.R_mono HO194.out (fun _ hk => hk.2)⟩, ⟨by (with_reducible repeat (first | apply Kd.R_alloc | apply Kd.R_drewN | apply Kd.R_drew)); exact HO200.out⟩, ⟨by repeat (first | (with_reducible first | exact HB.out | apply below_alloc | apply pw_below_drewN | apply below_drew1) | exact HB.out)⟩⟩
        case rest =>
          clear HC11
          try clear c1
          try clear c2
          try clear p2
          try clear q2
          try clear hx2
          try clear c3
          try clear c6
          try clear c7
          try clear c7b0
          try clear c7b1
          try clear c10
          try clear c13
          try clear c14
          try clear c15
          try clear c19
          try clear c19b0
          try clear c19b1
          try clear p20
          try clear q20
          try clear hx20
          try clear c21
          try clear c21b0
          try clear c22
          try clear c22b0
          try clear p23
          try clear q23
          try clear hx23
          try clear hf23
          try clear hx202_0
          try clear hx23_0
          try clear p202
          try clear p23
          try clear q202
          try clear q23
          obtain ⟨kq, x10_10, HA, HJ10, HO_9, HO_10, HB⟩ := hcut
          have hl10_10 := (Kd.R_reads' HO_10.out).1
          rw [hl10_10] at HO_10
          (try simp only [hl10_10])
          (try simp only [hl10_10] at HO_9)
          cases kq with
          | zero => exact absurd HA.out (by simp [roundhouselaw4_OptsWalks.j0])
          | succ kj10 =>
            have H := HA.out
            clear HA
            simp only [roundhouselaw4_OptsWalks.j0] at H
            obtain ⟨y204, hy204⟩ : ∃ y_ : List Int, y_ = (([] : List Int)) := ⟨_, rfl⟩
            replace H : (if y204.length + t192.length < 140737488355328 then ((some (y204 ++ t192 : List Int)).bind fun y207 => (if y207.length + l1.length < 140737488355328 then ((roundhouselaw4_within.f a2 (wrap64 ((t192.length : Int) + 1))).bind fun t213 => (if 0 ≤ t213 then (if t213 ≤ (t192.length : Int) then (roundhouselaw4_OptsWalks.l0 kj10 (([t192, x10_10, l1, (y207 ++ l1), (t192.take (t213 : Int).toNat)] : List (List Int))) 0) else (none)) else (none))) else (none))) else (none)) = some r := by first | (rw [hy204]; with_reducible exact H) | (have H2_ := (Option.bind_some _ _).symm.trans H; rw [hy204]; with_reducible exact H2_) | (have H2_ := (Option.bind_some _ _).symm.trans H; with_reducible exact H2_) | with_reducible exact H | (rw [hy204]; exact H) | exact H
            have Ny204 := Aside0.mk hy204
            clear hy204
            by_cases c26 : y204.length + t192.length < 140737488355328
            · rw [if_pos c26] at H
              have LMc26 := Aside0.mk c26
              clear c26
              obtain ⟨y207, hy207⟩ : ∃ y_ : List Int, y_ = (y204 ++ t192) := ⟨_, rfl⟩
              replace H : (if y207.length + l1.length < 140737488355328 then ((roundhouselaw4_within.f a2 (wrap64 ((t192.length : Int) + 1))).bind fun t213 => (if 0 ≤ t213 then (if t213 ≤ (t192.length : Int) then (roundhouselaw4_OptsWalks.l0 kj10 (([t192, x10_10, l1, (y207 ++ l1), (t192.take (t213 : Int).toNat)] : List (List Int))) 0) else (none)) else (none))) else (none)) = some r := by first | (rw [hy207]; with_reducible exact H) | (have H2_ := (Option.bind_some _ _).symm.trans H; rw [hy207]; with_reducible exact H2_) | (have H2_ := (Option.bind_some _ _).symm.trans H; with_reducible exact H2_) | with_reducible exact H | (rw [hy207]; exact H) | exact H
              have Ny207 := Aside0.mk hy207
              clear hy207
              by_cases c27 : y207.length + l1.length < 140737488355328
              · rw [if_pos c27] at H
                have LMc27 := Aside0.mk c27
                clear c27
                obtain ⟨y210, hy210⟩ : ∃ y_ : List Int, y_ = (y207 ++ l1) := ⟨_, rfl⟩
                replace H : ((roundhouselaw4_within.f a2 (wrap64 ((t192.length : Int) + 1))).bind fun t213 => (if 0 ≤ t213 then (if t213 ≤ (t192.length : Int) then (roundhouselaw4_OptsWalks.l0 kj10 (([t192, x10_10, l1, y210, (t192.take (t213 : Int).toNat)] : List (List Int))) 0) else (none)) else (none))) = some r := by first | (rw [hy210]; with_reducible exact H) | (have H2_ := (Option.bind_some _ _).symm.trans H; rw [hy210]; with_reducible exact H2_) | (have H2_ := (Option.bind_some _ _).symm.trans H; with_reducible exact H2_) | with_reducible exact H | (rw [hy210]; exact H) | exact H
                have Ny210 := Aside0.mk hy210
                clear hy210
                replace H := Option.bind_eq_some_iff.mp H
                obtain ⟨t213, A280, H⟩ := H
                replace H : (if 0 ≤ t213 then (if t213 ≤ (t192.length : Int) then (roundhouselaw4_OptsWalks.l0 kj10 (([t192, x10_10, l1, y210, (t192.take (t213 : Int).toNat)] : List (List Int))) 0) else (none)) else (none)) = some r := H
                have A28 := Aside0.mk A280
                clear A280
                by_cases c29 : 0 ≤ t213
                · rw [if_pos c29] at H
                  have c29b0 := eq_true c29
                  have c29b1 : decide (0 ≤ t213) = true := decide_eq_true c29
                  clear c29
                  by_cases c30 : t213 ≤ (t192.length : Int)
                  · rw [if_pos c30] at H
                    have c30b0 := eq_true c30
                    have c30b1 : decide (t213 ≤ (t192.length : Int)) = true := decide_eq_true c30
                    clear c30
                    obtain ⟨y214, hy214⟩ : ∃ y_ : List Int, y_ = (t192.take (t213 : Int).toNat) := ⟨_, rfl⟩
                    replace H : (roundhouselaw4_OptsWalks.l0 kj10 (([t192, x10_10, l1, y210, y214] : List (List Int))) 0) = some r := by first | (rw [hy214]; with_reducible exact H) | (have H2_ := (Option.bind_some _ _).symm.trans H; rw [hy214]; with_reducible exact H2_) | (have H2_ := (Option.bind_some _ _).symm.trans H; with_reducible exact H2_) | with_reducible exact H | (rw [hy214]; exact H) | exact H
                    have Ny214 := Aside0.mk hy214
                    clear hy214
                    obtain ⟨y219, hy219⟩ : ∃ y_ : List (List Int), y_ = (([t192, x10_10, l1, y210, y214] : List (List Int))) := ⟨_, rfl⟩
                    replace H : (roundhouselaw4_OptsWalks.l0 kj10 y219 0) = some r := by first | (rw [hy219]; with_reducible exact H) | (have H2_ := (Option.bind_some _ _).symm.trans H; rw [hy219]; with_reducible exact H2_) | (have H2_ := (Option.bind_some _ _).symm.trans H; with_reducible exact H2_) | with_reducible exact H | (rw [hy219]; exact H) | exact H
                    have Ny219 := Aside0.mk hy219
                    clear hy219
                    have H' := Aside0.mk H
                    clear H
                    go_wp2_with (first | ((with_reducible refine gate_dst (N := 51) rfl ?_); refine Kd.R_lit (Kd.int .u8) _ 5 ?hg (N := 51) ?hd (xs := ([] : List Int)) (inner := []) (ok := fun _ => True) (okp := fun _ => True) ?hr ?hp (fun _ hk => hk) trivial (Below.refl _ _) (Nat.le_refl _) (by simp) ?_; (case hd => rfl); (case hg => rfl); (case hr => first | (go_simp; done) | (go_simp; rfl)); (case hp => exact (Reps.none _ _)); intro v205 w31 ho32 hb hg_ hnew_; clear hg_ hnew_; (first | rw [← Ny204.out] at ho32 | (simp only [Int.reduceToNat] at ho32; rw [← Ny204.out] at ho32)); have n0_ := Aside0.mk (Kd.R_elder' (by (with_reducible repeat (first | apply Kd.R_alloc | apply Kd.R_drewN | apply Kd.R_drew)); exact HO_9.out) (Kd.R_base ho32) hb); have n1_ := Aside0.mk (Kd.R_elder' (by (with_reducible repeat (first | apply Kd.R_alloc | apply Kd.R_drewN | apply Kd.R_drew)); exact HO_10.out) (Kd.R_base ho32) hb); have n2_ := Aside0.mk (Kd.R_lower (Kd.R_new' (Kd.R_new' ho32 (Kd.R_lt (by (with_reducible repeat (first | apply Kd.R_alloc | apply Kd.R_drewN | apply Kd.R_drew)); exact HO_9.out))) (Kd.R_lt (by (with_reducible repeat (first | apply Kd.R_alloc | apply Kd.R_drewN | apply Kd.R_drew)); exact HO_10.out))) (below_size (by repeat (first | (with_reducible first | exact HB.out | apply below_alloc | apply pw_below_drewN | apply below_drew1) | exact HB.out)))); have n3_ := Aside0.mk (below_step (by repeat (first | (with_reducible first | exact HB.out | apply below_alloc | apply pw_below_drewN | apply below_drew1) | exact HB.out)) hb); clear HO_9; clear HO_10; clear HB; have HO_9 := n0_; have HO_10 := n1_; have HO206 := n2_; have HB := n3_; clear n0_ n1_ n2_ n3_; clear hb ho32) | ((with_reducible refine gate_builtin (b := .append) (xs := #[.tmp 51, .tmp 52]) rfl ?_); at_builtin; refine Kd.R_append_rows (Kd.int .u8) (w0 := w) w.heap.size rfl (.tmp 51) (.tmp 52) 23 5 (.int .u8 0) 1 rfl Try.underlying23 info5 rfl (by decide) (by omega) v205 y204 t192 _ _ _ (fun k_ => some k_ ≠ (.slice Ao17 t192.length co17 : Value).ownBlock ∧ some k_ ≠ (.slice Ao18 x10_10.length co18 : Value).ownBlock) (fun _ => False) rfl rfl ?aO ?aR (fun _ _ h => h) (fun _ h => h.elim) ?aF ?aB ?aS ?aL ?_; (case aR => repeat (first | exact (Kd.R_reads' HO_9.out).2.2 | (with_reducible refine Kd.C_alloc ?_ _) | (with_reducible refine Kd.C_drewN ?_ _) | (with_reducible refine Kd.C_drew ?_))); (case aB => exact (by repeat (first | (with_reducible first | exact HB.out | apply below_alloc | apply pw_below_drewN | apply below_drew1) | exact HB.out))); (case aF => exact (fun k_ hk => ⟨Kd.fresh' (Kd.R_lt (by (with_reducible repeat (first | apply Kd.R_alloc | apply Kd.R_drewN | apply Kd.R_drew)); exact HO_9.out)) k_ hk, Kd.fresh' (Kd.R_lt (by (with_reducible repeat (first | apply Kd.R_alloc | apply Kd.R_drewN | apply Kd.R_drew)); exact HO_10.out)) k_ hk⟩)); (case aO => exact (by (with_reducible repeat (first | apply Kd.R_alloc | apply Kd.R_drewN | apply Kd.R_drew)); exact Kd.R_mono HO206.out (fun _ hk => ⟨hk.1.2, hk.2⟩))); (case aS => exact (below_size (by repeat (first | (with_reducible first | exact HB.out | apply below_alloc | apply pw_below_drewN | apply below_drew1) | exact HB.out)))); (case aL => have := LMc26.out; omega); intro v208 w33 ho hb hg hat; rw [← Ny207.out] at ho; have n0_ := Aside0.mk (Kd.R_after (ok := (fun k_ => some k_ ≠ (.slice Ao18 x10_10.length co18 : Value).ownBlock)) (by (with_reducible repeat (first | apply Kd.R_alloc | apply Kd.R_drewN | apply Kd.R_drew)); exact HO_9.out) hg hat); have n1_ := Aside0.mk (Kd.R_after (ok := (fun k_ => some k_ ≠ (.slice Ao17 t192.length co17 : Value).ownBlock)) (by (with_reducible repeat (first | apply Kd.R_alloc | apply Kd.R_drewN | apply Kd.R_drew)); exact HO_10.out) hg hat); have n2_ := Aside0.mk (hb); have n3_ := Aside0.mk (ho); clear HO_9; clear HO_10; clear HB; clear HO206; have HO_9 := n0_; have HO_10 := n1_; have HB := n2_; have HO209 := n3_; clear n0_ n1_ n2_ n3_; clear ho hb hg hat) | ((with_reducible refine gate_builtin (b := .append) (xs := #[.tmp 53, .tmp 54]) rfl ?_); at_builtin; refine Kd.R_append_rows (Kd.int .u8) (w0 := w) w.heap.size rfl (.tmp 53) (.tmp 54) 23 5 (.int .u8 0) 1 rfl Try.underlying23 info5 rfl (by decide) (by omega) v208 y207 l1 _ _ _ (fun k_ => some k_ ≠ (.slice Ao17 t192.length co17 : Value).ownBlock ∧ some k_ ≠ (.slice Ao18 x10_10.length co18 : Value).ownBlock) (fun _ => False) rfl rfl ?aO ?aR (fun _ _ h => h) (fun _ h => h.elim) ?aF ?aB ?aS ?aL ?_; (case aR => repeat (first | exact (Kd.C_below HR1.out HB.out) | (with_reducible refine Kd.C_alloc ?_ _) | (with_reducible refine Kd.C_drewN ?_ _) | (with_reducible refine Kd.C_drew ?_))); (case aB => exact (by repeat (first | (with_reducible first | exact HB.out | apply below_alloc | apply pw_below_drewN | apply below_drew1) | exact HB.out))); (case aF => exact (fun k_ hk => ⟨Kd.fresh' (Kd.R_lt (by (with_reducible repeat (first | apply Kd.R_alloc | apply Kd.R_drewN | apply Kd.R_drew)); exact HO_9.out)) k_ hk, Kd.fresh' (Kd.R_lt (by (with_reducible repeat (first | apply Kd.R_alloc | apply Kd.R_drewN | apply Kd.R_drew)); exact HO_10.out)) k_ hk⟩)); (case aO => exact (by (with_reducible repeat (first | apply Kd.R_alloc | apply Kd.R_drewN | apply Kd.R_drew)); exact HO209.out)); (case aS => exact (below_size (by repeat (first | (with_reducible first | exact HB.out | apply below_alloc | apply pw_below_drewN | apply below_drew1) | exact HB.out)))); (case aL => have := LMc27.out; omega); intro v211 w34 ho hb hg hat; rw [← Ny210.out] at ho; have n0_ := Aside0.mk (Kd.R_after (ok := (fun k_ => some k_ ≠ (.slice Ao18 x10_10.length co18 : Value).ownBlock)) (by (with_reducible repeat (first | apply Kd.R_alloc | apply Kd.R_drewN | apply Kd.R_drew)); exact HO_9.out) hg hat); have n1_ := Aside0.mk (Kd.R_after (ok := (fun k_ => some k_ ≠ (.slice Ao17 t192.length co17 : Value).ownBlock)) (by (with_reducible repeat (first | apply Kd.R_alloc | apply Kd.R_drewN | apply Kd.R_drew)); exact HO_10.out) hg hat); have n2_ := Aside0.mk (hb); have n3_ := Aside0.mk (ho); clear HO_9; clear HO_10; clear HB; clear HO209; have HO_9 := n0_; have HO_10 := n1_; have HB := n2_; have HO212 := n3_; clear n0_ n1_ n2_ n3_; clear ho hb hg hat) | ((with_reducible refine gate_callee (f := 15) rfl ?_); refine goesL_ (some 61) rfl rfl Try.func15 (by kernel_rfl) rfl #[.int .i64 a2, .int .i64 (wrap64 ((t192.length : Int) + 1))] rfl (by (try simp only [List.map_toArray, List.map_cons, List.map_nil]); first | done | rfl | (simp only [List.length_drop, List.length_take]; rfl)) ?_; (with_reducible refine (roundhouselaw4_within.calls a2 (wrap64 ((t192.length : Int) + 1)) t213 _ A28.out).mono ?_); rintro e w' ⟨rfl, ⟨nd, rfl⟩⟩; refine ⟨_, rfl, ?_⟩; have q35 : (t213 : Int) ≤ ((t192.length : Int) : Int) := of_decide_eq_true (by first | (with_reducible assumption) | assumption); obtain ⟨i035, hi035, _, hsz35, _⟩ := info_parts info5; have hroom35 : t192.length ≤ co17 := (Kd.R_reads' HO_9.out).2.1; have hC35 : Kd.F (Kd.int .u8) _ _ Ao17 t192.length t192 := (Kd.V_at (base := w.heap.size) (Kd.R_V HO_9.out)).2.2; have hcut35 := cut_to (P := Try.prog) 23 5 .i64 Try.underlying23 hi035 Ao17 t192.length co17 t213 (of_decide_eq_true (by first | (with_reducible assumption) | assumption)) q35 hroom35; have hr35 := Kd.F_take (m := (t213 : Int).toNat) hC35 (by omega); have hy35 : y214.length = (t213 : Int).toNat := (by rw [Ny214.out, List.length_take]; omega); rw [← Ny214.out] at hr35; rw [← hy35] at hcut35; have HO218 := Aside0.mk (show Kd.V (Kd.int .u8) 5 _ w.heap.size _ (.slice Ao17 y214.length co17) y214 from Kd.V_mk (by omega) hr35); have HC218 := Aside0.mk (show y214.length ≤ co17 from by omega); clear hr35 hC35 hroom35 hi035 hsz35; have KY35 := Aside0.mk hy35; clear hy35; replace q35 := eq_true q35; obtain ⟨Ao36, co36, eo36⟩ := Kd.R_slice HO212.out; subst eo36) | ((with_reducible refine gate_dst (N := 63) rfl ?_); have hfk : Aside0 (Kd.FK (Kd.slice 5 (Kd.int .u8)) w34 (fun _ => True) l1 [.slice A1 l1.length c1]) := ⟨Kd.FK_slice_mk HC1.out (Kd.F_mono (ok' := fun _ => True) (Kd.C_F (Kd.heap_int .u8) (Kd.C_below HR1.out HB.out)) (fun _ _ => trivial))⟩; refine Kd.N_lit (Kd.slice 5 (Kd.int .u8)) _ 23 ?hg (N' := 63) ?hd (xs := ([t192, x10_10, l1, y210, y214] : List (List Int))) (inner := [.slice Ao17 t192.length co17, .slice Ao18 x10_10.length co18, .slice A1 l1.length c1, .slice Ao36 y210.length co36, .slice Ao17 y214.length co17]) (ok := (fun _ => True)) (okp := (fun _ => True)) ?hr ?hp (fun _ hk => hk) ((show ∀ k_, w34.heap.size ≤ k_ → (fun _ => True) k_ from fun k_ hk => trivial) _ (Nat.le_refl _)) (Below.refl _ _) (Nat.le_refl _) (by simp) ?_; (case hd => rfl); (case hg => rfl); (case hr => first | (go_simp; done) | (go_simp; rfl)); (case hp => have hdw := pw_below_drewN (Below.refl w34.heap.size w34) nd; exact (Reps.one (Kd.FK_below (show Kd.FK (Kd.slice 5 (Kd.int .u8)) w34 (fun _ => True) t192 [.slice Ao17 t192.length co17] from (Kd.FK_slice_mk (Kd.R_reads' (Kd.R_mono (ok' := (fun _ => True)) (HO_9.out) (fun k_ hk => trivial))).2.1 (Kd.R_F (Kd.R_mono (ok' := (fun _ => True)) (HO_9.out) (fun k_ hk => trivial))))) hdw) (Reps.one (Kd.FK_below (show Kd.FK (Kd.slice 5 (Kd.int .u8)) w34 (fun _ => True) x10_10 [.slice Ao18 x10_10.length co18] from (Kd.FK_slice_mk (Kd.R_reads' (Kd.R_mono (ok' := (fun _ => True)) (HO_10.out) (fun k_ hk => trivial))).2.1 (Kd.R_F (Kd.R_mono (ok' := (fun _ => True)) (HO_10.out) (fun k_ hk => trivial))))) hdw) (Reps.one (Kd.FK_below (show Kd.FK (Kd.slice 5 (Kd.int .u8)) w34 (fun _ => True) l1 [.slice A1 l1.length c1] from hfk.out) hdw) (Reps.one (Kd.FK_below (show Kd.FK (Kd.slice 5 (Kd.int .u8)) w34 (fun _ => True) y210 [.slice Ao36 y210.length co36] from (Kd.FK_slice_mk (Kd.R_reads' (Kd.R_mono (ok' := (fun _ => True)) (HO212.out) (fun k_ hk => trivial))).2.1 (Kd.R_F (Kd.R_mono (ok' := (fun _ => True)) (HO212.out) (fun k_ hk => trivial))))) hdw) (Reps.one (Kd.FK_below (show Kd.FK (Kd.slice 5 (Kd.int .u8)) w34 (fun _ => True) y214 [.slice Ao17 y214.length co17] from (Kd.FK_slice_mk (Kd.V_reads' (Kd.V_mono (ok' := (fun _ => True)) (HO218.out) (fun k_ hk => trivial))).2.1 (Kd.V_F (Kd.V_mono (ok' := (fun _ => True)) (HO218.out) (fun k_ hk => trivial))))) hdw) (Reps.none _ _))))))); intro v220 w37 ho38 hb hg_ hnew_; clear hg_ hnew_; (first | rw [← Ny219.out] at ho38 | (simp only [Int.reduceToNat] at ho38; rw [← Ny219.out] at ho38)); have n0_ := Aside0.mk (Kd.V_elder' (by (with_reducible repeat (first | apply Kd.V_alloc | apply Kd.V_drewN | apply Kd.V_drew)); exact HO218.out) (Kd.N_base ho38) hb); have n1_ := Aside0.mk (Kd.N_lower ho38 (below_size (by repeat (first | (with_reducible first | exact HB.out | apply below_alloc | apply pw_below_drewN | apply below_drew1) | exact HB.out)))); have n2_ := Aside0.mk (below_step (by repeat (first | (with_reducible first | exact HB.out | apply below_alloc | apply pw_below_drewN | apply below_drew1) | exact HB.out)) hb); clear HO218; clear HB; clear HO212; clear HO_10; clear HO_9; have HO218 := n0_; have HO221 := n1_; have HB := n2_; clear n0_ n1_ n2_; clear hb ho38))
                    go_loopg [12] kj10 (fun kq v12 w' => ∃ (x12_2 : Int), v12 = .int .i64 x12_2 ∧ Aside0 (roundhouselaw4_OptsWalks.l0 kq y219 x12_2 = some r) ∧ Aside0 (kq ≤ kj10) ∧ Aside0 (Kd.N (Kd.slice 5 (Kd.int .u8)) 23 w' w.heap.size (fun _ => True) v220 y219) ∧ Aside0 (Below w.heap.size w w'))
                    case atStart => exact ⟨(0), (by first | rfl | (simp; done) | (simp [*]; done)), H', ⟨Nat.le_refl _⟩, ⟨by (try simp only [hl10_10]); (with_reducible repeat (first | apply Kd.N_alloc | apply Kd.N_drewN | apply Kd.N_drew)); exact HO221.out⟩, ⟨by repeat (first | (with_reducible first | exact HB.out | apply below_alloc | apply pw_below_drewN | apply below_drew1) | exact HB.out)⟩⟩
                    case round =>
                      clear H'
                      try clear c1
                      try clear c2
                      try clear p2
                      try clear q2
                      try clear hx2
                      try clear c3
                      try clear q3
                      try clear c6
                      try clear p6
                      try clear c7
                      try clear c7b0
                      try clear c7b1
                      try clear c10
                      try clear c13
                      try clear c14
                      try clear c15
                      try clear c19
                      try clear c19b0
                      try clear c19b1
                      try clear p20
                      try clear q20
                      try clear hx20
                      try clear c21
                      try clear c21b0
                      try clear c22
                      try clear c22b0
                      try clear p23
                      try clear q23
                      try clear hx23
                      try clear hf23
                      try clear c26
                      try clear c27
                      try clear c29
                      try clear c29b0
                      try clear c29b1
                      try clear c30
                      try clear c30b0
                      try clear c30b1
                      try clear q35
                      try clear hx202_0
                      try clear hx23_0
                      try clear p2
                      try clear p20
                      try clear p202
                      try clear p23
                      try clear q2
                      try clear q20
                      try clear q202
                      try clear q23
                      try clear q35
                      obtain ⟨x12_2, rfl, HA, HK2, HO_11, HB⟩ := hrel
                      cases gk with
                      | zero => exact absurd HA.out (by simp [roundhouselaw4_OptsWalks.l0])
                      | succ k2 =>
                        have H := HA.out
                        clear HA
                        simp only [roundhouselaw4_OptsWalks.l0] at H
                        by_cases c39 : x12_2 < (y219.length : Int)
                        · rw [if_pos c39] at H
                          have c39b0 : decide (x12_2 < (y219.length : Int)) = true := decide_eq_true c39
                          clear c39
                          by_cases c40 : 0 ≤ x12_2
                          · rw [if_pos c40] at H
                            have c40b0 : decide (0 ≤ x12_2) = true := decide_eq_true c40
                            clear c40
                            replace H := Option.bind_eq_some_iff.mp H
                            obtain ⟨⟨t223, t226⟩, A410, H⟩ := H
                            replace H : ((roundhouseref4_Walk.f k2 (rd_L1 y219 x12_2)).bind fun bt228 => ((opts_Stamp.f k2 (rd_L1 y219 x12_2)).bind fun bt233 => ((roundhouseref4_Stamp.f k2 (rd_L1 y219 x12_2)).bind fun bt238 => (if t226 = bt228.2 then ((roundhouselaw4_as.f k2 t223).bind fun t242 => ((roundhouselaw4_same.f k2 t242 bt228.1).bind fun t245 => (if t245 = true then (if bt233.1 = bt238.1 then (if bt233.2.1 = bt238.2.1 then (if bt233.2.2.1 = bt238.2.2.1 then (if (bt233.2.2.2 != bt238.2.2.2) = true then (some false) else (roundhouselaw4_OptsWalks.l0 k2 y219 (wrap64 (x12_2 + 1)))) else (some false)) else (some false)) else (some false)) else (some false)))) else (some false))))) = some r := H
                            have A41 := Aside0.mk A410
                            clear A410
                            replace H := Option.bind_eq_some_iff.mp H
                            obtain ⟨⟨t228, t229⟩, A420, H⟩ := H
                            replace H : ((opts_Stamp.f k2 (rd_L1 y219 x12_2)).bind fun bt233 => ((roundhouseref4_Stamp.f k2 (rd_L1 y219 x12_2)).bind fun bt238 => (if t226 = t229 then ((roundhouselaw4_as.f k2 t223).bind fun t242 => ((roundhouselaw4_same.f k2 t242 t228).bind fun t245 => (if t245 = true then (if bt233.1 = bt238.1 then (if bt233.2.1 = bt238.2.1 then (if bt233.2.2.1 = bt238.2.2.1 then (if (bt233.2.2.2 != bt238.2.2.2) = true then (some false) else (roundhouselaw4_OptsWalks.l0 k2 y219 (wrap64 (x12_2 + 1)))) else (some false)) else (some false)) else (some false)) else (some false)))) else (some false)))) = some r := H
                            have A42 := Aside0.mk A420
                            clear A420
                            replace H := Option.bind_eq_some_iff.mp H
                            obtain ⟨⟨t233, t234, t235, t236⟩, A430, H⟩ := H
                            replace H : ((roundhouseref4_Stamp.f k2 (rd_L1 y219 x12_2)).bind fun bt238 => (if t226 = t229 then ((roundhouselaw4_as.f k2 t223).bind fun t242 => ((roundhouselaw4_same.f k2 t242 t228).bind fun t245 => (if t245 = true then (if t233 = bt238.1 then (if t234 = bt238.2.1 then (if t235 = bt238.2.2.1 then (if (t236 != bt238.2.2.2) = true then (some false) else (roundhouselaw4_OptsWalks.l0 k2 y219 (wrap64 (x12_2 + 1)))) else (some false)) else (some false)) else (some false)) else (some false)))) else (some false))) = some r := H
                            have A43 := Aside0.mk A430
                            clear A430
                            replace H := Option.bind_eq_some_iff.mp H
                            obtain ⟨⟨t238, t239, t240, t241⟩, A440, H⟩ := H
                            replace H : (if t226 = t229 then ((roundhouselaw4_as.f k2 t223).bind fun t242 => ((roundhouselaw4_same.f k2 t242 t228).bind fun t245 => (if t245 = true then (if t233 = t238 then (if t234 = t239 then (if t235 = t240 then (if (t236 != t241) = true then (some false) else (roundhouselaw4_OptsWalks.l0 k2 y219 (wrap64 (x12_2 + 1)))) else (some false)) else (some false)) else (some false)) else (some false)))) else (some false)) = some r := H
                            have A44 := Aside0.mk A440
                            clear A440
                            by_cases c45 : t226 = t229
                            · rw [if_pos c45] at H
                              have c45b0 : (t226 == t229) = true := beq_iff_eq.mpr c45
                              have c45b1 : (t226 != t229) = false := bne_eq_false_iff_eq.mpr c45
                              clear c45
                              replace H := Option.bind_eq_some_iff.mp H
                              obtain ⟨t242, A460, H⟩ := H
                              replace H : ((roundhouselaw4_same.f k2 t242 t228).bind fun t245 => (if t245 = true then (if t233 = t238 then (if t234 = t239 then (if t235 = t240 then (if (t236 != t241) = true then (some false) else (roundhouselaw4_OptsWalks.l0 k2 y219 (wrap64 (x12_2 + 1)))) else (some false)) else (some false)) else (some false)) else (some false))) = some r := H
                              have A46 := Aside0.mk A460
                              clear A460
                              replace H := Option.bind_eq_some_iff.mp H
                              obtain ⟨t245, A470, H⟩ := H
                              replace H : (if t245 = true then (if t233 = t238 then (if t234 = t239 then (if t235 = t240 then (if (t236 != t241) = true then (some false) else (roundhouselaw4_OptsWalks.l0 k2 y219 (wrap64 (x12_2 + 1)))) else (some false)) else (some false)) else (some false)) else (some false)) = some r := H
                              have A47 := Aside0.mk A470
                              clear A470
                              by_cases c48 : t245 = true
                              · subst c48
                                have H1 : (if t233 = t238 then (if t234 = t239 then (if t235 = t240 then (if (t236 != t241) = true then (some false) else (roundhouselaw4_OptsWalks.l0 k2 y219 (wrap64 (x12_2 + 1)))) else (some false)) else (some false)) else (some false)) = some r := by rw [if_pos rfl] at H; exact H
                                clear H
                                have H := H1
                                clear H1
                                by_cases c49 : t233 = t238
                                · rw [if_pos c49] at H
                                  have c49b0 : (t233 == t238) = true := beq_iff_eq.mpr c49
                                  have c49b1 : (t233 != t238) = false := bne_eq_false_iff_eq.mpr c49
                                  clear c49
                                  by_cases c50 : t234 = t239
                                  · rw [if_pos c50] at H
                                    have c50b0 : (t234 == t239) = true := beq_iff_eq.mpr c50
                                    have c50b1 : (t234 != t239) = false := bne_eq_false_iff_eq.mpr c50
                                    clear c50
                                    by_cases c51 : t235 = t240
                                    · rw [if_pos c51] at H
                                      have c51b0 : (t235 == t240) = true := beq_iff_eq.mpr c51
                                      have c51b1 : (t235 != t240) = false := bne_eq_false_iff_eq.mpr c51
                                      clear c51
                                      by_cases c52 : (t236 != t241) = true
                                      · rw [if_pos c52] at H
                                        have c52b0 : (t236 != t241) = true := c52
                                        (try (have c52b1 : decide (t236 = t241) = false := by simpa using c52))
                                        (try (have c52b2 : (t236 == t241) = false := by simpa using c52))
                                        (try (have c52b3 : ¬ (t236 = t241) := by simpa using c52))
                                        clear c52
                                        exact absurd hr_.out (by rw [← Option.some.inj H]; decide)
                                      · rw [if_neg c52] at H
                                        have c52b0 : (t236 != t241) = false := by simpa using c52
                                        (try (have c52b1 : decide (t236 = t241) = true := by simpa using c52))
                                        (try (have c52b2 : (t236 == t241) = true := by simpa using c52))
                                        clear c52
                                        have H' := Aside0.mk H
                                        clear H
                                        obtain ⟨Ao62, co62, eo62⟩ := Kd.N_slice HO_11.out
                                        subst eo62
                                        have p222 : 0 ≤ (x12_2 : Int) := of_decide_eq_true (by first | (with_reducible assumption) | assumption)
                                        have q222 : x12_2 < (y219.length : Int) := of_decide_eq_true (by first | (with_reducible assumption) | assumption)
                                        obtain ⟨ad222, A222_0, c222_0, e222, hx222_0, hl222_0, hi222_0⟩ := at_L1 (Kd.N_reads' HO_11.out).2.2 x12_2 p222 q222
                                        cases e222
                                        obtain ⟨ce222, hce222, hMe222, hcc222⟩ := Kd.N_get HO_11.out [] x12_2 p222 (by first | exact q222 | exact of_decide_eq_true (by first | (with_reducible assumption) | assumption) | (have e_ := (Kd.N_reads' HO_11.out).1; omega))
                                        obtain ⟨ua222_0, uc222_0, rfl, ul222_0, ge222_0⟩ := Kd.FK_slice_open hMe222
                                        have hv222_0 := hcc222 0 _ rfl
                                        rw [Nat.add_zero, show ((Kd.slice 5 (Kd.int .u8))).sz = 1 from rfl, Nat.mul_one] at hv222_0
                                        replace hv222_0 := Option.some.inj (hv222_0.symm.trans hx222_0)
                                        injection hv222_0 with hva_ hvn_ hvc_
                                        rw [hva_] at ge222_0
                                        rw [hvc_] at ul222_0
                                        have HL222_0 := Aside0.mk (show Kd.V (Kd.int .u8) 5 _ w.heap.size _ _ (rd_L1 y219 x12_2) from Kd.V_mk ul222_0 ge222_0)
                                        clear hva_ hvn_ hvc_ ge222_0 ul222_0
                                        clear hcc222 hce222
                                        have HR222_0 := Aside0.mk hi222_0
                                        have HC222_0 := Aside0.mk hl222_0
                                        clear hi222_0 hl222_0
                                        replace p222 := eq_true p222
                                        replace q222 := eq_true q222
                                        go_wp2_with (first | ((with_reducible refine gate_callee (f := 16) rfl ?_); refine goesL_ (some 75) rfl rfl Try.func16 (by kernel_rfl) rfl #[.slice A222_0 (rd_L1 y219 x12_2).length c222_0] rfl (by (try simp only [List.map_toArray, List.map_cons, List.map_nil]); first | done | rfl | (simp only [List.length_drop, List.length_take]; rfl)) ?_; (with_reducible refine (opts_Walk.calls k2 _ _ (rd_L1 y219 x12_2) t223 t226 _ ?side1 ?side2 A41.out).mono ?_); (case side1 => repeat (first | exact (by repeat (first | (with_reducible exact HR222_0.out) | (with_reducible refine Kd.C_alloc ?_ _) | (with_reducible refine Kd.C_drewN ?_ _) | (with_reducible refine Kd.C_drew ?_) | exact HR222_0.out)) | (with_reducible refine Kd.C_alloc ?_ _) | (with_reducible refine Kd.C_drewN ?_ _) | (with_reducible refine Kd.C_drew ?_))); (case side2 => exact HC222_0.out); rintro e w63 ⟨v224, rfl, ho0, hb⟩; refine ⟨_, rfl, ?_⟩; have n0_ := Aside0.mk (Kd.N_below (by (with_reducible repeat (first | apply Kd.N_alloc | apply Kd.N_drewN | apply Kd.N_drew)); exact HO_11.out) hb); have n1_ := Aside0.mk (Kd.V_below (by (with_reducible repeat (first | apply Kd.V_alloc | apply Kd.V_drewN | apply Kd.V_drew)); exact HL222_0.out) hb); have n2_ := Aside0.mk (Kd.V_lower (Kd.V_mono (ok' := fun k_ => some k_ ≠ (.slice (some ad222) y219.length co62 : Value).ownBlock) ho0 (fun k_ hk_ => (Kd.fresh' (Kd.N_lt (by (with_reducible repeat (first | apply Kd.N_alloc | apply Kd.N_drewN | apply Kd.N_drew)); exact HO_11.out)) k_ hk_))) (below_size (by repeat (first | (with_reducible first | exact HB.out | apply below_alloc | apply pw_below_drewN | apply below_drew1) | exact HB.out)))); have n3_ := Aside0.mk (Kd.C_below (by repeat (first | (with_reducible exact HR222_0.out) | (with_reducible refine Kd.C_alloc ?_ _) | (with_reducible refine Kd.C_drewN ?_ _) | (with_reducible refine Kd.C_drew ?_) | exact HR222_0.out)) hb); have n4_ := Aside0.mk (below_step (by repeat (first | (with_reducible first | exact HB.out | apply below_alloc | apply pw_below_drewN | apply below_drew1) | exact HB.out)) hb); clear HO_11; clear HL222_0; clear HR222_0; clear HB; have HO_11 := n0_; have HL222_0 := n1_; have HO225 := n2_; have HR222_0 := n3_; have HB := n4_; clear n0_ n1_ n2_ n3_ n4_; (try clear hb); (try clear hb2); (try clear hk); (try clear hi); (try clear ho0); have p227 : 0 ≤ (x12_2 : Int) := of_decide_eq_true (by first | (with_reducible assumption) | assumption); have q227 : x12_2 < (y219.length : Int) := of_decide_eq_true (by first | (with_reducible assumption) | assumption); obtain ⟨ad227, A227_0, c227_0, e227, hx227_0, hl227_0, hi227_0⟩ := at_L1 (Kd.N_reads' HO_11.out).2.2 x12_2 p227 q227; obtain rfl : ad222 = ad227 := (by injection e227); obtain ⟨ce227, hce227, hMe227, hcc227⟩ := Kd.N_get HO_11.out [] x12_2 p227 (by first | exact q227 | exact of_decide_eq_true (by first | (with_reducible assumption) | assumption) | (have e_ := (Kd.N_reads' HO_11.out).1; omega)); obtain ⟨ua227_0, uc227_0, rfl, ul227_0, ge227_0⟩ := Kd.FK_slice_open hMe227; have hv227_0 := hcc227 0 _ rfl; rw [Nat.add_zero, show ((Kd.slice 5 (Kd.int .u8))).sz = 1 from rfl, Nat.mul_one] at hv227_0; replace hv227_0 := Option.some.inj (hv227_0.symm.trans hx227_0); injection hv227_0 with hva_ hvn_ hvc_; rw [hva_] at ge227_0; rw [hvc_] at ul227_0; have HL227_0 := Aside0.mk (show Kd.V (Kd.int .u8) 5 _ w.heap.size _ _ (rd_L1 y219 x12_2) from Kd.V_mk ul227_0 ge227_0); clear hva_ hvn_ hvc_ ge227_0 ul227_0; clear hcc227 hce227; have HR227_0 := Aside0.mk hi227_0; have HC227_0 := Aside0.mk hl227_0; clear hi227_0 hl227_0; replace p227 := eq_true p227; replace q227 := eq_true q227) | ((with_reducible refine gate_callee (f := 17) rfl ?_); refine goesL_ (some 83) rfl rfl Try.func17 (by kernel_rfl) rfl #[.slice A227_0 (rd_L1 y219 x12_2).length c227_0] rfl (by (try simp only [List.map_toArray, List.map_cons, List.map_nil]); first | done | rfl | (simp only [List.length_drop, List.length_take]; rfl)) ?_; (with_reducible refine (roundhouseref4_Walk.calls k2 _ _ (rd_L1 y219 x12_2) t228 t229 _ ?side1 ?side2 A42.out).mono ?_); (case side1 => repeat (first | exact (by repeat (first | (with_reducible exact HR227_0.out) | (with_reducible refine Kd.C_alloc ?_ _) | (with_reducible refine Kd.C_drewN ?_ _) | (with_reducible refine Kd.C_drew ?_) | exact HR227_0.out)) | (with_reducible refine Kd.C_alloc ?_ _) | (with_reducible refine Kd.C_drewN ?_ _) | (with_reducible refine Kd.C_drew ?_))); (case side2 => exact HC227_0.out); rintro e w64 ⟨v230, rfl, ho0, hb⟩; refine ⟨_, rfl, ?_⟩; have n0_ := Aside0.mk (Kd.N_elder' (by (with_reducible repeat (first | apply Kd.N_alloc | apply Kd.N_drewN | apply Kd.N_drew)); exact HO_11.out) (Kd.R_base ho0) hb); have n1_ := Aside0.mk (Kd.V_elder' (by (with_reducible repeat (first | apply Kd.V_alloc | apply Kd.V_drewN | apply Kd.V_drew)); exact HL222_0.out) (Kd.R_base ho0) hb); have n2_ := Aside0.mk (Kd.V_elder' (by (with_reducible repeat (first | apply Kd.V_alloc | apply Kd.V_drewN | apply Kd.V_drew)); exact HO225.out) (Kd.R_base ho0) hb); have n3_ := Aside0.mk (Kd.V_elder' (by (with_reducible repeat (first | apply Kd.V_alloc | apply Kd.V_drewN | apply Kd.V_drew)); exact HL227_0.out) (Kd.R_base ho0) hb); have n4_ := Aside0.mk (Kd.R_lower ho0 (below_size (by repeat (first | (with_reducible first | exact HB.out | apply below_alloc | apply pw_below_drewN | apply below_drew1) | exact HB.out)))); have n5_ := Aside0.mk (Kd.C_below (by repeat (first | (with_reducible exact HR222_0.out) | (with_reducible refine Kd.C_alloc ?_ _) | (with_reducible refine Kd.C_drewN ?_ _) | (with_reducible refine Kd.C_drew ?_) | exact HR222_0.out)) hb); have n6_ := Aside0.mk (Kd.C_below (by repeat (first | (with_reducible exact HR227_0.out) | (with_reducible refine Kd.C_alloc ?_ _) | (with_reducible refine Kd.C_drewN ?_ _) | (with_reducible refine Kd.C_drew ?_) | exact HR227_0.out)) hb); have n7_ := Aside0.mk (below_step (by repeat (first | (with_reducible first | exact HB.out | apply below_alloc | apply pw_below_drewN | apply below_drew1) | exact HB.out)) hb); clear HO_11; clear HL222_0; clear HO225; clear HL227_0; clear HR222_0; clear HR227_0; clear HB; have HO_11 := n0_; have HL222_0 := n1_; have HO225 := n2_; have HL227_0 := n3_; have HO231 := n4_; have HR222_0 := n5_; have HR227_0 := n6_; have HB := n7_; clear n0_ n1_ n2_ n3_ n4_ n5_ n6_ n7_; (try clear hb); (try clear hb2); (try clear hk); (try clear hi); (try clear ho0); have p232 : 0 ≤ (x12_2 : Int) := of_decide_eq_true (by first | (with_reducible assumption) | assumption); have q232 : x12_2 < (y219.length : Int) := of_decide_eq_true (by first | (with_reducible assumption) | assumption); obtain ⟨ad232, A232_0, c232_0, e232, hx232_0, hl232_0, hi232_0⟩ := at_L1 (Kd.N_reads' HO_11.out).2.2 x12_2 p232 q232; obtain rfl : ad222 = ad232 := (by injection e232); obtain ⟨ce232, hce232, hMe232, hcc232⟩ := Kd.N_get HO_11.out [] x12_2 p232 (by first | exact q232 | exact of_decide_eq_true (by first | (with_reducible assumption) | assumption) | (have e_ := (Kd.N_reads' HO_11.out).1; omega)); obtain ⟨ua232_0, uc232_0, rfl, ul232_0, ge232_0⟩ := Kd.FK_slice_open hMe232; have hv232_0 := hcc232 0 _ rfl; rw [Nat.add_zero, show ((Kd.slice 5 (Kd.int .u8))).sz = 1 from rfl, Nat.mul_one] at hv232_0; replace hv232_0 := Option.some.inj (hv232_0.symm.trans hx232_0); injection hv232_0 with hva_ hvn_ hvc_; rw [hva_] at ge232_0; rw [hvc_] at ul232_0; have HL232_0 := Aside0.mk (show Kd.V (Kd.int .u8) 5 _ w.heap.size _ _ (rd_L1 y219 x12_2) from Kd.V_mk ul232_0 ge232_0); clear hva_ hvn_ hvc_ ge232_0 ul232_0; clear hcc232 hce232; have HR232_0 := Aside0.mk hi232_0; have HC232_0 := Aside0.mk hl232_0; clear hi232_0 hl232_0; replace p232 := eq_true p232; replace q232 := eq_true q232) | ((with_reducible refine gate_callee (f := 18) rfl ?_); refine goesL_ (some 91) rfl rfl Try.func18 (by kernel_rfl) rfl #[.slice A232_0 (rd_L1 y219 x12_2).length c232_0] rfl (by (try simp only [List.map_toArray, List.map_cons, List.map_nil]); first | done | rfl | (simp only [List.length_drop, List.length_take]; rfl)) ?_; (with_reducible refine (opts_Stamp.calls k2 _ _ (rd_L1 y219 x12_2) t233 t234 t235 t236 _ ?side1 ?side2 A43.out).mono ?_); (case side1 => repeat (first | exact (by repeat (first | (with_reducible exact HR232_0.out) | (with_reducible refine Kd.C_alloc ?_ _) | (with_reducible refine Kd.C_drewN ?_ _) | (with_reducible refine Kd.C_drew ?_) | exact HR232_0.out)) | (with_reducible refine Kd.C_alloc ?_ _) | (with_reducible refine Kd.C_drewN ?_ _) | (with_reducible refine Kd.C_drew ?_))); (case side2 => exact HC232_0.out); rintro e w65 ⟨rfl, hb⟩; refine ⟨_, rfl, ?_⟩; have n0_ := Aside0.mk (Kd.N_below (by (with_reducible repeat (first | apply Kd.N_alloc | apply Kd.N_drewN | apply Kd.N_drew)); exact HO_11.out) hb); have n1_ := Aside0.mk (Kd.V_below (by (with_reducible repeat (first | apply Kd.V_alloc | apply Kd.V_drewN | apply Kd.V_drew)); exact HL222_0.out) hb); have n2_ := Aside0.mk (Kd.V_below (by (with_reducible repeat (first | apply Kd.V_alloc | apply Kd.V_drewN | apply Kd.V_drew)); exact HO225.out) hb); have n3_ := Aside0.mk (Kd.V_below (by (with_reducible repeat (first | apply Kd.V_alloc | apply Kd.V_drewN | apply Kd.V_drew)); exact HL227_0.out) hb); have n4_ := Aside0.mk (Kd.R_below (by (with_reducible repeat (first | apply Kd.R_alloc | apply Kd.R_drewN | apply Kd.R_drew)); exact HO231.out) hb); have n5_ := Aside0.mk (Kd.V_below (by (with_reducible repeat (first | apply Kd.V_alloc | apply Kd.V_drewN | apply Kd.V_drew)); exact HL232_0.out) hb); have n6_ := Aside0.mk (Kd.C_below (by repeat (first | (with_reducible exact HR222_0.out) | (with_reducible refine Kd.C_alloc ?_ _) | (with_reducible refine Kd.C_drewN ?_ _) | (with_reducible refine Kd.C_drew ?_) | exact HR222_0.out)) hb); have n7_ := Aside0.mk (Kd.C_below (by repeat (first | (with_reducible exact HR227_0.out) | (with_reducible refine Kd.C_alloc ?_ _) | (with_reducible refine Kd.C_drewN ?_ _) | (with_reducible refine Kd.C_drew ?_) | exact HR227_0.out)) hb); have n8_ := Aside0.mk (Kd.C_below (by repeat (first | (with_reducible exact HR232_0.out) | (with_reducible refine Kd.C_alloc ?_ _) | (with_reducible refine Kd.C_drewN ?_ _) | (with_reducible refine Kd.C_drew ?_) | exact HR232_0.out)) hb); have n9_ := Aside0.mk (below_step (by repeat (first | (with_reducible first | exact HB.out | apply below_alloc | apply pw_below_drewN | apply below_drew1) | exact HB.out)) hb); clear HO_11; clear HL222_0; clear HO225; clear HL227_0; clear HO231; clear HL232_0; clear HR222_0; clear HR227_0; clear HR232_0; clear HB; have HO_11 := n0_; have HL222_0 := n1_; have HO225 := n2_; have HL227_0 := n3_; have HO231 := n4_; have HL232_0 := n5_; have HR222_0 := n6_; have HR227_0 := n7_; have HR232_0 := n8_; have HB := n9_; clear n0_ n1_ n2_ n3_ n4_ n5_ n6_ n7_ n8_ n9_; (try clear hb); (try clear hb2); (try clear hk); (try clear hi); have p237 : 0 ≤ (x12_2 : Int) := of_decide_eq_true (by first | (with_reducible assumption) | assumption); have q237 : x12_2 < (y219.length : Int) := of_decide_eq_true (by first | (with_reducible assumption) | assumption); obtain ⟨ad237, A237_0, c237_0, e237, hx237_0, hl237_0, hi237_0⟩ := at_L1 (Kd.N_reads' HO_11.out).2.2 x12_2 p237 q237; obtain rfl : ad222 = ad237 := (by injection e237); obtain ⟨ce237, hce237, hMe237, hcc237⟩ := Kd.N_get HO_11.out [] x12_2 p237 (by first | exact q237 | exact of_decide_eq_true (by first | (with_reducible assumption) | assumption) | (have e_ := (Kd.N_reads' HO_11.out).1; omega)); obtain ⟨ua237_0, uc237_0, rfl, ul237_0, ge237_0⟩ := Kd.FK_slice_open hMe237; have hv237_0 := hcc237 0 _ rfl; rw [Nat.add_zero, show ((Kd.slice 5 (Kd.int .u8))).sz = 1 from rfl, Nat.mul_one] at hv237_0; replace hv237_0 := Option.some.inj (hv237_0.symm.trans hx237_0); injection hv237_0 with hva_ hvn_ hvc_; rw [hva_] at ge237_0; rw [hvc_] at ul237_0; have HL237_0 := Aside0.mk (show Kd.V (Kd.int .u8) 5 _ w.heap.size _ _ (rd_L1 y219 x12_2) from Kd.V_mk ul237_0 ge237_0); clear hva_ hvn_ hvc_ ge237_0 ul237_0; clear hcc237 hce237; have HR237_0 := Aside0.mk hi237_0; have HC237_0 := Aside0.mk hl237_0; clear hi237_0 hl237_0; replace p237 := eq_true p237; replace q237 := eq_true q237) | ((with_reducible refine gate_callee (f := 19) rfl ?_); refine goesL_ (some 101) rfl rfl Try.func19 (by kernel_rfl) rfl #[.slice A237_0 (rd_L1 y219 x12_2).length c237_0] rfl (by (try simp only [List.map_toArray, List.map_cons, List.map_nil]); first | done | rfl | (simp only [List.length_drop, List.length_take]; rfl)) ?_; (with_reducible refine (roundhouseref4_Stamp.calls k2 _ _ (rd_L1 y219 x12_2) t238 t239 t240 t241 _ ?side1 ?side2 A44.out).mono ?_); (case side1 => repeat (first | exact (by repeat (first | (with_reducible exact HR237_0.out) | (with_reducible refine Kd.C_alloc ?_ _) | (with_reducible refine Kd.C_drewN ?_ _) | (with_reducible refine Kd.C_drew ?_) | exact HR237_0.out)) | (with_reducible refine Kd.C_alloc ?_ _) | (with_reducible refine Kd.C_drewN ?_ _) | (with_reducible refine Kd.C_drew ?_))); (case side2 => exact HC237_0.out); rintro e w66 ⟨rfl, hb⟩; refine ⟨_, rfl, ?_⟩; have n0_ := Aside0.mk (Kd.N_below (by (with_reducible repeat (first | apply Kd.N_alloc | apply Kd.N_drewN | apply Kd.N_drew)); exact HO_11.out) hb); have n1_ := Aside0.mk (Kd.V_below (by (with_reducible repeat (first | apply Kd.V_alloc | apply Kd.V_drewN | apply Kd.V_drew)); exact HL222_0.out) hb); have n2_ := Aside0.mk (Kd.V_below (by (with_reducible repeat (first | apply Kd.V_alloc | apply Kd.V_drewN | apply Kd.V_drew)); exact HO225.out) hb); have n3_ := Aside0.mk (Kd.V_below (by (with_reducible repeat (first | apply Kd.V_alloc | apply Kd.V_drewN | apply Kd.V_drew)); exact HL227_0.out) hb); have n4_ := Aside0.mk (Kd.R_below (by (with_reducible repeat (first | apply Kd.R_alloc | apply Kd.R_drewN | apply Kd.R_drew)); exact HO231.out) hb); have n5_ := Aside0.mk (Kd.V_below (by (with_reducible repeat (first | apply Kd.V_alloc | apply Kd.V_drewN | apply Kd.V_drew)); exact HL232_0.out) hb); have n6_ := Aside0.mk (Kd.V_below (by (with_reducible repeat (first | apply Kd.V_alloc | apply Kd.V_drewN | apply Kd.V_drew)); exact HL237_0.out) hb); have n7_ := Aside0.mk (Kd.C_below (by repeat (first | (with_reducible exact HR222_0.out) | (with_reducible refine Kd.C_alloc ?_ _) | (with_reducible refine Kd.C_drewN ?_ _) | (with_reducible refine Kd.C_drew ?_) | exact HR222_0.out)) hb); have n8_ := Aside0.mk (Kd.C_below (by repeat (first | (with_reducible exact HR227_0.out) | (with_reducible refine Kd.C_alloc ?_ _) | (with_reducible refine Kd.C_drewN ?_ _) | (with_reducible refine Kd.C_drew ?_) | exact HR227_0.out)) hb); have n9_ := Aside0.mk (Kd.C_below (by repeat (first | (with_reducible exact HR232_0.out) | (with_reducible refine Kd.C_alloc ?_ _) | (with_reducible refine Kd.C_drewN ?_ _) | (with_reducible refine Kd.C_drew ?_) | exact HR232_0.out)) hb); have n10_ := Aside0.mk (Kd.C_below (by repeat (first | (with_reducible exact HR237_0.out) | (with_reducible refine Kd.C_alloc ?_ _) | (with_reducible refine Kd.C_drewN ?_ _) | (with_reducible refine Kd.C_drew ?_) | exact HR237_0.out)) hb); have n11_ := Aside0.mk (below_step (by repeat (first | (with_reducible first | exact HB.out | apply below_alloc | apply pw_below_drewN | apply below_drew1) | exact HB.out)) hb); clear HO_11; clear HL222_0; clear HO225; clear HL227_0; clear HO231; clear HL232_0; clear HL237_0; clear HR222_0; clear HR227_0; clear HR232_0; clear HR237_0; clear HB; have HO_11 := n0_; have HL222_0 := n1_; have HO225 := n2_; have HL227_0 := n3_; have HO231 := n4_; have HL232_0 := n5_; have HL237_0 := n6_; have HR222_0 := n7_; have HR227_0 := n8_; have HR232_0 := n9_; have HR237_0 := n10_; have HB := n11_; clear n0_ n1_ n2_ n3_ n4_ n5_ n6_ n7_ n8_ n9_ n10_ n11_; (try clear hb); (try clear hb2); (try clear hk); (try clear hi); obtain ⟨Ao67, co67, eo67⟩ := Kd.V_slice HO225.out; subst eo67) | (go_at_call 21; (with_reducible refine (roundhouselaw4_as.calls k2 _ _ t223 t242 _ ?side1 ?side2 A46.out).mono ?_); (case side1 => repeat (first | exact (Kd.V_reads' HO225.out).2.2 | (with_reducible refine Kd.C_alloc ?_ _) | (with_reducible refine Kd.C_drewN ?_ _) | (with_reducible refine Kd.C_drew ?_))); (case side2 => exact (Kd.V_reads' HO225.out).2.1); rintro e w68 ⟨v243, rfl, ho0, hb⟩; have n0_ := Aside0.mk (Kd.N_elder' (by (with_reducible repeat (first | apply Kd.N_alloc | apply Kd.N_drewN | apply Kd.N_drew)); exact HO_11.out) (Kd.R_base ho0) hb); have n1_ := Aside0.mk (Kd.V_elder' (by (with_reducible repeat (first | apply Kd.V_alloc | apply Kd.V_drewN | apply Kd.V_drew)); exact HL222_0.out) (Kd.R_base ho0) hb); have n2_ := Aside0.mk (Kd.V_elder' (by (with_reducible repeat (first | apply Kd.V_alloc | apply Kd.V_drewN | apply Kd.V_drew)); exact HO225.out) (Kd.R_base ho0) hb); have n3_ := Aside0.mk (Kd.V_elder' (by (with_reducible repeat (first | apply Kd.V_alloc | apply Kd.V_drewN | apply Kd.V_drew)); exact HL227_0.out) (Kd.R_base ho0) hb); have n4_ := Aside0.mk (Kd.R_elder' (by (with_reducible repeat (first | apply Kd.R_alloc | apply Kd.R_drewN | apply Kd.R_drew)); exact HO231.out) (Kd.R_base ho0) hb); have n5_ := Aside0.mk (Kd.V_elder' (by (with_reducible repeat (first | apply Kd.V_alloc | apply Kd.V_drewN | apply Kd.V_drew)); exact HL232_0.out) (Kd.R_base ho0) hb); have n6_ := Aside0.mk (Kd.V_elder' (by (with_reducible repeat (first | apply Kd.V_alloc | apply Kd.V_drewN | apply Kd.V_drew)); exact HL237_0.out) (Kd.R_base ho0) hb); have n7_ := Aside0.mk (Kd.R_lower (Kd.R_new' ho0 (Kd.R_lt (by (with_reducible repeat (first | apply Kd.R_alloc | apply Kd.R_drewN | apply Kd.R_drew)); exact HO231.out))) (below_size (by repeat (first | (with_reducible first | exact HB.out | apply below_alloc | apply pw_below_drewN | apply below_drew1) | exact HB.out)))); have n8_ := Aside0.mk (Kd.C_below (by repeat (first | (with_reducible exact HR222_0.out) | (with_reducible refine Kd.C_alloc ?_ _) | (with_reducible refine Kd.C_drewN ?_ _) | (with_reducible refine Kd.C_drew ?_) | exact HR222_0.out)) hb); have n9_ := Aside0.mk (Kd.C_below (by repeat (first | (with_reducible exact HR227_0.out) | (with_reducible refine Kd.C_alloc ?_ _) | (with_reducible refine Kd.C_drewN ?_ _) | (with_reducible refine Kd.C_drew ?_) | exact HR227_0.out)) hb); have n10_ := Aside0.mk (Kd.C_below (by repeat (first | (with_reducible exact HR232_0.out) | (with_reducible refine Kd.C_alloc ?_ _) | (with_reducible refine Kd.C_drewN ?_ _) | (with_reducible refine Kd.C_drew ?_) | exact HR232_0.out)) hb); have n11_ := Aside0.mk (Kd.C_below (by repeat (first | (with_reducible exact HR237_0.out) | (with_reducible refine Kd.C_alloc ?_ _) | (with_reducible refine Kd.C_drewN ?_ _) | (with_reducible refine Kd.C_drew ?_) | exact HR237_0.out)) hb); have n12_ := Aside0.mk (below_step (by repeat (first | (with_reducible first | exact HB.out | apply below_alloc | apply pw_below_drewN | apply below_drew1) | exact HB.out)) hb); clear HO_11; clear HL222_0; clear HO225; clear HL227_0; clear HO231; clear HL232_0; clear HL237_0; clear HR222_0; clear HR227_0; clear HR232_0; clear HR237_0; clear HB; have HO_11 := n0_; have HL222_0 := n1_; have HO225 := n2_; have HL227_0 := n3_; have HO231 := n4_; have HL232_0 := n5_; have HL237_0 := n6_; have HO244 := n7_; have HR222_0 := n8_; have HR227_0 := n9_; have HR232_0 := n10_; have HR237_0 := n11_; have HB := n12_; clear n0_ n1_ n2_ n3_ n4_ n5_ n6_ n7_ n8_ n9_ n10_ n11_ n12_; (try clear hb); (try clear hb2); (try clear hk); (try clear hi); (try clear ho0); obtain ⟨Ao69, co69, eo69⟩ := Kd.R_slice HO244.out; subst eo69; obtain ⟨Ao70, co70, eo70⟩ := Kd.R_slice HO231.out; subst eo70) | (go_at_call 20; (with_reducible refine (roundhouselaw4_same.calls k2 _ _ t242 _ _ t228 true _ ?side1 ?side2 ?side3 ?side4 A47.out).mono ?_); (case side1 => repeat (first | exact (Kd.R_reads' HO244.out).2.2 | (with_reducible refine Kd.C_alloc ?_ _) | (with_reducible refine Kd.C_drewN ?_ _) | (with_reducible refine Kd.C_drew ?_))); (case side2 => exact (Kd.R_reads' HO244.out).2.1); (case side3 => repeat (first | exact (Kd.R_reads' HO231.out).2.2 | (with_reducible refine Kd.C_alloc ?_ _) | (with_reducible refine Kd.C_drewN ?_ _) | (with_reducible refine Kd.C_drew ?_))); (case side4 => exact (Kd.R_reads' HO231.out).2.1); rintro e w' ⟨rfl, ⟨nd, rfl⟩⟩))
                                        go_roundg k2
                                        case measure => have := HJ10.out; have := HK2.out; omega
                                        case rel => exact ⟨(wrap64 (x12_2 + 1)), (by first | rfl | (simp; done) | (simp [*]; done)), H', ⟨by have := HJ10.out; have := HK2.out; omega⟩, ⟨by (try simp only [hl10_10]); (with_reducible repeat (first | apply Kd.N_alloc | apply Kd.N_drewN | apply Kd.N_drew)); exact Kd.N_mono HO_11.out (fun _ hk => trivial)⟩, ⟨by repeat (first | (with_reducible first | exact HB.out | apply below_alloc | apply pw_below_drewN | apply below_drew1) | exact HB.out)⟩⟩
                                    · rw [if_neg c51] at H
                                      have c51b0 : (t235 == t240) = false := beq_eq_false_iff_ne.mpr c51
                                      have c51b1 : (t235 != t240) = true := bne_iff_ne.mpr c51
                                      exact absurd hr_.out (by rw [← Option.some.inj H]; decide)
                                  · rw [if_neg c50] at H
                                    have c50b0 : (t234 == t239) = false := beq_eq_false_iff_ne.mpr c50
                                    have c50b1 : (t234 != t239) = true := bne_iff_ne.mpr c50
                                    exact absurd hr_.out (by rw [← Option.some.inj H]; decide)
                                · rw [if_neg c49] at H
                                  have c49b0 : (t233 == t238) = false := beq_eq_false_iff_ne.mpr c49
                                  have c49b1 : (t233 != t238) = true := bne_iff_ne.mpr c49
                                  exact absurd hr_.out (by rw [← Option.some.inj H]; decide)
                              · replace c48 := Bool.eq_false_iff.mpr c48
                                subst c48
                                have H1 : (some false) = some r := by rw [if_neg (show ¬ (false = true) by decide)] at H; exact H
                                clear H
                                have H := H1
                                clear H1
                                exact absurd hr_.out (by rw [← Option.some.inj H]; decide)
                            · rw [if_neg c45] at H
                              have c45b0 : (t226 == t229) = false := beq_eq_false_iff_ne.mpr c45
                              have c45b1 : (t226 != t229) = true := bne_iff_ne.mpr c45
                              exact absurd hr_.out (by rw [← Option.some.inj H]; decide)
                          · rw [if_neg c40] at H
                            exact absurd H (by simp)
                        · rw [if_neg c39] at H
                          have c39b0 : decide (x12_2 < (y219.length : Int)) = false := decide_eq_false c39
                          clear c39
                          obtain rfl := Option.some.inj H
                          obtain ⟨Ao112, co112, eo112⟩ := Kd.N_slice HO_11.out
                          subst eo112
                          go_wp2
                          go_ret
                          exact ⟨by first | rfl | (simp [errW_none, errW_some] <;> rfl) | (simp [*, errW_none, errW_some] <;> rfl), by repeat (first | (with_reducible first | exact HB.out | apply below_alloc | apply pw_below_drewN | apply below_drew1) | exact HB.out)⟩
                  · rw [if_neg c30] at H
                    exact absurd H (by simp)
                · rw [if_neg c29] at H
                  exact absurd H (by simp)
              · rw [if_neg c27] at H
                exact absurd H (by simp)
            · rw [if_neg c26] at H
              exact absurd H (by simp)
      · rw [if_neg c10] at H
        exact absurd H (by simp)
  · replace c6 := Bool.eq_false_iff.mpr c6
    subst c6
    have H1 : (some false) = some r := by rw [if_neg (show ¬ (false = true) by decide)] at H; exact H
    clear H
    have H := H1
    clear H1
    exact absurd hr_.out (by rw [← Option.some.inj H]; decide)
/-- THE ONE PURE STATEMENT of roundhouselaw4_OptsWalks: yours. -/
def roundhouselaw4_OptsWalks.Pure : Prop := ∀ (l0 : List Int) (l1 : List Int) (a2 : Int) (a3 : Int), l0.length ≤ maxLen → l0.length * 8 ≤ 140737488351232 → (∀ x ∈ l0, (Lit.int .i64 x).wf = true) → l1.length ≤ maxLen → l1.length * 1 ≤ 140737488351232 → (∀ x ∈ l1, (Lit.int .u8 x).wf = true) → (Lit.int .i64 a2).wf = true → (Lit.int .u8 a3).wf = true → ∃ k, roundhouselaw4_OptsWalks.f k l0 l1 a2 a3 = some true
theorem roundhouselaw4_OptsWalks.walk (P : roundhouselaw4_OptsWalks.Pure) (a0 : Option Addr) (len0 cap0 : Nat) (z0 : List Int) (a1 : Option Addr) (len1 cap1 : Nat) (z1 : List Int) (a2 : Int) (a3 : Int) (w : World) (w0 : (a0 = none ∧ len0 = 0 ∧ cap0 = 0 ∧ z0 = []) ∨ ∃ x, a0 = some x ∧ len0 ≤ cap0 ∧ cap0 ≤ maxLen ∧ z0.length = cap0 ∧ (∀ i, i < z0.length → w.cell? (x.add i) = some (.int .i64 (z0.getD i 0))) ∧ ∀ n ∈ z0, (Lit.int .i64 n).wf = true) (y0 : len0 * 8 ≤ 140737488351232) (w1 : (a1 = none ∧ len1 = 0 ∧ cap1 = 0 ∧ z1 = []) ∨ ∃ x, a1 = some x ∧ len1 ≤ cap1 ∧ cap1 ≤ maxLen ∧ z1.length = cap1 ∧ (∀ i, i < z1.length → w.cell? (x.add i) = some (.int .u8 (z1.getD i 0))) ∧ ∀ n ∈ z1, (Lit.int .u8 n).wf = true) (y1 : len1 * 1 ≤ 140737488351232) (w2 : (Lit.int .i64 a2).wf = true) (w3 : (Lit.int .u8 a3).wf = true) :
    Calls Try.prog 3 #[.slice a0 len0 cap0, .slice a1 len1 cap1, .int .i64 a2, .int .u8 a3] w fun e w' => e = .returned (.bool true) ∧ Below w.heap.size w w' := by
  obtain ⟨l0, rfl, hr0, hm0, hw0, hc0⟩ := ReadsInt.ofRowC w0
  obtain ⟨l1, rfl, hr1, hm1, hw1, hc1⟩ := ReadsInt.ofRowC w1
  obtain ⟨k, h⟩ := P l0 l1 a2 a3 hm0 y0 hw0 hm1 y1 hw1 w2 w3
  refine (roundhouselaw4_OptsWalks.calls k _ _ l0 _ _ l1 a2 a3 true w (Kd.C_of_reads (d := (0 : Int)) (h1 := fun _ => rfl) hr0) hc0 (Kd.C_of_reads (d := (0 : Int)) (h1 := fun _ => rfl) hr1) hc1 h ⟨rfl⟩).mono ?_
  rintro e w' ⟨rfl, hd⟩
  exact ⟨rfl, hd⟩

end Go.Proofs.Ytjdkifdnbfmccaa.Q
