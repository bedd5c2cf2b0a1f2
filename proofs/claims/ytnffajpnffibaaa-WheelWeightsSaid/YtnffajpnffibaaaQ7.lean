/- By a program of this session (wip/tools/myprint.py), out of the translation: for each Go function a plain Lean function, and that the call comes to what that function says; a law's row out of its plain statement. Lean checks it. -/
import Derived.Test.YtnffajpnffibaaaWheE
import Derived.Test.YtnffajpnffibaaaQ0
import Derived.Test.YtnffajpnffibaaaQ6
namespace Go.Proofs.Ytnffajpnffibaaa.Q
open Go.RowKit Go.Proofs.YtnffajpnffibaaaW.PrintWords Go.Proofs.YtnffajpnffibaaaW.PrintLast Go.Proofs.YtnffajpnffibaaaW.PrintMore Go.Proofs.Ytnffajpnffibaaa.Own
attribute [local go_sem] max2_int min2_int max_two min_two max_three min_three max_four min_four   -- for this text's walks alone
set_option linter.unusedVariables false
set_option linter.unusedSimpArgs false

/-! ### roundhouseref7_Make: function 16 -/
mutual
def roundhouseref7_Make.l0 : Nat → List (S25) → List Int → Int → Option (List Int)
  | 0, _, _, _ => none
  | k + 1, x1, x3, x4 => if x4 < 127 then (if 0 ≤ x4 then (if x4 < (x3.length : Int) then (roundhouseref7_Make.l0 k x1 (x3.set (x4 : Int).toNat (-1)) (wrap64 (x4 + 1))) else (none)) else (none)) else (if 64 ≤ 35184372088832 then (roundhouseref7_Make.l1 k x1 x3 (List.replicate 64 0) 127 true) else (none))
def roundhouseref7_Make.l1 : Nat → List (S25) → List Int → List Int → Int → Bool → Option (List Int)
  | 0, _, _, _, _, _ => none
  | k + 1, x1, x3, x5, x6, x7 => if x7 = true then (roundhouseref7_Make.j2 k x1 x3 x5 x6 (decide (x6 > 0))) else (roundhouseref7_Make.j2 k x1 x3 x5 x6 false)
def roundhouseref7_Make.j2 : Nat → List (S25) → List Int → List Int → Int → Bool → Option (List Int)
  | 0, _, _, _, _, _ => none
  | k + 1, x1, x3, x5, x6, x24 => if x24 = true then (roundhouseref7_Make.l2 k x1 x3 x5 x6 false 0) else (some x3)
def roundhouseref7_Make.l2 : Nat → List (S25) → List Int → List Int → Int → Bool → Int → Option (List Int)
  | 0, _, _, _, _, _, _ => none
  | k + 1, x1, x3, x5, x6, x7, x8 => if x8 < 64 then (if 0 ≤ x8 then (if x8 < (x1.length : Int) then (if ((rd_T25 x1 x8).f0) = 2 then ((roundhouseref7_order.f k ((rd_T25 x1 x8).f0) ((rd_T25 x1 x8).f1) ((rd_T25 x1 x8).f2) ((rd_T25 x1 x8).f3) ((rd_T25 x1 x8).f4)).bind fun bt188 => (roundhouseref7_Make.l3 k x1 x3 x5 x6 true x8 bt188.1 bt188.2 0)) else (roundhouseref7_Make.l2 k x1 x3 x5 x6 x7 (wrap64 (x8 + 1)))) else (none)) else (none)) else (roundhouseref7_Make.l1 k x1 x3 x5 x6 x7)
def roundhouseref7_Make.l3 : Nat → List (S25) → List Int → List Int → Int → Bool → Int → Int → Int → Int → Option (List Int)
  | 0, _, _, _, _, _, _, _, _, _ => none
  | k + 1, x1, x3, x5, x6, x7, x8, x9, x10, x11 => if 0 ≤ x8 then (if x8 < (x1.length : Int) then (if x11 < ((rd_T25 x1 x8).f3) then (roundhouseref7_Make.j5 k x1 x3 x5 x6 x7 x8 x9 x10 x11 (decide (x6 > 0))) else (roundhouseref7_Make.j5 k x1 x3 x5 x6 x7 x8 x9 x10 x11 false)) else (none)) else (none)
def roundhouseref7_Make.j5 : Nat → List (S25) → List Int → List Int → Int → Bool → Int → Int → Int → Int → Bool → Option (List Int)
  | 0, _, _, _, _, _, _, _, _, _, _ => none
  | k + 1, x1, x3, x5, x6, x7, x8, x9, x10, x11, x53 => if x53 = true then (roundhouseref7_Make.l4 k x1 x3 x5 x6 x7 x8 x9 x10 x11) else (roundhouseref7_Make.l2 k x1 x3 x5 x6 x7 (wrap64 (x8 + 1)))
def roundhouseref7_Make.l4 : Nat → List (S25) → List Int → List Int → Int → Bool → Int → Int → Int → Int → Option (List Int)
  | 0, _, _, _, _, _, _, _, _, _ => none
  | k + 1, x1, x3, x5, x6, x7, x8, x9, x10, x11 => if 0 ≤ x8 then (if x8 < (x5.length : Int) then (if 0 ≤ (Int.tmod (wrap64 (x9 + (wrap64 ((rd x5 x8) * x10)))) 127) then (if (Int.tmod (wrap64 (x9 + (wrap64 ((rd x5 x8) * x10)))) 127) < (x3.length : Int) then (if (rd x3 (Int.tmod (wrap64 (x9 + (wrap64 ((rd x5 x8) * x10)))) 127)) ≥ 0 then (roundhouseref7_Make.l4 k x1 x3 (x5.set (x8 : Int).toNat (wrap64 ((rd x5 x8) + 1))) x6 x7 x8 x9 x10 x11) else (roundhouseref7_Make.l3 k x1 (x3.set ((Int.tmod (wrap64 (x9 + (wrap64 ((rd x5 x8) * x10)))) 127) : Int).toNat x8) x5 (wrap64 (x6 - 1)) x7 x8 x9 x10 (wrap64 (x11 + 1)))) else (none)) else (none)) else (none)) else (none)
end
def roundhouseref7_Make.f (k : Nat) (l0 : List (S25)) : Option (List Int) := if 127 ≤ 35184372088832 then (roundhouseref7_Make.l0 k l0 (List.replicate 127 0) 0) else (none)
theorem roundhouseref7_Make.mono_l : ∀ k, (∀ y0 y1 y2, LeO (roundhouseref7_Make.l0 k y0 y1 y2) (roundhouseref7_Make.l0 (k + 1) y0 y1 y2)) ∧ (∀ y0 y1 y2 y3 y4, LeO (roundhouseref7_Make.l1 k y0 y1 y2 y3 y4) (roundhouseref7_Make.l1 (k + 1) y0 y1 y2 y3 y4)) ∧ (∀ y0 y1 y2 y3 y4, LeO (roundhouseref7_Make.j2 k y0 y1 y2 y3 y4) (roundhouseref7_Make.j2 (k + 1) y0 y1 y2 y3 y4)) ∧ (∀ y0 y1 y2 y3 y4 y5, LeO (roundhouseref7_Make.l2 k y0 y1 y2 y3 y4 y5) (roundhouseref7_Make.l2 (k + 1) y0 y1 y2 y3 y4 y5)) ∧ (∀ y0 y1 y2 y3 y4 y5 y6 y7 y8, LeO (roundhouseref7_Make.l3 k y0 y1 y2 y3 y4 y5 y6 y7 y8) (roundhouseref7_Make.l3 (k + 1) y0 y1 y2 y3 y4 y5 y6 y7 y8)) ∧ (∀ y0 y1 y2 y3 y4 y5 y6 y7 y8 y9, LeO (roundhouseref7_Make.j5 k y0 y1 y2 y3 y4 y5 y6 y7 y8 y9) (roundhouseref7_Make.j5 (k + 1) y0 y1 y2 y3 y4 y5 y6 y7 y8 y9)) ∧ (∀ y0 y1 y2 y3 y4 y5 y6 y7 y8, LeO (roundhouseref7_Make.l4 k y0 y1 y2 y3 y4 y5 y6 y7 y8) (roundhouseref7_Make.l4 (k + 1) y0 y1 y2 y3 y4 y5 y6 y7 y8))
  | 0 => ⟨fun _ _ _ r h => by simp [roundhouseref7_Make.l0] at h, fun _ _ _ _ _ r h => by simp [roundhouseref7_Make.l1] at h, fun _ _ _ _ _ r h => by simp [roundhouseref7_Make.j2] at h, fun _ _ _ _ _ _ r h => by simp [roundhouseref7_Make.l2] at h, fun _ _ _ _ _ _ _ _ _ r h => by simp [roundhouseref7_Make.l3] at h, fun _ _ _ _ _ _ _ _ _ _ r h => by simp [roundhouseref7_Make.j5] at h, fun _ _ _ _ _ _ _ _ _ r h => by simp [roundhouseref7_Make.l4] at h⟩
  | k + 1 => by
    obtain ⟨ih0, ih1, ih2, ih3, ih4, ih5, ih6⟩ := roundhouseref7_Make.mono_l k
    refine ⟨?_, ?_, ?_, ?_, ?_, ?_, ?_⟩
    · intro y0 y1 y2
      unfold roundhouseref7_Make.l0
      repeat' first
      | (with_reducible exact ih0 _ _ _)
      | (with_reducible exact ih1 _ _ _ _ _)
      | (with_reducible exact ih2 _ _ _ _ _)
      | (with_reducible exact ih3 _ _ _ _ _ _)
      | (with_reducible exact ih4 _ _ _ _ _ _ _ _ _)
      | (with_reducible exact ih5 _ _ _ _ _ _ _ _ _ _)
      | (with_reducible exact ih6 _ _ _ _ _ _ _ _ _)
      | (with_reducible exact roundhouseref7_order.mono _ _ _ _ _ _)
      | (with_reducible exact LeO.refl _)
      | (with_reducible exact LeO.none _)
      | (with_reducible refine LeO.ite ?_ ?_)
      | (with_reducible refine LeO.bind ?_ (fun _ => ?_))
      | exact ih0 _ _ _
      | exact ih1 _ _ _ _ _
      | exact ih2 _ _ _ _ _
      | exact ih3 _ _ _ _ _ _
      | exact ih4 _ _ _ _ _ _ _ _ _
      | exact ih5 _ _ _ _ _ _ _ _ _ _
      | exact ih6 _ _ _ _ _ _ _ _ _
      | exact roundhouseref7_order.mono _ _ _ _ _ _
      | exact LeO.none _
      | refine LeO.ite ?_ ?_
      | refine LeO.bind ?_ (fun _ => ?_)
    · intro y0 y1 y2 y3 y4
      unfold roundhouseref7_Make.l1
      repeat' first
      | (with_reducible exact ih0 _ _ _)
      | (with_reducible exact ih1 _ _ _ _ _)
      | (with_reducible exact ih2 _ _ _ _ _)
      | (with_reducible exact ih3 _ _ _ _ _ _)
      | (with_reducible exact ih4 _ _ _ _ _ _ _ _ _)
      | (with_reducible exact ih5 _ _ _ _ _ _ _ _ _ _)
      | (with_reducible exact ih6 _ _ _ _ _ _ _ _ _)
      | (with_reducible exact roundhouseref7_order.mono _ _ _ _ _ _)
      | (with_reducible exact LeO.refl _)
      | (with_reducible exact LeO.none _)
      | (with_reducible refine LeO.ite ?_ ?_)
      | (with_reducible refine LeO.bind ?_ (fun _ => ?_))
      | exact ih0 _ _ _
      | exact ih1 _ _ _ _ _
      | exact ih2 _ _ _ _ _
      | exact ih3 _ _ _ _ _ _
      | exact ih4 _ _ _ _ _ _ _ _ _
      | exact ih5 _ _ _ _ _ _ _ _ _ _
      | exact ih6 _ _ _ _ _ _ _ _ _
      | exact roundhouseref7_order.mono _ _ _ _ _ _
      | exact LeO.none _
      | refine LeO.ite ?_ ?_
      | refine LeO.bind ?_ (fun _ => ?_)
    · intro y0 y1 y2 y3 y4
      unfold roundhouseref7_Make.j2
      repeat' first
      | (with_reducible exact ih0 _ _ _)
      | (with_reducible exact ih1 _ _ _ _ _)
      | (with_reducible exact ih2 _ _ _ _ _)
      | (with_reducible exact ih3 _ _ _ _ _ _)
      | (with_reducible exact ih4 _ _ _ _ _ _ _ _ _)
      | (with_reducible exact ih5 _ _ _ _ _ _ _ _ _ _)
      | (with_reducible exact ih6 _ _ _ _ _ _ _ _ _)
      | (with_reducible exact roundhouseref7_order.mono _ _ _ _ _ _)
      | (with_reducible exact LeO.refl _)
      | (with_reducible exact LeO.none _)
      | (with_reducible refine LeO.ite ?_ ?_)
      | (with_reducible refine LeO.bind ?_ (fun _ => ?_))
      | exact ih0 _ _ _
      | exact ih1 _ _ _ _ _
      | exact ih2 _ _ _ _ _
      | exact ih3 _ _ _ _ _ _
      | exact ih4 _ _ _ _ _ _ _ _ _
      | exact ih5 _ _ _ _ _ _ _ _ _ _
      | exact ih6 _ _ _ _ _ _ _ _ _
      | exact roundhouseref7_order.mono _ _ _ _ _ _
      | exact LeO.none _
      | refine LeO.ite ?_ ?_
      | refine LeO.bind ?_ (fun _ => ?_)
    · intro y0 y1 y2 y3 y4 y5
      unfold roundhouseref7_Make.l2
      repeat' first
      | (with_reducible exact ih0 _ _ _)
      | (with_reducible exact ih1 _ _ _ _ _)
      | (with_reducible exact ih2 _ _ _ _ _)
      | (with_reducible exact ih3 _ _ _ _ _ _)
      | (with_reducible exact ih4 _ _ _ _ _ _ _ _ _)
      | (with_reducible exact ih5 _ _ _ _ _ _ _ _ _ _)
      | (with_reducible exact ih6 _ _ _ _ _ _ _ _ _)
      | (with_reducible exact roundhouseref7_order.mono _ _ _ _ _ _)
      | (with_reducible exact LeO.refl _)
      | (with_reducible exact LeO.none _)
      | (with_reducible refine LeO.ite ?_ ?_)
      | (with_reducible refine LeO.bind ?_ (fun _ => ?_))
      | exact ih0 _ _ _
      | exact ih1 _ _ _ _ _
      | exact ih2 _ _ _ _ _
      | exact ih3 _ _ _ _ _ _
      | exact ih4 _ _ _ _ _ _ _ _ _
      | exact ih5 _ _ _ _ _ _ _ _ _ _
      | exact ih6 _ _ _ _ _ _ _ _ _
      | exact roundhouseref7_order.mono _ _ _ _ _ _
      | exact LeO.none _
      | refine LeO.ite ?_ ?_
      | refine LeO.bind ?_ (fun _ => ?_)
    · intro y0 y1 y2 y3 y4 y5 y6 y7 y8
      unfold roundhouseref7_Make.l3
      repeat' first
      | (with_reducible exact ih0 _ _ _)
      | (with_reducible exact ih1 _ _ _ _ _)
      | (with_reducible exact ih2 _ _ _ _ _)
      | (with_reducible exact ih3 _ _ _ _ _ _)
      | (with_reducible exact ih4 _ _ _ _ _ _ _ _ _)
      | (with_reducible exact ih5 _ _ _ _ _ _ _ _ _ _)
      | (with_reducible exact ih6 _ _ _ _ _ _ _ _ _)
      | (with_reducible exact roundhouseref7_order.mono _ _ _ _ _ _)
      | (with_reducible exact LeO.refl _)
      | (with_reducible exact LeO.none _)
      | (with_reducible refine LeO.ite ?_ ?_)
      | (with_reducible refine LeO.bind ?_ (fun _ => ?_))
      | exact ih0 _ _ _
      | exact ih1 _ _ _ _ _
      | exact ih2 _ _ _ _ _
      | exact ih3 _ _ _ _ _ _
      | exact ih4 _ _ _ _ _ _ _ _ _
      | exact ih5 _ _ _ _ _ _ _ _ _ _
      | exact ih6 _ _ _ _ _ _ _ _ _
      | exact roundhouseref7_order.mono _ _ _ _ _ _
      | exact LeO.none _
      | refine LeO.ite ?_ ?_
      | refine LeO.bind ?_ (fun _ => ?_)
    · intro y0 y1 y2 y3 y4 y5 y6 y7 y8 y9
      unfold roundhouseref7_Make.j5
      repeat' first
      | (with_reducible exact ih0 _ _ _)
      | (with_reducible exact ih1 _ _ _ _ _)
      | (with_reducible exact ih2 _ _ _ _ _)
      | (with_reducible exact ih3 _ _ _ _ _ _)
      | (with_reducible exact ih4 _ _ _ _ _ _ _ _ _)
      | (with_reducible exact ih5 _ _ _ _ _ _ _ _ _ _)
      | (with_reducible exact ih6 _ _ _ _ _ _ _ _ _)
      | (with_reducible exact roundhouseref7_order.mono _ _ _ _ _ _)
      | (with_reducible exact LeO.refl _)
      | (with_reducible exact LeO.none _)
      | (with_reducible refine LeO.ite ?_ ?_)
      | (with_reducible refine LeO.bind ?_ (fun _ => ?_))
      | exact ih0 _ _ _
      | exact ih1 _ _ _ _ _
      | exact ih2 _ _ _ _ _
      | exact ih3 _ _ _ _ _ _
      | exact ih4 _ _ _ _ _ _ _ _ _
      | exact ih5 _ _ _ _ _ _ _ _ _ _
      | exact ih6 _ _ _ _ _ _ _ _ _
      | exact roundhouseref7_order.mono _ _ _ _ _ _
      | exact LeO.none _
      | refine LeO.ite ?_ ?_
      | refine LeO.bind ?_ (fun _ => ?_)
    · intro y0 y1 y2 y3 y4 y5 y6 y7 y8
      unfold roundhouseref7_Make.l4
      repeat' first
      | (with_reducible exact ih0 _ _ _)
      | (with_reducible exact ih1 _ _ _ _ _)
      | (with_reducible exact ih2 _ _ _ _ _)
      | (with_reducible exact ih3 _ _ _ _ _ _)
      | (with_reducible exact ih4 _ _ _ _ _ _ _ _ _)
      | (with_reducible exact ih5 _ _ _ _ _ _ _ _ _ _)
      | (with_reducible exact ih6 _ _ _ _ _ _ _ _ _)
      | (with_reducible exact roundhouseref7_order.mono _ _ _ _ _ _)
      | (with_reducible exact LeO.refl _)
      | (with_reducible exact LeO.none _)
      | (with_reducible refine LeO.ite ?_ ?_)
      | (with_reducible refine LeO.bind ?_ (fun _ => ?_))
      | exact ih0 _ _ _
      | exact ih1 _ _ _ _ _
      | exact ih2 _ _ _ _ _
      | exact ih3 _ _ _ _ _ _
      | exact ih4 _ _ _ _ _ _ _ _ _
      | exact ih5 _ _ _ _ _ _ _ _ _ _
      | exact ih6 _ _ _ _ _ _ _ _ _
      | exact roundhouseref7_order.mono _ _ _ _ _ _
      | exact LeO.none _
      | refine LeO.ite ?_ ?_
      | refine LeO.bind ?_ (fun _ => ?_)
theorem roundhouseref7_Make.mono : ∀ a0 k, LeO (roundhouseref7_Make.f k a0) (roundhouseref7_Make.f (k + 1) a0) := by
  intro a0 k
  obtain ⟨ih0, ih1, ih2, ih3, ih4, ih5, ih6⟩ := roundhouseref7_Make.mono_l k
  unfold roundhouseref7_Make.f
  repeat' first
      | (with_reducible exact ih0 _ _ _)
      | (with_reducible exact ih1 _ _ _ _ _)
      | (with_reducible exact ih2 _ _ _ _ _)
      | (with_reducible exact ih3 _ _ _ _ _ _)
      | (with_reducible exact ih4 _ _ _ _ _ _ _ _ _)
      | (with_reducible exact ih5 _ _ _ _ _ _ _ _ _ _)
      | (with_reducible exact ih6 _ _ _ _ _ _ _ _ _)
      | (with_reducible exact roundhouseref7_order.mono _ _ _ _ _ _)
      | (with_reducible exact LeO.refl _)
      | (with_reducible exact LeO.none _)
      | (with_reducible refine LeO.ite ?_ ?_)
      | (with_reducible refine LeO.bind ?_ (fun _ => ?_))
      | exact ih0 _ _ _
      | exact ih1 _ _ _ _ _
      | exact ih2 _ _ _ _ _
      | exact ih3 _ _ _ _ _ _
      | exact ih4 _ _ _ _ _ _ _ _ _
      | exact ih5 _ _ _ _ _ _ _ _ _ _
      | exact ih6 _ _ _ _ _ _ _ _ _
      | exact roundhouseref7_order.mono _ _ _ _ _ _
      | exact LeO.none _
      | refine LeO.ite ?_ ?_
      | refine LeO.bind ?_ (fun _ => ?_)
set_option maxHeartbeats 8000000 in
set_option maxRecDepth 100000 in
theorem roundhouseref7_Make.calls (k : Nat) (cs : Array Value) (l0 : List (S25)) (r : List Int) (w0 : World) (hsl : IsSlots cs l0) (h : roundhouseref7_Make.f k l0 = some r) :
    Calls Try.prog 16 #[.agg cs] w0 fun e w' => ∃ v0_ : Value, e = .returned (v0_) ∧ Kd.R (Kd.int .i64) 3 w' w0.heap.size (fun _ => True) v0_ r ∧ Below w0.heap.size w0 w' := by
  have hu25 := Try.underlying25
  have hu33 := pool33
  have hu26 := slots26
  have HSL := Aside0.mk hsl
  clear hsl
  have HL0 := Aside0.mk HSL.out.2.1
  have H : (if 127 ≤ 35184372088832 then (roundhouseref7_Make.l0 k l0 (List.replicate 127 0) 0) else (none)) = some r := h
  clear h
  by_cases c2 : 127 ≤ 35184372088832
  · rw [if_pos c2] at H
    have c2b0 := eq_true c2
    have c2b1 : decide (127 ≤ 35184372088832) = true := decide_eq_true c2
    clear c2
    obtain ⟨y179, hy179⟩ : ∃ y_ : List Int, y_ = (List.replicate 127 0) := ⟨_, rfl⟩
    replace H : (roundhouseref7_Make.l0 k l0 y179 0) = some r := by first | (rw [hy179]; with_reducible exact H) | (have H2_ := (Option.bind_some _ _).symm.trans H; rw [hy179]; with_reducible exact H2_) | (have H2_ := (Option.bind_some _ _).symm.trans H; with_reducible exact H2_) | with_reducible exact H | (rw [hy179]; exact H) | exact H
    have Ny179 := Aside0.mk hy179
    clear hy179
    have H' := Aside0.mk H
    clear H
    go_enter Try.func16, Try.ntmps16
    go_wp2_with (first | ((with_reducible refine gate_dst (N := 1) rfl ?_); refine box_event (W := w0) ?hg (N := 1) ?hd (cs := cs) (t := 33) ?hr ?_; (case hd => rfl); (case hg => rfl); (case hr => first | (go_simp; done) | (go_simp; rfl)); intro gp hgp w hbox hb; have HR0 := Aside0.mk (slots_C hbox HSL.out); have HB0 := Aside0.mk hb; have HB := Aside0.mk (Below.refl w.heap.size w); clear hgp hbox hb) | ((with_reducible refine gate_dst (N := 12) rfl ?_); refine Kd.R_make (Kd.int .i64) _ 3 rfl (N := 12) rfl 22 _ _ rfl 127 rfl rfl Try.underlying22 (.int .i64 0) 8 info3 rfl (by decide) (by omega) 0 (ok := fun _ => True) (okp := fun _ => True) rfl (fun _ hk => hk) trivial (by omega) (by omega) (Below.refl _ _) (Nat.le_refl _) ?_; intro v180 w3 ho4 hb hg_ hnew_; clear hg_ hnew_; (first | rw [← Ny179.out] at ho4 | (simp only [Int.reduceToNat] at ho4; rw [← Ny179.out] at ho4)); have n0_ := Aside0.mk (Kd.R_lower ho4 (below_size (by repeat (first | (with_reducible first | exact HB.out | apply below_alloc | apply pw_below_drewN | apply below_drew1) | exact HB.out)))); have n1_ := Aside0.mk (below_step (by repeat (first | (with_reducible first | exact HB.out | apply below_alloc | apply pw_below_drewN | apply below_drew1) | exact HB.out)) hb); clear HB; have HO181 := n0_; have HB := n1_; clear n0_ n1_; clear hb ho4))
    go_loopg [4] k (fun kq v4 w' => ∃ (x3_1 : List Int) (x4_1 : Int), v4 = .int .i64 x4_1 ∧ Aside0 (roundhouseref7_Make.l0 kq l0 x3_1 x4_1 = some r) ∧ Aside0 (kq ≤ k) ∧ Aside0 (Kd.R (Kd.int .i64) 3 w' w.heap.size (fun _ => True) v180 x3_1) ∧ Aside0 (Below w.heap.size w w'))
    case atStart => exact ⟨(y179), (0), (by first | rfl | (simp; done) | (simp [*]; done)), H', ⟨Nat.le_refl _⟩, ⟨by (with_reducible repeat (first | apply Kd.R_alloc | apply Kd.R_drewN | apply Kd.R_drew)); exact HO181.out⟩, ⟨by repeat (first | (with_reducible first | exact HB.out | apply below_alloc | apply pw_below_drewN | apply below_drew1) | exact HB.out)⟩⟩
    case round =>
      clear H'
      try clear c1
      try clear c2
      try clear c2b0
      try clear c2b1
      try clear p2
      obtain ⟨x3_1, x4_1, rfl, HA, HK1, HO_3, HB⟩ := hrel
      cases gk with
      | zero => exact absurd HA.out (by simp [roundhouseref7_Make.l0])
      | succ k1 =>
        have H := HA.out
        clear HA
        simp only [roundhouseref7_Make.l0] at H
        by_cases c5 : x4_1 < 127
        · rw [if_pos c5] at H
          have c5b0 : decide (x4_1 < 127) = true := decide_eq_true c5
          clear c5
          by_cases c6 : 0 ≤ x4_1
          · rw [if_pos c6] at H
            have c6b0 : decide (0 ≤ x4_1) = true := decide_eq_true c6
            clear c6
            by_cases c7 : x4_1 < (x3_1.length : Int)
            · rw [if_pos c7] at H
              have c7b0 : decide (x4_1 < (x3_1.length : Int)) = true := decide_eq_true c7
              clear c7
              obtain ⟨y182, hy182⟩ : ∃ y_ : List Int, y_ = (x3_1.set (x4_1 : Int).toNat (-1)) := ⟨_, rfl⟩
              replace H : (roundhouseref7_Make.l0 k1 l0 y182 (wrap64 (x4_1 + 1))) = some r := by first | (rw [hy182]; with_reducible exact H) | (have H2_ := (Option.bind_some _ _).symm.trans H; rw [hy182]; with_reducible exact H2_) | (have H2_ := (Option.bind_some _ _).symm.trans H; with_reducible exact H2_) | with_reducible exact H | (rw [hy182]; exact H) | exact H
              have Ny182 := Aside0.mk hy182
              clear hy182
              have H' := Aside0.mk H
              clear H
              have p8 : 0 ≤ (x4_1 : Int) := of_decide_eq_true (by first | (with_reducible assumption) | assumption)
              have q8 : (x4_1 : Int) < ((x3_1.length : Int) : Int) := of_decide_eq_true (by first | (with_reducible assumption) | assumption)
              obtain ⟨go8, co8, eo8, gb8, gl8, cl8, HG8⟩ := Kd.R_form HO_3.out (by omega)
              (first | cases eo8 | (injection eo8 with ea_ en_ ec_; (first | subst ea_ | (injection ea_ with ea_; subst ea_)); subst ec_; clear en_))
              have GB8 := Aside0.mk gb8
              have GG8 := Aside0.mk HG8
              clear gb8 gl8 HG8
              obtain ⟨hx8_0, hf8_0⟩ := Kd.R_celln 0 HO_3.out (x4_1 : Int) p8 q8
              replace p8 := eq_true p8
              replace q8 := eq_true q8
              have HP9 := Kd.R_putg HO_3.out (x4_1 : Int) (-1)
              go_wp2_with (first | ((with_reducible refine gate_store (t := 3) (p := 19) rfl ?_); refine store_event (t := 3) (p := 19) (v := ?vo_w10) (w1 := (wr.setCell ⟨go8, (x4_1 : Int).toNat, none⟩ (.int .i64 (-1)))) ?hg ?ho ?hn ?hr ?_; (case ho => rfl); (case hg => rfl); (case hn => rfl); (case hr => first | (go_simp; done) | (go_simp; rfl)); intro w10 hw; have hg : wr.grownBy w10 (some go8) := (by rw [hw]; exact HP9.2); have hp_ : Kd.R (Kd.int .i64) 3 w10 w.heap.size (fun _ => True) (.slice (some ⟨go8, 0, none⟩) x3_1.length co8) y182 := (by rw [hw, Ny182.out]; exact HP9.1); clear HP9; have n0_ := Aside0.mk (hp_); have n1_ := Aside0.mk ((by rw [hw]; exact below_set (HB.out) GB8.out : Below w.heap.size w w10)); clear HO_3; clear HB; have HO_3 := n0_; have HB := n1_; clear n0_ n1_; clear hg hw hp_))
              go_roundg k1
              case measure => have := HK1.out; omega
              case rel => exact ⟨(y182), (wrap64 (x4_1 + 1)), (by first | rfl | (simp; done) | (simp [*]; done)), H', ⟨by have := HK1.out; omega⟩, ⟨by (with_reducible repeat (first | apply Kd.R_alloc | apply Kd.R_drewN | apply Kd.R_drew)); exact HO_3.out⟩, ⟨by repeat (first | (with_reducible first | exact HB.out | apply below_alloc | apply pw_below_drewN | apply below_drew1) | exact HB.out)⟩⟩
            · rw [if_neg c7] at H
              exact absurd H (by simp)
          · rw [if_neg c6] at H
            exact absurd H (by simp)
        · rw [if_neg c5] at H
          have c5b0 : decide (x4_1 < 127) = false := decide_eq_false c5
          clear c5
          by_cases c11 : 64 ≤ 35184372088832
          · rw [if_pos c11] at H
            have c11b0 := eq_true c11
            have c11b1 : decide (64 ≤ 35184372088832) = true := decide_eq_true c11
            clear c11
            obtain ⟨y183, hy183⟩ : ∃ y_ : List Int, y_ = (List.replicate 64 0) := ⟨_, rfl⟩
            replace H : (roundhouseref7_Make.l1 k1 l0 x3_1 y183 127 true) = some r := by first | (rw [hy183]; with_reducible exact H) | (have H2_ := (Option.bind_some _ _).symm.trans H; rw [hy183]; with_reducible exact H2_) | (have H2_ := (Option.bind_some _ _).symm.trans H; with_reducible exact H2_) | with_reducible exact H | (rw [hy183]; exact H) | exact H
            have Ny183 := Aside0.mk hy183
            clear hy183
            have H' := Aside0.mk H
            clear H
            go_wp2_with (first | ((with_reducible refine gate_dst (N := 5) rfl ?_); refine box_event ?hg (N := 5) ?hd (cs := Array.replicate 64 (.int .i64 0)) (t := 65) ?hr ?_; (case hd => rfl); (case hg => rfl); (case hr => exact run65 _ _ _ rfl); intro gn hgn w12 hbox hb; have ho13 := arr_R hbox (Nat.le_of_eq hgn.symm) (by decide); clear hgn hbox; (first | rw [← Ny183.out] at ho13 | (simp only [Int.reduceToNat] at ho13; rw [← Ny183.out] at ho13)); have n0_ := Aside0.mk (Kd.R_elder' (by (with_reducible repeat (first | apply Kd.R_alloc | apply Kd.R_drewN | apply Kd.R_drew)); exact HO_3.out) (Kd.R_base ho13) hb); have n1_ := Aside0.mk (Kd.R_lower (Kd.R_new' ho13 (Kd.R_lt (by (with_reducible repeat (first | apply Kd.R_alloc | apply Kd.R_drewN | apply Kd.R_drew)); exact HO_3.out))) (below_size (by repeat (first | (with_reducible first | exact HB.out | apply below_alloc | apply pw_below_drewN | apply below_drew1) | exact HB.out)))); have n2_ := Aside0.mk (below_step (by repeat (first | (with_reducible first | exact HB.out | apply below_alloc | apply pw_below_drewN | apply below_drew1) | exact HB.out)) hb); clear HO_3; clear HB; have HO_3 := n0_; have HO185 := n1_; have HB := n2_; clear n0_ n1_ n2_; clear hb ho13))
            go_loopg [6, 7] k1 (fun kq v6 v7 w' => ∃ (x3_2 : List Int) (x5_2 : List Int) (x6_2 : Int) (x7_2 : Bool), v6 = .int .i64 x6_2 ∧ v7 = .bool x7_2 ∧ Aside0 (roundhouseref7_Make.l1 kq l0 x3_2 x5_2 x6_2 x7_2 = some r) ∧ Aside0 (kq ≤ k1) ∧ Aside0 (Kd.R (Kd.int .i64) 3 w' w.heap.size (fun k_ => some k_ ≠ ((.slice (some ⟨gn, 0, none⟩) 64 64) : Value).ownBlock) v180 x3_2) ∧ Aside0 (Kd.R (Kd.int .i64) 65 w' w.heap.size (fun k_ => some k_ ≠ (v180 : Value).ownBlock) (.slice (some ⟨gn, 0, none⟩) 64 64) x5_2) ∧ Aside0 (Below w.heap.size w w'))
            case atStart => exact ⟨(x3_1), (y183), (127), (true), (by first | rfl | (simp; done) | (simp [*]; done)), (by first | rfl | (simp; done) | (simp [*]; done)), H', ⟨Nat.le_refl _⟩, ⟨by (with_reducible repeat (first | apply Kd.R_alloc | apply Kd.R_drewN | apply Kd.R_drew)); exact Kd.R_mono HO_3.out (fun _ hk => hk.2)⟩, ⟨by (with_reducible repeat (first | apply Kd.R_alloc | apply Kd.R_drewN | apply Kd.R_drew)); exact Kd.R_mono HO185.out (fun _ hk => hk.2)⟩, ⟨by repeat (first | (with_reducible first | exact HB.out | apply below_alloc | apply pw_below_drewN | apply below_drew1) | exact HB.out)⟩⟩
            case round =>
              clear H'
              try clear c1
              try clear c2
              try clear c2b0
              try clear c2b1
              try clear p2
              try clear c5
              try clear c5b0
              try clear c6
              try clear c6b0
              try clear p6
              try clear c7
              try clear c7b0
              try clear p8
              try clear q8
              try clear hx8
              try clear hf8
              try clear c11
              try clear c11b0
              try clear c11b1
              try clear hx8_0
              try clear p2
              try clear p8
              try clear q8
              obtain ⟨x3_2, x5_2, x6_2, x7_2, rfl, rfl, HA, HK2, HO_3, HO_5, HB⟩ := hrel
              cases gk with
              | zero => exact absurd HA.out (by simp [roundhouseref7_Make.l1])
              | succ k2 =>
                have H := HA.out
                clear HA
                simp only [roundhouseref7_Make.l1] at H
                have HC14 := Aside0.mk H
                clear H
                go_upto_region 9 with (fail)
                go_cut [24] (fun v24 wc => ∃ (kq : Nat) (x24_13 : Bool), v24 = .bool x24_13 ∧ Aside0 (roundhouseref7_Make.j2 kq l0 x3_2 x5_2 x6_2 x24_13 = some r) ∧ Aside0 (kq ≤ k2) ∧ Aside0 (Kd.R (Kd.int .i64) 3 wc w.heap.size (fun k_ => some k_ ≠ ((.slice (some ⟨gn, 0, none⟩) 64 64) : Value).ownBlock) v180 x3_2) ∧ Aside0 (Kd.R (Kd.int .i64) 65 wc w.heap.size (fun k_ => some k_ ≠ (v180 : Value).ownBlock) (.slice (some ⟨gn, 0, none⟩) 64 64) x5_2) ∧ Aside0 (Below w.heap.size w wc))
                case first =>
                  have H := HC14.out
                  clear HC14
                  by_cases c15 : x7_2 = true
                  · subst c15
                    have H1 : (roundhouseref7_Make.j2 k2 l0 x3_2 x5_2 x6_2 (decide (x6_2 > 0))) = some r := by rw [if_pos rfl] at H; exact H
                    clear H
                    have H := H1
                    clear H1
                    have H' := Aside0.mk H
                    clear H
                    go_wp2
                    go_meet
                    case rel => exact ⟨_, (decide (x6_2 > 0)), (by first | rfl | (simp; done) | (simp [*]; done)), H', ⟨by have := HK1.out; have := HK2.out; first | omega | exact Nat.le_refl _⟩, ⟨by (with_reducible repeat (first | apply Kd.R_alloc | apply Kd.R_drewN | apply Kd.R_drew)); exact HO_3.out⟩, ⟨by (with_reducible repeat (first | apply Kd.R_alloc | apply Kd.R_drewN | apply Kd.R_drew)); exact HO_5.out⟩, ⟨by repeat (first | (with_reducible first | exact HB.out | apply below_alloc | apply pw_below_drewN | apply below_drew1) | exact HB.out)⟩⟩
                  · replace c15 := Bool.eq_false_iff.mpr c15
                    subst c15
                    have H1 : (roundhouseref7_Make.j2 k2 l0 x3_2 x5_2 x6_2 false) = some r := by rw [if_neg (show ¬ (false = true) by decide)] at H; exact H
                    clear H
                    have H := H1
                    clear H1
                    have H' := Aside0.mk H
                    clear H
                    go_wp2
                    go_meet
                    case rel => exact ⟨_, (false), (by first | rfl | (simp; done) | (simp [*]; done)), H', ⟨by have := HK1.out; have := HK2.out; first | omega | exact Nat.le_refl _⟩, ⟨by (with_reducible repeat (first | apply Kd.R_alloc | apply Kd.R_drewN | apply Kd.R_drew)); exact HO_3.out⟩, ⟨by (with_reducible repeat (first | apply Kd.R_alloc | apply Kd.R_drewN | apply Kd.R_drew)); exact HO_5.out⟩, ⟨by repeat (first | (with_reducible first | exact HB.out | apply below_alloc | apply pw_below_drewN | apply below_drew1) | exact HB.out)⟩⟩
                case rest =>
                  clear HC14
                  try clear c1
                  try clear c2
                  try clear c2b0
                  try clear c2b1
                  try clear p2
                  try clear c5
                  try clear c5b0
                  try clear c6
                  try clear c6b0
                  try clear p6
                  try clear c7
                  try clear c7b0
                  try clear p8
                  try clear q8
                  try clear hx8
                  try clear hf8
                  try clear c11
                  try clear c11b0
                  try clear c11b1
                  try clear c15
                  try clear hx8_0
                  try clear p2
                  try clear p6
                  try clear p8
                  try clear q8
                  obtain ⟨kq, x24_13, rfl, HA, HJ13, HO_3, HO_5, HB⟩ := hcut
                  cases kq with
                  | zero => exact absurd HA.out (by simp [roundhouseref7_Make.j2])
                  | succ kj13 =>
                    have H := HA.out
                    clear HA
                    simp only [roundhouseref7_Make.j2] at H
                    by_cases c16 : x24_13 = true
                    · subst c16
                      have H1 : (roundhouseref7_Make.l2 kj13 l0 x3_2 x5_2 x6_2 false 0) = some r := by rw [if_pos rfl] at H; exact H
                      clear H
                      have H := H1
                      clear H1
                      have H' := Aside0.mk H
                      clear H
                      go_wp2
                      go_loopg [6, 7, 8] kj13 (fun kq v6 v7 v8 w' => ∃ (x3_4 : List Int) (x5_4 : List Int) (x6_4 : Int) (x7_4 : Bool) (x8_4 : Int), v6 = .int .i64 x6_4 ∧ v7 = .bool x7_4 ∧ v8 = .int .i64 x8_4 ∧ Aside0 (roundhouseref7_Make.l2 kq l0 x3_4 x5_4 x6_4 x7_4 x8_4 = some r) ∧ Aside0 (kq ≤ kj13) ∧ Aside0 (Kd.R (Kd.int .i64) 3 w' w.heap.size (fun k_ => some k_ ≠ ((.slice (some ⟨gn, 0, none⟩) 64 64) : Value).ownBlock) v180 x3_4) ∧ Aside0 (Kd.R (Kd.int .i64) 65 w' w.heap.size (fun k_ => some k_ ≠ (v180 : Value).ownBlock) (.slice (some ⟨gn, 0, none⟩) 64 64) x5_4) ∧ Aside0 (Below w.heap.size w w'))
                      case atStart => exact ⟨(x3_2), (x5_2), (x6_2), (false), (0), (by first | rfl | (simp; done) | (simp [*]; done)), (by first | rfl | (simp; done) | (simp [*]; done)), (by first | rfl | (simp; done) | (simp [*]; done)), H', ⟨Nat.le_refl _⟩, ⟨by (with_reducible repeat (first | apply Kd.R_alloc | apply Kd.R_drewN | apply Kd.R_drew)); exact HO_3.out⟩, ⟨by (with_reducible repeat (first | apply Kd.R_alloc | apply Kd.R_drewN | apply Kd.R_drew)); exact HO_5.out⟩, ⟨by repeat (first | (with_reducible first | exact HB.out | apply below_alloc | apply pw_below_drewN | apply below_drew1) | exact HB.out)⟩⟩
                      case round =>
                        clear H'
                        try clear c1
                        try clear c2
                        try clear c2b0
                        try clear c2b1
                        try clear p2
                        try clear c5
                        try clear c5b0
                        try clear c6
                        try clear c6b0
                        try clear p6
                        try clear c7
                        try clear c7b0
                        try clear p8
                        try clear q8
                        try clear hx8
                        try clear hf8
                        try clear c11
                        try clear c11b0
                        try clear c11b1
                        try clear c15
                        try clear c16
                        try clear hx8_0
                        try clear p2
                        try clear p6
                        try clear p8
                        try clear q8
                        obtain ⟨x3_4, x5_4, x6_4, x7_4, x8_4, rfl, rfl, rfl, HA, HK4, HO_3, HO_5, HB⟩ := hrel
                        cases gk with
                        | zero => exact absurd HA.out (by simp [roundhouseref7_Make.l2])
                        | succ k4 =>
                          have H := HA.out
                          clear HA
                          simp only [roundhouseref7_Make.l2] at H
                          by_cases c17 : x8_4 < 64
                          · rw [if_pos c17] at H
                            have c17b0 : decide (x8_4 < 64) = true := decide_eq_true c17
                            clear c17
                            by_cases c18 : 0 ≤ x8_4
                            · rw [if_pos c18] at H
                              have c18b0 : decide (0 ≤ x8_4) = true := decide_eq_true c18
                              clear c18
                              by_cases c19 : x8_4 < (l0.length : Int)
                              · rw [if_pos c19] at H
                                have c19b0 : decide (x8_4 < (l0.length : Int)) = true := decide_eq_true c19
                                clear c19
                                by_cases c20 : ((rd_T25 l0 x8_4).f0) = 2
                                · rw [if_pos c20] at H
                                  have c20b0 : (((rd_T25 l0 x8_4).f0) == 2) = true := beq_iff_eq.mpr c20
                                  have c20b1 : (((rd_T25 l0 x8_4).f0) != 2) = false := bne_eq_false_iff_eq.mpr c20
                                  clear c20
                                  replace H := Option.bind_eq_some_iff.mp H
                                  obtain ⟨⟨t188, t189⟩, A210, H⟩ := H
                                  replace H : (roundhouseref7_Make.l3 k4 l0 x3_4 x5_4 x6_4 true x8_4 t188 t189 0) = some r := H
                                  have A21 := Aside0.mk A210
                                  clear A210
                                  have H' := Aside0.mk H
                                  clear H
                                  have p186 : 0 ≤ (x8_4 : Int) := of_decide_eq_true (by first | (with_reducible assumption) | assumption)
                                  have q186 : x8_4 < (l0.length : Int) := of_decide_eq_true (by first | (with_reducible assumption) | assumption)
                                  obtain ⟨ad186, e186, hx186_0, hx186_1, hx186_2, hx186_3, hx186_4⟩ := at_T25 HR0.out x8_4 p186 q186
                                  cases e186
                                  replace hx186_0 := (HB.out.cell (World.block_lt_of_cell? w _ hx186_0)).trans hx186_0
                                  replace hx186_1 := (HB.out.cell (World.block_lt_of_cell? w _ hx186_1)).trans hx186_1
                                  replace hx186_2 := (HB.out.cell (World.block_lt_of_cell? w _ hx186_2)).trans hx186_2
                                  replace hx186_3 := (HB.out.cell (World.block_lt_of_cell? w _ hx186_3)).trans hx186_3
                                  replace hx186_4 := (HB.out.cell (World.block_lt_of_cell? w _ hx186_4)).trans hx186_4
                                  replace p186 := eq_true p186
                                  replace q186 := eq_true q186
                                  simp only [add_in] at hx186_0 hx186_1 hx186_2 hx186_3 hx186_4
                                  have q186a := eq_true (show x8_4 < (64 : Int) from by have h1_ := of_eq_true q186; have h2_ := HL0.out; omega)
                                  have p187 : 0 ≤ (x8_4 : Int) := of_decide_eq_true (by first | (with_reducible assumption) | assumption)
                                  have q187 : x8_4 < (l0.length : Int) := of_decide_eq_true (by first | (with_reducible assumption) | assumption)
                                  obtain ⟨ad187, e187, hx187_0, hx187_1, hx187_2, hx187_3, hx187_4⟩ := at_T25 HR0.out x8_4 p187 q187
                                  cases e187
                                  replace hx187_0 := (HB.out.cell (World.block_lt_of_cell? w _ hx187_0)).trans hx187_0
                                  replace hx187_1 := (HB.out.cell (World.block_lt_of_cell? w _ hx187_1)).trans hx187_1
                                  replace hx187_2 := (HB.out.cell (World.block_lt_of_cell? w _ hx187_2)).trans hx187_2
                                  replace hx187_3 := (HB.out.cell (World.block_lt_of_cell? w _ hx187_3)).trans hx187_3
                                  replace hx187_4 := (HB.out.cell (World.block_lt_of_cell? w _ hx187_4)).trans hx187_4
                                  replace p187 := eq_true p187
                                  replace q187 := eq_true q187
                                  simp only [add_in] at hx187_0 hx187_1 hx187_2 hx187_3 hx187_4
                                  have q187a := eq_true (show x8_4 < (64 : Int) from by have h1_ := of_eq_true q187; have h2_ := HL0.out; omega)
                                  go_wp2_with (first | ((with_reducible refine gate_callee (f := 31) rfl ?_); refine goesL_ (some 40) rfl rfl Try.func31 (by kernel_rfl) rfl #[.agg #[.int .i64 ((rd_T25 l0 x8_4).f0), .int .i64 ((rd_T25 l0 x8_4).f1), .int .i64 ((rd_T25 l0 x8_4).f2), .int .i64 ((rd_T25 l0 x8_4).f3), .int .i64 ((rd_T25 l0 x8_4).f4)]] rfl (by (try simp only [List.map_toArray, List.map_cons, List.map_nil]); first | done | rfl | (simp only [List.length_drop, List.length_take]; rfl)) ?_; (with_reducible refine (roundhouseref7_order.calls k4 ((rd_T25 l0 x8_4).f0) ((rd_T25 l0 x8_4).f1) ((rd_T25 l0 x8_4).f2) ((rd_T25 l0 x8_4).f3) ((rd_T25 l0 x8_4).f4) t188 t189 _ A21.out).mono ?_); rintro e w22 ⟨rfl, hb⟩; refine ⟨_, rfl, ?_⟩; have n0_ := Aside0.mk (Kd.R_below (by (with_reducible repeat (first | apply Kd.R_alloc | apply Kd.R_drewN | apply Kd.R_drew)); exact HO_3.out) hb); have n1_ := Aside0.mk (Kd.R_below (by (with_reducible repeat (first | apply Kd.R_alloc | apply Kd.R_drewN | apply Kd.R_drew)); exact HO_5.out) hb); have n2_ := Aside0.mk (below_step (by repeat (first | (with_reducible first | exact HB.out | apply below_alloc | apply pw_below_drewN | apply below_drew1) | exact HB.out)) hb); clear HO_3; clear HO_5; clear HB; have HO_3 := n0_; have HO_5 := n1_; have HB := n2_; clear n0_ n1_ n2_; (try clear hb); (try clear hb2); (try clear hk); (try clear hi)))
                                  go_loopg [6, 11] k4 (fun kq v6 v11 w' => ∃ (x3_5 : List Int) (x5_5 : List Int) (x6_5 : Int) (x11_5 : Int), v6 = .int .i64 x6_5 ∧ v11 = .int .i64 x11_5 ∧ Aside0 (roundhouseref7_Make.l3 kq l0 x3_5 x5_5 x6_5 true x8_4 t188 t189 x11_5 = some r) ∧ Aside0 (kq ≤ k4) ∧ Aside0 (Kd.R (Kd.int .i64) 3 w' w.heap.size (fun k_ => some k_ ≠ ((.slice (some ⟨gn, 0, none⟩) 64 64) : Value).ownBlock) v180 x3_5) ∧ Aside0 (Kd.R (Kd.int .i64) 65 w' w.heap.size (fun k_ => some k_ ≠ (v180 : Value).ownBlock) (.slice (some ⟨gn, 0, none⟩) 64 64) x5_5) ∧ Aside0 (Below w.heap.size w w'))
                                  case atStart => exact ⟨(x3_4), (x5_4), (x6_4), (0), (by first | rfl | (simp; done) | (simp [*]; done)), (by first | rfl | (simp; done) | (simp [*]; done)), H', ⟨Nat.le_refl _⟩, ⟨by (with_reducible repeat (first | apply Kd.R_alloc | apply Kd.R_drewN | apply Kd.R_drew)); exact HO_3.out⟩, ⟨by (with_reducible repeat (first | apply Kd.R_alloc | apply Kd.R_drewN | apply Kd.R_drew)); exact HO_5.out⟩, ⟨by repeat (first | (with_reducible first | exact HB.out | apply below_alloc | apply pw_below_drewN | apply below_drew1) | exact HB.out)⟩⟩
                                  case round =>
                                    clear H'
                                    try clear c1
                                    try clear p1
                                    try clear q1
                                    try clear hx1
                                    try clear c2
                                    try clear c2b0
                                    try clear c2b1
                                    try clear p2
                                    try clear c3
                                    try clear c5
                                    try clear c5b0
                                    try clear c6
                                    try clear c6b0
                                    try clear p6
                                    try clear c7
                                    try clear c7b0
                                    try clear p8
                                    try clear q8
                                    try clear hx8
                                    try clear hf8
                                    try clear c11
                                    try clear c11b0
                                    try clear c11b1
                                    try clear c15
                                    try clear c16
                                    try clear c17
                                    try clear c17b0
                                    try clear c18
                                    try clear c18b0
                                    try clear p18
                                    try clear q18
                                    try clear hx18
                                    try clear c19
                                    try clear c19b0
                                    try clear c20
                                    try clear c20b0
                                    try clear c20b1
                                    try clear hx186_0
                                    try clear hx186_1
                                    try clear hx186_2
                                    try clear hx186_3
                                    try clear hx186_4
                                    try clear hx187_0
                                    try clear hx187_1
                                    try clear hx187_2
                                    try clear hx187_3
                                    try clear hx187_4
                                    try clear hx8_0
                                    try clear p186
                                    try clear p187
                                    try clear p2
                                    try clear p6
                                    try clear p8
                                    try clear q186
                                    try clear q187
                                    try clear q8
                                    obtain ⟨x3_5, x5_5, x6_5, x11_5, rfl, rfl, HA, HK5, HO_3, HO_5, HB⟩ := hrel
                                    cases gk with
                                    | zero => exact absurd HA.out (by simp [roundhouseref7_Make.l3])
                                    | succ k5 =>
                                      have H := HA.out
                                      clear HA
                                      simp only [roundhouseref7_Make.l3] at H
                                      have HC23 := Aside0.mk H
                                      clear H
                                      go_upto_region 18 with (fail)
                                      go_cut [53] (fun v53 wc => ∃ (kq : Nat) (x53_22 : Bool), v53 = .bool x53_22 ∧ Aside0 (roundhouseref7_Make.j5 kq l0 x3_5 x5_5 x6_5 true x8_4 t188 t189 x11_5 x53_22 = some r) ∧ Aside0 (kq ≤ k5) ∧ Aside0 (Kd.R (Kd.int .i64) 3 wc w.heap.size (fun k_ => some k_ ≠ ((.slice (some ⟨gn, 0, none⟩) 64 64) : Value).ownBlock) v180 x3_5) ∧ Aside0 (Kd.R (Kd.int .i64) 65 wc w.heap.size (fun k_ => some k_ ≠ (v180 : Value).ownBlock) (.slice (some ⟨gn, 0, none⟩) 64 64) x5_5) ∧ Aside0 (Below w.heap.size w wc))
                                      case first =>
                                        have H := HC23.out
                                        clear HC23
                                        by_cases c24 : 0 ≤ x8_4
                                        · rw [if_pos c24] at H
                                          have c24b0 : decide (0 ≤ x8_4) = true := decide_eq_true c24
                                          clear c24
                                          (first | rw [c24b0] | (simp only [i64_w, i32_w]; rw [c24b0]) | skip)
                                          by_cases c25 : x8_4 < (l0.length : Int)
                                          · rw [if_pos c25] at H
                                            have c25b0 : decide (x8_4 < (l0.length : Int)) = true := decide_eq_true c25
                                            clear c25
                                            by_cases c26 : x11_5 < ((rd_T25 l0 x8_4).f3)
                                            · rw [if_pos c26] at H
                                              have c26b0 : decide (x11_5 < ((rd_T25 l0 x8_4).f3)) = true := decide_eq_true c26
                                              clear c26
                                              have H' := Aside0.mk H
                                              clear H
                                              have p190 : 0 ≤ (x8_4 : Int) := of_decide_eq_true (by first | (with_reducible assumption) | assumption)
                                              have q190 : x8_4 < (l0.length : Int) := of_decide_eq_true (by first | (with_reducible assumption) | assumption)
                                              obtain ⟨ad190, e190, hx190_0, hx190_1, hx190_2, hx190_3, hx190_4⟩ := at_T25 HR0.out x8_4 p190 q190
                                              cases e190
                                              replace hx190_0 := (HB.out.cell (World.block_lt_of_cell? w _ hx190_0)).trans hx190_0
                                              replace hx190_1 := (HB.out.cell (World.block_lt_of_cell? w _ hx190_1)).trans hx190_1
                                              replace hx190_2 := (HB.out.cell (World.block_lt_of_cell? w _ hx190_2)).trans hx190_2
                                              replace hx190_3 := (HB.out.cell (World.block_lt_of_cell? w _ hx190_3)).trans hx190_3
                                              replace hx190_4 := (HB.out.cell (World.block_lt_of_cell? w _ hx190_4)).trans hx190_4
                                              replace p190 := eq_true p190
                                              replace q190 := eq_true q190
                                              simp only [add_in] at hx190_0 hx190_1 hx190_2 hx190_3 hx190_4
                                              have q190a := eq_true (show x8_4 < (64 : Int) from by have h1_ := of_eq_true q190; have h2_ := HL0.out; omega)
                                              go_wp2
                                              go_meet
                                              case rel => exact ⟨_, (decide (x6_5 > 0)), (by first | rfl | (simp; done) | (simp [*]; done)), H', ⟨by have := HK1.out; have := HK2.out; have := HJ13.out; have := HK4.out; have := HK5.out; first | omega | exact Nat.le_refl _⟩, ⟨by (with_reducible repeat (first | apply Kd.R_alloc | apply Kd.R_drewN | apply Kd.R_drew)); exact HO_3.out⟩, ⟨by (with_reducible repeat (first | apply Kd.R_alloc | apply Kd.R_drewN | apply Kd.R_drew)); exact HO_5.out⟩, ⟨by repeat (first | (with_reducible first | exact HB.out | apply below_alloc | apply pw_below_drewN | apply below_drew1) | exact HB.out)⟩⟩
                                            · rw [if_neg c26] at H
                                              have c26b0 : decide (x11_5 < ((rd_T25 l0 x8_4).f3)) = false := decide_eq_false c26
                                              clear c26
                                              have H' := Aside0.mk H
                                              clear H
                                              have p190 : 0 ≤ (x8_4 : Int) := of_decide_eq_true (by first | (with_reducible assumption) | assumption)
                                              have q190 : x8_4 < (l0.length : Int) := of_decide_eq_true (by first | (with_reducible assumption) | assumption)
                                              obtain ⟨ad190, e190, hx190_0, hx190_1, hx190_2, hx190_3, hx190_4⟩ := at_T25 HR0.out x8_4 p190 q190
                                              cases e190
                                              replace hx190_0 := (HB.out.cell (World.block_lt_of_cell? w _ hx190_0)).trans hx190_0
                                              replace hx190_1 := (HB.out.cell (World.block_lt_of_cell? w _ hx190_1)).trans hx190_1
                                              replace hx190_2 := (HB.out.cell (World.block_lt_of_cell? w _ hx190_2)).trans hx190_2
                                              replace hx190_3 := (HB.out.cell (World.block_lt_of_cell? w _ hx190_3)).trans hx190_3
                                              replace hx190_4 := (HB.out.cell (World.block_lt_of_cell? w _ hx190_4)).trans hx190_4
                                              replace p190 := eq_true p190
                                              replace q190 := eq_true q190
                                              simp only [add_in] at hx190_0 hx190_1 hx190_2 hx190_3 hx190_4
                                              have q190a := eq_true (show x8_4 < (64 : Int) from by have h1_ := of_eq_true q190; have h2_ := HL0.out; omega)
                                              go_wp2
                                              go_meet
                                              case rel => exact ⟨_, (false), (by first | rfl | (simp; done) | (simp [*]; done)), H', ⟨by have := HK1.out; have := HK2.out; have := HJ13.out; have := HK4.out; have := HK5.out; first | omega | exact Nat.le_refl _⟩, ⟨by (with_reducible repeat (first | apply Kd.R_alloc | apply Kd.R_drewN | apply Kd.R_drew)); exact HO_3.out⟩, ⟨by (with_reducible repeat (first | apply Kd.R_alloc | apply Kd.R_drewN | apply Kd.R_drew)); exact HO_5.out⟩, ⟨by repeat (first | (with_reducible first | exact HB.out | apply below_alloc | apply pw_below_drewN | apply below_drew1) | exact HB.out)⟩⟩
                                          · rw [if_neg c25] at H
                                            exact absurd H (by simp)
                                        · rw [if_neg c24] at H
                                          exact absurd H (by simp)
                                      case rest =>
                                        clear HC23
                                        try clear c1
                                        try clear p1
                                        try clear q1
                                        try clear hx1
                                        try clear c2
                                        try clear c2b0
                                        try clear c2b1
                                        try clear p2
                                        try clear c3
                                        try clear c5
                                        try clear c5b0
                                        try clear c6
                                        try clear c6b0
                                        try clear p6
                                        try clear c7
                                        try clear c7b0
                                        try clear p8
                                        try clear q8
                                        try clear hx8
                                        try clear hf8
                                        try clear c11
                                        try clear c11b0
                                        try clear c11b1
                                        try clear c15
                                        try clear c16
                                        try clear c17
                                        try clear c17b0
                                        try clear c18
                                        try clear c18b0
                                        try clear p18
                                        try clear q18
                                        try clear hx18
                                        try clear c19
                                        try clear c19b0
                                        try clear p19
                                        try clear q19
                                        try clear hx19
                                        try clear c20
                                        try clear c20b0
                                        try clear c20b1
                                        try clear c24
                                        try clear c24b0
                                        try clear c25
                                        try clear c25b0
                                        try clear c26
                                        try clear c26b0
                                        try clear hx186_0
                                        try clear hx186_1
                                        try clear hx186_2
                                        try clear hx186_3
                                        try clear hx186_4
                                        try clear hx187_0
                                        try clear hx187_1
                                        try clear hx187_2
                                        try clear hx187_3
                                        try clear hx187_4
                                        try clear hx190_0
                                        try clear hx190_1
                                        try clear hx190_2
                                        try clear hx190_3
                                        try clear hx190_4
                                        try clear hx8_0
                                        try clear p1
                                        try clear p18
                                        try clear p186
                                        try clear p187
                                        try clear p190
                                        try clear p2
                                        try clear p6
                                        try clear p8
                                        try clear q1
                                        try clear q18
                                        try clear q186
                                        try clear q187
                                        try clear q190
                                        try clear q8
                                        obtain ⟨kq, x53_22, rfl, HA, HJ22, HO_3, HO_5, HB⟩ := hcut
                                        cases kq with
                                        | zero => exact absurd HA.out (by simp [roundhouseref7_Make.j5])
                                        | succ kj22 =>
                                          have H := HA.out
                                          clear HA
                                          simp only [roundhouseref7_Make.j5] at H
                                          by_cases c27 : x53_22 = true
                                          · subst c27
                                            have H1 : (roundhouseref7_Make.l4 kj22 l0 x3_5 x5_5 x6_5 true x8_4 t188 t189 x11_5) = some r := by rw [if_pos rfl] at H; exact H
                                            clear H
                                            have H := H1
                                            clear H1
                                            have H' := Aside0.mk H
                                            clear H
                                            go_wp2
                                            go_loopg [] kj22 (fun kq w' => ∃ (x5_7 : List Int), Aside0 (roundhouseref7_Make.l4 kq l0 x3_5 x5_7 x6_5 true x8_4 t188 t189 x11_5 = some r) ∧ Aside0 (kq ≤ kj22) ∧ Aside0 (Kd.R (Kd.int .i64) 3 w' w.heap.size (fun k_ => some k_ ≠ ((.slice (some ⟨gn, 0, none⟩) 64 64) : Value).ownBlock) v180 x3_5) ∧ Aside0 (Kd.R (Kd.int .i64) 65 w' w.heap.size (fun k_ => some k_ ≠ (v180 : Value).ownBlock) (.slice (some ⟨gn, 0, none⟩) 64 64) x5_7) ∧ Aside0 (Below w.heap.size w w'))
                                            case atStart => exact ⟨(x5_5), H', ⟨Nat.le_refl _⟩, ⟨by (with_reducible repeat (first | apply Kd.R_alloc | apply Kd.R_drewN | apply Kd.R_drew)); exact HO_3.out⟩, ⟨by (with_reducible repeat (first | apply Kd.R_alloc | apply Kd.R_drewN | apply Kd.R_drew)); exact HO_5.out⟩, ⟨by repeat (first | (with_reducible first | exact HB.out | apply below_alloc | apply pw_below_drewN | apply below_drew1) | exact HB.out)⟩⟩
                                            case round =>
                                              clear H'
                                              try clear c1
                                              try clear p1
                                              try clear q1
                                              try clear hx1
                                              try clear c2
                                              try clear c2b0
                                              try clear c2b1
                                              try clear p2
                                              try clear c3
                                              try clear c5
                                              try clear c5b0
                                              try clear c6
                                              try clear c6b0
                                              try clear p6
                                              try clear c7
                                              try clear c7b0
                                              try clear p8
                                              try clear q8
                                              try clear hx8
                                              try clear hf8
                                              try clear c11
                                              try clear c11b0
                                              try clear c11b1
                                              try clear c15
                                              try clear c16
                                              try clear c17
                                              try clear c17b0
                                              try clear c18
                                              try clear c18b0
                                              try clear p18
                                              try clear q18
                                              try clear hx18
                                              try clear c19
                                              try clear c19b0
                                              try clear p19
                                              try clear q19
                                              try clear hx19
                                              try clear c20
                                              try clear c20b0
                                              try clear c20b1
                                              try clear c24
                                              try clear c24b0
                                              try clear c25
                                              try clear c25b0
                                              try clear c26
                                              try clear c26b0
                                              try clear c27
                                              try clear hx186_0
                                              try clear hx186_1
                                              try clear hx186_2
                                              try clear hx186_3
                                              try clear hx186_4
                                              try clear hx187_0
                                              try clear hx187_1
                                              try clear hx187_2
                                              try clear hx187_3
                                              try clear hx187_4
                                              try clear hx190_0
                                              try clear hx190_1
                                              try clear hx190_2
                                              try clear hx190_3
                                              try clear hx190_4
                                              try clear hx8_0
                                              try clear p1
                                              try clear p18
                                              try clear p186
                                              try clear p187
                                              try clear p19
                                              try clear p190
                                              try clear p2
                                              try clear p6
                                              try clear p8
                                              try clear q1
                                              try clear q18
                                              try clear q186
                                              try clear q187
                                              try clear q19
                                              try clear q190
                                              try clear q8
                                              obtain ⟨x5_7, HA, HK7, HO_3, HO_5, HB⟩ := hrel
                                              cases gk with
                                              | zero => exact absurd HA.out (by simp [roundhouseref7_Make.l4])
                                              | succ k7 =>
                                                have H := HA.out
                                                clear HA
                                                simp only [roundhouseref7_Make.l4] at H
                                                by_cases c28 : 0 ≤ x8_4
                                                · rw [if_pos c28] at H
                                                  have c28b0 : decide (0 ≤ x8_4) = true := decide_eq_true c28
                                                  clear c28
                                                  by_cases c29 : x8_4 < (x5_7.length : Int)
                                                  · rw [if_pos c29] at H
                                                    have c29b0 : decide (x8_4 < (x5_7.length : Int)) = true := decide_eq_true c29
                                                    clear c29
                                                    obtain ⟨ji30, hji30⟩ : ∃ j_ : Int, (Int.tmod (wrap64 (t188 + (wrap64 ((rd x5_7 x8_4) * t189)))) 127) = j_ := ⟨_, rfl⟩
                                                    replace H : (if 0 ≤ (ji30) then (if (ji30) < (x3_5.length : Int) then (if (rd x3_5 (ji30)) ≥ 0 then (roundhouseref7_Make.l4 k7 l0 x3_5 (x5_7.set (x8_4 : Int).toNat (wrap64 ((rd x5_7 x8_4) + 1))) x6_5 true x8_4 t188 t189 x11_5) else (roundhouseref7_Make.l3 k7 l0 (x3_5.set ((ji30) : Int).toNat x8_4) x5_7 (wrap64 (x6_5 - 1)) true x8_4 t188 t189 (wrap64 (x11_5 + 1)))) else (none)) else (none)) = some r := by first | (rw [hji30] at H; exact H) | (simp only [hji30] at H ⊢; exact H)
                                                    by_cases c31 : 0 ≤ (ji30)
                                                    · rw [if_pos c31] at H
                                                      have c31b0 : decide (0 ≤ (ji30)) = true := decide_eq_true c31
                                                      clear c31
                                                      by_cases c32 : (ji30) < (x3_5.length : Int)
                                                      · rw [if_pos c32] at H
                                                        have c32b0 : decide ((ji30) < (x3_5.length : Int)) = true := decide_eq_true c32
                                                        clear c32
                                                        by_cases c33 : (rd x3_5 (ji30)) ≥ 0
                                                        · rw [if_pos c33] at H
                                                          have c33b0 : decide (0 ≤ (rd x3_5 (ji30))) = true := decide_eq_true c33
                                                          clear c33
                                                          obtain ⟨y194, hy194⟩ : ∃ y_ : List Int, y_ = (x5_7.set (x8_4 : Int).toNat (wrap64 ((rd x5_7 x8_4) + 1))) := ⟨_, rfl⟩
                                                          replace H : (roundhouseref7_Make.l4 k7 l0 x3_5 y194 x6_5 true x8_4 t188 t189 x11_5) = some r := by first | (rw [hy194]; with_reducible exact H) | (have H2_ := (Option.bind_some _ _).symm.trans H; rw [hy194]; with_reducible exact H2_) | (have H2_ := (Option.bind_some _ _).symm.trans H; with_reducible exact H2_) | with_reducible exact H | (rw [hy194]; exact H) | exact H
                                                          have Ny194 := Aside0.mk hy194
                                                          clear hy194
                                                          have H' := Aside0.mk H
                                                          clear H
                                                          have p191 : 0 ≤ (x8_4 : Int) := of_decide_eq_true (by first | (with_reducible assumption) | assumption)
                                                          have q191 : x8_4 < (x5_7.length : Int) := of_decide_eq_true (by first | (with_reducible assumption) | assumption)
                                                          obtain ⟨ad191, e191, hx191_0⟩ := Kd.at_int (Kd.R_reads' HO_5.out).2.2 x8_4 p191 q191
                                                          cases e191
                                                          (first | simp only [add_plain] at hx191_0 | skip)
                                                          replace p191 := eq_true p191
                                                          replace q191 := eq_true q191
                                                          have q191a := eq_true (show x8_4 < (64 : Int) from by have h1_ := of_eq_true q191; have h2_ := (Kd.R_reads' HO_5.out).1; omega)
                                                          obtain ⟨Ao36, co36, eo36⟩ := Kd.R_slice HO_3.out
                                                          subst eo36
                                                          have p192 : 0 ≤ ((ji30) : Int) := of_decide_eq_true (by first | (with_reducible assumption) | assumption)
                                                          have q192 : (ji30) < (x3_5.length : Int) := of_decide_eq_true (by first | (with_reducible assumption) | assumption)
                                                          obtain ⟨ad192, e192, hx192_0⟩ := Kd.at_int (Kd.R_reads' HO_3.out).2.2 (ji30) p192 q192
                                                          cases e192
                                                          replace p192 := eq_true p192
                                                          replace q192 := eq_true q192
                                                          have p193 : 0 ≤ (x8_4 : Int) := of_decide_eq_true (by first | (with_reducible assumption) | assumption)
                                                          have q193 : x8_4 < (x5_7.length : Int) := of_decide_eq_true (by first | (with_reducible assumption) | assumption)
                                                          obtain ⟨ad193, e193, hx193_0⟩ := Kd.at_int (Kd.R_reads' HO_5.out).2.2 x8_4 p193 q193
                                                          cases e193
                                                          (first | simp only [add_plain] at hx193_0 | skip)
                                                          replace p193 := eq_true p193
                                                          replace q193 := eq_true q193
                                                          have q193a := eq_true (show x8_4 < (64 : Int) from by have h1_ := of_eq_true q193; have h2_ := (Kd.R_reads' HO_5.out).1; omega)
                                                          have p34 : 0 ≤ (x8_4 : Int) := of_decide_eq_true (by first | (with_reducible assumption) | assumption)
                                                          have q34 : (x8_4 : Int) < ((x5_7.length : Int) : Int) := of_decide_eq_true (by first | (with_reducible assumption) | assumption)
                                                          obtain ⟨go_, co_, eo_, gb34, gl34, cl34, HG34⟩ := Kd.R_form HO_5.out (by omega)
                                                          injection eo_ with ea_ en_ ec_; injection ea_ with ea_; injection ea_ with ea_; subst ea_; subst ec_; clear en_
                                                          have GB34 := Aside0.mk gb34
                                                          have GG34 := Aside0.mk HG34
                                                          clear gb34 gl34 HG34
                                                          (first | simp only [add_plain] at hx191_0 | skip)
                                                          (first | simp only [add_plain] at hx193_0 | skip)
                                                          obtain ⟨hx34_0, hf34_0⟩ := Kd.R_celln 0 HO_5.out (x8_4 : Int) p34 (by have h2_ := (Kd.R_reads' HO_5.out).1; omega)
                                                          replace p34 := eq_true p34
                                                          replace q34 := eq_true q34
                                                          have q34a := eq_true (show x8_4 < (64 : Int) from by have h1_ := of_eq_true q34; have h2_ := (Kd.R_reads' HO_5.out).1; omega)
                                                          have HP37 := Kd.R_putg HO_5.out (x8_4 : Int) (wrap64 ((rd x5_7 x8_4) + 1))
                                                          go_wp2_with (first | ((with_reducible refine gate_store (t := 3) (p := 72) rfl ?_); refine store_event (t := 3) (p := 72) (v := ?vo_w38) (w1 := (wr.setCell ⟨gn, (x8_4 : Int).toNat, none⟩ (.int .i64 (wrap64 ((rd x5_7 x8_4) + 1))))) ?hg ?ho ?hn ?hr ?_; (case ho => rfl); (case hg => rfl); (case hn => rfl); (case hr => first | (go_simp; done) | (go_simp; rfl)); intro w38 hw; have hg : wr.grownBy w38 (some gn) := (by rw [hw]; exact HP37.2); have hp_ : Kd.R (Kd.int .i64) 65 w38 w.heap.size (fun k_ => some k_ ≠ (.slice (some ad192) x3_5.length co36 : Value).ownBlock) (.slice (some ⟨gn, 0, none⟩) 64 64) y194 := (by rw [hw, Ny194.out]; exact HP37.1); clear HP37; have n0_ := Aside0.mk (Kd.R_after (v := (.slice (some ⟨gn, 0, none⟩) 64 64)) (v1 := (.slice (some ⟨gn, 0, none⟩) 64 64)) (ok := (fun _ => True)) (by (with_reducible repeat (first | apply Kd.R_alloc | apply Kd.R_drewN | apply Kd.R_drew)); exact Kd.R_mono HO_3.out (fun _ hk => ⟨trivial, hk⟩)) hg (.inl rfl)); have n1_ := Aside0.mk (hp_); have n2_ := Aside0.mk ((by rw [hw]; exact below_set (HB.out) GB34.out : Below w.heap.size w w38)); clear HO_3; clear HO_5; clear HB; have HO_3 := n0_; have HO_5 := n1_; have HB := n2_; clear n0_ n1_ n2_; clear hg hw hp_))
                                                          go_roundg k7
                                                          case measure => have := HK1.out; have := HK2.out; have := HJ13.out; have := HK4.out; have := HK5.out; have := HJ22.out; have := HK7.out; omega
                                                          case rel => exact ⟨(y194), H', ⟨by have := HK1.out; have := HK2.out; have := HJ13.out; have := HK4.out; have := HK5.out; have := HJ22.out; have := HK7.out; omega⟩, ⟨by (with_reducible repeat (first | apply Kd.R_alloc | apply Kd.R_drewN | apply Kd.R_drew)); exact Kd.R_mono HO_3.out (fun _ hk => hk.2)⟩, ⟨by (with_reducible repeat (first | apply Kd.R_alloc | apply Kd.R_drewN | apply Kd.R_drew)); exact HO_5.out⟩, ⟨by repeat (first | (with_reducible first | exact HB.out | apply below_alloc | apply pw_below_drewN | apply below_drew1) | exact HB.out)⟩⟩
                                                        · rw [if_neg c33] at H
                                                          have c33b0 : decide (0 ≤ (rd x3_5 (ji30))) = false := decide_eq_false c33
                                                          clear c33
                                                          obtain ⟨y196, hy196⟩ : ∃ y_ : List Int, y_ = (x3_5.set ((ji30) : Int).toNat x8_4) := ⟨_, rfl⟩
                                                          replace H : (roundhouseref7_Make.l3 k7 l0 y196 x5_7 (wrap64 (x6_5 - 1)) true x8_4 t188 t189 (wrap64 (x11_5 + 1))) = some r := by first | (rw [hy196]; with_reducible exact H) | (have H2_ := (Option.bind_some _ _).symm.trans H; rw [hy196]; with_reducible exact H2_) | (have H2_ := (Option.bind_some _ _).symm.trans H; with_reducible exact H2_) | with_reducible exact H | (rw [hy196]; exact H) | exact H
                                                          have Ny196 := Aside0.mk hy196
                                                          clear hy196
                                                          have H' := Aside0.mk H
                                                          clear H
                                                          have p191 : 0 ≤ (x8_4 : Int) := of_decide_eq_true (by first | (with_reducible assumption) | assumption)
                                                          have q191 : x8_4 < (x5_7.length : Int) := of_decide_eq_true (by first | (with_reducible assumption) | assumption)
                                                          obtain ⟨ad191, e191, hx191_0⟩ := Kd.at_int (Kd.R_reads' HO_5.out).2.2 x8_4 p191 q191
                                                          cases e191
                                                          (first | simp only [add_plain] at hx191_0 | skip)
                                                          replace p191 := eq_true p191
                                                          replace q191 := eq_true q191
                                                          have q191a := eq_true (show x8_4 < (64 : Int) from by have h1_ := of_eq_true q191; have h2_ := (Kd.R_reads' HO_5.out).1; omega)
                                                          obtain ⟨Ao41, co41, eo41⟩ := Kd.R_slice HO_3.out
                                                          subst eo41
                                                          have p192 : 0 ≤ ((ji30) : Int) := of_decide_eq_true (by first | (with_reducible assumption) | assumption)
                                                          have q192 : (ji30) < (x3_5.length : Int) := of_decide_eq_true (by first | (with_reducible assumption) | assumption)
                                                          obtain ⟨ad192, e192, hx192_0⟩ := Kd.at_int (Kd.R_reads' HO_3.out).2.2 (ji30) p192 q192
                                                          cases e192
                                                          replace p192 := eq_true p192
                                                          replace q192 := eq_true q192
                                                          have p195 : 0 ≤ (x8_4 : Int) := of_decide_eq_true (by first | (with_reducible assumption) | assumption)
                                                          have q195 : x8_4 < (x5_7.length : Int) := of_decide_eq_true (by first | (with_reducible assumption) | assumption)
                                                          obtain ⟨ad195, e195, hx195_0⟩ := Kd.at_int (Kd.R_reads' HO_5.out).2.2 x8_4 p195 q195
                                                          cases e195
                                                          (first | simp only [add_plain] at hx195_0 | skip)
                                                          replace p195 := eq_true p195
                                                          replace q195 := eq_true q195
                                                          have q195a := eq_true (show x8_4 < (64 : Int) from by have h1_ := of_eq_true q195; have h2_ := (Kd.R_reads' HO_5.out).1; omega)
                                                          have p39 : 0 ≤ ((ji30) : Int) := of_decide_eq_true (by first | (with_reducible assumption) | assumption)
                                                          have q39 : ((ji30) : Int) < ((x3_5.length : Int) : Int) := of_decide_eq_true (by first | (with_reducible assumption) | assumption)
                                                          obtain ⟨go39, co39, eo39, gb39, gl39, cl39, HG39⟩ := Kd.R_form HO_3.out (by omega)
                                                          (first | cases eo39 | (injection eo39 with ea_ en_ ec_; (first | subst ea_ | (injection ea_ with ea_; subst ea_)); subst ec_; clear en_))
                                                          have GB39 := Aside0.mk gb39
                                                          have GG39 := Aside0.mk HG39
                                                          clear gb39 gl39 HG39
                                                          (first | simp only [add_plain] at hx192_0 | skip)
                                                          obtain ⟨hx39_0, hf39_0⟩ := Kd.R_celln 0 HO_3.out ((ji30) : Int) p39 q39
                                                          replace p39 := eq_true p39
                                                          replace q39 := eq_true q39
                                                          have HP42 := Kd.R_putg HO_3.out ((ji30) : Int) x8_4
                                                          go_wp2_with (first | ((with_reducible refine gate_store (t := 3) (p := 83) rfl ?_); refine store_event (t := 3) (p := 83) (v := ?vo_w43) (w1 := (wr.setCell ⟨go39, ((ji30) : Int).toNat, none⟩ (.int .i64 x8_4))) ?hg ?ho ?hn ?hr ?_; (case ho => rfl); (case hg => rfl); (case hn => rfl); (case hr => first | (go_simp; done) | (go_simp; rfl)); intro w43 hw; have hg : wr.grownBy w43 (some go39) := (by rw [hw]; exact HP42.2); have hp_ : Kd.R (Kd.int .i64) 3 w43 w.heap.size (fun k_ => some k_ ≠ (.slice (some ⟨gn, 0, none⟩) 64 64 : Value).ownBlock) (.slice (some ⟨go39, 0, none⟩) x3_5.length co41) y196 := (by rw [hw, Ny196.out]; exact HP42.1); clear HP42; have n0_ := Aside0.mk (hp_); have n1_ := Aside0.mk (Kd.R_after (v := (.slice (some ⟨go39, 0, none⟩) x3_5.length co41)) (v1 := (.slice (some ⟨go39, 0, none⟩) x3_5.length co41)) (ok := (fun _ => True)) (by (with_reducible repeat (first | apply Kd.R_alloc | apply Kd.R_drewN | apply Kd.R_drew)); exact Kd.R_mono HO_5.out (fun _ hk => ⟨trivial, hk⟩)) hg (.inl rfl)); have n2_ := Aside0.mk ((by rw [hw]; exact below_set (HB.out) GB39.out : Below w.heap.size w w43)); clear HO_3; clear HO_5; clear HB; have HO_3 := n0_; have HO_5 := n1_; have HB := n2_; clear n0_ n1_ n2_; clear hg hw hp_))
                                                          go_roundg k7
                                                          case measure => have := HK1.out; have := HK2.out; have := HJ13.out; have := HK4.out; have := HK5.out; have := HJ22.out; have := HK7.out; omega
                                                          case rel => exact ⟨(y196), (x5_7), (wrap64 (x6_5 - 1)), (wrap64 (x11_5 + 1)), (by first | rfl | (simp; done) | (simp [*]; done)), (by first | rfl | (simp; done) | (simp [*]; done)), H', ⟨by have := HK1.out; have := HK2.out; have := HJ13.out; have := HK4.out; have := HK5.out; have := HJ22.out; have := HK7.out; omega⟩, ⟨by (with_reducible repeat (first | apply Kd.R_alloc | apply Kd.R_drewN | apply Kd.R_drew)); exact HO_3.out⟩, ⟨by (with_reducible repeat (first | apply Kd.R_alloc | apply Kd.R_drewN | apply Kd.R_drew)); exact Kd.R_mono HO_5.out (fun _ hk => hk.2)⟩, ⟨by repeat (first | (with_reducible first | exact HB.out | apply below_alloc | apply pw_below_drewN | apply below_drew1) | exact HB.out)⟩⟩
                                                      · rw [if_neg c32] at H
                                                        exact absurd H (by simp)
                                                    · rw [if_neg c31] at H
                                                      exact absurd H (by simp)
                                                  · rw [if_neg c29] at H
                                                    exact absurd H (by simp)
                                                · rw [if_neg c28] at H
                                                  exact absurd H (by simp)
                                          · replace c27 := Bool.eq_false_iff.mpr c27
                                            subst c27
                                            have H1 : (roundhouseref7_Make.l2 kj22 l0 x3_5 x5_5 x6_5 true (wrap64 (x8_4 + 1))) = some r := by rw [if_neg (show ¬ (false = true) by decide)] at H; exact H
                                            clear H
                                            have H := H1
                                            clear H1
                                            have H' := Aside0.mk H
                                            clear H
                                            go_wp2
                                            go_roundg kj22
                                            case measure => have := HK1.out; have := HK2.out; have := HJ13.out; have := HK4.out; have := HK5.out; have := HJ22.out; omega
                                            case rel => exact ⟨(x3_5), (x5_5), (x6_5), (true), (wrap64 (x8_4 + 1)), (by first | rfl | (simp; done) | (simp [*]; done)), (by first | rfl | (simp; done) | (simp [*]; done)), (by first | rfl | (simp; done) | (simp [*]; done)), H', ⟨by have := HK1.out; have := HK2.out; have := HJ13.out; have := HK4.out; have := HK5.out; have := HJ22.out; omega⟩, ⟨by (with_reducible repeat (first | apply Kd.R_alloc | apply Kd.R_drewN | apply Kd.R_drew)); exact HO_3.out⟩, ⟨by (with_reducible repeat (first | apply Kd.R_alloc | apply Kd.R_drewN | apply Kd.R_drew)); exact HO_5.out⟩, ⟨by repeat (first | (with_reducible first | exact HB.out | apply below_alloc | apply pw_below_drewN | apply below_drew1) | exact HB.out)⟩⟩
                                · rw [if_neg c20] at H
                                  have c20b0 : (((rd_T25 l0 x8_4).f0) == 2) = false := beq_eq_false_iff_ne.mpr c20
                                  have c20b1 : (((rd_T25 l0 x8_4).f0) != 2) = true := bne_iff_ne.mpr c20
                                  have H' := Aside0.mk H
                                  clear H
                                  have p186 : 0 ≤ (x8_4 : Int) := of_decide_eq_true (by first | (with_reducible assumption) | assumption)
                                  have q186 : x8_4 < (l0.length : Int) := of_decide_eq_true (by first | (with_reducible assumption) | assumption)
                                  obtain ⟨ad186, e186, hx186_0, hx186_1, hx186_2, hx186_3, hx186_4⟩ := at_T25 HR0.out x8_4 p186 q186
                                  cases e186
                                  replace hx186_0 := (HB.out.cell (World.block_lt_of_cell? w _ hx186_0)).trans hx186_0
                                  replace hx186_1 := (HB.out.cell (World.block_lt_of_cell? w _ hx186_1)).trans hx186_1
                                  replace hx186_2 := (HB.out.cell (World.block_lt_of_cell? w _ hx186_2)).trans hx186_2
                                  replace hx186_3 := (HB.out.cell (World.block_lt_of_cell? w _ hx186_3)).trans hx186_3
                                  replace hx186_4 := (HB.out.cell (World.block_lt_of_cell? w _ hx186_4)).trans hx186_4
                                  replace p186 := eq_true p186
                                  replace q186 := eq_true q186
                                  simp only [add_in] at hx186_0 hx186_1 hx186_2 hx186_3 hx186_4
                                  have q186a := eq_true (show x8_4 < (64 : Int) from by have h1_ := of_eq_true q186; have h2_ := HL0.out; omega)
                                  go_wp2
                                  go_roundg k4
                                  case measure => have := HK1.out; have := HK2.out; have := HJ13.out; have := HK4.out; omega
                                  case rel => exact ⟨(x3_4), (x5_4), (x6_4), (x7_4), (wrap64 (x8_4 + 1)), (by first | rfl | (simp; done) | (simp [*]; done)), (by first | rfl | (simp; done) | (simp [*]; done)), (by first | rfl | (simp; done) | (simp [*]; done)), H', ⟨by have := HK1.out; have := HK2.out; have := HJ13.out; have := HK4.out; omega⟩, ⟨by (with_reducible repeat (first | apply Kd.R_alloc | apply Kd.R_drewN | apply Kd.R_drew)); exact HO_3.out⟩, ⟨by (with_reducible repeat (first | apply Kd.R_alloc | apply Kd.R_drewN | apply Kd.R_drew)); exact HO_5.out⟩, ⟨by repeat (first | (with_reducible first | exact HB.out | apply below_alloc | apply pw_below_drewN | apply below_drew1) | exact HB.out)⟩⟩
                              · rw [if_neg c19] at H
                                exact absurd H (by simp)
                            · rw [if_neg c18] at H
                              exact absurd H (by simp)
                          · rw [if_neg c17] at H
                            have c17b0 : decide (x8_4 < 64) = false := decide_eq_false c17
                            clear c17
                            have H' := Aside0.mk H
                            clear H
                            go_wp2
                            go_roundg k4
                            case measure => have := HK1.out; have := HK2.out; have := HJ13.out; have := HK4.out; omega
                            case rel => exact ⟨(x3_4), (x5_4), (x6_4), (x7_4), (by first | rfl | (simp; done) | (simp [*]; done)), (by first | rfl | (simp; done) | (simp [*]; done)), H', ⟨by have := HK1.out; have := HK2.out; have := HJ13.out; have := HK4.out; omega⟩, ⟨by (with_reducible repeat (first | apply Kd.R_alloc | apply Kd.R_drewN | apply Kd.R_drew)); exact HO_3.out⟩, ⟨by (with_reducible repeat (first | apply Kd.R_alloc | apply Kd.R_drewN | apply Kd.R_drew)); exact HO_5.out⟩, ⟨by repeat (first | (with_reducible first | exact HB.out | apply below_alloc | apply pw_below_drewN | apply below_drew1) | exact HB.out)⟩⟩
                    · replace c16 := Bool.eq_false_iff.mpr c16
                      subst c16
                      have H1 : (some x3_2) = some r := by rw [if_neg (show ¬ (false = true) by decide)] at H; exact H
                      clear H
                      have H := H1
                      clear H1
                      obtain rfl := Option.some.inj H
                      go_wp2
                      go_ret
                      exact ⟨_, by first | rfl | (simp [errW_none, errW_some] <;> rfl) | (simp [*, errW_none, errW_some] <;> rfl), Kd.R_lower (by (with_reducible repeat (first | apply Kd.R_alloc | apply Kd.R_drewN | apply Kd.R_drew)); exact Kd.R_mono HO_3.out (fun _ hk => trivial)) HB0.out.size, below_step HB0.out (by repeat (first | (with_reducible first | exact HB.out | apply below_alloc | apply pw_below_drewN | apply below_drew1) | exact HB.out))⟩
          · rw [if_neg c11] at H
            exact absurd H (by simp)
  · rw [if_neg c2] at H
    exact absurd H (by simp)

end Go.Proofs.Ytnffajpnffibaaa.Q
