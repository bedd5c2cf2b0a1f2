/- By a program of this session (wip/tools/myprint.py), out of the translation: for each Go function a plain Lean function, and that the call comes to what that function says; a law's row out of its plain statement. Lean checks it. -/
import Derived.Test.YtjdkifdnbfmccaaOptG
import Derived.Test.YtjdkifdnbfmccaaQ0
import Derived.Test.YtjdkifdnbfmccaaQ13
namespace Go.Proofs.Ytjdkifdnbfmccaa.Q
open Go.RowKit Go.Proofs.YtjdkifdnbfmccaaW.PrintWords Go.Proofs.YtjdkifdnbfmccaaW.PrintLast Go.Proofs.YtjdkifdnbfmccaaW.PrintMore
attribute [local go_sem] max2_int min2_int max_two min_two max_three min_three max_four min_four   -- for this text's walks alone
set_option linter.unusedVariables false
set_option linter.unusedSimpArgs false

open Go.Proofs.Ytjdkifdnbfmccaa.Own
/-! ### roundhouselaw4_Some: function 14 -/
mutual
def roundhouselaw4_Some.l0 : Nat → List Int → List Int → Int → Option (List Int)
  | 0, _, _, _ => none
  | k + 1, x0, x3, x4 => if x4 < (x0.length : Int) then (roundhouselaw4_Some.j1 k x0 x3 x4 (decide ((x3.length : Int) < 30))) else (roundhouselaw4_Some.j1 k x0 x3 x4 false)
def roundhouselaw4_Some.j1 : Nat → List Int → List Int → Int → Bool → Option (List Int)
  | 0, _, _, _, _ => none
  | k + 1, x0, x3, x4, x15 => if x15 = true then (if 0 ≤ x4 then (if x4 < (x0.length : Int) then ((roundhouselaw4_within.f (rd x0 x4) 1099511627776).bind fun t125 => (if (Int.tmod t125 8) = 0 then (roundhouselaw4_Some.j2 k x0 x3 x4 t125 (Int.tmod t125 8) ((Int.tmod t125 8) == 0)) else (roundhouselaw4_Some.j2 k x0 x3 x4 t125 (Int.tmod t125 8) ((Int.tmod t125 8) == 1)))) else (none)) else (none)) else (some x3)
def roundhouselaw4_Some.j2 : Nat → List Int → List Int → Int → Int → Int → Bool → Option (List Int)
  | 0, _, _, _, _, _, _ => none
  | k + 1, x0, x3, x4, x5, x24, x25 => if x25 = true then (if x3.length < 140737488355328 then (roundhouselaw4_Some.l0 k x0 (x3 ++ [1]) (wrap64 (x4 + 1))) else (none)) else (if x24 = 2 then (roundhouselaw4_Some.j3 k x0 x3 x4 x5 x24 (x24 == 2)) else (roundhouselaw4_Some.j3 k x0 x3 x4 x5 x24 (x24 == 3)))
def roundhouselaw4_Some.j3 : Nat → List Int → List Int → Int → Int → Int → Bool → Option (List Int)
  | 0, _, _, _, _, _, _ => none
  | k + 1, x0, x3, x4, x5, x24, x31 => if x31 = true then ((some (([8, 10, (x5 / 256) % 256, (x5 / 65536) % 256, (x5 / 16777216) % 256, (x5 / 1073741824) % 256, 1, 2, (x5 / 32) % 256, 4] : List Int) : List Int)).bind fun y129 => (if x3.length + y129.length < 140737488355328 then (roundhouselaw4_Some.l0 k x0 (x3 ++ y129) (wrap64 (x4 + 1))) else (none))) else (if x24 = 4 then ((some (([(wrap64 (2 + (Int.tmod (wrap64 (Int.tdiv x5 50)) 250))) % 256, (wrap64 (2 + (Int.tmod (wrap64 (Int.tdiv x5 8)) 6))) % 256] : List Int) : List Int)).bind fun y135 => (if x3.length + y135.length < 140737488355328 then ((some (x3 ++ y135 : List Int)).bind fun y138 => (if 0 ≤ (wrap64 ((wrap64 (2 + (Int.tmod (wrap64 (Int.tdiv x5 8)) 6))) - 2)) then (if y138.length + (wrap64 ((wrap64 (2 + (Int.tmod (wrap64 (Int.tdiv x5 8)) 6))) - 2) : Int).toNat < 140737488355328 then (roundhouselaw4_Some.l0 k x0 (y138 ++ List.replicate (wrap64 ((wrap64 (2 + (Int.tmod (wrap64 (Int.tdiv x5 8)) 6))) - 2) : Int).toNat 0) (wrap64 (x4 + 1))) else (none)) else (none))) else (none))) else (if x24 = 5 then ((some (([8, (Int.tmod (wrap64 (Int.tdiv x5 8)) 14) % 256] : List Int) : List Int)).bind fun y144 => (if x3.length + y144.length < 140737488355328 then (roundhouselaw4_Some.l0 k x0 (x3 ++ y144) (wrap64 (x4 + 1))) else (none))) else (if x24 = 6 then ((some (([(Int.tmod (wrap64 (Int.tdiv x5 8)) 256) % 256, (Int.tmod (wrap64 (Int.tdiv x5 2048)) 12) % 256] : List Int) : List Int)).bind fun y150 => (if x3.length + y150.length < 140737488355328 then (roundhouselaw4_Some.l0 k x0 (x3 ++ y150) (wrap64 (x4 + 1))) else (none))) else (if x24 = 7 then (if (Int.tmod (wrap64 (Int.tdiv x5 8)) 3) = 0 then (if x3.length < 140737488355328 then (roundhouselaw4_Some.l0 k x0 (x3 ++ [0]) (wrap64 (x4 + 1))) else (none)) else (roundhouselaw4_Some.l0 k x0 x3 (wrap64 (x4 + 1)))) else (roundhouselaw4_Some.l0 k x0 x3 (wrap64 (x4 + 1)))))))
end
def roundhouselaw4_Some.f (k : Nat) (l0 : List Int) : Option (List Int) := roundhouselaw4_Some.l0 k l0 ([] : List Int) 0
theorem roundhouselaw4_Some.mono_l : ∀ k, (∀ y0 y1 y2, LeO (roundhouselaw4_Some.l0 k y0 y1 y2) (roundhouselaw4_Some.l0 (k + 1) y0 y1 y2)) ∧ (∀ y0 y1 y2 y3, LeO (roundhouselaw4_Some.j1 k y0 y1 y2 y3) (roundhouselaw4_Some.j1 (k + 1) y0 y1 y2 y3)) ∧ (∀ y0 y1 y2 y3 y4 y5, LeO (roundhouselaw4_Some.j2 k y0 y1 y2 y3 y4 y5) (roundhouselaw4_Some.j2 (k + 1) y0 y1 y2 y3 y4 y5)) ∧ (∀ y0 y1 y2 y3 y4 y5, LeO (roundhouselaw4_Some.j3 k y0 y1 y2 y3 y4 y5) (roundhouselaw4_Some.j3 (k + 1) y0 y1 y2 y3 y4 y5))
  | 0 => ⟨fun _ _ _ r h => by simp [roundhouselaw4_Some.l0] at h, fun _ _ _ _ r h => by simp [roundhouselaw4_Some.j1] at h, fun _ _ _ _ _ _ r h => by simp [roundhouselaw4_Some.j2] at h, fun _ _ _ _ _ _ r h => by simp [roundhouselaw4_Some.j3] at h⟩
  | k + 1 => by
    obtain ⟨ih0, ih1, ih2, ih3⟩ := roundhouselaw4_Some.mono_l k
    refine ⟨?_, ?_, ?_, ?_⟩
    · intro y0 y1 y2
      unfold roundhouselaw4_Some.l0
      repeat' first
      | (with_reducible exact ih0 _ _ _)
      | (with_reducible exact ih1 _ _ _ _)
      | (with_reducible exact ih2 _ _ _ _ _ _)
      | (with_reducible exact ih3 _ _ _ _ _ _)
      | (with_reducible exact LeO.refl _)
      | (with_reducible exact LeO.none _)
      | (with_reducible refine LeO.ite ?_ ?_)
      | (with_reducible refine LeO.bind ?_ (fun _ => ?_))
      | exact ih0 _ _ _
      | exact ih1 _ _ _ _
      | exact ih2 _ _ _ _ _ _
      | exact ih3 _ _ _ _ _ _
      | exact LeO.none _
      | refine LeO.ite ?_ ?_
      | refine LeO.bind ?_ (fun _ => ?_)
    · intro y0 y1 y2 y3
      unfold roundhouselaw4_Some.j1
      repeat' first
      | (with_reducible exact ih0 _ _ _)
      | (with_reducible exact ih1 _ _ _ _)
      | (with_reducible exact ih2 _ _ _ _ _ _)
      | (with_reducible exact ih3 _ _ _ _ _ _)
      | (with_reducible exact LeO.refl _)
      | (with_reducible exact LeO.none _)
      | (with_reducible refine LeO.ite ?_ ?_)
      | (with_reducible refine LeO.bind ?_ (fun _ => ?_))
      | exact ih0 _ _ _
      | exact ih1 _ _ _ _
      | exact ih2 _ _ _ _ _ _
      | exact ih3 _ _ _ _ _ _
      | exact LeO.none _
      | refine LeO.ite ?_ ?_
      | refine LeO.bind ?_ (fun _ => ?_)
    · intro y0 y1 y2 y3 y4 y5
      unfold roundhouselaw4_Some.j2
      repeat' first
      | (with_reducible exact ih0 _ _ _)
      | (with_reducible exact ih1 _ _ _ _)
      | (with_reducible exact ih2 _ _ _ _ _ _)
      | (with_reducible exact ih3 _ _ _ _ _ _)
      | (with_reducible exact LeO.refl _)
      | (with_reducible exact LeO.none _)
      | (with_reducible refine LeO.ite ?_ ?_)
      | (with_reducible refine LeO.bind ?_ (fun _ => ?_))
      | exact ih0 _ _ _
      | exact ih1 _ _ _ _
      | exact ih2 _ _ _ _ _ _
      | exact ih3 _ _ _ _ _ _
      | exact LeO.none _
      | refine LeO.ite ?_ ?_
      | refine LeO.bind ?_ (fun _ => ?_)
    · intro y0 y1 y2 y3 y4 y5
      unfold roundhouselaw4_Some.j3
      repeat' first
      | (with_reducible exact ih0 _ _ _)
      | (with_reducible exact ih1 _ _ _ _)
      | (with_reducible exact ih2 _ _ _ _ _ _)
      | (with_reducible exact ih3 _ _ _ _ _ _)
      | (with_reducible exact LeO.refl _)
      | (with_reducible exact LeO.none _)
      | (with_reducible refine LeO.ite ?_ ?_)
      | (with_reducible refine LeO.bind ?_ (fun _ => ?_))
      | exact ih0 _ _ _
      | exact ih1 _ _ _ _
      | exact ih2 _ _ _ _ _ _
      | exact ih3 _ _ _ _ _ _
      | exact LeO.none _
      | refine LeO.ite ?_ ?_
      | refine LeO.bind ?_ (fun _ => ?_)
theorem roundhouselaw4_Some.mono : ∀ a0 k, LeO (roundhouselaw4_Some.f k a0) (roundhouselaw4_Some.f (k + 1) a0) := by
  intro a0 k
  obtain ⟨ih0, ih1, ih2, ih3⟩ := roundhouselaw4_Some.mono_l k
  unfold roundhouselaw4_Some.f
  repeat' first
      | (with_reducible exact ih0 _ _ _)
      | (with_reducible exact ih1 _ _ _ _)
      | (with_reducible exact ih2 _ _ _ _ _ _)
      | (with_reducible exact ih3 _ _ _ _ _ _)
      | (with_reducible exact LeO.refl _)
      | (with_reducible exact LeO.none _)
      | (with_reducible refine LeO.ite ?_ ?_)
      | (with_reducible refine LeO.bind ?_ (fun _ => ?_))
      | exact ih0 _ _ _
      | exact ih1 _ _ _ _
      | exact ih2 _ _ _ _ _ _
      | exact ih3 _ _ _ _ _ _
      | exact LeO.none _
      | refine LeO.ite ?_ ?_
      | refine LeO.bind ?_ (fun _ => ?_)
set_option maxHeartbeats 8000000 in
set_option maxRecDepth 100000 in
theorem roundhouselaw4_Some.calls (k : Nat) (A0 : Option Addr) (c0 : Nat) (l0 : List Int) (r : List Int) (w : World) (hr0 : Kd.C (Kd.int .i64) w A0 l0.length l0) (hc0 : l0.length ≤ c0) (h : roundhouselaw4_Some.f k l0 = some r) :
    Calls Try.prog 14 #[.slice A0 l0.length c0] w fun e w' => ∃ v0_ : Value, e = .returned (v0_) ∧ Kd.R (Kd.int .u8) 5 w' w.heap.size (fun _ => True) v0_ r ∧ Below w.heap.size w w' := by
  have HR0 := Aside0.mk hr0
  have HC0 := Aside0.mk hc0
  clear hr0 hc0
  have HB := Aside0.mk (Below.refl w.heap.size w)
  have H : (roundhouselaw4_Some.l0 k l0 ([] : List Int) 0) = some r := h
  clear h
  have H' := Aside0.mk H
  clear H
  go_enter Try.func14, Try.ntmps14
  go_wp2
  go_loopg [3, 4] k (fun kq v3 v4 w' => ∃ (x3_1 : List Int) (x4_1 : Int), v4 = .int .i64 x4_1 ∧ Aside0 (roundhouselaw4_Some.l0 kq l0 x3_1 x4_1 = some r) ∧ Aside0 (kq ≤ k) ∧ Aside0 (Kd.R (Kd.int .u8) 5 w' w.heap.size (fun _ => True) v3 x3_1) ∧ Aside0 (Below w.heap.size w w'))
  case atStart => exact ⟨(([] : List Int)), (0), (by first | rfl | (simp; done) | (simp [*]; done)), H', ⟨Nat.le_refl _⟩, ⟨by first | exact Kd.R_nil _ _ _ _ _ | exact Kd.N_nil _ _ _ _ _ | exact Kd.V_nil _ _ _ _ _ | exact Kd.Q_nil _ _ _ _ _ | exact Kd.S_nil _ _ _ _ _⟩, ⟨by repeat (first | (with_reducible first | exact HB.out | apply below_alloc | apply pw_below_drewN | apply below_drew1) | exact HB.out)⟩⟩
  case round =>
    clear H'
    try clear c1
    obtain ⟨x3_1, x4_1, rfl, HA, HK1, HO_3, HB⟩ := hrel
    cases gk with
    | zero => exact absurd HA.out (by simp [roundhouselaw4_Some.l0])
    | succ k1 =>
      have H := HA.out
      clear HA
      simp only [roundhouselaw4_Some.l0] at H
      have HC2 := Aside0.mk H
      clear H
      go_upto_region 3 with (fail)
      go_cut [15] (fun v15 wc => ∃ (kq : Nat) (x15_1 : Bool), v15 = .bool x15_1 ∧ Aside0 (roundhouselaw4_Some.j1 kq l0 x3_1 x4_1 x15_1 = some r) ∧ Aside0 (kq ≤ k1) ∧ Aside0 (Kd.R (Kd.int .u8) 5 wc w.heap.size (fun _ => True) u3 x3_1) ∧ Aside0 (Below w.heap.size w wc))
      case first =>
        have H := HC2.out
        clear HC2
        by_cases c3 : x4_1 < (l0.length : Int)
        · rw [if_pos c3] at H
          have c3b0 : decide (x4_1 < (l0.length : Int)) = true := decide_eq_true c3
          clear c3
          (first | rw [c3b0] | (simp only [i64_w, i32_w]; rw [c3b0]) | skip)
          have H' := Aside0.mk H
          clear H
          obtain ⟨Ao4, co4, eo4⟩ := Kd.R_slice HO_3.out
          subst eo4
          go_wp2
          go_meet
          case rel => exact ⟨_, (decide ((x3_1.length : Int) < 30)), (by first | rfl | (simp; done) | (simp [*]; done)), H', ⟨by have := HK1.out; first | omega | exact Nat.le_refl _⟩, ⟨by (with_reducible repeat (first | apply Kd.R_alloc | apply Kd.R_drewN | apply Kd.R_drew)); exact HO_3.out⟩, ⟨by repeat (first | (with_reducible first | exact HB.out | apply below_alloc | apply pw_below_drewN | apply below_drew1) | exact HB.out)⟩⟩
        · rw [if_neg c3] at H
          have c3b0 : decide (x4_1 < (l0.length : Int)) = false := decide_eq_false c3
          clear c3
          (first | rw [c3b0] | (simp only [i64_w, i32_w]; rw [c3b0]) | skip)
          have H' := Aside0.mk H
          clear H
          go_wp2
          go_meet
          case rel => exact ⟨_, (false), (by first | rfl | (simp; done) | (simp [*]; done)), H', ⟨by have := HK1.out; first | omega | exact Nat.le_refl _⟩, ⟨by (with_reducible repeat (first | apply Kd.R_alloc | apply Kd.R_drewN | apply Kd.R_drew)); exact HO_3.out⟩, ⟨by repeat (first | (with_reducible first | exact HB.out | apply below_alloc | apply pw_below_drewN | apply below_drew1) | exact HB.out)⟩⟩
      case rest =>
        clear HC2
        try clear c1
        try clear p2
        try clear c3
        try clear c3b0
        obtain ⟨kq, x15_1, rfl, HA, HJ1, HO_3, HB⟩ := hcut
        cases kq with
        | zero => exact absurd HA.out (by simp [roundhouselaw4_Some.j1])
        | succ kj1 =>
          have H := HA.out
          clear HA
          simp only [roundhouselaw4_Some.j1] at H
          by_cases c5 : x15_1 = true
          · subst c5
            have H1 : (if 0 ≤ x4_1 then (if x4_1 < (l0.length : Int) then ((roundhouselaw4_within.f (rd l0 x4_1) 1099511627776).bind fun t125 => (if (Int.tmod t125 8) = 0 then (roundhouselaw4_Some.j2 kj1 l0 x3_1 x4_1 t125 (Int.tmod t125 8) ((Int.tmod t125 8) == 0)) else (roundhouselaw4_Some.j2 kj1 l0 x3_1 x4_1 t125 (Int.tmod t125 8) ((Int.tmod t125 8) == 1)))) else (none)) else (none)) = some r := by rw [if_pos rfl] at H; exact H
            clear H
            have H := H1
            clear H1
            by_cases c6 : 0 ≤ x4_1
            · rw [if_pos c6] at H
              have c6b0 : decide (0 ≤ x4_1) = true := decide_eq_true c6
              clear c6
              by_cases c7 : x4_1 < (l0.length : Int)
              · rw [if_pos c7] at H
                have c7b0 : decide (x4_1 < (l0.length : Int)) = true := decide_eq_true c7
                clear c7
                replace H := Option.bind_eq_some_iff.mp H
                obtain ⟨t125, A80, H⟩ := H
                replace H : (if (Int.tmod t125 8) = 0 then (roundhouselaw4_Some.j2 kj1 l0 x3_1 x4_1 t125 (Int.tmod t125 8) ((Int.tmod t125 8) == 0)) else (roundhouselaw4_Some.j2 kj1 l0 x3_1 x4_1 t125 (Int.tmod t125 8) ((Int.tmod t125 8) == 1))) = some r := H
                have A8 := Aside0.mk A80
                clear A80
                have HC9 := Aside0.mk H
                clear H
                have p124 : 0 ≤ (x4_1 : Int) := of_decide_eq_true (by first | (with_reducible assumption) | assumption)
                have q124 : x4_1 < (l0.length : Int) := of_decide_eq_true (by first | (with_reducible assumption) | assumption)
                obtain ⟨ad124, e124, hx124_0⟩ := Kd.at_int HR0.out x4_1 p124 q124
                cases e124
                replace hx124_0 := (HB.out.cell (World.block_lt_of_cell? w _ hx124_0)).trans hx124_0
                replace p124 := eq_true p124
                replace q124 := eq_true q124
                go_upto_if 25 with (first | ((with_reducible refine gate_callee (f := 15) rfl ?_); refine goesL_ (some 22) rfl rfl Try.func15 (by kernel_rfl) rfl #[.int .i64 (rd l0 x4_1), .int .i64 1099511627776] rfl (by (try simp only [List.map_toArray, List.map_cons, List.map_nil]); first | done | rfl | (simp only [List.length_drop, List.length_take]; rfl)) ?_; (with_reducible refine (roundhouselaw4_within.calls (rd l0 x4_1) 1099511627776 t125 _ A8.out).mono ?_); rintro e w' ⟨rfl, ⟨nd, rfl⟩⟩; refine ⟨_, rfl, ?_⟩))
                (try simp only [Act.put, List.setIfInBounds_toArray, List.set_cons_zero, List.set_cons_succ])
                go_cut [25] (fun v25 wc => ∃ (kq : Nat) (x25_8 : Bool), v25 = .bool x25_8 ∧ Aside0 (roundhouselaw4_Some.j2 kq l0 x3_1 x4_1 t125 (Int.tmod t125 8) x25_8 = some r) ∧ Aside0 (kq ≤ kj1) ∧ Aside0 (Kd.R (Kd.int .u8) 5 wc w.heap.size (fun _ => True) u3 x3_1) ∧ Aside0 (Below w.heap.size w wc))
                case first =>
                  have H := HC9.out
                  clear HC9
                  by_cases c10 : (Int.tmod t125 8) = 0
                  · rw [if_pos c10] at H
                    have c10b0 : ((Int.tmod t125 8) == 0) = true := beq_iff_eq.mpr c10
                    have c10b1 : ((Int.tmod t125 8) != 0) = false := bne_eq_false_iff_eq.mpr c10
                    clear c10
                    (first | rw [c10b0] | (simp only [i64_w, i32_w]; rw [c10b0]) | skip)
                    have H' := Aside0.mk H
                    clear H
                    go_wp2
                    go_meet
                    case rel => exact ⟨_, (((Int.tmod t125 8) == 0)), (by first | rfl | (simp; done) | (simp [*]; done)), H', ⟨by have := HK1.out; have := HJ1.out; first | omega | exact Nat.le_refl _⟩, ⟨by (with_reducible repeat (first | apply Kd.R_alloc | apply Kd.R_drewN | apply Kd.R_drew)); exact HO_3.out⟩, ⟨by repeat (first | (with_reducible first | exact HB.out | apply below_alloc | apply pw_below_drewN | apply below_drew1) | exact HB.out)⟩⟩
                  · rw [if_neg c10] at H
                    have c10b0 : ((Int.tmod t125 8) == 0) = false := beq_eq_false_iff_ne.mpr c10
                    have c10b1 : ((Int.tmod t125 8) != 0) = true := bne_iff_ne.mpr c10
                    (first | rw [c10b0] | (simp only [i64_w, i32_w]; rw [c10b0]) | skip)
                    have H' := Aside0.mk H
                    clear H
                    go_wp2
                    go_meet
                    case rel => exact ⟨_, (((Int.tmod t125 8) == 1)), (by first | rfl | (simp; done) | (simp [*]; done)), H', ⟨by have := HK1.out; have := HJ1.out; first | omega | exact Nat.le_refl _⟩, ⟨by (with_reducible repeat (first | apply Kd.R_alloc | apply Kd.R_drewN | apply Kd.R_drew)); exact HO_3.out⟩, ⟨by repeat (first | (with_reducible first | exact HB.out | apply below_alloc | apply pw_below_drewN | apply below_drew1) | exact HB.out)⟩⟩
                case rest =>
                  clear HC9
                  try clear c1
                  try clear p1
                  try clear q1
                  try clear hx1
                  try clear p2
                  try clear c3
                  try clear c3b0
                  try clear c5
                  try clear c6
                  try clear c6b0
                  try clear c7
                  try clear c7b0
                  try clear c10
                  try clear c10b0
                  try clear c10b1
                  try clear hx124_0
                  try clear p124
                  try clear p2
                  try clear q124
                  obtain ⟨kq, x25_8, rfl, HA, HJ8, HO_3, HB⟩ := hcut
                  cases kq with
                  | zero => exact absurd HA.out (by simp [roundhouselaw4_Some.j2])
                  | succ kj8 =>
                    have H := HA.out
                    clear HA
                    simp only [roundhouselaw4_Some.j2] at H
                    by_cases c11 : x25_8 = true
                    · subst c11
                      have H1 : (if x3_1.length < 140737488355328 then (roundhouselaw4_Some.l0 kj8 l0 (x3_1 ++ [1]) (wrap64 (x4_1 + 1))) else (none)) = some r := by rw [if_pos rfl] at H; exact H
                      clear H
                      have H := H1
                      clear H1
                      by_cases c12 : x3_1.length < 140737488355328
                      · rw [if_pos c12] at H
                        have LMc12 := Aside0.mk c12
                        clear c12
                        obtain ⟨y126, hy126⟩ : ∃ y_ : List Int, y_ = (x3_1 ++ [1]) := ⟨_, rfl⟩
                        replace H : (roundhouselaw4_Some.l0 kj8 l0 y126 (wrap64 (x4_1 + 1))) = some r := by first | (rw [hy126]; with_reducible exact H) | (have H2_ := (Option.bind_some _ _).symm.trans H; rw [hy126]; with_reducible exact H2_) | (have H2_ := (Option.bind_some _ _).symm.trans H; with_reducible exact H2_) | with_reducible exact H | (rw [hy126]; exact H) | exact H
                        have Ny126 := Aside0.mk hy126
                        clear hy126
                        have H' := Aside0.mk H
                        clear H
                        go_wp2_with (first | ((with_reducible refine gate_builtin (b := .append) (xs := #[.tmp 28, .tmp 29]) rfl ?_); (try (refine gate_guard (by rfl) ?_; dsimp only)); at_builtin; refine Kd.R_append (Kd.int .u8) (w0 := w) w.heap.size rfl (.tmp 28) (.tmp 29) 23 5 (.int .u8 0) 1 rfl Try.underlying23 info5 rfl (by decide) (by omega) u3 x3_1 1 [.int .u8 1] (fun _ => True) (fun _ => False) rfl rfl ?aP (fun _ hk => hk.elim) ?aF ?aO ?aB ?aS ?aL ?_; (case aP => exact rfl); (case aB => exact (by repeat (first | (with_reducible first | exact HB.out | apply below_alloc | apply pw_below_drewN | apply below_drew1) | exact HB.out))); (case aF => exact (fun _ _ => trivial)); (case aO => exact (by (with_reducible repeat (first | apply Kd.R_alloc | apply Kd.R_drewN | apply Kd.R_drew)); exact HO_3.out)); (case aS => exact (below_size (by repeat (first | (with_reducible first | exact HB.out | apply below_alloc | apply pw_below_drewN | apply below_drew1) | exact HB.out)))); (case aL => have := LMc12.out; omega); intro v127 w13 ho hb hg hat; rw [← Ny126.out] at ho; have n0_ := Aside0.mk (hb); have n1_ := Aside0.mk (ho); clear HB; clear HO_3; have HB := n0_; have HO128 := n1_; clear n0_ n1_; clear ho hb hg hat))
                        go_roundg kj8
                        case measure => have := HK1.out; have := HJ1.out; have := HJ8.out; omega
                        case rel => exact ⟨(y126), (wrap64 (x4_1 + 1)), (by first | rfl | (simp; done) | (simp [*]; done)), H', ⟨by have := HK1.out; have := HJ1.out; have := HJ8.out; omega⟩, ⟨by (with_reducible repeat (first | apply Kd.R_alloc | apply Kd.R_drewN | apply Kd.R_drew)); exact HO128.out⟩, ⟨by repeat (first | (with_reducible first | exact HB.out | apply below_alloc | apply pw_below_drewN | apply below_drew1) | exact HB.out)⟩⟩
                      · rw [if_neg c12] at H
                        exact absurd H (by simp)
                    · replace c11 := Bool.eq_false_iff.mpr c11
                      subst c11
                      have H1 : (if (Int.tmod t125 8) = 2 then (roundhouselaw4_Some.j3 kj8 l0 x3_1 x4_1 t125 (Int.tmod t125 8) ((Int.tmod t125 8) == 2)) else (roundhouselaw4_Some.j3 kj8 l0 x3_1 x4_1 t125 (Int.tmod t125 8) ((Int.tmod t125 8) == 3))) = some r := by rw [if_neg (show ¬ (false = true) by decide)] at H; exact H
                      clear H
                      have H := H1
                      clear H1
                      have HC14 := Aside0.mk H
                      clear H
                      go_upto_if 31 with (fail)
                      go_cut [31] (fun v31 wc => ∃ (kq : Nat) (x31_13 : Bool), v31 = .bool x31_13 ∧ Aside0 (roundhouselaw4_Some.j3 kq l0 x3_1 x4_1 t125 (Int.tmod t125 8) x31_13 = some r) ∧ Aside0 (kq ≤ kj8) ∧ Aside0 (Kd.R (Kd.int .u8) 5 wc w.heap.size (fun _ => True) u3 x3_1) ∧ Aside0 (Below w.heap.size w wc))
                      case first =>
                        have H := HC14.out
                        clear HC14
                        by_cases c15 : (Int.tmod t125 8) = 2
                        · rw [if_pos c15] at H
                          have c15b0 : ((Int.tmod t125 8) == 2) = true := beq_iff_eq.mpr c15
                          have c15b1 : ((Int.tmod t125 8) != 2) = false := bne_eq_false_iff_eq.mpr c15
                          clear c15
                          (first | rw [c15b0] | (simp only [i64_w, i32_w]; rw [c15b0]) | skip)
                          have H' := Aside0.mk H
                          clear H
                          go_wp2
                          go_meet
                          case rel => exact ⟨_, (((Int.tmod t125 8) == 2)), (by first | rfl | (simp; done) | (simp [*]; done)), H', ⟨by have := HK1.out; have := HJ1.out; have := HJ8.out; first | omega | exact Nat.le_refl _⟩, ⟨by (with_reducible repeat (first | apply Kd.R_alloc | apply Kd.R_drewN | apply Kd.R_drew)); exact HO_3.out⟩, ⟨by repeat (first | (with_reducible first | exact HB.out | apply below_alloc | apply pw_below_drewN | apply below_drew1) | exact HB.out)⟩⟩
                        · rw [if_neg c15] at H
                          have c15b0 : ((Int.tmod t125 8) == 2) = false := beq_eq_false_iff_ne.mpr c15
                          have c15b1 : ((Int.tmod t125 8) != 2) = true := bne_iff_ne.mpr c15
                          (first | rw [c15b0] | (simp only [i64_w, i32_w]; rw [c15b0]) | skip)
                          have H' := Aside0.mk H
                          clear H
                          go_wp2
                          go_meet
                          case rel => exact ⟨_, (((Int.tmod t125 8) == 3)), (by first | rfl | (simp; done) | (simp [*]; done)), H', ⟨by have := HK1.out; have := HJ1.out; have := HJ8.out; first | omega | exact Nat.le_refl _⟩, ⟨by (with_reducible repeat (first | apply Kd.R_alloc | apply Kd.R_drewN | apply Kd.R_drew)); exact HO_3.out⟩, ⟨by repeat (first | (with_reducible first | exact HB.out | apply below_alloc | apply pw_below_drewN | apply below_drew1) | exact HB.out)⟩⟩
                      case rest =>
                        clear HC14
                        try clear c1
                        try clear p1
                        try clear q1
                        try clear hx1
                        try clear p2
                        try clear c3
                        try clear c3b0
                        try clear c5
                        try clear c6
                        try clear c6b0
                        try clear p6
                        try clear c7
                        try clear c7b0
                        try clear c10
                        try clear c10b0
                        try clear c10b1
                        try clear c11
                        try clear c12
                        try clear p12
                        try clear q12
                        try clear hx12
                        try clear c14
                        try clear c15
                        try clear c15b0
                        try clear c15b1
                        try clear hx124_0
                        try clear p1
                        try clear p124
                        try clear p2
                        try clear q1
                        try clear q124
                        obtain ⟨kq, x31_13, rfl, HA, HJ13, HO_3, HB⟩ := hcut
                        cases kq with
                        | zero => exact absurd HA.out (by simp [roundhouselaw4_Some.j3])
                        | succ kj13 =>
                          have H := HA.out
                          clear HA
                          simp only [roundhouselaw4_Some.j3] at H
                          by_cases c16 : x31_13 = true
                          · subst c16
                            have H1 : ((some (([8, 10, (t125 / 256) % 256, (t125 / 65536) % 256, (t125 / 16777216) % 256, (t125 / 1073741824) % 256, 1, 2, (t125 / 32) % 256, 4] : List Int) : List Int)).bind fun y129 => (if x3_1.length + y129.length < 140737488355328 then (roundhouselaw4_Some.l0 kj13 l0 (x3_1 ++ y129) (wrap64 (x4_1 + 1))) else (none))) = some r := by rw [if_pos rfl] at H; exact H
                            clear H
                            have H := H1
                            clear H1
                            obtain ⟨y129, hy129⟩ : ∃ y_ : List Int, y_ = (([8, 10, (t125 / 256) % 256, (t125 / 65536) % 256, (t125 / 16777216) % 256, (t125 / 1073741824) % 256, 1, 2, (t125 / 32) % 256, 4] : List Int)) := ⟨_, rfl⟩
                            replace H : (if x3_1.length + y129.length < 140737488355328 then (roundhouselaw4_Some.l0 kj13 l0 (x3_1 ++ y129) (wrap64 (x4_1 + 1))) else (none)) = some r := by first | (rw [hy129]; with_reducible exact H) | (have H2_ := (Option.bind_some _ _).symm.trans H; rw [hy129]; with_reducible exact H2_) | (have H2_ := (Option.bind_some _ _).symm.trans H; with_reducible exact H2_) | with_reducible exact H | (rw [hy129]; exact H) | exact H
                            have Ny129 := Aside0.mk hy129
                            clear hy129
                            by_cases c17 : x3_1.length + y129.length < 140737488355328
                            · rw [if_pos c17] at H
                              have LMc17 := Aside0.mk c17
                              clear c17
                              obtain ⟨y132, hy132⟩ : ∃ y_ : List Int, y_ = (x3_1 ++ y129) := ⟨_, rfl⟩
                              replace H : (roundhouselaw4_Some.l0 kj13 l0 y132 (wrap64 (x4_1 + 1))) = some r := by first | (rw [hy132]; with_reducible exact H) | (have H2_ := (Option.bind_some _ _).symm.trans H; rw [hy132]; with_reducible exact H2_) | (have H2_ := (Option.bind_some _ _).symm.trans H; with_reducible exact H2_) | with_reducible exact H | (rw [hy132]; exact H) | exact H
                              have Ny132 := Aside0.mk hy132
                              clear hy132
                              have H' := Aside0.mk H
                              clear H
                              go_wp2_with (first | ((with_reducible refine gate_dst (N := 50) rfl ?_); (try (refine gate_guard (by rfl) ?_; dsimp only)); refine Kd.R_lit (Kd.int .u8) _ 5 ?hg (N := 50) ?hd (xs := ([8, 10, (t125 / 256) % 256, (t125 / 65536) % 256, (t125 / 16777216) % 256, (t125 / 1073741824) % 256, 1, 2, (t125 / 32) % 256, 4] : List Int)) (inner := [.int .u8 8, .int .u8 10, .int .u8 ((t125 / 256) % 256), .int .u8 ((t125 / 65536) % 256), .int .u8 ((t125 / 16777216) % 256), .int .u8 ((t125 / 1073741824) % 256), .int .u8 1, .int .u8 2, .int .u8 ((t125 / 32) % 256), .int .u8 4]) (ok := fun _ => True) (okp := fun _ => True) ?hr ?hp (fun _ hk => hk) trivial (Below.refl _ _) (Nat.le_refl _) (by simp) ?_; (case hd => rfl); (case hg => rfl); (case hr => first | (go_simp; done) | (go_simp; rfl)); (case hp => exact (Reps.one (show Kd.M (Kd.int .u8) _ _ _ 8 [.int .u8 8] from rfl) (Reps.one (show Kd.M (Kd.int .u8) _ _ _ 10 [.int .u8 10] from rfl) (Reps.one (show Kd.M (Kd.int .u8) _ _ _ ((t125 / 256) % 256) [.int .u8 ((t125 / 256) % 256)] from rfl) (Reps.one (show Kd.M (Kd.int .u8) _ _ _ ((t125 / 65536) % 256) [.int .u8 ((t125 / 65536) % 256)] from rfl) (Reps.one (show Kd.M (Kd.int .u8) _ _ _ ((t125 / 16777216) % 256) [.int .u8 ((t125 / 16777216) % 256)] from rfl) (Reps.one (show Kd.M (Kd.int .u8) _ _ _ ((t125 / 1073741824) % 256) [.int .u8 ((t125 / 1073741824) % 256)] from rfl) (Reps.one (show Kd.M (Kd.int .u8) _ _ _ 1 [.int .u8 1] from rfl) (Reps.one (show Kd.M (Kd.int .u8) _ _ _ 2 [.int .u8 2] from rfl) (Reps.one (show Kd.M (Kd.int .u8) _ _ _ ((t125 / 32) % 256) [.int .u8 ((t125 / 32) % 256)] from rfl) (Reps.one (show Kd.M (Kd.int .u8) _ _ _ 4 [.int .u8 4] from rfl) (Reps.none _ _)))))))))))); intro v130 w18 ho19 hb hg_ hnew_; clear hg_ hnew_; (first | rw [← Ny129.out] at ho19 | (simp only [Int.reduceToNat] at ho19; rw [← Ny129.out] at ho19)); have n0_ := Aside0.mk (Kd.R_elder' (by (with_reducible repeat (first | apply Kd.R_alloc | apply Kd.R_drewN | apply Kd.R_drew)); exact HO_3.out) (Kd.R_base ho19) hb); have n1_ := Aside0.mk (Kd.R_lower (Kd.R_new' ho19 (Kd.R_lt (by (with_reducible repeat (first | apply Kd.R_alloc | apply Kd.R_drewN | apply Kd.R_drew)); exact HO_3.out))) (below_size (by repeat (first | (with_reducible first | exact HB.out | apply below_alloc | apply pw_below_drewN | apply below_drew1) | exact HB.out)))); have n2_ := Aside0.mk (below_step (by repeat (first | (with_reducible first | exact HB.out | apply below_alloc | apply pw_below_drewN | apply below_drew1) | exact HB.out)) hb); clear HO_3; clear HB; have HO_3 := n0_; have HO131 := n1_; have HB := n2_; clear n0_ n1_ n2_; clear hb ho19; obtain ⟨Ao21, co21, eo21⟩ := Kd.R_slice HO131.out; subst eo21) | ((with_reducible refine gate_builtin (b := .append) (xs := #[.tmp 34, .tmp 50]) rfl ?_); (try (refine gate_guard (by rfl) ?_; dsimp only)); at_builtin; refine Kd.R_append_rows (Kd.int .u8) (w0 := w) w.heap.size rfl (.tmp 34) (.tmp 50) 23 5 (.int .u8 0) 1 rfl Try.underlying23 info5 rfl (by decide) (by omega) u3 x3_1 y129 _ _ _ (fun k_ => some k_ ≠ (.slice Ao21 y129.length co21 : Value).ownBlock) (fun _ => False) rfl rfl ?aO ?aR (fun _ _ h => h) (fun _ h => h.elim) ?aF ?aB ?aS ?aL ?_; (case aR => repeat (first | exact (Kd.R_reads' HO131.out).2.2 | (with_reducible refine Kd.C_alloc ?_ _) | (with_reducible refine Kd.C_drewN ?_ _) | (with_reducible refine Kd.C_drew ?_))); (case aB => exact (by repeat (first | (with_reducible first | exact HB.out | apply below_alloc | apply pw_below_drewN | apply below_drew1) | exact HB.out))); (case aF => exact (fun k_ hk => Kd.fresh' (Kd.R_lt (by (with_reducible repeat (first | apply Kd.R_alloc | apply Kd.R_drewN | apply Kd.R_drew)); exact HO131.out)) k_ hk)); (case aO => exact (by (with_reducible repeat (first | apply Kd.R_alloc | apply Kd.R_drewN | apply Kd.R_drew)); exact Kd.R_mono HO_3.out (fun _ hk => hk.2))); (case aS => exact (below_size (by repeat (first | (with_reducible first | exact HB.out | apply below_alloc | apply pw_below_drewN | apply below_drew1) | exact HB.out)))); (case aL => have := LMc17.out; omega); intro v133 w20 ho hb hg hat; rw [← Ny132.out] at ho; have n0_ := Aside0.mk (Kd.R_after (ok := (fun _ => True)) (by (with_reducible repeat (first | apply Kd.R_alloc | apply Kd.R_drewN | apply Kd.R_drew)); exact HO131.out) hg hat); have n1_ := Aside0.mk (hb); have n2_ := Aside0.mk (ho); clear HO131; clear HB; clear HO_3; have HO131 := n0_; have HB := n1_; have HO134 := n2_; clear n0_ n1_ n2_; clear ho hb hg hat))
                              go_roundg kj13
                              case measure => have := HK1.out; have := HJ1.out; have := HJ8.out; have := HJ13.out; omega
                              case rel => exact ⟨(y132), (wrap64 (x4_1 + 1)), (by first | rfl | (simp; done) | (simp [*]; done)), H', ⟨by have := HK1.out; have := HJ1.out; have := HJ8.out; have := HJ13.out; omega⟩, ⟨by (with_reducible repeat (first | apply Kd.R_alloc | apply Kd.R_drewN | apply Kd.R_drew)); exact Kd.R_mono HO134.out (fun _ hk => trivial)⟩, ⟨by repeat (first | (with_reducible first | exact HB.out | apply below_alloc | apply pw_below_drewN | apply below_drew1) | exact HB.out)⟩⟩
                            · rw [if_neg c17] at H
                              exact absurd H (by simp)
                          · replace c16 := Bool.eq_false_iff.mpr c16
                            subst c16
                            have H1 : (if (Int.tmod t125 8) = 4 then ((some (([(wrap64 (2 + (Int.tmod (wrap64 (Int.tdiv t125 50)) 250))) % 256, (wrap64 (2 + (Int.tmod (wrap64 (Int.tdiv t125 8)) 6))) % 256] : List Int) : List Int)).bind fun y135 => (if x3_1.length + y135.length < 140737488355328 then ((some (x3_1 ++ y135 : List Int)).bind fun y138 => (if 0 ≤ (wrap64 ((wrap64 (2 + (Int.tmod (wrap64 (Int.tdiv t125 8)) 6))) - 2)) then (if y138.length + (wrap64 ((wrap64 (2 + (Int.tmod (wrap64 (Int.tdiv t125 8)) 6))) - 2) : Int).toNat < 140737488355328 then (roundhouselaw4_Some.l0 kj13 l0 (y138 ++ List.replicate (wrap64 ((wrap64 (2 + (Int.tmod (wrap64 (Int.tdiv t125 8)) 6))) - 2) : Int).toNat 0) (wrap64 (x4_1 + 1))) else (none)) else (none))) else (none))) else (if (Int.tmod t125 8) = 5 then ((some (([8, (Int.tmod (wrap64 (Int.tdiv t125 8)) 14) % 256] : List Int) : List Int)).bind fun y144 => (if x3_1.length + y144.length < 140737488355328 then (roundhouselaw4_Some.l0 kj13 l0 (x3_1 ++ y144) (wrap64 (x4_1 + 1))) else (none))) else (if (Int.tmod t125 8) = 6 then ((some (([(Int.tmod (wrap64 (Int.tdiv t125 8)) 256) % 256, (Int.tmod (wrap64 (Int.tdiv t125 2048)) 12) % 256] : List Int) : List Int)).bind fun y150 => (if x3_1.length + y150.length < 140737488355328 then (roundhouselaw4_Some.l0 kj13 l0 (x3_1 ++ y150) (wrap64 (x4_1 + 1))) else (none))) else (if (Int.tmod t125 8) = 7 then (if (Int.tmod (wrap64 (Int.tdiv t125 8)) 3) = 0 then (if x3_1.length < 140737488355328 then (roundhouselaw4_Some.l0 kj13 l0 (x3_1 ++ [0]) (wrap64 (x4_1 + 1))) else (none)) else (roundhouselaw4_Some.l0 kj13 l0 x3_1 (wrap64 (x4_1 + 1)))) else (roundhouselaw4_Some.l0 kj13 l0 x3_1 (wrap64 (x4_1 + 1))))))) = some r := by rw [if_neg (show ¬ (false = true) by decide)] at H; exact H
                            clear H
                            have H := H1
                            clear H1
                            by_cases c22 : (Int.tmod t125 8) = 4
                            · rw [if_pos c22] at H
                              have c22b0 : ((Int.tmod t125 8) == 4) = true := beq_iff_eq.mpr c22
                              have c22b1 : ((Int.tmod t125 8) != 4) = false := bne_eq_false_iff_eq.mpr c22
                              clear c22
                              obtain ⟨y135, hy135⟩ : ∃ y_ : List Int, y_ = (([(wrap64 (2 + (Int.tmod (wrap64 (Int.tdiv t125 50)) 250))) % 256, (wrap64 (2 + (Int.tmod (wrap64 (Int.tdiv t125 8)) 6))) % 256] : List Int)) := ⟨_, rfl⟩
                              replace H : (if x3_1.length + y135.length < 140737488355328 then ((some (x3_1 ++ y135 : List Int)).bind fun y138 => (if 0 ≤ (wrap64 ((wrap64 (2 + (Int.tmod (wrap64 (Int.tdiv t125 8)) 6))) - 2)) then (if y138.length + (wrap64 ((wrap64 (2 + (Int.tmod (wrap64 (Int.tdiv t125 8)) 6))) - 2) : Int).toNat < 140737488355328 then (roundhouselaw4_Some.l0 kj13 l0 (y138 ++ List.replicate (wrap64 ((wrap64 (2 + (Int.tmod (wrap64 (Int.tdiv t125 8)) 6))) - 2) : Int).toNat 0) (wrap64 (x4_1 + 1))) else (none)) else (none))) else (none)) = some r := by first | (rw [hy135]; with_reducible exact H) | (have H2_ := (Option.bind_some _ _).symm.trans H; rw [hy135]; with_reducible exact H2_) | (have H2_ := (Option.bind_some _ _).symm.trans H; with_reducible exact H2_) | with_reducible exact H | (rw [hy135]; exact H) | exact H
                              have Ny135 := Aside0.mk hy135
                              clear hy135
                              by_cases c23 : x3_1.length + y135.length < 140737488355328
                              · rw [if_pos c23] at H
                                have LMc23 := Aside0.mk c23
                                clear c23
                                obtain ⟨y138, hy138⟩ : ∃ y_ : List Int, y_ = (x3_1 ++ y135) := ⟨_, rfl⟩
                                replace H : (if 0 ≤ (wrap64 ((wrap64 (2 + (Int.tmod (wrap64 (Int.tdiv t125 8)) 6))) - 2)) then (if y138.length + (wrap64 ((wrap64 (2 + (Int.tmod (wrap64 (Int.tdiv t125 8)) 6))) - 2) : Int).toNat < 140737488355328 then (roundhouselaw4_Some.l0 kj13 l0 (y138 ++ List.replicate (wrap64 ((wrap64 (2 + (Int.tmod (wrap64 (Int.tdiv t125 8)) 6))) - 2) : Int).toNat 0) (wrap64 (x4_1 + 1))) else (none)) else (none)) = some r := by first | (rw [hy138]; with_reducible exact H) | (have H2_ := (Option.bind_some _ _).symm.trans H; rw [hy138]; with_reducible exact H2_) | (have H2_ := (Option.bind_some _ _).symm.trans H; with_reducible exact H2_) | with_reducible exact H | (rw [hy138]; exact H) | exact H
                                have Ny138 := Aside0.mk hy138
                                clear hy138
                                obtain ⟨ji24, hji24⟩ : ∃ j_ : Int, (wrap64 ((wrap64 (2 + (Int.tmod (wrap64 (Int.tdiv t125 8)) 6))) - 2)) = j_ := ⟨_, rfl⟩
                                replace H : (if 0 ≤ (ji24) then (if y138.length + (ji24 : Int).toNat < 140737488355328 then (roundhouselaw4_Some.l0 kj13 l0 (y138 ++ List.replicate (ji24 : Int).toNat 0) (wrap64 (x4_1 + 1))) else (none)) else (none)) = some r := by first | (rw [hji24] at H; exact H) | (simp only [hji24] at H ⊢; exact H)
                                have hji24w : (IntKind.i64.wrap ((wrap64 (2 + (Int.tmod (wrap64 (Int.tdiv t125 8)) 6))) - 2)) = ji24 := (i64_w _).trans hji24
                                by_cases c25 : 0 ≤ (ji24)
                                · rw [if_pos c25] at H
                                  have c25b0 := eq_true c25
                                  have c25b1 : decide (0 ≤ (ji24)) = true := decide_eq_true c25
                                  clear c25
                                  by_cases c26 : y138.length + (ji24 : Int).toNat < 140737488355328
                                  · rw [if_pos c26] at H
                                    have LMc26 := Aside0.mk c26
                                    clear c26
                                    obtain ⟨y141, hy141⟩ : ∃ y_ : List Int, y_ = (y138 ++ List.replicate (ji24 : Int).toNat 0) := ⟨_, rfl⟩
                                    replace H : (roundhouselaw4_Some.l0 kj13 l0 y141 (wrap64 (x4_1 + 1))) = some r := by first | (rw [hy141]; with_reducible exact H) | (have H2_ := (Option.bind_some _ _).symm.trans H; rw [hy141]; with_reducible exact H2_) | (have H2_ := (Option.bind_some _ _).symm.trans H; with_reducible exact H2_) | with_reducible exact H | (rw [hy141]; exact H) | exact H
                                    have Ny141 := Aside0.mk hy141
                                    clear hy141
                                    have H' := Aside0.mk H
                                    clear H
                                    go_wp2_with (first | ((with_reducible refine gate_dst (N := 66) rfl ?_); (try (refine gate_guard (by rfl) ?_; dsimp only)); refine Kd.R_lit (Kd.int .u8) _ 5 ?hg (N := 66) ?hd (xs := ([(wrap64 (2 + (Int.tmod (wrap64 (Int.tdiv t125 50)) 250))) % 256, (wrap64 (2 + (Int.tmod (wrap64 (Int.tdiv t125 8)) 6))) % 256] : List Int)) (inner := [.int .u8 ((wrap64 (2 + (Int.tmod (wrap64 (Int.tdiv t125 50)) 250))) % 256), .int .u8 ((wrap64 (2 + (Int.tmod (wrap64 (Int.tdiv t125 8)) 6))) % 256)]) (ok := fun _ => True) (okp := fun _ => True) ?hr ?hp (fun _ hk => hk) trivial (Below.refl _ _) (Nat.le_refl _) (by simp) ?_; (case hd => rfl); (case hg => rfl); (case hr => first | (go_simp; done) | (go_simp; rfl)); (case hp => exact (Reps.one (show Kd.M (Kd.int .u8) _ _ _ ((wrap64 (2 + (Int.tmod (wrap64 (Int.tdiv t125 50)) 250))) % 256) [.int .u8 ((wrap64 (2 + (Int.tmod (wrap64 (Int.tdiv t125 50)) 250))) % 256)] from rfl) (Reps.one (show Kd.M (Kd.int .u8) _ _ _ ((wrap64 (2 + (Int.tmod (wrap64 (Int.tdiv t125 8)) 6))) % 256) [.int .u8 ((wrap64 (2 + (Int.tmod (wrap64 (Int.tdiv t125 8)) 6))) % 256)] from rfl) (Reps.none _ _)))); intro v136 w27 ho28 hb hg_ hnew_; clear hg_ hnew_; (first | rw [← Ny135.out] at ho28 | (simp only [Int.reduceToNat] at ho28; rw [← Ny135.out] at ho28)); have n0_ := Aside0.mk (Kd.R_elder' (by (with_reducible repeat (first | apply Kd.R_alloc | apply Kd.R_drewN | apply Kd.R_drew)); exact HO_3.out) (Kd.R_base ho28) hb); have n1_ := Aside0.mk (Kd.R_lower (Kd.R_new' ho28 (Kd.R_lt (by (with_reducible repeat (first | apply Kd.R_alloc | apply Kd.R_drewN | apply Kd.R_drew)); exact HO_3.out))) (below_size (by repeat (first | (with_reducible first | exact HB.out | apply below_alloc | apply pw_below_drewN | apply below_drew1) | exact HB.out)))); have n2_ := Aside0.mk (below_step (by repeat (first | (with_reducible first | exact HB.out | apply below_alloc | apply pw_below_drewN | apply below_drew1) | exact HB.out)) hb); clear HO_3; clear HB; have HO_3 := n0_; have HO137 := n1_; have HB := n2_; clear n0_ n1_ n2_; clear hb ho28; obtain ⟨Ao30, co30, eo30⟩ := Kd.R_slice HO137.out; subst eo30) | ((with_reducible refine gate_builtin (b := .append) (xs := #[.tmp 58, .tmp 66]) rfl ?_); (try (refine gate_guard (by rfl) ?_; dsimp only)); at_builtin; refine Kd.R_append_rows (Kd.int .u8) (w0 := w) w.heap.size rfl (.tmp 58) (.tmp 66) 23 5 (.int .u8 0) 1 rfl Try.underlying23 info5 rfl (by decide) (by omega) u3 x3_1 y135 _ _ _ (fun k_ => some k_ ≠ (.slice Ao30 y135.length co30 : Value).ownBlock) (fun _ => False) rfl rfl ?aO ?aR (fun _ _ h => h) (fun _ h => h.elim) ?aF ?aB ?aS ?aL ?_; (case aR => repeat (first | exact (Kd.R_reads' HO137.out).2.2 | (with_reducible refine Kd.C_alloc ?_ _) | (with_reducible refine Kd.C_drewN ?_ _) | (with_reducible refine Kd.C_drew ?_))); (case aB => exact (by repeat (first | (with_reducible first | exact HB.out | apply below_alloc | apply pw_below_drewN | apply below_drew1) | exact HB.out))); (case aF => exact (fun k_ hk => Kd.fresh' (Kd.R_lt (by (with_reducible repeat (first | apply Kd.R_alloc | apply Kd.R_drewN | apply Kd.R_drew)); exact HO137.out)) k_ hk)); (case aO => exact (by (with_reducible repeat (first | apply Kd.R_alloc | apply Kd.R_drewN | apply Kd.R_drew)); exact Kd.R_mono HO_3.out (fun _ hk => hk.2))); (case aS => exact (below_size (by repeat (first | (with_reducible first | exact HB.out | apply below_alloc | apply pw_below_drewN | apply below_drew1) | exact HB.out)))); (case aL => have := LMc23.out; omega); intro v139 w29 ho hb hg hat; rw [← Ny138.out] at ho; have n0_ := Aside0.mk (Kd.R_after (ok := (fun _ => True)) (by (with_reducible repeat (first | apply Kd.R_alloc | apply Kd.R_drewN | apply Kd.R_drew)); exact HO137.out) hg hat); have n1_ := Aside0.mk (hb); have n2_ := Aside0.mk (ho); clear HO137; clear HB; clear HO_3; have HO137 := n0_; have HB := n1_; have HO140 := n2_; clear n0_ n1_ n2_; clear ho hb hg hat) | (at_builtin; refine Kd.R_append_zeros (Kd.int .u8) (w0 := w) w.heap.size rfl (.tmp 67) (.tmp 69) 23 3 5 (.int .u8 0) 1 rfl Try.underlying23 Try.underlying3 info5 rfl (by decide) (by omega) v139 y138 0 (ji24 : Int) (fun k_ => some k_ ≠ (.slice Ao30 y135.length co30 : Value).ownBlock) rfl rfl rfl ?aF ?aO (of_decide_eq_true (by first | (with_reducible assumption) | assumption)) ?aB ?aS ?aL ?_; (case aB => exact (by repeat (first | (with_reducible first | exact HB.out | apply below_alloc | apply pw_below_drewN | apply below_drew1) | exact HB.out))); (case aF => exact (fun k_ hk => Kd.fresh' (Kd.R_lt (by (with_reducible repeat (first | apply Kd.R_alloc | apply Kd.R_drewN | apply Kd.R_drew)); exact HO137.out)) k_ hk)); (case aO => exact (by (with_reducible repeat (first | apply Kd.R_alloc | apply Kd.R_drewN | apply Kd.R_drew)); exact HO140.out)); (case aS => exact (below_size (by repeat (first | (with_reducible first | exact HB.out | apply below_alloc | apply pw_below_drewN | apply below_drew1) | exact HB.out)))); (case aL => have := LMc26.out; omega); intro v142 w31 ho hb hg hat; rw [← Ny141.out] at ho; have n0_ := Aside0.mk (Kd.R_after (ok := (fun _ => True)) (by (with_reducible repeat (first | apply Kd.R_alloc | apply Kd.R_drewN | apply Kd.R_drew)); exact HO137.out) hg hat); have n1_ := Aside0.mk (hb); have n2_ := Aside0.mk (ho); clear HO137; clear HB; clear HO140; have HO137 := n0_; have HB := n1_; have HO143 := n2_; clear n0_ n1_ n2_; clear ho hb hg hat))
                                    go_roundg kj13
                                    case measure => have := HK1.out; have := HJ1.out; have := HJ8.out; have := HJ13.out; omega
                                    case rel => exact ⟨(y141), (wrap64 (x4_1 + 1)), (by first | rfl | (simp; done) | (simp [*]; done)), H', ⟨by have := HK1.out; have := HJ1.out; have := HJ8.out; have := HJ13.out; omega⟩, ⟨by (with_reducible repeat (first | apply Kd.R_alloc | apply Kd.R_drewN | apply Kd.R_drew)); exact Kd.R_mono HO143.out (fun _ hk => trivial)⟩, ⟨by repeat (first | (with_reducible first | exact HB.out | apply below_alloc | apply pw_below_drewN | apply below_drew1) | exact HB.out)⟩⟩
                                  · rw [if_neg c26] at H
                                    exact absurd H (by simp)
                                · rw [if_neg c25] at H
                                  exact absurd H (by simp)
                              · rw [if_neg c23] at H
                                exact absurd H (by simp)
                            · rw [if_neg c22] at H
                              have c22b0 : ((Int.tmod t125 8) == 4) = false := beq_eq_false_iff_ne.mpr c22
                              have c22b1 : ((Int.tmod t125 8) != 4) = true := bne_iff_ne.mpr c22
                              by_cases c32 : (Int.tmod t125 8) = 5
                              · rw [if_pos c32] at H
                                have c32b0 : ((Int.tmod t125 8) == 5) = true := beq_iff_eq.mpr c32
                                have c32b1 : ((Int.tmod t125 8) != 5) = false := bne_eq_false_iff_eq.mpr c32
                                clear c32
                                obtain ⟨y144, hy144⟩ : ∃ y_ : List Int, y_ = (([8, (Int.tmod (wrap64 (Int.tdiv t125 8)) 14) % 256] : List Int)) := ⟨_, rfl⟩
                                replace H : (if x3_1.length + y144.length < 140737488355328 then (roundhouselaw4_Some.l0 kj13 l0 (x3_1 ++ y144) (wrap64 (x4_1 + 1))) else (none)) = some r := by first | (rw [hy144]; with_reducible exact H) | (have H2_ := (Option.bind_some _ _).symm.trans H; rw [hy144]; with_reducible exact H2_) | (have H2_ := (Option.bind_some _ _).symm.trans H; with_reducible exact H2_) | with_reducible exact H | (rw [hy144]; exact H) | exact H
                                have Ny144 := Aside0.mk hy144
                                clear hy144
                                by_cases c33 : x3_1.length + y144.length < 140737488355328
                                · rw [if_pos c33] at H
                                  have LMc33 := Aside0.mk c33
                                  clear c33
                                  obtain ⟨y147, hy147⟩ : ∃ y_ : List Int, y_ = (x3_1 ++ y144) := ⟨_, rfl⟩
                                  replace H : (roundhouselaw4_Some.l0 kj13 l0 y147 (wrap64 (x4_1 + 1))) = some r := by first | (rw [hy147]; with_reducible exact H) | (have H2_ := (Option.bind_some _ _).symm.trans H; rw [hy147]; with_reducible exact H2_) | (have H2_ := (Option.bind_some _ _).symm.trans H; with_reducible exact H2_) | with_reducible exact H | (rw [hy147]; exact H) | exact H
                                  have Ny147 := Aside0.mk hy147
                                  clear hy147
                                  have H' := Aside0.mk H
                                  clear H
                                  go_wp2_with (first | ((with_reducible refine gate_dst (N := 78) rfl ?_); (try (refine gate_guard (by rfl) ?_; dsimp only)); refine Kd.R_lit (Kd.int .u8) _ 5 ?hg (N := 78) ?hd (xs := ([8, (Int.tmod (wrap64 (Int.tdiv t125 8)) 14) % 256] : List Int)) (inner := [.int .u8 8, .int .u8 ((Int.tmod (wrap64 (Int.tdiv t125 8)) 14) % 256)]) (ok := fun _ => True) (okp := fun _ => True) ?hr ?hp (fun _ hk => hk) trivial (Below.refl _ _) (Nat.le_refl _) (by simp) ?_; (case hd => rfl); (case hg => rfl); (case hr => first | (go_simp; done) | (go_simp; rfl)); (case hp => exact (Reps.one (show Kd.M (Kd.int .u8) _ _ _ 8 [.int .u8 8] from rfl) (Reps.one (show Kd.M (Kd.int .u8) _ _ _ ((Int.tmod (wrap64 (Int.tdiv t125 8)) 14) % 256) [.int .u8 ((Int.tmod (wrap64 (Int.tdiv t125 8)) 14) % 256)] from rfl) (Reps.none _ _)))); intro v145 w34 ho35 hb hg_ hnew_; clear hg_ hnew_; (first | rw [← Ny144.out] at ho35 | (simp only [Int.reduceToNat] at ho35; rw [← Ny144.out] at ho35)); have n0_ := Aside0.mk (Kd.R_elder' (by (with_reducible repeat (first | apply Kd.R_alloc | apply Kd.R_drewN | apply Kd.R_drew)); exact HO_3.out) (Kd.R_base ho35) hb); have n1_ := Aside0.mk (Kd.R_lower (Kd.R_new' ho35 (Kd.R_lt (by (with_reducible repeat (first | apply Kd.R_alloc | apply Kd.R_drewN | apply Kd.R_drew)); exact HO_3.out))) (below_size (by repeat (first | (with_reducible first | exact HB.out | apply below_alloc | apply pw_below_drewN | apply below_drew1) | exact HB.out)))); have n2_ := Aside0.mk (below_step (by repeat (first | (with_reducible first | exact HB.out | apply below_alloc | apply pw_below_drewN | apply below_drew1) | exact HB.out)) hb); clear HO_3; clear HB; have HO_3 := n0_; have HO146 := n1_; have HB := n2_; clear n0_ n1_ n2_; clear hb ho35; obtain ⟨Ao37, co37, eo37⟩ := Kd.R_slice HO146.out; subst eo37) | ((with_reducible refine gate_builtin (b := .append) (xs := #[.tmp 73, .tmp 78]) rfl ?_); (try (refine gate_guard (by rfl) ?_; dsimp only)); at_builtin; refine Kd.R_append_rows (Kd.int .u8) (w0 := w) w.heap.size rfl (.tmp 73) (.tmp 78) 23 5 (.int .u8 0) 1 rfl Try.underlying23 info5 rfl (by decide) (by omega) u3 x3_1 y144 _ _ _ (fun k_ => some k_ ≠ (.slice Ao37 y144.length co37 : Value).ownBlock) (fun _ => False) rfl rfl ?aO ?aR (fun _ _ h => h) (fun _ h => h.elim) ?aF ?aB ?aS ?aL ?_; (case aR => repeat (first | exact (Kd.R_reads' HO146.out).2.2 | (with_reducible refine Kd.C_alloc ?_ _) | (with_reducible refine Kd.C_drewN ?_ _) | (with_reducible refine Kd.C_drew ?_))); (case aB => exact (by repeat (first | (with_reducible first | exact HB.out | apply below_alloc | apply pw_below_drewN | apply below_drew1) | exact HB.out))); (case aF => exact (fun k_ hk => Kd.fresh' (Kd.R_lt (by (with_reducible repeat (first | apply Kd.R_alloc | apply Kd.R_drewN | apply Kd.R_drew)); exact HO146.out)) k_ hk)); (case aO => exact (by (with_reducible repeat (first | apply Kd.R_alloc | apply Kd.R_drewN | apply Kd.R_drew)); exact Kd.R_mono HO_3.out (fun _ hk => hk.2))); (case aS => exact (below_size (by repeat (first | (with_reducible first | exact HB.out | apply below_alloc | apply pw_below_drewN | apply below_drew1) | exact HB.out)))); (case aL => have := LMc33.out; omega); intro v148 w36 ho hb hg hat; rw [← Ny147.out] at ho; have n0_ := Aside0.mk (Kd.R_after (ok := (fun _ => True)) (by (with_reducible repeat (first | apply Kd.R_alloc | apply Kd.R_drewN | apply Kd.R_drew)); exact HO146.out) hg hat); have n1_ := Aside0.mk (hb); have n2_ := Aside0.mk (ho); clear HO146; clear HB; clear HO_3; have HO146 := n0_; have HB := n1_; have HO149 := n2_; clear n0_ n1_ n2_; clear ho hb hg hat))
                                  go_roundg kj13
                                  case measure => have := HK1.out; have := HJ1.out; have := HJ8.out; have := HJ13.out; omega
                                  case rel => exact ⟨(y147), (wrap64 (x4_1 + 1)), (by first | rfl | (simp; done) | (simp [*]; done)), H', ⟨by have := HK1.out; have := HJ1.out; have := HJ8.out; have := HJ13.out; omega⟩, ⟨by (with_reducible repeat (first | apply Kd.R_alloc | apply Kd.R_drewN | apply Kd.R_drew)); exact Kd.R_mono HO149.out (fun _ hk => trivial)⟩, ⟨by repeat (first | (with_reducible first | exact HB.out | apply below_alloc | apply pw_below_drewN | apply below_drew1) | exact HB.out)⟩⟩
                                · rw [if_neg c33] at H
                                  exact absurd H (by simp)
                              · rw [if_neg c32] at H
                                have c32b0 : ((Int.tmod t125 8) == 5) = false := beq_eq_false_iff_ne.mpr c32
                                have c32b1 : ((Int.tmod t125 8) != 5) = true := bne_iff_ne.mpr c32
                                by_cases c38 : (Int.tmod t125 8) = 6
                                · rw [if_pos c38] at H
                                  have c38b0 : ((Int.tmod t125 8) == 6) = true := beq_iff_eq.mpr c38
                                  have c38b1 : ((Int.tmod t125 8) != 6) = false := bne_eq_false_iff_eq.mpr c38
                                  clear c38
                                  obtain ⟨y150, hy150⟩ : ∃ y_ : List Int, y_ = (([(Int.tmod (wrap64 (Int.tdiv t125 8)) 256) % 256, (Int.tmod (wrap64 (Int.tdiv t125 2048)) 12) % 256] : List Int)) := ⟨_, rfl⟩
                                  replace H : (if x3_1.length + y150.length < 140737488355328 then (roundhouselaw4_Some.l0 kj13 l0 (x3_1 ++ y150) (wrap64 (x4_1 + 1))) else (none)) = some r := by first | (rw [hy150]; with_reducible exact H) | (have H2_ := (Option.bind_some _ _).symm.trans H; rw [hy150]; with_reducible exact H2_) | (have H2_ := (Option.bind_some _ _).symm.trans H; with_reducible exact H2_) | with_reducible exact H | (rw [hy150]; exact H) | exact H
                                  have Ny150 := Aside0.mk hy150
                                  clear hy150
                                  by_cases c39 : x3_1.length + y150.length < 140737488355328
                                  · rw [if_pos c39] at H
                                    have LMc39 := Aside0.mk c39
                                    clear c39
                                    obtain ⟨y153, hy153⟩ : ∃ y_ : List Int, y_ = (x3_1 ++ y150) := ⟨_, rfl⟩
                                    replace H : (roundhouselaw4_Some.l0 kj13 l0 y153 (wrap64 (x4_1 + 1))) = some r := by first | (rw [hy153]; with_reducible exact H) | (have H2_ := (Option.bind_some _ _).symm.trans H; rw [hy153]; with_reducible exact H2_) | (have H2_ := (Option.bind_some _ _).symm.trans H; with_reducible exact H2_) | with_reducible exact H | (rw [hy153]; exact H) | exact H
                                    have Ny153 := Aside0.mk hy153
                                    clear hy153
                                    have H' := Aside0.mk H
                                    clear H
                                    go_wp2_with (first | ((with_reducible refine gate_dst (N := 91) rfl ?_); (try (refine gate_guard (by rfl) ?_; dsimp only)); refine Kd.R_lit (Kd.int .u8) _ 5 ?hg (N := 91) ?hd (xs := ([(Int.tmod (wrap64 (Int.tdiv t125 8)) 256) % 256, (Int.tmod (wrap64 (Int.tdiv t125 2048)) 12) % 256] : List Int)) (inner := [.int .u8 ((Int.tmod (wrap64 (Int.tdiv t125 8)) 256) % 256), .int .u8 ((Int.tmod (wrap64 (Int.tdiv t125 2048)) 12) % 256)]) (ok := fun _ => True) (okp := fun _ => True) ?hr ?hp (fun _ hk => hk) trivial (Below.refl _ _) (Nat.le_refl _) (by simp) ?_; (case hd => rfl); (case hg => rfl); (case hr => first | (go_simp; done) | (go_simp; rfl)); (case hp => exact (Reps.one (show Kd.M (Kd.int .u8) _ _ _ ((Int.tmod (wrap64 (Int.tdiv t125 8)) 256) % 256) [.int .u8 ((Int.tmod (wrap64 (Int.tdiv t125 8)) 256) % 256)] from rfl) (Reps.one (show Kd.M (Kd.int .u8) _ _ _ ((Int.tmod (wrap64 (Int.tdiv t125 2048)) 12) % 256) [.int .u8 ((Int.tmod (wrap64 (Int.tdiv t125 2048)) 12) % 256)] from rfl) (Reps.none _ _)))); intro v151 w40 ho41 hb hg_ hnew_; clear hg_ hnew_; (first | rw [← Ny150.out] at ho41 | (simp only [Int.reduceToNat] at ho41; rw [← Ny150.out] at ho41)); have n0_ := Aside0.mk (Kd.R_elder' (by (with_reducible repeat (first | apply Kd.R_alloc | apply Kd.R_drewN | apply Kd.R_drew)); exact HO_3.out) (Kd.R_base ho41) hb); have n1_ := Aside0.mk (Kd.R_lower (Kd.R_new' ho41 (Kd.R_lt (by (with_reducible repeat (first | apply Kd.R_alloc | apply Kd.R_drewN | apply Kd.R_drew)); exact HO_3.out))) (below_size (by repeat (first | (with_reducible first | exact HB.out | apply below_alloc | apply pw_below_drewN | apply below_drew1) | exact HB.out)))); have n2_ := Aside0.mk (below_step (by repeat (first | (with_reducible first | exact HB.out | apply below_alloc | apply pw_below_drewN | apply below_drew1) | exact HB.out)) hb); clear HO_3; clear HB; have HO_3 := n0_; have HO152 := n1_; have HB := n2_; clear n0_ n1_ n2_; clear hb ho41; obtain ⟨Ao43, co43, eo43⟩ := Kd.R_slice HO152.out; subst eo43) | ((with_reducible refine gate_builtin (b := .append) (xs := #[.tmp 82, .tmp 91]) rfl ?_); (try (refine gate_guard (by rfl) ?_; dsimp only)); at_builtin; refine Kd.R_append_rows (Kd.int .u8) (w0 := w) w.heap.size rfl (.tmp 82) (.tmp 91) 23 5 (.int .u8 0) 1 rfl Try.underlying23 info5 rfl (by decide) (by omega) u3 x3_1 y150 _ _ _ (fun k_ => some k_ ≠ (.slice Ao43 y150.length co43 : Value).ownBlock) (fun _ => False) rfl rfl ?aO ?aR (fun _ _ h => h) (fun _ h => h.elim) ?aF ?aB ?aS ?aL ?_; (case aR => repeat (first | exact (Kd.R_reads' HO152.out).2.2 | (with_reducible refine Kd.C_alloc ?_ _) | (with_reducible refine Kd.C_drewN ?_ _) | (with_reducible refine Kd.C_drew ?_))); (case aB => exact (by repeat (first | (with_reducible first | exact HB.out | apply below_alloc | apply pw_below_drewN | apply below_drew1) | exact HB.out))); (case aF => exact (fun k_ hk => Kd.fresh' (Kd.R_lt (by (with_reducible repeat (first | apply Kd.R_alloc | apply Kd.R_drewN | apply Kd.R_drew)); exact HO152.out)) k_ hk)); (case aO => exact (by (with_reducible repeat (first | apply Kd.R_alloc | apply Kd.R_drewN | apply Kd.R_drew)); exact Kd.R_mono HO_3.out (fun _ hk => hk.2))); (case aS => exact (below_size (by repeat (first | (with_reducible first | exact HB.out | apply below_alloc | apply pw_below_drewN | apply below_drew1) | exact HB.out)))); (case aL => have := LMc39.out; omega); intro v154 w42 ho hb hg hat; rw [← Ny153.out] at ho; have n0_ := Aside0.mk (Kd.R_after (ok := (fun _ => True)) (by (with_reducible repeat (first | apply Kd.R_alloc | apply Kd.R_drewN | apply Kd.R_drew)); exact HO152.out) hg hat); have n1_ := Aside0.mk (hb); have n2_ := Aside0.mk (ho); clear HO152; clear HB; clear HO_3; have HO152 := n0_; have HB := n1_; have HO155 := n2_; clear n0_ n1_ n2_; clear ho hb hg hat))
                                    go_roundg kj13
                                    case measure => have := HK1.out; have := HJ1.out; have := HJ8.out; have := HJ13.out; omega
                                    case rel => exact ⟨(y153), (wrap64 (x4_1 + 1)), (by first | rfl | (simp; done) | (simp [*]; done)), H', ⟨by have := HK1.out; have := HJ1.out; have := HJ8.out; have := HJ13.out; omega⟩, ⟨by (with_reducible repeat (first | apply Kd.R_alloc | apply Kd.R_drewN | apply Kd.R_drew)); exact Kd.R_mono HO155.out (fun _ hk => trivial)⟩, ⟨by repeat (first | (with_reducible first | exact HB.out | apply below_alloc | apply pw_below_drewN | apply below_drew1) | exact HB.out)⟩⟩
                                  · rw [if_neg c39] at H
                                    exact absurd H (by simp)
                                · rw [if_neg c38] at H
                                  have c38b0 : ((Int.tmod t125 8) == 6) = false := beq_eq_false_iff_ne.mpr c38
                                  have c38b1 : ((Int.tmod t125 8) != 6) = true := bne_iff_ne.mpr c38
                                  by_cases c44 : (Int.tmod t125 8) = 7
                                  · rw [if_pos c44] at H
                                    have c44b0 : ((Int.tmod t125 8) == 7) = true := beq_iff_eq.mpr c44
                                    have c44b1 : ((Int.tmod t125 8) != 7) = false := bne_eq_false_iff_eq.mpr c44
                                    clear c44
                                    by_cases c45 : (Int.tmod (wrap64 (Int.tdiv t125 8)) 3) = 0
                                    · rw [if_pos c45] at H
                                      have c45b0 : ((Int.tmod (wrap64 (Int.tdiv t125 8)) 3) == 0) = true := beq_iff_eq.mpr c45
                                      have c45b1 : ((Int.tmod (wrap64 (Int.tdiv t125 8)) 3) != 0) = false := bne_eq_false_iff_eq.mpr c45
                                      clear c45
                                      by_cases c46 : x3_1.length < 140737488355328
                                      · rw [if_pos c46] at H
                                        have LMc46 := Aside0.mk c46
                                        clear c46
                                        obtain ⟨y156, hy156⟩ : ∃ y_ : List Int, y_ = (x3_1 ++ [0]) := ⟨_, rfl⟩
                                        replace H : (roundhouselaw4_Some.l0 kj13 l0 y156 (wrap64 (x4_1 + 1))) = some r := by first | (rw [hy156]; with_reducible exact H) | (have H2_ := (Option.bind_some _ _).symm.trans H; rw [hy156]; with_reducible exact H2_) | (have H2_ := (Option.bind_some _ _).symm.trans H; with_reducible exact H2_) | with_reducible exact H | (rw [hy156]; exact H) | exact H
                                        have Ny156 := Aside0.mk hy156
                                        clear hy156
                                        have H' := Aside0.mk H
                                        clear H
                                        go_wp2_with (first | ((with_reducible refine gate_builtin (b := .append) (xs := #[.tmp 99, .tmp 100]) rfl ?_); (try (refine gate_guard (by rfl) ?_; dsimp only)); at_builtin; refine Kd.R_append (Kd.int .u8) (w0 := w) w.heap.size rfl (.tmp 99) (.tmp 100) 23 5 (.int .u8 0) 1 rfl Try.underlying23 info5 rfl (by decide) (by omega) u3 x3_1 0 [.int .u8 0] (fun _ => True) (fun _ => False) rfl rfl ?aP (fun _ hk => hk.elim) ?aF ?aO ?aB ?aS ?aL ?_; (case aP => exact rfl); (case aB => exact (by repeat (first | (with_reducible first | exact HB.out | apply below_alloc | apply pw_below_drewN | apply below_drew1) | exact HB.out))); (case aF => exact (fun _ _ => trivial)); (case aO => exact (by (with_reducible repeat (first | apply Kd.R_alloc | apply Kd.R_drewN | apply Kd.R_drew)); exact HO_3.out)); (case aS => exact (below_size (by repeat (first | (with_reducible first | exact HB.out | apply below_alloc | apply pw_below_drewN | apply below_drew1) | exact HB.out)))); (case aL => have := LMc46.out; omega); intro v157 w47 ho hb hg hat; rw [← Ny156.out] at ho; have n0_ := Aside0.mk (hb); have n1_ := Aside0.mk (ho); clear HB; clear HO_3; have HB := n0_; have HO158 := n1_; clear n0_ n1_; clear ho hb hg hat))
                                        go_roundg kj13
                                        case measure => have := HK1.out; have := HJ1.out; have := HJ8.out; have := HJ13.out; omega
                                        case rel => exact ⟨(y156), (wrap64 (x4_1 + 1)), (by first | rfl | (simp; done) | (simp [*]; done)), H', ⟨by have := HK1.out; have := HJ1.out; have := HJ8.out; have := HJ13.out; omega⟩, ⟨by (with_reducible repeat (first | apply Kd.R_alloc | apply Kd.R_drewN | apply Kd.R_drew)); exact HO158.out⟩, ⟨by repeat (first | (with_reducible first | exact HB.out | apply below_alloc | apply pw_below_drewN | apply below_drew1) | exact HB.out)⟩⟩
                                      · rw [if_neg c46] at H
                                        exact absurd H (by simp)
                                    · rw [if_neg c45] at H
                                      have c45b0 : ((Int.tmod (wrap64 (Int.tdiv t125 8)) 3) == 0) = false := beq_eq_false_iff_ne.mpr c45
                                      have c45b1 : ((Int.tmod (wrap64 (Int.tdiv t125 8)) 3) != 0) = true := bne_iff_ne.mpr c45
                                      have H' := Aside0.mk H
                                      clear H
                                      go_wp2
                                      go_roundg kj13
                                      case measure => have := HK1.out; have := HJ1.out; have := HJ8.out; have := HJ13.out; omega
                                      case rel => exact ⟨(x3_1), (wrap64 (x4_1 + 1)), (by first | rfl | (simp; done) | (simp [*]; done)), H', ⟨by have := HK1.out; have := HJ1.out; have := HJ8.out; have := HJ13.out; omega⟩, ⟨by (with_reducible repeat (first | apply Kd.R_alloc | apply Kd.R_drewN | apply Kd.R_drew)); exact HO_3.out⟩, ⟨by repeat (first | (with_reducible first | exact HB.out | apply below_alloc | apply pw_below_drewN | apply below_drew1) | exact HB.out)⟩⟩
                                  · rw [if_neg c44] at H
                                    have c44b0 : ((Int.tmod t125 8) == 7) = false := beq_eq_false_iff_ne.mpr c44
                                    have c44b1 : ((Int.tmod t125 8) != 7) = true := bne_iff_ne.mpr c44
                                    have H' := Aside0.mk H
                                    clear H
                                    go_wp2
                                    go_roundg kj13
                                    case measure => have := HK1.out; have := HJ1.out; have := HJ8.out; have := HJ13.out; omega
                                    case rel => exact ⟨(x3_1), (wrap64 (x4_1 + 1)), (by first | rfl | (simp; done) | (simp [*]; done)), H', ⟨by have := HK1.out; have := HJ1.out; have := HJ8.out; have := HJ13.out; omega⟩, ⟨by (with_reducible repeat (first | apply Kd.R_alloc | apply Kd.R_drewN | apply Kd.R_drew)); exact HO_3.out⟩, ⟨by repeat (first | (with_reducible first | exact HB.out | apply below_alloc | apply pw_below_drewN | apply below_drew1) | exact HB.out)⟩⟩
              · rw [if_neg c7] at H
                exact absurd H (by simp)
            · rw [if_neg c6] at H
              exact absurd H (by simp)
          · replace c5 := Bool.eq_false_iff.mpr c5
            subst c5
            have H1 : (some x3_1) = some r := by rw [if_neg (show ¬ (false = true) by decide)] at H; exact H
            clear H
            have H := H1
            clear H1
            obtain rfl := Option.some.inj H
            go_wp2
            go_ret
            exact ⟨_, by first | rfl | (simp [errW_none, errW_some] <;> rfl) | (simp [*, errW_none, errW_some] <;> rfl), by (with_reducible repeat (first | apply Kd.R_alloc | apply Kd.R_drewN | apply Kd.R_drew)); exact HO_3.out, by repeat (first | (with_reducible first | exact HB.out | apply below_alloc | apply pw_below_drewN | apply below_drew1) | exact HB.out)⟩

end Go.Proofs.Ytjdkifdnbfmccaa.Q
