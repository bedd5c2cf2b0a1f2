/- By a program of this session (wip/tools/myprint.py), out of the translation: for each Go function a plain Lean function, and that the call comes to what that function says; a law's row out of its plain statement. Lean checks it. -/
import Derived.Test.YtnaplobnkmdfbaaCookG
import Derived.Test.YtnaplobnkmdfbaaQ0
import Derived.Test.YtnaplobnkmdfbaaQ1
import Derived.Test.YtnaplobnkmdfbaaQ2
import Derived.Test.YtnaplobnkmdfbaaQ22
import Derived.Test.YtnaplobnkmdfbaaQ26
import Derived.Test.YtnaplobnkmdfbaaQ31
import Derived.Test.YtnaplobnkmdfbaaQ48
namespace Go.Proofs.Ytnaplobnkmdfbaa.Q
open Go.RowKit Go.Proofs.YtnaplobnkmdfbaaW.PrintWords Go.Proofs.YtnaplobnkmdfbaaW.PrintLast Go.Proofs.YtnaplobnkmdfbaaW.PrintMore
attribute [local go_sem] max2_int min2_int max_two min_two max_three min_three max_four min_four   -- for this text's walks alone
set_option linter.unusedVariables false
set_option linter.unusedSimpArgs false

open Go.Proofs.Ytnaplobnkmdfbaa.Own
attribute [local go_sem high] eqA25 eqA27
/-! ### roundhouselaw5_CookieRings: function 6 -/
mutual
def roundhouselaw5_CookieRings.j1 : Nat → Int → Int → Int → List (S25) → Option (Bool)
  | 0, _, _, _, _ => none
  | k + 1, x0, x2, x3, x9 => (roundhouselaw5_within.f x0 1099511627776).bind fun t391 => ((cookie_Ring.f k t391 x9).bind fun bt392 => ((roundhouseref5_Ring.f k t391 x9).bind fun bt400 => (if (!(bt392.1 == bt400.1) || ((!(bt392.2.1 == bt400.2.1) || (!(bt392.2.2.1 == bt400.2.2.1))) || ((!(bt392.2.2.2.1 == bt400.2.2.2.1) || (!(bt392.2.2.2.2.1 == bt400.2.2.2.2.1))) || ((!(bt392.2.2.2.2.2.1 == bt400.2.2.2.2.2.1) || (!(bt392.2.2.2.2.2.2 == bt400.2.2.2.2.2.2))))))) = true then (roundhouselaw5_CookieRings.j2 k x2 t391 true bt392.1 bt392.2.1 bt392.2.2.1 bt392.2.2.2.1 bt392.2.2.2.2.1 bt392.2.2.2.2.2.1 bt392.2.2.2.2.2.2) else ((roundhouselaw5_Key.f x3).bind fun bt407 => ((cookie_Next.f bt392.1 bt392.2.1 bt392.2.2.1 bt392.2.2.2.1 bt392.2.2.2.2.1 bt392.2.2.2.2.2.1 bt392.2.2.2.2.2.2 bt407.1 bt407.2).bind fun bt409 => ((roundhouselaw5_Key.f x3).bind fun bt416 => ((roundhouseref5_Next.f bt392.1 bt392.2.1 bt392.2.2.1 bt392.2.2.2.1 bt392.2.2.2.2.1 bt392.2.2.2.2.2.1 bt392.2.2.2.2.2.2 bt416.1 bt416.2).bind fun bt418 => (roundhouselaw5_CookieRings.j2 k x2 t391 (!(bt409.1 == bt418.1) || ((!(bt409.2.1 == bt418.2.1) || (!(bt409.2.2.1 == bt418.2.2.1))) || ((!(bt409.2.2.2.1 == bt418.2.2.2.1) || (!(bt409.2.2.2.2.1 == bt418.2.2.2.2.1))) || ((!(bt409.2.2.2.2.2.1 == bt418.2.2.2.2.2.1) || (!(bt409.2.2.2.2.2.2 == bt418.2.2.2.2.2.2))))))) bt392.1 bt392.2.1 bt392.2.2.1 bt392.2.2.2.1 bt392.2.2.2.2.1 bt392.2.2.2.2.2.1 bt392.2.2.2.2.2.2))))))))
def roundhouselaw5_CookieRings.j2 : Nat → Int → Int → Bool → Int → Int → Int → Int → Int → Int → Int → Option (Bool)
  | 0, _, _, _, _, _, _, _, _, _, _ => none
  | k + 1, x2, x11, x62, x400000, x400001, x400002, x400003, x400004, x400005, x400006 => if x62 = true then (some false) else (roundhouselaw5_CookieRings.l1 k x2 x11 (-3) x400000 x400001 x400002 x400003 x400004 x400005 x400006)
def roundhouselaw5_CookieRings.l1 : Nat → Int → Int → Int → Int → Int → Int → Int → Int → Int → Int → Option (Bool)
  | 0, _, _, _, _, _, _, _, _, _, _ => none
  | k + 1, x2, x11, x13, x400000, x400001, x400002, x400003, x400004, x400005, x400006 => if x13 < 6 then ((cookie_Key.f k x400000 x400001 x400002 x400003 x400004 x400005 x400006 (wrap64 (x11 + x13))).bind fun bt433 => ((roundhouseref5_Key.f x400000 x400001 x400002 x400003 x400004 x400005 x400006 (wrap64 (x11 + x13))).bind fun bt437 => (if (!(bt433.1 == bt437.1) || (!(bt433.2.1 == bt437.2.1))) = true then (some false) else (if (bt433.2.2 != bt437.2.2) = true then (some false) else (roundhouselaw5_CookieRings.l1 k x2 x11 (wrap64 (x13 + 1)) x400000 x400001 x400002 x400003 x400004 x400005 x400006))))) else ((cookie_Key.f k x400000 x400001 x400002 x400003 x400004 x400005 x400006 x2).bind fun bt425 => ((roundhouseref5_Key.f x400000 x400001 x400002 x400003 x400004 x400005 x400006 x2).bind fun bt429 => (if (bt425.1 == bt429.1 && (bt425.2.1 == bt429.2.1)) = true then (some (bt425.2.2 == bt429.2.2)) else (some false))))
def roundhouselaw5_CookieRings.l0 : Nat → Int → List Int → Int → Int → List (S25) → Int → Option (Bool)
  | 0, _, _, _, _, _, _ => none
  | k + 1, x0, x1, x2, x3, x9, x10 => if x10 < (x1.length : Int) then (if x10 < 5 then (if 0 ≤ x10 then ((roundhouselaw5_Key.f (rd x1 x10)).bind fun bt386 => (if x9.length < 8796093022208 then (roundhouselaw5_CookieRings.l0 k x0 x1 x2 x3 (x9 ++ [(⟨bt386.1, bt386.2⟩ : S25)]) (wrap64 (x10 + 1))) else (none))) else (none)) else (roundhouselaw5_CookieRings.j1 k x0 x2 x3 x9)) else (roundhouselaw5_CookieRings.j1 k x0 x2 x3 x9)
end
def roundhouselaw5_CookieRings.f (k : Nat) (a0 : Int) (l1 : List Int) (a2 : Int) (a3 : Int) : Option (Bool) := (roundhouselaw5_known.f k).bind fun t384 => (if t384 = true then (roundhouselaw5_CookieRings.l0 k a0 l1 a2 a3 ([] : List (S25)) 0) else (some false))
theorem roundhouselaw5_CookieRings.mono_l : ∀ k, (∀ y0 y1 y2 y3, LeO (roundhouselaw5_CookieRings.j1 k y0 y1 y2 y3) (roundhouselaw5_CookieRings.j1 (k + 1) y0 y1 y2 y3)) ∧ (∀ y0 y1 y2 y3 y4 y5 y6 y7 y8 y9, LeO (roundhouselaw5_CookieRings.j2 k y0 y1 y2 y3 y4 y5 y6 y7 y8 y9) (roundhouselaw5_CookieRings.j2 (k + 1) y0 y1 y2 y3 y4 y5 y6 y7 y8 y9)) ∧ (∀ y0 y1 y2 y3 y4 y5 y6 y7 y8 y9, LeO (roundhouselaw5_CookieRings.l1 k y0 y1 y2 y3 y4 y5 y6 y7 y8 y9) (roundhouselaw5_CookieRings.l1 (k + 1) y0 y1 y2 y3 y4 y5 y6 y7 y8 y9)) ∧ (∀ y0 y1 y2 y3 y4 y5, LeO (roundhouselaw5_CookieRings.l0 k y0 y1 y2 y3 y4 y5) (roundhouselaw5_CookieRings.l0 (k + 1) y0 y1 y2 y3 y4 y5))
  | 0 => ⟨fun _ _ _ _ r h => by simp [roundhouselaw5_CookieRings.j1] at h, fun _ _ _ _ _ _ _ _ _ _ r h => by simp [roundhouselaw5_CookieRings.j2] at h, fun _ _ _ _ _ _ _ _ _ _ r h => by simp [roundhouselaw5_CookieRings.l1] at h, fun _ _ _ _ _ _ r h => by simp [roundhouselaw5_CookieRings.l0] at h⟩
  | k + 1 => by
    obtain ⟨ih0, ih1, ih2, ih3⟩ := roundhouselaw5_CookieRings.mono_l k
    refine ⟨?_, ?_, ?_, ?_⟩
    · intro y0 y1 y2 y3
      unfold roundhouselaw5_CookieRings.j1
      repeat' first
      | (with_reducible exact ih0 _ _ _ _)
      | (with_reducible exact ih1 _ _ _ _ _ _ _ _ _ _)
      | (with_reducible exact ih2 _ _ _ _ _ _ _ _ _ _)
      | (with_reducible exact ih3 _ _ _ _ _ _)
      | (with_reducible exact cookie_Key.mono _ _ _ _ _ _ _ _ _)
      | (with_reducible exact cookie_Ring.mono _ _ _)
      | (with_reducible exact roundhouselaw5_known.mono _)
      | (with_reducible exact roundhouseref5_Ring.mono _ _ _)
      | (with_reducible exact LeO.refl _)
      | (with_reducible exact LeO.none _)
      | (with_reducible refine LeO.ite ?_ ?_)
      | (with_reducible refine LeO.bind ?_ (fun _ => ?_))
      | exact ih0 _ _ _ _
      | exact ih1 _ _ _ _ _ _ _ _ _ _
      | exact ih2 _ _ _ _ _ _ _ _ _ _
      | exact ih3 _ _ _ _ _ _
      | exact cookie_Key.mono _ _ _ _ _ _ _ _ _
      | exact cookie_Ring.mono _ _ _
      | exact roundhouselaw5_known.mono _
      | exact roundhouseref5_Ring.mono _ _ _
      | exact LeO.none _
      | refine LeO.ite ?_ ?_
      | refine LeO.bind ?_ (fun _ => ?_)
    · intro y0 y1 y2 y3 y4 y5 y6 y7 y8 y9
      unfold roundhouselaw5_CookieRings.j2
      repeat' first
      | (with_reducible exact ih0 _ _ _ _)
      | (with_reducible exact ih1 _ _ _ _ _ _ _ _ _ _)
      | (with_reducible exact ih2 _ _ _ _ _ _ _ _ _ _)
      | (with_reducible exact ih3 _ _ _ _ _ _)
      | (with_reducible exact cookie_Key.mono _ _ _ _ _ _ _ _ _)
      | (with_reducible exact cookie_Ring.mono _ _ _)
      | (with_reducible exact roundhouselaw5_known.mono _)
      | (with_reducible exact roundhouseref5_Ring.mono _ _ _)
      | (with_reducible exact LeO.refl _)
      | (with_reducible exact LeO.none _)
      | (with_reducible refine LeO.ite ?_ ?_)
      | (with_reducible refine LeO.bind ?_ (fun _ => ?_))
      | exact ih0 _ _ _ _
      | exact ih1 _ _ _ _ _ _ _ _ _ _
      | exact ih2 _ _ _ _ _ _ _ _ _ _
      | exact ih3 _ _ _ _ _ _
      | exact cookie_Key.mono _ _ _ _ _ _ _ _ _
      | exact cookie_Ring.mono _ _ _
      | exact roundhouselaw5_known.mono _
      | exact roundhouseref5_Ring.mono _ _ _
      | exact LeO.none _
      | refine LeO.ite ?_ ?_
      | refine LeO.bind ?_ (fun _ => ?_)
    · intro y0 y1 y2 y3 y4 y5 y6 y7 y8 y9
      unfold roundhouselaw5_CookieRings.l1
      repeat' first
      | (with_reducible exact ih0 _ _ _ _)
      | (with_reducible exact ih1 _ _ _ _ _ _ _ _ _ _)
      | (with_reducible exact ih2 _ _ _ _ _ _ _ _ _ _)
      | (with_reducible exact ih3 _ _ _ _ _ _)
      | (with_reducible exact cookie_Key.mono _ _ _ _ _ _ _ _ _)
      | (with_reducible exact cookie_Ring.mono _ _ _)
      | (with_reducible exact roundhouselaw5_known.mono _)
      | (with_reducible exact roundhouseref5_Ring.mono _ _ _)
      | (with_reducible exact LeO.refl _)
      | (with_reducible exact LeO.none _)
      | (with_reducible refine LeO.ite ?_ ?_)
      | (with_reducible refine LeO.bind ?_ (fun _ => ?_))
      | exact ih0 _ _ _ _
      | exact ih1 _ _ _ _ _ _ _ _ _ _
      | exact ih2 _ _ _ _ _ _ _ _ _ _
      | exact ih3 _ _ _ _ _ _
      | exact cookie_Key.mono _ _ _ _ _ _ _ _ _
      | exact cookie_Ring.mono _ _ _
      | exact roundhouselaw5_known.mono _
      | exact roundhouseref5_Ring.mono _ _ _
      | exact LeO.none _
      | refine LeO.ite ?_ ?_
      | refine LeO.bind ?_ (fun _ => ?_)
    · intro y0 y1 y2 y3 y4 y5
      unfold roundhouselaw5_CookieRings.l0
      repeat' first
      | (with_reducible exact ih0 _ _ _ _)
      | (with_reducible exact ih1 _ _ _ _ _ _ _ _ _ _)
      | (with_reducible exact ih2 _ _ _ _ _ _ _ _ _ _)
      | (with_reducible exact ih3 _ _ _ _ _ _)
      | (with_reducible exact cookie_Key.mono _ _ _ _ _ _ _ _ _)
      | (with_reducible exact cookie_Ring.mono _ _ _)
      | (with_reducible exact roundhouselaw5_known.mono _)
      | (with_reducible exact roundhouseref5_Ring.mono _ _ _)
      | (with_reducible exact LeO.refl _)
      | (with_reducible exact LeO.none _)
      | (with_reducible refine LeO.ite ?_ ?_)
      | (with_reducible refine LeO.bind ?_ (fun _ => ?_))
      | exact ih0 _ _ _ _
      | exact ih1 _ _ _ _ _ _ _ _ _ _
      | exact ih2 _ _ _ _ _ _ _ _ _ _
      | exact ih3 _ _ _ _ _ _
      | exact cookie_Key.mono _ _ _ _ _ _ _ _ _
      | exact cookie_Ring.mono _ _ _
      | exact roundhouselaw5_known.mono _
      | exact roundhouseref5_Ring.mono _ _ _
      | exact LeO.none _
      | refine LeO.ite ?_ ?_
      | refine LeO.bind ?_ (fun _ => ?_)
theorem roundhouselaw5_CookieRings.mono : ∀ a0 a1 a2 a3 k, LeO (roundhouselaw5_CookieRings.f k a0 a1 a2 a3) (roundhouselaw5_CookieRings.f (k + 1) a0 a1 a2 a3) := by
  intro a0 a1 a2 a3 k
  obtain ⟨ih0, ih1, ih2, ih3⟩ := roundhouselaw5_CookieRings.mono_l k
  unfold roundhouselaw5_CookieRings.f
  repeat' first
      | (with_reducible exact ih0 _ _ _ _)
      | (with_reducible exact ih1 _ _ _ _ _ _ _ _ _ _)
      | (with_reducible exact ih2 _ _ _ _ _ _ _ _ _ _)
      | (with_reducible exact ih3 _ _ _ _ _ _)
      | (with_reducible exact cookie_Key.mono _ _ _ _ _ _ _ _ _)
      | (with_reducible exact cookie_Ring.mono _ _ _)
      | (with_reducible exact roundhouselaw5_known.mono _)
      | (with_reducible exact roundhouseref5_Ring.mono _ _ _)
      | (with_reducible exact LeO.refl _)
      | (with_reducible exact LeO.none _)
      | (with_reducible refine LeO.ite ?_ ?_)
      | (with_reducible refine LeO.bind ?_ (fun _ => ?_))
      | exact ih0 _ _ _ _
      | exact ih1 _ _ _ _ _ _ _ _ _ _
      | exact ih2 _ _ _ _ _ _ _ _ _ _
      | exact ih3 _ _ _ _ _ _
      | exact cookie_Key.mono _ _ _ _ _ _ _ _ _
      | exact cookie_Ring.mono _ _ _
      | exact roundhouselaw5_known.mono _
      | exact roundhouseref5_Ring.mono _ _ _
      | exact LeO.none _
      | refine LeO.ite ?_ ?_
      | refine LeO.bind ?_ (fun _ => ?_)
def roundhouselaw5_CookieRings.T10 : Bool × List (List Nat × List Nat) := (true, [([], []), ([], []), ([], []), ([1, 2], [1, 2]), ([0, 3], [0, 3]), ([4, 3], [4]), ([5], [5]), ([5], [5]), ([7, 5, 5], [5, 7]), ([6, 8, 8, 5], [5, 6, 8]), ([5], [5]), ([5], [5]), ([11, 9, 5], [5, 11]), ([10, 12, 12, 5], [5, 10, 12]), ([9, 13, 5], [5, 9, 13]), ([5, 14], [5, 14])])
def roundhouselaw5_CookieRings.B10 : List Nat := [0, 0, 0, 6, 15, 31, 63, 63, 191, 511, 63, 63, 3071, 8191, 16383, 32767]
theorem roundhouselaw5_CookieRings.tab10 : rtab .any (opsOf Try.f6 10) = roundhouselaw5_CookieRings.T10 := by kernel_rfl
theorem roundhouselaw5_CookieRings.bits10 : waitsOk roundhouselaw5_CookieRings.T10.2 roundhouselaw5_CookieRings.B10 = true := by kernel_rfl
set_option maxHeartbeats 8000000 in
set_option maxRecDepth 100000 in
theorem roundhouselaw5_CookieRings.calls (k : Nat) (a0 : Int) (A1 : Option Addr) (c1 : Nat) (l1 : List Int) (a2 : Int) (a3 : Int) (r : Bool) (w : World) (hr1 : Kd.C (Kd.int .i64) w A1 l1.length l1) (hc1 : l1.length ≤ c1) (h : roundhouselaw5_CookieRings.f k a0 l1 a2 a3 = some r) (hr_ : Aside0 (r = true)) :
    Calls Try.prog 6 #[.int .i64 a0, .slice A1 l1.length c1, .int .i64 a2, .int .i64 a3] w fun e w' => e = .returned (.bool r) ∧ Below w.heap.size w w' := by
  have hu27 := Try.underlying27
  have hu25 := Try.underlying25
  have HR1 := Aside0.mk hr1
  have HC1 := Aside0.mk hc1
  clear hr1 hc1
  have HB := Aside0.mk (Below.refl w.heap.size w)
  have H : ((roundhouselaw5_known.f k).bind fun t384 => (if t384 = true then (roundhouselaw5_CookieRings.l0 k a0 l1 a2 a3 ([] : List (S25)) 0) else (some false))) = some r := h
  clear h
  replace H := Option.bind_eq_some_iff.mp H
  obtain ⟨t384, A50, H⟩ := H
  replace H : (if t384 = true then (roundhouselaw5_CookieRings.l0 k a0 l1 a2 a3 ([] : List (S25)) 0) else (some false)) = some r := H
  have A5 := Aside0.mk A50
  clear A50
  by_cases c6 : t384 = true
  · subst c6
    have H1 : (roundhouselaw5_CookieRings.l0 k a0 l1 a2 a3 ([] : List (S25)) 0) = some r := by rw [if_pos rfl] at H; exact H
    clear H
    have H := H1
    clear H1
    have HC7 := Aside0.mk H
    clear H
    go_enter Try.func6, Try.ntmps6
    go_upto_block 0 with (first | ((with_reducible refine gate_callee (f := 16) rfl ?_); refine goesL_ (some 22) rfl rfl Try.func16 (by kernel_rfl) rfl #[] rfl (by (try simp only [List.map_toArray, List.map_cons, List.map_nil]); first | done | rfl | (simp only [List.length_drop, List.length_take]; rfl)) ?_; (with_reducible refine (roundhouselaw5_known.calls k  true _ A5.out).mono ?_); rintro e w8 ⟨rfl, hb⟩; refine ⟨_, rfl, ?_⟩; have n0_ := Aside0.mk (below_step (by repeat (first | (with_reducible first | exact HB.out | apply below_alloc | apply pw_below_drewN | apply below_drew1) | exact HB.out)) hb); clear HB; have HB := n0_; clear n0_; (try clear hb); (try clear hb2); (try clear hk); (try clear hi)))
    (try simp only [Act.put, List.setIfInBounds_toArray, List.set_cons_zero, List.set_cons_succ])
    go_cut [9] (fun v9 wc => ∃ (kq : Nat) (x9_6 : List (S25)), Aside0 (roundhouselaw5_CookieRings.j1 kq a0 a2 a3 x9_6 = some r) ∧ Aside0 (kq ≤ k) ∧ Aside0 (Kd.R k25 25 wc w.heap.size (fun _ => True) v9 x9_6) ∧ Aside0 (Below w.heap.size w wc))
    case first =>
      have H := HC7.out
      clear HC7
      have H' := Aside0.mk H
      clear H
      go_wp2
      go_loopg [9, 10] k (fun kq v9 v10 w' => ∃ (x9_1 : List (S25)) (x10_1 : Int), v10 = .int .i64 x10_1 ∧ Aside0 (roundhouselaw5_CookieRings.l0 kq a0 l1 a2 a3 x9_1 x10_1 = some r) ∧ Aside0 (kq ≤ k) ∧ Aside0 (Kd.R k25 25 w' w.heap.size (fun _ => True) v9 x9_1) ∧ Aside0 (Below w.heap.size w w'))
      case atStart => exact ⟨(([] : List (S25))), (0), (by first | rfl | (simp; done) | (simp [*]; done)), H', ⟨Nat.le_refl _⟩, ⟨by first | exact Kd.R_nil _ _ _ _ _ | exact Kd.N_nil _ _ _ _ _ | exact Kd.V_nil _ _ _ _ _ | exact Kd.Q_nil _ _ _ _ _ | exact Kd.S_nil _ _ _ _ _⟩, ⟨by repeat (first | (with_reducible first | exact HB.out | apply below_alloc | apply pw_below_drewN | apply below_drew1) | exact HB.out)⟩⟩
      case round =>
        clear H'
        try clear c1
        try clear p2
        try clear c6
        obtain ⟨x9_1, x10_1, rfl, HA, HK1, HO_9, HB⟩ := hrel
        cases gk with
        | zero => exact absurd HA.out (by simp [roundhouselaw5_CookieRings.l0])
        | succ k1 =>
          have H := HA.out
          clear HA
          simp only [roundhouselaw5_CookieRings.l0] at H
          by_cases c9 : x10_1 < (l1.length : Int)
          · rw [if_pos c9] at H
            have c9b0 : decide (x10_1 < (l1.length : Int)) = true := decide_eq_true c9
            clear c9
            (first | rw [c9b0] | (simp only [i64_w, i32_w]; rw [c9b0]) | skip)
            by_cases c10 : x10_1 < 5
            · rw [if_pos c10] at H
              have c10b0 : decide (x10_1 < 5) = true := decide_eq_true c10
              clear c10
              by_cases c11 : 0 ≤ x10_1
              · rw [if_pos c11] at H
                have c11b0 : decide (0 ≤ x10_1) = true := decide_eq_true c11
                clear c11
                replace H := Option.bind_eq_some_iff.mp H
                obtain ⟨⟨t386, t387⟩, A120, H⟩ := H
                replace H : (if x9_1.length < 8796093022208 then (roundhouselaw5_CookieRings.l0 k1 a0 l1 a2 a3 (x9_1 ++ [(⟨t386, t387⟩ : S25)]) (wrap64 (x10_1 + 1))) else (none)) = some r := H
                have A12 := Aside0.mk A120
                clear A120
                by_cases c13 : x9_1.length < 8796093022208
                · rw [if_pos c13] at H
                  have LMc13 := Aside0.mk c13
                  clear c13
                  obtain ⟨y388, hy388⟩ : ∃ y_ : List (S25), y_ = (x9_1 ++ [(⟨t386, t387⟩ : S25)]) := ⟨_, rfl⟩
                  replace H : (roundhouselaw5_CookieRings.l0 k1 a0 l1 a2 a3 y388 (wrap64 (x10_1 + 1))) = some r := by first | (rw [hy388]; with_reducible exact H) | (have H2_ := (Option.bind_some _ _).symm.trans H; rw [hy388]; with_reducible exact H2_) | (have H2_ := (Option.bind_some _ _).symm.trans H; with_reducible exact H2_) | with_reducible exact H | (rw [hy388]; exact H) | exact H
                  have Ny388 := Aside0.mk hy388
                  clear hy388
                  have H' := Aside0.mk H
                  clear H
                  have p385 : 0 ≤ (x10_1 : Int) := of_decide_eq_true (by first | (with_reducible assumption) | assumption)
                  have q385 : x10_1 < (l1.length : Int) := of_decide_eq_true (by first | (with_reducible assumption) | assumption)
                  obtain ⟨ad385, e385, hx385_0⟩ := Kd.at_int HR1.out x10_1 p385 q385
                  cases e385
                  replace hx385_0 := (HB.out.cell (World.block_lt_of_cell? w _ hx385_0)).trans hx385_0
                  replace p385 := eq_true p385
                  replace q385 := eq_true q385
                  go_wp2_with (first | ((with_reducible refine gate_callee (f := 25) rfl ?_); refine goesL_ (some 39) rfl rfl Try.func25 (by kernel_rfl) rfl #[.int .i64 (rd l1 x10_1)] rfl (by (try simp only [List.map_toArray, List.map_cons, List.map_nil]); first | done | rfl | (simp only [List.length_drop, List.length_take]; rfl)) ?_; (with_reducible refine (roundhouselaw5_Key.calls (rd l1 x10_1) t386 t387 _ A12.out).mono ?_); rintro e w14 ⟨rfl, hb⟩; refine ⟨_, rfl, ?_⟩; have n0_ := Aside0.mk (Kd.R_below (by (with_reducible repeat (first | apply Kd.R_alloc | apply Kd.R_drewN | apply Kd.R_drew)); exact HO_9.out) hb); have n1_ := Aside0.mk (below_step (by repeat (first | (with_reducible first | exact HB.out | apply below_alloc | apply pw_below_drewN | apply below_drew1) | exact HB.out)) hb); clear HO_9; clear HB; have HO_9 := n0_; have HB := n1_; clear n0_ n1_; (try clear hb); (try clear hb2); (try clear hk); (try clear hi)) | ((with_reducible refine gate_builtin (b := .append) (xs := #[.tmp 34, .tmp 40]) rfl ?_); at_builtin; refine Kd.R_append k25 (w0 := w) w.heap.size rfl (.tmp 34) (.tmp 40) 43 25 (.agg #[(.int .u64 0), (.int .u64 0)]) 16 rfl Try.underlying43 info25 rfl (by decide) (by omega) u9 x9_1 (⟨t386, t387⟩ : S25) [.int .u64 t386, .int .u64 t387] (fun _ => True) (fun _ => False) rfl rfl ?aP (fun _ hk => hk.elim) ?aF ?aO ?aB ?aS ?aL ?_; (case aP => exact k25_mkM _ _ _ (⟨t386, t387⟩ : S25)); (case aB => exact (by repeat (first | (with_reducible first | exact HB.out | apply below_alloc | apply pw_below_drewN | apply below_drew1) | exact HB.out))); (case aF => exact (fun _ _ => trivial)); (case aO => exact (by (with_reducible repeat (first | apply Kd.R_alloc | apply Kd.R_drewN | apply Kd.R_drew)); exact HO_9.out)); (case aS => exact (below_size (by repeat (first | (with_reducible first | exact HB.out | apply below_alloc | apply pw_below_drewN | apply below_drew1) | exact HB.out)))); (case aL => have := LMc13.out; omega); intro v389 w15 ho hb hg hat; rw [← Ny388.out] at ho; have n0_ := Aside0.mk (hb); have n1_ := Aside0.mk (ho); clear HB; clear HO_9; have HB := n0_; have HO390 := n1_; clear n0_ n1_; clear ho hb hg hat))
                  go_roundg k1
                  case measure => have := HK1.out; omega
                  case rel => exact ⟨(y388), (wrap64 (x10_1 + 1)), (by first | rfl | (simp; done) | (simp [*]; done)), H', ⟨by have := HK1.out; omega⟩, ⟨by (with_reducible repeat (first | apply Kd.R_alloc | apply Kd.R_drewN | apply Kd.R_drew)); exact HO390.out⟩, ⟨by repeat (first | (with_reducible first | exact HB.out | apply below_alloc | apply pw_below_drewN | apply below_drew1) | exact HB.out)⟩⟩
                · rw [if_neg c13] at H
                  exact absurd H (by simp)
              · rw [if_neg c11] at H
                exact absurd H (by simp)
            · rw [if_neg c10] at H
              have c10b0 : decide (x10_1 < 5) = false := decide_eq_false c10
              clear c10
              have H' := Aside0.mk H
              clear H
              go_wp2
              go_meet
              case rel => exact ⟨_, (x9_1), H', ⟨by have := HK1.out; first | omega | exact Nat.le_refl _⟩, ⟨by (with_reducible repeat (first | apply Kd.R_alloc | apply Kd.R_drewN | apply Kd.R_drew)); exact HO_9.out⟩, ⟨by repeat (first | (with_reducible first | exact HB.out | apply below_alloc | apply pw_below_drewN | apply below_drew1) | exact HB.out)⟩⟩
          · rw [if_neg c9] at H
            have c9b0 : decide (x10_1 < (l1.length : Int)) = false := decide_eq_false c9
            clear c9
            (first | rw [c9b0] | (simp only [i64_w, i32_w]; rw [c9b0]) | skip)
            have H' := Aside0.mk H
            clear H
            go_wp2
            go_meet
            case rel => exact ⟨_, (x9_1), H', ⟨by have := HK1.out; first | omega | exact Nat.le_refl _⟩, ⟨by (with_reducible repeat (first | apply Kd.R_alloc | apply Kd.R_drewN | apply Kd.R_drew)); exact HO_9.out⟩, ⟨by repeat (first | (with_reducible first | exact HB.out | apply below_alloc | apply pw_below_drewN | apply below_drew1) | exact HB.out)⟩⟩
    case rest =>
      clear HC7
      try clear c1
      try clear c2
      try clear p2
      try clear p3
      try clear q3
      try clear hx3
      try clear c6
      try clear p6
      try clear c9
      try clear c9b0
      try clear c10
      try clear c10b0
      try clear c11
      try clear c11b0
      try clear c13
      try clear hx385_0
      try clear p2
      try clear p385
      try clear q385
      obtain ⟨kq, x9_6, HA, HJ6, HO_9, HB⟩ := hcut
      cases kq with
      | zero => exact absurd HA.out (by simp [roundhouselaw5_CookieRings.j1])
      | succ kj6 =>
        have H := HA.out
        clear HA
        simp only [roundhouselaw5_CookieRings.j1] at H
        replace H := Option.bind_eq_some_iff.mp H
        obtain ⟨t391, A160, H⟩ := H
        replace H : ((cookie_Ring.f kj6 t391 x9_6).bind fun bt392 => ((roundhouseref5_Ring.f kj6 t391 x9_6).bind fun bt400 => (if (!(bt392.1 == bt400.1) || ((!(bt392.2.1 == bt400.2.1) || (!(bt392.2.2.1 == bt400.2.2.1))) || ((!(bt392.2.2.2.1 == bt400.2.2.2.1) || (!(bt392.2.2.2.2.1 == bt400.2.2.2.2.1))) || ((!(bt392.2.2.2.2.2.1 == bt400.2.2.2.2.2.1) || (!(bt392.2.2.2.2.2.2 == bt400.2.2.2.2.2.2))))))) = true then (roundhouselaw5_CookieRings.j2 kj6 a2 t391 true bt392.1 bt392.2.1 bt392.2.2.1 bt392.2.2.2.1 bt392.2.2.2.2.1 bt392.2.2.2.2.2.1 bt392.2.2.2.2.2.2) else ((roundhouselaw5_Key.f a3).bind fun bt407 => ((cookie_Next.f bt392.1 bt392.2.1 bt392.2.2.1 bt392.2.2.2.1 bt392.2.2.2.2.1 bt392.2.2.2.2.2.1 bt392.2.2.2.2.2.2 bt407.1 bt407.2).bind fun bt409 => ((roundhouselaw5_Key.f a3).bind fun bt416 => ((roundhouseref5_Next.f bt392.1 bt392.2.1 bt392.2.2.1 bt392.2.2.2.1 bt392.2.2.2.2.1 bt392.2.2.2.2.2.1 bt392.2.2.2.2.2.2 bt416.1 bt416.2).bind fun bt418 => (roundhouselaw5_CookieRings.j2 kj6 a2 t391 (!(bt409.1 == bt418.1) || ((!(bt409.2.1 == bt418.2.1) || (!(bt409.2.2.1 == bt418.2.2.1))) || ((!(bt409.2.2.2.1 == bt418.2.2.2.1) || (!(bt409.2.2.2.2.1 == bt418.2.2.2.2.1))) || ((!(bt409.2.2.2.2.2.1 == bt418.2.2.2.2.2.1) || (!(bt409.2.2.2.2.2.2 == bt418.2.2.2.2.2.2))))))) bt392.1 bt392.2.1 bt392.2.2.1 bt392.2.2.2.1 bt392.2.2.2.2.1 bt392.2.2.2.2.2.1 bt392.2.2.2.2.2.2)))))))) = some r := H
        have A16 := Aside0.mk A160
        clear A160
        replace H := Option.bind_eq_some_iff.mp H
        obtain ⟨⟨t392, t393, t394, t395, t396, t397, t398⟩, A170, H⟩ := H
        replace H : ((roundhouseref5_Ring.f kj6 t391 x9_6).bind fun bt400 => (if (!(t392 == bt400.1) || ((!(t393 == bt400.2.1) || (!(t394 == bt400.2.2.1))) || ((!(t395 == bt400.2.2.2.1) || (!(t396 == bt400.2.2.2.2.1))) || ((!(t397 == bt400.2.2.2.2.2.1) || (!(t398 == bt400.2.2.2.2.2.2))))))) = true then (roundhouselaw5_CookieRings.j2 kj6 a2 t391 true t392 t393 t394 t395 t396 t397 t398) else ((roundhouselaw5_Key.f a3).bind fun bt407 => ((cookie_Next.f t392 t393 t394 t395 t396 t397 t398 bt407.1 bt407.2).bind fun bt409 => ((roundhouselaw5_Key.f a3).bind fun bt416 => ((roundhouseref5_Next.f t392 t393 t394 t395 t396 t397 t398 bt416.1 bt416.2).bind fun bt418 => (roundhouselaw5_CookieRings.j2 kj6 a2 t391 (!(bt409.1 == bt418.1) || ((!(bt409.2.1 == bt418.2.1) || (!(bt409.2.2.1 == bt418.2.2.1))) || ((!(bt409.2.2.2.1 == bt418.2.2.2.1) || (!(bt409.2.2.2.2.1 == bt418.2.2.2.2.1))) || ((!(bt409.2.2.2.2.2.1 == bt418.2.2.2.2.2.1) || (!(bt409.2.2.2.2.2.2 == bt418.2.2.2.2.2.2))))))) t392 t393 t394 t395 t396 t397 t398))))))) = some r := H
        have A17 := Aside0.mk A170
        clear A170
        have HC18 := Aside0.mk H
        clear H
        go_upto_region 10 with (first | ((with_reducible refine gate_callee (f := 18) rfl ?_); refine goesL_ (some 43) rfl rfl Try.func18 (by kernel_rfl) rfl #[.int .i64 a0, .int .i64 1099511627776] rfl (by (try simp only [List.map_toArray, List.map_cons, List.map_nil]); first | done | rfl | (simp only [List.length_drop, List.length_take]; rfl)) ?_; (with_reducible refine (roundhouselaw5_within.calls a0 1099511627776 t391 _ A16.out).mono ?_); rintro e w' ⟨rfl, ⟨nd, rfl⟩⟩; refine ⟨_, rfl, ?_⟩; (try (rw [drewN_self wc]; generalize hq_ : World.drewN wc _ = wc; have n0_ : Aside0 (Kd.R k25 25 wc w.heap.size (fun _ => True) u9 x9_6) := ⟨by rw [← hq_]; exact (by (with_reducible repeat (first | apply Kd.R_alloc | apply Kd.R_drewN | apply Kd.R_drew)); exact HO_9.out)⟩; have n1_ : Aside0 (Below w.heap.size w wc) := ⟨by rw [← hq_]; exact (by repeat (first | (with_reducible first | exact HB.out | apply below_alloc | apply pw_below_drewN | apply below_drew1) | exact HB.out))⟩; clear HO_9 HB hq_; have HO_9 := n0_; have HB := n1_; clear n0_ n1_)); obtain ⟨Ao19, co19, eo19⟩ := Kd.R_slice HO_9.out; subst eo19) | ((with_reducible refine gate_callee (f := 26) rfl ?_); refine goesL_ (some 46) rfl rfl Try.func26 (by kernel_rfl) rfl #[.int .i64 t391, .slice Ao19 x9_6.length co19] rfl (by (try simp only [List.map_toArray, List.map_cons, List.map_nil]); first | done | rfl | (simp only [List.length_drop, List.length_take]; rfl)) ?_; (with_reducible refine (cookie_Ring.calls kj6 t391 _ _ x9_6 t392 t393 t394 t395 t396 t397 t398 _ ?side1 ?side2 A17.out).mono ?_); (case side1 => repeat (first | exact (Kd.R_reads' HO_9.out).2.2 | (with_reducible refine Kd.C_alloc ?_ _) | (with_reducible refine Kd.C_drewN ?_ _) | (with_reducible refine Kd.C_drew ?_))); (case side2 => exact (Kd.R_reads' HO_9.out).2.1); rintro e w20 ⟨rfl, hb⟩; refine ⟨_, rfl, ?_⟩; have n0_ := Aside0.mk (Kd.R_below (by (with_reducible repeat (first | apply Kd.R_alloc | apply Kd.R_drewN | apply Kd.R_drew)); exact HO_9.out) hb); have n1_ := Aside0.mk (below_step (by repeat (first | (with_reducible first | exact HB.out | apply below_alloc | apply pw_below_drewN | apply below_drew1) | exact HB.out)) hb); clear HO_9; clear HB; have HO_9 := n0_; have HB := n1_; clear n0_ n1_; (try clear hb); (try clear hb2); (try clear hk); (try clear hi)) | ((with_reducible refine gate_dst (N := 12) rfl ?_); refine box_event ?hg (N := 12) ?hd (cs := #[.int .i64 0, .int .u64 0, .int .u64 0, .int .u64 0, .int .u64 0, .int .u64 0, .int .u64 0]) (t := 27) ?hr ?_; (case hd => rfl); (case hg => rfl); (case hr => first | (go_simp; done) | (go_simp; rfl)); intro gb399 hg w21 hbox hb; have n0_ := Aside0.mk (Kd.R_below (by (with_reducible repeat (first | apply Kd.R_alloc | apply Kd.R_drewN | apply Kd.R_drew)); exact HO_9.out) hb); have n1_ := Aside0.mk (below_step (by repeat (first | (with_reducible first | exact HB.out | apply below_alloc | apply pw_below_drewN | apply below_drew1) | exact HB.out)) hb); have n2_ := Aside0.mk (hbox); have n3_ := Aside0.mk ((by rw [hg]; exact (below_size (by repeat (first | (with_reducible first | exact HB.out | apply below_alloc | apply pw_below_drewN | apply below_drew1) | exact HB.out))) : w.heap.size ≤ gb399)); have n4_ := Aside0.mk ((by rw [hg]; exact (below_size (by repeat (first | (with_reducible first | exact HB.out | apply below_alloc | apply pw_below_drewN | apply below_drew1) | exact HB.out))) : w.heap.size ≤ gb399)); clear HO_9; clear HB; have HO_9 := n0_; have HB := n1_; have BK399 := n2_; have GW399 := n3_; have GE399 := n4_; clear n0_ n1_ n2_ n3_ n4_; clear hb hbox hg; have hcz22_0 : w21.cell? ⟨gb399, 0, none⟩ = some (.int .i64 0) := (blk_cell BK399.out 0).trans rfl; have hcz22_1 : w21.cell? ⟨gb399, 1, none⟩ = some (.int .u64 0) := (blk_cell BK399.out 1).trans rfl; have hcz22_2 : w21.cell? ⟨gb399, 2, none⟩ = some (.int .u64 0) := (blk_cell BK399.out 2).trans rfl; have hcz22_3 : w21.cell? ⟨gb399, 3, none⟩ = some (.int .u64 0) := (blk_cell BK399.out 3).trans rfl; have hcz22_4 : w21.cell? ⟨gb399, 4, none⟩ = some (.int .u64 0) := (blk_cell BK399.out 4).trans rfl; have hcz22_5 : w21.cell? ⟨gb399, 5, none⟩ = some (.int .u64 0) := (blk_cell BK399.out 5).trans rfl; have hcz22_6 : w21.cell? ⟨gb399, 6, none⟩ = some (.int .u64 0) := (blk_cell BK399.out 6).trans rfl; have hfz22_0 := blk_frozen BK399.out 0; have hfz22_1 := blk_frozen BK399.out 1; have hfz22_2 := blk_frozen BK399.out 2; have hfz22_3 := blk_frozen BK399.out 3; have hfz22_4 := blk_frozen BK399.out 4; have hfz22_5 := blk_frozen BK399.out 5; have hfz22_6 := blk_frozen BK399.out 6))
        (try simp only [Act.put, List.setIfInBounds_toArray, List.set_cons_zero, List.set_cons_succ])
        go_cut [62] (fun v62 wc => ∃ (kq : Nat) (x62_17 : Bool), v62 = .bool x62_17 ∧ Aside0 (roundhouselaw5_CookieRings.j2 kq a2 t391 x62_17 t392 t393 t394 t395 t396 t397 t398 = some r) ∧ Aside0 (kq ≤ kj6) ∧ Aside0 (wc.heap[gb399]? = some (.cells #[.int .i64 t392, .int .u64 t393, .int .u64 t394, .int .u64 t395, .int .u64 t396, .int .u64 t397, .int .u64 t398] 27 (0, 0))) ∧ Aside0 (Below w.heap.size w wc))
        case first =>
          have H := HC18.out
          clear HC18
          replace H := Option.bind_eq_some_iff.mp H
          obtain ⟨⟨t400, t401, t402, t403, t404, t405, t406⟩, A230, H⟩ := H
          replace H : (if (!(t392 == t400) || ((!(t393 == t401) || (!(t394 == t402))) || ((!(t395 == t403) || (!(t396 == t404))) || ((!(t397 == t405) || (!(t398 == t406))))))) = true then (roundhouselaw5_CookieRings.j2 kj6 a2 t391 true t392 t393 t394 t395 t396 t397 t398) else ((roundhouselaw5_Key.f a3).bind fun bt407 => ((cookie_Next.f t392 t393 t394 t395 t396 t397 t398 bt407.1 bt407.2).bind fun bt409 => ((roundhouselaw5_Key.f a3).bind fun bt416 => ((roundhouseref5_Next.f t392 t393 t394 t395 t396 t397 t398 bt416.1 bt416.2).bind fun bt418 => (roundhouselaw5_CookieRings.j2 kj6 a2 t391 (!(bt409.1 == bt418.1) || ((!(bt409.2.1 == bt418.2.1) || (!(bt409.2.2.1 == bt418.2.2.1))) || ((!(bt409.2.2.2.1 == bt418.2.2.2.1) || (!(bt409.2.2.2.2.1 == bt418.2.2.2.2.1))) || ((!(bt409.2.2.2.2.2.1 == bt418.2.2.2.2.2.1) || (!(bt409.2.2.2.2.2.2 == bt418.2.2.2.2.2.2))))))) t392 t393 t394 t395 t396 t397 t398)))))) = some r := H
          have A23 := Aside0.mk A230
          clear A230
          by_cases c24 : (!(t392 == t400) || ((!(t393 == t401) || (!(t394 == t402))) || ((!(t395 == t403) || (!(t396 == t404))) || ((!(t397 == t405) || (!(t398 == t406))))))) = true
          · rw [if_pos c24] at H
            have c24b0 : (!(t392 == t400) || ((!(t393 == t401) || (!(t394 == t402))) || ((!(t395 == t403) || (!(t396 == t404))) || ((!(t397 == t405) || (!(t398 == t406))))))) = true := c24
            clear c24
            (first | rw [c24b0] | (simp only [i64_w, i32_w]; rw [c24b0]) | skip)
            have H' := Aside0.mk H
            clear H
            try go_wp2
            have n0_ : Aside0 (Kd.R k25 25 (((((((w21.setCell ⟨gb399, 0, none⟩ (.int .i64 t392)).setCell ⟨gb399, 1, none⟩ (.int .u64 t393)).setCell ⟨gb399, 2, none⟩ (.int .u64 t394)).setCell ⟨gb399, 3, none⟩ (.int .u64 t395)).setCell ⟨gb399, 4, none⟩ (.int .u64 t396)).setCell ⟨gb399, 5, none⟩ (.int .u64 t397)).setCell ⟨gb399, 6, none⟩ (.int .u64 t398)) w.heap.size (fun _ => True) (.slice Ao19 x9_6.length co19) x9_6) := ⟨by (with_reducible repeat (first | apply Kd.R_alloc | apply Kd.R_drewN | apply Kd.R_drew)); exact Kd.R_mono (Kd.R_far (p := ⟨gb399, 6, none⟩) (Kd.R_far (p := ⟨gb399, 5, none⟩) (Kd.R_far (p := ⟨gb399, 4, none⟩) (Kd.R_far (p := ⟨gb399, 3, none⟩) (Kd.R_far (p := ⟨gb399, 2, none⟩) (Kd.R_far (p := ⟨gb399, 1, none⟩) (Kd.R_far (p := ⟨gb399, 0, none⟩) (Kd.R_types HO_9.out BK399.out (by decide)) (fun _ hk => hk.2) (.int .i64 t392)) (fun _ hk => hk.2) (.int .u64 t393)) (fun _ hk => hk.2) (.int .u64 t394)) (fun _ hk => hk.2) (.int .u64 t395)) (fun _ hk => hk.2) (.int .u64 t396)) (fun _ hk => hk.2) (.int .u64 t397)) (fun _ hk => hk.2) (.int .u64 t398)) (fun _ hk => trivial)⟩
            have n1_ : Aside0 ((((((((w21.setCell ⟨gb399, 0, none⟩ (.int .i64 t392)).setCell ⟨gb399, 1, none⟩ (.int .u64 t393)).setCell ⟨gb399, 2, none⟩ (.int .u64 t394)).setCell ⟨gb399, 3, none⟩ (.int .u64 t395)).setCell ⟨gb399, 4, none⟩ (.int .u64 t396)).setCell ⟨gb399, 5, none⟩ (.int .u64 t397)).setCell ⟨gb399, 6, none⟩ (.int .u64 t398)).heap[gb399]? = some (.cells #[.int .i64 t392, .int .u64 t393, .int .u64 t394, .int .u64 t395, .int .u64 t396, .int .u64 t397, .int .u64 t398] 27 (0, 0))) := ⟨by (with_reducible repeat (first | refine blk_drewN ?_ _ | refine blk_drew ?_ | refine blk_alloc ?_ _)); refine blk_put (cs := #[.int .i64 t392, .int .u64 t393, .int .u64 t394, .int .u64 t395, .int .u64 t396, .int .u64 t397, .int .u64 0]) ?_ 6 _ rfl; (with_reducible repeat (first | refine blk_drewN ?_ _ | refine blk_drew ?_ | refine blk_alloc ?_ _)); refine blk_put (cs := #[.int .i64 t392, .int .u64 t393, .int .u64 t394, .int .u64 t395, .int .u64 t396, .int .u64 0, .int .u64 0]) ?_ 5 _ rfl; (with_reducible repeat (first | refine blk_drewN ?_ _ | refine blk_drew ?_ | refine blk_alloc ?_ _)); refine blk_put (cs := #[.int .i64 t392, .int .u64 t393, .int .u64 t394, .int .u64 t395, .int .u64 0, .int .u64 0, .int .u64 0]) ?_ 4 _ rfl; (with_reducible repeat (first | refine blk_drewN ?_ _ | refine blk_drew ?_ | refine blk_alloc ?_ _)); refine blk_put (cs := #[.int .i64 t392, .int .u64 t393, .int .u64 t394, .int .u64 0, .int .u64 0, .int .u64 0, .int .u64 0]) ?_ 3 _ rfl; (with_reducible repeat (first | refine blk_drewN ?_ _ | refine blk_drew ?_ | refine blk_alloc ?_ _)); refine blk_put (cs := #[.int .i64 t392, .int .u64 t393, .int .u64 0, .int .u64 0, .int .u64 0, .int .u64 0, .int .u64 0]) ?_ 2 _ rfl; (with_reducible repeat (first | refine blk_drewN ?_ _ | refine blk_drew ?_ | refine blk_alloc ?_ _)); refine blk_put (cs := #[.int .i64 t392, .int .u64 0, .int .u64 0, .int .u64 0, .int .u64 0, .int .u64 0, .int .u64 0]) ?_ 1 _ rfl; (with_reducible repeat (first | refine blk_drewN ?_ _ | refine blk_drew ?_ | refine blk_alloc ?_ _)); refine blk_put (cs := #[.int .i64 0, .int .u64 0, .int .u64 0, .int .u64 0, .int .u64 0, .int .u64 0, .int .u64 0]) ?_ 0 _ rfl; (with_reducible repeat (first | refine blk_drewN ?_ _ | refine blk_drew ?_ | refine blk_alloc ?_ _)); exact BK399.out⟩
            have n2_ : Aside0 (Below w.heap.size w (((((((w21.setCell ⟨gb399, 0, none⟩ (.int .i64 t392)).setCell ⟨gb399, 1, none⟩ (.int .u64 t393)).setCell ⟨gb399, 2, none⟩ (.int .u64 t394)).setCell ⟨gb399, 3, none⟩ (.int .u64 t395)).setCell ⟨gb399, 4, none⟩ (.int .u64 t396)).setCell ⟨gb399, 5, none⟩ (.int .u64 t397)).setCell ⟨gb399, 6, none⟩ (.int .u64 t398))) := ⟨by repeat (first | (with_reducible first | exact HB.out | apply below_alloc | apply pw_below_drewN | apply below_drew1 | refine below_set ?_ GE399.out) | exact HB.out)⟩
            (try clear HO_9)
            (try clear BK399)
            (try clear HB)
            generalize (((((((w21.setCell ⟨gb399, 0, none⟩ (.int .i64 t392)).setCell ⟨gb399, 1, none⟩ (.int .u64 t393)).setCell ⟨gb399, 2, none⟩ (.int .u64 t394)).setCell ⟨gb399, 3, none⟩ (.int .u64 t395)).setCell ⟨gb399, 4, none⟩ (.int .u64 t396)).setCell ⟨gb399, 5, none⟩ (.int .u64 t397)).setCell ⟨gb399, 6, none⟩ (.int .u64 t398)) = w25 at n0_ n1_ n2_ ⊢
            have HO_9 := n0_
            have BK399 := n1_
            have HB := n2_
            clear n0_ n1_ n2_
            have n0_ := Aside0.mk (Kd.R_drew HO_9.out)
            have n1_ := Aside0.mk (blk_drew BK399.out)
            have n2_ := Aside0.mk (below_drew1 HB.out)
            clear HO_9
            clear BK399
            clear HB
            have HO_9 := n0_
            have BK399 := n1_
            have HB := n2_
            clear n0_ n1_ n2_
            refine start_ (n := 16) (S := fun w' => w'.cell? ⟨gb399, 0, none⟩ = some (.int .i64 t392) ∧ w'.cell? ⟨gb399, 1, none⟩ = some (.int .u64 t393) ∧ w'.cell? ⟨gb399, 2, none⟩ = some (.int .u64 t394) ∧ w'.cell? ⟨gb399, 3, none⟩ = some (.int .u64 t395) ∧ w'.cell? ⟨gb399, 4, none⟩ = some (.int .u64 t396) ∧ w'.cell? ⟨gb399, 5, none⟩ = some (.int .u64 t397) ∧ w'.cell? ⟨gb399, 6, none⟩ = some (.int .u64 t398)) (ds := []) #[false, false, false, false, false, false, false, false, false, false, false, false, false, false, false, false] (by kernel_rfl) rfl rfl ⟨(blk_cell BK399.out 0).trans rfl, (blk_cell BK399.out 1).trans rfl, (blk_cell BK399.out 2).trans rfl, (blk_cell BK399.out 3).trans rfl, (blk_cell BK399.out 4).trans rfl, (blk_cell BK399.out 5).trans rfl, (blk_cell BK399.out 6).trans rfl⟩ (fun hHeld => ?_); refine with_tabW roundhouselaw5_CookieRings.tab10 roundhouselaw5_CookieRings.bits10 (fun HT_ HW_ => ?_)
            generalize w25.drew = w26 at HO_9 BK399 HB hHeld ⊢
            refine pure_ (i := 1) (N := some 48) (v := ?_) (a' := ?_) #[false, true, false, false, false, false, false, false, false, false, false, false, false, false, false, false] rfl rfl (any_of HT_.out (by kernel_rfl)) (fun _ _ _ h => h) (Or.inl ⟨by rfl, ?_⟩) ?_ ?_
            rotate_left
            · intro w'
              go_simp
              with_reducible rfl
            rotate_left
            · simp only [Act.put, List.setIfInBounds_toArray, List.set_cons_zero, List.set_cons_succ, i64_w, i32_w]
              rfl
            refine pure_ (i := 2) (N := some 49) (v := ?_) (a' := ?_) #[false, true, true, false, false, false, false, false, false, false, false, false, false, false, false, false] rfl rfl (any_of HT_.out (by kernel_rfl)) (fun _ _ _ h => h) (Or.inl ⟨by rfl, ?_⟩) ?_ ?_
            rotate_left
            · intro w'
              go_simp
              with_reducible rfl
            rotate_left
            · simp only [Act.put, List.setIfInBounds_toArray, List.set_cons_zero, List.set_cons_succ, i64_w, i32_w]
              rfl
            refine take_ (i := 0) (N := some 47) (v := ?_) (a' := ?_) #[true, true, true, false, false, false, false, false, false, false, false, false, false, false, false, false] rfl rfl (take_ofW HT_.out HW_.out (by kernel_rfl)) (fun _ _ _ h => h) (Or.inl ⟨by rfl, ?_⟩) hHeld ?_ ?_
            rotate_left
            · rintro w' ⟨s0, s1, s2, s3, s4, s5, s6⟩
              go_simp
              with_reducible rfl
            rotate_left
            · simp only [Act.put, List.setIfInBounds_toArray, List.set_cons_zero, List.set_cons_succ, i64_w, i32_w]
              rfl
            refine one_ (i := 3) (N := some 50) #[true, true, true, true, false, false, false, false, false, false, false, false, false, false, false, false] rfl rfl (one_of HT_.out (by kernel_rfl)) (by decide) (fun K hK => ?_)
            refine goes_ Try.func27 (by kernel_rfl) rfl #[.int .i64 t391, .slice Ao19 x9_6.length co19] (by rfl) rfl rfl (by (try simp only [List.map_toArray, List.map_cons, List.map_nil]); first | done | rfl | (simp only [List.length_drop, List.length_take]; rfl)) ?_
            with_reducible refine (roundhouseref5_Ring.calls kj6 t391 _ _ x9_6 t400 t401 t402 t403 t404 t405 t406 _ ?side1 ?side2 A23.out).mono ?_
            (case side1 => repeat (first | exact (Kd.R_reads' HO_9.out).2.2 | (with_reducible refine Kd.C_alloc ?_ _) | (with_reducible refine Kd.C_drewN ?_ _) | (with_reducible refine Kd.C_drew ?_)))
            (case side2 => exact (Kd.R_reads' HO_9.out).2.1)
            rintro e w27 ⟨rfl, hb⟩
            refine ⟨_, rfl, ?_⟩
            have n0_ := Aside0.mk (Kd.R_below (by (with_reducible repeat (first | apply Kd.R_alloc | apply Kd.R_drewN | apply Kd.R_drew)); exact HO_9.out) hb)
            have n1_ := Aside0.mk (blk_below (g := gb399) (o := .cells #[.int .i64 t392, .int .u64 t393, .int .u64 t394, .int .u64 t395, .int .u64 t396, .int .u64 t397, .int .u64 t398] 27 (0, 0)) (by (with_reducible repeat (first | refine blk_drewN ?_ _ | refine blk_drew ?_ | refine blk_alloc ?_ _)); exact BK399.out) hb)
            have n2_ := Aside0.mk (below_step (by repeat (first | (with_reducible first | exact HB.out | apply below_alloc | apply pw_below_drewN | apply below_drew1 | refine below_set ?_ GE399.out) | exact HB.out)) hb)
            clear HO_9
            clear BK399
            clear HB
            have HO_9 := n0_
            have BK399 := n1_
            have HB := n2_
            clear n0_ n1_ n2_
            (try clear hb)
            (try clear hb2)
            (try clear hk)
            (try clear hi)
            refine hK.out _ _ ⟨(blk_cell BK399.out 0).trans rfl, (blk_cell BK399.out 1).trans rfl, (blk_cell BK399.out 2).trans rfl, (blk_cell BK399.out 3).trans rfl, (blk_cell BK399.out 4).trans rfl, (blk_cell BK399.out 5).trans rfl, (blk_cell BK399.out 6).trans rfl⟩ (fun hHeld => ?_)
            clear hK K
            refine norm_ (a' := ?_) ?_ ?_
            rotate_left
            · show Act.put _ (some 50) _ = _
              simp only [Act.put, List.setIfInBounds_toArray, List.set_cons_zero, List.set_cons_succ, i64_w, i32_w]
              rfl
            refine pure_ (i := 4) (N := some 51) (v := ?_) (a' := ?_) #[true, true, true, true, true, false, false, false, false, false, false, false, false, false, false, false] rfl rfl (any_of HT_.out (by kernel_rfl)) (fun _ _ _ h => h) (Or.inl ⟨by rfl, ?_⟩) ?_ ?_
            rotate_left
            · intro w'
              go_simp
              with_reducible rfl
            rotate_left
            · simp only [Act.put, List.setIfInBounds_toArray, List.set_cons_zero, List.set_cons_succ, i64_w, i32_w]
              rfl
            refine pure_ (i := 5) (N := some 52) (v := ?_) (a' := ?_) #[true, true, true, true, true, true, false, false, false, false, false, false, false, false, false, false] rfl rfl (any_of HT_.out (by kernel_rfl)) (fun _ _ _ h => h) (Or.inl ⟨by rfl, ?_⟩) ?_ ?_
            rotate_left
            · intro w'
              go_simp
              with_reducible rfl
            rotate_left
            · simp only [Act.put, List.setIfInBounds_toArray, List.set_cons_zero, List.set_cons_succ, i64_w, i32_w]
              rfl
            refine pure_ (i := 6) (N := some 53) (v := undef) (a' := ?_) #[true, true, true, true, true, true, true, false, false, false, false, false, false, false, false, false] rfl rfl (any_of HT_.out (by kernel_rfl)) (fun _ _ _ h => h) (Or.inr ⟨by rfl, rfl⟩) ?_ ?_
            rotate_left
            · simp only [Act.put, List.setIfInBounds_toArray, List.set_cons_zero, List.set_cons_succ, i64_w, i32_w]
              rfl
            refine pure_ (i := 7) (N := some 54) (v := undef) (a' := ?_) #[true, true, true, true, true, true, true, true, false, false, false, false, false, false, false, false] rfl rfl (any_of HT_.out (by kernel_rfl)) (fun _ _ _ h => h) (Or.inr ⟨by rfl, rfl⟩) ?_ ?_
            rotate_left
            · simp only [Act.put, List.setIfInBounds_toArray, List.set_cons_zero, List.set_cons_succ, i64_w, i32_w]
              rfl
            refine pure_ (i := 8) (N := some 55) (v := undef) (a' := ?_) #[true, true, true, true, true, true, true, true, true, false, false, false, false, false, false, false] rfl rfl (any_of HT_.out (by kernel_rfl)) (fun _ _ _ h => h) (Or.inr ⟨by rfl, rfl⟩) ?_ ?_
            rotate_left
            · simp only [Act.put, List.setIfInBounds_toArray, List.set_cons_zero, List.set_cons_succ, i64_w, i32_w]
              rfl
            refine pure_ (i := 9) (N := some 56) (v := undef) (a' := ?_) #[true, true, true, true, true, true, true, true, true, true, false, false, false, false, false, false] rfl rfl (any_of HT_.out (by kernel_rfl)) (fun _ _ _ h => h) (Or.inr ⟨by rfl, rfl⟩) ?_ ?_
            rotate_left
            · simp only [Act.put, List.setIfInBounds_toArray, List.set_cons_zero, List.set_cons_succ, i64_w, i32_w]
              rfl
            refine pure_ (i := 10) (N := some 57) (v := undef) (a' := ?_) #[true, true, true, true, true, true, true, true, true, true, true, false, false, false, false, false] rfl rfl (any_of HT_.out (by kernel_rfl)) (fun _ _ _ h => h) (Or.inr ⟨by rfl, rfl⟩) ?_ ?_
            rotate_left
            · simp only [Act.put, List.setIfInBounds_toArray, List.set_cons_zero, List.set_cons_succ, i64_w, i32_w]
              rfl
            refine pure_ (i := 11) (N := some 58) (v := undef) (a' := ?_) #[true, true, true, true, true, true, true, true, true, true, true, true, false, false, false, false] rfl rfl (any_of HT_.out (by kernel_rfl)) (fun _ _ _ h => h) (Or.inr ⟨by rfl, rfl⟩) ?_ ?_
            rotate_left
            · simp only [Act.put, List.setIfInBounds_toArray, List.set_cons_zero, List.set_cons_succ, i64_w, i32_w]
              rfl
            refine pure_ (i := 12) (N := some 59) (v := undef) (a' := ?_) #[true, true, true, true, true, true, true, true, true, true, true, true, true, false, false, false] rfl rfl (any_of HT_.out (by kernel_rfl)) (fun _ _ _ h => h) (Or.inr ⟨by rfl, rfl⟩) ?_ ?_
            rotate_left
            · simp only [Act.put, List.setIfInBounds_toArray, List.set_cons_zero, List.set_cons_succ, i64_w, i32_w]
              rfl
            refine pure_ (i := 13) (N := some 60) (v := undef) (a' := ?_) #[true, true, true, true, true, true, true, true, true, true, true, true, true, true, false, false] rfl rfl (any_of HT_.out (by kernel_rfl)) (fun _ _ _ h => h) (Or.inr ⟨by rfl, rfl⟩) ?_ ?_
            rotate_left
            · simp only [Act.put, List.setIfInBounds_toArray, List.set_cons_zero, List.set_cons_succ, i64_w, i32_w]
              rfl
            refine pure_ (i := 14) (N := some 61) (v := undef) (a' := ?_) #[true, true, true, true, true, true, true, true, true, true, true, true, true, true, true, false] rfl rfl (any_of HT_.out (by kernel_rfl)) (fun _ _ _ h => h) (Or.inr ⟨by rfl, rfl⟩) ?_ ?_
            rotate_left
            · simp only [Act.put, List.setIfInBounds_toArray, List.set_cons_zero, List.set_cons_succ, i64_w, i32_w]
              rfl
            refine pure_ (i := 15) (N := some 62) (v := ?_) (a' := ?_) #[true, true, true, true, true, true, true, true, true, true, true, true, true, true, true, true] rfl rfl (any_of HT_.out (by kernel_rfl)) (fun _ _ _ h => h) (Or.inl ⟨by rfl, ?_⟩) ?_ ?_
            rotate_left
            · intro w'
              go_simp
              with_reducible rfl
            rotate_left
            · simp only [Act.put, List.setIfInBounds_toArray, List.set_cons_zero, List.set_cons_succ, i64_w, i32_w]
              rfl
            refine done_ (done_of HT_.out (by kernel_rfl)) ?_
            try go_wp2
            go_meet
            case rel => exact ⟨_, (true), (by first | rfl | (simp; done) | (simp [*]; done)), H', ⟨by have := HJ6.out; first | omega | exact Nat.le_refl _⟩, ⟨by (with_reducible repeat (first | refine blk_drewN ?_ _ | refine blk_drew ?_ | refine blk_alloc ?_ _)); exact BK399.out⟩, ⟨by repeat (first | (with_reducible first | exact HB.out | apply below_alloc | apply pw_below_drewN | apply below_drew1 | refine below_set ?_ GE399.out) | exact HB.out)⟩⟩
          · rw [if_neg c24] at H
            have c24b0 : (!(t392 == t400) || ((!(t393 == t401) || (!(t394 == t402))) || ((!(t395 == t403) || (!(t396 == t404))) || ((!(t397 == t405) || (!(t398 == t406))))))) = false := by simpa using c24
            clear c24
            (first | rw [c24b0] | (simp only [i64_w, i32_w]; rw [c24b0]) | skip)
            replace H := Option.bind_eq_some_iff.mp H
            obtain ⟨⟨t407, t408⟩, A280, H⟩ := H
            replace H : ((cookie_Next.f t392 t393 t394 t395 t396 t397 t398 t407 t408).bind fun bt409 => ((roundhouselaw5_Key.f a3).bind fun bt416 => ((roundhouseref5_Next.f t392 t393 t394 t395 t396 t397 t398 bt416.1 bt416.2).bind fun bt418 => (roundhouselaw5_CookieRings.j2 kj6 a2 t391 (!(bt409.1 == bt418.1) || ((!(bt409.2.1 == bt418.2.1) || (!(bt409.2.2.1 == bt418.2.2.1))) || ((!(bt409.2.2.2.1 == bt418.2.2.2.1) || (!(bt409.2.2.2.2.1 == bt418.2.2.2.2.1))) || ((!(bt409.2.2.2.2.2.1 == bt418.2.2.2.2.2.1) || (!(bt409.2.2.2.2.2.2 == bt418.2.2.2.2.2.2))))))) t392 t393 t394 t395 t396 t397 t398)))) = some r := H
            have A28 := Aside0.mk A280
            clear A280
            replace H := Option.bind_eq_some_iff.mp H
            obtain ⟨⟨t409, t410, t411, t412, t413, t414, t415⟩, A290, H⟩ := H
            replace H : ((roundhouselaw5_Key.f a3).bind fun bt416 => ((roundhouseref5_Next.f t392 t393 t394 t395 t396 t397 t398 bt416.1 bt416.2).bind fun bt418 => (roundhouselaw5_CookieRings.j2 kj6 a2 t391 (!(t409 == bt418.1) || ((!(t410 == bt418.2.1) || (!(t411 == bt418.2.2.1))) || ((!(t412 == bt418.2.2.2.1) || (!(t413 == bt418.2.2.2.2.1))) || ((!(t414 == bt418.2.2.2.2.2.1) || (!(t415 == bt418.2.2.2.2.2.2))))))) t392 t393 t394 t395 t396 t397 t398))) = some r := H
            have A29 := Aside0.mk A290
            clear A290
            replace H := Option.bind_eq_some_iff.mp H
            obtain ⟨⟨t416, t417⟩, A300, H⟩ := H
            replace H : ((roundhouseref5_Next.f t392 t393 t394 t395 t396 t397 t398 t416 t417).bind fun bt418 => (roundhouselaw5_CookieRings.j2 kj6 a2 t391 (!(t409 == bt418.1) || ((!(t410 == bt418.2.1) || (!(t411 == bt418.2.2.1))) || ((!(t412 == bt418.2.2.2.1) || (!(t413 == bt418.2.2.2.2.1))) || ((!(t414 == bt418.2.2.2.2.2.1) || (!(t415 == bt418.2.2.2.2.2.2))))))) t392 t393 t394 t395 t396 t397 t398)) = some r := H
            have A30 := Aside0.mk A300
            clear A300
            replace H := Option.bind_eq_some_iff.mp H
            obtain ⟨⟨t418, t419, t420, t421, t422, t423, t424⟩, A310, H⟩ := H
            replace H : (roundhouselaw5_CookieRings.j2 kj6 a2 t391 (!(t409 == t418) || ((!(t410 == t419) || (!(t411 == t420))) || ((!(t412 == t421) || (!(t413 == t422))) || ((!(t414 == t423) || (!(t415 == t424))))))) t392 t393 t394 t395 t396 t397 t398) = some r := H
            have A31 := Aside0.mk A310
            clear A310
            have H' := Aside0.mk H
            clear H
            try go_wp2
            have n0_ : Aside0 (Kd.R k25 25 (((((((w21.setCell ⟨gb399, 0, none⟩ (.int .i64 t392)).setCell ⟨gb399, 1, none⟩ (.int .u64 t393)).setCell ⟨gb399, 2, none⟩ (.int .u64 t394)).setCell ⟨gb399, 3, none⟩ (.int .u64 t395)).setCell ⟨gb399, 4, none⟩ (.int .u64 t396)).setCell ⟨gb399, 5, none⟩ (.int .u64 t397)).setCell ⟨gb399, 6, none⟩ (.int .u64 t398)) w.heap.size (fun _ => True) (.slice Ao19 x9_6.length co19) x9_6) := ⟨by (with_reducible repeat (first | apply Kd.R_alloc | apply Kd.R_drewN | apply Kd.R_drew)); exact Kd.R_mono (Kd.R_far (p := ⟨gb399, 6, none⟩) (Kd.R_far (p := ⟨gb399, 5, none⟩) (Kd.R_far (p := ⟨gb399, 4, none⟩) (Kd.R_far (p := ⟨gb399, 3, none⟩) (Kd.R_far (p := ⟨gb399, 2, none⟩) (Kd.R_far (p := ⟨gb399, 1, none⟩) (Kd.R_far (p := ⟨gb399, 0, none⟩) (Kd.R_types HO_9.out BK399.out (by decide)) (fun _ hk => hk.2) (.int .i64 t392)) (fun _ hk => hk.2) (.int .u64 t393)) (fun _ hk => hk.2) (.int .u64 t394)) (fun _ hk => hk.2) (.int .u64 t395)) (fun _ hk => hk.2) (.int .u64 t396)) (fun _ hk => hk.2) (.int .u64 t397)) (fun _ hk => hk.2) (.int .u64 t398)) (fun _ hk => trivial)⟩
            have n1_ : Aside0 ((((((((w21.setCell ⟨gb399, 0, none⟩ (.int .i64 t392)).setCell ⟨gb399, 1, none⟩ (.int .u64 t393)).setCell ⟨gb399, 2, none⟩ (.int .u64 t394)).setCell ⟨gb399, 3, none⟩ (.int .u64 t395)).setCell ⟨gb399, 4, none⟩ (.int .u64 t396)).setCell ⟨gb399, 5, none⟩ (.int .u64 t397)).setCell ⟨gb399, 6, none⟩ (.int .u64 t398)).heap[gb399]? = some (.cells #[.int .i64 t392, .int .u64 t393, .int .u64 t394, .int .u64 t395, .int .u64 t396, .int .u64 t397, .int .u64 t398] 27 (0, 0))) := ⟨by (with_reducible repeat (first | refine blk_drewN ?_ _ | refine blk_drew ?_ | refine blk_alloc ?_ _)); refine blk_put (cs := #[.int .i64 t392, .int .u64 t393, .int .u64 t394, .int .u64 t395, .int .u64 t396, .int .u64 t397, .int .u64 0]) ?_ 6 _ rfl; (with_reducible repeat (first | refine blk_drewN ?_ _ | refine blk_drew ?_ | refine blk_alloc ?_ _)); refine blk_put (cs := #[.int .i64 t392, .int .u64 t393, .int .u64 t394, .int .u64 t395, .int .u64 t396, .int .u64 0, .int .u64 0]) ?_ 5 _ rfl; (with_reducible repeat (first | refine blk_drewN ?_ _ | refine blk_drew ?_ | refine blk_alloc ?_ _)); refine blk_put (cs := #[.int .i64 t392, .int .u64 t393, .int .u64 t394, .int .u64 t395, .int .u64 0, .int .u64 0, .int .u64 0]) ?_ 4 _ rfl; (with_reducible repeat (first | refine blk_drewN ?_ _ | refine blk_drew ?_ | refine blk_alloc ?_ _)); refine blk_put (cs := #[.int .i64 t392, .int .u64 t393, .int .u64 t394, .int .u64 0, .int .u64 0, .int .u64 0, .int .u64 0]) ?_ 3 _ rfl; (with_reducible repeat (first | refine blk_drewN ?_ _ | refine blk_drew ?_ | refine blk_alloc ?_ _)); refine blk_put (cs := #[.int .i64 t392, .int .u64 t393, .int .u64 0, .int .u64 0, .int .u64 0, .int .u64 0, .int .u64 0]) ?_ 2 _ rfl; (with_reducible repeat (first | refine blk_drewN ?_ _ | refine blk_drew ?_ | refine blk_alloc ?_ _)); refine blk_put (cs := #[.int .i64 t392, .int .u64 0, .int .u64 0, .int .u64 0, .int .u64 0, .int .u64 0, .int .u64 0]) ?_ 1 _ rfl; (with_reducible repeat (first | refine blk_drewN ?_ _ | refine blk_drew ?_ | refine blk_alloc ?_ _)); refine blk_put (cs := #[.int .i64 0, .int .u64 0, .int .u64 0, .int .u64 0, .int .u64 0, .int .u64 0, .int .u64 0]) ?_ 0 _ rfl; (with_reducible repeat (first | refine blk_drewN ?_ _ | refine blk_drew ?_ | refine blk_alloc ?_ _)); exact BK399.out⟩
            have n2_ : Aside0 (Below w.heap.size w (((((((w21.setCell ⟨gb399, 0, none⟩ (.int .i64 t392)).setCell ⟨gb399, 1, none⟩ (.int .u64 t393)).setCell ⟨gb399, 2, none⟩ (.int .u64 t394)).setCell ⟨gb399, 3, none⟩ (.int .u64 t395)).setCell ⟨gb399, 4, none⟩ (.int .u64 t396)).setCell ⟨gb399, 5, none⟩ (.int .u64 t397)).setCell ⟨gb399, 6, none⟩ (.int .u64 t398))) := ⟨by repeat (first | (with_reducible first | exact HB.out | apply below_alloc | apply pw_below_drewN | apply below_drew1 | refine below_set ?_ GE399.out) | exact HB.out)⟩
            (try clear HO_9)
            (try clear BK399)
            (try clear HB)
            generalize (((((((w21.setCell ⟨gb399, 0, none⟩ (.int .i64 t392)).setCell ⟨gb399, 1, none⟩ (.int .u64 t393)).setCell ⟨gb399, 2, none⟩ (.int .u64 t394)).setCell ⟨gb399, 3, none⟩ (.int .u64 t395)).setCell ⟨gb399, 4, none⟩ (.int .u64 t396)).setCell ⟨gb399, 5, none⟩ (.int .u64 t397)).setCell ⟨gb399, 6, none⟩ (.int .u64 t398)) = w32 at n0_ n1_ n2_ ⊢
            have HO_9 := n0_
            have BK399 := n1_
            have HB := n2_
            clear n0_ n1_ n2_
            have n0_ := Aside0.mk (Kd.R_drew HO_9.out)
            have n1_ := Aside0.mk (blk_drew BK399.out)
            have n2_ := Aside0.mk (below_drew1 HB.out)
            clear HO_9
            clear BK399
            clear HB
            have HO_9 := n0_
            have BK399 := n1_
            have HB := n2_
            clear n0_ n1_ n2_
            refine start_ (n := 16) (S := fun w' => w'.cell? ⟨gb399, 0, none⟩ = some (.int .i64 t392) ∧ w'.cell? ⟨gb399, 1, none⟩ = some (.int .u64 t393) ∧ w'.cell? ⟨gb399, 2, none⟩ = some (.int .u64 t394) ∧ w'.cell? ⟨gb399, 3, none⟩ = some (.int .u64 t395) ∧ w'.cell? ⟨gb399, 4, none⟩ = some (.int .u64 t396) ∧ w'.cell? ⟨gb399, 5, none⟩ = some (.int .u64 t397) ∧ w'.cell? ⟨gb399, 6, none⟩ = some (.int .u64 t398)) (ds := []) #[false, false, false, false, false, false, false, false, false, false, false, false, false, false, false, false] (by kernel_rfl) rfl rfl ⟨(blk_cell BK399.out 0).trans rfl, (blk_cell BK399.out 1).trans rfl, (blk_cell BK399.out 2).trans rfl, (blk_cell BK399.out 3).trans rfl, (blk_cell BK399.out 4).trans rfl, (blk_cell BK399.out 5).trans rfl, (blk_cell BK399.out 6).trans rfl⟩ (fun hHeld => ?_); refine with_tabW roundhouselaw5_CookieRings.tab10 roundhouselaw5_CookieRings.bits10 (fun HT_ HW_ => ?_)
            generalize w32.drew = w33 at HO_9 BK399 HB hHeld ⊢
            refine pure_ (i := 1) (N := some 48) (v := ?_) (a' := ?_) #[false, true, false, false, false, false, false, false, false, false, false, false, false, false, false, false] rfl rfl (any_of HT_.out (by kernel_rfl)) (fun _ _ _ h => h) (Or.inl ⟨by rfl, ?_⟩) ?_ ?_
            rotate_left
            · intro w'
              go_simp
              with_reducible rfl
            rotate_left
            · simp only [Act.put, List.setIfInBounds_toArray, List.set_cons_zero, List.set_cons_succ, i64_w, i32_w]
              rfl
            refine pure_ (i := 2) (N := some 49) (v := ?_) (a' := ?_) #[false, true, true, false, false, false, false, false, false, false, false, false, false, false, false, false] rfl rfl (any_of HT_.out (by kernel_rfl)) (fun _ _ _ h => h) (Or.inl ⟨by rfl, ?_⟩) ?_ ?_
            rotate_left
            · intro w'
              go_simp
              with_reducible rfl
            rotate_left
            · simp only [Act.put, List.setIfInBounds_toArray, List.set_cons_zero, List.set_cons_succ, i64_w, i32_w]
              rfl
            refine take_ (i := 0) (N := some 47) (v := ?_) (a' := ?_) #[true, true, true, false, false, false, false, false, false, false, false, false, false, false, false, false] rfl rfl (take_ofW HT_.out HW_.out (by kernel_rfl)) (fun _ _ _ h => h) (Or.inl ⟨by rfl, ?_⟩) hHeld ?_ ?_
            rotate_left
            · rintro w' ⟨s0, s1, s2, s3, s4, s5, s6⟩
              go_simp
              with_reducible rfl
            rotate_left
            · simp only [Act.put, List.setIfInBounds_toArray, List.set_cons_zero, List.set_cons_succ, i64_w, i32_w]
              rfl
            refine one_ (i := 3) (N := some 50) #[true, true, true, true, false, false, false, false, false, false, false, false, false, false, false, false] rfl rfl (one_of HT_.out (by kernel_rfl)) (by decide) (fun K hK => ?_)
            refine goes_ Try.func27 (by kernel_rfl) rfl #[.int .i64 t391, .slice Ao19 x9_6.length co19] (by rfl) rfl rfl (by (try simp only [List.map_toArray, List.map_cons, List.map_nil]); first | done | rfl | (simp only [List.length_drop, List.length_take]; rfl)) ?_
            with_reducible refine (roundhouseref5_Ring.calls kj6 t391 _ _ x9_6 t400 t401 t402 t403 t404 t405 t406 _ ?side1 ?side2 A23.out).mono ?_
            (case side1 => repeat (first | exact (Kd.R_reads' HO_9.out).2.2 | (with_reducible refine Kd.C_alloc ?_ _) | (with_reducible refine Kd.C_drewN ?_ _) | (with_reducible refine Kd.C_drew ?_)))
            (case side2 => exact (Kd.R_reads' HO_9.out).2.1)
            rintro e w34 ⟨rfl, hb⟩
            refine ⟨_, rfl, ?_⟩
            have n0_ := Aside0.mk (Kd.R_below (by (with_reducible repeat (first | apply Kd.R_alloc | apply Kd.R_drewN | apply Kd.R_drew)); exact HO_9.out) hb)
            have n1_ := Aside0.mk (blk_below (g := gb399) (o := .cells #[.int .i64 t392, .int .u64 t393, .int .u64 t394, .int .u64 t395, .int .u64 t396, .int .u64 t397, .int .u64 t398] 27 (0, 0)) (by (with_reducible repeat (first | refine blk_drewN ?_ _ | refine blk_drew ?_ | refine blk_alloc ?_ _)); exact BK399.out) hb)
            have n2_ := Aside0.mk (below_step (by repeat (first | (with_reducible first | exact HB.out | apply below_alloc | apply pw_below_drewN | apply below_drew1 | refine below_set ?_ GE399.out) | exact HB.out)) hb)
            clear HO_9
            clear BK399
            clear HB
            have HO_9 := n0_
            have BK399 := n1_
            have HB := n2_
            clear n0_ n1_ n2_
            (try clear hb)
            (try clear hb2)
            (try clear hk)
            (try clear hi)
            refine hK.out _ _ ⟨(blk_cell BK399.out 0).trans rfl, (blk_cell BK399.out 1).trans rfl, (blk_cell BK399.out 2).trans rfl, (blk_cell BK399.out 3).trans rfl, (blk_cell BK399.out 4).trans rfl, (blk_cell BK399.out 5).trans rfl, (blk_cell BK399.out 6).trans rfl⟩ (fun hHeld => ?_)
            clear hK K
            refine norm_ (a' := ?_) ?_ ?_
            rotate_left
            · show Act.put _ (some 50) _ = _
              simp only [Act.put, List.setIfInBounds_toArray, List.set_cons_zero, List.set_cons_succ, i64_w, i32_w]
              rfl
            refine pure_ (i := 4) (N := some 51) (v := ?_) (a' := ?_) #[true, true, true, true, true, false, false, false, false, false, false, false, false, false, false, false] rfl rfl (any_of HT_.out (by kernel_rfl)) (fun _ _ _ h => h) (Or.inl ⟨by rfl, ?_⟩) ?_ ?_
            rotate_left
            · intro w'
              go_simp
              with_reducible rfl
            rotate_left
            · simp only [Act.put, List.setIfInBounds_toArray, List.set_cons_zero, List.set_cons_succ, i64_w, i32_w]
              rfl
            refine pure_ (i := 5) (N := some 52) (v := ?_) (a' := ?_) #[true, true, true, true, true, true, false, false, false, false, false, false, false, false, false, false] rfl rfl (any_of HT_.out (by kernel_rfl)) (fun _ _ _ h => h) (Or.inl ⟨by rfl, ?_⟩) ?_ ?_
            rotate_left
            · intro w'
              go_simp
              with_reducible rfl
            rotate_left
            · simp only [Act.put, List.setIfInBounds_toArray, List.set_cons_zero, List.set_cons_succ, i64_w, i32_w]
              rfl
            refine pure_ (i := 7) (N := some 54) (v := ?_) (a' := ?_) #[true, true, true, true, true, true, false, true, false, false, false, false, false, false, false, false] rfl rfl (any_of HT_.out (by kernel_rfl)) (fun _ _ _ h => h) (Or.inl ⟨by rfl, ?_⟩) ?_ ?_
            rotate_left
            · intro w'
              go_simp
              with_reducible rfl
            rotate_left
            · simp only [Act.put, List.setIfInBounds_toArray, List.set_cons_zero, List.set_cons_succ, i64_w, i32_w]
              rfl
            refine pure_ (i := 11) (N := some 58) (v := ?_) (a' := ?_) #[true, true, true, true, true, true, false, true, false, false, false, true, false, false, false, false] rfl rfl (any_of HT_.out (by kernel_rfl)) (fun _ _ _ h => h) (Or.inl ⟨by rfl, ?_⟩) ?_ ?_
            rotate_left
            · intro w'
              go_simp
              with_reducible rfl
            rotate_left
            · simp only [Act.put, List.setIfInBounds_toArray, List.set_cons_zero, List.set_cons_succ, i64_w, i32_w]
              rfl
            refine take_ (i := 6) (N := some 53) (v := ?_) (a' := ?_) #[true, true, true, true, true, true, true, true, false, false, false, true, false, false, false, false] rfl rfl (take_ofW HT_.out HW_.out (by kernel_rfl)) (fun _ _ _ h => h) (Or.inl ⟨by rfl, ?_⟩) hHeld ?_ ?_
            rotate_left
            · rintro w' ⟨s0, s1, s2, s3, s4, s5, s6⟩
              go_simp
              with_reducible rfl
            rotate_left
            · simp only [Act.put, List.setIfInBounds_toArray, List.set_cons_zero, List.set_cons_succ, i64_w, i32_w]
              rfl
            refine take_ (i := 10) (N := some 57) (v := ?_) (a' := ?_) #[true, true, true, true, true, true, true, true, false, false, true, true, false, false, false, false] rfl rfl (take_ofW HT_.out HW_.out (by kernel_rfl)) (fun _ _ _ h => h) (Or.inl ⟨by rfl, ?_⟩) hHeld ?_ ?_
            rotate_left
            · rintro w' ⟨s0, s1, s2, s3, s4, s5, s6⟩
              go_simp
              with_reducible rfl
            rotate_left
            · simp only [Act.put, List.setIfInBounds_toArray, List.set_cons_zero, List.set_cons_succ, i64_w, i32_w]
              rfl
            refine one_ (i := 8) (N := some 55) #[true, true, true, true, true, true, true, true, true, false, true, true, false, false, false, false] rfl rfl (one_of HT_.out (by kernel_rfl)) (by decide) (fun K hK => ?_)
            refine goes_ Try.func25 (by kernel_rfl) rfl #[.int .i64 a3] (by rfl) rfl rfl (by (try simp only [List.map_toArray, List.map_cons, List.map_nil]); first | done | rfl | (simp only [List.length_drop, List.length_take]; rfl)) ?_
            with_reducible refine (roundhouselaw5_Key.calls a3 t407 t408 _ A28.out).mono ?_
            rintro e w35 ⟨rfl, hb⟩
            refine ⟨_, rfl, ?_⟩
            have n0_ := Aside0.mk (Kd.R_below (by (with_reducible repeat (first | apply Kd.R_alloc | apply Kd.R_drewN | apply Kd.R_drew)); exact HO_9.out) hb)
            have n1_ := Aside0.mk (blk_below (g := gb399) (o := .cells #[.int .i64 t392, .int .u64 t393, .int .u64 t394, .int .u64 t395, .int .u64 t396, .int .u64 t397, .int .u64 t398] 27 (0, 0)) (by (with_reducible repeat (first | refine blk_drewN ?_ _ | refine blk_drew ?_ | refine blk_alloc ?_ _)); exact BK399.out) hb)
            have n2_ := Aside0.mk (below_step (by repeat (first | (with_reducible first | exact HB.out | apply below_alloc | apply pw_below_drewN | apply below_drew1 | refine below_set ?_ GE399.out) | exact HB.out)) hb)
            clear HO_9
            clear BK399
            clear HB
            have HO_9 := n0_
            have BK399 := n1_
            have HB := n2_
            clear n0_ n1_ n2_
            (try clear hb)
            (try clear hb2)
            (try clear hk)
            (try clear hi)
            refine hK.out _ _ ⟨(blk_cell BK399.out 0).trans rfl, (blk_cell BK399.out 1).trans rfl, (blk_cell BK399.out 2).trans rfl, (blk_cell BK399.out 3).trans rfl, (blk_cell BK399.out 4).trans rfl, (blk_cell BK399.out 5).trans rfl, (blk_cell BK399.out 6).trans rfl⟩ (fun hHeld => ?_)
            clear hK K
            refine norm_ (a' := ?_) ?_ ?_
            rotate_left
            · show Act.put _ (some 55) _ = _
              simp only [Act.put, List.setIfInBounds_toArray, List.set_cons_zero, List.set_cons_succ, i64_w, i32_w]
              rfl
            refine one_ (i := 9) (N := some 56) #[true, true, true, true, true, true, true, true, true, true, true, true, false, false, false, false] rfl rfl (one_of HT_.out (by kernel_rfl)) (by decide) (fun K hK => ?_)
            refine goes_ Try.func24 (by kernel_rfl) rfl #[.agg #[.int .i64 t392, .int .u64 t393, .int .u64 t394, .int .u64 t395, .int .u64 t396, .int .u64 t397, .int .u64 t398], .agg #[.int .u64 t407, .int .u64 t408]] (by rfl) rfl rfl (by (try simp only [List.map_toArray, List.map_cons, List.map_nil]); first | done | rfl | (simp only [List.length_drop, List.length_take]; rfl)) ?_
            with_reducible refine (cookie_Next.calls t392 t393 t394 t395 t396 t397 t398 t407 t408 t409 t410 t411 t412 t413 t414 t415 _ A29.out).mono ?_
            rintro e w36 ⟨rfl, hb⟩
            refine ⟨_, rfl, ?_⟩
            have n0_ := Aside0.mk (Kd.R_below (by (with_reducible repeat (first | apply Kd.R_alloc | apply Kd.R_drewN | apply Kd.R_drew)); exact HO_9.out) hb)
            have n1_ := Aside0.mk (blk_below (g := gb399) (o := .cells #[.int .i64 t392, .int .u64 t393, .int .u64 t394, .int .u64 t395, .int .u64 t396, .int .u64 t397, .int .u64 t398] 27 (0, 0)) (by (with_reducible repeat (first | refine blk_drewN ?_ _ | refine blk_drew ?_ | refine blk_alloc ?_ _)); exact BK399.out) hb)
            have n2_ := Aside0.mk (below_step (by repeat (first | (with_reducible first | exact HB.out | apply below_alloc | apply pw_below_drewN | apply below_drew1 | refine below_set ?_ GE399.out) | exact HB.out)) hb)
            clear HO_9
            clear BK399
            clear HB
            have HO_9 := n0_
            have BK399 := n1_
            have HB := n2_
            clear n0_ n1_ n2_
            (try clear hb)
            (try clear hb2)
            (try clear hk)
            (try clear hi)
            refine hK.out _ _ ⟨(blk_cell BK399.out 0).trans rfl, (blk_cell BK399.out 1).trans rfl, (blk_cell BK399.out 2).trans rfl, (blk_cell BK399.out 3).trans rfl, (blk_cell BK399.out 4).trans rfl, (blk_cell BK399.out 5).trans rfl, (blk_cell BK399.out 6).trans rfl⟩ (fun hHeld => ?_)
            clear hK K
            refine norm_ (a' := ?_) ?_ ?_
            rotate_left
            · show Act.put _ (some 56) _ = _
              simp only [Act.put, List.setIfInBounds_toArray, List.set_cons_zero, List.set_cons_succ, i64_w, i32_w]
              rfl
            refine one_ (i := 12) (N := some 59) #[true, true, true, true, true, true, true, true, true, true, true, true, true, false, false, false] rfl rfl (one_of HT_.out (by kernel_rfl)) (by decide) (fun K hK => ?_)
            refine goes_ Try.func25 (by kernel_rfl) rfl #[.int .i64 a3] (by rfl) rfl rfl (by (try simp only [List.map_toArray, List.map_cons, List.map_nil]); first | done | rfl | (simp only [List.length_drop, List.length_take]; rfl)) ?_
            with_reducible refine (roundhouselaw5_Key.calls a3 t416 t417 _ A30.out).mono ?_
            rintro e w37 ⟨rfl, hb⟩
            refine ⟨_, rfl, ?_⟩
            have n0_ := Aside0.mk (Kd.R_below (by (with_reducible repeat (first | apply Kd.R_alloc | apply Kd.R_drewN | apply Kd.R_drew)); exact HO_9.out) hb)
            have n1_ := Aside0.mk (blk_below (g := gb399) (o := .cells #[.int .i64 t392, .int .u64 t393, .int .u64 t394, .int .u64 t395, .int .u64 t396, .int .u64 t397, .int .u64 t398] 27 (0, 0)) (by (with_reducible repeat (first | refine blk_drewN ?_ _ | refine blk_drew ?_ | refine blk_alloc ?_ _)); exact BK399.out) hb)
            have n2_ := Aside0.mk (below_step (by repeat (first | (with_reducible first | exact HB.out | apply below_alloc | apply pw_below_drewN | apply below_drew1 | refine below_set ?_ GE399.out) | exact HB.out)) hb)
            clear HO_9
            clear BK399
            clear HB
            have HO_9 := n0_
            have BK399 := n1_
            have HB := n2_
            clear n0_ n1_ n2_
            (try clear hb)
            (try clear hb2)
            (try clear hk)
            (try clear hi)
            refine hK.out _ _ ⟨(blk_cell BK399.out 0).trans rfl, (blk_cell BK399.out 1).trans rfl, (blk_cell BK399.out 2).trans rfl, (blk_cell BK399.out 3).trans rfl, (blk_cell BK399.out 4).trans rfl, (blk_cell BK399.out 5).trans rfl, (blk_cell BK399.out 6).trans rfl⟩ (fun hHeld => ?_)
            clear hK K
            refine norm_ (a' := ?_) ?_ ?_
            rotate_left
            · show Act.put _ (some 59) _ = _
              simp only [Act.put, List.setIfInBounds_toArray, List.set_cons_zero, List.set_cons_succ, i64_w, i32_w]
              rfl
            refine one_ (i := 13) (N := some 60) #[true, true, true, true, true, true, true, true, true, true, true, true, true, true, false, false] rfl rfl (one_of HT_.out (by kernel_rfl)) (by decide) (fun K hK => ?_)
            refine goes_ Try.func28 (by kernel_rfl) rfl #[.agg #[.int .i64 t392, .int .u64 t393, .int .u64 t394, .int .u64 t395, .int .u64 t396, .int .u64 t397, .int .u64 t398], .agg #[.int .u64 t416, .int .u64 t417]] (by rfl) rfl rfl (by (try simp only [List.map_toArray, List.map_cons, List.map_nil]); first | done | rfl | (simp only [List.length_drop, List.length_take]; rfl)) ?_
            with_reducible refine (roundhouseref5_Next.calls t392 t393 t394 t395 t396 t397 t398 t416 t417 t418 t419 t420 t421 t422 t423 t424 _ A31.out).mono ?_
            rintro e w38 ⟨rfl, hb⟩
            refine ⟨_, rfl, ?_⟩
            have n0_ := Aside0.mk (Kd.R_below (by (with_reducible repeat (first | apply Kd.R_alloc | apply Kd.R_drewN | apply Kd.R_drew)); exact HO_9.out) hb)
            have n1_ := Aside0.mk (blk_below (g := gb399) (o := .cells #[.int .i64 t392, .int .u64 t393, .int .u64 t394, .int .u64 t395, .int .u64 t396, .int .u64 t397, .int .u64 t398] 27 (0, 0)) (by (with_reducible repeat (first | refine blk_drewN ?_ _ | refine blk_drew ?_ | refine blk_alloc ?_ _)); exact BK399.out) hb)
            have n2_ := Aside0.mk (below_step (by repeat (first | (with_reducible first | exact HB.out | apply below_alloc | apply pw_below_drewN | apply below_drew1 | refine below_set ?_ GE399.out) | exact HB.out)) hb)
            clear HO_9
            clear BK399
            clear HB
            have HO_9 := n0_
            have BK399 := n1_
            have HB := n2_
            clear n0_ n1_ n2_
            (try clear hb)
            (try clear hb2)
            (try clear hk)
            (try clear hi)
            refine hK.out _ _ ⟨(blk_cell BK399.out 0).trans rfl, (blk_cell BK399.out 1).trans rfl, (blk_cell BK399.out 2).trans rfl, (blk_cell BK399.out 3).trans rfl, (blk_cell BK399.out 4).trans rfl, (blk_cell BK399.out 5).trans rfl, (blk_cell BK399.out 6).trans rfl⟩ (fun hHeld => ?_)
            clear hK K
            refine norm_ (a' := ?_) ?_ ?_
            rotate_left
            · show Act.put _ (some 60) _ = _
              simp only [Act.put, List.setIfInBounds_toArray, List.set_cons_zero, List.set_cons_succ, i64_w, i32_w]
              rfl
            refine pure_ (i := 14) (N := some 61) (v := ?_) (a' := ?_) #[true, true, true, true, true, true, true, true, true, true, true, true, true, true, true, false] rfl rfl (any_of HT_.out (by kernel_rfl)) (fun _ _ _ h => h) (Or.inl ⟨by rfl, ?_⟩) ?_ ?_
            rotate_left
            · intro w'
              go_simp
              with_reducible rfl
            rotate_left
            · simp only [Act.put, List.setIfInBounds_toArray, List.set_cons_zero, List.set_cons_succ, i64_w, i32_w]
              rfl
            refine pure_ (i := 15) (N := some 62) (v := ?_) (a' := ?_) #[true, true, true, true, true, true, true, true, true, true, true, true, true, true, true, true] rfl rfl (any_of HT_.out (by kernel_rfl)) (fun _ _ _ h => h) (Or.inl ⟨by rfl, ?_⟩) ?_ ?_
            rotate_left
            · intro w'
              go_simp
              with_reducible rfl
            rotate_left
            · simp only [Act.put, List.setIfInBounds_toArray, List.set_cons_zero, List.set_cons_succ, i64_w, i32_w]
              rfl
            refine done_ (done_of HT_.out (by kernel_rfl)) ?_
            try go_wp2
            go_meet
            case rel => exact ⟨_, ((!(t409 == t418) || ((!(t410 == t419) || (!(t411 == t420))) || ((!(t412 == t421) || (!(t413 == t422))) || ((!(t414 == t423) || (!(t415 == t424)))))))), (by first | rfl | (simp; done) | (simp [*]; done)), H', ⟨by have := HJ6.out; first | omega | exact Nat.le_refl _⟩, ⟨by (with_reducible repeat (first | refine blk_drewN ?_ _ | refine blk_drew ?_ | refine blk_alloc ?_ _)); exact BK399.out⟩, ⟨by repeat (first | (with_reducible first | exact HB.out | apply below_alloc | apply pw_below_drewN | apply below_drew1 | refine below_set ?_ GE399.out) | exact HB.out)⟩⟩
        case rest =>
          clear HC18
          try clear c1
          try clear c2
          try clear p2
          try clear p3
          try clear q3
          try clear hx3
          try clear c6
          try clear p6
          try clear c9
          try clear c9b0
          try clear c10
          try clear c10b0
          try clear c11
          try clear c11b0
          try clear c13
          try clear c16
          try clear c18
          try clear c24
          try clear c24b0
          try clear c25
          try clear c26
          try clear c27
          try clear c28
          try clear p38
          try clear q38
          try clear hx38
          try clear hcz22_0
          try clear hcz22_1
          try clear hcz22_2
          try clear hcz22_3
          try clear hcz22_4
          try clear hcz22_5
          try clear hcz22_6
          try clear hfz22_0
          try clear hfz22_1
          try clear hfz22_2
          try clear hfz22_3
          try clear hfz22_4
          try clear hfz22_5
          try clear hfz22_6
          try clear hx385_0
          try clear p2
          try clear p3
          try clear p385
          try clear p6
          try clear q3
          try clear q385
          obtain ⟨kq, x62_17, rfl, HA, HJ17, BK399, HB⟩ := hcut
          cases kq with
          | zero => exact absurd HA.out (by simp [roundhouselaw5_CookieRings.j2])
          | succ kj17 =>
            have H := HA.out
            clear HA
            simp only [roundhouselaw5_CookieRings.j2] at H
            by_cases c39 : x62_17 = true
            · subst c39
              have H1 : (some false) = some r := by rw [if_pos rfl] at H; exact H
              clear H
              have H := H1
              clear H1
              exact absurd hr_.out (by rw [← Option.some.inj H]; decide)
            · replace c39 := Bool.eq_false_iff.mpr c39
              subst c39
              have H1 : (roundhouselaw5_CookieRings.l1 kj17 a2 t391 (-3) t392 t393 t394 t395 t396 t397 t398) = some r := by rw [if_neg (show ¬ (false = true) by decide)] at H; exact H
              clear H
              have H := H1
              clear H1
              have H' := Aside0.mk H
              clear H
              go_wp2
              go_loopg [13] kj17 (fun kq v13 w' => ∃ (x13_3 : Int), v13 = .int .i64 x13_3 ∧ Aside0 (roundhouselaw5_CookieRings.l1 kq a2 t391 x13_3 t392 t393 t394 t395 t396 t397 t398 = some r) ∧ Aside0 (kq ≤ kj17) ∧ Aside0 (w'.heap[gb399]? = some (.cells #[.int .i64 t392, .int .u64 t393, .int .u64 t394, .int .u64 t395, .int .u64 t396, .int .u64 t397, .int .u64 t398] 27 (0, 0))) ∧ Aside0 (Below w.heap.size w w'))
              case atStart => exact ⟨((-3)), (by first | rfl | (simp; done) | (simp [*]; done)), H', ⟨Nat.le_refl _⟩, ⟨by (with_reducible repeat (first | refine blk_drewN ?_ _ | refine blk_drew ?_ | refine blk_alloc ?_ _)); exact BK399.out⟩, ⟨by repeat (first | (with_reducible first | exact HB.out | apply below_alloc | apply pw_below_drewN | apply below_drew1 | refine below_set ?_ GE399.out) | exact HB.out)⟩⟩
              case round =>
                clear H'
                try clear c1
                try clear c2
                try clear p2
                try clear c3
                try clear p3
                try clear q3
                try clear hx3
                try clear c6
                try clear p6
                try clear c9
                try clear c9b0
                try clear c10
                try clear c10b0
                try clear c11
                try clear c11b0
                try clear c13
                try clear c16
                try clear c18
                try clear c24
                try clear c24b0
                try clear c25
                try clear c26
                try clear c27
                try clear c28
                try clear p38
                try clear q38
                try clear hx38
                try clear c39
                try clear hcz22_0
                try clear hcz22_1
                try clear hcz22_2
                try clear hcz22_3
                try clear hcz22_4
                try clear hcz22_5
                try clear hcz22_6
                try clear hfz22_0
                try clear hfz22_1
                try clear hfz22_2
                try clear hfz22_3
                try clear hfz22_4
                try clear hfz22_5
                try clear hfz22_6
                try clear hx385_0
                try clear p2
                try clear p3
                try clear p38
                try clear p385
                try clear p6
                try clear q3
                try clear q38
                try clear q385
                obtain ⟨x13_3, rfl, HA, HK3, BK399, HB⟩ := hrel
                cases gk with
                | zero => exact absurd HA.out (by simp [roundhouselaw5_CookieRings.l1])
                | succ k3 =>
                  have H := HA.out
                  clear HA
                  simp only [roundhouselaw5_CookieRings.l1] at H
                  by_cases c40 : x13_3 < 6
                  · rw [if_pos c40] at H
                    have c40b0 : decide (x13_3 < 6) = true := decide_eq_true c40
                    clear c40
                    replace H := Option.bind_eq_some_iff.mp H
                    obtain ⟨⟨t433, t434, t435⟩, A410, H⟩ := H
                    replace H : ((roundhouseref5_Key.f t392 t393 t394 t395 t396 t397 t398 (wrap64 (t391 + x13_3))).bind fun bt437 => (if (!(t433 == bt437.1) || (!(t434 == bt437.2.1))) = true then (some false) else (if (t435 != bt437.2.2) = true then (some false) else (roundhouselaw5_CookieRings.l1 k3 a2 t391 (wrap64 (x13_3 + 1)) t392 t393 t394 t395 t396 t397 t398)))) = some r := H
                    have A41 := Aside0.mk A410
                    clear A410
                    replace H := Option.bind_eq_some_iff.mp H
                    obtain ⟨⟨t437, t438, t439⟩, A420, H⟩ := H
                    replace H : (if (!(t433 == t437) || (!(t434 == t438))) = true then (some false) else (if (t435 != t439) = true then (some false) else (roundhouselaw5_CookieRings.l1 k3 a2 t391 (wrap64 (x13_3 + 1)) t392 t393 t394 t395 t396 t397 t398))) = some r := H
                    have A42 := Aside0.mk A420
                    clear A420
                    by_cases c43 : (!(t433 == t437) || (!(t434 == t438))) = true
                    · rw [if_pos c43] at H
                      have c43b0 : (!(t433 == t437) || (!(t434 == t438))) = true := c43
                      clear c43
                      exact absurd hr_.out (by rw [← Option.some.inj H]; decide)
                    · rw [if_neg c43] at H
                      have c43b0 : (!(t433 == t437) || (!(t434 == t438))) = false := by simpa using c43
                      clear c43
                      by_cases c56 : (t435 != t439) = true
                      · rw [if_pos c56] at H
                        have c56b0 : (t435 != t439) = true := c56
                        (try (have c56b1 : decide (t435 = t439) = false := by simpa using c56))
                        (try (have c56b2 : (t435 == t439) = false := by simpa using c56))
                        (try (have c56b3 : ¬ (t435 = t439) := by simpa using c56))
                        clear c56
                        exact absurd hr_.out (by rw [← Option.some.inj H]; decide)
                      · rw [if_neg c56] at H
                        have c56b0 : (t435 != t439) = false := by simpa using c56
                        (try (have c56b1 : decide (t435 = t439) = true := by simpa using c56))
                        (try (have c56b2 : (t435 == t439) = true := by simpa using c56))
                        clear c56
                        have H' := Aside0.mk H
                        clear H
                        have hcz69_0 : wr.cell? ⟨gb399, 0, none⟩ = some (.int .i64 t392) := (blk_cell BK399.out 0).trans rfl
                        have hcz69_1 : wr.cell? ⟨gb399, 1, none⟩ = some (.int .u64 t393) := (blk_cell BK399.out 1).trans rfl
                        have hcz69_2 : wr.cell? ⟨gb399, 2, none⟩ = some (.int .u64 t394) := (blk_cell BK399.out 2).trans rfl
                        have hcz69_3 : wr.cell? ⟨gb399, 3, none⟩ = some (.int .u64 t395) := (blk_cell BK399.out 3).trans rfl
                        have hcz69_4 : wr.cell? ⟨gb399, 4, none⟩ = some (.int .u64 t396) := (blk_cell BK399.out 4).trans rfl
                        have hcz69_5 : wr.cell? ⟨gb399, 5, none⟩ = some (.int .u64 t397) := (blk_cell BK399.out 5).trans rfl
                        have hcz69_6 : wr.cell? ⟨gb399, 6, none⟩ = some (.int .u64 t398) := (blk_cell BK399.out 6).trans rfl
                        have hfz69_0 := blk_frozen BK399.out 0
                        have hfz69_1 := blk_frozen BK399.out 1
                        have hfz69_2 := blk_frozen BK399.out 2
                        have hfz69_3 := blk_frozen BK399.out 3
                        have hfz69_4 := blk_frozen BK399.out 4
                        have hfz69_5 := blk_frozen BK399.out 5
                        have hfz69_6 := blk_frozen BK399.out 6
                        go_wp2_with (first | ((with_reducible refine gate_callee (f := 29) rfl ?_); refine goesL_ (some 72) rfl rfl Try.func29 (by kernel_rfl) rfl #[.agg #[.int .i64 t392, .int .u64 t393, .int .u64 t394, .int .u64 t395, .int .u64 t396, .int .u64 t397, .int .u64 t398], .int .i64 (wrap64 (t391 + x13_3))] rfl (by (try simp only [List.map_toArray, List.map_cons, List.map_nil]); first | done | rfl | (simp only [List.length_drop, List.length_take]; rfl)) ?_; (with_reducible refine (cookie_Key.calls k3 t392 t393 t394 t395 t396 t397 t398 (wrap64 (t391 + x13_3)) t433 t434 t435 _ A41.out).mono ?_); rintro e w70 ⟨rfl, hb⟩; refine ⟨_, rfl, ?_⟩; have n0_ := Aside0.mk (blk_below (g := gb399) (o := .cells #[.int .i64 t392, .int .u64 t393, .int .u64 t394, .int .u64 t395, .int .u64 t396, .int .u64 t397, .int .u64 t398] 27 (0, 0)) (by (with_reducible repeat (first | refine blk_drewN ?_ _ | refine blk_drew ?_ | refine blk_alloc ?_ _)); exact BK399.out) hb); have n1_ := Aside0.mk (below_step (by repeat (first | (with_reducible first | exact HB.out | apply below_alloc | apply pw_below_drewN | apply below_drew1 | refine below_set ?_ GE399.out) | exact HB.out)) hb); clear BK399; clear HB; have BK399 := n0_; have HB := n1_; clear n0_ n1_; (try clear hb); (try clear hb2); (try clear hk); (try clear hi)) | ((with_reducible refine gate_dst (N := 14) rfl ?_); refine box_event ?hg (N := 14) ?hd (cs := #[.int .u64 0, .int .u64 0]) (t := 25) ?hr ?_; (case hd => rfl); (case hg => rfl); (case hr => first | (go_simp; done) | (go_simp; rfl)); intro gb436 hg w71 hbox hb; have n0_ := Aside0.mk (blk_below (g := gb399) (o := .cells #[.int .i64 t392, .int .u64 t393, .int .u64 t394, .int .u64 t395, .int .u64 t396, .int .u64 t397, .int .u64 t398] 27 (0, 0)) (by (with_reducible repeat (first | refine blk_drewN ?_ _ | refine blk_drew ?_ | refine blk_alloc ?_ _)); exact BK399.out) hb); have n1_ := Aside0.mk (below_step (by repeat (first | (with_reducible first | exact HB.out | apply below_alloc | apply pw_below_drewN | apply below_drew1 | refine below_set ?_ GE399.out) | exact HB.out)) hb); have n2_ := Aside0.mk (hbox); have n3_ := Aside0.mk ((by rw [hg]; exact (below_size (by repeat (first | (with_reducible first | exact HB.out | apply below_alloc | apply pw_below_drewN | apply below_drew1 | refine below_set ?_ GE399.out) | exact HB.out))) : w.heap.size ≤ gb436)); have n4_ := Aside0.mk ((by rw [hg]; exact (below_size (by repeat (first | (with_reducible first | exact HB.out | apply below_alloc | apply pw_below_drewN | apply below_drew1 | refine below_set ?_ GE399.out) | exact HB.out))) : w.heap.size ≤ gb436)); have n5_ := Aside0.mk ((by rw [hg]; exact Nat.ne_of_lt (blk_lt (g := gb399) (o := .cells #[.int .i64 t392, .int .u64 t393, .int .u64 t394, .int .u64 t395, .int .u64 t396, .int .u64 t397, .int .u64 t398] 27 (0, 0)) (by (with_reducible repeat (first | refine blk_drewN ?_ _ | refine blk_drew ?_ | refine blk_alloc ?_ _)); exact BK399.out)) : gb399 ≠ gb436)); have n6_ := Aside0.mk ((by rw [hg]; exact Nat.ne_of_gt (blk_lt (g := gb399) (o := .cells #[.int .i64 t392, .int .u64 t393, .int .u64 t394, .int .u64 t395, .int .u64 t396, .int .u64 t397, .int .u64 t398] 27 (0, 0)) (by (with_reducible repeat (first | refine blk_drewN ?_ _ | refine blk_drew ?_ | refine blk_alloc ?_ _)); exact BK399.out)) : gb436 ≠ gb399)); clear BK399; clear HB; have BK399 := n0_; have HB := n1_; have BK436 := n2_; have GW436 := n3_; have GE436 := n4_; have NB399_436 := n5_; have NB436_399 := n6_; clear n0_ n1_ n2_ n3_ n4_ n5_ n6_; clear hb hbox hg; have hnb72 := NB436_399.out; have hnc72 := NB399_436.out; have hcz73_0 : w71.cell? ⟨gb436, 0, none⟩ = some (.int .u64 0) := (blk_cell BK436.out 0).trans rfl; have hcz73_1 : w71.cell? ⟨gb436, 1, none⟩ = some (.int .u64 0) := (blk_cell BK436.out 1).trans rfl; have hfz73_0 := blk_frozen BK436.out 0; have hfz73_1 := blk_frozen BK436.out 1; have hcz74_0 : w71.cell? ⟨gb399, 0, none⟩ = some (.int .i64 t392) := (blk_cell BK399.out 0).trans rfl; have hcz74_1 : w71.cell? ⟨gb399, 1, none⟩ = some (.int .u64 t393) := (blk_cell BK399.out 1).trans rfl; have hcz74_2 : w71.cell? ⟨gb399, 2, none⟩ = some (.int .u64 t394) := (blk_cell BK399.out 2).trans rfl; have hcz74_3 : w71.cell? ⟨gb399, 3, none⟩ = some (.int .u64 t395) := (blk_cell BK399.out 3).trans rfl; have hcz74_4 : w71.cell? ⟨gb399, 4, none⟩ = some (.int .u64 t396) := (blk_cell BK399.out 4).trans rfl; have hcz74_5 : w71.cell? ⟨gb399, 5, none⟩ = some (.int .u64 t397) := (blk_cell BK399.out 5).trans rfl; have hcz74_6 : w71.cell? ⟨gb399, 6, none⟩ = some (.int .u64 t398) := (blk_cell BK399.out 6).trans rfl; have hfz74_0 := blk_frozen BK399.out 0; have hfz74_1 := blk_frozen BK399.out 1; have hfz74_2 := blk_frozen BK399.out 2; have hfz74_3 := blk_frozen BK399.out 3; have hfz74_4 := blk_frozen BK399.out 4; have hfz74_5 := blk_frozen BK399.out 5; have hfz74_6 := blk_frozen BK399.out 6) | ((with_reducible refine gate_callee (f := 30) rfl ?_); refine goesL_ (some 80) rfl rfl Try.func30 (by kernel_rfl) rfl #[.agg #[.int .i64 t392, .int .u64 t393, .int .u64 t394, .int .u64 t395, .int .u64 t396, .int .u64 t397, .int .u64 t398], .int .i64 (wrap64 (t391 + x13_3))] rfl (by (try simp only [List.map_toArray, List.map_cons, List.map_nil]); first | done | rfl | (simp only [List.length_drop, List.length_take]; rfl)) ?_; (with_reducible refine (roundhouseref5_Key.calls t392 t393 t394 t395 t396 t397 t398 (wrap64 (t391 + x13_3)) t437 t438 t439 _ A42.out).mono ?_); rintro e w75 ⟨rfl, hb⟩; refine ⟨_, rfl, ?_⟩; have n0_ := Aside0.mk (blk_below (g := gb399) (o := .cells #[.int .i64 t392, .int .u64 t393, .int .u64 t394, .int .u64 t395, .int .u64 t396, .int .u64 t397, .int .u64 t398] 27 (0, 0)) (by (with_reducible repeat (first | refine blk_drewN ?_ _ | refine blk_drew ?_ | refine blk_alloc ?_ _)); refine blk_far ?_ NB399_436.out _; (with_reducible repeat (first | refine blk_drewN ?_ _ | refine blk_drew ?_ | refine blk_alloc ?_ _)); refine blk_far ?_ NB399_436.out _; (with_reducible repeat (first | refine blk_drewN ?_ _ | refine blk_drew ?_ | refine blk_alloc ?_ _)); exact BK399.out) hb); have n1_ := Aside0.mk (blk_below (g := gb436) (o := .cells #[.int .u64 t433, .int .u64 t434] 25 (0, 0)) (by (with_reducible repeat (first | refine blk_drewN ?_ _ | refine blk_drew ?_ | refine blk_alloc ?_ _)); refine blk_put (cs := #[.int .u64 t433, .int .u64 0]) ?_ 1 _ rfl; (with_reducible repeat (first | refine blk_drewN ?_ _ | refine blk_drew ?_ | refine blk_alloc ?_ _)); refine blk_put (cs := #[.int .u64 0, .int .u64 0]) ?_ 0 _ rfl; (with_reducible repeat (first | refine blk_drewN ?_ _ | refine blk_drew ?_ | refine blk_alloc ?_ _)); exact BK436.out) hb); have n2_ := Aside0.mk (below_step (by repeat (first | (with_reducible first | exact HB.out | apply below_alloc | apply pw_below_drewN | apply below_drew1 | refine below_set ?_ GE399.out | refine below_set ?_ GE436.out) | exact HB.out)) hb); clear BK399; clear BK436; clear HB; have BK399 := n0_; have BK436 := n1_; have HB := n2_; clear n0_ n1_ n2_; (try clear hb); (try clear hb2); (try clear hk); (try clear hi)) | ((with_reducible refine gate_dst (N := 16) rfl ?_); refine box_event ?hg (N := 16) ?hd (cs := #[.int .u64 0, .int .u64 0]) (t := 25) ?hr ?_; (case hd => rfl); (case hg => rfl); (case hr => first | (go_simp; done) | (go_simp; rfl)); intro gb440 hg w76 hbox hb; have n0_ := Aside0.mk (blk_below (g := gb399) (o := .cells #[.int .i64 t392, .int .u64 t393, .int .u64 t394, .int .u64 t395, .int .u64 t396, .int .u64 t397, .int .u64 t398] 27 (0, 0)) (by (with_reducible repeat (first | refine blk_drewN ?_ _ | refine blk_drew ?_ | refine blk_alloc ?_ _)); exact BK399.out) hb); have n1_ := Aside0.mk (blk_below (g := gb436) (o := .cells #[.int .u64 t433, .int .u64 t434] 25 (0, 0)) (by (with_reducible repeat (first | refine blk_drewN ?_ _ | refine blk_drew ?_ | refine blk_alloc ?_ _)); exact BK436.out) hb); have n2_ := Aside0.mk (below_step (by repeat (first | (with_reducible first | exact HB.out | apply below_alloc | apply pw_below_drewN | apply below_drew1 | refine below_set ?_ GE399.out | refine below_set ?_ GE436.out) | exact HB.out)) hb); have n3_ := Aside0.mk (hbox); have n4_ := Aside0.mk ((by rw [hg]; exact (below_size (by repeat (first | (with_reducible first | exact HB.out | apply below_alloc | apply pw_below_drewN | apply below_drew1 | refine below_set ?_ GE399.out | refine below_set ?_ GE436.out) | exact HB.out))) : w.heap.size ≤ gb440)); have n5_ := Aside0.mk ((by rw [hg]; exact (below_size (by repeat (first | (with_reducible first | exact HB.out | apply below_alloc | apply pw_below_drewN | apply below_drew1 | refine below_set ?_ GE399.out | refine below_set ?_ GE436.out) | exact HB.out))) : w.heap.size ≤ gb440)); have n6_ := Aside0.mk ((by rw [hg]; exact Nat.ne_of_lt (blk_lt (g := gb399) (o := .cells #[.int .i64 t392, .int .u64 t393, .int .u64 t394, .int .u64 t395, .int .u64 t396, .int .u64 t397, .int .u64 t398] 27 (0, 0)) (by (with_reducible repeat (first | refine blk_drewN ?_ _ | refine blk_drew ?_ | refine blk_alloc ?_ _)); exact BK399.out)) : gb399 ≠ gb440)); have n7_ := Aside0.mk ((by rw [hg]; exact Nat.ne_of_gt (blk_lt (g := gb399) (o := .cells #[.int .i64 t392, .int .u64 t393, .int .u64 t394, .int .u64 t395, .int .u64 t396, .int .u64 t397, .int .u64 t398] 27 (0, 0)) (by (with_reducible repeat (first | refine blk_drewN ?_ _ | refine blk_drew ?_ | refine blk_alloc ?_ _)); exact BK399.out)) : gb440 ≠ gb399)); have n8_ := Aside0.mk ((by rw [hg]; exact Nat.ne_of_lt (blk_lt (g := gb436) (o := .cells #[.int .u64 t433, .int .u64 t434] 25 (0, 0)) (by (with_reducible repeat (first | refine blk_drewN ?_ _ | refine blk_drew ?_ | refine blk_alloc ?_ _)); exact BK436.out)) : gb436 ≠ gb440)); have n9_ := Aside0.mk ((by rw [hg]; exact Nat.ne_of_gt (blk_lt (g := gb436) (o := .cells #[.int .u64 t433, .int .u64 t434] 25 (0, 0)) (by (with_reducible repeat (first | refine blk_drewN ?_ _ | refine blk_drew ?_ | refine blk_alloc ?_ _)); exact BK436.out)) : gb440 ≠ gb436)); clear BK399; clear BK436; clear HB; have BK399 := n0_; have BK436 := n1_; have HB := n2_; have BK440 := n3_; have GW440 := n4_; have GE440 := n5_; have NB399_440 := n6_; have NB440_399 := n7_; have NB436_440 := n8_; have NB440_436 := n9_; clear n0_ n1_ n2_ n3_ n4_ n5_ n6_ n7_ n8_ n9_; clear hb hbox hg; have hnb77 := NB440_399.out; have hnc77 := NB399_440.out; have hnb78 := NB440_436.out; have hnc78 := NB436_440.out; have hcz79_0 : w76.cell? ⟨gb440, 0, none⟩ = some (.int .u64 0) := (blk_cell BK440.out 0).trans rfl; have hcz79_1 : w76.cell? ⟨gb440, 1, none⟩ = some (.int .u64 0) := (blk_cell BK440.out 1).trans rfl; have hfz79_0 := blk_frozen BK440.out 0; have hfz79_1 := blk_frozen BK440.out 1; have hcz80_0 : w76.cell? ⟨gb436, 0, none⟩ = some (.int .u64 t433) := (blk_cell BK436.out 0).trans rfl; have hcz80_1 : w76.cell? ⟨gb436, 1, none⟩ = some (.int .u64 t434) := (blk_cell BK436.out 1).trans rfl; have hfz80_0 := blk_frozen BK436.out 0; have hfz80_1 := blk_frozen BK436.out 1))
                        go_roundg k3
                        case measure => have := HJ6.out; have := HJ17.out; have := HK3.out; omega
                        case rel => exact ⟨(wrap64 (x13_3 + 1)), (by first | rfl | (simp; done) | (simp [*]; done)), H', ⟨by have := HJ6.out; have := HJ17.out; have := HK3.out; omega⟩, ⟨by (with_reducible repeat (first | refine blk_drewN ?_ _ | refine blk_drew ?_ | refine blk_alloc ?_ _)); refine blk_far ?_ NB399_440.out _; (with_reducible repeat (first | refine blk_drewN ?_ _ | refine blk_drew ?_ | refine blk_alloc ?_ _)); refine blk_far ?_ NB399_440.out _; (with_reducible repeat (first | refine blk_drewN ?_ _ | refine blk_drew ?_ | refine blk_alloc ?_ _)); exact BK399.out⟩, ⟨by repeat (first | (with_reducible first | exact HB.out | apply below_alloc | apply pw_below_drewN | apply below_drew1 | refine below_set ?_ GE399.out | refine below_set ?_ GE436.out | refine below_set ?_ GE440.out) | exact HB.out)⟩⟩
                  · rw [if_neg c40] at H
                    have c40b0 : decide (x13_3 < 6) = false := decide_eq_false c40
                    clear c40
                    replace H := Option.bind_eq_some_iff.mp H
                    obtain ⟨⟨t425, t426, t427⟩, A810, H⟩ := H
                    replace H : ((roundhouseref5_Key.f t392 t393 t394 t395 t396 t397 t398 a2).bind fun bt429 => (if (t425 == bt429.1 && (t426 == bt429.2.1)) = true then (some (t427 == bt429.2.2)) else (some false))) = some r := H
                    have A81 := Aside0.mk A810
                    clear A810
                    replace H := Option.bind_eq_some_iff.mp H
                    obtain ⟨⟨t429, t430, t431⟩, A820, H⟩ := H
                    replace H : (if (t425 == t429 && (t426 == t430)) = true then (some (t427 == t431)) else (some false)) = some r := H
                    have A82 := Aside0.mk A820
                    clear A820
                    by_cases c83 : (t425 == t429 && (t426 == t430)) = true
                    · rw [if_pos c83] at H
                      have c83b0 : (t425 == t429 && (t426 == t430)) = true := c83
                      (try (have c83b1 : decide (t425 = t429 && (t426 == t430)) = true := by simpa using c83))
                      (try (have c83b2 : (t425 == t429 && (t426 == t430)) = true := by simpa using c83))
                      clear c83
                      obtain rfl := Option.some.inj H
                      have hcz84_0 : wr.cell? ⟨gb399, 0, none⟩ = some (.int .i64 t392) := (blk_cell BK399.out 0).trans rfl
                      have hcz84_1 : wr.cell? ⟨gb399, 1, none⟩ = some (.int .u64 t393) := (blk_cell BK399.out 1).trans rfl
                      have hcz84_2 : wr.cell? ⟨gb399, 2, none⟩ = some (.int .u64 t394) := (blk_cell BK399.out 2).trans rfl
                      have hcz84_3 : wr.cell? ⟨gb399, 3, none⟩ = some (.int .u64 t395) := (blk_cell BK399.out 3).trans rfl
                      have hcz84_4 : wr.cell? ⟨gb399, 4, none⟩ = some (.int .u64 t396) := (blk_cell BK399.out 4).trans rfl
                      have hcz84_5 : wr.cell? ⟨gb399, 5, none⟩ = some (.int .u64 t397) := (blk_cell BK399.out 5).trans rfl
                      have hcz84_6 : wr.cell? ⟨gb399, 6, none⟩ = some (.int .u64 t398) := (blk_cell BK399.out 6).trans rfl
                      have hfz84_0 := blk_frozen BK399.out 0
                      have hfz84_1 := blk_frozen BK399.out 1
                      have hfz84_2 := blk_frozen BK399.out 2
                      have hfz84_3 := blk_frozen BK399.out 3
                      have hfz84_4 := blk_frozen BK399.out 4
                      have hfz84_5 := blk_frozen BK399.out 5
                      have hfz84_6 := blk_frozen BK399.out 6
                      go_wp2_with (first | ((with_reducible refine gate_callee (f := 29) rfl ?_); refine goesL_ (some 94) rfl rfl Try.func29 (by kernel_rfl) rfl #[.agg #[.int .i64 t392, .int .u64 t393, .int .u64 t394, .int .u64 t395, .int .u64 t396, .int .u64 t397, .int .u64 t398], .int .i64 a2] rfl (by (try simp only [List.map_toArray, List.map_cons, List.map_nil]); first | done | rfl | (simp only [List.length_drop, List.length_take]; rfl)) ?_; (with_reducible refine (cookie_Key.calls k3 t392 t393 t394 t395 t396 t397 t398 a2 t425 t426 t427 _ A81.out).mono ?_); rintro e w85 ⟨rfl, hb⟩; refine ⟨_, rfl, ?_⟩; have n0_ := Aside0.mk (blk_below (g := gb399) (o := .cells #[.int .i64 t392, .int .u64 t393, .int .u64 t394, .int .u64 t395, .int .u64 t396, .int .u64 t397, .int .u64 t398] 27 (0, 0)) (by (with_reducible repeat (first | refine blk_drewN ?_ _ | refine blk_drew ?_ | refine blk_alloc ?_ _)); exact BK399.out) hb); have n1_ := Aside0.mk (below_step (by repeat (first | (with_reducible first | exact HB.out | apply below_alloc | apply pw_below_drewN | apply below_drew1 | refine below_set ?_ GE399.out) | exact HB.out)) hb); clear BK399; clear HB; have BK399 := n0_; have HB := n1_; clear n0_ n1_; (try clear hb); (try clear hb2); (try clear hk); (try clear hi)) | ((with_reducible refine gate_dst (N := 18) rfl ?_); refine box_event ?hg (N := 18) ?hd (cs := #[.int .u64 0, .int .u64 0]) (t := 25) ?hr ?_; (case hd => rfl); (case hg => rfl); (case hr => first | (go_simp; done) | (go_simp; rfl)); intro gb428 hg w86 hbox hb; have n0_ := Aside0.mk (blk_below (g := gb399) (o := .cells #[.int .i64 t392, .int .u64 t393, .int .u64 t394, .int .u64 t395, .int .u64 t396, .int .u64 t397, .int .u64 t398] 27 (0, 0)) (by (with_reducible repeat (first | refine blk_drewN ?_ _ | refine blk_drew ?_ | refine blk_alloc ?_ _)); exact BK399.out) hb); have n1_ := Aside0.mk (below_step (by repeat (first | (with_reducible first | exact HB.out | apply below_alloc | apply pw_below_drewN | apply below_drew1 | refine below_set ?_ GE399.out) | exact HB.out)) hb); have n2_ := Aside0.mk (hbox); have n3_ := Aside0.mk ((by rw [hg]; exact (below_size (by repeat (first | (with_reducible first | exact HB.out | apply below_alloc | apply pw_below_drewN | apply below_drew1 | refine below_set ?_ GE399.out) | exact HB.out))) : w.heap.size ≤ gb428)); have n4_ := Aside0.mk ((by rw [hg]; exact (below_size (by repeat (first | (with_reducible first | exact HB.out | apply below_alloc | apply pw_below_drewN | apply below_drew1 | refine below_set ?_ GE399.out) | exact HB.out))) : w.heap.size ≤ gb428)); have n5_ := Aside0.mk ((by rw [hg]; exact Nat.ne_of_lt (blk_lt (g := gb399) (o := .cells #[.int .i64 t392, .int .u64 t393, .int .u64 t394, .int .u64 t395, .int .u64 t396, .int .u64 t397, .int .u64 t398] 27 (0, 0)) (by (with_reducible repeat (first | refine blk_drewN ?_ _ | refine blk_drew ?_ | refine blk_alloc ?_ _)); exact BK399.out)) : gb399 ≠ gb428)); have n6_ := Aside0.mk ((by rw [hg]; exact Nat.ne_of_gt (blk_lt (g := gb399) (o := .cells #[.int .i64 t392, .int .u64 t393, .int .u64 t394, .int .u64 t395, .int .u64 t396, .int .u64 t397, .int .u64 t398] 27 (0, 0)) (by (with_reducible repeat (first | refine blk_drewN ?_ _ | refine blk_drew ?_ | refine blk_alloc ?_ _)); exact BK399.out)) : gb428 ≠ gb399)); clear BK399; clear HB; have BK399 := n0_; have HB := n1_; have BK428 := n2_; have GW428 := n3_; have GE428 := n4_; have NB399_428 := n5_; have NB428_399 := n6_; clear n0_ n1_ n2_ n3_ n4_ n5_ n6_; clear hb hbox hg; have hnb87 := NB428_399.out; have hnc87 := NB399_428.out; have hcz88_0 : w86.cell? ⟨gb428, 0, none⟩ = some (.int .u64 0) := (blk_cell BK428.out 0).trans rfl; have hcz88_1 : w86.cell? ⟨gb428, 1, none⟩ = some (.int .u64 0) := (blk_cell BK428.out 1).trans rfl; have hfz88_0 := blk_frozen BK428.out 0; have hfz88_1 := blk_frozen BK428.out 1; have hcz89_0 : w86.cell? ⟨gb399, 0, none⟩ = some (.int .i64 t392) := (blk_cell BK399.out 0).trans rfl; have hcz89_1 : w86.cell? ⟨gb399, 1, none⟩ = some (.int .u64 t393) := (blk_cell BK399.out 1).trans rfl; have hcz89_2 : w86.cell? ⟨gb399, 2, none⟩ = some (.int .u64 t394) := (blk_cell BK399.out 2).trans rfl; have hcz89_3 : w86.cell? ⟨gb399, 3, none⟩ = some (.int .u64 t395) := (blk_cell BK399.out 3).trans rfl; have hcz89_4 : w86.cell? ⟨gb399, 4, none⟩ = some (.int .u64 t396) := (blk_cell BK399.out 4).trans rfl; have hcz89_5 : w86.cell? ⟨gb399, 5, none⟩ = some (.int .u64 t397) := (blk_cell BK399.out 5).trans rfl; have hcz89_6 : w86.cell? ⟨gb399, 6, none⟩ = some (.int .u64 t398) := (blk_cell BK399.out 6).trans rfl; have hfz89_0 := blk_frozen BK399.out 0; have hfz89_1 := blk_frozen BK399.out 1; have hfz89_2 := blk_frozen BK399.out 2; have hfz89_3 := blk_frozen BK399.out 3; have hfz89_4 := blk_frozen BK399.out 4; have hfz89_5 := blk_frozen BK399.out 5; have hfz89_6 := blk_frozen BK399.out 6) | ((with_reducible refine gate_callee (f := 30) rfl ?_); refine goesL_ (some 100) rfl rfl Try.func30 (by kernel_rfl) rfl #[.agg #[.int .i64 t392, .int .u64 t393, .int .u64 t394, .int .u64 t395, .int .u64 t396, .int .u64 t397, .int .u64 t398], .int .i64 a2] rfl (by (try simp only [List.map_toArray, List.map_cons, List.map_nil]); first | done | rfl | (simp only [List.length_drop, List.length_take]; rfl)) ?_; (with_reducible refine (roundhouseref5_Key.calls t392 t393 t394 t395 t396 t397 t398 a2 t429 t430 t431 _ A82.out).mono ?_); rintro e w90 ⟨rfl, hb⟩; refine ⟨_, rfl, ?_⟩; have n0_ := Aside0.mk (blk_below (g := gb399) (o := .cells #[.int .i64 t392, .int .u64 t393, .int .u64 t394, .int .u64 t395, .int .u64 t396, .int .u64 t397, .int .u64 t398] 27 (0, 0)) (by (with_reducible repeat (first | refine blk_drewN ?_ _ | refine blk_drew ?_ | refine blk_alloc ?_ _)); refine blk_far ?_ NB399_428.out _; (with_reducible repeat (first | refine blk_drewN ?_ _ | refine blk_drew ?_ | refine blk_alloc ?_ _)); refine blk_far ?_ NB399_428.out _; (with_reducible repeat (first | refine blk_drewN ?_ _ | refine blk_drew ?_ | refine blk_alloc ?_ _)); exact BK399.out) hb); have n1_ := Aside0.mk (blk_below (g := gb428) (o := .cells #[.int .u64 t425, .int .u64 t426] 25 (0, 0)) (by (with_reducible repeat (first | refine blk_drewN ?_ _ | refine blk_drew ?_ | refine blk_alloc ?_ _)); refine blk_put (cs := #[.int .u64 t425, .int .u64 0]) ?_ 1 _ rfl; (with_reducible repeat (first | refine blk_drewN ?_ _ | refine blk_drew ?_ | refine blk_alloc ?_ _)); refine blk_put (cs := #[.int .u64 0, .int .u64 0]) ?_ 0 _ rfl; (with_reducible repeat (first | refine blk_drewN ?_ _ | refine blk_drew ?_ | refine blk_alloc ?_ _)); exact BK428.out) hb); have n2_ := Aside0.mk (below_step (by repeat (first | (with_reducible first | exact HB.out | apply below_alloc | apply pw_below_drewN | apply below_drew1 | refine below_set ?_ GE399.out | refine below_set ?_ GE428.out) | exact HB.out)) hb); clear BK399; clear BK428; clear HB; have BK399 := n0_; have BK428 := n1_; have HB := n2_; clear n0_ n1_ n2_; (try clear hb); (try clear hb2); (try clear hk); (try clear hi)) | ((with_reducible refine gate_dst (N := 20) rfl ?_); refine box_event ?hg (N := 20) ?hd (cs := #[.int .u64 0, .int .u64 0]) (t := 25) ?hr ?_; (case hd => rfl); (case hg => rfl); (case hr => first | (go_simp; done) | (go_simp; rfl)); intro gb432 hg w91 hbox hb; have n0_ := Aside0.mk (blk_below (g := gb399) (o := .cells #[.int .i64 t392, .int .u64 t393, .int .u64 t394, .int .u64 t395, .int .u64 t396, .int .u64 t397, .int .u64 t398] 27 (0, 0)) (by (with_reducible repeat (first | refine blk_drewN ?_ _ | refine blk_drew ?_ | refine blk_alloc ?_ _)); exact BK399.out) hb); have n1_ := Aside0.mk (blk_below (g := gb428) (o := .cells #[.int .u64 t425, .int .u64 t426] 25 (0, 0)) (by (with_reducible repeat (first | refine blk_drewN ?_ _ | refine blk_drew ?_ | refine blk_alloc ?_ _)); exact BK428.out) hb); have n2_ := Aside0.mk (below_step (by repeat (first | (with_reducible first | exact HB.out | apply below_alloc | apply pw_below_drewN | apply below_drew1 | refine below_set ?_ GE399.out | refine below_set ?_ GE428.out) | exact HB.out)) hb); have n3_ := Aside0.mk (hbox); have n4_ := Aside0.mk ((by rw [hg]; exact (below_size (by repeat (first | (with_reducible first | exact HB.out | apply below_alloc | apply pw_below_drewN | apply below_drew1 | refine below_set ?_ GE399.out | refine below_set ?_ GE428.out) | exact HB.out))) : w.heap.size ≤ gb432)); have n5_ := Aside0.mk ((by rw [hg]; exact (below_size (by repeat (first | (with_reducible first | exact HB.out | apply below_alloc | apply pw_below_drewN | apply below_drew1 | refine below_set ?_ GE399.out | refine below_set ?_ GE428.out) | exact HB.out))) : w.heap.size ≤ gb432)); have n6_ := Aside0.mk ((by rw [hg]; exact Nat.ne_of_lt (blk_lt (g := gb399) (o := .cells #[.int .i64 t392, .int .u64 t393, .int .u64 t394, .int .u64 t395, .int .u64 t396, .int .u64 t397, .int .u64 t398] 27 (0, 0)) (by (with_reducible repeat (first | refine blk_drewN ?_ _ | refine blk_drew ?_ | refine blk_alloc ?_ _)); exact BK399.out)) : gb399 ≠ gb432)); have n7_ := Aside0.mk ((by rw [hg]; exact Nat.ne_of_gt (blk_lt (g := gb399) (o := .cells #[.int .i64 t392, .int .u64 t393, .int .u64 t394, .int .u64 t395, .int .u64 t396, .int .u64 t397, .int .u64 t398] 27 (0, 0)) (by (with_reducible repeat (first | refine blk_drewN ?_ _ | refine blk_drew ?_ | refine blk_alloc ?_ _)); exact BK399.out)) : gb432 ≠ gb399)); have n8_ := Aside0.mk ((by rw [hg]; exact Nat.ne_of_lt (blk_lt (g := gb428) (o := .cells #[.int .u64 t425, .int .u64 t426] 25 (0, 0)) (by (with_reducible repeat (first | refine blk_drewN ?_ _ | refine blk_drew ?_ | refine blk_alloc ?_ _)); exact BK428.out)) : gb428 ≠ gb432)); have n9_ := Aside0.mk ((by rw [hg]; exact Nat.ne_of_gt (blk_lt (g := gb428) (o := .cells #[.int .u64 t425, .int .u64 t426] 25 (0, 0)) (by (with_reducible repeat (first | refine blk_drewN ?_ _ | refine blk_drew ?_ | refine blk_alloc ?_ _)); exact BK428.out)) : gb432 ≠ gb428)); clear BK399; clear BK428; clear HB; have BK399 := n0_; have BK428 := n1_; have HB := n2_; have BK432 := n3_; have GW432 := n4_; have GE432 := n5_; have NB399_432 := n6_; have NB432_399 := n7_; have NB428_432 := n8_; have NB432_428 := n9_; clear n0_ n1_ n2_ n3_ n4_ n5_ n6_ n7_ n8_ n9_; clear hb hbox hg; have hnb92 := NB432_399.out; have hnc92 := NB399_432.out; have hnb93 := NB432_428.out; have hnc93 := NB428_432.out; have hcz94_0 : w91.cell? ⟨gb432, 0, none⟩ = some (.int .u64 0) := (blk_cell BK432.out 0).trans rfl; have hcz94_1 : w91.cell? ⟨gb432, 1, none⟩ = some (.int .u64 0) := (blk_cell BK432.out 1).trans rfl; have hfz94_0 := blk_frozen BK432.out 0; have hfz94_1 := blk_frozen BK432.out 1; have hcz95_0 : w91.cell? ⟨gb428, 0, none⟩ = some (.int .u64 t425) := (blk_cell BK428.out 0).trans rfl; have hcz95_1 : w91.cell? ⟨gb428, 1, none⟩ = some (.int .u64 t426) := (blk_cell BK428.out 1).trans rfl; have hfz95_0 := blk_frozen BK428.out 0; have hfz95_1 := blk_frozen BK428.out 1))
                      go_ret
                      exact ⟨by first | rfl | (simp [errW_none, errW_some] <;> rfl) | (simp [*, errW_none, errW_some] <;> rfl), by repeat (first | (with_reducible first | exact HB.out | apply below_alloc | apply pw_below_drewN | apply below_drew1 | refine below_set ?_ GE399.out | refine below_set ?_ GE428.out | refine below_set ?_ GE432.out) | exact HB.out)⟩
                    · rw [if_neg c83] at H
                      have c83b0 : (t425 == t429 && (t426 == t430)) = false := by simpa using c83
                      (try (have c83b1 : decide (t425 = t429 && (t426 == t430)) = false := by simpa using c83))
                      (try (have c83b2 : (t425 == t429 && (t426 == t430)) = false := by simpa using c83))
                      (try (have c83b3 : ¬ (t425 = t429 && (t426 == t430)) := by simpa using c83))
                      clear c83
                      exact absurd hr_.out (by rw [← Option.some.inj H]; decide)
  · replace c6 := Bool.eq_false_iff.mpr c6
    subst c6
    have H1 : (some false) = some r := by rw [if_neg (show ¬ (false = true) by decide)] at H; exact H
    clear H
    have H := H1
    clear H1
    exact absurd hr_.out (by rw [← Option.some.inj H]; decide)
/-- THE ONE PURE STATEMENT of roundhouselaw5_CookieRings: yours. -/
def roundhouselaw5_CookieRings.Pure : Prop := ∀ (a0 : Int) (l1 : List Int) (a2 : Int) (a3 : Int), (Lit.int .i64 a0).wf = true → l1.length ≤ maxLen → l1.length * 8 ≤ 140737488351232 → (∀ x ∈ l1, (Lit.int .i64 x).wf = true) → (Lit.int .i64 a2).wf = true → (Lit.int .i64 a3).wf = true → ∃ k, roundhouselaw5_CookieRings.f k a0 l1 a2 a3 = some true
theorem roundhouselaw5_CookieRings.walk (P : roundhouselaw5_CookieRings.Pure) (a0 : Int) (a1 : Option Addr) (len1 cap1 : Nat) (z1 : List Int) (a2 : Int) (a3 : Int) (w : World) (w0 : (Lit.int .i64 a0).wf = true) (w1 : (a1 = none ∧ len1 = 0 ∧ cap1 = 0 ∧ z1 = []) ∨ ∃ x, a1 = some x ∧ len1 ≤ cap1 ∧ cap1 ≤ maxLen ∧ z1.length = cap1 ∧ (∀ i, i < z1.length → w.cell? (x.add i) = some (.int .i64 (z1.getD i 0))) ∧ ∀ n ∈ z1, (Lit.int .i64 n).wf = true) (y1 : len1 * 8 ≤ 140737488351232) (w2 : (Lit.int .i64 a2).wf = true) (w3 : (Lit.int .i64 a3).wf = true) :
    Calls Try.prog 6 #[.int .i64 a0, .slice a1 len1 cap1, .int .i64 a2, .int .i64 a3] w fun e w' => e = .returned (.bool true) ∧ Below w.heap.size w w' := by
  obtain ⟨l1, rfl, hr1, hm1, hw1, hc1⟩ := ReadsInt.ofRowC w1
  obtain ⟨k, h⟩ := P a0 l1 a2 a3 w0 hm1 y1 hw1 w2 w3
  refine (roundhouselaw5_CookieRings.calls k a0 _ _ l1 a2 a3 true w (Kd.C_of_reads (d := (0 : Int)) (h1 := fun _ => rfl) hr1) hc1 h ⟨rfl⟩).mono ?_
  rintro e w' ⟨rfl, hd⟩
  exact ⟨rfl, hd⟩

end Go.Proofs.Ytnaplobnkmdfbaa.Q
