/- By a program of this session (wip/tools/myprint.py), out of the translation: for each Go function a plain Lean function, and that the call comes to what that function says; a law's row out of its plain statement. Lean checks it. -/
import Derived.Test.YtnaplobnkmdfbaaCookG
import Derived.Test.YtnaplobnkmdfbaaCookS
import Derived.Test.YtnaplobnkmdfbaaQ0
import Derived.Test.YtnaplobnkmdfbaaQ18
import Derived.Test.YtnaplobnkmdfbaaQ26
import Derived.Test.YtnaplobnkmdfbaaQ31
import Derived.Test.YtnaplobnkmdfbaaQ54
namespace Go.Proofs.Ytnaplobnkmdfbaa.Q
open Go.RowKit Go.Proofs.YtnaplobnkmdfbaaW.PrintWords Go.Proofs.YtnaplobnkmdfbaaW.PrintLast Go.Proofs.YtnaplobnkmdfbaaW.PrintMore
attribute [local go_sem] max2_int min2_int max_two min_two max_three min_three max_four min_four   -- for this text's walks alone
set_option linter.unusedVariables false
set_option linter.unusedSimpArgs false

open Go.Proofs.Ytnaplobnkmdfbaa.Own Go.Proofs.Ytnaplobnkmdfbaa.Pure
/-! ### roundhouselaw5_CookieAll: function 10 -/
mutual
def roundhouselaw5_CookieAll.j0 : Nat → Bool → Int → Int → Int → Int → Int → Int → Int → Int → Int → Option (Bool)
  | 0, _, _, _, _, _, _, _, _, _, _ => none
  | k + 1, x2, x3, x4, x208000, x208001, x208002, x208003, x208004, x208005, x208006 => roundhouselaw5_CookieAll.l0 k x2 x3 x4 0 x208000 x208001 x208002 x208003 x208004 x208005 x208006
def roundhouselaw5_CookieAll.l0 : Nat → Bool → Int → Int → Int → Int → Int → Int → Int → Int → Int → Int → Option (Bool)
  | 0, _, _, _, _, _, _, _, _, _, _, _ => none
  | k + 1, x2, x3, x4, x14, x208000, x208001, x208002, x208003, x208004, x208005, x208006 => if x14 < 64 then ((roundhouselaw5_kind.f x2).bind fun t209 => ((roundhouselaw5_Flow.f x3 x4).bind fun bt210 => ((cookie_Make.f k x208000 x208001 x208002 x208003 x208004 x208005 x208006 t209 bt210.1 bt210.2.1 bt210.2.2.1 bt210.2.2.2 x14).bind fun t214 => (if t214 < 0 then (some false) else (roundhouselaw5_CookieAll.l0 k x2 x3 x4 (wrap64 (x14 + 1)) x208000 x208001 x208002 x208003 x208004 x208005 x208006))))) else (some true)
end
def roundhouselaw5_CookieAll.f (k : Nat) (a0 : Int) (a1 : Int) (a2 : Bool) (a3 : Int) (a4 : Int) : Option (Bool) := (roundhouselaw5_known.f k).bind fun t199 => (if t199 = true then ((roundhouselaw5_Ring.f k a0 a1).bind fun bt200 => (if a2 = true then (roundhouselaw5_CookieAll.j0 k a2 a3 a4 bt200.1 bt200.2.1 bt200.2.2.1 bt200.2.2.2.1 bt200.2.2.2.2.1 bt200.2.2.2.2.2.1 bt200.2.2.2.2.2.2) else (roundhouselaw5_CookieAll.j0 k a2 a3 a4 bt200.1 bt200.2.1 bt200.2.2.1 bt200.2.2.2.1 bt200.2.2.2.2.1 bt200.2.2.2.2.2.1 bt200.2.2.2.2.2.2))) else (some false))
theorem roundhouselaw5_CookieAll.mono_l : ∀ k, (∀ y0 y1 y2 y3 y4 y5 y6 y7 y8 y9, LeO (roundhouselaw5_CookieAll.j0 k y0 y1 y2 y3 y4 y5 y6 y7 y8 y9) (roundhouselaw5_CookieAll.j0 (k + 1) y0 y1 y2 y3 y4 y5 y6 y7 y8 y9)) ∧ (∀ y0 y1 y2 y3 y4 y5 y6 y7 y8 y9 y10, LeO (roundhouselaw5_CookieAll.l0 k y0 y1 y2 y3 y4 y5 y6 y7 y8 y9 y10) (roundhouselaw5_CookieAll.l0 (k + 1) y0 y1 y2 y3 y4 y5 y6 y7 y8 y9 y10))
  | 0 => ⟨fun _ _ _ _ _ _ _ _ _ _ r h => by simp [roundhouselaw5_CookieAll.j0] at h, fun _ _ _ _ _ _ _ _ _ _ _ r h => by simp [roundhouselaw5_CookieAll.l0] at h⟩
  | k + 1 => by
    obtain ⟨ih0, ih1⟩ := roundhouselaw5_CookieAll.mono_l k
    refine ⟨?_, ?_⟩
    · intro y0 y1 y2 y3 y4 y5 y6 y7 y8 y9
      unfold roundhouselaw5_CookieAll.j0
      repeat' first
      | (with_reducible exact ih0 _ _ _ _ _ _ _ _ _ _)
      | (with_reducible exact ih1 _ _ _ _ _ _ _ _ _ _ _)
      | (with_reducible exact cookie_Make.mono _ _ _ _ _ _ _ _ _ _ _ _ _ _)
      | (with_reducible exact roundhouselaw5_Ring.mono _ _ _)
      | (with_reducible exact roundhouselaw5_known.mono _)
      | (with_reducible exact LeO.refl _)
      | (with_reducible exact LeO.none _)
      | (with_reducible refine LeO.ite ?_ ?_)
      | (with_reducible refine LeO.bind ?_ (fun _ => ?_))
      | exact ih0 _ _ _ _ _ _ _ _ _ _
      | exact ih1 _ _ _ _ _ _ _ _ _ _ _
      | exact cookie_Make.mono _ _ _ _ _ _ _ _ _ _ _ _ _ _
      | exact roundhouselaw5_Ring.mono _ _ _
      | exact roundhouselaw5_known.mono _
      | exact LeO.none _
      | refine LeO.ite ?_ ?_
      | refine LeO.bind ?_ (fun _ => ?_)
    · intro y0 y1 y2 y3 y4 y5 y6 y7 y8 y9 y10
      unfold roundhouselaw5_CookieAll.l0
      repeat' first
      | (with_reducible exact ih0 _ _ _ _ _ _ _ _ _ _)
      | (with_reducible exact ih1 _ _ _ _ _ _ _ _ _ _ _)
      | (with_reducible exact cookie_Make.mono _ _ _ _ _ _ _ _ _ _ _ _ _ _)
      | (with_reducible exact roundhouselaw5_Ring.mono _ _ _)
      | (with_reducible exact roundhouselaw5_known.mono _)
      | (with_reducible exact LeO.refl _)
      | (with_reducible exact LeO.none _)
      | (with_reducible refine LeO.ite ?_ ?_)
      | (with_reducible refine LeO.bind ?_ (fun _ => ?_))
      | exact ih0 _ _ _ _ _ _ _ _ _ _
      | exact ih1 _ _ _ _ _ _ _ _ _ _ _
      | exact cookie_Make.mono _ _ _ _ _ _ _ _ _ _ _ _ _ _
      | exact roundhouselaw5_Ring.mono _ _ _
      | exact roundhouselaw5_known.mono _
      | exact LeO.none _
      | refine LeO.ite ?_ ?_
      | refine LeO.bind ?_ (fun _ => ?_)
theorem roundhouselaw5_CookieAll.mono : ∀ a0 a1 a2 a3 a4 k, LeO (roundhouselaw5_CookieAll.f k a0 a1 a2 a3 a4) (roundhouselaw5_CookieAll.f (k + 1) a0 a1 a2 a3 a4) := by
  intro a0 a1 a2 a3 a4 k
  obtain ⟨ih0, ih1⟩ := roundhouselaw5_CookieAll.mono_l k
  unfold roundhouselaw5_CookieAll.f
  repeat' first
      | (with_reducible exact ih0 _ _ _ _ _ _ _ _ _ _)
      | (with_reducible exact ih1 _ _ _ _ _ _ _ _ _ _ _)
      | (with_reducible exact cookie_Make.mono _ _ _ _ _ _ _ _ _ _ _ _ _ _)
      | (with_reducible exact roundhouselaw5_Ring.mono _ _ _)
      | (with_reducible exact roundhouselaw5_known.mono _)
      | (with_reducible exact LeO.refl _)
      | (with_reducible exact LeO.none _)
      | (with_reducible refine LeO.ite ?_ ?_)
      | (with_reducible refine LeO.bind ?_ (fun _ => ?_))
      | exact ih0 _ _ _ _ _ _ _ _ _ _
      | exact ih1 _ _ _ _ _ _ _ _ _ _ _
      | exact cookie_Make.mono _ _ _ _ _ _ _ _ _ _ _ _ _ _
      | exact roundhouselaw5_Ring.mono _ _ _
      | exact roundhouselaw5_known.mono _
      | exact LeO.none _
      | refine LeO.ite ?_ ?_
      | refine LeO.bind ?_ (fun _ => ?_)
/-- Which middles are seen after x slots: the array's cells. -/
def seenCells (V x : Int) : Array Value := ((List.range 64).map fun (j : Nat) => Value.bool (decide (xr j V < x))).toArray
theorem seen_size (V x : Int) : (seenCells V x).size = 64 := by simp [seenCells]
theorem seen_get (V x : Int) (j : Nat) (h : j < 64) : (seenCells V x)[j]? = some (.bool (decide (xr j V < x))) := by simp [seenCells, h]
theorem xr_nonneg (a b : Int) : 0 ≤ xr a b := Int.natCast_nonneg _
theorem seen_zero (V : Int) : seenCells V 0 = #[.bool false, .bool false, .bool false, .bool false, .bool false, .bool false, .bool false, .bool false, .bool false, .bool false, .bool false, .bool false, .bool false, .bool false, .bool false, .bool false, .bool false, .bool false, .bool false, .bool false, .bool false, .bool false, .bool false, .bool false, .bool false, .bool false, .bool false, .bool false, .bool false, .bool false, .bool false, .bool false, .bool false, .bool false, .bool false, .bool false, .bool false, .bool false, .bool false, .bool false, .bool false, .bool false, .bool false, .bool false, .bool false, .bool false, .bool false, .bool false, .bool false, .bool false, .bool false, .bool false, .bool false, .bool false, .bool false, .bool false, .bool false, .bool false, .bool false, .bool false, .bool false, .bool false, .bool false, .bool false] := by
  have h : ∀ j : Nat, decide (xr j V < 0) = false := fun j => decide_eq_false (by have := xr_nonneg j V; omega)
  simp only [seenCells, h]
  rfl
theorem seen_set (V x : Int) (m : Nat) (hm : m < 64) (hV : 0 ≤ V ∧ V < 64) (hx : xr m V = x) : (seenCells V x).setIfInBounds m (.bool true) = seenCells V (x + 1) := by
  apply Array.ext
  · simp [seenCells]
  · intro j h1 h2
    have hj : j < 64 := by simpa [seenCells] using h2
    rw [Array.getElem_setIfInBounds (by simpa [seenCells] using hj)]
    by_cases e : m = j
    · subst e
      rw [if_pos rfl]
      simp only [seenCells, List.getElem_toArray, List.getElem_map, List.getElem_range]
      rw [hx, decide_eq_true (by omega)]
    · rw [if_neg e]
      simp only [seenCells, List.getElem_toArray, List.getElem_map, List.getElem_range]
      have hne : xr j V ≠ x := fun h => e (by have := xr_inj m j V (by omega) (by omega) (hx.trans h.symm); omega)
      congr 1
      exact decide_eq_decide.2 (by omega)
theorem made_mid (k : Nat) (q pa pb ca cb na nb kind f0 f1 f2 f3 x t : Int) (hk : kind = 1 ∨ kind = 2) (hx : 0 ≤ x ∧ x < 64) (h : cookie_Make.f k q pa pb ca cb na nb kind f0 f1 f2 f3 x = some t) : 0 ≤ t ∧ t < 1048576 ∧ t / p2 kind % 64 = xr x (sumN ca cb kind f0 f1 f2 f3 64 (q % 4) % 64) := by
  have h1 := cookie_Make.mono q pa pb ca cb na nb kind f0 f1 f2 f3 x k t h
  rw [make_f k q pa pb ca cb na nb kind f0 f1 f2 f3 x hk hx] at h1
  obtain rfl := Option.some.inj h1
  obtain ⟨p1, p2', _, p4, _⟩ := cook_parts ca cb kind f0 f1 f2 f3 x (q % 4) (by omega) hx
  have : p2 kind = 256 ∨ p2 kind = 4096 := by unfold p2; split <;> simp
  exact ⟨p1, by omega, p4⟩
def roundhouselaw5_CookieAll.T11 : Bool × List (List Nat × List Nat) := (true, [([], []), ([], []), ([1], [1]), ([], []), ([], []), ([3, 4, 2], [3, 4]), ([], []), ([0, 2, 5, 6, 5], [0, 2, 5, 6]), ([7, 7, 0, 1, 2, 3, 4, 5, 6, 7], [7])])
def roundhouselaw5_CookieAll.B11 : List Nat := [0, 0, 2, 0, 0, 30, 0, 127, 255]
theorem roundhouselaw5_CookieAll.tab11 : rtab .any (opsOf Try.f10 11) = roundhouselaw5_CookieAll.T11 := by kernel_rfl
theorem roundhouselaw5_CookieAll.bits11 : waitsOk roundhouselaw5_CookieAll.T11.2 roundhouselaw5_CookieAll.B11 = true := by kernel_rfl
set_option maxHeartbeats 8000000 in
set_option maxRecDepth 100000 in
theorem roundhouselaw5_CookieAll.calls (k : Nat) (a0 : Int) (a1 : Int) (a2 : Bool) (a3 : Int) (a4 : Int) (r : Bool) (w : World) (h : roundhouselaw5_CookieAll.f k a0 a1 a2 a3 a4 = some r) (hr_ : Aside0 (r = true)) :
    Calls Try.prog 10 #[.int .i64 a0, .int .i64 a1, .bool a2, .int .i64 a3, .int .i64 a4] w fun e w' => e = .returned (.bool r) ∧ Below w.heap.size w w' := by
  have hu27 := Try.underlying27
  obtain ⟨f0_, f1_, f2_, f3_, hfl_⟩ := flow_ex a3 a4
  have HFL := Aside0.mk hfl_
  clear hfl_
  have HB := Aside0.mk (Below.refl w.heap.size w)
  have H : ((roundhouselaw5_known.f k).bind fun t199 => (if t199 = true then ((roundhouselaw5_Ring.f k a0 a1).bind fun bt200 => (if a2 = true then (roundhouselaw5_CookieAll.j0 k a2 a3 a4 bt200.1 bt200.2.1 bt200.2.2.1 bt200.2.2.2.1 bt200.2.2.2.2.1 bt200.2.2.2.2.2.1 bt200.2.2.2.2.2.2) else (roundhouselaw5_CookieAll.j0 k a2 a3 a4 bt200.1 bt200.2.1 bt200.2.2.1 bt200.2.2.2.1 bt200.2.2.2.2.1 bt200.2.2.2.2.2.1 bt200.2.2.2.2.2.2))) else (some false))) = some r := h
  clear h
  replace H := Option.bind_eq_some_iff.mp H
  obtain ⟨t199, A60, H⟩ := H
  replace H : (if t199 = true then ((roundhouselaw5_Ring.f k a0 a1).bind fun bt200 => (if a2 = true then (roundhouselaw5_CookieAll.j0 k a2 a3 a4 bt200.1 bt200.2.1 bt200.2.2.1 bt200.2.2.2.1 bt200.2.2.2.2.1 bt200.2.2.2.2.2.1 bt200.2.2.2.2.2.2) else (roundhouselaw5_CookieAll.j0 k a2 a3 a4 bt200.1 bt200.2.1 bt200.2.2.1 bt200.2.2.2.1 bt200.2.2.2.2.1 bt200.2.2.2.2.2.1 bt200.2.2.2.2.2.2))) else (some false)) = some r := H
  have A6 := Aside0.mk A60
  clear A60
  by_cases c7 : t199 = true
  · subst c7
    have H1 : ((roundhouselaw5_Ring.f k a0 a1).bind fun bt200 => (if a2 = true then (roundhouselaw5_CookieAll.j0 k a2 a3 a4 bt200.1 bt200.2.1 bt200.2.2.1 bt200.2.2.2.1 bt200.2.2.2.2.1 bt200.2.2.2.2.2.1 bt200.2.2.2.2.2.2) else (roundhouselaw5_CookieAll.j0 k a2 a3 a4 bt200.1 bt200.2.1 bt200.2.2.1 bt200.2.2.2.1 bt200.2.2.2.2.1 bt200.2.2.2.2.2.1 bt200.2.2.2.2.2.2))) = some r := by rw [if_pos rfl] at H; exact H
    clear H
    have H := H1
    clear H1
    replace H := Option.bind_eq_some_iff.mp H
    obtain ⟨⟨t200, t201, t202, t203, t204, t205, t206⟩, A80, H⟩ := H
    replace H : (if a2 = true then (roundhouselaw5_CookieAll.j0 k a2 a3 a4 t200 t201 t202 t203 t204 t205 t206) else (roundhouselaw5_CookieAll.j0 k a2 a3 a4 t200 t201 t202 t203 t204 t205 t206)) = some r := H
    have A8 := Aside0.mk A80
    clear A80
    have HC9 := Aside0.mk H
    clear H
    go_enter Try.func10, Try.ntmps10
    go_upto_if 21 with (first | ((with_reducible refine gate_callee (f := 16) rfl ?_); refine goesL_ (some 16) rfl rfl Try.func16 (by kernel_rfl) rfl #[] rfl (by (try simp only [List.map_toArray, List.map_cons, List.map_nil]); first | done | rfl | (simp only [List.length_drop, List.length_take]; rfl)) ?_; (with_reducible refine (roundhouselaw5_known.calls k  true _ A6.out).mono ?_); rintro e w10 ⟨rfl, hb⟩; refine ⟨_, rfl, ?_⟩; have n0_ := Aside0.mk (below_step (by repeat (first | (with_reducible first | exact HB.out | apply below_alloc | apply pw_below_drewN | apply below_drew1) | exact HB.out)) hb); clear HB; have HB := n0_; clear n0_; (try clear hb); (try clear hb2); (try clear hk); (try clear hi)) | ((with_reducible refine gate_callee (f := 17) rfl ?_); refine goesL_ (some 20) rfl rfl Try.func17 (by kernel_rfl) rfl #[.int .i64 a0, .int .i64 a1] rfl (by (try simp only [List.map_toArray, List.map_cons, List.map_nil]); first | done | rfl | (simp only [List.length_drop, List.length_take]; rfl)) ?_; (with_reducible refine (roundhouselaw5_Ring.calls k a0 a1 t200 t201 t202 t203 t204 t205 t206 _ A8.out).mono ?_); rintro e w11 ⟨rfl, hb⟩; refine ⟨_, rfl, ?_⟩; have n0_ := Aside0.mk (below_step (by repeat (first | (with_reducible first | exact HB.out | apply below_alloc | apply pw_below_drewN | apply below_drew1) | exact HB.out)) hb); clear HB; have HB := n0_; clear n0_; (try clear hb); (try clear hb2); (try clear hk); (try clear hi)) | ((with_reducible refine gate_dst (N := 11) rfl ?_); refine box_event ?hg (N := 11) ?hd (cs := #[.int .i64 0, .int .u64 0, .int .u64 0, .int .u64 0, .int .u64 0, .int .u64 0, .int .u64 0]) (t := 27) ?hr ?_; (case hd => rfl); (case hg => rfl); (case hr => first | (go_simp; done) | (go_simp; rfl)); intro gb207 hg w12 hbox hb; have n0_ := Aside0.mk (below_step (by repeat (first | (with_reducible first | exact HB.out | apply below_alloc | apply pw_below_drewN | apply below_drew1) | exact HB.out)) hb); have n1_ := Aside0.mk (hbox); have n2_ := Aside0.mk ((by rw [hg]; exact (below_size (by repeat (first | (with_reducible first | exact HB.out | apply below_alloc | apply pw_below_drewN | apply below_drew1) | exact HB.out))) : w.heap.size ≤ gb207)); have n3_ := Aside0.mk ((by rw [hg]; exact (below_size (by repeat (first | (with_reducible first | exact HB.out | apply below_alloc | apply pw_below_drewN | apply below_drew1) | exact HB.out))) : w.heap.size ≤ gb207)); clear HB; have HB := n0_; have BK207 := n1_; have GW207 := n2_; have GE207 := n3_; clear n0_ n1_ n2_ n3_; clear hb hbox hg; have hcz13_0 : w12.cell? ⟨gb207, 0, none⟩ = some (.int .i64 0) := (blk_cell BK207.out 0).trans rfl; have hcz13_1 : w12.cell? ⟨gb207, 1, none⟩ = some (.int .u64 0) := (blk_cell BK207.out 1).trans rfl; have hcz13_2 : w12.cell? ⟨gb207, 2, none⟩ = some (.int .u64 0) := (blk_cell BK207.out 2).trans rfl; have hcz13_3 : w12.cell? ⟨gb207, 3, none⟩ = some (.int .u64 0) := (blk_cell BK207.out 3).trans rfl; have hcz13_4 : w12.cell? ⟨gb207, 4, none⟩ = some (.int .u64 0) := (blk_cell BK207.out 4).trans rfl; have hcz13_5 : w12.cell? ⟨gb207, 5, none⟩ = some (.int .u64 0) := (blk_cell BK207.out 5).trans rfl; have hcz13_6 : w12.cell? ⟨gb207, 6, none⟩ = some (.int .u64 0) := (blk_cell BK207.out 6).trans rfl; have hfz13_0 := blk_frozen BK207.out 0; have hfz13_1 := blk_frozen BK207.out 1; have hfz13_2 := blk_frozen BK207.out 2; have hfz13_3 := blk_frozen BK207.out 3; have hfz13_4 := blk_frozen BK207.out 4; have hfz13_5 := blk_frozen BK207.out 5; have hfz13_6 := blk_frozen BK207.out 6))
    (try simp only [Act.put, List.setIfInBounds_toArray, List.set_cons_zero, List.set_cons_succ])
    go_cut [12] (fun v12 wc => ∃ (kq : Nat) (tb kd : Int), v12 = .int .u64 tb ∧ Aside0 (kd = 1 ∧ tb = 12 ∨ kd = 2 ∧ tb = 8) ∧ Aside0 (roundhouselaw5_kind.f a2 = some kd) ∧ Aside0 (roundhouselaw5_CookieAll.j0 kq a2 a3 a4 t200 t201 t202 t203 t204 t205 t206 = some r) ∧ Aside0 (kq ≤ k) ∧ Aside0 (wc.heap[gb207]? = some (.cells #[.int .i64 t200, .int .u64 t201, .int .u64 t202, .int .u64 t203, .int .u64 t204, .int .u64 t205, .int .u64 t206] 27 (0, 0))) ∧ Aside0 (Below w.heap.size w wc))
    case first =>
      have H := HC9.out
      clear HC9
      by_cases c14 : a2 = true
      · subst c14
        have H1 : (roundhouselaw5_CookieAll.j0 k true a3 a4 t200 t201 t202 t203 t204 t205 t206) = some r := by rw [if_pos rfl] at H; exact H
        clear H
        have H := H1
        clear H1
        have H' := Aside0.mk H
        clear H
        go_wp2
        go_meet
        case rel => exact ⟨_, 12, 1, rfl, ⟨.inl ⟨rfl, rfl⟩⟩, ⟨rfl⟩, H', ⟨by first | omega | exact Nat.le_refl _⟩, ⟨by (with_reducible repeat (first | refine blk_drewN ?_ _ | refine blk_drew ?_ | refine blk_alloc ?_ _)); refine blk_put (cs := #[.int .i64 t200, .int .u64 t201, .int .u64 t202, .int .u64 t203, .int .u64 t204, .int .u64 t205, .int .u64 0]) ?_ 6 _ rfl; (with_reducible repeat (first | refine blk_drewN ?_ _ | refine blk_drew ?_ | refine blk_alloc ?_ _)); refine blk_put (cs := #[.int .i64 t200, .int .u64 t201, .int .u64 t202, .int .u64 t203, .int .u64 t204, .int .u64 0, .int .u64 0]) ?_ 5 _ rfl; (with_reducible repeat (first | refine blk_drewN ?_ _ | refine blk_drew ?_ | refine blk_alloc ?_ _)); refine blk_put (cs := #[.int .i64 t200, .int .u64 t201, .int .u64 t202, .int .u64 t203, .int .u64 0, .int .u64 0, .int .u64 0]) ?_ 4 _ rfl; (with_reducible repeat (first | refine blk_drewN ?_ _ | refine blk_drew ?_ | refine blk_alloc ?_ _)); refine blk_put (cs := #[.int .i64 t200, .int .u64 t201, .int .u64 t202, .int .u64 0, .int .u64 0, .int .u64 0, .int .u64 0]) ?_ 3 _ rfl; (with_reducible repeat (first | refine blk_drewN ?_ _ | refine blk_drew ?_ | refine blk_alloc ?_ _)); refine blk_put (cs := #[.int .i64 t200, .int .u64 t201, .int .u64 0, .int .u64 0, .int .u64 0, .int .u64 0, .int .u64 0]) ?_ 2 _ rfl; (with_reducible repeat (first | refine blk_drewN ?_ _ | refine blk_drew ?_ | refine blk_alloc ?_ _)); refine blk_put (cs := #[.int .i64 t200, .int .u64 0, .int .u64 0, .int .u64 0, .int .u64 0, .int .u64 0, .int .u64 0]) ?_ 1 _ rfl; (with_reducible repeat (first | refine blk_drewN ?_ _ | refine blk_drew ?_ | refine blk_alloc ?_ _)); refine blk_put (cs := #[.int .i64 0, .int .u64 0, .int .u64 0, .int .u64 0, .int .u64 0, .int .u64 0, .int .u64 0]) ?_ 0 _ rfl; (with_reducible repeat (first | refine blk_drewN ?_ _ | refine blk_drew ?_ | refine blk_alloc ?_ _)); exact BK207.out⟩, ⟨by repeat (first | (with_reducible first | exact HB.out | apply below_alloc | apply pw_below_drewN | apply below_drew1 | refine below_set ?_ GE207.out) | exact HB.out)⟩⟩
      · replace c14 := Bool.eq_false_iff.mpr c14
        subst c14
        have H1 : (roundhouselaw5_CookieAll.j0 k false a3 a4 t200 t201 t202 t203 t204 t205 t206) = some r := by rw [if_neg (show ¬ (false = true) by decide)] at H; exact H
        clear H
        have H := H1
        clear H1
        have H' := Aside0.mk H
        clear H
        go_wp2
        go_meet
        case rel => exact ⟨_, 8, 2, rfl, ⟨.inr ⟨rfl, rfl⟩⟩, ⟨rfl⟩, H', ⟨by first | omega | exact Nat.le_refl _⟩, ⟨by (with_reducible repeat (first | refine blk_drewN ?_ _ | refine blk_drew ?_ | refine blk_alloc ?_ _)); refine blk_put (cs := #[.int .i64 t200, .int .u64 t201, .int .u64 t202, .int .u64 t203, .int .u64 t204, .int .u64 t205, .int .u64 0]) ?_ 6 _ rfl; (with_reducible repeat (first | refine blk_drewN ?_ _ | refine blk_drew ?_ | refine blk_alloc ?_ _)); refine blk_put (cs := #[.int .i64 t200, .int .u64 t201, .int .u64 t202, .int .u64 t203, .int .u64 t204, .int .u64 0, .int .u64 0]) ?_ 5 _ rfl; (with_reducible repeat (first | refine blk_drewN ?_ _ | refine blk_drew ?_ | refine blk_alloc ?_ _)); refine blk_put (cs := #[.int .i64 t200, .int .u64 t201, .int .u64 t202, .int .u64 t203, .int .u64 0, .int .u64 0, .int .u64 0]) ?_ 4 _ rfl; (with_reducible repeat (first | refine blk_drewN ?_ _ | refine blk_drew ?_ | refine blk_alloc ?_ _)); refine blk_put (cs := #[.int .i64 t200, .int .u64 t201, .int .u64 t202, .int .u64 0, .int .u64 0, .int .u64 0, .int .u64 0]) ?_ 3 _ rfl; (with_reducible repeat (first | refine blk_drewN ?_ _ | refine blk_drew ?_ | refine blk_alloc ?_ _)); refine blk_put (cs := #[.int .i64 t200, .int .u64 t201, .int .u64 0, .int .u64 0, .int .u64 0, .int .u64 0, .int .u64 0]) ?_ 2 _ rfl; (with_reducible repeat (first | refine blk_drewN ?_ _ | refine blk_drew ?_ | refine blk_alloc ?_ _)); refine blk_put (cs := #[.int .i64 t200, .int .u64 0, .int .u64 0, .int .u64 0, .int .u64 0, .int .u64 0, .int .u64 0]) ?_ 1 _ rfl; (with_reducible repeat (first | refine blk_drewN ?_ _ | refine blk_drew ?_ | refine blk_alloc ?_ _)); refine blk_put (cs := #[.int .i64 0, .int .u64 0, .int .u64 0, .int .u64 0, .int .u64 0, .int .u64 0, .int .u64 0]) ?_ 0 _ rfl; (with_reducible repeat (first | refine blk_drewN ?_ _ | refine blk_drew ?_ | refine blk_alloc ?_ _)); exact BK207.out⟩, ⟨by repeat (first | (with_reducible first | exact HB.out | apply below_alloc | apply pw_below_drewN | apply below_drew1 | refine below_set ?_ GE207.out) | exact HB.out)⟩⟩
    case rest =>
      clear HC9
      try clear c1
      try clear p2
      try clear c7
      try clear c10
      try clear c14
      try clear hcz13_0
      try clear hcz13_1
      try clear hcz13_2
      try clear hcz13_3
      try clear hcz13_4
      try clear hcz13_5
      try clear hcz13_6
      try clear hfz13_0
      try clear hfz13_1
      try clear hfz13_2
      try clear hfz13_3
      try clear hfz13_4
      try clear hfz13_5
      try clear hfz13_6
      obtain ⟨kq, tb, kd, rfl, HT, HKD, HA, HJ8, BK207, HB⟩ := hcut
      obtain ⟨V, hV⟩ : ∃ V : Int, V = sumN t203 t204 kd f0_ f1_ f2_ f3_ 64 (t200 % 4) % 64 := ⟨_, rfl⟩
      have HV := Aside0.mk hV
      have HVB : Aside0 (0 ≤ V ∧ V < 64) := ⟨by rw [hV]; exact mod_in _ 64 (by decide)⟩
      clear hV
      have HKK : Aside0 (kd = 1 ∨ kd = 2) := ⟨HT.out.elim (fun h => .inl h.1) (fun h => .inr h.1)⟩
      have HZ := Aside0.mk (seen_zero V)
      rcases HT.out with ⟨hkd, rfl⟩ | ⟨hkd, rfl⟩
      all_goals
        have HKE := Aside0.mk hkd
        clear hkd HT
        cases kq with
        | zero => exact absurd HA.out (by simp [roundhouselaw5_CookieAll.j0])
        | succ kj8 =>
          have H := HA.out
          clear HA
          simp only [roundhouselaw5_CookieAll.j0] at H
          have H' := Aside0.mk H
          clear H
          go_wp2
          rw [← HZ.out]
          obtain ⟨gb208, hg⟩ : ∃ g, g = wc.heap.size := ⟨_, rfl⟩
          rw [← hg]
          have n0_ := Aside0.mk (blk_alloc BK207.out (.cells (seenCells V 0) 57))
          have n1_ := Aside0.mk (below_alloc HB.out (.cells (seenCells V 0) 57))
          have BK208 : Aside0 ((wc.alloc (.cells (seenCells V 0) 57)).heap[gb208]? = some (.cells (seenCells V 0) 57 (0, 0))) := ⟨by rw [hg]; exact heap_alloc_new _ _⟩
          have GE208 : Aside0 (w.heap.size ≤ gb208) := ⟨by rw [hg]; exact below_size HB.out⟩
          have NB207_208 : Aside0 (gb207 ≠ gb208) := ⟨by rw [hg]; exact Nat.ne_of_lt (blk_lt BK207.out)⟩
          clear BK207 HB hg
          have BK207 := n0_
          have HB := n1_
          clear n0_ n1_
          generalize wc.alloc (.cells (seenCells V 0) 57) = wz at BK207 BK208 HB ⊢
          go_loopg [14] kj8 (fun kq v14 w' => ∃ (x14_2 : Int), v14 = .int .i64 x14_2 ∧ Aside0 (roundhouselaw5_CookieAll.l0 kq a2 a3 a4 x14_2 t200 t201 t202 t203 t204 t205 t206 = some r) ∧ Aside0 (kq ≤ kj8) ∧ Aside0 (w'.heap[gb207]? = some (.cells #[.int .i64 t200, .int .u64 t201, .int .u64 t202, .int .u64 t203, .int .u64 t204, .int .u64 t205, .int .u64 t206] 27 (0, 0))) ∧ Aside0 (w'.heap[gb208]? = some (.cells (seenCells V x14_2) 57 (0, 0))) ∧ Aside0 (0 ≤ x14_2) ∧ Aside0 (Below w.heap.size w w'))
          case atStart => exact ⟨(0), (by first | rfl | (simp; done) | (simp [*]; done)), H', ⟨Nat.le_refl _⟩, ⟨by (with_reducible repeat (first | refine blk_drewN ?_ _ | refine blk_drew ?_ | refine blk_alloc ?_ _)); exact BK207.out⟩, ⟨by (with_reducible repeat (first | refine blk_drewN ?_ _ | refine blk_drew ?_ | refine blk_alloc ?_ _)); exact BK208.out⟩, ⟨by decide⟩, ⟨by repeat (first | (with_reducible first | exact HB.out | apply below_alloc | apply pw_below_drewN | apply below_drew1 | refine below_set ?_ GE207.out | refine below_set ?_ GE208.out) | exact HB.out)⟩⟩
          case round =>
            clear H'
            try clear c1
            try clear p2
            try clear c7
            try clear c10
            try clear c14
            try clear hcz13_0
            try clear hcz13_1
            try clear hcz13_2
            try clear hcz13_3
            try clear hcz13_4
            try clear hcz13_5
            try clear hcz13_6
            try clear hfz13_0
            try clear hfz13_1
            try clear hfz13_2
            try clear hfz13_3
            try clear hfz13_4
            try clear hfz13_5
            try clear hfz13_6
            try clear p2
            obtain ⟨x14_2, rfl, HA, HK2, BK207, BK208, HX0, HB⟩ := hrel
            cases gk with
            | zero => exact absurd HA.out (by simp [roundhouselaw5_CookieAll.l0])
            | succ k2 =>
              have H := HA.out
              clear HA
              simp only [roundhouselaw5_CookieAll.l0] at H
              by_cases c16 : x14_2 < 64
              · rw [if_pos c16] at H
                have HX1 := Aside0.mk c16
                have c16b0 : decide (x14_2 < 64) = true := decide_eq_true c16
                clear c16
                replace H := Option.bind_eq_some_iff.mp H
                obtain ⟨t209, A170, H⟩ := H
                replace H : ((roundhouselaw5_Flow.f a3 a4).bind fun bt210 => ((cookie_Make.f k2 t200 t201 t202 t203 t204 t205 t206 t209 bt210.1 bt210.2.1 bt210.2.2.1 bt210.2.2.2 x14_2).bind fun t214 => (if t214 < 0 then (some false) else (roundhouselaw5_CookieAll.l0 k2 a2 a3 a4 (wrap64 (x14_2 + 1)) t200 t201 t202 t203 t204 t205 t206)))) = some r := H
                have A17 := Aside0.mk A170
                clear A170
                replace H := Option.bind_eq_some_iff.mp H
                obtain ⟨⟨t210, t211, t212, t213⟩, A180, H⟩ := H
                replace H : ((cookie_Make.f k2 t200 t201 t202 t203 t204 t205 t206 t209 t210 t211 t212 t213 x14_2).bind fun t214 => (if t214 < 0 then (some false) else (roundhouselaw5_CookieAll.l0 k2 a2 a3 a4 (wrap64 (x14_2 + 1)) t200 t201 t202 t203 t204 t205 t206))) = some r := H
                have A18 := Aside0.mk A180
                clear A180
                replace H := Option.bind_eq_some_iff.mp H
                obtain ⟨t214, A190, H⟩ := H
                replace H : (if t214 < 0 then (some false) else (roundhouselaw5_CookieAll.l0 k2 a2 a3 a4 (wrap64 (x14_2 + 1)) t200 t201 t202 t203 t204 t205 t206)) = some r := H
                have A19 := Aside0.mk A190
                clear A190
                by_cases c20 : t214 < 0
                · rw [if_pos c20] at H
                  have c20b0 : decide (t214 < 0) = true := decide_eq_true c20
                  clear c20
                  exact absurd hr_.out (by rw [← Option.some.inj H]; decide)
                · rw [if_neg c20] at H
                  have c20b0 : decide (t214 < 0) = false := decide_eq_false c20
                  clear c20
                  have H' := Aside0.mk H
                  clear H
                  try go_wp2
                  have n0_ := Aside0.mk (blk_drew BK207.out)
                  have n1_ := Aside0.mk (blk_drew BK208.out)
                  have n2_ := Aside0.mk (below_drew1 HB.out)
                  clear BK207
                  clear BK208
                  clear HB
                  have BK207 := n0_
                  have BK208 := n1_
                  have HB := n2_
                  clear n0_ n1_ n2_
                  refine start_ (n := 9) (S := fun w' => w'.cell? ⟨gb207, 0, none⟩ = some (.int .i64 t200) ∧ w'.cell? ⟨gb207, 1, none⟩ = some (.int .u64 t201) ∧ w'.cell? ⟨gb207, 2, none⟩ = some (.int .u64 t202) ∧ w'.cell? ⟨gb207, 3, none⟩ = some (.int .u64 t203) ∧ w'.cell? ⟨gb207, 4, none⟩ = some (.int .u64 t204) ∧ w'.cell? ⟨gb207, 5, none⟩ = some (.int .u64 t205) ∧ w'.cell? ⟨gb207, 6, none⟩ = some (.int .u64 t206)) (ds := []) #[false, false, false, false, false, false, false, false, false] (by kernel_rfl) rfl rfl ⟨(blk_cell BK207.out 0).trans rfl, (blk_cell BK207.out 1).trans rfl, (blk_cell BK207.out 2).trans rfl, (blk_cell BK207.out 3).trans rfl, (blk_cell BK207.out 4).trans rfl, (blk_cell BK207.out 5).trans rfl, (blk_cell BK207.out 6).trans rfl⟩ (fun hHeld => ?_); refine with_tabW roundhouselaw5_CookieAll.tab11 roundhouselaw5_CookieAll.bits11 (fun HT_ HW_ => ?_)
                  generalize wr.drew = w24 at BK207 BK208 HB hHeld ⊢
                  refine pure_ (i := 1) (N := some 27) (v := ?_) (a' := ?_) #[false, true, false, false, false, false, false, false, false] rfl rfl (any_of HT_.out (by kernel_rfl)) (fun _ _ _ h => h) (Or.inl ⟨by rfl, ?_⟩) ?_ ?_
                  rotate_left
                  · intro w'
                    go_simp
                    with_reducible rfl
                  rotate_left
                  · simp only [Act.put, List.setIfInBounds_toArray, List.set_cons_zero, List.set_cons_succ, i64_w, i32_w]
                    rfl
                  refine pure_ (i := 3) (N := some 29) (v := ?_) (a' := ?_) #[false, true, false, true, false, false, false, false, false] rfl rfl (any_of HT_.out (by kernel_rfl)) (fun _ _ _ h => h) (Or.inl ⟨by rfl, ?_⟩) ?_ ?_
                  rotate_left
                  · intro w'
                    go_simp
                    with_reducible rfl
                  rotate_left
                  · simp only [Act.put, List.setIfInBounds_toArray, List.set_cons_zero, List.set_cons_succ, i64_w, i32_w]
                    rfl
                  refine pure_ (i := 4) (N := some 30) (v := ?_) (a' := ?_) #[false, true, false, true, true, false, false, false, false] rfl rfl (any_of HT_.out (by kernel_rfl)) (fun _ _ _ h => h) (Or.inl ⟨by rfl, ?_⟩) ?_ ?_
                  rotate_left
                  · intro w'
                    go_simp
                    with_reducible rfl
                  rotate_left
                  · simp only [Act.put, List.setIfInBounds_toArray, List.set_cons_zero, List.set_cons_succ, i64_w, i32_w]
                    rfl
                  refine pure_ (i := 6) (N := some 32) (v := ?_) (a' := ?_) #[false, true, false, true, true, false, true, false, false] rfl rfl (any_of HT_.out (by kernel_rfl)) (fun _ _ _ h => h) (Or.inl ⟨by rfl, ?_⟩) ?_ ?_
                  rotate_left
                  · intro w'
                    go_simp
                    with_reducible rfl
                  rotate_left
                  · simp only [Act.put, List.setIfInBounds_toArray, List.set_cons_zero, List.set_cons_succ, i64_w, i32_w]
                    rfl
                  refine take_ (i := 0) (N := some 26) (v := ?_) (a' := ?_) #[true, true, false, true, true, false, true, false, false] rfl rfl (take_ofW HT_.out HW_.out (by kernel_rfl)) (fun _ _ _ h => h) (Or.inl ⟨by rfl, ?_⟩) hHeld ?_ ?_
                  rotate_left
                  · rintro w' ⟨s0, s1, s2, s3, s4, s5, s6⟩
                    go_simp
                    with_reducible rfl
                  rotate_left
                  · simp only [Act.put, List.setIfInBounds_toArray, List.set_cons_zero, List.set_cons_succ, i64_w, i32_w]
                    rfl
                  refine one_ (i := 2) (N := some 28) #[true, true, true, true, true, false, true, false, false] rfl rfl (one_of HT_.out (by kernel_rfl)) (by decide) (fun K hK => ?_)
                  refine goes_ Try.func34 (by kernel_rfl) rfl #[.bool a2] (by rfl) rfl rfl (by (try simp only [List.map_toArray, List.map_cons, List.map_nil]); first | done | rfl | (simp only [List.length_drop, List.length_take]; rfl)) ?_
                  with_reducible refine (roundhouselaw5_kind.calls a2 t209 _ A17.out).mono ?_
                  rintro e w' ⟨rfl, ⟨nd, rfl⟩⟩
                  refine ⟨_, rfl, ?_⟩
                  refine hK.out _ _ ⟨(blk_cell BK207.out 0).trans rfl, (blk_cell BK207.out 1).trans rfl, (blk_cell BK207.out 2).trans rfl, (blk_cell BK207.out 3).trans rfl, (blk_cell BK207.out 4).trans rfl, (blk_cell BK207.out 5).trans rfl, (blk_cell BK207.out 6).trans rfl⟩ (fun hHeld => ?_)
                  clear hK K
                  refine norm_ (a' := ?_) ?_ ?_
                  rotate_left
                  · show Act.put _ (some 28) _ = _
                    simp only [Act.put, List.setIfInBounds_toArray, List.set_cons_zero, List.set_cons_succ, i64_w, i32_w]
                    rfl
                  refine one_ (i := 5) (N := some 31) #[true, true, true, true, true, true, true, false, false] rfl rfl (one_of HT_.out (by kernel_rfl)) (by decide) (fun K hK => ?_)
                  refine goes_ Try.func20 (by kernel_rfl) rfl #[.int .i64 a3, .int .i64 a4] (by rfl) rfl rfl (by (try simp only [List.map_toArray, List.map_cons, List.map_nil]); first | done | rfl | (simp only [List.length_drop, List.length_take]; rfl)) ?_
                  with_reducible refine (roundhouselaw5_Flow.calls a3 a4 t210 t211 t212 t213 _ A18.out).mono ?_
                  rintro e w25 ⟨rfl, hb⟩
                  refine ⟨_, rfl, ?_⟩
                  have n0_ := Aside0.mk (blk_below (g := gb207) (o := .cells #[.int .i64 t200, .int .u64 t201, .int .u64 t202, .int .u64 t203, .int .u64 t204, .int .u64 t205, .int .u64 t206] 27 (0, 0)) (by (with_reducible repeat (first | refine blk_drewN ?_ _ | refine blk_drew ?_ | refine blk_alloc ?_ _)); exact BK207.out) hb)
                  have n1_ := Aside0.mk (blk_below (g := gb208) (o := .cells (seenCells V x14_2) 57 (0, 0)) (by (with_reducible repeat (first | refine blk_drewN ?_ _ | refine blk_drew ?_ | refine blk_alloc ?_ _)); exact BK208.out) hb)
                  have n2_ := Aside0.mk (below_step (by repeat (first | (with_reducible first | exact HB.out | apply below_alloc | apply pw_below_drewN | apply below_drew1 | refine below_set ?_ GE207.out | refine below_set ?_ GE208.out) | exact HB.out)) hb)
                  clear BK207
                  clear BK208
                  clear HB
                  have BK207 := n0_
                  have BK208 := n1_
                  have HB := n2_
                  clear n0_ n1_ n2_
                  (try clear hb)
                  (try clear hb2)
                  (try clear hk)
                  (try clear hi)
                  refine hK.out _ _ ⟨(blk_cell BK207.out 0).trans rfl, (blk_cell BK207.out 1).trans rfl, (blk_cell BK207.out 2).trans rfl, (blk_cell BK207.out 3).trans rfl, (blk_cell BK207.out 4).trans rfl, (blk_cell BK207.out 5).trans rfl, (blk_cell BK207.out 6).trans rfl⟩ (fun hHeld => ?_)
                  clear hK K
                  refine norm_ (a' := ?_) ?_ ?_
                  rotate_left
                  · show Act.put _ (some 31) _ = _
                    simp only [Act.put, List.setIfInBounds_toArray, List.set_cons_zero, List.set_cons_succ, i64_w, i32_w]
                    rfl
                  refine one_ (i := 7) (N := some 33) #[true, true, true, true, true, true, true, true, false] rfl rfl (one_of HT_.out (by kernel_rfl)) (by decide) (fun K hK => ?_)
                  refine goes_ Try.func19 (by kernel_rfl) rfl #[.agg #[.int .i64 t200, .int .u64 t201, .int .u64 t202, .int .u64 t203, .int .u64 t204, .int .u64 t205, .int .u64 t206], .int .i64 t209, .agg #[.int .i64 t210, .int .i64 t211, .int .i64 t212, .int .i64 t213], .int .i64 x14_2] (by rfl) rfl rfl (by (try simp only [List.map_toArray, List.map_cons, List.map_nil]); first | done | rfl | (simp only [List.length_drop, List.length_take]; rfl)) ?_
                  with_reducible refine (cookie_Make.calls k2 t200 t201 t202 t203 t204 t205 t206 t209 t210 t211 t212 t213 x14_2 t214 _ A19.out).mono ?_
                  rintro e w26 ⟨rfl, hb⟩
                  refine ⟨_, rfl, ?_⟩
                  have n0_ := Aside0.mk (blk_below (g := gb207) (o := .cells #[.int .i64 t200, .int .u64 t201, .int .u64 t202, .int .u64 t203, .int .u64 t204, .int .u64 t205, .int .u64 t206] 27 (0, 0)) (by (with_reducible repeat (first | refine blk_drewN ?_ _ | refine blk_drew ?_ | refine blk_alloc ?_ _)); exact BK207.out) hb)
                  have n1_ := Aside0.mk (blk_below (g := gb208) (o := .cells (seenCells V x14_2) 57 (0, 0)) (by (with_reducible repeat (first | refine blk_drewN ?_ _ | refine blk_drew ?_ | refine blk_alloc ?_ _)); exact BK208.out) hb)
                  have n2_ := Aside0.mk (below_step (by repeat (first | (with_reducible first | exact HB.out | apply below_alloc | apply pw_below_drewN | apply below_drew1 | refine below_set ?_ GE207.out | refine below_set ?_ GE208.out) | exact HB.out)) hb)
                  clear BK207
                  clear BK208
                  clear HB
                  have BK207 := n0_
                  have BK208 := n1_
                  have HB := n2_
                  clear n0_ n1_ n2_
                  (try clear hb)
                  (try clear hb2)
                  (try clear hk)
                  (try clear hi)
                  refine hK.out _ _ ⟨(blk_cell BK207.out 0).trans rfl, (blk_cell BK207.out 1).trans rfl, (blk_cell BK207.out 2).trans rfl, (blk_cell BK207.out 3).trans rfl, (blk_cell BK207.out 4).trans rfl, (blk_cell BK207.out 5).trans rfl, (blk_cell BK207.out 6).trans rfl⟩ (fun hHeld => ?_)
                  clear hK K
                  refine norm_ (a' := ?_) ?_ ?_
                  rotate_left
                  · show Act.put _ (some 33) _ = _
                    simp only [Act.put, List.setIfInBounds_toArray, List.set_cons_zero, List.set_cons_succ, i64_w, i32_w]
                    rfl
                  refine pure_ (i := 8) (N := some 15) (v := ?_) (a' := ?_) #[true, true, true, true, true, true, true, true, true] rfl rfl (any_of HT_.out (by kernel_rfl)) (fun _ _ _ h => h) (Or.inl ⟨by rfl, ?_⟩) ?_ ?_
                  rotate_left
                  · intro w'
                    go_simp
                    with_reducible rfl
                  rotate_left
                  · simp only [Act.put, List.setIfInBounds_toArray, List.set_cons_zero, List.set_cons_succ, i64_w, i32_w]
                    rfl
                  refine done_ (done_of HT_.out (by kernel_rfl)) ?_
                  obtain rfl : kd = t209 := Option.some.inj (HKD.out.symm.trans A17.out)
                  have hq_ := Option.some.inj (HFL.out.symm.trans A18.out)
                  have hmm := made_mid k2 t200 t201 t202 t203 t204 t205 t206 kd t210 t211 t212 t213 x14_2 t214 HKK.out ⟨HX0.out, HX1.out⟩ A19.out
                  have hv_ : sumN t203 t204 kd t210 t211 t212 t213 64 (t200 % 4) % 64 = V := by
                    rw [HV.out]; injection hq_ with e0 e1; injection e1 with e1 e2; injection e2 with e2 e3; rw [e0, e1, e2, e3]
                  rw [hv_] at hmm
                  clear hq_ hv_
                  obtain ⟨hm0, hm1, hm2⟩ := hmm
                  rw [HKE.out] at hm2
                  have hxr := xr_lt x14_2 V HX0.out HX1.out HVB.out.1 HVB.out.2
                  obtain ⟨m, hm⟩ : ∃ m : Nat, xr x14_2 V = m := ⟨(xr x14_2 V).toNat, by omega⟩
                  rw [hm] at hm2 hxr
                  have HM : Aside0 (m < 64) := ⟨by omega⟩
                  have HXM : Aside0 (xr m V = x14_2) := ⟨by rw [← hm]; exact xr_back x14_2 V HX0.out⟩
                  have cm : w26.cell? ⟨gb208, m, none⟩ = some (.bool false) := (blk_cell BK208.out m).trans ((seen_get V x14_2 m HM.out).trans (by rw [HXM.out, decide_eq_false (by omega)]))
                  have fm := blk_frozen BK208.out m
                  have gm : m < 64 := HM.out
                  first | rw [show p2 1 = 4096 from rfl] at hm2 | rw [show p2 2 = 256 from rfl] at hm2
                  have hq12 := (and63 _).trans hm2
                  clear hm0 hm1 hm2 hxr hm
                  try go_wp2
                  go_roundg k2
                  case measure => have := HJ8.out; have := HK2.out; omega
                  case rel => exact ⟨(wrap64 (x14_2 + 1)), (by first | rfl | (simp; done) | (simp [*]; done)), H', ⟨by have := HJ8.out; have := HK2.out; omega⟩, ⟨blk_far BK207.out (p := ⟨gb208, m, none⟩) NB207_208.out _⟩, ⟨by rw [show wrap64 (x14_2 + 1) = x14_2 + 1 from by have := HX0.out; have := HX1.out; unfold wrap64; omega]; exact blk_put BK208.out m _ (seen_set V x14_2 m HM.out HVB.out HXM.out)⟩, ⟨by rw [show wrap64 (x14_2 + 1) = x14_2 + 1 from by have := HX0.out; have := HX1.out; unfold wrap64; omega]; have := HX0.out; omega⟩, ⟨below_set HB.out GE208.out⟩⟩
              · rw [if_neg c16] at H
                have c16b0 : decide (x14_2 < 64) = false := decide_eq_false c16
                clear c16
                obtain rfl := Option.some.inj H
                go_wp2
                go_ret
                exact ⟨by first | rfl | (simp [errW_none, errW_some] <;> rfl) | (simp [*, errW_none, errW_some] <;> rfl), by repeat (first | (with_reducible first | exact HB.out | apply below_alloc | apply pw_below_drewN | apply below_drew1 | refine below_set ?_ GE207.out | refine below_set ?_ GE208.out) | exact HB.out)⟩
  · replace c7 := Bool.eq_false_iff.mpr c7
    subst c7
    have H1 : (some false) = some r := by rw [if_neg (show ¬ (false = true) by decide)] at H; exact H
    clear H
    have H := H1
    clear H1
    exact absurd hr_.out (by rw [← Option.some.inj H]; decide)
/-- THE ONE PURE STATEMENT of roundhouselaw5_CookieAll: yours. -/
def roundhouselaw5_CookieAll.Pure : Prop := ∀ (a0 : Int) (a1 : Int) (a2 : Bool) (a3 : Int) (a4 : Int), (Lit.int .i64 a0).wf = true → (Lit.int .i64 a1).wf = true → (Lit.int .i64 a3).wf = true → (Lit.int .i64 a4).wf = true → ∃ k, roundhouselaw5_CookieAll.f k a0 a1 a2 a3 a4 = some true
theorem roundhouselaw5_CookieAll.walk (P : roundhouselaw5_CookieAll.Pure) (a0 : Int) (a1 : Int) (a2 : Bool) (a3 : Int) (a4 : Int) (w : World) (w0 : (Lit.int .i64 a0).wf = true) (w1 : (Lit.int .i64 a1).wf = true) (w3 : (Lit.int .i64 a3).wf = true) (w4 : (Lit.int .i64 a4).wf = true) :
    Calls Try.prog 10 #[.int .i64 a0, .int .i64 a1, .bool a2, .int .i64 a3, .int .i64 a4] w fun e w' => e = .returned (.bool true) ∧ Below w.heap.size w w' := by
  obtain ⟨k, h⟩ := P a0 a1 a2 a3 a4 w0 w1 w3 w4
  refine (roundhouselaw5_CookieAll.calls k a0 a1 a2 a3 a4 true w h ⟨rfl⟩).mono ?_
  rintro e w' ⟨rfl, hd⟩
  exact ⟨rfl, hd⟩

end Go.Proofs.Ytnaplobnkmdfbaa.Q
