/- By a program of this session (wip/tools/myprint.py), out of the translation: for each Go function a plain Lean function, and that the call comes to what that function says. -/
import Derived.Test.YtkpfojpmigchlaaQC
import Derived.Test.YtkpfojpmigchlaaQE
namespace Go.Proofs.Ytkpfojpmigchlaa.Q
open Go.RowKit Go.Proofs.YtkpfojpmigchlaaW.PrintWords Go.Proofs.YtkpfojpmigchlaaW.PrintLast Go.Proofs.YtkpfojpmigchlaaW.PrintMore Go.Proofs.Ytkpfojpmigchlaa.Own
attribute [local go_sem] max2_int min2_int max_two min_two max_three min_three max_four min_four   -- for this text's walks alone
set_option linter.unusedVariables false
set_option linter.unusedSimpArgs false

attribute [local go_sem high] eqA75
/-! ### cookie_Read: function 10 -/
def cookie_Read.j0 : Nat → Int → Int → Int → Bool → Int → Int → Int → Int → Int → Int → Int → Int → Int → Int → Int → Option (Int × Bool)
  | 0, _, _, _, _, _, _, _, _, _, _, _, _, _, _, _ => none
  | k + 1, x1, x3, x10, x26, x273000, x273001, x273002, x273003, x273004, x273005, x273006, x274000, x274001, x274002, x274003 => if x26 = true then (some (0, false)) else (if 0 ≤ (wrap64 (6 + x10)) then (if 0 ≤ x10 then ((cookie_Key.f k x273000 x273001 x273002 x273003 x273004 x273005 x273006 (shr .i64 x3 (wrap64 (6 + x10)))).bind fun bt276 => (if bt276.2.2 = true then ((cookie_veil.f k bt276.1 bt276.2.1 x1 x274000 x274001 x274002 x274003 (shr .i64 x3 (wrap64 (6 + x10)))).bind fun t280 => ((cookie_tag.f k bt276.1 bt276.2.1 x1 x274000 x274001 x274002 x274003 (Go.bits .xor .i64 (Go.bits .and .i64 (shr .i64 x3 x10) 63) t280) (shr .i64 x3 (wrap64 (6 + x10)))).bind fun t281 => (if (!(t281 == (Go.bits .and .i64 x3 (wrap64 ((shl .i64 1 x10) - 1))))) = true then (some (0, false)) else (some (Go.bits .xor .i64 (Go.bits .and .i64 (shr .i64 x3 x10) 63) t280, true))))) else (some (0, false)))) else (none)) else (none))
def cookie_Read.f (k : Nat) (a0_0 : Int) (a0_1 : Int) (a0_2 : Int) (a0_3 : Int) (a0_4 : Int) (a0_5 : Int) (a0_6 : Int) (a1 : Int) (a2_0 : Int) (a2_1 : Int) (a2_2 : Int) (a2_3 : Int) (a3 : Int) : Option (Int × Bool) := (cookie_tagBits.f a1).bind fun t274 => (if a3 < 0 then (cookie_Read.j0 k a1 a3 t274 true a0_0 a0_1 a0_2 a0_3 a0_4 a0_5 a0_6 a2_0 a2_1 a2_2 a2_3) else (if 0 ≤ (wrap64 (8 + t274)) then (cookie_Read.j0 k a1 a3 t274 (decide (a3 ≥ (shl .i64 1 (wrap64 (8 + t274))))) a0_0 a0_1 a0_2 a0_3 a0_4 a0_5 a0_6 a2_0 a2_1 a2_2 a2_3) else (none)))
theorem cookie_Read.mono_l : ∀ k, (∀ y0 y1 y2 y3 y4 y5 y6 y7 y8 y9 y10 y11 y12 y13 y14, LeO (cookie_Read.j0 k y0 y1 y2 y3 y4 y5 y6 y7 y8 y9 y10 y11 y12 y13 y14) (cookie_Read.j0 (k + 1) y0 y1 y2 y3 y4 y5 y6 y7 y8 y9 y10 y11 y12 y13 y14))
  | 0 => fun _ _ _ _ _ _ _ _ _ _ _ _ _ _ _ r h => by simp [cookie_Read.j0] at h
  | k + 1 => by
    have ih0 := cookie_Read.mono_l k
    · intro y0 y1 y2 y3 y4 y5 y6 y7 y8 y9 y10 y11 y12 y13 y14
      unfold cookie_Read.j0
      repeat' first
      | (with_reducible exact ih0 _ _ _ _ _ _ _ _ _ _ _ _ _ _ _)
      | (with_reducible exact cookie_Key.mono _ _ _ _ _ _ _ _ _)
      | (with_reducible exact cookie_tag.mono _ _ _ _ _ _ _ _ _ _)
      | (with_reducible exact cookie_veil.mono _ _ _ _ _ _ _ _ _)
      | (with_reducible exact LeO.refl _)
      | (with_reducible exact LeO.none _)
      | (with_reducible refine LeO.ite ?_ ?_)
      | (with_reducible refine LeO.bind ?_ (fun _ => ?_))
      | exact ih0 _ _ _ _ _ _ _ _ _ _ _ _ _ _ _
      | exact cookie_Key.mono _ _ _ _ _ _ _ _ _
      | exact cookie_tag.mono _ _ _ _ _ _ _ _ _ _
      | exact cookie_veil.mono _ _ _ _ _ _ _ _ _
      | exact LeO.none _
      | refine LeO.ite ?_ ?_
      | refine LeO.bind ?_ (fun _ => ?_)
theorem cookie_Read.mono : ∀ a0 a1 a2 a3 a4 a5 a6 a7 a8 a9 a10 a11 a12 k, LeO (cookie_Read.f k a0 a1 a2 a3 a4 a5 a6 a7 a8 a9 a10 a11 a12) (cookie_Read.f (k + 1) a0 a1 a2 a3 a4 a5 a6 a7 a8 a9 a10 a11 a12) := by
  intro a0 a1 a2 a3 a4 a5 a6 a7 a8 a9 a10 a11 a12 k
  have ih0 := cookie_Read.mono_l k
  unfold cookie_Read.f
  repeat' first
      | (with_reducible exact ih0 _ _ _ _ _ _ _ _ _ _ _ _ _ _ _)
      | (with_reducible exact cookie_Key.mono _ _ _ _ _ _ _ _ _)
      | (with_reducible exact cookie_tag.mono _ _ _ _ _ _ _ _ _ _)
      | (with_reducible exact cookie_veil.mono _ _ _ _ _ _ _ _ _)
      | (with_reducible exact LeO.refl _)
      | (with_reducible exact LeO.none _)
      | (with_reducible refine LeO.ite ?_ ?_)
      | (with_reducible refine LeO.bind ?_ (fun _ => ?_))
      | exact ih0 _ _ _ _ _ _ _ _ _ _ _ _ _ _ _
      | exact cookie_Key.mono _ _ _ _ _ _ _ _ _
      | exact cookie_tag.mono _ _ _ _ _ _ _ _ _ _
      | exact cookie_veil.mono _ _ _ _ _ _ _ _ _
      | exact LeO.none _
      | refine LeO.ite ?_ ?_
      | refine LeO.bind ?_ (fun _ => ?_)
def cookie_Read.T4 : Bool × List (List Nat × List Nat) := (true, [([], []), ([], []), ([1], [1]), ([0, 2], [0, 2]), ([], []), ([], []), ([4, 5], [4, 5]), ([6], [6]), ([], []), ([], []), ([9], [9]), ([10], [10]), ([8, 11], [8, 11]), ([3, 7, 12], [3, 7, 12]), ([], []), ([14, 13, 0, 1, 2, 3, 4, 5, 6, 7, 8, 9, 10, 11, 12, 13, 14], [13, 14])])
def cookie_Read.B4 : List Nat := [0, 0, 2, 7, 0, 0, 48, 112, 0, 0, 512, 1536, 3840, 8191, 0, 32767]
theorem cookie_Read.tab4 : rtab .any (opsOf Try.f10 4) = cookie_Read.T4 := by kernel_rfl
theorem cookie_Read.bits4 : waitsOk cookie_Read.T4.2 cookie_Read.B4 = true := by kernel_rfl
def cookie_Read.T8 : Bool × List (List Nat × List Nat) := (true, [([], []), ([0], [0]), ([], []), ([], []), ([], []), ([], []), ([5], [5]), ([2, 3, 4, 6], [2, 3, 4, 6]), ([1, 7], [1, 7]), ([8, 7, 0, 1, 2, 3, 4, 5, 6, 7, 8], [8])])
def cookie_Read.B8 : List Nat := [0, 1, 0, 0, 0, 0, 32, 124, 255, 511]
theorem cookie_Read.tab8 : rtab .any (opsOf Try.f10 8) = cookie_Read.T8 := by kernel_rfl
theorem cookie_Read.bits8 : waitsOk cookie_Read.T8.2 cookie_Read.B8 = true := by kernel_rfl
def cookie_Read.T9 : Bool × List (List Nat × List Nat) := (true, [([], []), ([0], [0]), ([], []), ([2], [2]), ([], []), ([], []), ([], []), ([], []), ([], []), ([8], [8]), ([4, 5, 6, 7, 9], [4, 5, 6, 7, 9]), ([1, 3, 10], [1, 3, 10]), ([], []), ([12, 11, 10, 0, 1, 2, 3, 4, 5, 6, 7, 8, 9, 10, 11, 12], [11, 12])])
def cookie_Read.B9 : List Nat := [0, 1, 0, 4, 0, 0, 0, 0, 0, 256, 1008, 2047, 0, 8191]
theorem cookie_Read.tab9 : rtab .any (opsOf Try.f10 9) = cookie_Read.T9 := by kernel_rfl
theorem cookie_Read.bits9 : waitsOk cookie_Read.T9.2 cookie_Read.B9 = true := by kernel_rfl
set_option maxHeartbeats 8000000 in
set_option maxRecDepth 100000 in
theorem cookie_Read.calls (k : Nat) (a0_0 : Int) (a0_1 : Int) (a0_2 : Int) (a0_3 : Int) (a0_4 : Int) (a0_5 : Int) (a0_6 : Int) (a1 : Int) (a2_0 : Int) (a2_1 : Int) (a2_2 : Int) (a2_3 : Int) (a3 : Int) (r1 : Int) (r2 : Bool) (w : World) (h : cookie_Read.f k a0_0 a0_1 a0_2 a0_3 a0_4 a0_5 a0_6 a1 a2_0 a2_1 a2_2 a2_3 a3 = some (r1, r2)) :
    Calls Try.prog 10 #[.agg #[.int .i64 a0_0, .int .u64 a0_1, .int .u64 a0_2, .int .u64 a0_3, .int .u64 a0_4, .int .u64 a0_5, .int .u64 a0_6], .int .i64 a1, .agg #[.int .i64 a2_0, .int .i64 a2_1, .int .i64 a2_2, .int .i64 a2_3], .int .i64 a3] w fun e w' => e = .returned (.tuple #[.int .i64 r1, .bool r2]) ∧ Below w.heap.size w w' := by
  have hu31 := Try.underlying31
  have hu36 := Try.underlying36
  have hu75 := Try.underlying75
  have hu29 := Try.underlying29
  have HB := Aside0.mk (Below.refl w.heap.size w)
  have H : ((cookie_tagBits.f a1).bind fun t274 => (if a3 < 0 then (cookie_Read.j0 k a1 a3 t274 true a0_0 a0_1 a0_2 a0_3 a0_4 a0_5 a0_6 a2_0 a2_1 a2_2 a2_3) else (if 0 ≤ (wrap64 (8 + t274)) then (cookie_Read.j0 k a1 a3 t274 (decide (a3 ≥ (shl .i64 1 (wrap64 (8 + t274))))) a0_0 a0_1 a0_2 a0_3 a0_4 a0_5 a0_6 a2_0 a2_1 a2_2 a2_3) else (none)))) = some (r1, r2) := h
  clear h
  replace H := Option.bind_eq_some_iff.mp H
  obtain ⟨t274, A50, H⟩ := H
  replace H : (if a3 < 0 then (cookie_Read.j0 k a1 a3 t274 true a0_0 a0_1 a0_2 a0_3 a0_4 a0_5 a0_6 a2_0 a2_1 a2_2 a2_3) else (if 0 ≤ (wrap64 (8 + t274)) then (cookie_Read.j0 k a1 a3 t274 (decide (a3 ≥ (shl .i64 1 (wrap64 (8 + t274))))) a0_0 a0_1 a0_2 a0_3 a0_4 a0_5 a0_6 a2_0 a2_1 a2_2 a2_3) else (none))) = some (r1, r2) := H
  have A5 := Aside0.mk A50
  clear A50
  have HC6 := Aside0.mk H
  clear H
  go_enter Try.func10, Try.ntmps10
  go_upto_region 2 with (first | ((with_reducible refine gate_dst (N := 4) rfl ?_); refine box_event ?hg (N := 4) ?hd (cs := #[.int .i64 a0_0, .int .u64 a0_1, .int .u64 a0_2, .int .u64 a0_3, .int .u64 a0_4, .int .u64 a0_5, .int .u64 a0_6]) (t := 31) ?hr ?_; (case hd => rfl); (case hg => rfl); (case hr => first | (go_simp; done) | (go_simp; rfl)); intro gb272 hg w7 hbox hb; have n0_ := Aside0.mk (below_step (by repeat (first | (with_reducible first | exact HB.out | apply below_alloc | apply pw_below_drewN | apply below_drew1) | exact HB.out)) hb); have n1_ := Aside0.mk (hbox); have n2_ := Aside0.mk ((by rw [hg]; exact (below_size (by repeat (first | (with_reducible first | exact HB.out | apply below_alloc | apply pw_below_drewN | apply below_drew1) | exact HB.out))) : w.heap.size ≤ gb272)); have n3_ := Aside0.mk ((by rw [hg]; exact (below_size (by repeat (first | (with_reducible first | exact HB.out | apply below_alloc | apply pw_below_drewN | apply below_drew1) | exact HB.out))) : w.heap.size ≤ gb272)); clear HB; have HB := n0_; have BK272 := n1_; have GW272 := n2_; have GE272 := n3_; clear n0_ n1_ n2_ n3_; clear hb hbox hg) | ((with_reducible refine gate_dst (N := 6) rfl ?_); refine box_event ?hg (N := 6) ?hd (cs := #[.int .i64 a2_0, .int .i64 a2_1, .int .i64 a2_2, .int .i64 a2_3]) (t := 36) ?hr ?_; (case hd => rfl); (case hg => rfl); (case hr => first | (go_simp; done) | (go_simp; rfl)); intro gb273 hg w8 hbox hb; have n0_ := Aside0.mk (blk_below (g := gb272) (o := .cells #[.int .i64 a0_0, .int .u64 a0_1, .int .u64 a0_2, .int .u64 a0_3, .int .u64 a0_4, .int .u64 a0_5, .int .u64 a0_6] 31 (0, 0)) (by (with_reducible repeat (first | refine blk_drewN ?_ _ | refine blk_drew ?_ | refine blk_alloc ?_ _)); exact BK272.out) hb); have n1_ := Aside0.mk (below_step (by repeat (first | (with_reducible first | exact HB.out | apply below_alloc | apply pw_below_drewN | apply below_drew1 | refine below_set ?_ GE272.out) | exact HB.out)) hb); have n2_ := Aside0.mk (hbox); have n3_ := Aside0.mk ((by rw [hg]; exact (below_size (by repeat (first | (with_reducible first | exact HB.out | apply below_alloc | apply pw_below_drewN | apply below_drew1 | refine below_set ?_ GE272.out) | exact HB.out))) : w.heap.size ≤ gb273)); have n4_ := Aside0.mk ((by rw [hg]; exact (below_size (by repeat (first | (with_reducible first | exact HB.out | apply below_alloc | apply pw_below_drewN | apply below_drew1 | refine below_set ?_ GE272.out) | exact HB.out))) : w.heap.size ≤ gb273)); have n5_ := Aside0.mk ((by rw [hg]; exact Nat.ne_of_lt (blk_lt (g := gb272) (o := .cells #[.int .i64 a0_0, .int .u64 a0_1, .int .u64 a0_2, .int .u64 a0_3, .int .u64 a0_4, .int .u64 a0_5, .int .u64 a0_6] 31 (0, 0)) (by (with_reducible repeat (first | refine blk_drewN ?_ _ | refine blk_drew ?_ | refine blk_alloc ?_ _)); exact BK272.out)) : gb272 ≠ gb273)); have n6_ := Aside0.mk ((by rw [hg]; exact Nat.ne_of_gt (blk_lt (g := gb272) (o := .cells #[.int .i64 a0_0, .int .u64 a0_1, .int .u64 a0_2, .int .u64 a0_3, .int .u64 a0_4, .int .u64 a0_5, .int .u64 a0_6] 31 (0, 0)) (by (with_reducible repeat (first | refine blk_drewN ?_ _ | refine blk_drew ?_ | refine blk_alloc ?_ _)); exact BK272.out)) : gb273 ≠ gb272)); clear BK272; clear HB; have BK272 := n0_; have HB := n1_; have BK273 := n2_; have GW273 := n3_; have GE273 := n4_; have NB272_273 := n5_; have NB273_272 := n6_; clear n0_ n1_ n2_ n3_ n4_ n5_ n6_; clear hb hbox hg) | ((with_reducible refine gate_callee (f := 29) rfl ?_); refine goesL_ (some 17) rfl rfl Try.func29 (by kernel_rfl) rfl #[.int .i64 a1] rfl (by (try simp only [List.map_toArray, List.map_cons, List.map_nil]); first | done | rfl | (simp only [List.length_drop, List.length_take]; rfl)) ?_; (with_reducible refine (cookie_tagBits.calls a1 t274 _ A5.out).mono ?_); rintro e w' ⟨rfl, ⟨nd, rfl⟩⟩; refine ⟨_, rfl, ?_⟩))
  (try simp only [Act.put, List.setIfInBounds_toArray, List.set_cons_zero, List.set_cons_succ])
  go_cut [26] (fun v26 wc => ∃ (kq : Nat) (x26_5 : Bool), v26 = .bool x26_5 ∧ Aside0 (cookie_Read.j0 kq a1 a3 t274 x26_5 a0_0 a0_1 a0_2 a0_3 a0_4 a0_5 a0_6 a2_0 a2_1 a2_2 a2_3 = some (r1, r2)) ∧ Aside0 (kq ≤ k) ∧ Aside0 (wc.heap[gb272]? = some (.cells #[.int .i64 a0_0, .int .u64 a0_1, .int .u64 a0_2, .int .u64 a0_3, .int .u64 a0_4, .int .u64 a0_5, .int .u64 a0_6] 31 (0, 0))) ∧ Aside0 (wc.heap[gb273]? = some (.cells #[.int .i64 a2_0, .int .i64 a2_1, .int .i64 a2_2, .int .i64 a2_3] 36 (0, 0))) ∧ Aside0 (Below w.heap.size w wc))
  case first =>
    have H := HC6.out
    clear HC6
    by_cases c9 : a3 < 0
    · rw [if_pos c9] at H
      have c9b0 : decide (a3 < 0) = true := decide_eq_true c9
      clear c9
      (first | rw [c9b0] | (simp only [i64_w, i32_w]; rw [c9b0]) | skip)
      have H' := Aside0.mk H
      clear H
      go_wp2
      go_meet
      case rel => exact ⟨_, (true), (by first | rfl | (simp; done) | (simp [*]; done)), H', ⟨by first | omega | exact Nat.le_refl _⟩, ⟨by (with_reducible repeat (first | refine blk_drewN ?_ _ | refine blk_drew ?_ | refine blk_alloc ?_ _)); exact BK272.out⟩, ⟨by (with_reducible repeat (first | refine blk_drewN ?_ _ | refine blk_drew ?_ | refine blk_alloc ?_ _)); exact BK273.out⟩, ⟨by repeat (first | (with_reducible first | exact HB.out | apply below_alloc | apply pw_below_drewN | apply below_drew1 | refine below_set ?_ GE272.out | refine below_set ?_ GE273.out) | exact HB.out)⟩⟩
    · rw [if_neg c9] at H
      have c9b0 : decide (a3 < 0) = false := decide_eq_false c9
      clear c9
      (first | rw [c9b0] | (simp only [i64_w, i32_w]; rw [c9b0]) | skip)
      obtain ⟨ji10, hji10⟩ : ∃ j_ : Int, (wrap64 (8 + t274)) = j_ := ⟨_, rfl⟩
      replace H : (if 0 ≤ (ji10) then (cookie_Read.j0 k a1 a3 t274 (decide (a3 ≥ (shl .i64 1 (ji10)))) a0_0 a0_1 a0_2 a0_3 a0_4 a0_5 a0_6 a2_0 a2_1 a2_2 a2_3) else (none)) = some (r1, r2) := by first | (rw [hji10] at H; exact H) | (simp only [hji10] at H ⊢; exact H)
      have hji10w : (IntKind.i64.wrap (8 + t274)) = ji10 := (i64_w _).trans hji10
      by_cases c11 : 0 ≤ (ji10)
      · rw [if_pos c11] at H
        have c11b0 := eq_true c11
        have c11b1 : decide (0 ≤ (ji10)) = true := decide_eq_true c11
        clear c11
        obtain ⟨ji12, hji12⟩ : ∃ j_ : Int, (shl .i64 1 (ji10)) = j_ := ⟨_, rfl⟩
        replace H : (cookie_Read.j0 k a1 a3 t274 (decide (a3 ≥ (ji12))) a0_0 a0_1 a0_2 a0_3 a0_4 a0_5 a0_6 a2_0 a2_1 a2_2 a2_3) = some (r1, r2) := by first | (rw [hji12] at H; exact H) | (simp only [hji12] at H ⊢; exact H)
        have hji12_ : (IntKind.i64.wrap (1 * 2 ^ min (ji10).toNat 64)) = ji12 := hji12
        have hji12z : (ji10) ≤ 64 → (IntKind.i64.wrap (1 * 2 ^ (ji10).toNat)) = ji12 := shl_small hji12
        have hji12u : (IntKind.i64.wrap (2 ^ min (ji10).toNat 64)) = ji12 := by have h_ := hji12_; rw [Int.one_mul] at h_; exact h_
        have hji12v : (ji10) ≤ 64 → (IntKind.i64.wrap (2 ^ (ji10).toNat)) = ji12 := fun hle_ => by have h_ := hji12z hle_; rw [Int.one_mul] at h_; exact h_
        have hji12y : (wrap64 (1 * 2 ^ min (ji10).toNat 64)) = ji12 := (i64_w _).symm.trans hji12_
        have hji12x : (ji10) ≤ 64 → (wrap64 (1 * 2 ^ (ji10).toNat)) = ji12 := fun h_ => (i64_w _).symm.trans (hji12z h_)
        have H' := Aside0.mk H
        clear H
        go_wp2
        go_meet
        case rel => exact ⟨_, (decide (a3 ≥ (ji12))), (by first | rfl | (simp; done) | (simp only [← hji12] <;> (first | rfl | simp)) | (simp [*]; done)), H', ⟨by first | omega | exact Nat.le_refl _⟩, ⟨by (with_reducible repeat (first | refine blk_drewN ?_ _ | refine blk_drew ?_ | refine blk_alloc ?_ _)); exact BK272.out⟩, ⟨by (with_reducible repeat (first | refine blk_drewN ?_ _ | refine blk_drew ?_ | refine blk_alloc ?_ _)); exact BK273.out⟩, ⟨by repeat (first | (with_reducible first | exact HB.out | apply below_alloc | apply pw_below_drewN | apply below_drew1 | refine below_set ?_ GE272.out | refine below_set ?_ GE273.out) | exact HB.out)⟩⟩
      · rw [if_neg c11] at H
        exact absurd H (by simp)
  case rest =>
    clear HC6
    try clear c1
    try clear c2
    try clear p2
    try clear p6
    try clear c9
    try clear c9b0
    try clear c10
    try clear c11
    try clear c11b0
    try clear c11b1
    obtain ⟨kq, x26_5, rfl, HA, HJ5, BK272, BK273, HB⟩ := hcut
    cases kq with
    | zero => exact absurd HA.out (by simp [cookie_Read.j0])
    | succ kj5 =>
      have H := HA.out
      clear HA
      simp only [cookie_Read.j0] at H
      by_cases c13 : x26_5 = true
      · subst c13
        have H1 : (some (0, false)) = some (r1, r2) := by rw [if_pos rfl] at H; exact H
        clear H
        have H := H1
        clear H1
        simp only [Option.some.injEq, Prod.mk.injEq] at H
        obtain ⟨rfl, rfl⟩ := H
        go_wp2
        go_ret2
        exact ⟨by first | rfl | (simp [errW_none, errW_some] <;> rfl) | (simp [*, errW_none, errW_some] <;> rfl), by repeat (first | (with_reducible first | exact HB.out | apply below_alloc | apply pw_below_drewN | apply below_drew1 | refine below_set ?_ GE272.out | refine below_set ?_ GE273.out) | exact HB.out)⟩
      · replace c13 := Bool.eq_false_iff.mpr c13
        subst c13
        have H1 : (if 0 ≤ (wrap64 (6 + t274)) then (if 0 ≤ t274 then ((cookie_Key.f kj5 a0_0 a0_1 a0_2 a0_3 a0_4 a0_5 a0_6 (shr .i64 a3 (wrap64 (6 + t274)))).bind fun bt276 => (if bt276.2.2 = true then ((cookie_veil.f kj5 bt276.1 bt276.2.1 a1 a2_0 a2_1 a2_2 a2_3 (shr .i64 a3 (wrap64 (6 + t274)))).bind fun t280 => ((cookie_tag.f kj5 bt276.1 bt276.2.1 a1 a2_0 a2_1 a2_2 a2_3 (Go.bits .xor .i64 (Go.bits .and .i64 (shr .i64 a3 t274) 63) t280) (shr .i64 a3 (wrap64 (6 + t274)))).bind fun t281 => (if (!(t281 == (Go.bits .and .i64 a3 (wrap64 ((shl .i64 1 t274) - 1))))) = true then (some (0, false)) else (some (Go.bits .xor .i64 (Go.bits .and .i64 (shr .i64 a3 t274) 63) t280, true))))) else (some (0, false)))) else (none)) else (none)) = some (r1, r2) := by rw [if_neg (show ¬ (false = true) by decide)] at H; exact H
        clear H
        have H := H1
        clear H1
        obtain ⟨ji14, hji14⟩ : ∃ j_ : Int, (wrap64 (6 + t274)) = j_ := ⟨_, rfl⟩
        replace H : (if 0 ≤ (ji14) then (if 0 ≤ t274 then ((cookie_Key.f kj5 a0_0 a0_1 a0_2 a0_3 a0_4 a0_5 a0_6 (shr .i64 a3 (ji14))).bind fun bt276 => (if bt276.2.2 = true then ((cookie_veil.f kj5 bt276.1 bt276.2.1 a1 a2_0 a2_1 a2_2 a2_3 (shr .i64 a3 (ji14))).bind fun t280 => ((cookie_tag.f kj5 bt276.1 bt276.2.1 a1 a2_0 a2_1 a2_2 a2_3 (Go.bits .xor .i64 (Go.bits .and .i64 (shr .i64 a3 t274) 63) t280) (shr .i64 a3 (ji14))).bind fun t281 => (if (!(t281 == (Go.bits .and .i64 a3 (wrap64 ((shl .i64 1 t274) - 1))))) = true then (some (0, false)) else (some (Go.bits .xor .i64 (Go.bits .and .i64 (shr .i64 a3 t274) 63) t280, true))))) else (some (0, false)))) else (none)) else (none)) = some (r1, r2) := by first | (rw [hji14] at H; exact H) | (simp only [hji14] at H ⊢; exact H)
        have hji14w : (IntKind.i64.wrap (6 + t274)) = ji14 := (i64_w _).trans hji14
        by_cases c15 : 0 ≤ (ji14)
        · rw [if_pos c15] at H
          have c15b0 := eq_true c15
          have c15b1 : decide (0 ≤ (ji14)) = true := decide_eq_true c15
          clear c15
          obtain ⟨ji16, hji16⟩ : ∃ j_ : Int, (shr .i64 a3 (ji14)) = j_ := ⟨_, rfl⟩
          replace H : (if 0 ≤ t274 then ((cookie_Key.f kj5 a0_0 a0_1 a0_2 a0_3 a0_4 a0_5 a0_6 (ji16)).bind fun bt276 => (if bt276.2.2 = true then ((cookie_veil.f kj5 bt276.1 bt276.2.1 a1 a2_0 a2_1 a2_2 a2_3 (ji16)).bind fun t280 => ((cookie_tag.f kj5 bt276.1 bt276.2.1 a1 a2_0 a2_1 a2_2 a2_3 (Go.bits .xor .i64 (Go.bits .and .i64 (shr .i64 a3 t274) 63) t280) (ji16)).bind fun t281 => (if (!(t281 == (Go.bits .and .i64 a3 (wrap64 ((shl .i64 1 t274) - 1))))) = true then (some (0, false)) else (some (Go.bits .xor .i64 (Go.bits .and .i64 (shr .i64 a3 t274) 63) t280, true))))) else (some (0, false)))) else (none)) = some (r1, r2) := by first | (rw [hji16] at H; exact H) | (simp only [hji16] at H ⊢; exact H)
          have hji16_ : (a3 / 2 ^ min (ji14).toNat 64) = ji16 := hji16
          have hji16z : (ji14) ≤ 64 → (a3 / 2 ^ (ji14).toNat) = ji16 := shr_small hji16
          by_cases c17 : 0 ≤ t274
          · rw [if_pos c17] at H
            have c17b0 := eq_true c17
            have c17b1 : decide (0 ≤ t274) = true := decide_eq_true c17
            clear c17
            obtain ⟨ji18, hji18⟩ : ∃ j_ : Int, (shr .i64 a3 t274) = j_ := ⟨_, rfl⟩
            replace H : ((cookie_Key.f kj5 a0_0 a0_1 a0_2 a0_3 a0_4 a0_5 a0_6 (ji16)).bind fun bt276 => (if bt276.2.2 = true then ((cookie_veil.f kj5 bt276.1 bt276.2.1 a1 a2_0 a2_1 a2_2 a2_3 (ji16)).bind fun t280 => ((cookie_tag.f kj5 bt276.1 bt276.2.1 a1 a2_0 a2_1 a2_2 a2_3 (Go.bits .xor .i64 (Go.bits .and .i64 (ji18) 63) t280) (ji16)).bind fun t281 => (if (!(t281 == (Go.bits .and .i64 a3 (wrap64 ((shl .i64 1 t274) - 1))))) = true then (some (0, false)) else (some (Go.bits .xor .i64 (Go.bits .and .i64 (ji18) 63) t280, true))))) else (some (0, false)))) = some (r1, r2) := by first | (rw [hji18] at H; exact H) | (simp only [hji18] at H ⊢; exact H)
            have hji18_ : (a3 / 2 ^ min t274.toNat 64) = ji18 := hji18
            have hji18z : t274 ≤ 64 → (a3 / 2 ^ t274.toNat) = ji18 := shr_small hji18
            have c19b0 := eq_true (of_decide_eq_true (by first | (with_reducible assumption) | assumption) : 0 ≤ t274)
            obtain ⟨ji20, hji20⟩ : ∃ j_ : Int, (shl .i64 1 t274) = j_ := ⟨_, rfl⟩
            replace H : ((cookie_Key.f kj5 a0_0 a0_1 a0_2 a0_3 a0_4 a0_5 a0_6 (ji16)).bind fun bt276 => (if bt276.2.2 = true then ((cookie_veil.f kj5 bt276.1 bt276.2.1 a1 a2_0 a2_1 a2_2 a2_3 (ji16)).bind fun t280 => ((cookie_tag.f kj5 bt276.1 bt276.2.1 a1 a2_0 a2_1 a2_2 a2_3 (Go.bits .xor .i64 (Go.bits .and .i64 (ji18) 63) t280) (ji16)).bind fun t281 => (if (!(t281 == (Go.bits .and .i64 a3 (wrap64 ((ji20) - 1))))) = true then (some (0, false)) else (some (Go.bits .xor .i64 (Go.bits .and .i64 (ji18) 63) t280, true))))) else (some (0, false)))) = some (r1, r2) := by first | (rw [hji20] at H; exact H) | (simp only [hji20] at H ⊢; exact H)
            have hji20_ : (IntKind.i64.wrap (1 * 2 ^ min t274.toNat 64)) = ji20 := hji20
            have hji20z : t274 ≤ 64 → (IntKind.i64.wrap (1 * 2 ^ t274.toNat)) = ji20 := shl_small hji20
            have hji20u : (IntKind.i64.wrap (2 ^ min t274.toNat 64)) = ji20 := by have h_ := hji20_; rw [Int.one_mul] at h_; exact h_
            have hji20v : t274 ≤ 64 → (IntKind.i64.wrap (2 ^ t274.toNat)) = ji20 := fun hle_ => by have h_ := hji20z hle_; rw [Int.one_mul] at h_; exact h_
            have hji20y : (wrap64 (1 * 2 ^ min t274.toNat 64)) = ji20 := (i64_w _).symm.trans hji20_
            have hji20x : t274 ≤ 64 → (wrap64 (1 * 2 ^ t274.toNat)) = ji20 := fun h_ => (i64_w _).symm.trans (hji20z h_)
            replace H := Option.bind_eq_some_iff.mp H
            obtain ⟨⟨t276, t277, t278⟩, A210, H⟩ := H
            replace H : (if t278 = true then ((cookie_veil.f kj5 t276 t277 a1 a2_0 a2_1 a2_2 a2_3 (ji16)).bind fun t280 => ((cookie_tag.f kj5 t276 t277 a1 a2_0 a2_1 a2_2 a2_3 (Go.bits .xor .i64 (Go.bits .and .i64 (ji18) 63) t280) (ji16)).bind fun t281 => (if (!(t281 == (Go.bits .and .i64 a3 (wrap64 ((ji20) - 1))))) = true then (some (0, false)) else (some (Go.bits .xor .i64 (Go.bits .and .i64 (ji18) 63) t280, true))))) else (some (0, false))) = some (r1, r2) := H
            have A21 := Aside0.mk A210
            clear A210
            by_cases c22 : t278 = true
            · subst c22
              have H1 : ((cookie_veil.f kj5 t276 t277 a1 a2_0 a2_1 a2_2 a2_3 (ji16)).bind fun t280 => ((cookie_tag.f kj5 t276 t277 a1 a2_0 a2_1 a2_2 a2_3 (Go.bits .xor .i64 (Go.bits .and .i64 (ji18) 63) t280) (ji16)).bind fun t281 => (if (!(t281 == (Go.bits .and .i64 a3 (wrap64 ((ji20) - 1))))) = true then (some (0, false)) else (some (Go.bits .xor .i64 (Go.bits .and .i64 (ji18) 63) t280, true))))) = some (r1, r2) := by rw [if_pos rfl] at H; exact H
              clear H
              have H := H1
              clear H1
              replace H := Option.bind_eq_some_iff.mp H
              obtain ⟨t280, A230, H⟩ := H
              replace H : ((cookie_tag.f kj5 t276 t277 a1 a2_0 a2_1 a2_2 a2_3 (Go.bits .xor .i64 (Go.bits .and .i64 (ji18) 63) t280) (ji16)).bind fun t281 => (if (!(t281 == (Go.bits .and .i64 a3 (wrap64 ((ji20) - 1))))) = true then (some (0, false)) else (some (Go.bits .xor .i64 (Go.bits .and .i64 (ji18) 63) t280, true)))) = some (r1, r2) := H
              have A23 := Aside0.mk A230
              clear A230
              replace H := Option.bind_eq_some_iff.mp H
              obtain ⟨t281, A240, H⟩ := H
              replace H : (if (!(t281 == (Go.bits .and .i64 a3 (wrap64 ((ji20) - 1))))) = true then (some (0, false)) else (some (Go.bits .xor .i64 (Go.bits .and .i64 (ji18) 63) t280, true))) = some (r1, r2) := H
              have A24 := Aside0.mk A240
              clear A240
              by_cases c25 : (!(t281 == (Go.bits .and .i64 a3 (wrap64 ((ji20) - 1))))) = true
              · rw [if_pos c25] at H
                have c25b0 : (!(t281 == (Go.bits .and .i64 a3 (wrap64 ((ji20) - 1))))) = true := c25
                clear c25
                simp only [Option.some.injEq, Prod.mk.injEq] at H
                obtain ⟨rfl, rfl⟩ := H
                try go_wp2
                have n0_ := Aside0.mk (blk_drew BK272.out)
                have n1_ := Aside0.mk (blk_drew BK273.out)
                have n2_ := Aside0.mk (below_drew1 HB.out)
                clear BK272
                clear BK273
                clear HB
                have BK272 := n0_
                have BK273 := n1_
                have HB := n2_
                clear n0_ n1_ n2_
                refine start_ (n := 16) (S := fun w' => True) (ds := []) #[false, false, false, false, false, false, false, false, false, false, false, false, false, false, false, false] (by kernel_rfl) rfl rfl trivial (fun hHeld => ?_); refine with_tabW cookie_Read.tab4 cookie_Read.bits4 (fun HT_ HW_ => ?_)
                generalize wc.drew = w26 at BK272 BK273 HB hHeld ⊢
                refine pure_ (i := 0) (N := some 27) (v := ?_) (a' := ?_) #[true, false, false, false, false, false, false, false, false, false, false, false, false, false, false, false] rfl rfl (any_of HT_.out (by kernel_rfl)) (fun _ _ _ h => h) (Or.inl ⟨by rfl, ?_⟩) ?_ ?_
                rotate_left
                · intro w'
                  go_simp
                  with_reducible rfl
                rotate_left
                · simp only [Act.put, List.setIfInBounds_toArray, List.set_cons_zero, List.set_cons_succ, i64_w, i32_w]
                  rfl
                refine pure_ (i := 1) (N := some 28) (v := ?_) (a' := ?_) #[true, true, false, false, false, false, false, false, false, false, false, false, false, false, false, false] rfl rfl (any_of HT_.out (by kernel_rfl)) (fun _ _ _ h => h) (Or.inl ⟨by rfl, ?_⟩) ?_ ?_
                rotate_left
                · intro w'
                  go_simp
                  with_reducible rfl
                rotate_left
                · simp only [Act.put, List.setIfInBounds_toArray, List.set_cons_zero, List.set_cons_succ, i64_w, i32_w]
                  rfl
                refine pure_ (i := 2) (N := some 29) (v := ?_) (a' := ?_) #[true, true, true, false, false, false, false, false, false, false, false, false, false, false, false, false] rfl rfl (any_of HT_.out (by kernel_rfl)) (fun _ _ _ h => h) (Or.inl ⟨by rfl, ?_⟩) ?_ ?_
                rotate_left
                · intro w'
                  go_simp
                  with_reducible rfl
                rotate_left
                · simp only [Act.put, List.setIfInBounds_toArray, List.set_cons_zero, List.set_cons_succ, i64_w, i32_w]
                  rfl
                refine pure_ (i := 3) (N := some 30) (v := ?_) (a' := ?_) #[true, true, true, true, false, false, false, false, false, false, false, false, false, false, false, false] rfl rfl (any_of HT_.out (by kernel_rfl)) (fun _ _ _ h => h) (Or.inl ⟨by rfl, ?_⟩) ?_ ?_
                rotate_left
                · intro w'
                  go_simp
                  with_reducible rfl
                rotate_left
                · simp only [Act.put, List.setIfInBounds_toArray, List.set_cons_zero, List.set_cons_succ, i64_w, i32_w]
                  rfl
                refine pure_ (i := 4) (N := some 31) (v := ?_) (a' := ?_) #[true, true, true, true, true, false, false, false, false, false, false, false, false, false, false, false] rfl rfl (any_of HT_.out (by kernel_rfl)) (fun _ _ _ h => h) (Or.inl ⟨by rfl, ?_⟩) ?_ ?_
                rotate_left
                · intro w'
                  go_simp
                  with_reducible rfl
                rotate_left
                · simp only [Act.put, List.setIfInBounds_toArray, List.set_cons_zero, List.set_cons_succ, i64_w, i32_w]
                  rfl
                refine pure_ (i := 5) (N := some 32) (v := ?_) (a' := ?_) #[true, true, true, true, true, true, false, false, false, false, false, false, false, false, false, false] rfl rfl (any_of HT_.out (by kernel_rfl)) (fun _ _ _ h => h) (Or.inl ⟨by rfl, ?_⟩) ?_ ?_
                rotate_left
                · intro w'
                  go_simp
                  with_reducible rfl
                rotate_left
                · simp only [Act.put, List.setIfInBounds_toArray, List.set_cons_zero, List.set_cons_succ, i64_w, i32_w]
                  rfl
                refine pure_ (i := 6) (N := some 33) (v := ?_) (a' := ?_) #[true, true, true, true, true, true, true, false, false, false, false, false, false, false, false, false] rfl rfl (any_of HT_.out (by kernel_rfl)) (fun _ _ _ h => h) (Or.inl ⟨by rfl, ?_⟩) ?_ ?_
                rotate_left
                · intro w'
                  go_simp
                  with_reducible rfl
                rotate_left
                · simp only [Act.put, List.setIfInBounds_toArray, List.set_cons_zero, List.set_cons_succ, i64_w, i32_w]
                  rfl
                refine pure_ (i := 7) (N := some 34) (v := ?_) (a' := ?_) #[true, true, true, true, true, true, true, true, false, false, false, false, false, false, false, false] rfl rfl (any_of HT_.out (by kernel_rfl)) (fun _ _ _ h => h) (Or.inl ⟨by rfl, ?_⟩) ?_ ?_
                rotate_left
                · intro w'
                  go_simp
                  with_reducible rfl
                rotate_left
                · simp only [Act.put, List.setIfInBounds_toArray, List.set_cons_zero, List.set_cons_succ, i64_w, i32_w]
                  rfl
                refine pure_ (i := 8) (N := some 35) (v := ?_) (a' := ?_) #[true, true, true, true, true, true, true, true, true, false, false, false, false, false, false, false] rfl rfl (any_of HT_.out (by kernel_rfl)) (fun _ _ _ h => h) (Or.inl ⟨by rfl, ?_⟩) ?_ ?_
                rotate_left
                · intro w'
                  go_simp
                  with_reducible rfl
                rotate_left
                · simp only [Act.put, List.setIfInBounds_toArray, List.set_cons_zero, List.set_cons_succ, i64_w, i32_w]
                  rfl
                refine pure_ (i := 9) (N := some 36) (v := ?_) (a' := ?_) #[true, true, true, true, true, true, true, true, true, true, false, false, false, false, false, false] rfl rfl (any_of HT_.out (by kernel_rfl)) (fun _ _ _ h => h) (Or.inl ⟨by rfl, ?_⟩) ?_ ?_
                rotate_left
                · intro w'
                  go_simp
                  with_reducible rfl
                rotate_left
                · simp only [Act.put, List.setIfInBounds_toArray, List.set_cons_zero, List.set_cons_succ, i64_w, i32_w]
                  rfl
                refine pure_ (i := 10) (N := some 37) (v := ?_) (a' := ?_) #[true, true, true, true, true, true, true, true, true, true, true, false, false, false, false, false] rfl rfl (any_of HT_.out (by kernel_rfl)) (fun _ _ _ h => h) (Or.inl ⟨by rfl, ?_⟩) ?_ ?_
                rotate_left
                · intro w'
                  go_simp
                  with_reducible rfl
                rotate_left
                · simp only [Act.put, List.setIfInBounds_toArray, List.set_cons_zero, List.set_cons_succ, i64_w, i32_w]
                  rfl
                refine pure_ (i := 11) (N := some 38) (v := ?_) (a' := ?_) #[true, true, true, true, true, true, true, true, true, true, true, true, false, false, false, false] rfl rfl (any_of HT_.out (by kernel_rfl)) (fun _ _ _ h => h) (Or.inl ⟨by rfl, ?_⟩) ?_ ?_
                rotate_left
                · intro w'
                  go_simp
                  with_reducible rfl
                rotate_left
                · simp only [Act.put, List.setIfInBounds_toArray, List.set_cons_zero, List.set_cons_succ, i64_w, i32_w]
                  rfl
                refine pure_ (i := 12) (N := some 39) (v := ?_) (a' := ?_) #[true, true, true, true, true, true, true, true, true, true, true, true, true, false, false, false] rfl rfl (any_of HT_.out (by kernel_rfl)) (fun _ _ _ h => h) (Or.inl ⟨by rfl, ?_⟩) ?_ ?_
                rotate_left
                · intro w'
                  go_simp
                  with_reducible rfl
                rotate_left
                · simp only [Act.put, List.setIfInBounds_toArray, List.set_cons_zero, List.set_cons_succ, i64_w, i32_w]
                  rfl
                refine pure_ (i := 13) (N := some 40) (v := ?_) (a' := ?_) #[true, true, true, true, true, true, true, true, true, true, true, true, true, true, false, false] rfl rfl (any_of HT_.out (by kernel_rfl)) (fun _ _ _ h => h) (Or.inl ⟨by rfl, ?_⟩) ?_ ?_
                rotate_left
                · intro w'
                  go_simp
                  with_reducible rfl
                rotate_left
                · simp only [Act.put, List.setIfInBounds_toArray, List.set_cons_zero, List.set_cons_succ, i64_w, i32_w]
                  rfl
                refine one_ (i := 14) (N := some 11) #[true, true, true, true, true, true, true, true, true, true, true, true, true, true, true, false] rfl rfl (one_of HT_.out (by kernel_rfl)) (by decide) (fun K hK => ?_)
                refine box_step ?hg (N := 11) ?hd (cs := #[.int .i64 0, .int .i64 0, .int .i64 0]) (t := 75) ?hr ?_; (case hd => rfl); (case hg => rfl); (case hr => first | (go_simp; done) | (go_simp; rfl))
                intro gb275 hg w27 hbox hb
                have n0_ := Aside0.mk (blk_below (g := gb272) (o := .cells #[.int .i64 a0_0, .int .u64 a0_1, .int .u64 a0_2, .int .u64 a0_3, .int .u64 a0_4, .int .u64 a0_5, .int .u64 a0_6] 31 (0, 0)) (by (with_reducible repeat (first | refine blk_drewN ?_ _ | refine blk_drew ?_ | refine blk_alloc ?_ _)); exact BK272.out) hb)
                have n1_ := Aside0.mk (blk_below (g := gb273) (o := .cells #[.int .i64 a2_0, .int .i64 a2_1, .int .i64 a2_2, .int .i64 a2_3] 36 (0, 0)) (by (with_reducible repeat (first | refine blk_drewN ?_ _ | refine blk_drew ?_ | refine blk_alloc ?_ _)); exact BK273.out) hb)
                have n2_ := Aside0.mk (below_step (by repeat (first | (with_reducible first | exact HB.out | apply below_alloc | apply pw_below_drewN | apply below_drew1 | refine below_set ?_ GE272.out | refine below_set ?_ GE273.out) | exact HB.out)) hb)
                have n3_ := Aside0.mk (hbox)
                have n4_ := Aside0.mk ((by rw [hg]; exact (below_size (by repeat (first | (with_reducible first | exact HB.out | apply below_alloc | apply pw_below_drewN | apply below_drew1 | refine below_set ?_ GE272.out | refine below_set ?_ GE273.out) | exact HB.out))) : w.heap.size ≤ gb275))
                have n5_ := Aside0.mk ((by rw [hg]; exact (below_size (by repeat (first | (with_reducible first | exact HB.out | apply below_alloc | apply pw_below_drewN | apply below_drew1 | refine below_set ?_ GE272.out | refine below_set ?_ GE273.out) | exact HB.out))) : w.heap.size ≤ gb275))
                have n6_ := Aside0.mk ((by rw [hg]; exact Nat.ne_of_lt (blk_lt (g := gb272) (o := .cells #[.int .i64 a0_0, .int .u64 a0_1, .int .u64 a0_2, .int .u64 a0_3, .int .u64 a0_4, .int .u64 a0_5, .int .u64 a0_6] 31 (0, 0)) (by (with_reducible repeat (first | refine blk_drewN ?_ _ | refine blk_drew ?_ | refine blk_alloc ?_ _)); exact BK272.out)) : gb272 ≠ gb275))
                have n7_ := Aside0.mk ((by rw [hg]; exact Nat.ne_of_gt (blk_lt (g := gb272) (o := .cells #[.int .i64 a0_0, .int .u64 a0_1, .int .u64 a0_2, .int .u64 a0_3, .int .u64 a0_4, .int .u64 a0_5, .int .u64 a0_6] 31 (0, 0)) (by (with_reducible repeat (first | refine blk_drewN ?_ _ | refine blk_drew ?_ | refine blk_alloc ?_ _)); exact BK272.out)) : gb275 ≠ gb272))
                have n8_ := Aside0.mk ((by rw [hg]; exact Nat.ne_of_lt (blk_lt (g := gb273) (o := .cells #[.int .i64 a2_0, .int .i64 a2_1, .int .i64 a2_2, .int .i64 a2_3] 36 (0, 0)) (by (with_reducible repeat (first | refine blk_drewN ?_ _ | refine blk_drew ?_ | refine blk_alloc ?_ _)); exact BK273.out)) : gb273 ≠ gb275))
                have n9_ := Aside0.mk ((by rw [hg]; exact Nat.ne_of_gt (blk_lt (g := gb273) (o := .cells #[.int .i64 a2_0, .int .i64 a2_1, .int .i64 a2_2, .int .i64 a2_3] 36 (0, 0)) (by (with_reducible repeat (first | refine blk_drewN ?_ _ | refine blk_drew ?_ | refine blk_alloc ?_ _)); exact BK273.out)) : gb275 ≠ gb273))
                clear BK272
                clear BK273
                clear HB
                have BK272 := n0_
                have BK273 := n1_
                have HB := n2_
                have BK275 := n3_
                have GW275 := n4_
                have GE275 := n5_
                have NB272_275 := n6_
                have NB275_272 := n7_
                have NB273_275 := n8_
                have NB275_273 := n9_
                clear n0_ n1_ n2_ n3_ n4_ n5_ n6_ n7_ n8_ n9_
                clear hb hbox hg
                refine hK.out _ _ trivial (fun hHeld => ?_)
                clear hK K
                refine norm_ (a' := ?_) ?_ ?_
                rotate_left
                · show Act.put _ (some 11) _ = _
                  simp only [Act.put, List.setIfInBounds_toArray, List.set_cons_zero, List.set_cons_succ, i64_w, i32_w]
                  rfl
                refine one_ (i := 15) (N := none) #[true, true, true, true, true, true, true, true, true, true, true, true, true, true, true, true] rfl rfl (one_of HT_.out (by kernel_rfl)) (by decide) (fun K hK => ?_)
                have hs28 : w27.cell? ⟨gb275, 0, none⟩ = some (.int .i64 0) := (blk_cell BK275.out 0).trans rfl
                have hfs28 := blk_frozen BK275.out 0
                have hns28_0 := NB272_275.out
                have hns28_1 := NB273_275.out
                have hms28_0 := NB275_272.out
                have hms28_1 := NB275_273.out
                have hs29 : w27.cell? ⟨gb275, 1, none⟩ = some (.int .i64 0) := (blk_cell BK275.out 1).trans rfl
                have hfs29 := blk_frozen BK275.out 1
                have hns29_0 := NB272_275.out
                have hns29_1 := NB273_275.out
                have hms29_0 := NB275_272.out
                have hms29_1 := NB275_273.out
                have hs30 : w27.cell? ⟨gb275, 2, none⟩ = some (.int .i64 0) := (blk_cell BK275.out 2).trans rfl
                have hfs30 := blk_frozen BK275.out 2
                have hns30_0 := NB272_275.out
                have hns30_1 := NB273_275.out
                have hms30_0 := NB275_272.out
                have hms30_1 := NB275_273.out
                refine skip_ (w1 := ?_) (by rfl) rfl ?_ ?_
                rotate_left
                · go_simp
                  rfl
                refine hK.out _ _ trivial (fun hHeld => ?_)
                clear hK K
                refine done_ (done_of HT_.out (by kernel_rfl)) ?_
                have hnb31 := NB272_273.out
                have hnc31 := NB273_272.out
                have hnb32 := NB272_275.out
                have hnc32 := NB275_272.out
                have hcz33_0 : w27.cell? ⟨gb272, 0, none⟩ = some (.int .i64 a0_0) := (blk_cell BK272.out 0).trans rfl
                have hcz33_1 : w27.cell? ⟨gb272, 1, none⟩ = some (.int .u64 a0_1) := (blk_cell BK272.out 1).trans rfl
                have hcz33_2 : w27.cell? ⟨gb272, 2, none⟩ = some (.int .u64 a0_2) := (blk_cell BK272.out 2).trans rfl
                have hcz33_3 : w27.cell? ⟨gb272, 3, none⟩ = some (.int .u64 a0_3) := (blk_cell BK272.out 3).trans rfl
                have hcz33_4 : w27.cell? ⟨gb272, 4, none⟩ = some (.int .u64 a0_4) := (blk_cell BK272.out 4).trans rfl
                have hcz33_5 : w27.cell? ⟨gb272, 5, none⟩ = some (.int .u64 a0_5) := (blk_cell BK272.out 5).trans rfl
                have hcz33_6 : w27.cell? ⟨gb272, 6, none⟩ = some (.int .u64 a0_6) := (blk_cell BK272.out 6).trans rfl
                have hfz33_0 := blk_frozen BK272.out 0
                have hfz33_1 := blk_frozen BK272.out 1
                have hfz33_2 := blk_frozen BK272.out 2
                have hfz33_3 := blk_frozen BK272.out 3
                have hfz33_4 := blk_frozen BK272.out 4
                have hfz33_5 := blk_frozen BK272.out 5
                have hfz33_6 := blk_frozen BK272.out 6
                have hnb34 := NB275_273.out
                have hnc34 := NB273_275.out
                have hcz35_0 : w27.cell? ⟨gb275, 0, none⟩ = some (.int .i64 0) := (blk_cell BK275.out 0).trans rfl
                have hcz35_1 : w27.cell? ⟨gb275, 1, none⟩ = some (.int .i64 0) := (blk_cell BK275.out 1).trans rfl
                have hcz35_2 : w27.cell? ⟨gb275, 2, none⟩ = some (.int .i64 0) := (blk_cell BK275.out 2).trans rfl
                have hfz35_0 := blk_frozen BK275.out 0
                have hfz35_1 := blk_frozen BK275.out 1
                have hfz35_2 := blk_frozen BK275.out 2
                try go_wp2_with (first | ((with_reducible refine gate_callee (f := 11) rfl ?_); refine goesL_ (some 45) rfl rfl Try.func11 (by kernel_rfl) rfl #[.agg #[.int .i64 a0_0, .int .u64 a0_1, .int .u64 a0_2, .int .u64 a0_3, .int .u64 a0_4, .int .u64 a0_5, .int .u64 a0_6], .int .i64 ji16] rfl (by (try simp only [List.map_toArray, List.map_cons, List.map_nil]); first | done | (simp only [hji16]; rfl) | rfl | (simp only [List.length_drop, List.length_take]; rfl)) ?_; (with_reducible refine (cookie_Key.calls kj5 a0_0 a0_1 a0_2 a0_3 a0_4 a0_5 a0_6 ji16 t276 t277 true _ A21.out).mono ?_); rintro e w36 ⟨rfl, hb⟩; refine ⟨_, rfl, ?_⟩; have n0_ := Aside0.mk (blk_below (g := gb272) (o := .cells #[.int .i64 a0_0, .int .u64 a0_1, .int .u64 a0_2, .int .u64 a0_3, .int .u64 a0_4, .int .u64 a0_5, .int .u64 a0_6] 31 (0, 0)) (by (with_reducible repeat (first | refine blk_drewN ?_ _ | refine blk_drew ?_ | refine blk_alloc ?_ _)); refine blk_far ?_ NB272_275.out _; (with_reducible repeat (first | refine blk_drewN ?_ _ | refine blk_drew ?_ | refine blk_alloc ?_ _)); refine blk_far ?_ NB272_275.out _; (with_reducible repeat (first | refine blk_drewN ?_ _ | refine blk_drew ?_ | refine blk_alloc ?_ _)); refine blk_far ?_ NB272_275.out _; (with_reducible repeat (first | refine blk_drewN ?_ _ | refine blk_drew ?_ | refine blk_alloc ?_ _)); exact BK272.out) hb); have n1_ := Aside0.mk (blk_below (g := gb273) (o := .cells #[.int .i64 a2_0, .int .i64 a2_1, .int .i64 a2_2, .int .i64 a2_3] 36 (0, 0)) (by (with_reducible repeat (first | refine blk_drewN ?_ _ | refine blk_drew ?_ | refine blk_alloc ?_ _)); refine blk_far ?_ NB273_275.out _; (with_reducible repeat (first | refine blk_drewN ?_ _ | refine blk_drew ?_ | refine blk_alloc ?_ _)); refine blk_far ?_ NB273_275.out _; (with_reducible repeat (first | refine blk_drewN ?_ _ | refine blk_drew ?_ | refine blk_alloc ?_ _)); refine blk_far ?_ NB273_275.out _; (with_reducible repeat (first | refine blk_drewN ?_ _ | refine blk_drew ?_ | refine blk_alloc ?_ _)); exact BK273.out) hb); have n2_ := Aside0.mk (blk_below (g := gb275) (o := .cells #[.int .i64 ji16, .int .i64 (Go.bits .and .i64 (ji18) 63), .int .i64 (Go.bits .and .i64 a3 (wrap64 ((ji20) - 1)))] 75 (0, 0)) (by (with_reducible repeat (first | refine blk_drewN ?_ _ | refine blk_drew ?_ | refine blk_alloc ?_ _)); refine blk_put (cs := #[.int .i64 ji16, .int .i64 (Go.bits .and .i64 (ji18) 63), .int .i64 0]) ?_ 2 _ rfl; (with_reducible repeat (first | refine blk_drewN ?_ _ | refine blk_drew ?_ | refine blk_alloc ?_ _)); refine blk_put (cs := #[.int .i64 ji16, .int .i64 0, .int .i64 0]) ?_ 1 _ rfl; (with_reducible repeat (first | refine blk_drewN ?_ _ | refine blk_drew ?_ | refine blk_alloc ?_ _)); refine blk_put (cs := #[.int .i64 0, .int .i64 0, .int .i64 0]) ?_ 0 _ rfl; (with_reducible repeat (first | refine blk_drewN ?_ _ | refine blk_drew ?_ | refine blk_alloc ?_ _)); exact BK275.out) hb); have n3_ := Aside0.mk (below_step (by repeat (first | (with_reducible first | exact HB.out | apply below_alloc | apply pw_below_drewN | apply below_drew1 | refine below_set ?_ GE272.out | refine below_set ?_ GE273.out | refine below_set ?_ GE275.out) | exact HB.out)) hb); clear BK272; clear BK273; clear BK275; clear HB; have BK272 := n0_; have BK273 := n1_; have BK275 := n2_; have HB := n3_; clear n0_ n1_ n2_ n3_; (try clear hb); (try clear hb2); (try clear hk); (try clear hi)) | ((with_reducible refine gate_dst (N := 12) rfl ?_); refine box_event ?hg (N := 12) ?hd (cs := #[.int .u64 0, .int .u64 0]) (t := 29) ?hr ?_; (case hd => rfl); (case hg => rfl); (case hr => first | (go_simp; done) | (go_simp; rfl)); intro gb279 hg w37 hbox hb; have n0_ := Aside0.mk (blk_below (g := gb272) (o := .cells #[.int .i64 a0_0, .int .u64 a0_1, .int .u64 a0_2, .int .u64 a0_3, .int .u64 a0_4, .int .u64 a0_5, .int .u64 a0_6] 31 (0, 0)) (by (with_reducible repeat (first | refine blk_drewN ?_ _ | refine blk_drew ?_ | refine blk_alloc ?_ _)); exact BK272.out) hb); have n1_ := Aside0.mk (blk_below (g := gb273) (o := .cells #[.int .i64 a2_0, .int .i64 a2_1, .int .i64 a2_2, .int .i64 a2_3] 36 (0, 0)) (by (with_reducible repeat (first | refine blk_drewN ?_ _ | refine blk_drew ?_ | refine blk_alloc ?_ _)); exact BK273.out) hb); have n2_ := Aside0.mk (blk_below (g := gb275) (o := .cells #[.int .i64 ji16, .int .i64 (Go.bits .and .i64 (ji18) 63), .int .i64 (Go.bits .and .i64 a3 (wrap64 ((ji20) - 1)))] 75 (0, 0)) (by (with_reducible repeat (first | refine blk_drewN ?_ _ | refine blk_drew ?_ | refine blk_alloc ?_ _)); exact BK275.out) hb); have n3_ := Aside0.mk (below_step (by repeat (first | (with_reducible first | exact HB.out | apply below_alloc | apply pw_below_drewN | apply below_drew1 | refine below_set ?_ GE272.out | refine below_set ?_ GE273.out | refine below_set ?_ GE275.out) | exact HB.out)) hb); have n4_ := Aside0.mk (hbox); have n5_ := Aside0.mk ((by rw [hg]; exact (below_size (by repeat (first | (with_reducible first | exact HB.out | apply below_alloc | apply pw_below_drewN | apply below_drew1 | refine below_set ?_ GE272.out | refine below_set ?_ GE273.out | refine below_set ?_ GE275.out) | exact HB.out))) : w.heap.size ≤ gb279)); have n6_ := Aside0.mk ((by rw [hg]; exact (below_size (by repeat (first | (with_reducible first | exact HB.out | apply below_alloc | apply pw_below_drewN | apply below_drew1 | refine below_set ?_ GE272.out | refine below_set ?_ GE273.out | refine below_set ?_ GE275.out) | exact HB.out))) : w.heap.size ≤ gb279)); have n7_ := Aside0.mk ((by rw [hg]; exact Nat.ne_of_lt (blk_lt (g := gb272) (o := .cells #[.int .i64 a0_0, .int .u64 a0_1, .int .u64 a0_2, .int .u64 a0_3, .int .u64 a0_4, .int .u64 a0_5, .int .u64 a0_6] 31 (0, 0)) (by (with_reducible repeat (first | refine blk_drewN ?_ _ | refine blk_drew ?_ | refine blk_alloc ?_ _)); exact BK272.out)) : gb272 ≠ gb279)); have n8_ := Aside0.mk ((by rw [hg]; exact Nat.ne_of_gt (blk_lt (g := gb272) (o := .cells #[.int .i64 a0_0, .int .u64 a0_1, .int .u64 a0_2, .int .u64 a0_3, .int .u64 a0_4, .int .u64 a0_5, .int .u64 a0_6] 31 (0, 0)) (by (with_reducible repeat (first | refine blk_drewN ?_ _ | refine blk_drew ?_ | refine blk_alloc ?_ _)); exact BK272.out)) : gb279 ≠ gb272)); have n9_ := Aside0.mk ((by rw [hg]; exact Nat.ne_of_lt (blk_lt (g := gb273) (o := .cells #[.int .i64 a2_0, .int .i64 a2_1, .int .i64 a2_2, .int .i64 a2_3] 36 (0, 0)) (by (with_reducible repeat (first | refine blk_drewN ?_ _ | refine blk_drew ?_ | refine blk_alloc ?_ _)); exact BK273.out)) : gb273 ≠ gb279)); have n10_ := Aside0.mk ((by rw [hg]; exact Nat.ne_of_gt (blk_lt (g := gb273) (o := .cells #[.int .i64 a2_0, .int .i64 a2_1, .int .i64 a2_2, .int .i64 a2_3] 36 (0, 0)) (by (with_reducible repeat (first | refine blk_drewN ?_ _ | refine blk_drew ?_ | refine blk_alloc ?_ _)); exact BK273.out)) : gb279 ≠ gb273)); have n11_ := Aside0.mk ((by rw [hg]; exact Nat.ne_of_lt (blk_lt (g := gb275) (o := .cells #[.int .i64 ji16, .int .i64 (Go.bits .and .i64 (ji18) 63), .int .i64 (Go.bits .and .i64 a3 (wrap64 ((ji20) - 1)))] 75 (0, 0)) (by (with_reducible repeat (first | refine blk_drewN ?_ _ | refine blk_drew ?_ | refine blk_alloc ?_ _)); exact BK275.out)) : gb275 ≠ gb279)); have n12_ := Aside0.mk ((by rw [hg]; exact Nat.ne_of_gt (blk_lt (g := gb275) (o := .cells #[.int .i64 ji16, .int .i64 (Go.bits .and .i64 (ji18) 63), .int .i64 (Go.bits .and .i64 a3 (wrap64 ((ji20) - 1)))] 75 (0, 0)) (by (with_reducible repeat (first | refine blk_drewN ?_ _ | refine blk_drew ?_ | refine blk_alloc ?_ _)); exact BK275.out)) : gb279 ≠ gb275)); clear BK272; clear BK273; clear BK275; clear HB; have BK272 := n0_; have BK273 := n1_; have BK275 := n2_; have HB := n3_; have BK279 := n4_; have GW279 := n5_; have GE279 := n6_; have NB272_279 := n7_; have NB279_272 := n8_; have NB273_279 := n9_; have NB279_273 := n10_; have NB275_279 := n11_; have NB279_275 := n12_; clear n0_ n1_ n2_ n3_ n4_ n5_ n6_ n7_ n8_ n9_ n10_ n11_ n12_; clear hb hbox hg; have hnb38 := NB279_272.out; have hnc38 := NB272_279.out; have hnb39 := NB279_273.out; have hnc39 := NB273_279.out; have hnb40 := NB279_275.out; have hnc40 := NB275_279.out; have hcz41_0 : w37.cell? ⟨gb279, 0, none⟩ = some (.int .u64 0) := (blk_cell BK279.out 0).trans rfl; have hcz41_1 : w37.cell? ⟨gb279, 1, none⟩ = some (.int .u64 0) := (blk_cell BK279.out 1).trans rfl; have hfz41_0 := blk_frozen BK279.out 0; have hfz41_1 := blk_frozen BK279.out 1))
                have n0_ : Aside0 (((w37.setCell ⟨gb279, 0, none⟩ (.int .u64 t276)).setCell ⟨gb279, 1, none⟩ (.int .u64 t277)).heap[gb272]? = some (.cells #[.int .i64 a0_0, .int .u64 a0_1, .int .u64 a0_2, .int .u64 a0_3, .int .u64 a0_4, .int .u64 a0_5, .int .u64 a0_6] 31 (0, 0))) := ⟨by (with_reducible repeat (first | refine blk_drewN ?_ _ | refine blk_drew ?_ | refine blk_alloc ?_ _)); refine blk_far ?_ NB272_279.out _; (with_reducible repeat (first | refine blk_drewN ?_ _ | refine blk_drew ?_ | refine blk_alloc ?_ _)); refine blk_far ?_ NB272_279.out _; (with_reducible repeat (first | refine blk_drewN ?_ _ | refine blk_drew ?_ | refine blk_alloc ?_ _)); exact BK272.out⟩
                have n1_ : Aside0 (((w37.setCell ⟨gb279, 0, none⟩ (.int .u64 t276)).setCell ⟨gb279, 1, none⟩ (.int .u64 t277)).heap[gb273]? = some (.cells #[.int .i64 a2_0, .int .i64 a2_1, .int .i64 a2_2, .int .i64 a2_3] 36 (0, 0))) := ⟨by (with_reducible repeat (first | refine blk_drewN ?_ _ | refine blk_drew ?_ | refine blk_alloc ?_ _)); refine blk_far ?_ NB273_279.out _; (with_reducible repeat (first | refine blk_drewN ?_ _ | refine blk_drew ?_ | refine blk_alloc ?_ _)); refine blk_far ?_ NB273_279.out _; (with_reducible repeat (first | refine blk_drewN ?_ _ | refine blk_drew ?_ | refine blk_alloc ?_ _)); exact BK273.out⟩
                have n2_ : Aside0 (((w37.setCell ⟨gb279, 0, none⟩ (.int .u64 t276)).setCell ⟨gb279, 1, none⟩ (.int .u64 t277)).heap[gb275]? = some (.cells #[.int .i64 ji16, .int .i64 (Go.bits .and .i64 (ji18) 63), .int .i64 (Go.bits .and .i64 a3 (wrap64 ((ji20) - 1)))] 75 (0, 0))) := ⟨by (with_reducible repeat (first | refine blk_drewN ?_ _ | refine blk_drew ?_ | refine blk_alloc ?_ _)); refine blk_far ?_ NB275_279.out _; (with_reducible repeat (first | refine blk_drewN ?_ _ | refine blk_drew ?_ | refine blk_alloc ?_ _)); refine blk_far ?_ NB275_279.out _; (with_reducible repeat (first | refine blk_drewN ?_ _ | refine blk_drew ?_ | refine blk_alloc ?_ _)); exact BK275.out⟩
                have n3_ : Aside0 (((w37.setCell ⟨gb279, 0, none⟩ (.int .u64 t276)).setCell ⟨gb279, 1, none⟩ (.int .u64 t277)).heap[gb279]? = some (.cells #[.int .u64 t276, .int .u64 t277] 29 (0, 0))) := ⟨by (with_reducible repeat (first | refine blk_drewN ?_ _ | refine blk_drew ?_ | refine blk_alloc ?_ _)); refine blk_put (cs := #[.int .u64 t276, .int .u64 0]) ?_ 1 _ rfl; (with_reducible repeat (first | refine blk_drewN ?_ _ | refine blk_drew ?_ | refine blk_alloc ?_ _)); refine blk_put (cs := #[.int .u64 0, .int .u64 0]) ?_ 0 _ rfl; (with_reducible repeat (first | refine blk_drewN ?_ _ | refine blk_drew ?_ | refine blk_alloc ?_ _)); exact BK279.out⟩
                have n4_ : Aside0 (Below w.heap.size w ((w37.setCell ⟨gb279, 0, none⟩ (.int .u64 t276)).setCell ⟨gb279, 1, none⟩ (.int .u64 t277))) := ⟨by repeat (first | (with_reducible first | exact HB.out | apply below_alloc | apply pw_below_drewN | apply below_drew1 | refine below_set ?_ GE272.out | refine below_set ?_ GE273.out | refine below_set ?_ GE275.out | refine below_set ?_ GE279.out) | exact HB.out)⟩
                (try clear BK272)
                (try clear BK273)
                (try clear BK275)
                (try clear BK279)
                (try clear HB)
                generalize ((w37.setCell ⟨gb279, 0, none⟩ (.int .u64 t276)).setCell ⟨gb279, 1, none⟩ (.int .u64 t277)) = w42 at n0_ n1_ n2_ n3_ n4_ ⊢
                have BK272 := n0_
                have BK273 := n1_
                have BK275 := n2_
                have BK279 := n3_
                have HB := n4_
                clear n0_ n1_ n2_ n3_ n4_
                have n0_ := Aside0.mk (blk_drew BK272.out)
                have n1_ := Aside0.mk (blk_drew BK273.out)
                have n2_ := Aside0.mk (blk_drew BK275.out)
                have n3_ := Aside0.mk (blk_drew BK279.out)
                have n4_ := Aside0.mk (below_drew1 HB.out)
                clear BK272
                clear BK273
                clear BK275
                clear BK279
                clear HB
                have BK272 := n0_
                have BK273 := n1_
                have BK275 := n2_
                have BK279 := n3_
                have HB := n4_
                clear n0_ n1_ n2_ n3_ n4_
                refine start_ (n := 10) (S := fun w' => w'.cell? ⟨gb275, 0, none⟩ = some (.int .i64 ji16) ∧ w'.cell? ⟨gb275, 1, none⟩ = some (.int .i64 (Go.bits .and .i64 (ji18) 63)) ∧ w'.cell? ⟨gb275, 2, none⟩ = some (.int .i64 (Go.bits .and .i64 a3 (wrap64 ((ji20) - 1)))) ∧ w'.cell? ⟨gb279, 0, none⟩ = some (.int .u64 t276) ∧ w'.cell? ⟨gb279, 1, none⟩ = some (.int .u64 t277) ∧ w'.cell? ⟨gb273, 0, none⟩ = some (.int .i64 a2_0) ∧ w'.cell? ⟨gb273, 1, none⟩ = some (.int .i64 a2_1) ∧ w'.cell? ⟨gb273, 2, none⟩ = some (.int .i64 a2_2) ∧ w'.cell? ⟨gb273, 3, none⟩ = some (.int .i64 a2_3)) (ds := []) #[false, false, false, false, false, false, false, false, false, false] (by kernel_rfl) rfl rfl ⟨(blk_cell BK275.out 0).trans rfl, (blk_cell BK275.out 1).trans rfl, (blk_cell BK275.out 2).trans rfl, (blk_cell BK279.out 0).trans rfl, (blk_cell BK279.out 1).trans rfl, (blk_cell BK273.out 0).trans rfl, (blk_cell BK273.out 1).trans rfl, (blk_cell BK273.out 2).trans rfl, (blk_cell BK273.out 3).trans rfl⟩ (fun hHeld => ?_); refine with_tabW cookie_Read.tab8 cookie_Read.bits8 (fun HT_ HW_ => ?_)
                generalize w42.drew = w43 at BK272 BK273 BK275 BK279 HB hHeld ⊢
                refine pure_ (i := 0) (N := some 50) (v := ?_) (a' := ?_) #[true, false, false, false, false, false, false, false, false, false] rfl rfl (any_of HT_.out (by kernel_rfl)) (fun _ _ _ h => h) (Or.inl ⟨by rfl, ?_⟩) ?_ ?_
                rotate_left
                · intro w'
                  go_simp
                  with_reducible rfl
                rotate_left
                · simp only [Act.put, List.setIfInBounds_toArray, List.set_cons_zero, List.set_cons_succ, i64_w, i32_w]
                  rfl
                refine pure_ (i := 3) (N := some 53) (v := ?_) (a' := ?_) #[true, false, false, true, false, false, false, false, false, false] rfl rfl (any_of HT_.out (by kernel_rfl)) (fun _ _ _ h => h) (Or.inl ⟨by rfl, ?_⟩) ?_ ?_
                rotate_left
                · intro w'
                  go_simp
                  with_reducible rfl
                rotate_left
                · simp only [Act.put, List.setIfInBounds_toArray, List.set_cons_zero, List.set_cons_succ, i64_w, i32_w]
                  rfl
                refine pure_ (i := 5) (N := some 55) (v := ?_) (a' := ?_) #[true, false, false, true, false, true, false, false, false, false] rfl rfl (any_of HT_.out (by kernel_rfl)) (fun _ _ _ h => h) (Or.inl ⟨by rfl, ?_⟩) ?_ ?_
                rotate_left
                · intro w'
                  go_simp
                  with_reducible rfl
                rotate_left
                · simp only [Act.put, List.setIfInBounds_toArray, List.set_cons_zero, List.set_cons_succ, i64_w, i32_w]
                  rfl
                refine take_ (i := 1) (N := some 51) (v := ?_) (a' := ?_) #[true, true, false, true, false, true, false, false, false, false] rfl rfl (take_ofW HT_.out HW_.out (by kernel_rfl)) (fun _ _ _ h => h) (Or.inl ⟨by rfl, ?_⟩) hHeld ?_ ?_
                rotate_left
                · rintro w' ⟨s0, s1, s2, s3, s4, s5, s6, s7, s8⟩
                  go_simp
                  with_reducible rfl
                rotate_left
                · simp only [Act.put, List.setIfInBounds_toArray, List.set_cons_zero, List.set_cons_succ, i64_w, i32_w]
                  rfl
                refine take_ (i := 2) (N := some 52) (v := ?_) (a' := ?_) #[true, true, true, true, false, true, false, false, false, false] rfl rfl (take_ofW HT_.out HW_.out (by kernel_rfl)) (fun _ _ _ h => h) (Or.inl ⟨by rfl, ?_⟩) hHeld ?_ ?_
                rotate_left
                · rintro w' ⟨s0, s1, s2, s3, s4, s5, s6, s7, s8⟩
                  go_simp
                  with_reducible rfl
                rotate_left
                · simp only [Act.put, List.setIfInBounds_toArray, List.set_cons_zero, List.set_cons_succ, i64_w, i32_w]
                  rfl
                refine take_ (i := 4) (N := some 54) (v := ?_) (a' := ?_) #[true, true, true, true, true, true, false, false, false, false] rfl rfl (take_ofW HT_.out HW_.out (by kernel_rfl)) (fun _ _ _ h => h) (Or.inl ⟨by rfl, ?_⟩) hHeld ?_ ?_
                rotate_left
                · rintro w' ⟨s0, s1, s2, s3, s4, s5, s6, s7, s8⟩
                  go_simp
                  with_reducible rfl
                rotate_left
                · simp only [Act.put, List.setIfInBounds_toArray, List.set_cons_zero, List.set_cons_succ, i64_w, i32_w]
                  rfl
                refine take_ (i := 6) (N := some 56) (v := ?_) (a' := ?_) #[true, true, true, true, true, true, true, false, false, false] rfl rfl (take_ofW HT_.out HW_.out (by kernel_rfl)) (fun _ _ _ h => h) (Or.inl ⟨by rfl, ?_⟩) hHeld ?_ ?_
                rotate_left
                · rintro w' ⟨s0, s1, s2, s3, s4, s5, s6, s7, s8⟩
                  go_simp
                  with_reducible rfl
                rotate_left
                · simp only [Act.put, List.setIfInBounds_toArray, List.set_cons_zero, List.set_cons_succ, i64_w, i32_w]
                  rfl
                refine one_ (i := 7) (N := some 57) #[true, true, true, true, true, true, true, true, false, false] rfl rfl (one_of HT_.out (by kernel_rfl)) (by decide) (fun K hK => ?_)
                refine goes_ Try.func26 (by kernel_rfl) rfl #[.agg #[.int .u64 t276, .int .u64 t277], .int .i64 a1, .agg #[.int .i64 a2_0, .int .i64 a2_1, .int .i64 a2_2, .int .i64 a2_3], .int .i64 ji16] (by rfl) rfl rfl (by (try simp only [List.map_toArray, List.map_cons, List.map_nil]); first | done | (simp only [hji16]; rfl) | rfl | (simp only [List.length_drop, List.length_take]; rfl)) ?_
                with_reducible refine (cookie_veil.calls kj5 t276 t277 a1 a2_0 a2_1 a2_2 a2_3 ji16 t280 _ A23.out).mono ?_
                rintro e w44 ⟨rfl, hb⟩
                refine ⟨_, rfl, ?_⟩
                have n0_ := Aside0.mk (blk_below (g := gb272) (o := .cells #[.int .i64 a0_0, .int .u64 a0_1, .int .u64 a0_2, .int .u64 a0_3, .int .u64 a0_4, .int .u64 a0_5, .int .u64 a0_6] 31 (0, 0)) (by (with_reducible repeat (first | refine blk_drewN ?_ _ | refine blk_drew ?_ | refine blk_alloc ?_ _)); exact BK272.out) hb)
                have n1_ := Aside0.mk (blk_below (g := gb273) (o := .cells #[.int .i64 a2_0, .int .i64 a2_1, .int .i64 a2_2, .int .i64 a2_3] 36 (0, 0)) (by (with_reducible repeat (first | refine blk_drewN ?_ _ | refine blk_drew ?_ | refine blk_alloc ?_ _)); exact BK273.out) hb)
                have n2_ := Aside0.mk (blk_below (g := gb275) (o := .cells #[.int .i64 ji16, .int .i64 (Go.bits .and .i64 (ji18) 63), .int .i64 (Go.bits .and .i64 a3 (wrap64 ((ji20) - 1)))] 75 (0, 0)) (by (with_reducible repeat (first | refine blk_drewN ?_ _ | refine blk_drew ?_ | refine blk_alloc ?_ _)); exact BK275.out) hb)
                have n3_ := Aside0.mk (blk_below (g := gb279) (o := .cells #[.int .u64 t276, .int .u64 t277] 29 (0, 0)) (by (with_reducible repeat (first | refine blk_drewN ?_ _ | refine blk_drew ?_ | refine blk_alloc ?_ _)); exact BK279.out) hb)
                have n4_ := Aside0.mk (below_step (by repeat (first | (with_reducible first | exact HB.out | apply below_alloc | apply pw_below_drewN | apply below_drew1 | refine below_set ?_ GE272.out | refine below_set ?_ GE273.out | refine below_set ?_ GE275.out | refine below_set ?_ GE279.out) | exact HB.out)) hb)
                clear BK272
                clear BK273
                clear BK275
                clear BK279
                clear HB
                have BK272 := n0_
                have BK273 := n1_
                have BK275 := n2_
                have BK279 := n3_
                have HB := n4_
                clear n0_ n1_ n2_ n3_ n4_
                (try clear hb)
                (try clear hb2)
                (try clear hk)
                (try clear hi)
                refine hK.out _ _ ⟨(blk_cell BK275.out 0).trans rfl, (blk_cell BK275.out 1).trans rfl, (blk_cell BK275.out 2).trans rfl, (blk_cell BK279.out 0).trans rfl, (blk_cell BK279.out 1).trans rfl, (blk_cell BK273.out 0).trans rfl, (blk_cell BK273.out 1).trans rfl, (blk_cell BK273.out 2).trans rfl, (blk_cell BK273.out 3).trans rfl⟩ (fun hHeld => ?_)
                clear hK K
                refine norm_ (a' := ?_) ?_ ?_
                rotate_left
                · show Act.put _ (some 57) _ = _
                  simp only [Act.put, List.setIfInBounds_toArray, List.set_cons_zero, List.set_cons_succ, i64_w, i32_w]
                  rfl
                refine pure_ (i := 8) (N := some 58) (v := ?_) (a' := ?_) #[true, true, true, true, true, true, true, true, true, false] rfl rfl (any_of HT_.out (by kernel_rfl)) (fun _ _ _ h => h) (Or.inl ⟨by rfl, ?_⟩) ?_ ?_
                rotate_left
                · intro w'
                  go_simp
                  with_reducible rfl
                rotate_left
                · simp only [Act.put, List.setIfInBounds_toArray, List.set_cons_zero, List.set_cons_succ, i64_w, i32_w]
                  rfl
                refine pure_ (i := 9) (N := some 14) (v := ?_) (a' := ?_) #[true, true, true, true, true, true, true, true, true, true] rfl rfl (any_of HT_.out (by kernel_rfl)) (fun _ _ _ h => h) (Or.inl ⟨by rfl, ?_⟩) ?_ ?_
                rotate_left
                · intro w'
                  go_simp
                  with_reducible rfl
                rotate_left
                · simp only [Act.put, List.setIfInBounds_toArray, List.set_cons_zero, List.set_cons_succ, i64_w, i32_w]
                  rfl
                refine done_ (done_of HT_.out (by kernel_rfl)) ?_
                try go_wp2
                have n0_ := Aside0.mk (blk_drew BK272.out)
                have n1_ := Aside0.mk (blk_drew BK273.out)
                have n2_ := Aside0.mk (blk_drew BK275.out)
                have n3_ := Aside0.mk (blk_drew BK279.out)
                have n4_ := Aside0.mk (below_drew1 HB.out)
                clear BK272
                clear BK273
                clear BK275
                clear BK279
                clear HB
                have BK272 := n0_
                have BK273 := n1_
                have BK275 := n2_
                have BK279 := n3_
                have HB := n4_
                clear n0_ n1_ n2_ n3_ n4_
                refine start_ (n := 14) (S := fun w' => w'.cell? ⟨gb275, 0, none⟩ = some (.int .i64 ji16) ∧ w'.cell? ⟨gb275, 1, none⟩ = some (.int .i64 (Go.bits .and .i64 (ji18) 63)) ∧ w'.cell? ⟨gb275, 2, none⟩ = some (.int .i64 (Go.bits .and .i64 a3 (wrap64 ((ji20) - 1)))) ∧ w'.cell? ⟨gb279, 0, none⟩ = some (.int .u64 t276) ∧ w'.cell? ⟨gb279, 1, none⟩ = some (.int .u64 t277) ∧ w'.cell? ⟨gb273, 0, none⟩ = some (.int .i64 a2_0) ∧ w'.cell? ⟨gb273, 1, none⟩ = some (.int .i64 a2_1) ∧ w'.cell? ⟨gb273, 2, none⟩ = some (.int .i64 a2_2) ∧ w'.cell? ⟨gb273, 3, none⟩ = some (.int .i64 a2_3)) (ds := []) #[false, false, false, false, false, false, false, false, false, false, false, false, false, false] (by kernel_rfl) rfl rfl ⟨(blk_cell BK275.out 0).trans rfl, (blk_cell BK275.out 1).trans rfl, (blk_cell BK275.out 2).trans rfl, (blk_cell BK279.out 0).trans rfl, (blk_cell BK279.out 1).trans rfl, (blk_cell BK273.out 0).trans rfl, (blk_cell BK273.out 1).trans rfl, (blk_cell BK273.out 2).trans rfl, (blk_cell BK273.out 3).trans rfl⟩ (fun hHeld => ?_); refine with_tabW cookie_Read.tab9 cookie_Read.bits9 (fun HT_ HW_ => ?_)
                generalize w44.drew = w45 at BK272 BK273 BK275 BK279 HB hHeld ⊢
                refine pure_ (i := 0) (N := some 59) (v := ?_) (a' := ?_) #[true, false, false, false, false, false, false, false, false, false, false, false, false, false] rfl rfl (any_of HT_.out (by kernel_rfl)) (fun _ _ _ h => h) (Or.inl ⟨by rfl, ?_⟩) ?_ ?_
                rotate_left
                · intro w'
                  go_simp
                  with_reducible rfl
                rotate_left
                · simp only [Act.put, List.setIfInBounds_toArray, List.set_cons_zero, List.set_cons_succ, i64_w, i32_w]
                  rfl
                refine pure_ (i := 2) (N := some 61) (v := ?_) (a' := ?_) #[true, false, true, false, false, false, false, false, false, false, false, false, false, false] rfl rfl (any_of HT_.out (by kernel_rfl)) (fun _ _ _ h => h) (Or.inl ⟨by rfl, ?_⟩) ?_ ?_
                rotate_left
                · intro w'
                  go_simp
                  with_reducible rfl
                rotate_left
                · simp only [Act.put, List.setIfInBounds_toArray, List.set_cons_zero, List.set_cons_succ, i64_w, i32_w]
                  rfl
                refine pure_ (i := 5) (N := some 64) (v := ?_) (a' := ?_) #[true, false, true, false, false, true, false, false, false, false, false, false, false, false] rfl rfl (any_of HT_.out (by kernel_rfl)) (fun _ _ _ h => h) (Or.inl ⟨by rfl, ?_⟩) ?_ ?_
                rotate_left
                · intro w'
                  go_simp
                  with_reducible rfl
                rotate_left
                · simp only [Act.put, List.setIfInBounds_toArray, List.set_cons_zero, List.set_cons_succ, i64_w, i32_w]
                  rfl
                refine pure_ (i := 7) (N := some 66) (v := ?_) (a' := ?_) #[true, false, true, false, false, true, false, true, false, false, false, false, false, false] rfl rfl (any_of HT_.out (by kernel_rfl)) (fun _ _ _ h => h) (Or.inl ⟨by rfl, ?_⟩) ?_ ?_
                rotate_left
                · intro w'
                  go_simp
                  with_reducible rfl
                rotate_left
                · simp only [Act.put, List.setIfInBounds_toArray, List.set_cons_zero, List.set_cons_succ, i64_w, i32_w]
                  rfl
                refine pure_ (i := 8) (N := some 67) (v := ?_) (a' := ?_) #[true, false, true, false, false, true, false, true, true, false, false, false, false, false] rfl rfl (any_of HT_.out (by kernel_rfl)) (fun _ _ _ h => h) (Or.inl ⟨by rfl, ?_⟩) ?_ ?_
                rotate_left
                · intro w'
                  go_simp
                  with_reducible rfl
                rotate_left
                · simp only [Act.put, List.setIfInBounds_toArray, List.set_cons_zero, List.set_cons_succ, i64_w, i32_w]
                  rfl
                refine take_ (i := 1) (N := some 60) (v := ?_) (a' := ?_) #[true, true, true, false, false, true, false, true, true, false, false, false, false, false] rfl rfl (take_ofW HT_.out HW_.out (by kernel_rfl)) (fun _ _ _ h => h) (Or.inl ⟨by rfl, ?_⟩) hHeld ?_ ?_
                rotate_left
                · rintro w' ⟨s0, s1, s2, s3, s4, s5, s6, s7, s8⟩
                  go_simp
                  with_reducible rfl
                rotate_left
                · simp only [Act.put, List.setIfInBounds_toArray, List.set_cons_zero, List.set_cons_succ, i64_w, i32_w]
                  rfl
                refine take_ (i := 3) (N := some 62) (v := ?_) (a' := ?_) #[true, true, true, true, false, true, false, true, true, false, false, false, false, false] rfl rfl (take_ofW HT_.out HW_.out (by kernel_rfl)) (fun _ _ _ h => h) (Or.inl ⟨by rfl, ?_⟩) hHeld ?_ ?_
                rotate_left
                · rintro w' ⟨s0, s1, s2, s3, s4, s5, s6, s7, s8⟩
                  go_simp
                  with_reducible rfl
                rotate_left
                · simp only [Act.put, List.setIfInBounds_toArray, List.set_cons_zero, List.set_cons_succ, i64_w, i32_w]
                  rfl
                refine take_ (i := 4) (N := some 63) (v := ?_) (a' := ?_) #[true, true, true, true, true, true, false, true, true, false, false, false, false, false] rfl rfl (take_ofW HT_.out HW_.out (by kernel_rfl)) (fun _ _ _ h => h) (Or.inl ⟨by rfl, ?_⟩) hHeld ?_ ?_
                rotate_left
                · rintro w' ⟨s0, s1, s2, s3, s4, s5, s6, s7, s8⟩
                  go_simp
                  with_reducible rfl
                rotate_left
                · simp only [Act.put, List.setIfInBounds_toArray, List.set_cons_zero, List.set_cons_succ, i64_w, i32_w]
                  rfl
                refine take_ (i := 6) (N := some 65) (v := ?_) (a' := ?_) #[true, true, true, true, true, true, true, true, true, false, false, false, false, false] rfl rfl (take_ofW HT_.out HW_.out (by kernel_rfl)) (fun _ _ _ h => h) (Or.inl ⟨by rfl, ?_⟩) hHeld ?_ ?_
                rotate_left
                · rintro w' ⟨s0, s1, s2, s3, s4, s5, s6, s7, s8⟩
                  go_simp
                  with_reducible rfl
                rotate_left
                · simp only [Act.put, List.setIfInBounds_toArray, List.set_cons_zero, List.set_cons_succ, i64_w, i32_w]
                  rfl
                refine take_ (i := 9) (N := some 68) (v := ?_) (a' := ?_) #[true, true, true, true, true, true, true, true, true, true, false, false, false, false] rfl rfl (take_ofW HT_.out HW_.out (by kernel_rfl)) (fun _ _ _ h => h) (Or.inl ⟨by rfl, ?_⟩) hHeld ?_ ?_
                rotate_left
                · rintro w' ⟨s0, s1, s2, s3, s4, s5, s6, s7, s8⟩
                  go_simp
                  with_reducible rfl
                rotate_left
                · simp only [Act.put, List.setIfInBounds_toArray, List.set_cons_zero, List.set_cons_succ, i64_w, i32_w]
                  rfl
                refine join_ (σ := Nat) 1 #[true, true, true, true, true, true, true, true, true, true, true, true, true, false] (fun s_ => [(69, .int .i64 t281), (15, .pointer (some ⟨s_, 0, none⟩)), (70, .agg #[.int .i64 ji16, .int .i64 (Go.bits .and .i64 (ji18) 63), .int .i64 t281])]) (fun s_ w' => (w'.cell? ⟨gb275, 0, none⟩ = some (.int .i64 ji16) ∧ w'.cell? ⟨gb275, 1, none⟩ = some (.int .i64 (Go.bits .and .i64 (ji18) 63)) ∧ w'.cell? ⟨gb275, 2, none⟩ = some (.int .i64 (Go.bits .and .i64 a3 (wrap64 ((ji20) - 1)))) ∧ w'.cell? ⟨gb279, 0, none⟩ = some (.int .u64 t276) ∧ w'.cell? ⟨gb279, 1, none⟩ = some (.int .u64 t277) ∧ w'.cell? ⟨gb273, 0, none⟩ = some (.int .i64 a2_0) ∧ w'.cell? ⟨gb273, 1, none⟩ = some (.int .i64 a2_1) ∧ w'.cell? ⟨gb273, 2, none⟩ = some (.int .i64 a2_2) ∧ w'.cell? ⟨gb273, 3, none⟩ = some (.int .i64 a2_3)) ∧ (w'.heap[gb272]? = some (.cells #[.int .i64 a0_0, .int .u64 a0_1, .int .u64 a0_2, .int .u64 a0_3, .int .u64 a0_4, .int .u64 a0_5, .int .u64 a0_6] 31 (0, 0))) ∧ (w'.heap[gb273]? = some (.cells #[.int .i64 a2_0, .int .i64 a2_1, .int .i64 a2_2, .int .i64 a2_3] 36 (0, 0))) ∧ (w'.heap[gb275]? = some (.cells #[.int .i64 ji16, .int .i64 (Go.bits .and .i64 (ji18) 63), .int .i64 (Go.bits .and .i64 a3 (wrap64 ((ji20) - 1)))] 75 (0, 0))) ∧ (w'.heap[gb279]? = some (.cells #[.int .u64 t276, .int .u64 t277] 29 (0, 0))) ∧ (w'.heap[s_]? = some (.cells #[.int .i64 0, .int .i64 0, .int .i64 0] 75 (0, 0))) ∧ (w.heap.size ≤ s_) ∧ (w.heap.size ≤ s_) ∧ (gb272 ≠ s_) ∧ (s_ ≠ gb272) ∧ (gb273 ≠ s_) ∧ (s_ ≠ gb273) ∧ (gb275 ≠ s_) ∧ (s_ ≠ gb275) ∧ (gb279 ≠ s_) ∧ (s_ ≠ gb279) ∧ (Below w.heap.size w w')) ?_ ?_
                rotate_left
                · intro hCont
                  refine two_ (i := 10) (j := 12) (Ni := some 69) (Nj := some 15) #[true, true, true, true, true, true, true, true, true, true, true, false, false, false] #[true, true, true, true, true, true, true, true, true, true, false, false, true, false] rfl rfl rfl rfl (two_of HT_.out (by kernel_rfl)) (by decide) (by decide) (fun K hK => ?_) (fun K hK => ?_)
                  · skip
                    refine goes_ Try.func27 (by kernel_rfl) rfl #[.agg #[.int .u64 t276, .int .u64 t277], .int .i64 a1, .agg #[.int .i64 a2_0, .int .i64 a2_1, .int .i64 a2_2, .int .i64 a2_3], .int .i64 (Go.bits .xor .i64 (Go.bits .and .i64 (ji18) 63) t280), .int .i64 ji16] (by rfl) rfl rfl (by (try simp only [List.map_toArray, List.map_cons, List.map_nil]); first | done | (simp only [hji16, hji18]; rfl) | rfl | (simp only [List.length_drop, List.length_take]; rfl)) ?_
                    with_reducible refine (cookie_tag.calls kj5 t276 t277 a1 a2_0 a2_1 a2_2 a2_3 (Go.bits .xor .i64 (Go.bits .and .i64 (ji18) 63) t280) ji16 t281 _ A24.out).mono ?_
                    rintro e w46 ⟨rfl, hb⟩
                    refine ⟨_, rfl, ?_⟩
                    have n0_ := Aside0.mk (blk_below (g := gb272) (o := .cells #[.int .i64 a0_0, .int .u64 a0_1, .int .u64 a0_2, .int .u64 a0_3, .int .u64 a0_4, .int .u64 a0_5, .int .u64 a0_6] 31 (0, 0)) (by (with_reducible repeat (first | refine blk_drewN ?_ _ | refine blk_drew ?_ | refine blk_alloc ?_ _)); exact BK272.out) hb)
                    have n1_ := Aside0.mk (blk_below (g := gb273) (o := .cells #[.int .i64 a2_0, .int .i64 a2_1, .int .i64 a2_2, .int .i64 a2_3] 36 (0, 0)) (by (with_reducible repeat (first | refine blk_drewN ?_ _ | refine blk_drew ?_ | refine blk_alloc ?_ _)); exact BK273.out) hb)
                    have n2_ := Aside0.mk (blk_below (g := gb275) (o := .cells #[.int .i64 ji16, .int .i64 (Go.bits .and .i64 (ji18) 63), .int .i64 (Go.bits .and .i64 a3 (wrap64 ((ji20) - 1)))] 75 (0, 0)) (by (with_reducible repeat (first | refine blk_drewN ?_ _ | refine blk_drew ?_ | refine blk_alloc ?_ _)); exact BK275.out) hb)
                    have n3_ := Aside0.mk (blk_below (g := gb279) (o := .cells #[.int .u64 t276, .int .u64 t277] 29 (0, 0)) (by (with_reducible repeat (first | refine blk_drewN ?_ _ | refine blk_drew ?_ | refine blk_alloc ?_ _)); exact BK279.out) hb)
                    have n4_ := Aside0.mk (below_step (by repeat (first | (with_reducible first | exact HB.out | apply below_alloc | apply pw_below_drewN | apply below_drew1 | refine below_set ?_ GE272.out | refine below_set ?_ GE273.out | refine below_set ?_ GE275.out | refine below_set ?_ GE279.out) | exact HB.out)) hb)
                    clear BK272
                    clear BK273
                    clear BK275
                    clear BK279
                    clear HB
                    have BK272 := n0_
                    have BK273 := n1_
                    have BK275 := n2_
                    have BK279 := n3_
                    have HB := n4_
                    clear n0_ n1_ n2_ n3_ n4_
                    (try clear hb)
                    (try clear hb2)
                    (try clear hk)
                    (try clear hi)
                    refine hK.out _ _ ⟨(blk_cell BK275.out 0).trans rfl, (blk_cell BK275.out 1).trans rfl, (blk_cell BK275.out 2).trans rfl, (blk_cell BK279.out 0).trans rfl, (blk_cell BK279.out 1).trans rfl, (blk_cell BK273.out 0).trans rfl, (blk_cell BK273.out 1).trans rfl, (blk_cell BK273.out 2).trans rfl, (blk_cell BK273.out 3).trans rfl⟩ (fun hHeld => ?_)
                    clear hK K
                    refine norm_ (a' := ?_) ?_ ?_
                    rotate_left
                    · show Act.put _ (some 69) _ = _
                      simp only [Act.put, List.setIfInBounds_toArray, List.set_cons_zero, List.set_cons_succ, i64_w, i32_w]
                      rfl
                    refine pure_ (i := 11) (N := some 70) (v := ?_) (a' := ?_) #[true, true, true, true, true, true, true, true, true, true, true, true, false, false] rfl rfl (any_of HT_.out (by kernel_rfl)) (fun _ _ _ h => h) (Or.inl ⟨by rfl, ?_⟩) ?_ ?_
                    rotate_left
                    · intro w'
                      go_simp
                      with_reducible rfl
                    rotate_left
                    · simp only [Act.put, List.setIfInBounds_toArray, List.set_cons_zero, List.set_cons_succ, i64_w, i32_w]
                      rfl
                    refine one_ (i := 12) (N := some 15) #[true, true, true, true, true, true, true, true, true, true, true, true, true, false] rfl rfl (one_of HT_.out (by kernel_rfl)) (by decide) (fun K hK => ?_)
                    refine box_step ?hg (N := 15) ?hd (cs := #[.int .i64 0, .int .i64 0, .int .i64 0]) (t := 75) ?hr ?_; (case hd => rfl); (case hg => rfl); (case hr => first | (go_simp; done) | (go_simp; rfl))
                    intro gb282 hg w47 hbox hb
                    have n0_ := Aside0.mk (blk_below (g := gb272) (o := .cells #[.int .i64 a0_0, .int .u64 a0_1, .int .u64 a0_2, .int .u64 a0_3, .int .u64 a0_4, .int .u64 a0_5, .int .u64 a0_6] 31 (0, 0)) (by (with_reducible repeat (first | refine blk_drewN ?_ _ | refine blk_drew ?_ | refine blk_alloc ?_ _)); exact BK272.out) hb)
                    have n1_ := Aside0.mk (blk_below (g := gb273) (o := .cells #[.int .i64 a2_0, .int .i64 a2_1, .int .i64 a2_2, .int .i64 a2_3] 36 (0, 0)) (by (with_reducible repeat (first | refine blk_drewN ?_ _ | refine blk_drew ?_ | refine blk_alloc ?_ _)); exact BK273.out) hb)
                    have n2_ := Aside0.mk (blk_below (g := gb275) (o := .cells #[.int .i64 ji16, .int .i64 (Go.bits .and .i64 (ji18) 63), .int .i64 (Go.bits .and .i64 a3 (wrap64 ((ji20) - 1)))] 75 (0, 0)) (by (with_reducible repeat (first | refine blk_drewN ?_ _ | refine blk_drew ?_ | refine blk_alloc ?_ _)); exact BK275.out) hb)
                    have n3_ := Aside0.mk (blk_below (g := gb279) (o := .cells #[.int .u64 t276, .int .u64 t277] 29 (0, 0)) (by (with_reducible repeat (first | refine blk_drewN ?_ _ | refine blk_drew ?_ | refine blk_alloc ?_ _)); exact BK279.out) hb)
                    have n4_ := Aside0.mk (below_step (by repeat (first | (with_reducible first | exact HB.out | apply below_alloc | apply pw_below_drewN | apply below_drew1 | refine below_set ?_ GE272.out | refine below_set ?_ GE273.out | refine below_set ?_ GE275.out | refine below_set ?_ GE279.out) | exact HB.out)) hb)
                    have n5_ := Aside0.mk (hbox)
                    have n6_ := Aside0.mk ((by rw [hg]; exact (below_size (by repeat (first | (with_reducible first | exact HB.out | apply below_alloc | apply pw_below_drewN | apply below_drew1 | refine below_set ?_ GE272.out | refine below_set ?_ GE273.out | refine below_set ?_ GE275.out | refine below_set ?_ GE279.out) | exact HB.out))) : w.heap.size ≤ gb282))
                    have n7_ := Aside0.mk ((by rw [hg]; exact (below_size (by repeat (first | (with_reducible first | exact HB.out | apply below_alloc | apply pw_below_drewN | apply below_drew1 | refine below_set ?_ GE272.out | refine below_set ?_ GE273.out | refine below_set ?_ GE275.out | refine below_set ?_ GE279.out) | exact HB.out))) : w.heap.size ≤ gb282))
                    have n8_ := Aside0.mk ((by rw [hg]; exact Nat.ne_of_lt (blk_lt (g := gb272) (o := .cells #[.int .i64 a0_0, .int .u64 a0_1, .int .u64 a0_2, .int .u64 a0_3, .int .u64 a0_4, .int .u64 a0_5, .int .u64 a0_6] 31 (0, 0)) (by (with_reducible repeat (first | refine blk_drewN ?_ _ | refine blk_drew ?_ | refine blk_alloc ?_ _)); exact BK272.out)) : gb272 ≠ gb282))
                    have n9_ := Aside0.mk ((by rw [hg]; exact Nat.ne_of_gt (blk_lt (g := gb272) (o := .cells #[.int .i64 a0_0, .int .u64 a0_1, .int .u64 a0_2, .int .u64 a0_3, .int .u64 a0_4, .int .u64 a0_5, .int .u64 a0_6] 31 (0, 0)) (by (with_reducible repeat (first | refine blk_drewN ?_ _ | refine blk_drew ?_ | refine blk_alloc ?_ _)); exact BK272.out)) : gb282 ≠ gb272))
                    have n10_ := Aside0.mk ((by rw [hg]; exact Nat.ne_of_lt (blk_lt (g := gb273) (o := .cells #[.int .i64 a2_0, .int .i64 a2_1, .int .i64 a2_2, .int .i64 a2_3] 36 (0, 0)) (by (with_reducible repeat (first | refine blk_drewN ?_ _ | refine blk_drew ?_ | refine blk_alloc ?_ _)); exact BK273.out)) : gb273 ≠ gb282))
                    have n11_ := Aside0.mk ((by rw [hg]; exact Nat.ne_of_gt (blk_lt (g := gb273) (o := .cells #[.int .i64 a2_0, .int .i64 a2_1, .int .i64 a2_2, .int .i64 a2_3] 36 (0, 0)) (by (with_reducible repeat (first | refine blk_drewN ?_ _ | refine blk_drew ?_ | refine blk_alloc ?_ _)); exact BK273.out)) : gb282 ≠ gb273))
                    have n12_ := Aside0.mk ((by rw [hg]; exact Nat.ne_of_lt (blk_lt (g := gb275) (o := .cells #[.int .i64 ji16, .int .i64 (Go.bits .and .i64 (ji18) 63), .int .i64 (Go.bits .and .i64 a3 (wrap64 ((ji20) - 1)))] 75 (0, 0)) (by (with_reducible repeat (first | refine blk_drewN ?_ _ | refine blk_drew ?_ | refine blk_alloc ?_ _)); exact BK275.out)) : gb275 ≠ gb282))
                    have n13_ := Aside0.mk ((by rw [hg]; exact Nat.ne_of_gt (blk_lt (g := gb275) (o := .cells #[.int .i64 ji16, .int .i64 (Go.bits .and .i64 (ji18) 63), .int .i64 (Go.bits .and .i64 a3 (wrap64 ((ji20) - 1)))] 75 (0, 0)) (by (with_reducible repeat (first | refine blk_drewN ?_ _ | refine blk_drew ?_ | refine blk_alloc ?_ _)); exact BK275.out)) : gb282 ≠ gb275))
                    have n14_ := Aside0.mk ((by rw [hg]; exact Nat.ne_of_lt (blk_lt (g := gb279) (o := .cells #[.int .u64 t276, .int .u64 t277] 29 (0, 0)) (by (with_reducible repeat (first | refine blk_drewN ?_ _ | refine blk_drew ?_ | refine blk_alloc ?_ _)); exact BK279.out)) : gb279 ≠ gb282))
                    have n15_ := Aside0.mk ((by rw [hg]; exact Nat.ne_of_gt (blk_lt (g := gb279) (o := .cells #[.int .u64 t276, .int .u64 t277] 29 (0, 0)) (by (with_reducible repeat (first | refine blk_drewN ?_ _ | refine blk_drew ?_ | refine blk_alloc ?_ _)); exact BK279.out)) : gb282 ≠ gb279))
                    clear BK272
                    clear BK273
                    clear BK275
                    clear BK279
                    clear HB
                    have BK272 := n0_
                    have BK273 := n1_
                    have BK275 := n2_
                    have BK279 := n3_
                    have HB := n4_
                    have BK282 := n5_
                    have GW282 := n6_
                    have GE282 := n7_
                    have NB272_282 := n8_
                    have NB282_272 := n9_
                    have NB273_282 := n10_
                    have NB282_273 := n11_
                    have NB275_282 := n12_
                    have NB282_275 := n13_
                    have NB279_282 := n14_
                    have NB282_279 := n15_
                    clear n0_ n1_ n2_ n3_ n4_ n5_ n6_ n7_ n8_ n9_ n10_ n11_ n12_ n13_ n14_ n15_
                    clear hb hbox hg
                    refine hK.out _ _ ⟨(blk_cell BK275.out 0).trans rfl, (blk_cell BK275.out 1).trans rfl, (blk_cell BK275.out 2).trans rfl, (blk_cell BK279.out 0).trans rfl, (blk_cell BK279.out 1).trans rfl, (blk_cell BK273.out 0).trans rfl, (blk_cell BK273.out 1).trans rfl, (blk_cell BK273.out 2).trans rfl, (blk_cell BK273.out 3).trans rfl⟩ (fun hHeld => ?_)
                    clear hK K
                    refine norm_ (a' := ?_) ?_ ?_
                    rotate_left
                    · show Act.put _ (some 15) _ = _
                      simp only [Act.put, List.setIfInBounds_toArray, List.set_cons_zero, List.set_cons_succ, i64_w, i32_w]
                      rfl
                    exact norm_ (by simp only [putAll, Act.put, List.setIfInBounds_toArray, List.set_cons_zero, List.set_cons_succ]) (hCont (gb282) _ ⟨hHeld, (by (with_reducible repeat (first | refine blk_drewN ?_ _ | refine blk_drew ?_ | refine blk_alloc ?_ _)); exact BK272.out), (by (with_reducible repeat (first | refine blk_drewN ?_ _ | refine blk_drew ?_ | refine blk_alloc ?_ _)); exact BK273.out), (by (with_reducible repeat (first | refine blk_drewN ?_ _ | refine blk_drew ?_ | refine blk_alloc ?_ _)); exact BK275.out), (by (with_reducible repeat (first | refine blk_drewN ?_ _ | refine blk_drew ?_ | refine blk_alloc ?_ _)); exact BK279.out), (by (with_reducible repeat (first | refine blk_drewN ?_ _ | refine blk_drew ?_ | refine blk_alloc ?_ _)); exact BK282.out), GW282.out, GE282.out, NB272_282.out, NB282_272.out, NB273_282.out, NB282_273.out, NB275_282.out, NB282_275.out, NB279_282.out, NB282_279.out, (by repeat (first | (with_reducible first | exact HB.out | apply below_alloc | apply pw_below_drewN | apply below_drew1 | refine below_set ?_ GE272.out | refine below_set ?_ GE273.out | refine below_set ?_ GE275.out | refine below_set ?_ GE279.out | refine below_set ?_ GE282.out) | exact HB.out))⟩)
                  · skip
                    refine box_step ?hg (N := 15) ?hd (cs := #[.int .i64 0, .int .i64 0, .int .i64 0]) (t := 75) ?hr ?_; (case hd => rfl); (case hg => rfl); (case hr => first | (go_simp; done) | (go_simp; rfl))
                    intro gb282 hg w46 hbox hb
                    have n0_ := Aside0.mk (blk_below (g := gb272) (o := .cells #[.int .i64 a0_0, .int .u64 a0_1, .int .u64 a0_2, .int .u64 a0_3, .int .u64 a0_4, .int .u64 a0_5, .int .u64 a0_6] 31 (0, 0)) (by (with_reducible repeat (first | refine blk_drewN ?_ _ | refine blk_drew ?_ | refine blk_alloc ?_ _)); exact BK272.out) hb)
                    have n1_ := Aside0.mk (blk_below (g := gb273) (o := .cells #[.int .i64 a2_0, .int .i64 a2_1, .int .i64 a2_2, .int .i64 a2_3] 36 (0, 0)) (by (with_reducible repeat (first | refine blk_drewN ?_ _ | refine blk_drew ?_ | refine blk_alloc ?_ _)); exact BK273.out) hb)
                    have n2_ := Aside0.mk (blk_below (g := gb275) (o := .cells #[.int .i64 ji16, .int .i64 (Go.bits .and .i64 (ji18) 63), .int .i64 (Go.bits .and .i64 a3 (wrap64 ((ji20) - 1)))] 75 (0, 0)) (by (with_reducible repeat (first | refine blk_drewN ?_ _ | refine blk_drew ?_ | refine blk_alloc ?_ _)); exact BK275.out) hb)
                    have n3_ := Aside0.mk (blk_below (g := gb279) (o := .cells #[.int .u64 t276, .int .u64 t277] 29 (0, 0)) (by (with_reducible repeat (first | refine blk_drewN ?_ _ | refine blk_drew ?_ | refine blk_alloc ?_ _)); exact BK279.out) hb)
                    have n4_ := Aside0.mk (below_step (by repeat (first | (with_reducible first | exact HB.out | apply below_alloc | apply pw_below_drewN | apply below_drew1 | refine below_set ?_ GE272.out | refine below_set ?_ GE273.out | refine below_set ?_ GE275.out | refine below_set ?_ GE279.out) | exact HB.out)) hb)
                    have n5_ := Aside0.mk (hbox)
                    have n6_ := Aside0.mk ((by rw [hg]; exact (below_size (by repeat (first | (with_reducible first | exact HB.out | apply below_alloc | apply pw_below_drewN | apply below_drew1 | refine below_set ?_ GE272.out | refine below_set ?_ GE273.out | refine below_set ?_ GE275.out | refine below_set ?_ GE279.out) | exact HB.out))) : w.heap.size ≤ gb282))
                    have n7_ := Aside0.mk ((by rw [hg]; exact (below_size (by repeat (first | (with_reducible first | exact HB.out | apply below_alloc | apply pw_below_drewN | apply below_drew1 | refine below_set ?_ GE272.out | refine below_set ?_ GE273.out | refine below_set ?_ GE275.out | refine below_set ?_ GE279.out) | exact HB.out))) : w.heap.size ≤ gb282))
                    have n8_ := Aside0.mk ((by rw [hg]; exact Nat.ne_of_lt (blk_lt (g := gb272) (o := .cells #[.int .i64 a0_0, .int .u64 a0_1, .int .u64 a0_2, .int .u64 a0_3, .int .u64 a0_4, .int .u64 a0_5, .int .u64 a0_6] 31 (0, 0)) (by (with_reducible repeat (first | refine blk_drewN ?_ _ | refine blk_drew ?_ | refine blk_alloc ?_ _)); exact BK272.out)) : gb272 ≠ gb282))
                    have n9_ := Aside0.mk ((by rw [hg]; exact Nat.ne_of_gt (blk_lt (g := gb272) (o := .cells #[.int .i64 a0_0, .int .u64 a0_1, .int .u64 a0_2, .int .u64 a0_3, .int .u64 a0_4, .int .u64 a0_5, .int .u64 a0_6] 31 (0, 0)) (by (with_reducible repeat (first | refine blk_drewN ?_ _ | refine blk_drew ?_ | refine blk_alloc ?_ _)); exact BK272.out)) : gb282 ≠ gb272))
                    have n10_ := Aside0.mk ((by rw [hg]; exact Nat.ne_of_lt (blk_lt (g := gb273) (o := .cells #[.int .i64 a2_0, .int .i64 a2_1, .int .i64 a2_2, .int .i64 a2_3] 36 (0, 0)) (by (with_reducible repeat (first | refine blk_drewN ?_ _ | refine blk_drew ?_ | refine blk_alloc ?_ _)); exact BK273.out)) : gb273 ≠ gb282))
                    have n11_ := Aside0.mk ((by rw [hg]; exact Nat.ne_of_gt (blk_lt (g := gb273) (o := .cells #[.int .i64 a2_0, .int .i64 a2_1, .int .i64 a2_2, .int .i64 a2_3] 36 (0, 0)) (by (with_reducible repeat (first | refine blk_drewN ?_ _ | refine blk_drew ?_ | refine blk_alloc ?_ _)); exact BK273.out)) : gb282 ≠ gb273))
                    have n12_ := Aside0.mk ((by rw [hg]; exact Nat.ne_of_lt (blk_lt (g := gb275) (o := .cells #[.int .i64 ji16, .int .i64 (Go.bits .and .i64 (ji18) 63), .int .i64 (Go.bits .and .i64 a3 (wrap64 ((ji20) - 1)))] 75 (0, 0)) (by (with_reducible repeat (first | refine blk_drewN ?_ _ | refine blk_drew ?_ | refine blk_alloc ?_ _)); exact BK275.out)) : gb275 ≠ gb282))
                    have n13_ := Aside0.mk ((by rw [hg]; exact Nat.ne_of_gt (blk_lt (g := gb275) (o := .cells #[.int .i64 ji16, .int .i64 (Go.bits .and .i64 (ji18) 63), .int .i64 (Go.bits .and .i64 a3 (wrap64 ((ji20) - 1)))] 75 (0, 0)) (by (with_reducible repeat (first | refine blk_drewN ?_ _ | refine blk_drew ?_ | refine blk_alloc ?_ _)); exact BK275.out)) : gb282 ≠ gb275))
                    have n14_ := Aside0.mk ((by rw [hg]; exact Nat.ne_of_lt (blk_lt (g := gb279) (o := .cells #[.int .u64 t276, .int .u64 t277] 29 (0, 0)) (by (with_reducible repeat (first | refine blk_drewN ?_ _ | refine blk_drew ?_ | refine blk_alloc ?_ _)); exact BK279.out)) : gb279 ≠ gb282))
                    have n15_ := Aside0.mk ((by rw [hg]; exact Nat.ne_of_gt (blk_lt (g := gb279) (o := .cells #[.int .u64 t276, .int .u64 t277] 29 (0, 0)) (by (with_reducible repeat (first | refine blk_drewN ?_ _ | refine blk_drew ?_ | refine blk_alloc ?_ _)); exact BK279.out)) : gb282 ≠ gb279))
                    clear BK272
                    clear BK273
                    clear BK275
                    clear BK279
                    clear HB
                    have BK272 := n0_
                    have BK273 := n1_
                    have BK275 := n2_
                    have BK279 := n3_
                    have HB := n4_
                    have BK282 := n5_
                    have GW282 := n6_
                    have GE282 := n7_
                    have NB272_282 := n8_
                    have NB282_272 := n9_
                    have NB273_282 := n10_
                    have NB282_273 := n11_
                    have NB275_282 := n12_
                    have NB282_275 := n13_
                    have NB279_282 := n14_
                    have NB282_279 := n15_
                    clear n0_ n1_ n2_ n3_ n4_ n5_ n6_ n7_ n8_ n9_ n10_ n11_ n12_ n13_ n14_ n15_
                    clear hb hbox hg
                    refine hK.out _ _ ⟨(blk_cell BK275.out 0).trans rfl, (blk_cell BK275.out 1).trans rfl, (blk_cell BK275.out 2).trans rfl, (blk_cell BK279.out 0).trans rfl, (blk_cell BK279.out 1).trans rfl, (blk_cell BK273.out 0).trans rfl, (blk_cell BK273.out 1).trans rfl, (blk_cell BK273.out 2).trans rfl, (blk_cell BK273.out 3).trans rfl⟩ (fun hHeld => ?_)
                    clear hK K
                    refine norm_ (a' := ?_) ?_ ?_
                    rotate_left
                    · show Act.put _ (some 15) _ = _
                      simp only [Act.put, List.setIfInBounds_toArray, List.set_cons_zero, List.set_cons_succ, i64_w, i32_w]
                      rfl
                    refine one_ (i := 10) (N := some 69) #[true, true, true, true, true, true, true, true, true, true, true, false, true, false] rfl rfl (one_of HT_.out (by kernel_rfl)) (by decide) (fun K hK => ?_)
                    refine goes_ Try.func27 (by kernel_rfl) rfl #[.agg #[.int .u64 t276, .int .u64 t277], .int .i64 a1, .agg #[.int .i64 a2_0, .int .i64 a2_1, .int .i64 a2_2, .int .i64 a2_3], .int .i64 (Go.bits .xor .i64 (Go.bits .and .i64 (ji18) 63) t280), .int .i64 ji16] (by rfl) rfl rfl (by (try simp only [List.map_toArray, List.map_cons, List.map_nil]); first | done | (simp only [hji16, hji18]; rfl) | rfl | (simp only [List.length_drop, List.length_take]; rfl)) ?_
                    with_reducible refine (cookie_tag.calls kj5 t276 t277 a1 a2_0 a2_1 a2_2 a2_3 (Go.bits .xor .i64 (Go.bits .and .i64 (ji18) 63) t280) ji16 t281 _ A24.out).mono ?_
                    rintro e w47 ⟨rfl, hb⟩
                    refine ⟨_, rfl, ?_⟩
                    have n0_ := Aside0.mk (blk_below (g := gb272) (o := .cells #[.int .i64 a0_0, .int .u64 a0_1, .int .u64 a0_2, .int .u64 a0_3, .int .u64 a0_4, .int .u64 a0_5, .int .u64 a0_6] 31 (0, 0)) (by (with_reducible repeat (first | refine blk_drewN ?_ _ | refine blk_drew ?_ | refine blk_alloc ?_ _)); exact BK272.out) hb)
                    have n1_ := Aside0.mk (blk_below (g := gb273) (o := .cells #[.int .i64 a2_0, .int .i64 a2_1, .int .i64 a2_2, .int .i64 a2_3] 36 (0, 0)) (by (with_reducible repeat (first | refine blk_drewN ?_ _ | refine blk_drew ?_ | refine blk_alloc ?_ _)); exact BK273.out) hb)
                    have n2_ := Aside0.mk (blk_below (g := gb275) (o := .cells #[.int .i64 ji16, .int .i64 (Go.bits .and .i64 (ji18) 63), .int .i64 (Go.bits .and .i64 a3 (wrap64 ((ji20) - 1)))] 75 (0, 0)) (by (with_reducible repeat (first | refine blk_drewN ?_ _ | refine blk_drew ?_ | refine blk_alloc ?_ _)); exact BK275.out) hb)
                    have n3_ := Aside0.mk (blk_below (g := gb279) (o := .cells #[.int .u64 t276, .int .u64 t277] 29 (0, 0)) (by (with_reducible repeat (first | refine blk_drewN ?_ _ | refine blk_drew ?_ | refine blk_alloc ?_ _)); exact BK279.out) hb)
                    have n4_ := Aside0.mk (blk_below (g := gb282) (o := .cells #[.int .i64 0, .int .i64 0, .int .i64 0] 75 (0, 0)) (by (with_reducible repeat (first | refine blk_drewN ?_ _ | refine blk_drew ?_ | refine blk_alloc ?_ _)); exact BK282.out) hb)
                    have n5_ := Aside0.mk (below_step (by repeat (first | (with_reducible first | exact HB.out | apply below_alloc | apply pw_below_drewN | apply below_drew1 | refine below_set ?_ GE272.out | refine below_set ?_ GE273.out | refine below_set ?_ GE275.out | refine below_set ?_ GE279.out | refine below_set ?_ GE282.out) | exact HB.out)) hb)
                    clear BK272
                    clear BK273
                    clear BK275
                    clear BK279
                    clear BK282
                    clear HB
                    have BK272 := n0_
                    have BK273 := n1_
                    have BK275 := n2_
                    have BK279 := n3_
                    have BK282 := n4_
                    have HB := n5_
                    clear n0_ n1_ n2_ n3_ n4_ n5_
                    (try clear hb)
                    (try clear hb2)
                    (try clear hk)
                    (try clear hi)
                    refine hK.out _ _ ⟨(blk_cell BK275.out 0).trans rfl, (blk_cell BK275.out 1).trans rfl, (blk_cell BK275.out 2).trans rfl, (blk_cell BK279.out 0).trans rfl, (blk_cell BK279.out 1).trans rfl, (blk_cell BK273.out 0).trans rfl, (blk_cell BK273.out 1).trans rfl, (blk_cell BK273.out 2).trans rfl, (blk_cell BK273.out 3).trans rfl⟩ (fun hHeld => ?_)
                    clear hK K
                    refine norm_ (a' := ?_) ?_ ?_
                    rotate_left
                    · show Act.put _ (some 69) _ = _
                      simp only [Act.put, List.setIfInBounds_toArray, List.set_cons_zero, List.set_cons_succ, i64_w, i32_w]
                      rfl
                    refine pure_ (i := 11) (N := some 70) (v := ?_) (a' := ?_) #[true, true, true, true, true, true, true, true, true, true, true, true, true, false] rfl rfl (any_of HT_.out (by kernel_rfl)) (fun _ _ _ h => h) (Or.inl ⟨by rfl, ?_⟩) ?_ ?_
                    rotate_left
                    · intro w'
                      go_simp
                      with_reducible rfl
                    rotate_left
                    · simp only [Act.put, List.setIfInBounds_toArray, List.set_cons_zero, List.set_cons_succ, i64_w, i32_w]
                      rfl
                    exact norm_ (by simp only [putAll, Act.put, List.setIfInBounds_toArray, List.set_cons_zero, List.set_cons_succ]) (hCont (gb282) _ ⟨hHeld, (by (with_reducible repeat (first | refine blk_drewN ?_ _ | refine blk_drew ?_ | refine blk_alloc ?_ _)); exact BK272.out), (by (with_reducible repeat (first | refine blk_drewN ?_ _ | refine blk_drew ?_ | refine blk_alloc ?_ _)); exact BK273.out), (by (with_reducible repeat (first | refine blk_drewN ?_ _ | refine blk_drew ?_ | refine blk_alloc ?_ _)); exact BK275.out), (by (with_reducible repeat (first | refine blk_drewN ?_ _ | refine blk_drew ?_ | refine blk_alloc ?_ _)); exact BK279.out), (by (with_reducible repeat (first | refine blk_drewN ?_ _ | refine blk_drew ?_ | refine blk_alloc ?_ _)); exact BK282.out), GW282.out, GE282.out, NB272_282.out, NB282_272.out, NB273_282.out, NB282_273.out, NB275_282.out, NB282_275.out, NB279_282.out, NB282_279.out, (by repeat (first | (with_reducible first | exact HB.out | apply below_alloc | apply pw_below_drewN | apply below_drew1 | refine below_set ?_ GE272.out | refine below_set ?_ GE273.out | refine below_set ?_ GE275.out | refine below_set ?_ GE279.out | refine below_set ?_ GE282.out) | exact HB.out))⟩)
                rintro gb282 w48 ⟨hS_, h0_, h1_, h2_, h3_, h4_, h5_, h6_, h7_, h8_, h9_, h10_, h11_, h12_, h13_, h14_, h15_⟩
                have n0_ : Aside0 (w48.heap[gb272]? = some (.cells #[.int .i64 a0_0, .int .u64 a0_1, .int .u64 a0_2, .int .u64 a0_3, .int .u64 a0_4, .int .u64 a0_5, .int .u64 a0_6] 31 (0, 0))) := ⟨h0_⟩
                have n1_ : Aside0 (w48.heap[gb273]? = some (.cells #[.int .i64 a2_0, .int .i64 a2_1, .int .i64 a2_2, .int .i64 a2_3] 36 (0, 0))) := ⟨h1_⟩
                have n2_ : Aside0 (w48.heap[gb275]? = some (.cells #[.int .i64 ji16, .int .i64 (Go.bits .and .i64 (ji18) 63), .int .i64 (Go.bits .and .i64 a3 (wrap64 ((ji20) - 1)))] 75 (0, 0))) := ⟨h2_⟩
                have n3_ : Aside0 (w48.heap[gb279]? = some (.cells #[.int .u64 t276, .int .u64 t277] 29 (0, 0))) := ⟨h3_⟩
                have n4_ : Aside0 (w48.heap[gb282]? = some (.cells #[.int .i64 0, .int .i64 0, .int .i64 0] 75 (0, 0))) := ⟨h4_⟩
                have n5_ : Aside0 (w.heap.size ≤ gb282) := ⟨h5_⟩
                have n6_ : Aside0 (w.heap.size ≤ gb282) := ⟨h6_⟩
                have n7_ : Aside0 (gb272 ≠ gb282) := ⟨h7_⟩
                have n8_ : Aside0 (gb282 ≠ gb272) := ⟨h8_⟩
                have n9_ : Aside0 (gb273 ≠ gb282) := ⟨h9_⟩
                have n10_ : Aside0 (gb282 ≠ gb273) := ⟨h10_⟩
                have n11_ : Aside0 (gb275 ≠ gb282) := ⟨h11_⟩
                have n12_ : Aside0 (gb282 ≠ gb275) := ⟨h12_⟩
                have n13_ : Aside0 (gb279 ≠ gb282) := ⟨h13_⟩
                have n14_ : Aside0 (gb282 ≠ gb279) := ⟨h14_⟩
                have n15_ : Aside0 (Below w.heap.size w w48) := ⟨h15_⟩
                clear BK272
                clear BK273
                clear BK275
                clear BK279
                clear HB
                clear h0_ h1_ h2_ h3_ h4_ h5_ h6_ h7_ h8_ h9_ h10_ h11_ h12_ h13_ h14_ h15_
                have BK272 := n0_
                have BK273 := n1_
                have BK275 := n2_
                have BK279 := n3_
                have BK282 := n4_
                have GW282 := n5_
                have GE282 := n6_
                have NB272_282 := n7_
                have NB282_272 := n8_
                have NB273_282 := n9_
                have NB282_273 := n10_
                have NB275_282 := n11_
                have NB282_275 := n12_
                have NB279_282 := n13_
                have NB282_279 := n14_
                have HB := n15_
                clear n0_ n1_ n2_ n3_ n4_ n5_ n6_ n7_ n8_ n9_ n10_ n11_ n12_ n13_ n14_ n15_
                have hHeld : w48.cell? ⟨gb275, 0, none⟩ = some (.int .i64 ji16) ∧ w48.cell? ⟨gb275, 1, none⟩ = some (.int .i64 (Go.bits .and .i64 (ji18) 63)) ∧ w48.cell? ⟨gb275, 2, none⟩ = some (.int .i64 (Go.bits .and .i64 a3 (wrap64 ((ji20) - 1)))) ∧ w48.cell? ⟨gb279, 0, none⟩ = some (.int .u64 t276) ∧ w48.cell? ⟨gb279, 1, none⟩ = some (.int .u64 t277) ∧ w48.cell? ⟨gb273, 0, none⟩ = some (.int .i64 a2_0) ∧ w48.cell? ⟨gb273, 1, none⟩ = some (.int .i64 a2_1) ∧ w48.cell? ⟨gb273, 2, none⟩ = some (.int .i64 a2_2) ∧ w48.cell? ⟨gb273, 3, none⟩ = some (.int .i64 a2_3) := hS_
                refine norm_ (a' := ?_) ?_ ?_
                rotate_left
                · simp only [putAll, Act.put, List.setIfInBounds_toArray, List.set_cons_zero, List.set_cons_succ]
                  rfl
                refine one_ (i := 13) (N := none) #[true, true, true, true, true, true, true, true, true, true, true, true, true, true] rfl rfl (one_of HT_.out (by kernel_rfl)) (by decide) (fun K hK => ?_)
                have hs49 : w48.cell? ⟨gb282, 0, none⟩ = some (.int .i64 0) := (blk_cell BK282.out 0).trans rfl
                have hfs49 := blk_frozen BK282.out 0
                have hns49_0 := NB272_282.out
                have hns49_1 := NB273_282.out
                have hns49_2 := NB275_282.out
                have hns49_3 := NB279_282.out
                have hms49_0 := NB282_272.out
                have hms49_1 := NB282_273.out
                have hms49_2 := NB282_275.out
                have hms49_3 := NB282_279.out
                have hs50 : w48.cell? ⟨gb282, 1, none⟩ = some (.int .i64 0) := (blk_cell BK282.out 1).trans rfl
                have hfs50 := blk_frozen BK282.out 1
                have hns50_0 := NB272_282.out
                have hns50_1 := NB273_282.out
                have hns50_2 := NB275_282.out
                have hns50_3 := NB279_282.out
                have hms50_0 := NB282_272.out
                have hms50_1 := NB282_273.out
                have hms50_2 := NB282_275.out
                have hms50_3 := NB282_279.out
                have hs51 : w48.cell? ⟨gb282, 2, none⟩ = some (.int .i64 0) := (blk_cell BK282.out 2).trans rfl
                have hfs51 := blk_frozen BK282.out 2
                have hns51_0 := NB272_282.out
                have hns51_1 := NB273_282.out
                have hns51_2 := NB275_282.out
                have hns51_3 := NB279_282.out
                have hms51_0 := NB282_272.out
                have hms51_1 := NB282_273.out
                have hms51_2 := NB282_275.out
                have hms51_3 := NB282_279.out
                refine skip_ (w1 := ?_) (by rfl) rfl ?_ ?_
                rotate_left
                · go_simp
                  rfl
                refine hK.out _ _ ⟨((cell_far (p := ⟨gb282, _, none⟩) NB275_282.out _).trans (((cell_far (p := ⟨gb282, _, none⟩) NB275_282.out _).trans (((cell_far (p := ⟨gb282, _, none⟩) NB275_282.out _).trans (hHeld.1)))))), ((cell_far (p := ⟨gb282, _, none⟩) NB275_282.out _).trans (((cell_far (p := ⟨gb282, _, none⟩) NB275_282.out _).trans (((cell_far (p := ⟨gb282, _, none⟩) NB275_282.out _).trans (hHeld.2.1)))))), ((cell_far (p := ⟨gb282, _, none⟩) NB275_282.out _).trans (((cell_far (p := ⟨gb282, _, none⟩) NB275_282.out _).trans (((cell_far (p := ⟨gb282, _, none⟩) NB275_282.out _).trans (hHeld.2.2.1)))))), ((cell_far (p := ⟨gb282, _, none⟩) NB279_282.out _).trans (((cell_far (p := ⟨gb282, _, none⟩) NB279_282.out _).trans (((cell_far (p := ⟨gb282, _, none⟩) NB279_282.out _).trans (hHeld.2.2.2.1)))))), ((cell_far (p := ⟨gb282, _, none⟩) NB279_282.out _).trans (((cell_far (p := ⟨gb282, _, none⟩) NB279_282.out _).trans (((cell_far (p := ⟨gb282, _, none⟩) NB279_282.out _).trans (hHeld.2.2.2.2.1)))))), ((cell_far (p := ⟨gb282, _, none⟩) NB273_282.out _).trans (((cell_far (p := ⟨gb282, _, none⟩) NB273_282.out _).trans (((cell_far (p := ⟨gb282, _, none⟩) NB273_282.out _).trans (hHeld.2.2.2.2.2.1)))))), ((cell_far (p := ⟨gb282, _, none⟩) NB273_282.out _).trans (((cell_far (p := ⟨gb282, _, none⟩) NB273_282.out _).trans (((cell_far (p := ⟨gb282, _, none⟩) NB273_282.out _).trans (hHeld.2.2.2.2.2.2.1)))))), ((cell_far (p := ⟨gb282, _, none⟩) NB273_282.out _).trans (((cell_far (p := ⟨gb282, _, none⟩) NB273_282.out _).trans (((cell_far (p := ⟨gb282, _, none⟩) NB273_282.out _).trans (hHeld.2.2.2.2.2.2.2.1)))))), ((cell_far (p := ⟨gb282, _, none⟩) NB273_282.out _).trans (((cell_far (p := ⟨gb282, _, none⟩) NB273_282.out _).trans (((cell_far (p := ⟨gb282, _, none⟩) NB273_282.out _).trans (hHeld.2.2.2.2.2.2.2.2))))))⟩ (fun hHeld => ?_)
                clear hK K
                refine done_ (done_of HT_.out (by kernel_rfl)) ?_
                have hnb52 := NB282_272.out
                have hnc52 := NB272_282.out
                have hnb53 := NB282_273.out
                have hnc53 := NB273_282.out
                have hnb54 := NB282_275.out
                have hnc54 := NB275_282.out
                have hnb55 := NB282_279.out
                have hnc55 := NB279_282.out
                have hcz56_0 : w48.cell? ⟨gb282, 0, none⟩ = some (.int .i64 0) := (blk_cell BK282.out 0).trans rfl
                have hcz56_1 : w48.cell? ⟨gb282, 1, none⟩ = some (.int .i64 0) := (blk_cell BK282.out 1).trans rfl
                have hcz56_2 : w48.cell? ⟨gb282, 2, none⟩ = some (.int .i64 0) := (blk_cell BK282.out 2).trans rfl
                have hfz56_0 := blk_frozen BK282.out 0
                have hfz56_1 := blk_frozen BK282.out 1
                have hfz56_2 := blk_frozen BK282.out 2
                have hcz57_0 : w48.cell? ⟨gb275, 0, none⟩ = some (.int .i64 ji16) := (blk_cell BK275.out 0).trans rfl
                have hcz57_1 : w48.cell? ⟨gb275, 1, none⟩ = some (.int .i64 (Go.bits .and .i64 (ji18) 63)) := (blk_cell BK275.out 1).trans rfl
                have hcz57_2 : w48.cell? ⟨gb275, 2, none⟩ = some (.int .i64 (Go.bits .and .i64 a3 (wrap64 ((ji20) - 1)))) := (blk_cell BK275.out 2).trans rfl
                have hfz57_0 := blk_frozen BK275.out 0
                have hfz57_1 := blk_frozen BK275.out 1
                have hfz57_2 := blk_frozen BK275.out 2
                try go_wp2
                go_ret2
                exact ⟨by first | rfl | (simp [errW_none, errW_some] <;> rfl) | (simp only [← hji14, ← hji16, ← hji18, ← hji20]; first | rfl | (simp [errW_none, errW_some] <;> rfl)) | (simp [*, errW_none, errW_some] <;> rfl), by repeat (first | (with_reducible first | exact HB.out | apply below_alloc | apply pw_below_drewN | apply below_drew1 | refine below_set ?_ GE272.out | refine below_set ?_ GE273.out | refine below_set ?_ GE275.out | refine below_set ?_ GE279.out | refine below_set ?_ GE282.out) | exact HB.out)⟩
              · rw [if_neg c25] at H
                have c25b0 : (!(t281 == (Go.bits .and .i64 a3 (wrap64 ((ji20) - 1))))) = false := by simpa using c25
                clear c25
                simp only [Option.some.injEq, Prod.mk.injEq] at H
                obtain ⟨rfl, rfl⟩ := H
                try go_wp2
                have n0_ := Aside0.mk (blk_drew BK272.out)
                have n1_ := Aside0.mk (blk_drew BK273.out)
                have n2_ := Aside0.mk (below_drew1 HB.out)
                clear BK272
                clear BK273
                clear HB
                have BK272 := n0_
                have BK273 := n1_
                have HB := n2_
                clear n0_ n1_ n2_
                refine start_ (n := 16) (S := fun w' => True) (ds := []) #[false, false, false, false, false, false, false, false, false, false, false, false, false, false, false, false] (by kernel_rfl) rfl rfl trivial (fun hHeld => ?_); refine with_tabW cookie_Read.tab4 cookie_Read.bits4 (fun HT_ HW_ => ?_)
                generalize wc.drew = w58 at BK272 BK273 HB hHeld ⊢
                refine pure_ (i := 0) (N := some 27) (v := ?_) (a' := ?_) #[true, false, false, false, false, false, false, false, false, false, false, false, false, false, false, false] rfl rfl (any_of HT_.out (by kernel_rfl)) (fun _ _ _ h => h) (Or.inl ⟨by rfl, ?_⟩) ?_ ?_
                rotate_left
                · intro w'
                  go_simp
                  with_reducible rfl
                rotate_left
                · simp only [Act.put, List.setIfInBounds_toArray, List.set_cons_zero, List.set_cons_succ, i64_w, i32_w]
                  rfl
                refine pure_ (i := 1) (N := some 28) (v := ?_) (a' := ?_) #[true, true, false, false, false, false, false, false, false, false, false, false, false, false, false, false] rfl rfl (any_of HT_.out (by kernel_rfl)) (fun _ _ _ h => h) (Or.inl ⟨by rfl, ?_⟩) ?_ ?_
                rotate_left
                · intro w'
                  go_simp
                  with_reducible rfl
                rotate_left
                · simp only [Act.put, List.setIfInBounds_toArray, List.set_cons_zero, List.set_cons_succ, i64_w, i32_w]
                  rfl
                refine pure_ (i := 2) (N := some 29) (v := ?_) (a' := ?_) #[true, true, true, false, false, false, false, false, false, false, false, false, false, false, false, false] rfl rfl (any_of HT_.out (by kernel_rfl)) (fun _ _ _ h => h) (Or.inl ⟨by rfl, ?_⟩) ?_ ?_
                rotate_left
                · intro w'
                  go_simp
                  with_reducible rfl
                rotate_left
                · simp only [Act.put, List.setIfInBounds_toArray, List.set_cons_zero, List.set_cons_succ, i64_w, i32_w]
                  rfl
                refine pure_ (i := 3) (N := some 30) (v := ?_) (a' := ?_) #[true, true, true, true, false, false, false, false, false, false, false, false, false, false, false, false] rfl rfl (any_of HT_.out (by kernel_rfl)) (fun _ _ _ h => h) (Or.inl ⟨by rfl, ?_⟩) ?_ ?_
                rotate_left
                · intro w'
                  go_simp
                  with_reducible rfl
                rotate_left
                · simp only [Act.put, List.setIfInBounds_toArray, List.set_cons_zero, List.set_cons_succ, i64_w, i32_w]
                  rfl
                refine pure_ (i := 4) (N := some 31) (v := ?_) (a' := ?_) #[true, true, true, true, true, false, false, false, false, false, false, false, false, false, false, false] rfl rfl (any_of HT_.out (by kernel_rfl)) (fun _ _ _ h => h) (Or.inl ⟨by rfl, ?_⟩) ?_ ?_
                rotate_left
                · intro w'
                  go_simp
                  with_reducible rfl
                rotate_left
                · simp only [Act.put, List.setIfInBounds_toArray, List.set_cons_zero, List.set_cons_succ, i64_w, i32_w]
                  rfl
                refine pure_ (i := 5) (N := some 32) (v := ?_) (a' := ?_) #[true, true, true, true, true, true, false, false, false, false, false, false, false, false, false, false] rfl rfl (any_of HT_.out (by kernel_rfl)) (fun _ _ _ h => h) (Or.inl ⟨by rfl, ?_⟩) ?_ ?_
                rotate_left
                · intro w'
                  go_simp
                  with_reducible rfl
                rotate_left
                · simp only [Act.put, List.setIfInBounds_toArray, List.set_cons_zero, List.set_cons_succ, i64_w, i32_w]
                  rfl
                refine pure_ (i := 6) (N := some 33) (v := ?_) (a' := ?_) #[true, true, true, true, true, true, true, false, false, false, false, false, false, false, false, false] rfl rfl (any_of HT_.out (by kernel_rfl)) (fun _ _ _ h => h) (Or.inl ⟨by rfl, ?_⟩) ?_ ?_
                rotate_left
                · intro w'
                  go_simp
                  with_reducible rfl
                rotate_left
                · simp only [Act.put, List.setIfInBounds_toArray, List.set_cons_zero, List.set_cons_succ, i64_w, i32_w]
                  rfl
                refine pure_ (i := 7) (N := some 34) (v := ?_) (a' := ?_) #[true, true, true, true, true, true, true, true, false, false, false, false, false, false, false, false] rfl rfl (any_of HT_.out (by kernel_rfl)) (fun _ _ _ h => h) (Or.inl ⟨by rfl, ?_⟩) ?_ ?_
                rotate_left
                · intro w'
                  go_simp
                  with_reducible rfl
                rotate_left
                · simp only [Act.put, List.setIfInBounds_toArray, List.set_cons_zero, List.set_cons_succ, i64_w, i32_w]
                  rfl
                refine pure_ (i := 8) (N := some 35) (v := ?_) (a' := ?_) #[true, true, true, true, true, true, true, true, true, false, false, false, false, false, false, false] rfl rfl (any_of HT_.out (by kernel_rfl)) (fun _ _ _ h => h) (Or.inl ⟨by rfl, ?_⟩) ?_ ?_
                rotate_left
                · intro w'
                  go_simp
                  with_reducible rfl
                rotate_left
                · simp only [Act.put, List.setIfInBounds_toArray, List.set_cons_zero, List.set_cons_succ, i64_w, i32_w]
                  rfl
                refine pure_ (i := 9) (N := some 36) (v := ?_) (a' := ?_) #[true, true, true, true, true, true, true, true, true, true, false, false, false, false, false, false] rfl rfl (any_of HT_.out (by kernel_rfl)) (fun _ _ _ h => h) (Or.inl ⟨by rfl, ?_⟩) ?_ ?_
                rotate_left
                · intro w'
                  go_simp
                  with_reducible rfl
                rotate_left
                · simp only [Act.put, List.setIfInBounds_toArray, List.set_cons_zero, List.set_cons_succ, i64_w, i32_w]
                  rfl
                refine pure_ (i := 10) (N := some 37) (v := ?_) (a' := ?_) #[true, true, true, true, true, true, true, true, true, true, true, false, false, false, false, false] rfl rfl (any_of HT_.out (by kernel_rfl)) (fun _ _ _ h => h) (Or.inl ⟨by rfl, ?_⟩) ?_ ?_
                rotate_left
                · intro w'
                  go_simp
                  with_reducible rfl
                rotate_left
                · simp only [Act.put, List.setIfInBounds_toArray, List.set_cons_zero, List.set_cons_succ, i64_w, i32_w]
                  rfl
                refine pure_ (i := 11) (N := some 38) (v := ?_) (a' := ?_) #[true, true, true, true, true, true, true, true, true, true, true, true, false, false, false, false] rfl rfl (any_of HT_.out (by kernel_rfl)) (fun _ _ _ h => h) (Or.inl ⟨by rfl, ?_⟩) ?_ ?_
                rotate_left
                · intro w'
                  go_simp
                  with_reducible rfl
                rotate_left
                · simp only [Act.put, List.setIfInBounds_toArray, List.set_cons_zero, List.set_cons_succ, i64_w, i32_w]
                  rfl
                refine pure_ (i := 12) (N := some 39) (v := ?_) (a' := ?_) #[true, true, true, true, true, true, true, true, true, true, true, true, true, false, false, false] rfl rfl (any_of HT_.out (by kernel_rfl)) (fun _ _ _ h => h) (Or.inl ⟨by rfl, ?_⟩) ?_ ?_
                rotate_left
                · intro w'
                  go_simp
                  with_reducible rfl
                rotate_left
                · simp only [Act.put, List.setIfInBounds_toArray, List.set_cons_zero, List.set_cons_succ, i64_w, i32_w]
                  rfl
                refine pure_ (i := 13) (N := some 40) (v := ?_) (a' := ?_) #[true, true, true, true, true, true, true, true, true, true, true, true, true, true, false, false] rfl rfl (any_of HT_.out (by kernel_rfl)) (fun _ _ _ h => h) (Or.inl ⟨by rfl, ?_⟩) ?_ ?_
                rotate_left
                · intro w'
                  go_simp
                  with_reducible rfl
                rotate_left
                · simp only [Act.put, List.setIfInBounds_toArray, List.set_cons_zero, List.set_cons_succ, i64_w, i32_w]
                  rfl
                refine one_ (i := 14) (N := some 11) #[true, true, true, true, true, true, true, true, true, true, true, true, true, true, true, false] rfl rfl (one_of HT_.out (by kernel_rfl)) (by decide) (fun K hK => ?_)
                refine box_step ?hg (N := 11) ?hd (cs := #[.int .i64 0, .int .i64 0, .int .i64 0]) (t := 75) ?hr ?_; (case hd => rfl); (case hg => rfl); (case hr => first | (go_simp; done) | (go_simp; rfl))
                intro gb275 hg w59 hbox hb
                have n0_ := Aside0.mk (blk_below (g := gb272) (o := .cells #[.int .i64 a0_0, .int .u64 a0_1, .int .u64 a0_2, .int .u64 a0_3, .int .u64 a0_4, .int .u64 a0_5, .int .u64 a0_6] 31 (0, 0)) (by (with_reducible repeat (first | refine blk_drewN ?_ _ | refine blk_drew ?_ | refine blk_alloc ?_ _)); exact BK272.out) hb)
                have n1_ := Aside0.mk (blk_below (g := gb273) (o := .cells #[.int .i64 a2_0, .int .i64 a2_1, .int .i64 a2_2, .int .i64 a2_3] 36 (0, 0)) (by (with_reducible repeat (first | refine blk_drewN ?_ _ | refine blk_drew ?_ | refine blk_alloc ?_ _)); exact BK273.out) hb)
                have n2_ := Aside0.mk (below_step (by repeat (first | (with_reducible first | exact HB.out | apply below_alloc | apply pw_below_drewN | apply below_drew1 | refine below_set ?_ GE272.out | refine below_set ?_ GE273.out) | exact HB.out)) hb)
                have n3_ := Aside0.mk (hbox)
                have n4_ := Aside0.mk ((by rw [hg]; exact (below_size (by repeat (first | (with_reducible first | exact HB.out | apply below_alloc | apply pw_below_drewN | apply below_drew1 | refine below_set ?_ GE272.out | refine below_set ?_ GE273.out) | exact HB.out))) : w.heap.size ≤ gb275))
                have n5_ := Aside0.mk ((by rw [hg]; exact (below_size (by repeat (first | (with_reducible first | exact HB.out | apply below_alloc | apply pw_below_drewN | apply below_drew1 | refine below_set ?_ GE272.out | refine below_set ?_ GE273.out) | exact HB.out))) : w.heap.size ≤ gb275))
                have n6_ := Aside0.mk ((by rw [hg]; exact Nat.ne_of_lt (blk_lt (g := gb272) (o := .cells #[.int .i64 a0_0, .int .u64 a0_1, .int .u64 a0_2, .int .u64 a0_3, .int .u64 a0_4, .int .u64 a0_5, .int .u64 a0_6] 31 (0, 0)) (by (with_reducible repeat (first | refine blk_drewN ?_ _ | refine blk_drew ?_ | refine blk_alloc ?_ _)); exact BK272.out)) : gb272 ≠ gb275))
                have n7_ := Aside0.mk ((by rw [hg]; exact Nat.ne_of_gt (blk_lt (g := gb272) (o := .cells #[.int .i64 a0_0, .int .u64 a0_1, .int .u64 a0_2, .int .u64 a0_3, .int .u64 a0_4, .int .u64 a0_5, .int .u64 a0_6] 31 (0, 0)) (by (with_reducible repeat (first | refine blk_drewN ?_ _ | refine blk_drew ?_ | refine blk_alloc ?_ _)); exact BK272.out)) : gb275 ≠ gb272))
                have n8_ := Aside0.mk ((by rw [hg]; exact Nat.ne_of_lt (blk_lt (g := gb273) (o := .cells #[.int .i64 a2_0, .int .i64 a2_1, .int .i64 a2_2, .int .i64 a2_3] 36 (0, 0)) (by (with_reducible repeat (first | refine blk_drewN ?_ _ | refine blk_drew ?_ | refine blk_alloc ?_ _)); exact BK273.out)) : gb273 ≠ gb275))
                have n9_ := Aside0.mk ((by rw [hg]; exact Nat.ne_of_gt (blk_lt (g := gb273) (o := .cells #[.int .i64 a2_0, .int .i64 a2_1, .int .i64 a2_2, .int .i64 a2_3] 36 (0, 0)) (by (with_reducible repeat (first | refine blk_drewN ?_ _ | refine blk_drew ?_ | refine blk_alloc ?_ _)); exact BK273.out)) : gb275 ≠ gb273))
                clear BK272
                clear BK273
                clear HB
                have BK272 := n0_
                have BK273 := n1_
                have HB := n2_
                have BK275 := n3_
                have GW275 := n4_
                have GE275 := n5_
                have NB272_275 := n6_
                have NB275_272 := n7_
                have NB273_275 := n8_
                have NB275_273 := n9_
                clear n0_ n1_ n2_ n3_ n4_ n5_ n6_ n7_ n8_ n9_
                clear hb hbox hg
                refine hK.out _ _ trivial (fun hHeld => ?_)
                clear hK K
                refine norm_ (a' := ?_) ?_ ?_
                rotate_left
                · show Act.put _ (some 11) _ = _
                  simp only [Act.put, List.setIfInBounds_toArray, List.set_cons_zero, List.set_cons_succ, i64_w, i32_w]
                  rfl
                refine one_ (i := 15) (N := none) #[true, true, true, true, true, true, true, true, true, true, true, true, true, true, true, true] rfl rfl (one_of HT_.out (by kernel_rfl)) (by decide) (fun K hK => ?_)
                have hs60 : w59.cell? ⟨gb275, 0, none⟩ = some (.int .i64 0) := (blk_cell BK275.out 0).trans rfl
                have hfs60 := blk_frozen BK275.out 0
                have hns60_0 := NB272_275.out
                have hns60_1 := NB273_275.out
                have hms60_0 := NB275_272.out
                have hms60_1 := NB275_273.out
                have hs61 : w59.cell? ⟨gb275, 1, none⟩ = some (.int .i64 0) := (blk_cell BK275.out 1).trans rfl
                have hfs61 := blk_frozen BK275.out 1
                have hns61_0 := NB272_275.out
                have hns61_1 := NB273_275.out
                have hms61_0 := NB275_272.out
                have hms61_1 := NB275_273.out
                have hs62 : w59.cell? ⟨gb275, 2, none⟩ = some (.int .i64 0) := (blk_cell BK275.out 2).trans rfl
                have hfs62 := blk_frozen BK275.out 2
                have hns62_0 := NB272_275.out
                have hns62_1 := NB273_275.out
                have hms62_0 := NB275_272.out
                have hms62_1 := NB275_273.out
                refine skip_ (w1 := ?_) (by rfl) rfl ?_ ?_
                rotate_left
                · go_simp
                  rfl
                refine hK.out _ _ trivial (fun hHeld => ?_)
                clear hK K
                refine done_ (done_of HT_.out (by kernel_rfl)) ?_
                have hnb63 := NB272_273.out
                have hnc63 := NB273_272.out
                have hnb64 := NB272_275.out
                have hnc64 := NB275_272.out
                have hcz65_0 : w59.cell? ⟨gb272, 0, none⟩ = some (.int .i64 a0_0) := (blk_cell BK272.out 0).trans rfl
                have hcz65_1 : w59.cell? ⟨gb272, 1, none⟩ = some (.int .u64 a0_1) := (blk_cell BK272.out 1).trans rfl
                have hcz65_2 : w59.cell? ⟨gb272, 2, none⟩ = some (.int .u64 a0_2) := (blk_cell BK272.out 2).trans rfl
                have hcz65_3 : w59.cell? ⟨gb272, 3, none⟩ = some (.int .u64 a0_3) := (blk_cell BK272.out 3).trans rfl
                have hcz65_4 : w59.cell? ⟨gb272, 4, none⟩ = some (.int .u64 a0_4) := (blk_cell BK272.out 4).trans rfl
                have hcz65_5 : w59.cell? ⟨gb272, 5, none⟩ = some (.int .u64 a0_5) := (blk_cell BK272.out 5).trans rfl
                have hcz65_6 : w59.cell? ⟨gb272, 6, none⟩ = some (.int .u64 a0_6) := (blk_cell BK272.out 6).trans rfl
                have hfz65_0 := blk_frozen BK272.out 0
                have hfz65_1 := blk_frozen BK272.out 1
                have hfz65_2 := blk_frozen BK272.out 2
                have hfz65_3 := blk_frozen BK272.out 3
                have hfz65_4 := blk_frozen BK272.out 4
                have hfz65_5 := blk_frozen BK272.out 5
                have hfz65_6 := blk_frozen BK272.out 6
                have hnb66 := NB275_273.out
                have hnc66 := NB273_275.out
                have hcz67_0 : w59.cell? ⟨gb275, 0, none⟩ = some (.int .i64 0) := (blk_cell BK275.out 0).trans rfl
                have hcz67_1 : w59.cell? ⟨gb275, 1, none⟩ = some (.int .i64 0) := (blk_cell BK275.out 1).trans rfl
                have hcz67_2 : w59.cell? ⟨gb275, 2, none⟩ = some (.int .i64 0) := (blk_cell BK275.out 2).trans rfl
                have hfz67_0 := blk_frozen BK275.out 0
                have hfz67_1 := blk_frozen BK275.out 1
                have hfz67_2 := blk_frozen BK275.out 2
                try go_wp2_with (first | ((with_reducible refine gate_callee (f := 11) rfl ?_); refine goesL_ (some 45) rfl rfl Try.func11 (by kernel_rfl) rfl #[.agg #[.int .i64 a0_0, .int .u64 a0_1, .int .u64 a0_2, .int .u64 a0_3, .int .u64 a0_4, .int .u64 a0_5, .int .u64 a0_6], .int .i64 ji16] rfl (by (try simp only [List.map_toArray, List.map_cons, List.map_nil]); first | done | (simp only [hji16]; rfl) | rfl | (simp only [List.length_drop, List.length_take]; rfl)) ?_; (with_reducible refine (cookie_Key.calls kj5 a0_0 a0_1 a0_2 a0_3 a0_4 a0_5 a0_6 ji16 t276 t277 true _ A21.out).mono ?_); rintro e w68 ⟨rfl, hb⟩; refine ⟨_, rfl, ?_⟩; have n0_ := Aside0.mk (blk_below (g := gb272) (o := .cells #[.int .i64 a0_0, .int .u64 a0_1, .int .u64 a0_2, .int .u64 a0_3, .int .u64 a0_4, .int .u64 a0_5, .int .u64 a0_6] 31 (0, 0)) (by (with_reducible repeat (first | refine blk_drewN ?_ _ | refine blk_drew ?_ | refine blk_alloc ?_ _)); refine blk_far ?_ NB272_275.out _; (with_reducible repeat (first | refine blk_drewN ?_ _ | refine blk_drew ?_ | refine blk_alloc ?_ _)); refine blk_far ?_ NB272_275.out _; (with_reducible repeat (first | refine blk_drewN ?_ _ | refine blk_drew ?_ | refine blk_alloc ?_ _)); refine blk_far ?_ NB272_275.out _; (with_reducible repeat (first | refine blk_drewN ?_ _ | refine blk_drew ?_ | refine blk_alloc ?_ _)); exact BK272.out) hb); have n1_ := Aside0.mk (blk_below (g := gb273) (o := .cells #[.int .i64 a2_0, .int .i64 a2_1, .int .i64 a2_2, .int .i64 a2_3] 36 (0, 0)) (by (with_reducible repeat (first | refine blk_drewN ?_ _ | refine blk_drew ?_ | refine blk_alloc ?_ _)); refine blk_far ?_ NB273_275.out _; (with_reducible repeat (first | refine blk_drewN ?_ _ | refine blk_drew ?_ | refine blk_alloc ?_ _)); refine blk_far ?_ NB273_275.out _; (with_reducible repeat (first | refine blk_drewN ?_ _ | refine blk_drew ?_ | refine blk_alloc ?_ _)); refine blk_far ?_ NB273_275.out _; (with_reducible repeat (first | refine blk_drewN ?_ _ | refine blk_drew ?_ | refine blk_alloc ?_ _)); exact BK273.out) hb); have n2_ := Aside0.mk (blk_below (g := gb275) (o := .cells #[.int .i64 ji16, .int .i64 (Go.bits .and .i64 (ji18) 63), .int .i64 (Go.bits .and .i64 a3 (wrap64 ((ji20) - 1)))] 75 (0, 0)) (by (with_reducible repeat (first | refine blk_drewN ?_ _ | refine blk_drew ?_ | refine blk_alloc ?_ _)); refine blk_put (cs := #[.int .i64 ji16, .int .i64 (Go.bits .and .i64 (ji18) 63), .int .i64 0]) ?_ 2 _ rfl; (with_reducible repeat (first | refine blk_drewN ?_ _ | refine blk_drew ?_ | refine blk_alloc ?_ _)); refine blk_put (cs := #[.int .i64 ji16, .int .i64 0, .int .i64 0]) ?_ 1 _ rfl; (with_reducible repeat (first | refine blk_drewN ?_ _ | refine blk_drew ?_ | refine blk_alloc ?_ _)); refine blk_put (cs := #[.int .i64 0, .int .i64 0, .int .i64 0]) ?_ 0 _ rfl; (with_reducible repeat (first | refine blk_drewN ?_ _ | refine blk_drew ?_ | refine blk_alloc ?_ _)); exact BK275.out) hb); have n3_ := Aside0.mk (below_step (by repeat (first | (with_reducible first | exact HB.out | apply below_alloc | apply pw_below_drewN | apply below_drew1 | refine below_set ?_ GE272.out | refine below_set ?_ GE273.out | refine below_set ?_ GE275.out) | exact HB.out)) hb); clear BK272; clear BK273; clear BK275; clear HB; have BK272 := n0_; have BK273 := n1_; have BK275 := n2_; have HB := n3_; clear n0_ n1_ n2_ n3_; (try clear hb); (try clear hb2); (try clear hk); (try clear hi)) | ((with_reducible refine gate_dst (N := 12) rfl ?_); refine box_event ?hg (N := 12) ?hd (cs := #[.int .u64 0, .int .u64 0]) (t := 29) ?hr ?_; (case hd => rfl); (case hg => rfl); (case hr => first | (go_simp; done) | (go_simp; rfl)); intro gb279 hg w69 hbox hb; have n0_ := Aside0.mk (blk_below (g := gb272) (o := .cells #[.int .i64 a0_0, .int .u64 a0_1, .int .u64 a0_2, .int .u64 a0_3, .int .u64 a0_4, .int .u64 a0_5, .int .u64 a0_6] 31 (0, 0)) (by (with_reducible repeat (first | refine blk_drewN ?_ _ | refine blk_drew ?_ | refine blk_alloc ?_ _)); exact BK272.out) hb); have n1_ := Aside0.mk (blk_below (g := gb273) (o := .cells #[.int .i64 a2_0, .int .i64 a2_1, .int .i64 a2_2, .int .i64 a2_3] 36 (0, 0)) (by (with_reducible repeat (first | refine blk_drewN ?_ _ | refine blk_drew ?_ | refine blk_alloc ?_ _)); exact BK273.out) hb); have n2_ := Aside0.mk (blk_below (g := gb275) (o := .cells #[.int .i64 ji16, .int .i64 (Go.bits .and .i64 (ji18) 63), .int .i64 (Go.bits .and .i64 a3 (wrap64 ((ji20) - 1)))] 75 (0, 0)) (by (with_reducible repeat (first | refine blk_drewN ?_ _ | refine blk_drew ?_ | refine blk_alloc ?_ _)); exact BK275.out) hb); have n3_ := Aside0.mk (below_step (by repeat (first | (with_reducible first | exact HB.out | apply below_alloc | apply pw_below_drewN | apply below_drew1 | refine below_set ?_ GE272.out | refine below_set ?_ GE273.out | refine below_set ?_ GE275.out) | exact HB.out)) hb); have n4_ := Aside0.mk (hbox); have n5_ := Aside0.mk ((by rw [hg]; exact (below_size (by repeat (first | (with_reducible first | exact HB.out | apply below_alloc | apply pw_below_drewN | apply below_drew1 | refine below_set ?_ GE272.out | refine below_set ?_ GE273.out | refine below_set ?_ GE275.out) | exact HB.out))) : w.heap.size ≤ gb279)); have n6_ := Aside0.mk ((by rw [hg]; exact (below_size (by repeat (first | (with_reducible first | exact HB.out | apply below_alloc | apply pw_below_drewN | apply below_drew1 | refine below_set ?_ GE272.out | refine below_set ?_ GE273.out | refine below_set ?_ GE275.out) | exact HB.out))) : w.heap.size ≤ gb279)); have n7_ := Aside0.mk ((by rw [hg]; exact Nat.ne_of_lt (blk_lt (g := gb272) (o := .cells #[.int .i64 a0_0, .int .u64 a0_1, .int .u64 a0_2, .int .u64 a0_3, .int .u64 a0_4, .int .u64 a0_5, .int .u64 a0_6] 31 (0, 0)) (by (with_reducible repeat (first | refine blk_drewN ?_ _ | refine blk_drew ?_ | refine blk_alloc ?_ _)); exact BK272.out)) : gb272 ≠ gb279)); have n8_ := Aside0.mk ((by rw [hg]; exact Nat.ne_of_gt (blk_lt (g := gb272) (o := .cells #[.int .i64 a0_0, .int .u64 a0_1, .int .u64 a0_2, .int .u64 a0_3, .int .u64 a0_4, .int .u64 a0_5, .int .u64 a0_6] 31 (0, 0)) (by (with_reducible repeat (first | refine blk_drewN ?_ _ | refine blk_drew ?_ | refine blk_alloc ?_ _)); exact BK272.out)) : gb279 ≠ gb272)); have n9_ := Aside0.mk ((by rw [hg]; exact Nat.ne_of_lt (blk_lt (g := gb273) (o := .cells #[.int .i64 a2_0, .int .i64 a2_1, .int .i64 a2_2, .int .i64 a2_3] 36 (0, 0)) (by (with_reducible repeat (first | refine blk_drewN ?_ _ | refine blk_drew ?_ | refine blk_alloc ?_ _)); exact BK273.out)) : gb273 ≠ gb279)); have n10_ := Aside0.mk ((by rw [hg]; exact Nat.ne_of_gt (blk_lt (g := gb273) (o := .cells #[.int .i64 a2_0, .int .i64 a2_1, .int .i64 a2_2, .int .i64 a2_3] 36 (0, 0)) (by (with_reducible repeat (first | refine blk_drewN ?_ _ | refine blk_drew ?_ | refine blk_alloc ?_ _)); exact BK273.out)) : gb279 ≠ gb273)); have n11_ := Aside0.mk ((by rw [hg]; exact Nat.ne_of_lt (blk_lt (g := gb275) (o := .cells #[.int .i64 ji16, .int .i64 (Go.bits .and .i64 (ji18) 63), .int .i64 (Go.bits .and .i64 a3 (wrap64 ((ji20) - 1)))] 75 (0, 0)) (by (with_reducible repeat (first | refine blk_drewN ?_ _ | refine blk_drew ?_ | refine blk_alloc ?_ _)); exact BK275.out)) : gb275 ≠ gb279)); have n12_ := Aside0.mk ((by rw [hg]; exact Nat.ne_of_gt (blk_lt (g := gb275) (o := .cells #[.int .i64 ji16, .int .i64 (Go.bits .and .i64 (ji18) 63), .int .i64 (Go.bits .and .i64 a3 (wrap64 ((ji20) - 1)))] 75 (0, 0)) (by (with_reducible repeat (first | refine blk_drewN ?_ _ | refine blk_drew ?_ | refine blk_alloc ?_ _)); exact BK275.out)) : gb279 ≠ gb275)); clear BK272; clear BK273; clear BK275; clear HB; have BK272 := n0_; have BK273 := n1_; have BK275 := n2_; have HB := n3_; have BK279 := n4_; have GW279 := n5_; have GE279 := n6_; have NB272_279 := n7_; have NB279_272 := n8_; have NB273_279 := n9_; have NB279_273 := n10_; have NB275_279 := n11_; have NB279_275 := n12_; clear n0_ n1_ n2_ n3_ n4_ n5_ n6_ n7_ n8_ n9_ n10_ n11_ n12_; clear hb hbox hg; have hnb70 := NB279_272.out; have hnc70 := NB272_279.out; have hnb71 := NB279_273.out; have hnc71 := NB273_279.out; have hnb72 := NB279_275.out; have hnc72 := NB275_279.out; have hcz73_0 : w69.cell? ⟨gb279, 0, none⟩ = some (.int .u64 0) := (blk_cell BK279.out 0).trans rfl; have hcz73_1 : w69.cell? ⟨gb279, 1, none⟩ = some (.int .u64 0) := (blk_cell BK279.out 1).trans rfl; have hfz73_0 := blk_frozen BK279.out 0; have hfz73_1 := blk_frozen BK279.out 1))
                have n0_ : Aside0 (((w69.setCell ⟨gb279, 0, none⟩ (.int .u64 t276)).setCell ⟨gb279, 1, none⟩ (.int .u64 t277)).heap[gb272]? = some (.cells #[.int .i64 a0_0, .int .u64 a0_1, .int .u64 a0_2, .int .u64 a0_3, .int .u64 a0_4, .int .u64 a0_5, .int .u64 a0_6] 31 (0, 0))) := ⟨by (with_reducible repeat (first | refine blk_drewN ?_ _ | refine blk_drew ?_ | refine blk_alloc ?_ _)); refine blk_far ?_ NB272_279.out _; (with_reducible repeat (first | refine blk_drewN ?_ _ | refine blk_drew ?_ | refine blk_alloc ?_ _)); refine blk_far ?_ NB272_279.out _; (with_reducible repeat (first | refine blk_drewN ?_ _ | refine blk_drew ?_ | refine blk_alloc ?_ _)); exact BK272.out⟩
                have n1_ : Aside0 (((w69.setCell ⟨gb279, 0, none⟩ (.int .u64 t276)).setCell ⟨gb279, 1, none⟩ (.int .u64 t277)).heap[gb273]? = some (.cells #[.int .i64 a2_0, .int .i64 a2_1, .int .i64 a2_2, .int .i64 a2_3] 36 (0, 0))) := ⟨by (with_reducible repeat (first | refine blk_drewN ?_ _ | refine blk_drew ?_ | refine blk_alloc ?_ _)); refine blk_far ?_ NB273_279.out _; (with_reducible repeat (first | refine blk_drewN ?_ _ | refine blk_drew ?_ | refine blk_alloc ?_ _)); refine blk_far ?_ NB273_279.out _; (with_reducible repeat (first | refine blk_drewN ?_ _ | refine blk_drew ?_ | refine blk_alloc ?_ _)); exact BK273.out⟩
                have n2_ : Aside0 (((w69.setCell ⟨gb279, 0, none⟩ (.int .u64 t276)).setCell ⟨gb279, 1, none⟩ (.int .u64 t277)).heap[gb275]? = some (.cells #[.int .i64 ji16, .int .i64 (Go.bits .and .i64 (ji18) 63), .int .i64 (Go.bits .and .i64 a3 (wrap64 ((ji20) - 1)))] 75 (0, 0))) := ⟨by (with_reducible repeat (first | refine blk_drewN ?_ _ | refine blk_drew ?_ | refine blk_alloc ?_ _)); refine blk_far ?_ NB275_279.out _; (with_reducible repeat (first | refine blk_drewN ?_ _ | refine blk_drew ?_ | refine blk_alloc ?_ _)); refine blk_far ?_ NB275_279.out _; (with_reducible repeat (first | refine blk_drewN ?_ _ | refine blk_drew ?_ | refine blk_alloc ?_ _)); exact BK275.out⟩
                have n3_ : Aside0 (((w69.setCell ⟨gb279, 0, none⟩ (.int .u64 t276)).setCell ⟨gb279, 1, none⟩ (.int .u64 t277)).heap[gb279]? = some (.cells #[.int .u64 t276, .int .u64 t277] 29 (0, 0))) := ⟨by (with_reducible repeat (first | refine blk_drewN ?_ _ | refine blk_drew ?_ | refine blk_alloc ?_ _)); refine blk_put (cs := #[.int .u64 t276, .int .u64 0]) ?_ 1 _ rfl; (with_reducible repeat (first | refine blk_drewN ?_ _ | refine blk_drew ?_ | refine blk_alloc ?_ _)); refine blk_put (cs := #[.int .u64 0, .int .u64 0]) ?_ 0 _ rfl; (with_reducible repeat (first | refine blk_drewN ?_ _ | refine blk_drew ?_ | refine blk_alloc ?_ _)); exact BK279.out⟩
                have n4_ : Aside0 (Below w.heap.size w ((w69.setCell ⟨gb279, 0, none⟩ (.int .u64 t276)).setCell ⟨gb279, 1, none⟩ (.int .u64 t277))) := ⟨by repeat (first | (with_reducible first | exact HB.out | apply below_alloc | apply pw_below_drewN | apply below_drew1 | refine below_set ?_ GE272.out | refine below_set ?_ GE273.out | refine below_set ?_ GE275.out | refine below_set ?_ GE279.out) | exact HB.out)⟩
                (try clear BK272)
                (try clear BK273)
                (try clear BK275)
                (try clear BK279)
                (try clear HB)
                generalize ((w69.setCell ⟨gb279, 0, none⟩ (.int .u64 t276)).setCell ⟨gb279, 1, none⟩ (.int .u64 t277)) = w74 at n0_ n1_ n2_ n3_ n4_ ⊢
                have BK272 := n0_
                have BK273 := n1_
                have BK275 := n2_
                have BK279 := n3_
                have HB := n4_
                clear n0_ n1_ n2_ n3_ n4_
                have n0_ := Aside0.mk (blk_drew BK272.out)
                have n1_ := Aside0.mk (blk_drew BK273.out)
                have n2_ := Aside0.mk (blk_drew BK275.out)
                have n3_ := Aside0.mk (blk_drew BK279.out)
                have n4_ := Aside0.mk (below_drew1 HB.out)
                clear BK272
                clear BK273
                clear BK275
                clear BK279
                clear HB
                have BK272 := n0_
                have BK273 := n1_
                have BK275 := n2_
                have BK279 := n3_
                have HB := n4_
                clear n0_ n1_ n2_ n3_ n4_
                refine start_ (n := 10) (S := fun w' => w'.cell? ⟨gb275, 0, none⟩ = some (.int .i64 ji16) ∧ w'.cell? ⟨gb275, 1, none⟩ = some (.int .i64 (Go.bits .and .i64 (ji18) 63)) ∧ w'.cell? ⟨gb275, 2, none⟩ = some (.int .i64 (Go.bits .and .i64 a3 (wrap64 ((ji20) - 1)))) ∧ w'.cell? ⟨gb279, 0, none⟩ = some (.int .u64 t276) ∧ w'.cell? ⟨gb279, 1, none⟩ = some (.int .u64 t277) ∧ w'.cell? ⟨gb273, 0, none⟩ = some (.int .i64 a2_0) ∧ w'.cell? ⟨gb273, 1, none⟩ = some (.int .i64 a2_1) ∧ w'.cell? ⟨gb273, 2, none⟩ = some (.int .i64 a2_2) ∧ w'.cell? ⟨gb273, 3, none⟩ = some (.int .i64 a2_3)) (ds := []) #[false, false, false, false, false, false, false, false, false, false] (by kernel_rfl) rfl rfl ⟨(blk_cell BK275.out 0).trans rfl, (blk_cell BK275.out 1).trans rfl, (blk_cell BK275.out 2).trans rfl, (blk_cell BK279.out 0).trans rfl, (blk_cell BK279.out 1).trans rfl, (blk_cell BK273.out 0).trans rfl, (blk_cell BK273.out 1).trans rfl, (blk_cell BK273.out 2).trans rfl, (blk_cell BK273.out 3).trans rfl⟩ (fun hHeld => ?_); refine with_tabW cookie_Read.tab8 cookie_Read.bits8 (fun HT_ HW_ => ?_)
                generalize w74.drew = w75 at BK272 BK273 BK275 BK279 HB hHeld ⊢
                refine pure_ (i := 0) (N := some 50) (v := ?_) (a' := ?_) #[true, false, false, false, false, false, false, false, false, false] rfl rfl (any_of HT_.out (by kernel_rfl)) (fun _ _ _ h => h) (Or.inl ⟨by rfl, ?_⟩) ?_ ?_
                rotate_left
                · intro w'
                  go_simp
                  with_reducible rfl
                rotate_left
                · simp only [Act.put, List.setIfInBounds_toArray, List.set_cons_zero, List.set_cons_succ, i64_w, i32_w]
                  rfl
                refine pure_ (i := 3) (N := some 53) (v := ?_) (a' := ?_) #[true, false, false, true, false, false, false, false, false, false] rfl rfl (any_of HT_.out (by kernel_rfl)) (fun _ _ _ h => h) (Or.inl ⟨by rfl, ?_⟩) ?_ ?_
                rotate_left
                · intro w'
                  go_simp
                  with_reducible rfl
                rotate_left
                · simp only [Act.put, List.setIfInBounds_toArray, List.set_cons_zero, List.set_cons_succ, i64_w, i32_w]
                  rfl
                refine pure_ (i := 5) (N := some 55) (v := ?_) (a' := ?_) #[true, false, false, true, false, true, false, false, false, false] rfl rfl (any_of HT_.out (by kernel_rfl)) (fun _ _ _ h => h) (Or.inl ⟨by rfl, ?_⟩) ?_ ?_
                rotate_left
                · intro w'
                  go_simp
                  with_reducible rfl
                rotate_left
                · simp only [Act.put, List.setIfInBounds_toArray, List.set_cons_zero, List.set_cons_succ, i64_w, i32_w]
                  rfl
                refine take_ (i := 1) (N := some 51) (v := ?_) (a' := ?_) #[true, true, false, true, false, true, false, false, false, false] rfl rfl (take_ofW HT_.out HW_.out (by kernel_rfl)) (fun _ _ _ h => h) (Or.inl ⟨by rfl, ?_⟩) hHeld ?_ ?_
                rotate_left
                · rintro w' ⟨s0, s1, s2, s3, s4, s5, s6, s7, s8⟩
                  go_simp
                  with_reducible rfl
                rotate_left
                · simp only [Act.put, List.setIfInBounds_toArray, List.set_cons_zero, List.set_cons_succ, i64_w, i32_w]
                  rfl
                refine take_ (i := 2) (N := some 52) (v := ?_) (a' := ?_) #[true, true, true, true, false, true, false, false, false, false] rfl rfl (take_ofW HT_.out HW_.out (by kernel_rfl)) (fun _ _ _ h => h) (Or.inl ⟨by rfl, ?_⟩) hHeld ?_ ?_
                rotate_left
                · rintro w' ⟨s0, s1, s2, s3, s4, s5, s6, s7, s8⟩
                  go_simp
                  with_reducible rfl
                rotate_left
                · simp only [Act.put, List.setIfInBounds_toArray, List.set_cons_zero, List.set_cons_succ, i64_w, i32_w]
                  rfl
                refine take_ (i := 4) (N := some 54) (v := ?_) (a' := ?_) #[true, true, true, true, true, true, false, false, false, false] rfl rfl (take_ofW HT_.out HW_.out (by kernel_rfl)) (fun _ _ _ h => h) (Or.inl ⟨by rfl, ?_⟩) hHeld ?_ ?_
                rotate_left
                · rintro w' ⟨s0, s1, s2, s3, s4, s5, s6, s7, s8⟩
                  go_simp
                  with_reducible rfl
                rotate_left
                · simp only [Act.put, List.setIfInBounds_toArray, List.set_cons_zero, List.set_cons_succ, i64_w, i32_w]
                  rfl
                refine take_ (i := 6) (N := some 56) (v := ?_) (a' := ?_) #[true, true, true, true, true, true, true, false, false, false] rfl rfl (take_ofW HT_.out HW_.out (by kernel_rfl)) (fun _ _ _ h => h) (Or.inl ⟨by rfl, ?_⟩) hHeld ?_ ?_
                rotate_left
                · rintro w' ⟨s0, s1, s2, s3, s4, s5, s6, s7, s8⟩
                  go_simp
                  with_reducible rfl
                rotate_left
                · simp only [Act.put, List.setIfInBounds_toArray, List.set_cons_zero, List.set_cons_succ, i64_w, i32_w]
                  rfl
                refine one_ (i := 7) (N := some 57) #[true, true, true, true, true, true, true, true, false, false] rfl rfl (one_of HT_.out (by kernel_rfl)) (by decide) (fun K hK => ?_)
                refine goes_ Try.func26 (by kernel_rfl) rfl #[.agg #[.int .u64 t276, .int .u64 t277], .int .i64 a1, .agg #[.int .i64 a2_0, .int .i64 a2_1, .int .i64 a2_2, .int .i64 a2_3], .int .i64 ji16] (by rfl) rfl rfl (by (try simp only [List.map_toArray, List.map_cons, List.map_nil]); first | done | (simp only [hji16]; rfl) | rfl | (simp only [List.length_drop, List.length_take]; rfl)) ?_
                with_reducible refine (cookie_veil.calls kj5 t276 t277 a1 a2_0 a2_1 a2_2 a2_3 ji16 t280 _ A23.out).mono ?_
                rintro e w76 ⟨rfl, hb⟩
                refine ⟨_, rfl, ?_⟩
                have n0_ := Aside0.mk (blk_below (g := gb272) (o := .cells #[.int .i64 a0_0, .int .u64 a0_1, .int .u64 a0_2, .int .u64 a0_3, .int .u64 a0_4, .int .u64 a0_5, .int .u64 a0_6] 31 (0, 0)) (by (with_reducible repeat (first | refine blk_drewN ?_ _ | refine blk_drew ?_ | refine blk_alloc ?_ _)); exact BK272.out) hb)
                have n1_ := Aside0.mk (blk_below (g := gb273) (o := .cells #[.int .i64 a2_0, .int .i64 a2_1, .int .i64 a2_2, .int .i64 a2_3] 36 (0, 0)) (by (with_reducible repeat (first | refine blk_drewN ?_ _ | refine blk_drew ?_ | refine blk_alloc ?_ _)); exact BK273.out) hb)
                have n2_ := Aside0.mk (blk_below (g := gb275) (o := .cells #[.int .i64 ji16, .int .i64 (Go.bits .and .i64 (ji18) 63), .int .i64 (Go.bits .and .i64 a3 (wrap64 ((ji20) - 1)))] 75 (0, 0)) (by (with_reducible repeat (first | refine blk_drewN ?_ _ | refine blk_drew ?_ | refine blk_alloc ?_ _)); exact BK275.out) hb)
                have n3_ := Aside0.mk (blk_below (g := gb279) (o := .cells #[.int .u64 t276, .int .u64 t277] 29 (0, 0)) (by (with_reducible repeat (first | refine blk_drewN ?_ _ | refine blk_drew ?_ | refine blk_alloc ?_ _)); exact BK279.out) hb)
                have n4_ := Aside0.mk (below_step (by repeat (first | (with_reducible first | exact HB.out | apply below_alloc | apply pw_below_drewN | apply below_drew1 | refine below_set ?_ GE272.out | refine below_set ?_ GE273.out | refine below_set ?_ GE275.out | refine below_set ?_ GE279.out) | exact HB.out)) hb)
                clear BK272
                clear BK273
                clear BK275
                clear BK279
                clear HB
                have BK272 := n0_
                have BK273 := n1_
                have BK275 := n2_
                have BK279 := n3_
                have HB := n4_
                clear n0_ n1_ n2_ n3_ n4_
                (try clear hb)
                (try clear hb2)
                (try clear hk)
                (try clear hi)
                refine hK.out _ _ ⟨(blk_cell BK275.out 0).trans rfl, (blk_cell BK275.out 1).trans rfl, (blk_cell BK275.out 2).trans rfl, (blk_cell BK279.out 0).trans rfl, (blk_cell BK279.out 1).trans rfl, (blk_cell BK273.out 0).trans rfl, (blk_cell BK273.out 1).trans rfl, (blk_cell BK273.out 2).trans rfl, (blk_cell BK273.out 3).trans rfl⟩ (fun hHeld => ?_)
                clear hK K
                refine norm_ (a' := ?_) ?_ ?_
                rotate_left
                · show Act.put _ (some 57) _ = _
                  simp only [Act.put, List.setIfInBounds_toArray, List.set_cons_zero, List.set_cons_succ, i64_w, i32_w]
                  rfl
                refine pure_ (i := 8) (N := some 58) (v := ?_) (a' := ?_) #[true, true, true, true, true, true, true, true, true, false] rfl rfl (any_of HT_.out (by kernel_rfl)) (fun _ _ _ h => h) (Or.inl ⟨by rfl, ?_⟩) ?_ ?_
                rotate_left
                · intro w'
                  go_simp
                  with_reducible rfl
                rotate_left
                · simp only [Act.put, List.setIfInBounds_toArray, List.set_cons_zero, List.set_cons_succ, i64_w, i32_w]
                  rfl
                refine pure_ (i := 9) (N := some 14) (v := ?_) (a' := ?_) #[true, true, true, true, true, true, true, true, true, true] rfl rfl (any_of HT_.out (by kernel_rfl)) (fun _ _ _ h => h) (Or.inl ⟨by rfl, ?_⟩) ?_ ?_
                rotate_left
                · intro w'
                  go_simp
                  with_reducible rfl
                rotate_left
                · simp only [Act.put, List.setIfInBounds_toArray, List.set_cons_zero, List.set_cons_succ, i64_w, i32_w]
                  rfl
                refine done_ (done_of HT_.out (by kernel_rfl)) ?_
                try go_wp2
                have n0_ := Aside0.mk (blk_drew BK272.out)
                have n1_ := Aside0.mk (blk_drew BK273.out)
                have n2_ := Aside0.mk (blk_drew BK275.out)
                have n3_ := Aside0.mk (blk_drew BK279.out)
                have n4_ := Aside0.mk (below_drew1 HB.out)
                clear BK272
                clear BK273
                clear BK275
                clear BK279
                clear HB
                have BK272 := n0_
                have BK273 := n1_
                have BK275 := n2_
                have BK279 := n3_
                have HB := n4_
                clear n0_ n1_ n2_ n3_ n4_
                refine start_ (n := 14) (S := fun w' => w'.cell? ⟨gb275, 0, none⟩ = some (.int .i64 ji16) ∧ w'.cell? ⟨gb275, 1, none⟩ = some (.int .i64 (Go.bits .and .i64 (ji18) 63)) ∧ w'.cell? ⟨gb275, 2, none⟩ = some (.int .i64 (Go.bits .and .i64 a3 (wrap64 ((ji20) - 1)))) ∧ w'.cell? ⟨gb279, 0, none⟩ = some (.int .u64 t276) ∧ w'.cell? ⟨gb279, 1, none⟩ = some (.int .u64 t277) ∧ w'.cell? ⟨gb273, 0, none⟩ = some (.int .i64 a2_0) ∧ w'.cell? ⟨gb273, 1, none⟩ = some (.int .i64 a2_1) ∧ w'.cell? ⟨gb273, 2, none⟩ = some (.int .i64 a2_2) ∧ w'.cell? ⟨gb273, 3, none⟩ = some (.int .i64 a2_3)) (ds := []) #[false, false, false, false, false, false, false, false, false, false, false, false, false, false] (by kernel_rfl) rfl rfl ⟨(blk_cell BK275.out 0).trans rfl, (blk_cell BK275.out 1).trans rfl, (blk_cell BK275.out 2).trans rfl, (blk_cell BK279.out 0).trans rfl, (blk_cell BK279.out 1).trans rfl, (blk_cell BK273.out 0).trans rfl, (blk_cell BK273.out 1).trans rfl, (blk_cell BK273.out 2).trans rfl, (blk_cell BK273.out 3).trans rfl⟩ (fun hHeld => ?_); refine with_tabW cookie_Read.tab9 cookie_Read.bits9 (fun HT_ HW_ => ?_)
                generalize w76.drew = w77 at BK272 BK273 BK275 BK279 HB hHeld ⊢
                refine pure_ (i := 0) (N := some 59) (v := ?_) (a' := ?_) #[true, false, false, false, false, false, false, false, false, false, false, false, false, false] rfl rfl (any_of HT_.out (by kernel_rfl)) (fun _ _ _ h => h) (Or.inl ⟨by rfl, ?_⟩) ?_ ?_
                rotate_left
                · intro w'
                  go_simp
                  with_reducible rfl
                rotate_left
                · simp only [Act.put, List.setIfInBounds_toArray, List.set_cons_zero, List.set_cons_succ, i64_w, i32_w]
                  rfl
                refine pure_ (i := 2) (N := some 61) (v := ?_) (a' := ?_) #[true, false, true, false, false, false, false, false, false, false, false, false, false, false] rfl rfl (any_of HT_.out (by kernel_rfl)) (fun _ _ _ h => h) (Or.inl ⟨by rfl, ?_⟩) ?_ ?_
                rotate_left
                · intro w'
                  go_simp
                  with_reducible rfl
                rotate_left
                · simp only [Act.put, List.setIfInBounds_toArray, List.set_cons_zero, List.set_cons_succ, i64_w, i32_w]
                  rfl
                refine pure_ (i := 5) (N := some 64) (v := ?_) (a' := ?_) #[true, false, true, false, false, true, false, false, false, false, false, false, false, false] rfl rfl (any_of HT_.out (by kernel_rfl)) (fun _ _ _ h => h) (Or.inl ⟨by rfl, ?_⟩) ?_ ?_
                rotate_left
                · intro w'
                  go_simp
                  with_reducible rfl
                rotate_left
                · simp only [Act.put, List.setIfInBounds_toArray, List.set_cons_zero, List.set_cons_succ, i64_w, i32_w]
                  rfl
                refine pure_ (i := 7) (N := some 66) (v := ?_) (a' := ?_) #[true, false, true, false, false, true, false, true, false, false, false, false, false, false] rfl rfl (any_of HT_.out (by kernel_rfl)) (fun _ _ _ h => h) (Or.inl ⟨by rfl, ?_⟩) ?_ ?_
                rotate_left
                · intro w'
                  go_simp
                  with_reducible rfl
                rotate_left
                · simp only [Act.put, List.setIfInBounds_toArray, List.set_cons_zero, List.set_cons_succ, i64_w, i32_w]
                  rfl
                refine pure_ (i := 8) (N := some 67) (v := ?_) (a' := ?_) #[true, false, true, false, false, true, false, true, true, false, false, false, false, false] rfl rfl (any_of HT_.out (by kernel_rfl)) (fun _ _ _ h => h) (Or.inl ⟨by rfl, ?_⟩) ?_ ?_
                rotate_left
                · intro w'
                  go_simp
                  with_reducible rfl
                rotate_left
                · simp only [Act.put, List.setIfInBounds_toArray, List.set_cons_zero, List.set_cons_succ, i64_w, i32_w]
                  rfl
                refine take_ (i := 1) (N := some 60) (v := ?_) (a' := ?_) #[true, true, true, false, false, true, false, true, true, false, false, false, false, false] rfl rfl (take_ofW HT_.out HW_.out (by kernel_rfl)) (fun _ _ _ h => h) (Or.inl ⟨by rfl, ?_⟩) hHeld ?_ ?_
                rotate_left
                · rintro w' ⟨s0, s1, s2, s3, s4, s5, s6, s7, s8⟩
                  go_simp
                  with_reducible rfl
                rotate_left
                · simp only [Act.put, List.setIfInBounds_toArray, List.set_cons_zero, List.set_cons_succ, i64_w, i32_w]
                  rfl
                refine take_ (i := 3) (N := some 62) (v := ?_) (a' := ?_) #[true, true, true, true, false, true, false, true, true, false, false, false, false, false] rfl rfl (take_ofW HT_.out HW_.out (by kernel_rfl)) (fun _ _ _ h => h) (Or.inl ⟨by rfl, ?_⟩) hHeld ?_ ?_
                rotate_left
                · rintro w' ⟨s0, s1, s2, s3, s4, s5, s6, s7, s8⟩
                  go_simp
                  with_reducible rfl
                rotate_left
                · simp only [Act.put, List.setIfInBounds_toArray, List.set_cons_zero, List.set_cons_succ, i64_w, i32_w]
                  rfl
                refine take_ (i := 4) (N := some 63) (v := ?_) (a' := ?_) #[true, true, true, true, true, true, false, true, true, false, false, false, false, false] rfl rfl (take_ofW HT_.out HW_.out (by kernel_rfl)) (fun _ _ _ h => h) (Or.inl ⟨by rfl, ?_⟩) hHeld ?_ ?_
                rotate_left
                · rintro w' ⟨s0, s1, s2, s3, s4, s5, s6, s7, s8⟩
                  go_simp
                  with_reducible rfl
                rotate_left
                · simp only [Act.put, List.setIfInBounds_toArray, List.set_cons_zero, List.set_cons_succ, i64_w, i32_w]
                  rfl
                refine take_ (i := 6) (N := some 65) (v := ?_) (a' := ?_) #[true, true, true, true, true, true, true, true, true, false, false, false, false, false] rfl rfl (take_ofW HT_.out HW_.out (by kernel_rfl)) (fun _ _ _ h => h) (Or.inl ⟨by rfl, ?_⟩) hHeld ?_ ?_
                rotate_left
                · rintro w' ⟨s0, s1, s2, s3, s4, s5, s6, s7, s8⟩
                  go_simp
                  with_reducible rfl
                rotate_left
                · simp only [Act.put, List.setIfInBounds_toArray, List.set_cons_zero, List.set_cons_succ, i64_w, i32_w]
                  rfl
                refine take_ (i := 9) (N := some 68) (v := ?_) (a' := ?_) #[true, true, true, true, true, true, true, true, true, true, false, false, false, false] rfl rfl (take_ofW HT_.out HW_.out (by kernel_rfl)) (fun _ _ _ h => h) (Or.inl ⟨by rfl, ?_⟩) hHeld ?_ ?_
                rotate_left
                · rintro w' ⟨s0, s1, s2, s3, s4, s5, s6, s7, s8⟩
                  go_simp
                  with_reducible rfl
                rotate_left
                · simp only [Act.put, List.setIfInBounds_toArray, List.set_cons_zero, List.set_cons_succ, i64_w, i32_w]
                  rfl
                refine join_ (σ := Nat) 1 #[true, true, true, true, true, true, true, true, true, true, true, true, true, false] (fun s_ => [(69, .int .i64 t281), (15, .pointer (some ⟨s_, 0, none⟩)), (70, .agg #[.int .i64 ji16, .int .i64 (Go.bits .and .i64 (ji18) 63), .int .i64 t281])]) (fun s_ w' => (w'.cell? ⟨gb275, 0, none⟩ = some (.int .i64 ji16) ∧ w'.cell? ⟨gb275, 1, none⟩ = some (.int .i64 (Go.bits .and .i64 (ji18) 63)) ∧ w'.cell? ⟨gb275, 2, none⟩ = some (.int .i64 (Go.bits .and .i64 a3 (wrap64 ((ji20) - 1)))) ∧ w'.cell? ⟨gb279, 0, none⟩ = some (.int .u64 t276) ∧ w'.cell? ⟨gb279, 1, none⟩ = some (.int .u64 t277) ∧ w'.cell? ⟨gb273, 0, none⟩ = some (.int .i64 a2_0) ∧ w'.cell? ⟨gb273, 1, none⟩ = some (.int .i64 a2_1) ∧ w'.cell? ⟨gb273, 2, none⟩ = some (.int .i64 a2_2) ∧ w'.cell? ⟨gb273, 3, none⟩ = some (.int .i64 a2_3)) ∧ (w'.heap[gb272]? = some (.cells #[.int .i64 a0_0, .int .u64 a0_1, .int .u64 a0_2, .int .u64 a0_3, .int .u64 a0_4, .int .u64 a0_5, .int .u64 a0_6] 31 (0, 0))) ∧ (w'.heap[gb273]? = some (.cells #[.int .i64 a2_0, .int .i64 a2_1, .int .i64 a2_2, .int .i64 a2_3] 36 (0, 0))) ∧ (w'.heap[gb275]? = some (.cells #[.int .i64 ji16, .int .i64 (Go.bits .and .i64 (ji18) 63), .int .i64 (Go.bits .and .i64 a3 (wrap64 ((ji20) - 1)))] 75 (0, 0))) ∧ (w'.heap[gb279]? = some (.cells #[.int .u64 t276, .int .u64 t277] 29 (0, 0))) ∧ (w'.heap[s_]? = some (.cells #[.int .i64 0, .int .i64 0, .int .i64 0] 75 (0, 0))) ∧ (w.heap.size ≤ s_) ∧ (w.heap.size ≤ s_) ∧ (gb272 ≠ s_) ∧ (s_ ≠ gb272) ∧ (gb273 ≠ s_) ∧ (s_ ≠ gb273) ∧ (gb275 ≠ s_) ∧ (s_ ≠ gb275) ∧ (gb279 ≠ s_) ∧ (s_ ≠ gb279) ∧ (Below w.heap.size w w')) ?_ ?_
                rotate_left
                · intro hCont
                  refine two_ (i := 10) (j := 12) (Ni := some 69) (Nj := some 15) #[true, true, true, true, true, true, true, true, true, true, true, false, false, false] #[true, true, true, true, true, true, true, true, true, true, false, false, true, false] rfl rfl rfl rfl (two_of HT_.out (by kernel_rfl)) (by decide) (by decide) (fun K hK => ?_) (fun K hK => ?_)
                  · skip
                    refine goes_ Try.func27 (by kernel_rfl) rfl #[.agg #[.int .u64 t276, .int .u64 t277], .int .i64 a1, .agg #[.int .i64 a2_0, .int .i64 a2_1, .int .i64 a2_2, .int .i64 a2_3], .int .i64 (Go.bits .xor .i64 (Go.bits .and .i64 (ji18) 63) t280), .int .i64 ji16] (by rfl) rfl rfl (by (try simp only [List.map_toArray, List.map_cons, List.map_nil]); first | done | (simp only [hji16, hji18]; rfl) | rfl | (simp only [List.length_drop, List.length_take]; rfl)) ?_
                    with_reducible refine (cookie_tag.calls kj5 t276 t277 a1 a2_0 a2_1 a2_2 a2_3 (Go.bits .xor .i64 (Go.bits .and .i64 (ji18) 63) t280) ji16 t281 _ A24.out).mono ?_
                    rintro e w78 ⟨rfl, hb⟩
                    refine ⟨_, rfl, ?_⟩
                    have n0_ := Aside0.mk (blk_below (g := gb272) (o := .cells #[.int .i64 a0_0, .int .u64 a0_1, .int .u64 a0_2, .int .u64 a0_3, .int .u64 a0_4, .int .u64 a0_5, .int .u64 a0_6] 31 (0, 0)) (by (with_reducible repeat (first | refine blk_drewN ?_ _ | refine blk_drew ?_ | refine blk_alloc ?_ _)); exact BK272.out) hb)
                    have n1_ := Aside0.mk (blk_below (g := gb273) (o := .cells #[.int .i64 a2_0, .int .i64 a2_1, .int .i64 a2_2, .int .i64 a2_3] 36 (0, 0)) (by (with_reducible repeat (first | refine blk_drewN ?_ _ | refine blk_drew ?_ | refine blk_alloc ?_ _)); exact BK273.out) hb)
                    have n2_ := Aside0.mk (blk_below (g := gb275) (o := .cells #[.int .i64 ji16, .int .i64 (Go.bits .and .i64 (ji18) 63), .int .i64 (Go.bits .and .i64 a3 (wrap64 ((ji20) - 1)))] 75 (0, 0)) (by (with_reducible repeat (first | refine blk_drewN ?_ _ | refine blk_drew ?_ | refine blk_alloc ?_ _)); exact BK275.out) hb)
                    have n3_ := Aside0.mk (blk_below (g := gb279) (o := .cells #[.int .u64 t276, .int .u64 t277] 29 (0, 0)) (by (with_reducible repeat (first | refine blk_drewN ?_ _ | refine blk_drew ?_ | refine blk_alloc ?_ _)); exact BK279.out) hb)
                    have n4_ := Aside0.mk (below_step (by repeat (first | (with_reducible first | exact HB.out | apply below_alloc | apply pw_below_drewN | apply below_drew1 | refine below_set ?_ GE272.out | refine below_set ?_ GE273.out | refine below_set ?_ GE275.out | refine below_set ?_ GE279.out) | exact HB.out)) hb)
                    clear BK272
                    clear BK273
                    clear BK275
                    clear BK279
                    clear HB
                    have BK272 := n0_
                    have BK273 := n1_
                    have BK275 := n2_
                    have BK279 := n3_
                    have HB := n4_
                    clear n0_ n1_ n2_ n3_ n4_
                    (try clear hb)
                    (try clear hb2)
                    (try clear hk)
                    (try clear hi)
                    refine hK.out _ _ ⟨(blk_cell BK275.out 0).trans rfl, (blk_cell BK275.out 1).trans rfl, (blk_cell BK275.out 2).trans rfl, (blk_cell BK279.out 0).trans rfl, (blk_cell BK279.out 1).trans rfl, (blk_cell BK273.out 0).trans rfl, (blk_cell BK273.out 1).trans rfl, (blk_cell BK273.out 2).trans rfl, (blk_cell BK273.out 3).trans rfl⟩ (fun hHeld => ?_)
                    clear hK K
                    refine norm_ (a' := ?_) ?_ ?_
                    rotate_left
                    · show Act.put _ (some 69) _ = _
                      simp only [Act.put, List.setIfInBounds_toArray, List.set_cons_zero, List.set_cons_succ, i64_w, i32_w]
                      rfl
                    refine pure_ (i := 11) (N := some 70) (v := ?_) (a' := ?_) #[true, true, true, true, true, true, true, true, true, true, true, true, false, false] rfl rfl (any_of HT_.out (by kernel_rfl)) (fun _ _ _ h => h) (Or.inl ⟨by rfl, ?_⟩) ?_ ?_
                    rotate_left
                    · intro w'
                      go_simp
                      with_reducible rfl
                    rotate_left
                    · simp only [Act.put, List.setIfInBounds_toArray, List.set_cons_zero, List.set_cons_succ, i64_w, i32_w]
                      rfl
                    refine one_ (i := 12) (N := some 15) #[true, true, true, true, true, true, true, true, true, true, true, true, true, false] rfl rfl (one_of HT_.out (by kernel_rfl)) (by decide) (fun K hK => ?_)
                    refine box_step ?hg (N := 15) ?hd (cs := #[.int .i64 0, .int .i64 0, .int .i64 0]) (t := 75) ?hr ?_; (case hd => rfl); (case hg => rfl); (case hr => first | (go_simp; done) | (go_simp; rfl))
                    intro gb282 hg w79 hbox hb
                    have n0_ := Aside0.mk (blk_below (g := gb272) (o := .cells #[.int .i64 a0_0, .int .u64 a0_1, .int .u64 a0_2, .int .u64 a0_3, .int .u64 a0_4, .int .u64 a0_5, .int .u64 a0_6] 31 (0, 0)) (by (with_reducible repeat (first | refine blk_drewN ?_ _ | refine blk_drew ?_ | refine blk_alloc ?_ _)); exact BK272.out) hb)
                    have n1_ := Aside0.mk (blk_below (g := gb273) (o := .cells #[.int .i64 a2_0, .int .i64 a2_1, .int .i64 a2_2, .int .i64 a2_3] 36 (0, 0)) (by (with_reducible repeat (first | refine blk_drewN ?_ _ | refine blk_drew ?_ | refine blk_alloc ?_ _)); exact BK273.out) hb)
                    have n2_ := Aside0.mk (blk_below (g := gb275) (o := .cells #[.int .i64 ji16, .int .i64 (Go.bits .and .i64 (ji18) 63), .int .i64 (Go.bits .and .i64 a3 (wrap64 ((ji20) - 1)))] 75 (0, 0)) (by (with_reducible repeat (first | refine blk_drewN ?_ _ | refine blk_drew ?_ | refine blk_alloc ?_ _)); exact BK275.out) hb)
                    have n3_ := Aside0.mk (blk_below (g := gb279) (o := .cells #[.int .u64 t276, .int .u64 t277] 29 (0, 0)) (by (with_reducible repeat (first | refine blk_drewN ?_ _ | refine blk_drew ?_ | refine blk_alloc ?_ _)); exact BK279.out) hb)
                    have n4_ := Aside0.mk (below_step (by repeat (first | (with_reducible first | exact HB.out | apply below_alloc | apply pw_below_drewN | apply below_drew1 | refine below_set ?_ GE272.out | refine below_set ?_ GE273.out | refine below_set ?_ GE275.out | refine below_set ?_ GE279.out) | exact HB.out)) hb)
                    have n5_ := Aside0.mk (hbox)
                    have n6_ := Aside0.mk ((by rw [hg]; exact (below_size (by repeat (first | (with_reducible first | exact HB.out | apply below_alloc | apply pw_below_drewN | apply below_drew1 | refine below_set ?_ GE272.out | refine below_set ?_ GE273.out | refine below_set ?_ GE275.out | refine below_set ?_ GE279.out) | exact HB.out))) : w.heap.size ≤ gb282))
                    have n7_ := Aside0.mk ((by rw [hg]; exact (below_size (by repeat (first | (with_reducible first | exact HB.out | apply below_alloc | apply pw_below_drewN | apply below_drew1 | refine below_set ?_ GE272.out | refine below_set ?_ GE273.out | refine below_set ?_ GE275.out | refine below_set ?_ GE279.out) | exact HB.out))) : w.heap.size ≤ gb282))
                    have n8_ := Aside0.mk ((by rw [hg]; exact Nat.ne_of_lt (blk_lt (g := gb272) (o := .cells #[.int .i64 a0_0, .int .u64 a0_1, .int .u64 a0_2, .int .u64 a0_3, .int .u64 a0_4, .int .u64 a0_5, .int .u64 a0_6] 31 (0, 0)) (by (with_reducible repeat (first | refine blk_drewN ?_ _ | refine blk_drew ?_ | refine blk_alloc ?_ _)); exact BK272.out)) : gb272 ≠ gb282))
                    have n9_ := Aside0.mk ((by rw [hg]; exact Nat.ne_of_gt (blk_lt (g := gb272) (o := .cells #[.int .i64 a0_0, .int .u64 a0_1, .int .u64 a0_2, .int .u64 a0_3, .int .u64 a0_4, .int .u64 a0_5, .int .u64 a0_6] 31 (0, 0)) (by (with_reducible repeat (first | refine blk_drewN ?_ _ | refine blk_drew ?_ | refine blk_alloc ?_ _)); exact BK272.out)) : gb282 ≠ gb272))
                    have n10_ := Aside0.mk ((by rw [hg]; exact Nat.ne_of_lt (blk_lt (g := gb273) (o := .cells #[.int .i64 a2_0, .int .i64 a2_1, .int .i64 a2_2, .int .i64 a2_3] 36 (0, 0)) (by (with_reducible repeat (first | refine blk_drewN ?_ _ | refine blk_drew ?_ | refine blk_alloc ?_ _)); exact BK273.out)) : gb273 ≠ gb282))
                    have n11_ := Aside0.mk ((by rw [hg]; exact Nat.ne_of_gt (blk_lt (g := gb273) (o := .cells #[.int .i64 a2_0, .int .i64 a2_1, .int .i64 a2_2, .int .i64 a2_3] 36 (0, 0)) (by (with_reducible repeat (first | refine blk_drewN ?_ _ | refine blk_drew ?_ | refine blk_alloc ?_ _)); exact BK273.out)) : gb282 ≠ gb273))
                    have n12_ := Aside0.mk ((by rw [hg]; exact Nat.ne_of_lt (blk_lt (g := gb275) (o := .cells #[.int .i64 ji16, .int .i64 (Go.bits .and .i64 (ji18) 63), .int .i64 (Go.bits .and .i64 a3 (wrap64 ((ji20) - 1)))] 75 (0, 0)) (by (with_reducible repeat (first | refine blk_drewN ?_ _ | refine blk_drew ?_ | refine blk_alloc ?_ _)); exact BK275.out)) : gb275 ≠ gb282))
                    have n13_ := Aside0.mk ((by rw [hg]; exact Nat.ne_of_gt (blk_lt (g := gb275) (o := .cells #[.int .i64 ji16, .int .i64 (Go.bits .and .i64 (ji18) 63), .int .i64 (Go.bits .and .i64 a3 (wrap64 ((ji20) - 1)))] 75 (0, 0)) (by (with_reducible repeat (first | refine blk_drewN ?_ _ | refine blk_drew ?_ | refine blk_alloc ?_ _)); exact BK275.out)) : gb282 ≠ gb275))
                    have n14_ := Aside0.mk ((by rw [hg]; exact Nat.ne_of_lt (blk_lt (g := gb279) (o := .cells #[.int .u64 t276, .int .u64 t277] 29 (0, 0)) (by (with_reducible repeat (first | refine blk_drewN ?_ _ | refine blk_drew ?_ | refine blk_alloc ?_ _)); exact BK279.out)) : gb279 ≠ gb282))
                    have n15_ := Aside0.mk ((by rw [hg]; exact Nat.ne_of_gt (blk_lt (g := gb279) (o := .cells #[.int .u64 t276, .int .u64 t277] 29 (0, 0)) (by (with_reducible repeat (first | refine blk_drewN ?_ _ | refine blk_drew ?_ | refine blk_alloc ?_ _)); exact BK279.out)) : gb282 ≠ gb279))
                    clear BK272
                    clear BK273
                    clear BK275
                    clear BK279
                    clear HB
                    have BK272 := n0_
                    have BK273 := n1_
                    have BK275 := n2_
                    have BK279 := n3_
                    have HB := n4_
                    have BK282 := n5_
                    have GW282 := n6_
                    have GE282 := n7_
                    have NB272_282 := n8_
                    have NB282_272 := n9_
                    have NB273_282 := n10_
                    have NB282_273 := n11_
                    have NB275_282 := n12_
                    have NB282_275 := n13_
                    have NB279_282 := n14_
                    have NB282_279 := n15_
                    clear n0_ n1_ n2_ n3_ n4_ n5_ n6_ n7_ n8_ n9_ n10_ n11_ n12_ n13_ n14_ n15_
                    clear hb hbox hg
                    refine hK.out _ _ ⟨(blk_cell BK275.out 0).trans rfl, (blk_cell BK275.out 1).trans rfl, (blk_cell BK275.out 2).trans rfl, (blk_cell BK279.out 0).trans rfl, (blk_cell BK279.out 1).trans rfl, (blk_cell BK273.out 0).trans rfl, (blk_cell BK273.out 1).trans rfl, (blk_cell BK273.out 2).trans rfl, (blk_cell BK273.out 3).trans rfl⟩ (fun hHeld => ?_)
                    clear hK K
                    refine norm_ (a' := ?_) ?_ ?_
                    rotate_left
                    · show Act.put _ (some 15) _ = _
                      simp only [Act.put, List.setIfInBounds_toArray, List.set_cons_zero, List.set_cons_succ, i64_w, i32_w]
                      rfl
                    exact norm_ (by simp only [putAll, Act.put, List.setIfInBounds_toArray, List.set_cons_zero, List.set_cons_succ]) (hCont (gb282) _ ⟨hHeld, (by (with_reducible repeat (first | refine blk_drewN ?_ _ | refine blk_drew ?_ | refine blk_alloc ?_ _)); exact BK272.out), (by (with_reducible repeat (first | refine blk_drewN ?_ _ | refine blk_drew ?_ | refine blk_alloc ?_ _)); exact BK273.out), (by (with_reducible repeat (first | refine blk_drewN ?_ _ | refine blk_drew ?_ | refine blk_alloc ?_ _)); exact BK275.out), (by (with_reducible repeat (first | refine blk_drewN ?_ _ | refine blk_drew ?_ | refine blk_alloc ?_ _)); exact BK279.out), (by (with_reducible repeat (first | refine blk_drewN ?_ _ | refine blk_drew ?_ | refine blk_alloc ?_ _)); exact BK282.out), GW282.out, GE282.out, NB272_282.out, NB282_272.out, NB273_282.out, NB282_273.out, NB275_282.out, NB282_275.out, NB279_282.out, NB282_279.out, (by repeat (first | (with_reducible first | exact HB.out | apply below_alloc | apply pw_below_drewN | apply below_drew1 | refine below_set ?_ GE272.out | refine below_set ?_ GE273.out | refine below_set ?_ GE275.out | refine below_set ?_ GE279.out | refine below_set ?_ GE282.out) | exact HB.out))⟩)
                  · skip
                    refine box_step ?hg (N := 15) ?hd (cs := #[.int .i64 0, .int .i64 0, .int .i64 0]) (t := 75) ?hr ?_; (case hd => rfl); (case hg => rfl); (case hr => first | (go_simp; done) | (go_simp; rfl))
                    intro gb282 hg w78 hbox hb
                    have n0_ := Aside0.mk (blk_below (g := gb272) (o := .cells #[.int .i64 a0_0, .int .u64 a0_1, .int .u64 a0_2, .int .u64 a0_3, .int .u64 a0_4, .int .u64 a0_5, .int .u64 a0_6] 31 (0, 0)) (by (with_reducible repeat (first | refine blk_drewN ?_ _ | refine blk_drew ?_ | refine blk_alloc ?_ _)); exact BK272.out) hb)
                    have n1_ := Aside0.mk (blk_below (g := gb273) (o := .cells #[.int .i64 a2_0, .int .i64 a2_1, .int .i64 a2_2, .int .i64 a2_3] 36 (0, 0)) (by (with_reducible repeat (first | refine blk_drewN ?_ _ | refine blk_drew ?_ | refine blk_alloc ?_ _)); exact BK273.out) hb)
                    have n2_ := Aside0.mk (blk_below (g := gb275) (o := .cells #[.int .i64 ji16, .int .i64 (Go.bits .and .i64 (ji18) 63), .int .i64 (Go.bits .and .i64 a3 (wrap64 ((ji20) - 1)))] 75 (0, 0)) (by (with_reducible repeat (first | refine blk_drewN ?_ _ | refine blk_drew ?_ | refine blk_alloc ?_ _)); exact BK275.out) hb)
                    have n3_ := Aside0.mk (blk_below (g := gb279) (o := .cells #[.int .u64 t276, .int .u64 t277] 29 (0, 0)) (by (with_reducible repeat (first | refine blk_drewN ?_ _ | refine blk_drew ?_ | refine blk_alloc ?_ _)); exact BK279.out) hb)
                    have n4_ := Aside0.mk (below_step (by repeat (first | (with_reducible first | exact HB.out | apply below_alloc | apply pw_below_drewN | apply below_drew1 | refine below_set ?_ GE272.out | refine below_set ?_ GE273.out | refine below_set ?_ GE275.out | refine below_set ?_ GE279.out) | exact HB.out)) hb)
                    have n5_ := Aside0.mk (hbox)
                    have n6_ := Aside0.mk ((by rw [hg]; exact (below_size (by repeat (first | (with_reducible first | exact HB.out | apply below_alloc | apply pw_below_drewN | apply below_drew1 | refine below_set ?_ GE272.out | refine below_set ?_ GE273.out | refine below_set ?_ GE275.out | refine below_set ?_ GE279.out) | exact HB.out))) : w.heap.size ≤ gb282))
                    have n7_ := Aside0.mk ((by rw [hg]; exact (below_size (by repeat (first | (with_reducible first | exact HB.out | apply below_alloc | apply pw_below_drewN | apply below_drew1 | refine below_set ?_ GE272.out | refine below_set ?_ GE273.out | refine below_set ?_ GE275.out | refine below_set ?_ GE279.out) | exact HB.out))) : w.heap.size ≤ gb282))
                    have n8_ := Aside0.mk ((by rw [hg]; exact Nat.ne_of_lt (blk_lt (g := gb272) (o := .cells #[.int .i64 a0_0, .int .u64 a0_1, .int .u64 a0_2, .int .u64 a0_3, .int .u64 a0_4, .int .u64 a0_5, .int .u64 a0_6] 31 (0, 0)) (by (with_reducible repeat (first | refine blk_drewN ?_ _ | refine blk_drew ?_ | refine blk_alloc ?_ _)); exact BK272.out)) : gb272 ≠ gb282))
                    have n9_ := Aside0.mk ((by rw [hg]; exact Nat.ne_of_gt (blk_lt (g := gb272) (o := .cells #[.int .i64 a0_0, .int .u64 a0_1, .int .u64 a0_2, .int .u64 a0_3, .int .u64 a0_4, .int .u64 a0_5, .int .u64 a0_6] 31 (0, 0)) (by (with_reducible repeat (first | refine blk_drewN ?_ _ | refine blk_drew ?_ | refine blk_alloc ?_ _)); exact BK272.out)) : gb282 ≠ gb272))
                    have n10_ := Aside0.mk ((by rw [hg]; exact Nat.ne_of_lt (blk_lt (g := gb273) (o := .cells #[.int .i64 a2_0, .int .i64 a2_1, .int .i64 a2_2, .int .i64 a2_3] 36 (0, 0)) (by (with_reducible repeat (first | refine blk_drewN ?_ _ | refine blk_drew ?_ | refine blk_alloc ?_ _)); exact BK273.out)) : gb273 ≠ gb282))
                    have n11_ := Aside0.mk ((by rw [hg]; exact Nat.ne_of_gt (blk_lt (g := gb273) (o := .cells #[.int .i64 a2_0, .int .i64 a2_1, .int .i64 a2_2, .int .i64 a2_3] 36 (0, 0)) (by (with_reducible repeat (first | refine blk_drewN ?_ _ | refine blk_drew ?_ | refine blk_alloc ?_ _)); exact BK273.out)) : gb282 ≠ gb273))
                    have n12_ := Aside0.mk ((by rw [hg]; exact Nat.ne_of_lt (blk_lt (g := gb275) (o := .cells #[.int .i64 ji16, .int .i64 (Go.bits .and .i64 (ji18) 63), .int .i64 (Go.bits .and .i64 a3 (wrap64 ((ji20) - 1)))] 75 (0, 0)) (by (with_reducible repeat (first | refine blk_drewN ?_ _ | refine blk_drew ?_ | refine blk_alloc ?_ _)); exact BK275.out)) : gb275 ≠ gb282))
                    have n13_ := Aside0.mk ((by rw [hg]; exact Nat.ne_of_gt (blk_lt (g := gb275) (o := .cells #[.int .i64 ji16, .int .i64 (Go.bits .and .i64 (ji18) 63), .int .i64 (Go.bits .and .i64 a3 (wrap64 ((ji20) - 1)))] 75 (0, 0)) (by (with_reducible repeat (first | refine blk_drewN ?_ _ | refine blk_drew ?_ | refine blk_alloc ?_ _)); exact BK275.out)) : gb282 ≠ gb275))
                    have n14_ := Aside0.mk ((by rw [hg]; exact Nat.ne_of_lt (blk_lt (g := gb279) (o := .cells #[.int .u64 t276, .int .u64 t277] 29 (0, 0)) (by (with_reducible repeat (first | refine blk_drewN ?_ _ | refine blk_drew ?_ | refine blk_alloc ?_ _)); exact BK279.out)) : gb279 ≠ gb282))
                    have n15_ := Aside0.mk ((by rw [hg]; exact Nat.ne_of_gt (blk_lt (g := gb279) (o := .cells #[.int .u64 t276, .int .u64 t277] 29 (0, 0)) (by (with_reducible repeat (first | refine blk_drewN ?_ _ | refine blk_drew ?_ | refine blk_alloc ?_ _)); exact BK279.out)) : gb282 ≠ gb279))
                    clear BK272
                    clear BK273
                    clear BK275
                    clear BK279
                    clear HB
                    have BK272 := n0_
                    have BK273 := n1_
                    have BK275 := n2_
                    have BK279 := n3_
                    have HB := n4_
                    have BK282 := n5_
                    have GW282 := n6_
                    have GE282 := n7_
                    have NB272_282 := n8_
                    have NB282_272 := n9_
                    have NB273_282 := n10_
                    have NB282_273 := n11_
                    have NB275_282 := n12_
                    have NB282_275 := n13_
                    have NB279_282 := n14_
                    have NB282_279 := n15_
                    clear n0_ n1_ n2_ n3_ n4_ n5_ n6_ n7_ n8_ n9_ n10_ n11_ n12_ n13_ n14_ n15_
                    clear hb hbox hg
                    refine hK.out _ _ ⟨(blk_cell BK275.out 0).trans rfl, (blk_cell BK275.out 1).trans rfl, (blk_cell BK275.out 2).trans rfl, (blk_cell BK279.out 0).trans rfl, (blk_cell BK279.out 1).trans rfl, (blk_cell BK273.out 0).trans rfl, (blk_cell BK273.out 1).trans rfl, (blk_cell BK273.out 2).trans rfl, (blk_cell BK273.out 3).trans rfl⟩ (fun hHeld => ?_)
                    clear hK K
                    refine norm_ (a' := ?_) ?_ ?_
                    rotate_left
                    · show Act.put _ (some 15) _ = _
                      simp only [Act.put, List.setIfInBounds_toArray, List.set_cons_zero, List.set_cons_succ, i64_w, i32_w]
                      rfl
                    refine one_ (i := 10) (N := some 69) #[true, true, true, true, true, true, true, true, true, true, true, false, true, false] rfl rfl (one_of HT_.out (by kernel_rfl)) (by decide) (fun K hK => ?_)
                    refine goes_ Try.func27 (by kernel_rfl) rfl #[.agg #[.int .u64 t276, .int .u64 t277], .int .i64 a1, .agg #[.int .i64 a2_0, .int .i64 a2_1, .int .i64 a2_2, .int .i64 a2_3], .int .i64 (Go.bits .xor .i64 (Go.bits .and .i64 (ji18) 63) t280), .int .i64 ji16] (by rfl) rfl rfl (by (try simp only [List.map_toArray, List.map_cons, List.map_nil]); first | done | (simp only [hji16, hji18]; rfl) | rfl | (simp only [List.length_drop, List.length_take]; rfl)) ?_
                    with_reducible refine (cookie_tag.calls kj5 t276 t277 a1 a2_0 a2_1 a2_2 a2_3 (Go.bits .xor .i64 (Go.bits .and .i64 (ji18) 63) t280) ji16 t281 _ A24.out).mono ?_
                    rintro e w79 ⟨rfl, hb⟩
                    refine ⟨_, rfl, ?_⟩
                    have n0_ := Aside0.mk (blk_below (g := gb272) (o := .cells #[.int .i64 a0_0, .int .u64 a0_1, .int .u64 a0_2, .int .u64 a0_3, .int .u64 a0_4, .int .u64 a0_5, .int .u64 a0_6] 31 (0, 0)) (by (with_reducible repeat (first | refine blk_drewN ?_ _ | refine blk_drew ?_ | refine blk_alloc ?_ _)); exact BK272.out) hb)
                    have n1_ := Aside0.mk (blk_below (g := gb273) (o := .cells #[.int .i64 a2_0, .int .i64 a2_1, .int .i64 a2_2, .int .i64 a2_3] 36 (0, 0)) (by (with_reducible repeat (first | refine blk_drewN ?_ _ | refine blk_drew ?_ | refine blk_alloc ?_ _)); exact BK273.out) hb)
                    have n2_ := Aside0.mk (blk_below (g := gb275) (o := .cells #[.int .i64 ji16, .int .i64 (Go.bits .and .i64 (ji18) 63), .int .i64 (Go.bits .and .i64 a3 (wrap64 ((ji20) - 1)))] 75 (0, 0)) (by (with_reducible repeat (first | refine blk_drewN ?_ _ | refine blk_drew ?_ | refine blk_alloc ?_ _)); exact BK275.out) hb)
                    have n3_ := Aside0.mk (blk_below (g := gb279) (o := .cells #[.int .u64 t276, .int .u64 t277] 29 (0, 0)) (by (with_reducible repeat (first | refine blk_drewN ?_ _ | refine blk_drew ?_ | refine blk_alloc ?_ _)); exact BK279.out) hb)
                    have n4_ := Aside0.mk (blk_below (g := gb282) (o := .cells #[.int .i64 0, .int .i64 0, .int .i64 0] 75 (0, 0)) (by (with_reducible repeat (first | refine blk_drewN ?_ _ | refine blk_drew ?_ | refine blk_alloc ?_ _)); exact BK282.out) hb)
                    have n5_ := Aside0.mk (below_step (by repeat (first | (with_reducible first | exact HB.out | apply below_alloc | apply pw_below_drewN | apply below_drew1 | refine below_set ?_ GE272.out | refine below_set ?_ GE273.out | refine below_set ?_ GE275.out | refine below_set ?_ GE279.out | refine below_set ?_ GE282.out) | exact HB.out)) hb)
                    clear BK272
                    clear BK273
                    clear BK275
                    clear BK279
                    clear BK282
                    clear HB
                    have BK272 := n0_
                    have BK273 := n1_
                    have BK275 := n2_
                    have BK279 := n3_
                    have BK282 := n4_
                    have HB := n5_
                    clear n0_ n1_ n2_ n3_ n4_ n5_
                    (try clear hb)
                    (try clear hb2)
                    (try clear hk)
                    (try clear hi)
                    refine hK.out _ _ ⟨(blk_cell BK275.out 0).trans rfl, (blk_cell BK275.out 1).trans rfl, (blk_cell BK275.out 2).trans rfl, (blk_cell BK279.out 0).trans rfl, (blk_cell BK279.out 1).trans rfl, (blk_cell BK273.out 0).trans rfl, (blk_cell BK273.out 1).trans rfl, (blk_cell BK273.out 2).trans rfl, (blk_cell BK273.out 3).trans rfl⟩ (fun hHeld => ?_)
                    clear hK K
                    refine norm_ (a' := ?_) ?_ ?_
                    rotate_left
                    · show Act.put _ (some 69) _ = _
                      simp only [Act.put, List.setIfInBounds_toArray, List.set_cons_zero, List.set_cons_succ, i64_w, i32_w]
                      rfl
                    refine pure_ (i := 11) (N := some 70) (v := ?_) (a' := ?_) #[true, true, true, true, true, true, true, true, true, true, true, true, true, false] rfl rfl (any_of HT_.out (by kernel_rfl)) (fun _ _ _ h => h) (Or.inl ⟨by rfl, ?_⟩) ?_ ?_
                    rotate_left
                    · intro w'
                      go_simp
                      with_reducible rfl
                    rotate_left
                    · simp only [Act.put, List.setIfInBounds_toArray, List.set_cons_zero, List.set_cons_succ, i64_w, i32_w]
                      rfl
                    exact norm_ (by simp only [putAll, Act.put, List.setIfInBounds_toArray, List.set_cons_zero, List.set_cons_succ]) (hCont (gb282) _ ⟨hHeld, (by (with_reducible repeat (first | refine blk_drewN ?_ _ | refine blk_drew ?_ | refine blk_alloc ?_ _)); exact BK272.out), (by (with_reducible repeat (first | refine blk_drewN ?_ _ | refine blk_drew ?_ | refine blk_alloc ?_ _)); exact BK273.out), (by (with_reducible repeat (first | refine blk_drewN ?_ _ | refine blk_drew ?_ | refine blk_alloc ?_ _)); exact BK275.out), (by (with_reducible repeat (first | refine blk_drewN ?_ _ | refine blk_drew ?_ | refine blk_alloc ?_ _)); exact BK279.out), (by (with_reducible repeat (first | refine blk_drewN ?_ _ | refine blk_drew ?_ | refine blk_alloc ?_ _)); exact BK282.out), GW282.out, GE282.out, NB272_282.out, NB282_272.out, NB273_282.out, NB282_273.out, NB275_282.out, NB282_275.out, NB279_282.out, NB282_279.out, (by repeat (first | (with_reducible first | exact HB.out | apply below_alloc | apply pw_below_drewN | apply below_drew1 | refine below_set ?_ GE272.out | refine below_set ?_ GE273.out | refine below_set ?_ GE275.out | refine below_set ?_ GE279.out | refine below_set ?_ GE282.out) | exact HB.out))⟩)
                rintro gb282 w80 ⟨hS_, h0_, h1_, h2_, h3_, h4_, h5_, h6_, h7_, h8_, h9_, h10_, h11_, h12_, h13_, h14_, h15_⟩
                have n0_ : Aside0 (w80.heap[gb272]? = some (.cells #[.int .i64 a0_0, .int .u64 a0_1, .int .u64 a0_2, .int .u64 a0_3, .int .u64 a0_4, .int .u64 a0_5, .int .u64 a0_6] 31 (0, 0))) := ⟨h0_⟩
                have n1_ : Aside0 (w80.heap[gb273]? = some (.cells #[.int .i64 a2_0, .int .i64 a2_1, .int .i64 a2_2, .int .i64 a2_3] 36 (0, 0))) := ⟨h1_⟩
                have n2_ : Aside0 (w80.heap[gb275]? = some (.cells #[.int .i64 ji16, .int .i64 (Go.bits .and .i64 (ji18) 63), .int .i64 (Go.bits .and .i64 a3 (wrap64 ((ji20) - 1)))] 75 (0, 0))) := ⟨h2_⟩
                have n3_ : Aside0 (w80.heap[gb279]? = some (.cells #[.int .u64 t276, .int .u64 t277] 29 (0, 0))) := ⟨h3_⟩
                have n4_ : Aside0 (w80.heap[gb282]? = some (.cells #[.int .i64 0, .int .i64 0, .int .i64 0] 75 (0, 0))) := ⟨h4_⟩
                have n5_ : Aside0 (w.heap.size ≤ gb282) := ⟨h5_⟩
                have n6_ : Aside0 (w.heap.size ≤ gb282) := ⟨h6_⟩
                have n7_ : Aside0 (gb272 ≠ gb282) := ⟨h7_⟩
                have n8_ : Aside0 (gb282 ≠ gb272) := ⟨h8_⟩
                have n9_ : Aside0 (gb273 ≠ gb282) := ⟨h9_⟩
                have n10_ : Aside0 (gb282 ≠ gb273) := ⟨h10_⟩
                have n11_ : Aside0 (gb275 ≠ gb282) := ⟨h11_⟩
                have n12_ : Aside0 (gb282 ≠ gb275) := ⟨h12_⟩
                have n13_ : Aside0 (gb279 ≠ gb282) := ⟨h13_⟩
                have n14_ : Aside0 (gb282 ≠ gb279) := ⟨h14_⟩
                have n15_ : Aside0 (Below w.heap.size w w80) := ⟨h15_⟩
                clear BK272
                clear BK273
                clear BK275
                clear BK279
                clear HB
                clear h0_ h1_ h2_ h3_ h4_ h5_ h6_ h7_ h8_ h9_ h10_ h11_ h12_ h13_ h14_ h15_
                have BK272 := n0_
                have BK273 := n1_
                have BK275 := n2_
                have BK279 := n3_
                have BK282 := n4_
                have GW282 := n5_
                have GE282 := n6_
                have NB272_282 := n7_
                have NB282_272 := n8_
                have NB273_282 := n9_
                have NB282_273 := n10_
                have NB275_282 := n11_
                have NB282_275 := n12_
                have NB279_282 := n13_
                have NB282_279 := n14_
                have HB := n15_
                clear n0_ n1_ n2_ n3_ n4_ n5_ n6_ n7_ n8_ n9_ n10_ n11_ n12_ n13_ n14_ n15_
                have hHeld : w80.cell? ⟨gb275, 0, none⟩ = some (.int .i64 ji16) ∧ w80.cell? ⟨gb275, 1, none⟩ = some (.int .i64 (Go.bits .and .i64 (ji18) 63)) ∧ w80.cell? ⟨gb275, 2, none⟩ = some (.int .i64 (Go.bits .and .i64 a3 (wrap64 ((ji20) - 1)))) ∧ w80.cell? ⟨gb279, 0, none⟩ = some (.int .u64 t276) ∧ w80.cell? ⟨gb279, 1, none⟩ = some (.int .u64 t277) ∧ w80.cell? ⟨gb273, 0, none⟩ = some (.int .i64 a2_0) ∧ w80.cell? ⟨gb273, 1, none⟩ = some (.int .i64 a2_1) ∧ w80.cell? ⟨gb273, 2, none⟩ = some (.int .i64 a2_2) ∧ w80.cell? ⟨gb273, 3, none⟩ = some (.int .i64 a2_3) := hS_
                refine norm_ (a' := ?_) ?_ ?_
                rotate_left
                · simp only [putAll, Act.put, List.setIfInBounds_toArray, List.set_cons_zero, List.set_cons_succ]
                  rfl
                refine one_ (i := 13) (N := none) #[true, true, true, true, true, true, true, true, true, true, true, true, true, true] rfl rfl (one_of HT_.out (by kernel_rfl)) (by decide) (fun K hK => ?_)
                have hs81 : w80.cell? ⟨gb282, 0, none⟩ = some (.int .i64 0) := (blk_cell BK282.out 0).trans rfl
                have hfs81 := blk_frozen BK282.out 0
                have hns81_0 := NB272_282.out
                have hns81_1 := NB273_282.out
                have hns81_2 := NB275_282.out
                have hns81_3 := NB279_282.out
                have hms81_0 := NB282_272.out
                have hms81_1 := NB282_273.out
                have hms81_2 := NB282_275.out
                have hms81_3 := NB282_279.out
                have hs82 : w80.cell? ⟨gb282, 1, none⟩ = some (.int .i64 0) := (blk_cell BK282.out 1).trans rfl
                have hfs82 := blk_frozen BK282.out 1
                have hns82_0 := NB272_282.out
                have hns82_1 := NB273_282.out
                have hns82_2 := NB275_282.out
                have hns82_3 := NB279_282.out
                have hms82_0 := NB282_272.out
                have hms82_1 := NB282_273.out
                have hms82_2 := NB282_275.out
                have hms82_3 := NB282_279.out
                have hs83 : w80.cell? ⟨gb282, 2, none⟩ = some (.int .i64 0) := (blk_cell BK282.out 2).trans rfl
                have hfs83 := blk_frozen BK282.out 2
                have hns83_0 := NB272_282.out
                have hns83_1 := NB273_282.out
                have hns83_2 := NB275_282.out
                have hns83_3 := NB279_282.out
                have hms83_0 := NB282_272.out
                have hms83_1 := NB282_273.out
                have hms83_2 := NB282_275.out
                have hms83_3 := NB282_279.out
                refine skip_ (w1 := ?_) (by rfl) rfl ?_ ?_
                rotate_left
                · go_simp
                  rfl
                refine hK.out _ _ ⟨((cell_far (p := ⟨gb282, _, none⟩) NB275_282.out _).trans (((cell_far (p := ⟨gb282, _, none⟩) NB275_282.out _).trans (((cell_far (p := ⟨gb282, _, none⟩) NB275_282.out _).trans (hHeld.1)))))), ((cell_far (p := ⟨gb282, _, none⟩) NB275_282.out _).trans (((cell_far (p := ⟨gb282, _, none⟩) NB275_282.out _).trans (((cell_far (p := ⟨gb282, _, none⟩) NB275_282.out _).trans (hHeld.2.1)))))), ((cell_far (p := ⟨gb282, _, none⟩) NB275_282.out _).trans (((cell_far (p := ⟨gb282, _, none⟩) NB275_282.out _).trans (((cell_far (p := ⟨gb282, _, none⟩) NB275_282.out _).trans (hHeld.2.2.1)))))), ((cell_far (p := ⟨gb282, _, none⟩) NB279_282.out _).trans (((cell_far (p := ⟨gb282, _, none⟩) NB279_282.out _).trans (((cell_far (p := ⟨gb282, _, none⟩) NB279_282.out _).trans (hHeld.2.2.2.1)))))), ((cell_far (p := ⟨gb282, _, none⟩) NB279_282.out _).trans (((cell_far (p := ⟨gb282, _, none⟩) NB279_282.out _).trans (((cell_far (p := ⟨gb282, _, none⟩) NB279_282.out _).trans (hHeld.2.2.2.2.1)))))), ((cell_far (p := ⟨gb282, _, none⟩) NB273_282.out _).trans (((cell_far (p := ⟨gb282, _, none⟩) NB273_282.out _).trans (((cell_far (p := ⟨gb282, _, none⟩) NB273_282.out _).trans (hHeld.2.2.2.2.2.1)))))), ((cell_far (p := ⟨gb282, _, none⟩) NB273_282.out _).trans (((cell_far (p := ⟨gb282, _, none⟩) NB273_282.out _).trans (((cell_far (p := ⟨gb282, _, none⟩) NB273_282.out _).trans (hHeld.2.2.2.2.2.2.1)))))), ((cell_far (p := ⟨gb282, _, none⟩) NB273_282.out _).trans (((cell_far (p := ⟨gb282, _, none⟩) NB273_282.out _).trans (((cell_far (p := ⟨gb282, _, none⟩) NB273_282.out _).trans (hHeld.2.2.2.2.2.2.2.1)))))), ((cell_far (p := ⟨gb282, _, none⟩) NB273_282.out _).trans (((cell_far (p := ⟨gb282, _, none⟩) NB273_282.out _).trans (((cell_far (p := ⟨gb282, _, none⟩) NB273_282.out _).trans (hHeld.2.2.2.2.2.2.2.2))))))⟩ (fun hHeld => ?_)
                clear hK K
                refine done_ (done_of HT_.out (by kernel_rfl)) ?_
                have hnb84 := NB282_272.out
                have hnc84 := NB272_282.out
                have hnb85 := NB282_273.out
                have hnc85 := NB273_282.out
                have hnb86 := NB282_275.out
                have hnc86 := NB275_282.out
                have hnb87 := NB282_279.out
                have hnc87 := NB279_282.out
                have hcz88_0 : w80.cell? ⟨gb282, 0, none⟩ = some (.int .i64 0) := (blk_cell BK282.out 0).trans rfl
                have hcz88_1 : w80.cell? ⟨gb282, 1, none⟩ = some (.int .i64 0) := (blk_cell BK282.out 1).trans rfl
                have hcz88_2 : w80.cell? ⟨gb282, 2, none⟩ = some (.int .i64 0) := (blk_cell BK282.out 2).trans rfl
                have hfz88_0 := blk_frozen BK282.out 0
                have hfz88_1 := blk_frozen BK282.out 1
                have hfz88_2 := blk_frozen BK282.out 2
                have hcz89_0 : w80.cell? ⟨gb275, 0, none⟩ = some (.int .i64 ji16) := (blk_cell BK275.out 0).trans rfl
                have hcz89_1 : w80.cell? ⟨gb275, 1, none⟩ = some (.int .i64 (Go.bits .and .i64 (ji18) 63)) := (blk_cell BK275.out 1).trans rfl
                have hcz89_2 : w80.cell? ⟨gb275, 2, none⟩ = some (.int .i64 (Go.bits .and .i64 a3 (wrap64 ((ji20) - 1)))) := (blk_cell BK275.out 2).trans rfl
                have hfz89_0 := blk_frozen BK275.out 0
                have hfz89_1 := blk_frozen BK275.out 1
                have hfz89_2 := blk_frozen BK275.out 2
                try go_wp2
                go_ret2
                exact ⟨by first | rfl | (simp [errW_none, errW_some] <;> rfl) | (simp only [← hji14, ← hji16, ← hji18, ← hji20]; first | rfl | (simp [errW_none, errW_some] <;> rfl)) | (simp [*, errW_none, errW_some] <;> rfl), by repeat (first | (with_reducible first | exact HB.out | apply below_alloc | apply pw_below_drewN | apply below_drew1 | refine below_set ?_ GE272.out | refine below_set ?_ GE273.out | refine below_set ?_ GE275.out | refine below_set ?_ GE279.out | refine below_set ?_ GE282.out) | exact HB.out)⟩
            · replace c22 := Bool.eq_false_iff.mpr c22
              subst c22
              have H1 : (some (0, false)) = some (r1, r2) := by rw [if_neg (show ¬ (false = true) by decide)] at H; exact H
              clear H
              have H := H1
              clear H1
              simp only [Option.some.injEq, Prod.mk.injEq] at H
              obtain ⟨rfl, rfl⟩ := H
              try go_wp2
              have n0_ := Aside0.mk (blk_drew BK272.out)
              have n1_ := Aside0.mk (blk_drew BK273.out)
              have n2_ := Aside0.mk (below_drew1 HB.out)
              clear BK272
              clear BK273
              clear HB
              have BK272 := n0_
              have BK273 := n1_
              have HB := n2_
              clear n0_ n1_ n2_
              refine start_ (n := 16) (S := fun w' => True) (ds := []) #[false, false, false, false, false, false, false, false, false, false, false, false, false, false, false, false] (by kernel_rfl) rfl rfl trivial (fun hHeld => ?_); refine with_tabW cookie_Read.tab4 cookie_Read.bits4 (fun HT_ HW_ => ?_)
              generalize wc.drew = w90 at BK272 BK273 HB hHeld ⊢
              refine pure_ (i := 0) (N := some 27) (v := ?_) (a' := ?_) #[true, false, false, false, false, false, false, false, false, false, false, false, false, false, false, false] rfl rfl (any_of HT_.out (by kernel_rfl)) (fun _ _ _ h => h) (Or.inl ⟨by rfl, ?_⟩) ?_ ?_
              rotate_left
              · intro w'
                go_simp
                with_reducible rfl
              rotate_left
              · simp only [Act.put, List.setIfInBounds_toArray, List.set_cons_zero, List.set_cons_succ, i64_w, i32_w]
                rfl
              refine pure_ (i := 1) (N := some 28) (v := ?_) (a' := ?_) #[true, true, false, false, false, false, false, false, false, false, false, false, false, false, false, false] rfl rfl (any_of HT_.out (by kernel_rfl)) (fun _ _ _ h => h) (Or.inl ⟨by rfl, ?_⟩) ?_ ?_
              rotate_left
              · intro w'
                go_simp
                with_reducible rfl
              rotate_left
              · simp only [Act.put, List.setIfInBounds_toArray, List.set_cons_zero, List.set_cons_succ, i64_w, i32_w]
                rfl
              refine pure_ (i := 2) (N := some 29) (v := ?_) (a' := ?_) #[true, true, true, false, false, false, false, false, false, false, false, false, false, false, false, false] rfl rfl (any_of HT_.out (by kernel_rfl)) (fun _ _ _ h => h) (Or.inl ⟨by rfl, ?_⟩) ?_ ?_
              rotate_left
              · intro w'
                go_simp
                with_reducible rfl
              rotate_left
              · simp only [Act.put, List.setIfInBounds_toArray, List.set_cons_zero, List.set_cons_succ, i64_w, i32_w]
                rfl
              refine pure_ (i := 3) (N := some 30) (v := ?_) (a' := ?_) #[true, true, true, true, false, false, false, false, false, false, false, false, false, false, false, false] rfl rfl (any_of HT_.out (by kernel_rfl)) (fun _ _ _ h => h) (Or.inl ⟨by rfl, ?_⟩) ?_ ?_
              rotate_left
              · intro w'
                go_simp
                with_reducible rfl
              rotate_left
              · simp only [Act.put, List.setIfInBounds_toArray, List.set_cons_zero, List.set_cons_succ, i64_w, i32_w]
                rfl
              refine pure_ (i := 4) (N := some 31) (v := ?_) (a' := ?_) #[true, true, true, true, true, false, false, false, false, false, false, false, false, false, false, false] rfl rfl (any_of HT_.out (by kernel_rfl)) (fun _ _ _ h => h) (Or.inl ⟨by rfl, ?_⟩) ?_ ?_
              rotate_left
              · intro w'
                go_simp
                with_reducible rfl
              rotate_left
              · simp only [Act.put, List.setIfInBounds_toArray, List.set_cons_zero, List.set_cons_succ, i64_w, i32_w]
                rfl
              refine pure_ (i := 5) (N := some 32) (v := ?_) (a' := ?_) #[true, true, true, true, true, true, false, false, false, false, false, false, false, false, false, false] rfl rfl (any_of HT_.out (by kernel_rfl)) (fun _ _ _ h => h) (Or.inl ⟨by rfl, ?_⟩) ?_ ?_
              rotate_left
              · intro w'
                go_simp
                with_reducible rfl
              rotate_left
              · simp only [Act.put, List.setIfInBounds_toArray, List.set_cons_zero, List.set_cons_succ, i64_w, i32_w]
                rfl
              refine pure_ (i := 6) (N := some 33) (v := ?_) (a' := ?_) #[true, true, true, true, true, true, true, false, false, false, false, false, false, false, false, false] rfl rfl (any_of HT_.out (by kernel_rfl)) (fun _ _ _ h => h) (Or.inl ⟨by rfl, ?_⟩) ?_ ?_
              rotate_left
              · intro w'
                go_simp
                with_reducible rfl
              rotate_left
              · simp only [Act.put, List.setIfInBounds_toArray, List.set_cons_zero, List.set_cons_succ, i64_w, i32_w]
                rfl
              refine pure_ (i := 7) (N := some 34) (v := ?_) (a' := ?_) #[true, true, true, true, true, true, true, true, false, false, false, false, false, false, false, false] rfl rfl (any_of HT_.out (by kernel_rfl)) (fun _ _ _ h => h) (Or.inl ⟨by rfl, ?_⟩) ?_ ?_
              rotate_left
              · intro w'
                go_simp
                with_reducible rfl
              rotate_left
              · simp only [Act.put, List.setIfInBounds_toArray, List.set_cons_zero, List.set_cons_succ, i64_w, i32_w]
                rfl
              refine pure_ (i := 8) (N := some 35) (v := ?_) (a' := ?_) #[true, true, true, true, true, true, true, true, true, false, false, false, false, false, false, false] rfl rfl (any_of HT_.out (by kernel_rfl)) (fun _ _ _ h => h) (Or.inl ⟨by rfl, ?_⟩) ?_ ?_
              rotate_left
              · intro w'
                go_simp
                with_reducible rfl
              rotate_left
              · simp only [Act.put, List.setIfInBounds_toArray, List.set_cons_zero, List.set_cons_succ, i64_w, i32_w]
                rfl
              refine pure_ (i := 9) (N := some 36) (v := ?_) (a' := ?_) #[true, true, true, true, true, true, true, true, true, true, false, false, false, false, false, false] rfl rfl (any_of HT_.out (by kernel_rfl)) (fun _ _ _ h => h) (Or.inl ⟨by rfl, ?_⟩) ?_ ?_
              rotate_left
              · intro w'
                go_simp
                with_reducible rfl
              rotate_left
              · simp only [Act.put, List.setIfInBounds_toArray, List.set_cons_zero, List.set_cons_succ, i64_w, i32_w]
                rfl
              refine pure_ (i := 10) (N := some 37) (v := ?_) (a' := ?_) #[true, true, true, true, true, true, true, true, true, true, true, false, false, false, false, false] rfl rfl (any_of HT_.out (by kernel_rfl)) (fun _ _ _ h => h) (Or.inl ⟨by rfl, ?_⟩) ?_ ?_
              rotate_left
              · intro w'
                go_simp
                with_reducible rfl
              rotate_left
              · simp only [Act.put, List.setIfInBounds_toArray, List.set_cons_zero, List.set_cons_succ, i64_w, i32_w]
                rfl
              refine pure_ (i := 11) (N := some 38) (v := ?_) (a' := ?_) #[true, true, true, true, true, true, true, true, true, true, true, true, false, false, false, false] rfl rfl (any_of HT_.out (by kernel_rfl)) (fun _ _ _ h => h) (Or.inl ⟨by rfl, ?_⟩) ?_ ?_
              rotate_left
              · intro w'
                go_simp
                with_reducible rfl
              rotate_left
              · simp only [Act.put, List.setIfInBounds_toArray, List.set_cons_zero, List.set_cons_succ, i64_w, i32_w]
                rfl
              refine pure_ (i := 12) (N := some 39) (v := ?_) (a' := ?_) #[true, true, true, true, true, true, true, true, true, true, true, true, true, false, false, false] rfl rfl (any_of HT_.out (by kernel_rfl)) (fun _ _ _ h => h) (Or.inl ⟨by rfl, ?_⟩) ?_ ?_
              rotate_left
              · intro w'
                go_simp
                with_reducible rfl
              rotate_left
              · simp only [Act.put, List.setIfInBounds_toArray, List.set_cons_zero, List.set_cons_succ, i64_w, i32_w]
                rfl
              refine pure_ (i := 13) (N := some 40) (v := ?_) (a' := ?_) #[true, true, true, true, true, true, true, true, true, true, true, true, true, true, false, false] rfl rfl (any_of HT_.out (by kernel_rfl)) (fun _ _ _ h => h) (Or.inl ⟨by rfl, ?_⟩) ?_ ?_
              rotate_left
              · intro w'
                go_simp
                with_reducible rfl
              rotate_left
              · simp only [Act.put, List.setIfInBounds_toArray, List.set_cons_zero, List.set_cons_succ, i64_w, i32_w]
                rfl
              refine one_ (i := 14) (N := some 11) #[true, true, true, true, true, true, true, true, true, true, true, true, true, true, true, false] rfl rfl (one_of HT_.out (by kernel_rfl)) (by decide) (fun K hK => ?_)
              refine box_step ?hg (N := 11) ?hd (cs := #[.int .i64 0, .int .i64 0, .int .i64 0]) (t := 75) ?hr ?_; (case hd => rfl); (case hg => rfl); (case hr => first | (go_simp; done) | (go_simp; rfl))
              intro gb275 hg w91 hbox hb
              have n0_ := Aside0.mk (blk_below (g := gb272) (o := .cells #[.int .i64 a0_0, .int .u64 a0_1, .int .u64 a0_2, .int .u64 a0_3, .int .u64 a0_4, .int .u64 a0_5, .int .u64 a0_6] 31 (0, 0)) (by (with_reducible repeat (first | refine blk_drewN ?_ _ | refine blk_drew ?_ | refine blk_alloc ?_ _)); exact BK272.out) hb)
              have n1_ := Aside0.mk (blk_below (g := gb273) (o := .cells #[.int .i64 a2_0, .int .i64 a2_1, .int .i64 a2_2, .int .i64 a2_3] 36 (0, 0)) (by (with_reducible repeat (first | refine blk_drewN ?_ _ | refine blk_drew ?_ | refine blk_alloc ?_ _)); exact BK273.out) hb)
              have n2_ := Aside0.mk (below_step (by repeat (first | (with_reducible first | exact HB.out | apply below_alloc | apply pw_below_drewN | apply below_drew1 | refine below_set ?_ GE272.out | refine below_set ?_ GE273.out) | exact HB.out)) hb)
              have n3_ := Aside0.mk (hbox)
              have n4_ := Aside0.mk ((by rw [hg]; exact (below_size (by repeat (first | (with_reducible first | exact HB.out | apply below_alloc | apply pw_below_drewN | apply below_drew1 | refine below_set ?_ GE272.out | refine below_set ?_ GE273.out) | exact HB.out))) : w.heap.size ≤ gb275))
              have n5_ := Aside0.mk ((by rw [hg]; exact (below_size (by repeat (first | (with_reducible first | exact HB.out | apply below_alloc | apply pw_below_drewN | apply below_drew1 | refine below_set ?_ GE272.out | refine below_set ?_ GE273.out) | exact HB.out))) : w.heap.size ≤ gb275))
              have n6_ := Aside0.mk ((by rw [hg]; exact Nat.ne_of_lt (blk_lt (g := gb272) (o := .cells #[.int .i64 a0_0, .int .u64 a0_1, .int .u64 a0_2, .int .u64 a0_3, .int .u64 a0_4, .int .u64 a0_5, .int .u64 a0_6] 31 (0, 0)) (by (with_reducible repeat (first | refine blk_drewN ?_ _ | refine blk_drew ?_ | refine blk_alloc ?_ _)); exact BK272.out)) : gb272 ≠ gb275))
              have n7_ := Aside0.mk ((by rw [hg]; exact Nat.ne_of_gt (blk_lt (g := gb272) (o := .cells #[.int .i64 a0_0, .int .u64 a0_1, .int .u64 a0_2, .int .u64 a0_3, .int .u64 a0_4, .int .u64 a0_5, .int .u64 a0_6] 31 (0, 0)) (by (with_reducible repeat (first | refine blk_drewN ?_ _ | refine blk_drew ?_ | refine blk_alloc ?_ _)); exact BK272.out)) : gb275 ≠ gb272))
              have n8_ := Aside0.mk ((by rw [hg]; exact Nat.ne_of_lt (blk_lt (g := gb273) (o := .cells #[.int .i64 a2_0, .int .i64 a2_1, .int .i64 a2_2, .int .i64 a2_3] 36 (0, 0)) (by (with_reducible repeat (first | refine blk_drewN ?_ _ | refine blk_drew ?_ | refine blk_alloc ?_ _)); exact BK273.out)) : gb273 ≠ gb275))
              have n9_ := Aside0.mk ((by rw [hg]; exact Nat.ne_of_gt (blk_lt (g := gb273) (o := .cells #[.int .i64 a2_0, .int .i64 a2_1, .int .i64 a2_2, .int .i64 a2_3] 36 (0, 0)) (by (with_reducible repeat (first | refine blk_drewN ?_ _ | refine blk_drew ?_ | refine blk_alloc ?_ _)); exact BK273.out)) : gb275 ≠ gb273))
              clear BK272
              clear BK273
              clear HB
              have BK272 := n0_
              have BK273 := n1_
              have HB := n2_
              have BK275 := n3_
              have GW275 := n4_
              have GE275 := n5_
              have NB272_275 := n6_
              have NB275_272 := n7_
              have NB273_275 := n8_
              have NB275_273 := n9_
              clear n0_ n1_ n2_ n3_ n4_ n5_ n6_ n7_ n8_ n9_
              clear hb hbox hg
              refine hK.out _ _ trivial (fun hHeld => ?_)
              clear hK K
              refine norm_ (a' := ?_) ?_ ?_
              rotate_left
              · show Act.put _ (some 11) _ = _
                simp only [Act.put, List.setIfInBounds_toArray, List.set_cons_zero, List.set_cons_succ, i64_w, i32_w]
                rfl
              refine one_ (i := 15) (N := none) #[true, true, true, true, true, true, true, true, true, true, true, true, true, true, true, true] rfl rfl (one_of HT_.out (by kernel_rfl)) (by decide) (fun K hK => ?_)
              have hs92 : w91.cell? ⟨gb275, 0, none⟩ = some (.int .i64 0) := (blk_cell BK275.out 0).trans rfl
              have hfs92 := blk_frozen BK275.out 0
              have hns92_0 := NB272_275.out
              have hns92_1 := NB273_275.out
              have hms92_0 := NB275_272.out
              have hms92_1 := NB275_273.out
              have hs93 : w91.cell? ⟨gb275, 1, none⟩ = some (.int .i64 0) := (blk_cell BK275.out 1).trans rfl
              have hfs93 := blk_frozen BK275.out 1
              have hns93_0 := NB272_275.out
              have hns93_1 := NB273_275.out
              have hms93_0 := NB275_272.out
              have hms93_1 := NB275_273.out
              have hs94 : w91.cell? ⟨gb275, 2, none⟩ = some (.int .i64 0) := (blk_cell BK275.out 2).trans rfl
              have hfs94 := blk_frozen BK275.out 2
              have hns94_0 := NB272_275.out
              have hns94_1 := NB273_275.out
              have hms94_0 := NB275_272.out
              have hms94_1 := NB275_273.out
              refine skip_ (w1 := ?_) (by rfl) rfl ?_ ?_
              rotate_left
              · go_simp
                rfl
              refine hK.out _ _ trivial (fun hHeld => ?_)
              clear hK K
              refine done_ (done_of HT_.out (by kernel_rfl)) ?_
              have hnb95 := NB272_273.out
              have hnc95 := NB273_272.out
              have hnb96 := NB272_275.out
              have hnc96 := NB275_272.out
              have hcz97_0 : w91.cell? ⟨gb272, 0, none⟩ = some (.int .i64 a0_0) := (blk_cell BK272.out 0).trans rfl
              have hcz97_1 : w91.cell? ⟨gb272, 1, none⟩ = some (.int .u64 a0_1) := (blk_cell BK272.out 1).trans rfl
              have hcz97_2 : w91.cell? ⟨gb272, 2, none⟩ = some (.int .u64 a0_2) := (blk_cell BK272.out 2).trans rfl
              have hcz97_3 : w91.cell? ⟨gb272, 3, none⟩ = some (.int .u64 a0_3) := (blk_cell BK272.out 3).trans rfl
              have hcz97_4 : w91.cell? ⟨gb272, 4, none⟩ = some (.int .u64 a0_4) := (blk_cell BK272.out 4).trans rfl
              have hcz97_5 : w91.cell? ⟨gb272, 5, none⟩ = some (.int .u64 a0_5) := (blk_cell BK272.out 5).trans rfl
              have hcz97_6 : w91.cell? ⟨gb272, 6, none⟩ = some (.int .u64 a0_6) := (blk_cell BK272.out 6).trans rfl
              have hfz97_0 := blk_frozen BK272.out 0
              have hfz97_1 := blk_frozen BK272.out 1
              have hfz97_2 := blk_frozen BK272.out 2
              have hfz97_3 := blk_frozen BK272.out 3
              have hfz97_4 := blk_frozen BK272.out 4
              have hfz97_5 := blk_frozen BK272.out 5
              have hfz97_6 := blk_frozen BK272.out 6
              have hnb98 := NB275_273.out
              have hnc98 := NB273_275.out
              have hcz99_0 : w91.cell? ⟨gb275, 0, none⟩ = some (.int .i64 0) := (blk_cell BK275.out 0).trans rfl
              have hcz99_1 : w91.cell? ⟨gb275, 1, none⟩ = some (.int .i64 0) := (blk_cell BK275.out 1).trans rfl
              have hcz99_2 : w91.cell? ⟨gb275, 2, none⟩ = some (.int .i64 0) := (blk_cell BK275.out 2).trans rfl
              have hfz99_0 := blk_frozen BK275.out 0
              have hfz99_1 := blk_frozen BK275.out 1
              have hfz99_2 := blk_frozen BK275.out 2
              try go_wp2_with (first | ((with_reducible refine gate_callee (f := 11) rfl ?_); refine goesL_ (some 45) rfl rfl Try.func11 (by kernel_rfl) rfl #[.agg #[.int .i64 a0_0, .int .u64 a0_1, .int .u64 a0_2, .int .u64 a0_3, .int .u64 a0_4, .int .u64 a0_5, .int .u64 a0_6], .int .i64 ji16] rfl (by (try simp only [List.map_toArray, List.map_cons, List.map_nil]); first | done | (simp only [hji16]; rfl) | rfl | (simp only [List.length_drop, List.length_take]; rfl)) ?_; (with_reducible refine (cookie_Key.calls kj5 a0_0 a0_1 a0_2 a0_3 a0_4 a0_5 a0_6 ji16 t276 t277 false _ A21.out).mono ?_); rintro e w100 ⟨rfl, hb⟩; refine ⟨_, rfl, ?_⟩; have n0_ := Aside0.mk (blk_below (g := gb272) (o := .cells #[.int .i64 a0_0, .int .u64 a0_1, .int .u64 a0_2, .int .u64 a0_3, .int .u64 a0_4, .int .u64 a0_5, .int .u64 a0_6] 31 (0, 0)) (by (with_reducible repeat (first | refine blk_drewN ?_ _ | refine blk_drew ?_ | refine blk_alloc ?_ _)); refine blk_far ?_ NB272_275.out _; (with_reducible repeat (first | refine blk_drewN ?_ _ | refine blk_drew ?_ | refine blk_alloc ?_ _)); refine blk_far ?_ NB272_275.out _; (with_reducible repeat (first | refine blk_drewN ?_ _ | refine blk_drew ?_ | refine blk_alloc ?_ _)); refine blk_far ?_ NB272_275.out _; (with_reducible repeat (first | refine blk_drewN ?_ _ | refine blk_drew ?_ | refine blk_alloc ?_ _)); exact BK272.out) hb); have n1_ := Aside0.mk (blk_below (g := gb273) (o := .cells #[.int .i64 a2_0, .int .i64 a2_1, .int .i64 a2_2, .int .i64 a2_3] 36 (0, 0)) (by (with_reducible repeat (first | refine blk_drewN ?_ _ | refine blk_drew ?_ | refine blk_alloc ?_ _)); refine blk_far ?_ NB273_275.out _; (with_reducible repeat (first | refine blk_drewN ?_ _ | refine blk_drew ?_ | refine blk_alloc ?_ _)); refine blk_far ?_ NB273_275.out _; (with_reducible repeat (first | refine blk_drewN ?_ _ | refine blk_drew ?_ | refine blk_alloc ?_ _)); refine blk_far ?_ NB273_275.out _; (with_reducible repeat (first | refine blk_drewN ?_ _ | refine blk_drew ?_ | refine blk_alloc ?_ _)); exact BK273.out) hb); have n2_ := Aside0.mk (blk_below (g := gb275) (o := .cells #[.int .i64 ji16, .int .i64 (Go.bits .and .i64 (ji18) 63), .int .i64 (Go.bits .and .i64 a3 (wrap64 ((ji20) - 1)))] 75 (0, 0)) (by (with_reducible repeat (first | refine blk_drewN ?_ _ | refine blk_drew ?_ | refine blk_alloc ?_ _)); refine blk_put (cs := #[.int .i64 ji16, .int .i64 (Go.bits .and .i64 (ji18) 63), .int .i64 0]) ?_ 2 _ rfl; (with_reducible repeat (first | refine blk_drewN ?_ _ | refine blk_drew ?_ | refine blk_alloc ?_ _)); refine blk_put (cs := #[.int .i64 ji16, .int .i64 0, .int .i64 0]) ?_ 1 _ rfl; (with_reducible repeat (first | refine blk_drewN ?_ _ | refine blk_drew ?_ | refine blk_alloc ?_ _)); refine blk_put (cs := #[.int .i64 0, .int .i64 0, .int .i64 0]) ?_ 0 _ rfl; (with_reducible repeat (first | refine blk_drewN ?_ _ | refine blk_drew ?_ | refine blk_alloc ?_ _)); exact BK275.out) hb); have n3_ := Aside0.mk (below_step (by repeat (first | (with_reducible first | exact HB.out | apply below_alloc | apply pw_below_drewN | apply below_drew1 | refine below_set ?_ GE272.out | refine below_set ?_ GE273.out | refine below_set ?_ GE275.out) | exact HB.out)) hb); clear BK272; clear BK273; clear BK275; clear HB; have BK272 := n0_; have BK273 := n1_; have BK275 := n2_; have HB := n3_; clear n0_ n1_ n2_ n3_; (try clear hb); (try clear hb2); (try clear hk); (try clear hi)) | ((with_reducible refine gate_dst (N := 12) rfl ?_); refine box_event ?hg (N := 12) ?hd (cs := #[.int .u64 0, .int .u64 0]) (t := 29) ?hr ?_; (case hd => rfl); (case hg => rfl); (case hr => first | (go_simp; done) | (go_simp; rfl)); intro gb279 hg w101 hbox hb; have n0_ := Aside0.mk (blk_below (g := gb272) (o := .cells #[.int .i64 a0_0, .int .u64 a0_1, .int .u64 a0_2, .int .u64 a0_3, .int .u64 a0_4, .int .u64 a0_5, .int .u64 a0_6] 31 (0, 0)) (by (with_reducible repeat (first | refine blk_drewN ?_ _ | refine blk_drew ?_ | refine blk_alloc ?_ _)); exact BK272.out) hb); have n1_ := Aside0.mk (blk_below (g := gb273) (o := .cells #[.int .i64 a2_0, .int .i64 a2_1, .int .i64 a2_2, .int .i64 a2_3] 36 (0, 0)) (by (with_reducible repeat (first | refine blk_drewN ?_ _ | refine blk_drew ?_ | refine blk_alloc ?_ _)); exact BK273.out) hb); have n2_ := Aside0.mk (blk_below (g := gb275) (o := .cells #[.int .i64 ji16, .int .i64 (Go.bits .and .i64 (ji18) 63), .int .i64 (Go.bits .and .i64 a3 (wrap64 ((ji20) - 1)))] 75 (0, 0)) (by (with_reducible repeat (first | refine blk_drewN ?_ _ | refine blk_drew ?_ | refine blk_alloc ?_ _)); exact BK275.out) hb); have n3_ := Aside0.mk (below_step (by repeat (first | (with_reducible first | exact HB.out | apply below_alloc | apply pw_below_drewN | apply below_drew1 | refine below_set ?_ GE272.out | refine below_set ?_ GE273.out | refine below_set ?_ GE275.out) | exact HB.out)) hb); have n4_ := Aside0.mk (hbox); have n5_ := Aside0.mk ((by rw [hg]; exact (below_size (by repeat (first | (with_reducible first | exact HB.out | apply below_alloc | apply pw_below_drewN | apply below_drew1 | refine below_set ?_ GE272.out | refine below_set ?_ GE273.out | refine below_set ?_ GE275.out) | exact HB.out))) : w.heap.size ≤ gb279)); have n6_ := Aside0.mk ((by rw [hg]; exact (below_size (by repeat (first | (with_reducible first | exact HB.out | apply below_alloc | apply pw_below_drewN | apply below_drew1 | refine below_set ?_ GE272.out | refine below_set ?_ GE273.out | refine below_set ?_ GE275.out) | exact HB.out))) : w.heap.size ≤ gb279)); have n7_ := Aside0.mk ((by rw [hg]; exact Nat.ne_of_lt (blk_lt (g := gb272) (o := .cells #[.int .i64 a0_0, .int .u64 a0_1, .int .u64 a0_2, .int .u64 a0_3, .int .u64 a0_4, .int .u64 a0_5, .int .u64 a0_6] 31 (0, 0)) (by (with_reducible repeat (first | refine blk_drewN ?_ _ | refine blk_drew ?_ | refine blk_alloc ?_ _)); exact BK272.out)) : gb272 ≠ gb279)); have n8_ := Aside0.mk ((by rw [hg]; exact Nat.ne_of_gt (blk_lt (g := gb272) (o := .cells #[.int .i64 a0_0, .int .u64 a0_1, .int .u64 a0_2, .int .u64 a0_3, .int .u64 a0_4, .int .u64 a0_5, .int .u64 a0_6] 31 (0, 0)) (by (with_reducible repeat (first | refine blk_drewN ?_ _ | refine blk_drew ?_ | refine blk_alloc ?_ _)); exact BK272.out)) : gb279 ≠ gb272)); have n9_ := Aside0.mk ((by rw [hg]; exact Nat.ne_of_lt (blk_lt (g := gb273) (o := .cells #[.int .i64 a2_0, .int .i64 a2_1, .int .i64 a2_2, .int .i64 a2_3] 36 (0, 0)) (by (with_reducible repeat (first | refine blk_drewN ?_ _ | refine blk_drew ?_ | refine blk_alloc ?_ _)); exact BK273.out)) : gb273 ≠ gb279)); have n10_ := Aside0.mk ((by rw [hg]; exact Nat.ne_of_gt (blk_lt (g := gb273) (o := .cells #[.int .i64 a2_0, .int .i64 a2_1, .int .i64 a2_2, .int .i64 a2_3] 36 (0, 0)) (by (with_reducible repeat (first | refine blk_drewN ?_ _ | refine blk_drew ?_ | refine blk_alloc ?_ _)); exact BK273.out)) : gb279 ≠ gb273)); have n11_ := Aside0.mk ((by rw [hg]; exact Nat.ne_of_lt (blk_lt (g := gb275) (o := .cells #[.int .i64 ji16, .int .i64 (Go.bits .and .i64 (ji18) 63), .int .i64 (Go.bits .and .i64 a3 (wrap64 ((ji20) - 1)))] 75 (0, 0)) (by (with_reducible repeat (first | refine blk_drewN ?_ _ | refine blk_drew ?_ | refine blk_alloc ?_ _)); exact BK275.out)) : gb275 ≠ gb279)); have n12_ := Aside0.mk ((by rw [hg]; exact Nat.ne_of_gt (blk_lt (g := gb275) (o := .cells #[.int .i64 ji16, .int .i64 (Go.bits .and .i64 (ji18) 63), .int .i64 (Go.bits .and .i64 a3 (wrap64 ((ji20) - 1)))] 75 (0, 0)) (by (with_reducible repeat (first | refine blk_drewN ?_ _ | refine blk_drew ?_ | refine blk_alloc ?_ _)); exact BK275.out)) : gb279 ≠ gb275)); clear BK272; clear BK273; clear BK275; clear HB; have BK272 := n0_; have BK273 := n1_; have BK275 := n2_; have HB := n3_; have BK279 := n4_; have GW279 := n5_; have GE279 := n6_; have NB272_279 := n7_; have NB279_272 := n8_; have NB273_279 := n9_; have NB279_273 := n10_; have NB275_279 := n11_; have NB279_275 := n12_; clear n0_ n1_ n2_ n3_ n4_ n5_ n6_ n7_ n8_ n9_ n10_ n11_ n12_; clear hb hbox hg; have hnb102 := NB279_272.out; have hnc102 := NB272_279.out; have hnb103 := NB279_273.out; have hnc103 := NB273_279.out; have hnb104 := NB279_275.out; have hnc104 := NB275_279.out; have hcz105_0 : w101.cell? ⟨gb279, 0, none⟩ = some (.int .u64 0) := (blk_cell BK279.out 0).trans rfl; have hcz105_1 : w101.cell? ⟨gb279, 1, none⟩ = some (.int .u64 0) := (blk_cell BK279.out 1).trans rfl; have hfz105_0 := blk_frozen BK279.out 0; have hfz105_1 := blk_frozen BK279.out 1))
              go_ret2
              exact ⟨by first | rfl | (simp [errW_none, errW_some] <;> rfl) | (simp only [← hji14, ← hji16, ← hji18, ← hji20]; first | rfl | (simp [errW_none, errW_some] <;> rfl)) | (simp [*, errW_none, errW_some] <;> rfl), by repeat (first | (with_reducible first | exact HB.out | apply below_alloc | apply pw_below_drewN | apply below_drew1 | refine below_set ?_ GE272.out | refine below_set ?_ GE273.out | refine below_set ?_ GE275.out | refine below_set ?_ GE279.out) | exact HB.out)⟩
          · rw [if_neg c17] at H
            exact absurd H (by simp)
        · rw [if_neg c15] at H
          exact absurd H (by simp)
end Go.Proofs.Ytkpfojpmigchlaa.Q
