/- By a program of this session (wip/tools/myprint.py), out of the translation: for each Go function a plain Lean function, and that the call comes to what that function says; a law's row out of its plain statement. Lean checks it. -/
import Derived.Test.YtnaplobnkmdfbaaCookG
import Derived.Test.YtnaplobnkmdfbaaQ0
import Derived.Test.YtnaplobnkmdfbaaQ32
import Derived.Test.YtnaplobnkmdfbaaQ39
namespace Go.Proofs.Ytnaplobnkmdfbaa.Q
open Go.RowKit Go.Proofs.YtnaplobnkmdfbaaW.PrintWords Go.Proofs.YtnaplobnkmdfbaaW.PrintLast Go.Proofs.YtnaplobnkmdfbaaW.PrintMore
attribute [local go_sem] max2_int min2_int max_two min_two max_three min_three max_four min_four   -- for this text's walks alone
set_option linter.unusedVariables false
set_option linter.unusedSimpArgs false

open Go.Proofs.Ytnaplobnkmdfbaa.Own
/-! ### roundhouseref5_cook: function 46 -/
def roundhouseref5_cook.f (k : Nat) (a0_0 : Int) (a0_1 : Int) (a1 : Int) (a2_0 : Int) (a2_1 : Int) (a2_2 : Int) (a2_3 : Int) (a3 : Int) (a4 : Int) : Option (Int) := (roundhouseref5_bits.f a1).bind fun t218 => ((roundhouseref5_word.f k a0_0 a0_1 a1 a2_0 a2_1 a2_2 a2_3 64 a4).bind fun t219 => (if 0 ≤ (IntKind.u64.wrap (6 + t218)) then (if 0 ≤ t218 then ((roundhouseref5_word.f k a0_0 a0_1 a1 a2_0 a2_1 a2_2 a2_3 a3 a4).bind fun t220 => (some (Go.bits .or .i64 (Go.bits .or .i64 (shl .i64 a4 (IntKind.u64.wrap (6 + t218))) (shl .i64 (Go.bits .xor .i64 a3 (wrap64 (Go.bits .and .u64 t219 63))) t218)) (wrap64 (Go.bits .and .u64 t220 (IntKind.u64.wrap ((shl .u64 1 t218) - 1))))))) else (none)) else (none)))
theorem roundhouseref5_cook.mono : ∀ a0 a1 a2 a3 a4 a5 a6 a7 a8 k, LeO (roundhouseref5_cook.f k a0 a1 a2 a3 a4 a5 a6 a7 a8) (roundhouseref5_cook.f (k + 1) a0 a1 a2 a3 a4 a5 a6 a7 a8) := by
  intro a0 a1 a2 a3 a4 a5 a6 a7 a8 k
  unfold roundhouseref5_cook.f
  repeat' first
      | (with_reducible exact roundhouseref5_word.mono _ _ _ _ _ _ _ _ _ _)
      | (with_reducible exact LeO.refl _)
      | (with_reducible exact LeO.none _)
      | (with_reducible refine LeO.ite ?_ ?_)
      | (with_reducible refine LeO.bind ?_ (fun _ => ?_))
      | exact roundhouseref5_word.mono _ _ _ _ _ _ _ _ _ _
      | exact LeO.none _
      | refine LeO.ite ?_ ?_
      | refine LeO.bind ?_ (fun _ => ?_)
set_option maxHeartbeats 8000000 in
set_option maxRecDepth 100000 in
theorem roundhouseref5_cook.calls (k : Nat) (a0_0 : Int) (a0_1 : Int) (a1 : Int) (a2_0 : Int) (a2_1 : Int) (a2_2 : Int) (a2_3 : Int) (a3 : Int) (a4 : Int) (r : Int) (w : World) (h : roundhouseref5_cook.f k a0_0 a0_1 a1 a2_0 a2_1 a2_2 a2_3 a3 a4 = some r) :
    Calls Try.prog 46 #[.agg #[.int .u64 a0_0, .int .u64 a0_1], .int .i64 a1, .agg #[.int .i64 a2_0, .int .i64 a2_1, .int .i64 a2_2, .int .i64 a2_3], .int .i64 a3, .int .i64 a4] w fun e w' => e = .returned (.int .i64 r) ∧ Below w.heap.size w w' := by
  have hu25 := Try.underlying25
  have hu32 := Try.underlying32
  have HB := Aside0.mk (Below.refl w.heap.size w)
  have H : ((roundhouseref5_bits.f a1).bind fun t218 => ((roundhouseref5_word.f k a0_0 a0_1 a1 a2_0 a2_1 a2_2 a2_3 64 a4).bind fun t219 => (if 0 ≤ (IntKind.u64.wrap (6 + t218)) then (if 0 ≤ t218 then ((roundhouseref5_word.f k a0_0 a0_1 a1 a2_0 a2_1 a2_2 a2_3 a3 a4).bind fun t220 => (some (Go.bits .or .i64 (Go.bits .or .i64 (shl .i64 a4 (IntKind.u64.wrap (6 + t218))) (shl .i64 (Go.bits .xor .i64 a3 (wrap64 (Go.bits .and .u64 t219 63))) t218)) (wrap64 (Go.bits .and .u64 t220 (IntKind.u64.wrap ((shl .u64 1 t218) - 1))))))) else (none)) else (none)))) = some r := h
  clear h
  replace H := Option.bind_eq_some_iff.mp H
  obtain ⟨t218, A60, H⟩ := H
  replace H : ((roundhouseref5_word.f k a0_0 a0_1 a1 a2_0 a2_1 a2_2 a2_3 64 a4).bind fun t219 => (if 0 ≤ (IntKind.u64.wrap (6 + t218)) then (if 0 ≤ t218 then ((roundhouseref5_word.f k a0_0 a0_1 a1 a2_0 a2_1 a2_2 a2_3 a3 a4).bind fun t220 => (some (Go.bits .or .i64 (Go.bits .or .i64 (shl .i64 a4 (IntKind.u64.wrap (6 + t218))) (shl .i64 (Go.bits .xor .i64 a3 (wrap64 (Go.bits .and .u64 t219 63))) t218)) (wrap64 (Go.bits .and .u64 t220 (IntKind.u64.wrap ((shl .u64 1 t218) - 1))))))) else (none)) else (none))) = some r := H
  have A6 := Aside0.mk A60
  clear A60
  replace H := Option.bind_eq_some_iff.mp H
  obtain ⟨t219, A70, H⟩ := H
  replace H : (if 0 ≤ (IntKind.u64.wrap (6 + t218)) then (if 0 ≤ t218 then ((roundhouseref5_word.f k a0_0 a0_1 a1 a2_0 a2_1 a2_2 a2_3 a3 a4).bind fun t220 => (some (Go.bits .or .i64 (Go.bits .or .i64 (shl .i64 a4 (IntKind.u64.wrap (6 + t218))) (shl .i64 (Go.bits .xor .i64 a3 (wrap64 (Go.bits .and .u64 t219 63))) t218)) (wrap64 (Go.bits .and .u64 t220 (IntKind.u64.wrap ((shl .u64 1 t218) - 1))))))) else (none)) else (none)) = some r := H
  have A7 := Aside0.mk A70
  clear A70
  obtain ⟨ji8, hji8⟩ : ∃ j_ : Int, (IntKind.u64.wrap (6 + t218)) = j_ := ⟨_, rfl⟩
  replace H : (if 0 ≤ (ji8) then (if 0 ≤ t218 then ((roundhouseref5_word.f k a0_0 a0_1 a1 a2_0 a2_1 a2_2 a2_3 a3 a4).bind fun t220 => (some (Go.bits .or .i64 (Go.bits .or .i64 (shl .i64 a4 (ji8)) (shl .i64 (Go.bits .xor .i64 a3 (wrap64 (Go.bits .and .u64 t219 63))) t218)) (wrap64 (Go.bits .and .u64 t220 (IntKind.u64.wrap ((shl .u64 1 t218) - 1))))))) else (none)) else (none)) = some r := by first | (rw [hji8] at H; exact H) | (simp only [hji8] at H ⊢; exact H)
  (try rw [hji8] at A6)
  (try rw [hji8] at A7)
  by_cases c9 : 0 ≤ (ji8)
  · rw [if_pos c9] at H
    have c9b0 := eq_true c9
    have c9b1 : decide (0 ≤ (ji8)) = true := decide_eq_true c9
    clear c9
    obtain ⟨ji10, hji10⟩ : ∃ j_ : Int, (shl .i64 a4 (ji8)) = j_ := ⟨_, rfl⟩
    replace H : (if 0 ≤ t218 then ((roundhouseref5_word.f k a0_0 a0_1 a1 a2_0 a2_1 a2_2 a2_3 a3 a4).bind fun t220 => (some (Go.bits .or .i64 (Go.bits .or .i64 (ji10) (shl .i64 (Go.bits .xor .i64 a3 (wrap64 (Go.bits .and .u64 t219 63))) t218)) (wrap64 (Go.bits .and .u64 t220 (IntKind.u64.wrap ((shl .u64 1 t218) - 1))))))) else (none)) = some r := by first | (rw [hji10] at H; exact H) | (simp only [hji10] at H ⊢; exact H)
    (try rw [hji10] at A6)
    (try rw [hji10] at A7)
    have hji10_ : (IntKind.i64.wrap (a4 * 2 ^ min (ji8).toNat 64)) = ji10 := hji10
    have hji10z : (ji8) ≤ 64 → (IntKind.i64.wrap (a4 * 2 ^ (ji8).toNat)) = ji10 := shl_small hji10
    have hji10y : (wrap64 (a4 * 2 ^ min (ji8).toNat 64)) = ji10 := (i64_w _).symm.trans hji10_
    have hji10x : (ji8) ≤ 64 → (wrap64 (a4 * 2 ^ (ji8).toNat)) = ji10 := fun h_ => (i64_w _).symm.trans (hji10z h_)
    by_cases c11 : 0 ≤ t218
    · rw [if_pos c11] at H
      have c11b0 := eq_true c11
      have c11b1 : decide (0 ≤ t218) = true := decide_eq_true c11
      clear c11
      obtain ⟨ji12, hji12⟩ : ∃ j_ : Int, (shl .i64 (Go.bits .xor .i64 a3 (wrap64 (Go.bits .and .u64 t219 63))) t218) = j_ := ⟨_, rfl⟩
      replace H : ((roundhouseref5_word.f k a0_0 a0_1 a1 a2_0 a2_1 a2_2 a2_3 a3 a4).bind fun t220 => (some (Go.bits .or .i64 (Go.bits .or .i64 (ji10) (ji12)) (wrap64 (Go.bits .and .u64 t220 (IntKind.u64.wrap ((shl .u64 1 t218) - 1))))))) = some r := by first | (rw [hji12] at H; exact H) | (simp only [hji12] at H ⊢; exact H)
      (try rw [hji12] at A6)
      (try rw [hji12] at A7)
      have hji12_ : (IntKind.i64.wrap ((Go.bits .xor .i64 a3 (wrap64 (Go.bits .and .u64 t219 63))) * 2 ^ min t218.toNat 64)) = ji12 := hji12
      have hji12z : t218 ≤ 64 → (IntKind.i64.wrap ((Go.bits .xor .i64 a3 (wrap64 (Go.bits .and .u64 t219 63))) * 2 ^ t218.toNat)) = ji12 := shl_small hji12
      have hji12y : (wrap64 ((Go.bits .xor .i64 a3 (wrap64 (Go.bits .and .u64 t219 63))) * 2 ^ min t218.toNat 64)) = ji12 := (i64_w _).symm.trans hji12_
      have hji12x : t218 ≤ 64 → (wrap64 ((Go.bits .xor .i64 a3 (wrap64 (Go.bits .and .u64 t219 63))) * 2 ^ t218.toNat)) = ji12 := fun h_ => (i64_w _).symm.trans (hji12z h_)
      replace H := Option.bind_eq_some_iff.mp H
      obtain ⟨t220, A130, H⟩ := H
      replace H : (some (Go.bits .or .i64 (Go.bits .or .i64 (ji10) (ji12)) (wrap64 (Go.bits .and .u64 t220 (IntKind.u64.wrap ((shl .u64 1 t218) - 1)))))) = some r := H
      have A13 := Aside0.mk A130
      clear A130
      have c14b0 := eq_true (of_decide_eq_true (by first | (with_reducible assumption) | assumption) : 0 ≤ t218)
      obtain ⟨ji15, hji15⟩ : ∃ j_ : Int, (shl .u64 1 t218) = j_ := ⟨_, rfl⟩
      replace H : (some (Go.bits .or .i64 (Go.bits .or .i64 (ji10) (ji12)) (wrap64 (Go.bits .and .u64 t220 (IntKind.u64.wrap ((ji15) - 1)))))) = some r := by first | (rw [hji15] at H; exact H) | (simp only [hji15] at H ⊢; exact H)
      (try rw [hji15] at A6)
      (try rw [hji15] at A7)
      (try rw [hji15] at A13)
      have hji15_ : (IntKind.u64.wrap (1 * 2 ^ min t218.toNat 64)) = ji15 := hji15
      have hji15z : t218 ≤ 64 → (IntKind.u64.wrap (1 * 2 ^ t218.toNat)) = ji15 := shl_small hji15
      have hji15u : (IntKind.u64.wrap (2 ^ min t218.toNat 64)) = ji15 := by have h_ := hji15_; rw [Int.one_mul] at h_; exact h_
      have hji15v : t218 ≤ 64 → (IntKind.u64.wrap (2 ^ t218.toNat)) = ji15 := fun hle_ => by have h_ := hji15z hle_; rw [Int.one_mul] at h_; exact h_
      obtain rfl := Option.some.inj H
      go_enter Try.func46, Try.ntmps46
      go_wp2_with (first | ((with_reducible refine gate_dst (N := 5) rfl ?_); refine box_event ?hg (N := 5) ?hd (cs := #[.int .u64 a0_0, .int .u64 a0_1]) (t := 25) ?hr ?_; (case hd => rfl); (case hg => rfl); (case hr => first | (go_simp; done) | (go_simp; rfl)); intro gb216 hg w16 hbox hb; have n0_ := Aside0.mk (below_step (by repeat (first | (with_reducible first | exact HB.out | apply below_alloc | apply pw_below_drewN | apply below_drew1) | exact HB.out)) hb); have n1_ := Aside0.mk (hbox); have n2_ := Aside0.mk ((by rw [hg]; exact (below_size (by repeat (first | (with_reducible first | exact HB.out | apply below_alloc | apply pw_below_drewN | apply below_drew1) | exact HB.out))) : w.heap.size ≤ gb216)); have n3_ := Aside0.mk ((by rw [hg]; exact (below_size (by repeat (first | (with_reducible first | exact HB.out | apply below_alloc | apply pw_below_drewN | apply below_drew1) | exact HB.out))) : w.heap.size ≤ gb216)); clear HB; have HB := n0_; have BK216 := n1_; have GW216 := n2_; have GE216 := n3_; clear n0_ n1_ n2_ n3_; clear hb hbox hg) | ((with_reducible refine gate_dst (N := 7) rfl ?_); refine box_event ?hg (N := 7) ?hd (cs := #[.int .i64 a2_0, .int .i64 a2_1, .int .i64 a2_2, .int .i64 a2_3]) (t := 32) ?hr ?_; (case hd => rfl); (case hg => rfl); (case hr => first | (go_simp; done) | (go_simp; rfl)); intro gb217 hg w17 hbox hb; have n0_ := Aside0.mk (blk_below (g := gb216) (o := .cells #[.int .u64 a0_0, .int .u64 a0_1] 25 (0, 0)) (by (with_reducible repeat (first | refine blk_drewN ?_ _ | refine blk_drew ?_ | refine blk_alloc ?_ _)); exact BK216.out) hb); have n1_ := Aside0.mk (below_step (by repeat (first | (with_reducible first | exact HB.out | apply below_alloc | apply pw_below_drewN | apply below_drew1 | refine below_set ?_ GE216.out) | exact HB.out)) hb); have n2_ := Aside0.mk (hbox); have n3_ := Aside0.mk ((by rw [hg]; exact (below_size (by repeat (first | (with_reducible first | exact HB.out | apply below_alloc | apply pw_below_drewN | apply below_drew1 | refine below_set ?_ GE216.out) | exact HB.out))) : w.heap.size ≤ gb217)); have n4_ := Aside0.mk ((by rw [hg]; exact (below_size (by repeat (first | (with_reducible first | exact HB.out | apply below_alloc | apply pw_below_drewN | apply below_drew1 | refine below_set ?_ GE216.out) | exact HB.out))) : w.heap.size ≤ gb217)); have n5_ := Aside0.mk ((by rw [hg]; exact Nat.ne_of_lt (blk_lt (g := gb216) (o := .cells #[.int .u64 a0_0, .int .u64 a0_1] 25 (0, 0)) (by (with_reducible repeat (first | refine blk_drewN ?_ _ | refine blk_drew ?_ | refine blk_alloc ?_ _)); exact BK216.out)) : gb216 ≠ gb217)); have n6_ := Aside0.mk ((by rw [hg]; exact Nat.ne_of_gt (blk_lt (g := gb216) (o := .cells #[.int .u64 a0_0, .int .u64 a0_1] 25 (0, 0)) (by (with_reducible repeat (first | refine blk_drewN ?_ _ | refine blk_drew ?_ | refine blk_alloc ?_ _)); exact BK216.out)) : gb217 ≠ gb216)); clear BK216; clear HB; have BK216 := n0_; have HB := n1_; have BK217 := n2_; have GW217 := n3_; have GE217 := n4_; have NB216_217 := n5_; have NB217_216 := n6_; clear n0_ n1_ n2_ n3_ n4_ n5_ n6_; clear hb hbox hg) | ((with_reducible refine gate_callee (f := 48) rfl ?_); refine goesL_ (some 14) rfl rfl Try.func48 (by kernel_rfl) rfl #[.int .i64 a1] rfl (by (try simp only [List.map_toArray, List.map_cons, List.map_nil]); first | done | rfl | (simp only [List.length_drop, List.length_take]; rfl)) ?_; (with_reducible refine (roundhouseref5_bits.calls a1 t218 _ A6.out).mono ?_); rintro e w' ⟨rfl, ⟨nd, rfl⟩⟩; refine ⟨_, rfl, ?_⟩; have hnb18 := NB216_217.out; have hnc18 := NB217_216.out; have hcz19_0 : w17.cell? ⟨gb216, 0, none⟩ = some (.int .u64 a0_0) := (blk_cell BK216.out 0).trans rfl; have hcz19_1 : w17.cell? ⟨gb216, 1, none⟩ = some (.int .u64 a0_1) := (blk_cell BK216.out 1).trans rfl; have hfz19_0 := blk_frozen BK216.out 0; have hfz19_1 := blk_frozen BK216.out 1; have hcz20_0 : w17.cell? ⟨gb217, 0, none⟩ = some (.int .i64 a2_0) := (blk_cell BK217.out 0).trans rfl; have hcz20_1 : w17.cell? ⟨gb217, 1, none⟩ = some (.int .i64 a2_1) := (blk_cell BK217.out 1).trans rfl; have hcz20_2 : w17.cell? ⟨gb217, 2, none⟩ = some (.int .i64 a2_2) := (blk_cell BK217.out 2).trans rfl; have hcz20_3 : w17.cell? ⟨gb217, 3, none⟩ = some (.int .i64 a2_3) := (blk_cell BK217.out 3).trans rfl; have hfz20_0 := blk_frozen BK217.out 0; have hfz20_1 := blk_frozen BK217.out 1; have hfz20_2 := blk_frozen BK217.out 2; have hfz20_3 := blk_frozen BK217.out 3) | ((with_reducible refine gate_callee (f := 49) rfl ?_); refine goesL_ (some 20) rfl rfl Try.func49 (by kernel_rfl) rfl #[.agg #[.int .u64 a0_0, .int .u64 a0_1], .int .i64 a1, .agg #[.int .i64 a2_0, .int .i64 a2_1, .int .i64 a2_2, .int .i64 a2_3], .int .i64 64, .int .i64 a4] rfl (by (try simp only [List.map_toArray, List.map_cons, List.map_nil]); first | done | rfl | (simp only [List.length_drop, List.length_take]; rfl)) ?_; (with_reducible refine (roundhouseref5_word.calls k a0_0 a0_1 a1 a2_0 a2_1 a2_2 a2_3 64 a4 t219 _ A7.out).mono ?_); rintro e w21 ⟨rfl, hb⟩; refine ⟨_, rfl, ?_⟩; have n0_ := Aside0.mk (blk_below (g := gb216) (o := .cells #[.int .u64 a0_0, .int .u64 a0_1] 25 (0, 0)) (by (with_reducible repeat (first | refine blk_drewN ?_ _ | refine blk_drew ?_ | refine blk_alloc ?_ _)); exact BK216.out) hb); have n1_ := Aside0.mk (blk_below (g := gb217) (o := .cells #[.int .i64 a2_0, .int .i64 a2_1, .int .i64 a2_2, .int .i64 a2_3] 32 (0, 0)) (by (with_reducible repeat (first | refine blk_drewN ?_ _ | refine blk_drew ?_ | refine blk_alloc ?_ _)); exact BK217.out) hb); have n2_ := Aside0.mk (below_step (by repeat (first | (with_reducible first | exact HB.out | apply below_alloc | apply pw_below_drewN | apply below_drew1 | refine below_set ?_ GE216.out | refine below_set ?_ GE217.out) | exact HB.out)) hb); clear BK216; clear BK217; clear HB; have BK216 := n0_; have BK217 := n1_; have HB := n2_; clear n0_ n1_ n2_; (try clear hb); (try clear hb2); (try clear hk); (try clear hi); have hcz22_0 : w21.cell? ⟨gb216, 0, none⟩ = some (.int .u64 a0_0) := (blk_cell BK216.out 0).trans rfl; have hcz22_1 : w21.cell? ⟨gb216, 1, none⟩ = some (.int .u64 a0_1) := (blk_cell BK216.out 1).trans rfl; have hfz22_0 := blk_frozen BK216.out 0; have hfz22_1 := blk_frozen BK216.out 1; have hcz23_0 : w21.cell? ⟨gb217, 0, none⟩ = some (.int .i64 a2_0) := (blk_cell BK217.out 0).trans rfl; have hcz23_1 : w21.cell? ⟨gb217, 1, none⟩ = some (.int .i64 a2_1) := (blk_cell BK217.out 1).trans rfl; have hcz23_2 : w21.cell? ⟨gb217, 2, none⟩ = some (.int .i64 a2_2) := (blk_cell BK217.out 2).trans rfl; have hcz23_3 : w21.cell? ⟨gb217, 3, none⟩ = some (.int .i64 a2_3) := (blk_cell BK217.out 3).trans rfl; have hfz23_0 := blk_frozen BK217.out 0; have hfz23_1 := blk_frozen BK217.out 1; have hfz23_2 := blk_frozen BK217.out 2; have hfz23_3 := blk_frozen BK217.out 3) | ((with_reducible refine gate_callee (f := 49) rfl ?_); refine goesL_ (some 37) rfl rfl Try.func49 (by kernel_rfl) rfl #[.agg #[.int .u64 a0_0, .int .u64 a0_1], .int .i64 a1, .agg #[.int .i64 a2_0, .int .i64 a2_1, .int .i64 a2_2, .int .i64 a2_3], .int .i64 a3, .int .i64 a4] rfl (by (try simp only [List.map_toArray, List.map_cons, List.map_nil]); first | done | rfl | (simp only [List.length_drop, List.length_take]; rfl)) ?_; (with_reducible refine (roundhouseref5_word.calls k a0_0 a0_1 a1 a2_0 a2_1 a2_2 a2_3 a3 a4 t220 _ A13.out).mono ?_); rintro e w24 ⟨rfl, hb⟩; refine ⟨_, rfl, ?_⟩; have n0_ := Aside0.mk (blk_below (g := gb216) (o := .cells #[.int .u64 a0_0, .int .u64 a0_1] 25 (0, 0)) (by (with_reducible repeat (first | refine blk_drewN ?_ _ | refine blk_drew ?_ | refine blk_alloc ?_ _)); exact BK216.out) hb); have n1_ := Aside0.mk (blk_below (g := gb217) (o := .cells #[.int .i64 a2_0, .int .i64 a2_1, .int .i64 a2_2, .int .i64 a2_3] 32 (0, 0)) (by (with_reducible repeat (first | refine blk_drewN ?_ _ | refine blk_drew ?_ | refine blk_alloc ?_ _)); exact BK217.out) hb); have n2_ := Aside0.mk (below_step (by repeat (first | (with_reducible first | exact HB.out | apply below_alloc | apply pw_below_drewN | apply below_drew1 | refine below_set ?_ GE216.out | refine below_set ?_ GE217.out) | exact HB.out)) hb); clear BK216; clear BK217; clear HB; have BK216 := n0_; have BK217 := n1_; have HB := n2_; clear n0_ n1_ n2_; (try clear hb); (try clear hb2); (try clear hk); (try clear hi)))
      go_ret
      exact ⟨by first | rfl | (simp [errW_none, errW_some] <;> rfl) | (simp only [← hji8, ← hji10, ← hji12, ← hji15]; first | rfl | (simp [errW_none, errW_some] <;> rfl)) | (simp [*, errW_none, errW_some] <;> rfl), by repeat (first | (with_reducible first | exact HB.out | apply below_alloc | apply pw_below_drewN | apply below_drew1 | refine below_set ?_ GE216.out | refine below_set ?_ GE217.out) | exact HB.out)⟩
    · rw [if_neg c11] at H
      exact absurd H (by simp)
  · rw [if_neg c9] at H
    exact absurd H (by simp)

end Go.Proofs.Ytnaplobnkmdfbaa.Q
