/- By a program of this session (wip/tools/myprint.py), out of the translation: for each Go function a plain Lean function, and that the call comes to what that function says; a law's row out of its plain statement. Lean checks it. -/
import Derived.Test.YtnaplobnkmdfbaaCookG
import Derived.Test.YtnaplobnkmdfbaaQ0
import Derived.Test.YtnaplobnkmdfbaaQ18
namespace Go.Proofs.Ytnaplobnkmdfbaa.Q
open Go.RowKit Go.Proofs.YtnaplobnkmdfbaaW.PrintWords Go.Proofs.YtnaplobnkmdfbaaW.PrintLast Go.Proofs.YtnaplobnkmdfbaaW.PrintMore
attribute [local go_sem] max2_int min2_int max_two min_two max_three min_three max_four min_four   -- for this text's walks alone
set_option linter.unusedVariables false
set_option linter.unusedSimpArgs false

open Go.Proofs.Ytnaplobnkmdfbaa.Own
attribute [local go_sem high] eqA69
abbrev q_a := @List.setIfInBounds_toArray
abbrev q_b := @List.set_cons_zero
abbrev q_c := @List.set_cons_succ
abbrev q_i := @pw_below_drewN
abbrev q_j := @below_alloc
abbrev q_k := @below_drew1
abbrev q_m := @blk_below
abbrev q_n := @blk_cell
abbrev q_o := @blk_frozen
abbrev q_p := @blk_drewN
abbrev q_q := @blk_alloc
abbrev q_r := @blk_drew
abbrev q_u := @below_set
abbrev q_v := @Aside0.mk
abbrev zT : Bool := true
abbrev zF : Bool := false
/-! ### cookie_Read: function 21 -/
def cookie_Read.j0 : Nat → Int → Int → Int → Bool → Int → Int → Int → Int → Int → Int → Int → Int → Int → Int → Int → Option (Int × Bool)
 | 0, _, _, _, _, _, _, _, _, _, _, _, _, _, _, _ => none
 | k + 1, x1, x3, x10, x26, x138000, x138001, x138002, x138003, x138004, x138005, x138006, x139000, x139001, x139002, x139003 => if x26 = true then (some (0, false)) else (if 0 ≤ (wrap64 (6 + x10)) then (if 0 ≤ x10 then ((cookie_Key.f k x138000 x138001 x138002 x138003 x138004 x138005 x138006 (shr .i64 x3 (wrap64 (6 + x10)))).bind fun bt141 => (if bt141.2.2 = true then ((cookie_veil.f k bt141.1 bt141.2.1 x1 x139000 x139001 x139002 x139003 (shr .i64 x3 (wrap64 (6 + x10)))).bind fun t145 => ((cookie_tag.f k bt141.1 bt141.2.1 x1 x139000 x139001 x139002 x139003 (Go.bits .xor .i64 (Go.bits .and .i64 (shr .i64 x3 x10) 63) t145) (shr .i64 x3 (wrap64 (6 + x10)))).bind fun t146 => (if (!(t146 == (Go.bits .and .i64 x3 (wrap64 ((shl .i64 1 x10) - 1))))) = true then (some (0, false)) else (some (Go.bits .xor .i64 (Go.bits .and .i64 (shr .i64 x3 x10) 63) t145, true))))) else (some (0, false)))) else (none)) else (none))
def cookie_Read.f (k : Nat) (a0_0 : Int) (a0_1 : Int) (a0_2 : Int) (a0_3 : Int) (a0_4 : Int) (a0_5 : Int) (a0_6 : Int) (a1 : Int) (a2_0 : Int) (a2_1 : Int) (a2_2 : Int) (a2_3 : Int) (a3 : Int) : Option (Int × Bool) := (cookie_tagBits.f a1).bind fun t139 => (if a3 < 0 then (cookie_Read.j0 k a1 a3 t139 true a0_0 a0_1 a0_2 a0_3 a0_4 a0_5 a0_6 a2_0 a2_1 a2_2 a2_3) else (if 0 ≤ (wrap64 (8 + t139)) then (cookie_Read.j0 k a1 a3 t139 (decide (a3 ≥ (shl .i64 1 (wrap64 (8 + t139))))) a0_0 a0_1 a0_2 a0_3 a0_4 a0_5 a0_6 a2_0 a2_1 a2_2 a2_3) else (none)))
theorem cookie_Read.mono_l : ∀ k, (∀ y0 y1 y2 y3 y4 y5 y6 y7 y8 y9 y10 y11 y12 y13 y14, LeO (cookie_Read.j0 k y0 y1 y2 y3 y4 y5 y6 y7 y8 y9 y10 y11 y12 y13 y14) (cookie_Read.j0 (k + 1) y0 y1 y2 y3 y4 y5 y6 y7 y8 y9 y10 y11 y12 y13 y14))
 | 0 => fun _ _ _ _ _ _ _ _ _ _ _ _ _ _ _ r h => by simp [cookie_Read.j0] at h
 | k + 1 => by
  have ih0 := cookie_Read.mono_l k
  ·intro y0 y1 y2 y3 y4 y5 y6 y7 y8 y9 y10 y11 y12 y13 y14
   unfold cookie_Read.j0
   repeat' first
   | (with_reducible exact ih0 _ _ _ _ _ _ _ _ _ _ _ _ _ _ _)
   | (with_reducible exact cookie_Key.mono _ _ _ _ _ _ _ _ _)
   | (with_reducible exact cookie_tag.mono _ _ _ _ _ _ _ _ _ _)
   | (with_reducible exact cookie_veil.mono _ _ _ _ _ _ _ _ _)
   | (with_reducible exact LeO.refl _)
   | (with_reducible exact LeO.none _)
   | (with_reducible refine LeO.ite ?_ ?_)
   | (with_reducible refine LeO.bind ?_ (fun _ => ?_))
   | exact ih0 _ _ _ _ _ _ _ _ _ _ _ _ _ _ _
   | exact cookie_Key.mono _ _ _ _ _ _ _ _ _
   | exact cookie_tag.mono _ _ _ _ _ _ _ _ _ _
   | exact cookie_veil.mono _ _ _ _ _ _ _ _ _
   | exact LeO.none _
   | refine LeO.ite ?_ ?_
   | refine LeO.bind ?_ (fun _ => ?_)
theorem cookie_Read.mono : ∀ a0 a1 a2 a3 a4 a5 a6 a7 a8 a9 a10 a11 a12 k, LeO (cookie_Read.f k a0 a1 a2 a3 a4 a5 a6 a7 a8 a9 a10 a11 a12) (cookie_Read.f (k + 1) a0 a1 a2 a3 a4 a5 a6 a7 a8 a9 a10 a11 a12) := by
 intro a0 a1 a2 a3 a4 a5 a6 a7 a8 a9 a10 a11 a12 k
 have ih0 := cookie_Read.mono_l k
 unfold cookie_Read.f
 repeat' first
   | (with_reducible exact ih0 _ _ _ _ _ _ _ _ _ _ _ _ _ _ _)
   | (with_reducible exact cookie_Key.mono _ _ _ _ _ _ _ _ _)
   | (with_reducible exact cookie_tag.mono _ _ _ _ _ _ _ _ _ _)
   | (with_reducible exact cookie_veil.mono _ _ _ _ _ _ _ _ _)
   | (with_reducible exact LeO.refl _)
   | (with_reducible exact LeO.none _)
   | (with_reducible refine LeO.ite ?_ ?_)
   | (with_reducible refine LeO.bind ?_ (fun _ => ?_))
   | exact ih0 _ _ _ _ _ _ _ _ _ _ _ _ _ _ _
   | exact cookie_Key.mono _ _ _ _ _ _ _ _ _
   | exact cookie_tag.mono _ _ _ _ _ _ _ _ _ _
   | exact cookie_veil.mono _ _ _ _ _ _ _ _ _
   | exact LeO.none _
   | refine LeO.ite ?_ ?_
   | refine LeO.bind ?_ (fun _ => ?_)
def cookie_Read.T4 : Bool × List (List Nat × List Nat) := (true, [([], []), ([], []), ([1], [1]), ([0, 2], [0, 2]), ([], []), ([], []), ([4, 5], [4, 5]), ([6], [6]), ([], []), ([], []), ([9], [9]), ([10], [10]), ([8, 11], [8, 11]), ([3, 7, 12], [3, 7, 12]), ([], []), ([14, 13, 0, 1, 2, 3, 4, 5, 6, 7, 8, 9, 10, 11, 12, 13, 14], [13, 14])])
def cookie_Read.B4 : List Nat := [0, 0, 2, 7, 0, 0, 48, 112, 0, 0, 512, 1536, 3840, 8191, 0, 32767]
theorem cookie_Read.tab4 : rtab .any (opsOf Try.f21 4) = cookie_Read.T4 := by kernel_rfl
theorem cookie_Read.bits4 : waitsOk cookie_Read.T4.2 cookie_Read.B4 = true := by kernel_rfl
def cookie_Read.T8 : Bool × List (List Nat × List Nat) := (true, [([], []), ([0], [0]), ([], []), ([], []), ([], []), ([], []), ([5], [5]), ([2, 3, 4, 6], [2, 3, 4, 6]), ([1, 7], [1, 7]), ([8, 7, 0, 1, 2, 3, 4, 5, 6, 7, 8], [8])])
def cookie_Read.B8 : List Nat := [0, 1, 0, 0, 0, 0, 32, 124, 255, 511]
theorem cookie_Read.tab8 : rtab .any (opsOf Try.f21 8) = cookie_Read.T8 := by kernel_rfl
theorem cookie_Read.bits8 : waitsOk cookie_Read.T8.2 cookie_Read.B8 = true := by kernel_rfl
def cookie_Read.T9 : Bool × List (List Nat × List Nat) := (true, [([], []), ([0], [0]), ([], []), ([2], [2]), ([], []), ([], []), ([], []), ([], []), ([], []), ([8], [8]), ([4, 5, 6, 7, 9], [4, 5, 6, 7, 9]), ([1, 3, 10], [1, 3, 10]), ([], []), ([12, 11, 10, 0, 1, 2, 3, 4, 5, 6, 7, 8, 9, 10, 11, 12], [11, 12])])
def cookie_Read.B9 : List Nat := [0, 1, 0, 4, 0, 0, 0, 0, 0, 256, 1008, 2047, 0, 8191]
theorem cookie_Read.tab9 : rtab .any (opsOf Try.f21 9) = cookie_Read.T9 := by kernel_rfl
theorem cookie_Read.bits9 : waitsOk cookie_Read.T9.2 cookie_Read.B9 = true := by kernel_rfl
set_option maxHeartbeats 8000000 in
set_option maxRecDepth 100000 in
theorem cookie_Read.calls (k : Nat) (a0_0 : Int) (a0_1 : Int) (a0_2 : Int) (a0_3 : Int) (a0_4 : Int) (a0_5 : Int) (a0_6 : Int) (a1 : Int) (a2_0 : Int) (a2_1 : Int) (a2_2 : Int) (a2_3 : Int) (a3 : Int) (r1 : Int) (r2 : Bool) (w : World) (h : cookie_Read.f k a0_0 a0_1 a0_2 a0_3 a0_4 a0_5 a0_6 a1 a2_0 a2_1 a2_2 a2_3 a3 = some (r1, r2)) :
  Calls Try.prog 21 #[.agg #[.int .i64 a0_0, .int .u64 a0_1, .int .u64 a0_2, .int .u64 a0_3, .int .u64 a0_4, .int .u64 a0_5, .int .u64 a0_6], .int .i64 a1, .agg #[.int .i64 a2_0, .int .i64 a2_1, .int .i64 a2_2, .int .i64 a2_3], .int .i64 a3] w fun e w' => e = .returned (.tuple #[.int .i64 r1, .bool r2]) ∧ Below w.heap.size w w' := by
 have hu27 := Try.underlying27
 have hu32 := Try.underlying32
 have hu69 := Try.underlying69
 have hu25 := Try.underlying25
 have HB := q_v (Below.refl w.heap.size w)
 have H : ((cookie_tagBits.f a1).bind fun up => (if a3 < 0 then (cookie_Read.j0 k a1 a3 up true a0_0 a0_1 a0_2 a0_3 a0_4 a0_5 a0_6 a2_0 a2_1 a2_2 a2_3) else (if 0 ≤ (wrap64 (8 + up)) then (cookie_Read.j0 k a1 a3 up (decide (a3 ≥ (shl .i64 1 (wrap64 (8 + up))))) a0_0 a0_1 a0_2 a0_3 a0_4 a0_5 a0_6 a2_0 a2_1 a2_2 a2_3) else (none)))) = some (r1, r2) := h
 clear h
 replace H := Option.bind_eq_some_iff.mp H
 obtain ⟨up, A50, H⟩ := H
 replace H : (if a3 < 0 then (cookie_Read.j0 k a1 a3 up true a0_0 a0_1 a0_2 a0_3 a0_4 a0_5 a0_6 a2_0 a2_1 a2_2 a2_3) else (if 0 ≤ (wrap64 (8 + up)) then (cookie_Read.j0 k a1 a3 up (decide (a3 ≥ (shl .i64 1 (wrap64 (8 + up))))) a0_0 a0_1 a0_2 a0_3 a0_4 a0_5 a0_6 a2_0 a2_1 a2_2 a2_3) else (none))) = some (r1, r2) := H
 have A5 := q_v A50
 clear A50
 have HC6 := q_v H
 clear H
 go_enter Try.func21, Try.ntmps21
 go_upto_region 2 with (first | ((with_reducible refine gate_dst (N := 4) rfl ?_); refine box_event ?hg (N := 4) ?hd (cs := #[.int .i64 a0_0, .int .u64 a0_1, .int .u64 a0_2, .int .u64 a0_3, .int .u64 a0_4, .int .u64 a0_5, .int .u64 a0_6]) (t := 27) ?hr ?_; (case hd => rfl); (case hg => rfl); (case hr => first | (go_simp; done) | (go_simp; rfl)); intro ui hg w7 hbox hb; have n0_ := q_v (below_step (by repeat (first | (with_reducible first | exact HB.out | apply q_j | apply q_i | apply q_k) | exact HB.out)) hb); have n1_ := q_v (hbox); have n2_ := q_v ((by rw [hg]; exact (below_size (by repeat (first | (with_reducible first | exact HB.out | apply q_j | apply q_i | apply q_k) | exact HB.out))) : w.heap.size ≤ ui)); have n3_ := q_v ((by rw [hg]; exact (below_size (by repeat (first | (with_reducible first | exact HB.out | apply q_j | apply q_i | apply q_k) | exact HB.out))) : w.heap.size ≤ ui)); clear HB; have HB := n0_; have uc := n1_; have GW137 := n2_; have uo := n3_; clear n0_ n1_ n2_ n3_; clear hb hbox hg) | ((with_reducible refine gate_dst (N := 6) rfl ?_); refine box_event ?hg (N := 6) ?hd (cs := #[.int .i64 a2_0, .int .i64 a2_1, .int .i64 a2_2, .int .i64 a2_3]) (t := 32) ?hr ?_; (case hd => rfl); (case hg => rfl); (case hr => first | (go_simp; done) | (go_simp; rfl)); intro ug hg w8 hbox hb; have n0_ := q_v (q_m (g := ui) (o := .cells #[.int .i64 a0_0, .int .u64 a0_1, .int .u64 a0_2, .int .u64 a0_3, .int .u64 a0_4, .int .u64 a0_5, .int .u64 a0_6] 27 (0, 0)) (by (with_reducible repeat (first | refine q_p ?_ _ | refine q_r ?_ | refine q_q ?_ _)); exact uc.out) hb); have n1_ := q_v (below_step (by repeat (first | (with_reducible first | exact HB.out | apply q_j | apply q_i | apply q_k | refine q_u ?_ uo.out) | exact HB.out)) hb); have n2_ := q_v (hbox); have n3_ := q_v ((by rw [hg]; exact (below_size (by repeat (first | (with_reducible first | exact HB.out | apply q_j | apply q_i | apply q_k | refine q_u ?_ uo.out) | exact HB.out))) : w.heap.size ≤ ug)); have n4_ := q_v ((by rw [hg]; exact (below_size (by repeat (first | (with_reducible first | exact HB.out | apply q_j | apply q_i | apply q_k | refine q_u ?_ uo.out) | exact HB.out))) : w.heap.size ≤ ug)); have n5_ := q_v ((by rw [hg]; exact Nat.ne_of_lt (blk_lt (g := ui) (o := .cells #[.int .i64 a0_0, .int .u64 a0_1, .int .u64 a0_2, .int .u64 a0_3, .int .u64 a0_4, .int .u64 a0_5, .int .u64 a0_6] 27 (0, 0)) (by (with_reducible repeat (first | refine q_p ?_ _ | refine q_r ?_ | refine q_q ?_ _)); exact uc.out)) : ui ≠ ug)); have n6_ := q_v ((by rw [hg]; exact Nat.ne_of_gt (blk_lt (g := ui) (o := .cells #[.int .i64 a0_0, .int .u64 a0_1, .int .u64 a0_2, .int .u64 a0_3, .int .u64 a0_4, .int .u64 a0_5, .int .u64 a0_6] 27 (0, 0)) (by (with_reducible repeat (first | refine q_p ?_ _ | refine q_r ?_ | refine q_q ?_ _)); exact uc.out)) : ug ≠ ui)); clear uc; clear HB; have uc := n0_; have HB := n1_; have ub := n2_; have GW138 := n3_; have uq := n4_; have NB137_138 := n5_; have NB138_137 := n6_; clear n0_ n1_ n2_ n3_ n4_ n5_ n6_; clear hb hbox hg) | ((with_reducible refine gate_callee (f := 45) rfl ?_); refine goesL_ (some 17) rfl rfl Try.func45 (by kernel_rfl) rfl #[.int .i64 a1] rfl (by (try simp only [List.map_toArray, List.map_cons, List.map_nil]); first | done | rfl | (simp only [List.length_drop, List.length_take]; rfl)) ?_; (with_reducible refine (cookie_tagBits.calls a1 up _ A5.out).mono ?_); rintro e w' ⟨rfl, ⟨nd, rfl⟩⟩; refine ⟨_, rfl, ?_⟩))
 (try simp only [Act.put, q_a, q_b, q_c])
 go_cut [26] (fun v26 wc => ∃ (kq : Nat) (x26_5 : Bool), v26 = .bool x26_5 ∧ Aside0 (cookie_Read.j0 kq a1 a3 up x26_5 a0_0 a0_1 a0_2 a0_3 a0_4 a0_5 a0_6 a2_0 a2_1 a2_2 a2_3 = some (r1, r2)) ∧ Aside0 (kq ≤ k) ∧ Aside0 (wc.heap[ui]? = some (.cells #[.int .i64 a0_0, .int .u64 a0_1, .int .u64 a0_2, .int .u64 a0_3, .int .u64 a0_4, .int .u64 a0_5, .int .u64 a0_6] 27 (0, 0))) ∧ Aside0 (wc.heap[ug]? = some (.cells #[.int .i64 a2_0, .int .i64 a2_1, .int .i64 a2_2, .int .i64 a2_3] 32 (0, 0))) ∧ Aside0 (Below w.heap.size w wc))
 case first =>
  have H := HC6.out
  clear HC6
  by_cases c9 : a3 < 0
  ·rw [if_pos c9] at H
   have va : decide (a3 < 0) = true := decide_eq_true c9
   clear c9
   (first | rw [va] | (simp only [i64_w, i32_w]; rw [va]) | skip)
   have H' := q_v H
   clear H
   go_wp2
   go_meet
   case rel => exact ⟨_, (true), (by first | rfl | (simp; done) | (simp [*]; done)), H', ⟨by first | omega | exact Nat.le_refl _⟩, ⟨by (with_reducible repeat (first | refine q_p ?_ _ | refine q_r ?_ | refine q_q ?_ _)); exact uc.out⟩, ⟨by (with_reducible repeat (first | refine q_p ?_ _ | refine q_r ?_ | refine q_q ?_ _)); exact ub.out⟩, ⟨by repeat (first | (with_reducible first | exact HB.out | apply q_j | apply q_i | apply q_k | refine q_u ?_ uo.out | refine q_u ?_ uq.out) | exact HB.out)⟩⟩
  ·rw [if_neg c9] at H
   have va : decide (a3 < 0) = false := decide_eq_false c9
   clear c9
   (first | rw [va] | (simp only [i64_w, i32_w]; rw [va]) | skip)
   obtain ⟨u2, vd⟩ : ∃ j_ : Int, (wrap64 (8 + up)) = j_ := ⟨_, rfl⟩
   replace H : (if 0 ≤ (u2) then (cookie_Read.j0 k a1 a3 up (decide (a3 ≥ (shl .i64 1 (u2)))) a0_0 a0_1 a0_2 a0_3 a0_4 a0_5 a0_6 a2_0 a2_1 a2_2 a2_3) else (none)) = some (r1, r2) := by first | (rw [vd] at H; exact H) | (simp only [vd] at H ⊢; exact H)
   have hji10w : (IntKind.i64.wrap (8 + up)) = u2 := (i64_w _).trans vd
   by_cases c11 : 0 ≤ (u2)
   ·rw [if_pos c11] at H
    have c11b0 := eq_true c11
    have c11b1 : decide (0 ≤ (u2)) = true := decide_eq_true c11
    clear c11
    obtain ⟨u8, vc⟩ : ∃ j_ : Int, (shl .i64 1 (u2)) = j_ := ⟨_, rfl⟩
    replace H : (cookie_Read.j0 k a1 a3 up (decide (a3 ≥ (u8))) a0_0 a0_1 a0_2 a0_3 a0_4 a0_5 a0_6 a2_0 a2_1 a2_2 a2_3) = some (r1, r2) := by first | (rw [vc] at H; exact H) | (simp only [vc] at H ⊢; exact H)
    have hji12_ : (IntKind.i64.wrap (1 * 2 ^ min (u2).toNat 64)) = u8 := vc
    have hji12z : (u2) ≤ 64 → (IntKind.i64.wrap (1 * 2 ^ (u2).toNat)) = u8 := shl_small vc
    have hji12u : (IntKind.i64.wrap (2 ^ min (u2).toNat 64)) = u8 := by have h_ := hji12_; rw [Int.one_mul] at h_; exact h_
    have hji12v : (u2) ≤ 64 → (IntKind.i64.wrap (2 ^ (u2).toNat)) = u8 := fun hle_ => by have h_ := hji12z hle_; rw [Int.one_mul] at h_; exact h_
    have hji12y : (wrap64 (1 * 2 ^ min (u2).toNat 64)) = u8 := (i64_w _).symm.trans hji12_
    have hji12x : (u2) ≤ 64 → (wrap64 (1 * 2 ^ (u2).toNat)) = u8 := fun h_ => (i64_w _).symm.trans (hji12z h_)
    have H' := q_v H
    clear H
    go_wp2
    go_meet
    case rel => exact ⟨_, (decide (a3 ≥ (u8))), (by first | rfl | (simp; done) | (simp only [← vc] <;> (first | rfl | simp)) | (simp [*]; done)), H', ⟨by first | omega | exact Nat.le_refl _⟩, ⟨by (with_reducible repeat (first | refine q_p ?_ _ | refine q_r ?_ | refine q_q ?_ _)); exact uc.out⟩, ⟨by (with_reducible repeat (first | refine q_p ?_ _ | refine q_r ?_ | refine q_q ?_ _)); exact ub.out⟩, ⟨by repeat (first | (with_reducible first | exact HB.out | apply q_j | apply q_i | apply q_k | refine q_u ?_ uo.out | refine q_u ?_ uq.out) | exact HB.out)⟩⟩
   ·rw [if_neg c11] at H
    exact absurd H (by simp)
 case rest =>
  clear HC6
  try clear c1
  try clear c2
  try clear p2
  try clear c4
  try clear p6
  try clear c9
  try clear va
  try clear c11
  try clear c11b0
  try clear c11b1
  obtain ⟨kq, x26_5, rfl, HA, HJ5, uc, ub, HB⟩ := hcut
  cases kq with
  | zero => exact absurd HA.out (by simp [cookie_Read.j0])
  | succ uu =>
   have H := HA.out
   clear HA
   simp only [cookie_Read.j0] at H
   by_cases c13 : x26_5 = true
   ·subst c13
    have H1 : (some (0, false)) = some (r1, r2) := by rw [if_pos rfl] at H; exact H
    clear H
    have H := H1
    clear H1
    simp only [Option.some.injEq, Prod.mk.injEq] at H
    obtain ⟨rfl, rfl⟩ := H
    go_wp2
    go_ret2
    exact ⟨by first | rfl | (simp [errW_none, errW_some] <;> rfl) | (simp [*, errW_none, errW_some] <;> rfl), by repeat (first | (with_reducible first | exact HB.out | apply q_j | apply q_i | apply q_k | refine q_u ?_ uo.out | refine q_u ?_ uq.out) | exact HB.out)⟩
   ·replace c13 := Bool.eq_false_iff.mpr c13
    subst c13
    have H1 : (if 0 ≤ (wrap64 (6 + up)) then (if 0 ≤ up then ((cookie_Key.f uu a0_0 a0_1 a0_2 a0_3 a0_4 a0_5 a0_6 (shr .i64 a3 (wrap64 (6 + up)))).bind fun uv => (if uv.2.2 = true then ((cookie_veil.f uu uv.1 uv.2.1 a1 a2_0 a2_1 a2_2 a2_3 (shr .i64 a3 (wrap64 (6 + up)))).bind fun ut => ((cookie_tag.f uu uv.1 uv.2.1 a1 a2_0 a2_1 a2_2 a2_3 (Go.bits .xor .i64 (Go.bits .and .i64 (shr .i64 a3 up) 63) ut) (shr .i64 a3 (wrap64 (6 + up)))).bind fun ux => (if (!(ux == (Go.bits .and .i64 a3 (wrap64 ((shl .i64 1 up) - 1))))) = true then (some (0, false)) else (some (Go.bits .xor .i64 (Go.bits .and .i64 (shr .i64 a3 up) 63) ut, true))))) else (some (0, false)))) else (none)) else (none)) = some (r1, r2) := by rw [if_neg (show ¬ (false = true) by decide)] at H; exact H
    clear H
    have H := H1
    clear H1
    obtain ⟨u6, vb⟩ : ∃ j_ : Int, (wrap64 (6 + up)) = j_ := ⟨_, rfl⟩
    replace H : (if 0 ≤ (u6) then (if 0 ≤ up then ((cookie_Key.f uu a0_0 a0_1 a0_2 a0_3 a0_4 a0_5 a0_6 (shr .i64 a3 (u6))).bind fun uv => (if uv.2.2 = true then ((cookie_veil.f uu uv.1 uv.2.1 a1 a2_0 a2_1 a2_2 a2_3 (shr .i64 a3 (u6))).bind fun ut => ((cookie_tag.f uu uv.1 uv.2.1 a1 a2_0 a2_1 a2_2 a2_3 (Go.bits .xor .i64 (Go.bits .and .i64 (shr .i64 a3 up) 63) ut) (shr .i64 a3 (u6))).bind fun ux => (if (!(ux == (Go.bits .and .i64 a3 (wrap64 ((shl .i64 1 up) - 1))))) = true then (some (0, false)) else (some (Go.bits .xor .i64 (Go.bits .and .i64 (shr .i64 a3 up) 63) ut, true))))) else (some (0, false)))) else (none)) else (none)) = some (r1, r2) := by first | (rw [vb] at H; exact H) | (simp only [vb] at H ⊢; exact H)
    have hji14w : (IntKind.i64.wrap (6 + up)) = u6 := (i64_w _).trans vb
    by_cases c15 : 0 ≤ (u6)
    ·rw [if_pos c15] at H
     have c15b0 := eq_true c15
     have c15b1 : decide (0 ≤ (u6)) = true := decide_eq_true c15
     clear c15
     obtain ⟨uj, u1⟩ : ∃ j_ : Int, (shr .i64 a3 (u6)) = j_ := ⟨_, rfl⟩
     replace H : (if 0 ≤ up then ((cookie_Key.f uu a0_0 a0_1 a0_2 a0_3 a0_4 a0_5 a0_6 (uj)).bind fun uv => (if uv.2.2 = true then ((cookie_veil.f uu uv.1 uv.2.1 a1 a2_0 a2_1 a2_2 a2_3 (uj)).bind fun ut => ((cookie_tag.f uu uv.1 uv.2.1 a1 a2_0 a2_1 a2_2 a2_3 (Go.bits .xor .i64 (Go.bits .and .i64 (shr .i64 a3 up) 63) ut) (uj)).bind fun ux => (if (!(ux == (Go.bits .and .i64 a3 (wrap64 ((shl .i64 1 up) - 1))))) = true then (some (0, false)) else (some (Go.bits .xor .i64 (Go.bits .and .i64 (shr .i64 a3 up) 63) ut, true))))) else (some (0, false)))) else (none)) = some (r1, r2) := by first | (rw [u1] at H; exact H) | (simp only [u1] at H ⊢; exact H)
     have hji16_ : (a3 / 2 ^ min (u6).toNat 64) = uj := u1
     have hji16z : (u6) ≤ 64 → (a3 / 2 ^ (u6).toNat) = uj := shr_small u1
     by_cases c17 : 0 ≤ up
     ·rw [if_pos c17] at H
      have c17b0 := eq_true c17
      have c17b1 : decide (0 ≤ up) = true := decide_eq_true c17
      clear c17
      obtain ⟨uk, u7⟩ : ∃ j_ : Int, (shr .i64 a3 up) = j_ := ⟨_, rfl⟩
      replace H : ((cookie_Key.f uu a0_0 a0_1 a0_2 a0_3 a0_4 a0_5 a0_6 (uj)).bind fun uv => (if uv.2.2 = true then ((cookie_veil.f uu uv.1 uv.2.1 a1 a2_0 a2_1 a2_2 a2_3 (uj)).bind fun ut => ((cookie_tag.f uu uv.1 uv.2.1 a1 a2_0 a2_1 a2_2 a2_3 (Go.bits .xor .i64 (Go.bits .and .i64 (uk) 63) ut) (uj)).bind fun ux => (if (!(ux == (Go.bits .and .i64 a3 (wrap64 ((shl .i64 1 up) - 1))))) = true then (some (0, false)) else (some (Go.bits .xor .i64 (Go.bits .and .i64 (uk) 63) ut, true))))) else (some (0, false)))) = some (r1, r2) := by first | (rw [u7] at H; exact H) | (simp only [u7] at H ⊢; exact H)
      have hji18_ : (a3 / 2 ^ min up.toNat 64) = uk := u7
      have hji18z : up ≤ 64 → (a3 / 2 ^ up.toNat) = uk := shr_small u7
      have c19b0 := eq_true (of_decide_eq_true (by first | (with_reducible assumption) | assumption) : 0 ≤ up)
      obtain ⟨un, u9⟩ : ∃ j_ : Int, (shl .i64 1 up) = j_ := ⟨_, rfl⟩
      replace H : ((cookie_Key.f uu a0_0 a0_1 a0_2 a0_3 a0_4 a0_5 a0_6 (uj)).bind fun uv => (if uv.2.2 = true then ((cookie_veil.f uu uv.1 uv.2.1 a1 a2_0 a2_1 a2_2 a2_3 (uj)).bind fun ut => ((cookie_tag.f uu uv.1 uv.2.1 a1 a2_0 a2_1 a2_2 a2_3 (Go.bits .xor .i64 (Go.bits .and .i64 (uk) 63) ut) (uj)).bind fun ux => (if (!(ux == (Go.bits .and .i64 a3 (wrap64 ((un) - 1))))) = true then (some (0, false)) else (some (Go.bits .xor .i64 (Go.bits .and .i64 (uk) 63) ut, true))))) else (some (0, false)))) = some (r1, r2) := by first | (rw [u9] at H; exact H) | (simp only [u9] at H ⊢; exact H)
      have hji20_ : (IntKind.i64.wrap (1 * 2 ^ min up.toNat 64)) = un := u9
      have hji20z : up ≤ 64 → (IntKind.i64.wrap (1 * 2 ^ up.toNat)) = un := shl_small u9
      have hji20u : (IntKind.i64.wrap (2 ^ min up.toNat 64)) = un := by have h_ := hji20_; rw [Int.one_mul] at h_; exact h_
      have hji20v : up ≤ 64 → (IntKind.i64.wrap (2 ^ up.toNat)) = un := fun hle_ => by have h_ := hji20z hle_; rw [Int.one_mul] at h_; exact h_
      have hji20y : (wrap64 (1 * 2 ^ min up.toNat 64)) = un := (i64_w _).symm.trans hji20_
      have hji20x : up ≤ 64 → (wrap64 (1 * 2 ^ up.toNat)) = un := fun h_ => (i64_w _).symm.trans (hji20z h_)
      replace H := Option.bind_eq_some_iff.mp H
      obtain ⟨⟨ul, um, t143⟩, A210, H⟩ := H
      replace H : (if t143 = true then ((cookie_veil.f uu ul um a1 a2_0 a2_1 a2_2 a2_3 (uj)).bind fun ut => ((cookie_tag.f uu ul um a1 a2_0 a2_1 a2_2 a2_3 (Go.bits .xor .i64 (Go.bits .and .i64 (uk) 63) ut) (uj)).bind fun ux => (if (!(ux == (Go.bits .and .i64 a3 (wrap64 ((un) - 1))))) = true then (some (0, false)) else (some (Go.bits .xor .i64 (Go.bits .and .i64 (uk) 63) ut, true))))) else (some (0, false))) = some (r1, r2) := H
      have A21 := q_v A210
      clear A210
      by_cases c22 : t143 = true
      ·subst c22
       have H1 : ((cookie_veil.f uu ul um a1 a2_0 a2_1 a2_2 a2_3 (uj)).bind fun ut => ((cookie_tag.f uu ul um a1 a2_0 a2_1 a2_2 a2_3 (Go.bits .xor .i64 (Go.bits .and .i64 (uk) 63) ut) (uj)).bind fun ux => (if (!(ux == (Go.bits .and .i64 a3 (wrap64 ((un) - 1))))) = true then (some (0, false)) else (some (Go.bits .xor .i64 (Go.bits .and .i64 (uk) 63) ut, true))))) = some (r1, r2) := by rw [if_pos rfl] at H; exact H
       clear H
       have H := H1
       clear H1
       replace H := Option.bind_eq_some_iff.mp H
       obtain ⟨ut, A230, H⟩ := H
       replace H : ((cookie_tag.f uu ul um a1 a2_0 a2_1 a2_2 a2_3 (Go.bits .xor .i64 (Go.bits .and .i64 (uk) 63) ut) (uj)).bind fun ux => (if (!(ux == (Go.bits .and .i64 a3 (wrap64 ((un) - 1))))) = true then (some (0, false)) else (some (Go.bits .xor .i64 (Go.bits .and .i64 (uk) 63) ut, true)))) = some (r1, r2) := H
       have A23 := q_v A230
       clear A230
       replace H := Option.bind_eq_some_iff.mp H
       obtain ⟨ux, A240, H⟩ := H
       replace H : (if (!(ux == (Go.bits .and .i64 a3 (wrap64 ((un) - 1))))) = true then (some (0, false)) else (some (Go.bits .xor .i64 (Go.bits .and .i64 (uk) 63) ut, true))) = some (r1, r2) := H
       have A24 := q_v A240
       clear A240
       by_cases c25 : (!(ux == (Go.bits .and .i64 a3 (wrap64 ((un) - 1))))) = true
       ·rw [if_pos c25] at H
        have c25b0 : (!(ux == (Go.bits .and .i64 a3 (wrap64 ((un) - 1))))) = true := c25
        clear c25
        simp only [Option.some.injEq, Prod.mk.injEq] at H
        obtain ⟨rfl, rfl⟩ := H
        try go_wp2
        have n0_ := q_v (q_r uc.out)
        have n1_ := q_v (q_r ub.out)
        have n2_ := q_v (q_k HB.out)
        clear uc
        clear ub
        clear HB
        have uc := n0_
        have ub := n1_
        have HB := n2_
        clear n0_ n1_ n2_
        refine start_ (n := 16) (S := fun w' => True) (ds := []) #[zF, zF, zF, zF, zF, zF, zF, zF, zF, zF, zF, zF, zF, zF, zF, zF] (by kernel_rfl) rfl rfl trivial (fun hHeld => ?_); refine with_tabW cookie_Read.tab4 cookie_Read.bits4 (fun HT_ HW_ => ?_)
        generalize wc.drew = w26 at uc ub HB hHeld ⊢
        refine pure_ (i := 0) (N := some 27) (v := ?_) (a' := ?_) #[zT, zF, zF, zF, zF, zF, zF, zF, zF, zF, zF, zF, zF, zF, zF, zF] rfl rfl (any_of HT_.out (by kernel_rfl)) (fun _ _ _ h => h) (Or.inl ⟨by rfl, ?_⟩) ?_ ?_
        rotate_left
        ·intro w'
         go_simp
         with_reducible rfl
        rotate_left
        ·simp only [Act.put, q_a, q_b, q_c, i64_w, i32_w]
         rfl
        refine pure_ (i := 1) (N := some 28) (v := ?_) (a' := ?_) #[zT, zT, zF, zF, zF, zF, zF, zF, zF, zF, zF, zF, zF, zF, zF, zF] rfl rfl (any_of HT_.out (by kernel_rfl)) (fun _ _ _ h => h) (Or.inl ⟨by rfl, ?_⟩) ?_ ?_
        rotate_left
        ·intro w'
         go_simp
         with_reducible rfl
        rotate_left
        ·simp only [Act.put, q_a, q_b, q_c, i64_w, i32_w]
         rfl
        refine pure_ (i := 2) (N := some 29) (v := ?_) (a' := ?_) #[zT, zT, zT, zF, zF, zF, zF, zF, zF, zF, zF, zF, zF, zF, zF, zF] rfl rfl (any_of HT_.out (by kernel_rfl)) (fun _ _ _ h => h) (Or.inl ⟨by rfl, ?_⟩) ?_ ?_
        rotate_left
        ·intro w'
         go_simp
         with_reducible rfl
        rotate_left
        ·simp only [Act.put, q_a, q_b, q_c, i64_w, i32_w]
         rfl
        refine pure_ (i := 3) (N := some 30) (v := ?_) (a' := ?_) #[zT, zT, zT, zT, zF, zF, zF, zF, zF, zF, zF, zF, zF, zF, zF, zF] rfl rfl (any_of HT_.out (by kernel_rfl)) (fun _ _ _ h => h) (Or.inl ⟨by rfl, ?_⟩) ?_ ?_
        rotate_left
        ·intro w'
         go_simp
         with_reducible rfl
        rotate_left
        ·simp only [Act.put, q_a, q_b, q_c, i64_w, i32_w]
         rfl
        refine pure_ (i := 4) (N := some 31) (v := ?_) (a' := ?_) #[zT, zT, zT, zT, zT, zF, zF, zF, zF, zF, zF, zF, zF, zF, zF, zF] rfl rfl (any_of HT_.out (by kernel_rfl)) (fun _ _ _ h => h) (Or.inl ⟨by rfl, ?_⟩) ?_ ?_
        rotate_left
        ·intro w'
         go_simp
         with_reducible rfl
        rotate_left
        ·simp only [Act.put, q_a, q_b, q_c, i64_w, i32_w]
         rfl
        refine pure_ (i := 5) (N := some 32) (v := ?_) (a' := ?_) #[zT, zT, zT, zT, zT, zT, zF, zF, zF, zF, zF, zF, zF, zF, zF, zF] rfl rfl (any_of HT_.out (by kernel_rfl)) (fun _ _ _ h => h) (Or.inl ⟨by rfl, ?_⟩) ?_ ?_
        rotate_left
        ·intro w'
         go_simp
         with_reducible rfl
        rotate_left
        ·simp only [Act.put, q_a, q_b, q_c, i64_w, i32_w]
         rfl
        refine pure_ (i := 6) (N := some 33) (v := ?_) (a' := ?_) #[zT, zT, zT, zT, zT, zT, zT, zF, zF, zF, zF, zF, zF, zF, zF, zF] rfl rfl (any_of HT_.out (by kernel_rfl)) (fun _ _ _ h => h) (Or.inl ⟨by rfl, ?_⟩) ?_ ?_
        rotate_left
        ·intro w'
         go_simp
         with_reducible rfl
        rotate_left
        ·simp only [Act.put, q_a, q_b, q_c, i64_w, i32_w]
         rfl
        refine pure_ (i := 7) (N := some 34) (v := ?_) (a' := ?_) #[zT, zT, zT, zT, zT, zT, zT, zT, zF, zF, zF, zF, zF, zF, zF, zF] rfl rfl (any_of HT_.out (by kernel_rfl)) (fun _ _ _ h => h) (Or.inl ⟨by rfl, ?_⟩) ?_ ?_
        rotate_left
        ·intro w'
         go_simp
         with_reducible rfl
        rotate_left
        ·simp only [Act.put, q_a, q_b, q_c, i64_w, i32_w]
         rfl
        refine pure_ (i := 8) (N := some 35) (v := ?_) (a' := ?_) #[zT, zT, zT, zT, zT, zT, zT, zT, zT, zF, zF, zF, zF, zF, zF, zF] rfl rfl (any_of HT_.out (by kernel_rfl)) (fun _ _ _ h => h) (Or.inl ⟨by rfl, ?_⟩) ?_ ?_
        rotate_left
        ·intro w'
         go_simp
         with_reducible rfl
        rotate_left
        ·simp only [Act.put, q_a, q_b, q_c, i64_w, i32_w]
         rfl
        refine pure_ (i := 9) (N := some 36) (v := ?_) (a' := ?_) #[zT, zT, zT, zT, zT, zT, zT, zT, zT, zT, zF, zF, zF, zF, zF, zF] rfl rfl (any_of HT_.out (by kernel_rfl)) (fun _ _ _ h => h) (Or.inl ⟨by rfl, ?_⟩) ?_ ?_
        rotate_left
        ·intro w'
         go_simp
         with_reducible rfl
        rotate_left
        ·simp only [Act.put, q_a, q_b, q_c, i64_w, i32_w]
         rfl
        refine pure_ (i := 10) (N := some 37) (v := ?_) (a' := ?_) #[zT, zT, zT, zT, zT, zT, zT, zT, zT, zT, zT, zF, zF, zF, zF, zF] rfl rfl (any_of HT_.out (by kernel_rfl)) (fun _ _ _ h => h) (Or.inl ⟨by rfl, ?_⟩) ?_ ?_
        rotate_left
        ·intro w'
         go_simp
         with_reducible rfl
        rotate_left
        ·simp only [Act.put, q_a, q_b, q_c, i64_w, i32_w]
         rfl
        refine pure_ (i := 11) (N := some 38) (v := ?_) (a' := ?_) #[zT, zT, zT, zT, zT, zT, zT, zT, zT, zT, zT, zT, zF, zF, zF, zF] rfl rfl (any_of HT_.out (by kernel_rfl)) (fun _ _ _ h => h) (Or.inl ⟨by rfl, ?_⟩) ?_ ?_
        rotate_left
        ·intro w'
         go_simp
         with_reducible rfl
        rotate_left
        ·simp only [Act.put, q_a, q_b, q_c, i64_w, i32_w]
         rfl
        refine pure_ (i := 12) (N := some 39) (v := ?_) (a' := ?_) #[zT, zT, zT, zT, zT, zT, zT, zT, zT, zT, zT, zT, zT, zF, zF, zF] rfl rfl (any_of HT_.out (by kernel_rfl)) (fun _ _ _ h => h) (Or.inl ⟨by rfl, ?_⟩) ?_ ?_
        rotate_left
        ·intro w'
         go_simp
         with_reducible rfl
        rotate_left
        ·simp only [Act.put, q_a, q_b, q_c, i64_w, i32_w]
         rfl
        refine pure_ (i := 13) (N := some 40) (v := ?_) (a' := ?_) #[zT, zT, zT, zT, zT, zT, zT, zT, zT, zT, zT, zT, zT, zT, zF, zF] rfl rfl (any_of HT_.out (by kernel_rfl)) (fun _ _ _ h => h) (Or.inl ⟨by rfl, ?_⟩) ?_ ?_
        rotate_left
        ·intro w'
         go_simp
         with_reducible rfl
        rotate_left
        ·simp only [Act.put, q_a, q_b, q_c, i64_w, i32_w]
         rfl
        refine one_ (i := 14) (N := some 11) #[zT, zT, zT, zT, zT, zT, zT, zT, zT, zT, zT, zT, zT, zT, zT, zF] rfl rfl (one_of HT_.out (by kernel_rfl)) (by decide) (fun K hK => ?_)
        refine box_step ?hg (N := 11) ?hd (cs := #[.int .i64 0, .int .i64 0, .int .i64 0]) (t := 69) ?hr ?_; (case hd => rfl); (case hg => rfl); (case hr => first | (go_simp; done) | (go_simp; rfl))
        intro ue hg u3 hbox hb
        have n0_ := q_v (q_m (g := ui) (o := .cells #[.int .i64 a0_0, .int .u64 a0_1, .int .u64 a0_2, .int .u64 a0_3, .int .u64 a0_4, .int .u64 a0_5, .int .u64 a0_6] 27 (0, 0)) (by (with_reducible repeat (first | refine q_p ?_ _ | refine q_r ?_ | refine q_q ?_ _)); exact uc.out) hb)
        have n1_ := q_v (q_m (g := ug) (o := .cells #[.int .i64 a2_0, .int .i64 a2_1, .int .i64 a2_2, .int .i64 a2_3] 32 (0, 0)) (by (with_reducible repeat (first | refine q_p ?_ _ | refine q_r ?_ | refine q_q ?_ _)); exact ub.out) hb)
        have n2_ := q_v (below_step (by repeat (first | (with_reducible first | exact HB.out | apply q_j | apply q_i | apply q_k | refine q_u ?_ uo.out | refine q_u ?_ uq.out) | exact HB.out)) hb)
        have n3_ := q_v (hbox)
        have n4_ := q_v ((by rw [hg]; exact (below_size (by repeat (first | (with_reducible first | exact HB.out | apply q_j | apply q_i | apply q_k | refine q_u ?_ uo.out | refine q_u ?_ uq.out) | exact HB.out))) : w.heap.size ≤ ue))
        have n5_ := q_v ((by rw [hg]; exact (below_size (by repeat (first | (with_reducible first | exact HB.out | apply q_j | apply q_i | apply q_k | refine q_u ?_ uo.out | refine q_u ?_ uq.out) | exact HB.out))) : w.heap.size ≤ ue))
        have n6_ := q_v ((by rw [hg]; exact Nat.ne_of_lt (blk_lt (g := ui) (o := .cells #[.int .i64 a0_0, .int .u64 a0_1, .int .u64 a0_2, .int .u64 a0_3, .int .u64 a0_4, .int .u64 a0_5, .int .u64 a0_6] 27 (0, 0)) (by (with_reducible repeat (first | refine q_p ?_ _ | refine q_r ?_ | refine q_q ?_ _)); exact uc.out)) : ui ≠ ue))
        have n7_ := q_v ((by rw [hg]; exact Nat.ne_of_gt (blk_lt (g := ui) (o := .cells #[.int .i64 a0_0, .int .u64 a0_1, .int .u64 a0_2, .int .u64 a0_3, .int .u64 a0_4, .int .u64 a0_5, .int .u64 a0_6] 27 (0, 0)) (by (with_reducible repeat (first | refine q_p ?_ _ | refine q_r ?_ | refine q_q ?_ _)); exact uc.out)) : ue ≠ ui))
        have n8_ := q_v ((by rw [hg]; exact Nat.ne_of_lt (blk_lt (g := ug) (o := .cells #[.int .i64 a2_0, .int .i64 a2_1, .int .i64 a2_2, .int .i64 a2_3] 32 (0, 0)) (by (with_reducible repeat (first | refine q_p ?_ _ | refine q_r ?_ | refine q_q ?_ _)); exact ub.out)) : ug ≠ ue))
        have n9_ := q_v ((by rw [hg]; exact Nat.ne_of_gt (blk_lt (g := ug) (o := .cells #[.int .i64 a2_0, .int .i64 a2_1, .int .i64 a2_2, .int .i64 a2_3] 32 (0, 0)) (by (with_reducible repeat (first | refine q_p ?_ _ | refine q_r ?_ | refine q_q ?_ _)); exact ub.out)) : ue ≠ ug))
        clear uc
        clear ub
        clear HB
        have uc := n0_
        have ub := n1_
        have HB := n2_
        have ua := n3_
        have GW140 := n4_
        have ur := n5_
        have NB137_140 := n6_
        have NB140_137 := n7_
        have NB138_140 := n8_
        have NB140_138 := n9_
        clear n0_ n1_ n2_ n3_ n4_ n5_ n6_ n7_ n8_ n9_
        clear hb hbox hg
        refine hK.out _ _ trivial (fun hHeld => ?_)
        clear hK K
        refine norm_ (a' := ?_) ?_ ?_
        rotate_left
        ·show Act.put _ (some 11) _ = _
         simp only [Act.put, q_a, q_b, q_c, i64_w, i32_w]
         rfl
        refine one_ (i := 15) (N := none) #[zT, zT, zT, zT, zT, zT, zT, zT, zT, zT, zT, zT, zT, zT, zT, zT] rfl rfl (one_of HT_.out (by kernel_rfl)) (by decide) (fun K hK => ?_)
        have hs28 : u3.cell? ⟨ue, 0, none⟩ = some (.int .i64 0) := (q_n ua.out 0).trans rfl
        have hfs28 := q_o ua.out 0
        have hns28_0 := NB137_140.out
        have hns28_1 := NB138_140.out
        have hms28_0 := NB140_137.out
        have hms28_1 := NB140_138.out
        have hs29 : u3.cell? ⟨ue, 1, none⟩ = some (.int .i64 0) := (q_n ua.out 1).trans rfl
        have hfs29 := q_o ua.out 1
        have hns29_0 := NB137_140.out
        have hns29_1 := NB138_140.out
        have hms29_0 := NB140_137.out
        have hms29_1 := NB140_138.out
        have hs30 : u3.cell? ⟨ue, 2, none⟩ = some (.int .i64 0) := (q_n ua.out 2).trans rfl
        have hfs30 := q_o ua.out 2
        have hns30_0 := NB137_140.out
        have hns30_1 := NB138_140.out
        have hms30_0 := NB140_137.out
        have hms30_1 := NB140_138.out
        refine skip_ (w1 := ?_) (by rfl) rfl ?_ ?_
        rotate_left
        ·go_simp
         rfl
        refine hK.out _ _ trivial (fun hHeld => ?_)
        clear hK K
        refine done_ (done_of HT_.out (by kernel_rfl)) ?_
        have hnb31 := NB137_138.out
        have hnc31 := NB138_137.out
        have hnb32 := NB137_140.out
        have hnc32 := NB140_137.out
        have hcz33_0 : u3.cell? ⟨ui, 0, none⟩ = some (.int .i64 a0_0) := (q_n uc.out 0).trans rfl
        have hcz33_1 : u3.cell? ⟨ui, 1, none⟩ = some (.int .u64 a0_1) := (q_n uc.out 1).trans rfl
        have hcz33_2 : u3.cell? ⟨ui, 2, none⟩ = some (.int .u64 a0_2) := (q_n uc.out 2).trans rfl
        have hcz33_3 : u3.cell? ⟨ui, 3, none⟩ = some (.int .u64 a0_3) := (q_n uc.out 3).trans rfl
        have hcz33_4 : u3.cell? ⟨ui, 4, none⟩ = some (.int .u64 a0_4) := (q_n uc.out 4).trans rfl
        have hcz33_5 : u3.cell? ⟨ui, 5, none⟩ = some (.int .u64 a0_5) := (q_n uc.out 5).trans rfl
        have hcz33_6 : u3.cell? ⟨ui, 6, none⟩ = some (.int .u64 a0_6) := (q_n uc.out 6).trans rfl
        have hfz33_0 := q_o uc.out 0
        have hfz33_1 := q_o uc.out 1
        have hfz33_2 := q_o uc.out 2
        have hfz33_3 := q_o uc.out 3
        have hfz33_4 := q_o uc.out 4
        have hfz33_5 := q_o uc.out 5
        have hfz33_6 := q_o uc.out 6
        have hnb34 := NB140_138.out
        have hnc34 := NB138_140.out
        have hcz35_0 : u3.cell? ⟨ue, 0, none⟩ = some (.int .i64 0) := (q_n ua.out 0).trans rfl
        have hcz35_1 : u3.cell? ⟨ue, 1, none⟩ = some (.int .i64 0) := (q_n ua.out 1).trans rfl
        have hcz35_2 : u3.cell? ⟨ue, 2, none⟩ = some (.int .i64 0) := (q_n ua.out 2).trans rfl
        have hfz35_0 := q_o ua.out 0
        have hfz35_1 := q_o ua.out 1
        have hfz35_2 := q_o ua.out 2
        try go_wp2_with (first | ((with_reducible refine gate_callee (f := 29) rfl ?_); refine goesL_ (some 45) rfl rfl Try.func29 (by kernel_rfl) rfl #[.agg #[.int .i64 a0_0, .int .u64 a0_1, .int .u64 a0_2, .int .u64 a0_3, .int .u64 a0_4, .int .u64 a0_5, .int .u64 a0_6], .int .i64 uj] rfl (by (try simp only [List.map_toArray, List.map_cons, List.map_nil]); first | done | (simp only [u1]; rfl) | rfl | (simp only [List.length_drop, List.length_take]; rfl)) ?_; (with_reducible refine (cookie_Key.calls uu a0_0 a0_1 a0_2 a0_3 a0_4 a0_5 a0_6 uj ul um true _ A21.out).mono ?_); rintro e w36 ⟨rfl, hb⟩; refine ⟨_, rfl, ?_⟩; have n0_ := q_v (q_m (g := ui) (o := .cells #[.int .i64 a0_0, .int .u64 a0_1, .int .u64 a0_2, .int .u64 a0_3, .int .u64 a0_4, .int .u64 a0_5, .int .u64 a0_6] 27 (0, 0)) (by (with_reducible repeat (first | refine q_p ?_ _ | refine q_r ?_ | refine q_q ?_ _)); refine blk_far ?_ NB137_140.out _; (with_reducible repeat (first | refine q_p ?_ _ | refine q_r ?_ | refine q_q ?_ _)); refine blk_far ?_ NB137_140.out _; (with_reducible repeat (first | refine q_p ?_ _ | refine q_r ?_ | refine q_q ?_ _)); refine blk_far ?_ NB137_140.out _; (with_reducible repeat (first | refine q_p ?_ _ | refine q_r ?_ | refine q_q ?_ _)); exact uc.out) hb); have n1_ := q_v (q_m (g := ug) (o := .cells #[.int .i64 a2_0, .int .i64 a2_1, .int .i64 a2_2, .int .i64 a2_3] 32 (0, 0)) (by (with_reducible repeat (first | refine q_p ?_ _ | refine q_r ?_ | refine q_q ?_ _)); refine blk_far ?_ NB138_140.out _; (with_reducible repeat (first | refine q_p ?_ _ | refine q_r ?_ | refine q_q ?_ _)); refine blk_far ?_ NB138_140.out _; (with_reducible repeat (first | refine q_p ?_ _ | refine q_r ?_ | refine q_q ?_ _)); refine blk_far ?_ NB138_140.out _; (with_reducible repeat (first | refine q_p ?_ _ | refine q_r ?_ | refine q_q ?_ _)); exact ub.out) hb); have n2_ := q_v (q_m (g := ue) (o := .cells #[.int .i64 uj, .int .i64 (Go.bits .and .i64 (uk) 63), .int .i64 (Go.bits .and .i64 a3 (wrap64 ((un) - 1)))] 69 (0, 0)) (by (with_reducible repeat (first | refine q_p ?_ _ | refine q_r ?_ | refine q_q ?_ _)); refine blk_put (cs := #[.int .i64 uj, .int .i64 (Go.bits .and .i64 (uk) 63), .int .i64 0]) ?_ 2 _ rfl; (with_reducible repeat (first | refine q_p ?_ _ | refine q_r ?_ | refine q_q ?_ _)); refine blk_put (cs := #[.int .i64 uj, .int .i64 0, .int .i64 0]) ?_ 1 _ rfl; (with_reducible repeat (first | refine q_p ?_ _ | refine q_r ?_ | refine q_q ?_ _)); refine blk_put (cs := #[.int .i64 0, .int .i64 0, .int .i64 0]) ?_ 0 _ rfl; (with_reducible repeat (first | refine q_p ?_ _ | refine q_r ?_ | refine q_q ?_ _)); exact ua.out) hb); have n3_ := q_v (below_step (by repeat (first | (with_reducible first | exact HB.out | apply q_j | apply q_i | apply q_k | refine q_u ?_ uo.out | refine q_u ?_ uq.out | refine q_u ?_ ur.out) | exact HB.out)) hb); clear uc; clear ub; clear ua; clear HB; have uc := n0_; have ub := n1_; have ua := n2_; have HB := n3_; clear n0_ n1_ n2_ n3_; (try clear hb); (try clear hb2); (try clear hk); (try clear hi)) | ((with_reducible refine gate_dst (N := 12) rfl ?_); refine box_event ?hg (N := 12) ?hd (cs := #[.int .u64 0, .int .u64 0]) (t := 25) ?hr ?_; (case hd => rfl); (case hg => rfl); (case hr => first | (go_simp; done) | (go_simp; rfl)); intro uf hg w37 hbox hb; have n0_ := q_v (q_m (g := ui) (o := .cells #[.int .i64 a0_0, .int .u64 a0_1, .int .u64 a0_2, .int .u64 a0_3, .int .u64 a0_4, .int .u64 a0_5, .int .u64 a0_6] 27 (0, 0)) (by (with_reducible repeat (first | refine q_p ?_ _ | refine q_r ?_ | refine q_q ?_ _)); exact uc.out) hb); have n1_ := q_v (q_m (g := ug) (o := .cells #[.int .i64 a2_0, .int .i64 a2_1, .int .i64 a2_2, .int .i64 a2_3] 32 (0, 0)) (by (with_reducible repeat (first | refine q_p ?_ _ | refine q_r ?_ | refine q_q ?_ _)); exact ub.out) hb); have n2_ := q_v (q_m (g := ue) (o := .cells #[.int .i64 uj, .int .i64 (Go.bits .and .i64 (uk) 63), .int .i64 (Go.bits .and .i64 a3 (wrap64 ((un) - 1)))] 69 (0, 0)) (by (with_reducible repeat (first | refine q_p ?_ _ | refine q_r ?_ | refine q_q ?_ _)); exact ua.out) hb); have n3_ := q_v (below_step (by repeat (first | (with_reducible first | exact HB.out | apply q_j | apply q_i | apply q_k | refine q_u ?_ uo.out | refine q_u ?_ uq.out | refine q_u ?_ ur.out) | exact HB.out)) hb); have n4_ := q_v (hbox); have n5_ := q_v ((by rw [hg]; exact (below_size (by repeat (first | (with_reducible first | exact HB.out | apply q_j | apply q_i | apply q_k | refine q_u ?_ uo.out | refine q_u ?_ uq.out | refine q_u ?_ ur.out) | exact HB.out))) : w.heap.size ≤ uf)); have n6_ := q_v ((by rw [hg]; exact (below_size (by repeat (first | (with_reducible first | exact HB.out | apply q_j | apply q_i | apply q_k | refine q_u ?_ uo.out | refine q_u ?_ uq.out | refine q_u ?_ ur.out) | exact HB.out))) : w.heap.size ≤ uf)); have n7_ := q_v ((by rw [hg]; exact Nat.ne_of_lt (blk_lt (g := ui) (o := .cells #[.int .i64 a0_0, .int .u64 a0_1, .int .u64 a0_2, .int .u64 a0_3, .int .u64 a0_4, .int .u64 a0_5, .int .u64 a0_6] 27 (0, 0)) (by (with_reducible repeat (first | refine q_p ?_ _ | refine q_r ?_ | refine q_q ?_ _)); exact uc.out)) : ui ≠ uf)); have n8_ := q_v ((by rw [hg]; exact Nat.ne_of_gt (blk_lt (g := ui) (o := .cells #[.int .i64 a0_0, .int .u64 a0_1, .int .u64 a0_2, .int .u64 a0_3, .int .u64 a0_4, .int .u64 a0_5, .int .u64 a0_6] 27 (0, 0)) (by (with_reducible repeat (first | refine q_p ?_ _ | refine q_r ?_ | refine q_q ?_ _)); exact uc.out)) : uf ≠ ui)); have n9_ := q_v ((by rw [hg]; exact Nat.ne_of_lt (blk_lt (g := ug) (o := .cells #[.int .i64 a2_0, .int .i64 a2_1, .int .i64 a2_2, .int .i64 a2_3] 32 (0, 0)) (by (with_reducible repeat (first | refine q_p ?_ _ | refine q_r ?_ | refine q_q ?_ _)); exact ub.out)) : ug ≠ uf)); have n10_ := q_v ((by rw [hg]; exact Nat.ne_of_gt (blk_lt (g := ug) (o := .cells #[.int .i64 a2_0, .int .i64 a2_1, .int .i64 a2_2, .int .i64 a2_3] 32 (0, 0)) (by (with_reducible repeat (first | refine q_p ?_ _ | refine q_r ?_ | refine q_q ?_ _)); exact ub.out)) : uf ≠ ug)); have n11_ := q_v ((by rw [hg]; exact Nat.ne_of_lt (blk_lt (g := ue) (o := .cells #[.int .i64 uj, .int .i64 (Go.bits .and .i64 (uk) 63), .int .i64 (Go.bits .and .i64 a3 (wrap64 ((un) - 1)))] 69 (0, 0)) (by (with_reducible repeat (first | refine q_p ?_ _ | refine q_r ?_ | refine q_q ?_ _)); exact ua.out)) : ue ≠ uf)); have n12_ := q_v ((by rw [hg]; exact Nat.ne_of_gt (blk_lt (g := ue) (o := .cells #[.int .i64 uj, .int .i64 (Go.bits .and .i64 (uk) 63), .int .i64 (Go.bits .and .i64 a3 (wrap64 ((un) - 1)))] 69 (0, 0)) (by (with_reducible repeat (first | refine q_p ?_ _ | refine q_r ?_ | refine q_q ?_ _)); exact ua.out)) : uf ≠ ue)); clear uc; clear ub; clear ua; clear HB; have uc := n0_; have ub := n1_; have ua := n2_; have HB := n3_; have uh := n4_; have GW144 := n5_; have uw := n6_; have NB137_144 := n7_; have NB144_137 := n8_; have NB138_144 := n9_; have NB144_138 := n10_; have NB140_144 := n11_; have NB144_140 := n12_; clear n0_ n1_ n2_ n3_ n4_ n5_ n6_ n7_ n8_ n9_ n10_ n11_ n12_; clear hb hbox hg; have hnb38 := NB144_137.out; have hnc38 := NB137_144.out; have hnb39 := NB144_138.out; have hnc39 := NB138_144.out; have hnb40 := NB144_140.out; have hnc40 := NB140_144.out; have hcz41_0 : w37.cell? ⟨uf, 0, none⟩ = some (.int .u64 0) := (q_n uh.out 0).trans rfl; have hcz41_1 : w37.cell? ⟨uf, 1, none⟩ = some (.int .u64 0) := (q_n uh.out 1).trans rfl; have hfz41_0 := q_o uh.out 0; have hfz41_1 := q_o uh.out 1))
        have n0_ : Aside0 (((w37.setCell ⟨uf, 0, none⟩ (.int .u64 ul)).setCell ⟨uf, 1, none⟩ (.int .u64 um)).heap[ui]? = some (.cells #[.int .i64 a0_0, .int .u64 a0_1, .int .u64 a0_2, .int .u64 a0_3, .int .u64 a0_4, .int .u64 a0_5, .int .u64 a0_6] 27 (0, 0))) := ⟨by (with_reducible repeat (first | refine q_p ?_ _ | refine q_r ?_ | refine q_q ?_ _)); refine blk_far ?_ NB137_144.out _; (with_reducible repeat (first | refine q_p ?_ _ | refine q_r ?_ | refine q_q ?_ _)); refine blk_far ?_ NB137_144.out _; (with_reducible repeat (first | refine q_p ?_ _ | refine q_r ?_ | refine q_q ?_ _)); exact uc.out⟩
        have n1_ : Aside0 (((w37.setCell ⟨uf, 0, none⟩ (.int .u64 ul)).setCell ⟨uf, 1, none⟩ (.int .u64 um)).heap[ug]? = some (.cells #[.int .i64 a2_0, .int .i64 a2_1, .int .i64 a2_2, .int .i64 a2_3] 32 (0, 0))) := ⟨by (with_reducible repeat (first | refine q_p ?_ _ | refine q_r ?_ | refine q_q ?_ _)); refine blk_far ?_ NB138_144.out _; (with_reducible repeat (first | refine q_p ?_ _ | refine q_r ?_ | refine q_q ?_ _)); refine blk_far ?_ NB138_144.out _; (with_reducible repeat (first | refine q_p ?_ _ | refine q_r ?_ | refine q_q ?_ _)); exact ub.out⟩
        have n2_ : Aside0 (((w37.setCell ⟨uf, 0, none⟩ (.int .u64 ul)).setCell ⟨uf, 1, none⟩ (.int .u64 um)).heap[ue]? = some (.cells #[.int .i64 uj, .int .i64 (Go.bits .and .i64 (uk) 63), .int .i64 (Go.bits .and .i64 a3 (wrap64 ((un) - 1)))] 69 (0, 0))) := ⟨by (with_reducible repeat (first | refine q_p ?_ _ | refine q_r ?_ | refine q_q ?_ _)); refine blk_far ?_ NB140_144.out _; (with_reducible repeat (first | refine q_p ?_ _ | refine q_r ?_ | refine q_q ?_ _)); refine blk_far ?_ NB140_144.out _; (with_reducible repeat (first | refine q_p ?_ _ | refine q_r ?_ | refine q_q ?_ _)); exact ua.out⟩
        have n3_ : Aside0 (((w37.setCell ⟨uf, 0, none⟩ (.int .u64 ul)).setCell ⟨uf, 1, none⟩ (.int .u64 um)).heap[uf]? = some (.cells #[.int .u64 ul, .int .u64 um] 25 (0, 0))) := ⟨by (with_reducible repeat (first | refine q_p ?_ _ | refine q_r ?_ | refine q_q ?_ _)); refine blk_put (cs := #[.int .u64 ul, .int .u64 0]) ?_ 1 _ rfl; (with_reducible repeat (first | refine q_p ?_ _ | refine q_r ?_ | refine q_q ?_ _)); refine blk_put (cs := #[.int .u64 0, .int .u64 0]) ?_ 0 _ rfl; (with_reducible repeat (first | refine q_p ?_ _ | refine q_r ?_ | refine q_q ?_ _)); exact uh.out⟩
        have n4_ : Aside0 (Below w.heap.size w ((w37.setCell ⟨uf, 0, none⟩ (.int .u64 ul)).setCell ⟨uf, 1, none⟩ (.int .u64 um))) := ⟨by repeat (first | (with_reducible first | exact HB.out | apply q_j | apply q_i | apply q_k | refine q_u ?_ uo.out | refine q_u ?_ uq.out | refine q_u ?_ ur.out | refine q_u ?_ uw.out) | exact HB.out)⟩
        (try clear uc)
        (try clear ub)
        (try clear ua)
        (try clear uh)
        (try clear HB)
        generalize ((w37.setCell ⟨uf, 0, none⟩ (.int .u64 ul)).setCell ⟨uf, 1, none⟩ (.int .u64 um)) = w42 at n0_ n1_ n2_ n3_ n4_ ⊢
        have uc := n0_
        have ub := n1_
        have ua := n2_
        have uh := n3_
        have HB := n4_
        clear n0_ n1_ n2_ n3_ n4_
        have n0_ := q_v (q_r uc.out)
        have n1_ := q_v (q_r ub.out)
        have n2_ := q_v (q_r ua.out)
        have n3_ := q_v (q_r uh.out)
        have n4_ := q_v (q_k HB.out)
        clear uc
        clear ub
        clear ua
        clear uh
        clear HB
        have uc := n0_
        have ub := n1_
        have ua := n2_
        have uh := n3_
        have HB := n4_
        clear n0_ n1_ n2_ n3_ n4_
        refine start_ (n := 10) (S := fun w' => w'.cell? ⟨ue, 0, none⟩ = some (.int .i64 uj) ∧ w'.cell? ⟨ue, 1, none⟩ = some (.int .i64 (Go.bits .and .i64 (uk) 63)) ∧ w'.cell? ⟨ue, 2, none⟩ = some (.int .i64 (Go.bits .and .i64 a3 (wrap64 ((un) - 1)))) ∧ w'.cell? ⟨uf, 0, none⟩ = some (.int .u64 ul) ∧ w'.cell? ⟨uf, 1, none⟩ = some (.int .u64 um) ∧ w'.cell? ⟨ug, 0, none⟩ = some (.int .i64 a2_0) ∧ w'.cell? ⟨ug, 1, none⟩ = some (.int .i64 a2_1) ∧ w'.cell? ⟨ug, 2, none⟩ = some (.int .i64 a2_2) ∧ w'.cell? ⟨ug, 3, none⟩ = some (.int .i64 a2_3)) (ds := []) #[zF, zF, zF, zF, zF, zF, zF, zF, zF, zF] (by kernel_rfl) rfl rfl ⟨(q_n ua.out 0).trans rfl, (q_n ua.out 1).trans rfl, (q_n ua.out 2).trans rfl, (q_n uh.out 0).trans rfl, (q_n uh.out 1).trans rfl, (q_n ub.out 0).trans rfl, (q_n ub.out 1).trans rfl, (q_n ub.out 2).trans rfl, (q_n ub.out 3).trans rfl⟩ (fun hHeld => ?_); refine with_tabW cookie_Read.tab8 cookie_Read.bits8 (fun HT_ HW_ => ?_)
        generalize w42.drew = w43 at uc ub ua uh HB hHeld ⊢
        refine pure_ (i := 0) (N := some 50) (v := ?_) (a' := ?_) #[zT, zF, zF, zF, zF, zF, zF, zF, zF, zF] rfl rfl (any_of HT_.out (by kernel_rfl)) (fun _ _ _ h => h) (Or.inl ⟨by rfl, ?_⟩) ?_ ?_
        rotate_left
        ·intro w'
         go_simp
         with_reducible rfl
        rotate_left
        ·simp only [Act.put, q_a, q_b, q_c, i64_w, i32_w]
         rfl
        refine pure_ (i := 3) (N := some 53) (v := ?_) (a' := ?_) #[zT, zF, zF, zT, zF, zF, zF, zF, zF, zF] rfl rfl (any_of HT_.out (by kernel_rfl)) (fun _ _ _ h => h) (Or.inl ⟨by rfl, ?_⟩) ?_ ?_
        rotate_left
        ·intro w'
         go_simp
         with_reducible rfl
        rotate_left
        ·simp only [Act.put, q_a, q_b, q_c, i64_w, i32_w]
         rfl
        refine pure_ (i := 5) (N := some 55) (v := ?_) (a' := ?_) #[zT, zF, zF, zT, zF, zT, zF, zF, zF, zF] rfl rfl (any_of HT_.out (by kernel_rfl)) (fun _ _ _ h => h) (Or.inl ⟨by rfl, ?_⟩) ?_ ?_
        rotate_left
        ·intro w'
         go_simp
         with_reducible rfl
        rotate_left
        ·simp only [Act.put, q_a, q_b, q_c, i64_w, i32_w]
         rfl
        refine take_ (i := 1) (N := some 51) (v := ?_) (a' := ?_) #[zT, zT, zF, zT, zF, zT, zF, zF, zF, zF] rfl rfl (take_ofW HT_.out HW_.out (by kernel_rfl)) (fun _ _ _ h => h) (Or.inl ⟨by rfl, ?_⟩) hHeld ?_ ?_
        rotate_left
        ·rintro w' ⟨s0, s1, s2, s3, s4, s5, s6, s7, s8⟩
         go_simp
         with_reducible rfl
        rotate_left
        ·simp only [Act.put, q_a, q_b, q_c, i64_w, i32_w]
         rfl
        refine take_ (i := 2) (N := some 52) (v := ?_) (a' := ?_) #[zT, zT, zT, zT, zF, zT, zF, zF, zF, zF] rfl rfl (take_ofW HT_.out HW_.out (by kernel_rfl)) (fun _ _ _ h => h) (Or.inl ⟨by rfl, ?_⟩) hHeld ?_ ?_
        rotate_left
        ·rintro w' ⟨s0, s1, s2, s3, s4, s5, s6, s7, s8⟩
         go_simp
         with_reducible rfl
        rotate_left
        ·simp only [Act.put, q_a, q_b, q_c, i64_w, i32_w]
         rfl
        refine take_ (i := 4) (N := some 54) (v := ?_) (a' := ?_) #[zT, zT, zT, zT, zT, zT, zF, zF, zF, zF] rfl rfl (take_ofW HT_.out HW_.out (by kernel_rfl)) (fun _ _ _ h => h) (Or.inl ⟨by rfl, ?_⟩) hHeld ?_ ?_
        rotate_left
        ·rintro w' ⟨s0, s1, s2, s3, s4, s5, s6, s7, s8⟩
         go_simp
         with_reducible rfl
        rotate_left
        ·simp only [Act.put, q_a, q_b, q_c, i64_w, i32_w]
         rfl
        refine take_ (i := 6) (N := some 56) (v := ?_) (a' := ?_) #[zT, zT, zT, zT, zT, zT, zT, zF, zF, zF] rfl rfl (take_ofW HT_.out HW_.out (by kernel_rfl)) (fun _ _ _ h => h) (Or.inl ⟨by rfl, ?_⟩) hHeld ?_ ?_
        rotate_left
        ·rintro w' ⟨s0, s1, s2, s3, s4, s5, s6, s7, s8⟩
         go_simp
         with_reducible rfl
        rotate_left
        ·simp only [Act.put, q_a, q_b, q_c, i64_w, i32_w]
         rfl
        refine one_ (i := 7) (N := some 57) #[zT, zT, zT, zT, zT, zT, zT, zT, zF, zF] rfl rfl (one_of HT_.out (by kernel_rfl)) (by decide) (fun K hK => ?_)
        refine goes_ Try.func42 (by kernel_rfl) rfl #[.agg #[.int .u64 ul, .int .u64 um], .int .i64 a1, .agg #[.int .i64 a2_0, .int .i64 a2_1, .int .i64 a2_2, .int .i64 a2_3], .int .i64 uj] (by rfl) rfl rfl (by (try simp only [List.map_toArray, List.map_cons, List.map_nil]); first | done | (simp only [u1]; rfl) | rfl | (simp only [List.length_drop, List.length_take]; rfl)) ?_
        with_reducible refine (cookie_veil.calls uu ul um a1 a2_0 a2_1 a2_2 a2_3 uj ut _ A23.out).mono ?_
        rintro e w44 ⟨rfl, hb⟩
        refine ⟨_, rfl, ?_⟩
        have n0_ := q_v (q_m (g := ui) (o := .cells #[.int .i64 a0_0, .int .u64 a0_1, .int .u64 a0_2, .int .u64 a0_3, .int .u64 a0_4, .int .u64 a0_5, .int .u64 a0_6] 27 (0, 0)) (by (with_reducible repeat (first | refine q_p ?_ _ | refine q_r ?_ | refine q_q ?_ _)); exact uc.out) hb)
        have n1_ := q_v (q_m (g := ug) (o := .cells #[.int .i64 a2_0, .int .i64 a2_1, .int .i64 a2_2, .int .i64 a2_3] 32 (0, 0)) (by (with_reducible repeat (first | refine q_p ?_ _ | refine q_r ?_ | refine q_q ?_ _)); exact ub.out) hb)
        have n2_ := q_v (q_m (g := ue) (o := .cells #[.int .i64 uj, .int .i64 (Go.bits .and .i64 (uk) 63), .int .i64 (Go.bits .and .i64 a3 (wrap64 ((un) - 1)))] 69 (0, 0)) (by (with_reducible repeat (first | refine q_p ?_ _ | refine q_r ?_ | refine q_q ?_ _)); exact ua.out) hb)
        have n3_ := q_v (q_m (g := uf) (o := .cells #[.int .u64 ul, .int .u64 um] 25 (0, 0)) (by (with_reducible repeat (first | refine q_p ?_ _ | refine q_r ?_ | refine q_q ?_ _)); exact uh.out) hb)
        have n4_ := q_v (below_step (by repeat (first | (with_reducible first | exact HB.out | apply q_j | apply q_i | apply q_k | refine q_u ?_ uo.out | refine q_u ?_ uq.out | refine q_u ?_ ur.out | refine q_u ?_ uw.out) | exact HB.out)) hb)
        clear uc
        clear ub
        clear ua
        clear uh
        clear HB
        have uc := n0_
        have ub := n1_
        have ua := n2_
        have uh := n3_
        have HB := n4_
        clear n0_ n1_ n2_ n3_ n4_
        (try clear hb)
        (try clear hb2)
        (try clear hk)
        (try clear hi)
        refine hK.out _ _ ⟨(q_n ua.out 0).trans rfl, (q_n ua.out 1).trans rfl, (q_n ua.out 2).trans rfl, (q_n uh.out 0).trans rfl, (q_n uh.out 1).trans rfl, (q_n ub.out 0).trans rfl, (q_n ub.out 1).trans rfl, (q_n ub.out 2).trans rfl, (q_n ub.out 3).trans rfl⟩ (fun hHeld => ?_)
        clear hK K
        refine norm_ (a' := ?_) ?_ ?_
        rotate_left
        ·show Act.put _ (some 57) _ = _
         simp only [Act.put, q_a, q_b, q_c, i64_w, i32_w]
         rfl
        refine pure_ (i := 8) (N := some 58) (v := ?_) (a' := ?_) #[zT, zT, zT, zT, zT, zT, zT, zT, zT, zF] rfl rfl (any_of HT_.out (by kernel_rfl)) (fun _ _ _ h => h) (Or.inl ⟨by rfl, ?_⟩) ?_ ?_
        rotate_left
        ·intro w'
         go_simp
         with_reducible rfl
        rotate_left
        ·simp only [Act.put, q_a, q_b, q_c, i64_w, i32_w]
         rfl
        refine pure_ (i := 9) (N := some 14) (v := ?_) (a' := ?_) #[zT, zT, zT, zT, zT, zT, zT, zT, zT, zT] rfl rfl (any_of HT_.out (by kernel_rfl)) (fun _ _ _ h => h) (Or.inl ⟨by rfl, ?_⟩) ?_ ?_
        rotate_left
        ·intro w'
         go_simp
         with_reducible rfl
        rotate_left
        ·simp only [Act.put, q_a, q_b, q_c, i64_w, i32_w]
         rfl
        refine done_ (done_of HT_.out (by kernel_rfl)) ?_
        try go_wp2
        have n0_ := q_v (q_r uc.out)
        have n1_ := q_v (q_r ub.out)
        have n2_ := q_v (q_r ua.out)
        have n3_ := q_v (q_r uh.out)
        have n4_ := q_v (q_k HB.out)
        clear uc
        clear ub
        clear ua
        clear uh
        clear HB
        have uc := n0_
        have ub := n1_
        have ua := n2_
        have uh := n3_
        have HB := n4_
        clear n0_ n1_ n2_ n3_ n4_
        refine start_ (n := 14) (S := fun w' => w'.cell? ⟨ue, 0, none⟩ = some (.int .i64 uj) ∧ w'.cell? ⟨ue, 1, none⟩ = some (.int .i64 (Go.bits .and .i64 (uk) 63)) ∧ w'.cell? ⟨ue, 2, none⟩ = some (.int .i64 (Go.bits .and .i64 a3 (wrap64 ((un) - 1)))) ∧ w'.cell? ⟨uf, 0, none⟩ = some (.int .u64 ul) ∧ w'.cell? ⟨uf, 1, none⟩ = some (.int .u64 um) ∧ w'.cell? ⟨ug, 0, none⟩ = some (.int .i64 a2_0) ∧ w'.cell? ⟨ug, 1, none⟩ = some (.int .i64 a2_1) ∧ w'.cell? ⟨ug, 2, none⟩ = some (.int .i64 a2_2) ∧ w'.cell? ⟨ug, 3, none⟩ = some (.int .i64 a2_3)) (ds := []) #[zF, zF, zF, zF, zF, zF, zF, zF, zF, zF, zF, zF, zF, zF] (by kernel_rfl) rfl rfl ⟨(q_n ua.out 0).trans rfl, (q_n ua.out 1).trans rfl, (q_n ua.out 2).trans rfl, (q_n uh.out 0).trans rfl, (q_n uh.out 1).trans rfl, (q_n ub.out 0).trans rfl, (q_n ub.out 1).trans rfl, (q_n ub.out 2).trans rfl, (q_n ub.out 3).trans rfl⟩ (fun hHeld => ?_); refine with_tabW cookie_Read.tab9 cookie_Read.bits9 (fun HT_ HW_ => ?_)
        generalize w44.drew = w45 at uc ub ua uh HB hHeld ⊢
        refine pure_ (i := 0) (N := some 59) (v := ?_) (a' := ?_) #[zT, zF, zF, zF, zF, zF, zF, zF, zF, zF, zF, zF, zF, zF] rfl rfl (any_of HT_.out (by kernel_rfl)) (fun _ _ _ h => h) (Or.inl ⟨by rfl, ?_⟩) ?_ ?_
        rotate_left
        ·intro w'
         go_simp
         with_reducible rfl
        rotate_left
        ·simp only [Act.put, q_a, q_b, q_c, i64_w, i32_w]
         rfl
        refine pure_ (i := 2) (N := some 61) (v := ?_) (a' := ?_) #[zT, zF, zT, zF, zF, zF, zF, zF, zF, zF, zF, zF, zF, zF] rfl rfl (any_of HT_.out (by kernel_rfl)) (fun _ _ _ h => h) (Or.inl ⟨by rfl, ?_⟩) ?_ ?_
        rotate_left
        ·intro w'
         go_simp
         with_reducible rfl
        rotate_left
        ·simp only [Act.put, q_a, q_b, q_c, i64_w, i32_w]
         rfl
        refine pure_ (i := 5) (N := some 64) (v := ?_) (a' := ?_) #[zT, zF, zT, zF, zF, zT, zF, zF, zF, zF, zF, zF, zF, zF] rfl rfl (any_of HT_.out (by kernel_rfl)) (fun _ _ _ h => h) (Or.inl ⟨by rfl, ?_⟩) ?_ ?_
        rotate_left
        ·intro w'
         go_simp
         with_reducible rfl
        rotate_left
        ·simp only [Act.put, q_a, q_b, q_c, i64_w, i32_w]
         rfl
        refine pure_ (i := 7) (N := some 66) (v := ?_) (a' := ?_) #[zT, zF, zT, zF, zF, zT, zF, zT, zF, zF, zF, zF, zF, zF] rfl rfl (any_of HT_.out (by kernel_rfl)) (fun _ _ _ h => h) (Or.inl ⟨by rfl, ?_⟩) ?_ ?_
        rotate_left
        ·intro w'
         go_simp
         with_reducible rfl
        rotate_left
        ·simp only [Act.put, q_a, q_b, q_c, i64_w, i32_w]
         rfl
        refine pure_ (i := 8) (N := some 67) (v := ?_) (a' := ?_) #[zT, zF, zT, zF, zF, zT, zF, zT, zT, zF, zF, zF, zF, zF] rfl rfl (any_of HT_.out (by kernel_rfl)) (fun _ _ _ h => h) (Or.inl ⟨by rfl, ?_⟩) ?_ ?_
        rotate_left
        ·intro w'
         go_simp
         with_reducible rfl
        rotate_left
        ·simp only [Act.put, q_a, q_b, q_c, i64_w, i32_w]
         rfl
        refine take_ (i := 1) (N := some 60) (v := ?_) (a' := ?_) #[zT, zT, zT, zF, zF, zT, zF, zT, zT, zF, zF, zF, zF, zF] rfl rfl (take_ofW HT_.out HW_.out (by kernel_rfl)) (fun _ _ _ h => h) (Or.inl ⟨by rfl, ?_⟩) hHeld ?_ ?_
        rotate_left
        ·rintro w' ⟨s0, s1, s2, s3, s4, s5, s6, s7, s8⟩
         go_simp
         with_reducible rfl
        rotate_left
        ·simp only [Act.put, q_a, q_b, q_c, i64_w, i32_w]
         rfl
        refine take_ (i := 3) (N := some 62) (v := ?_) (a' := ?_) #[zT, zT, zT, zT, zF, zT, zF, zT, zT, zF, zF, zF, zF, zF] rfl rfl (take_ofW HT_.out HW_.out (by kernel_rfl)) (fun _ _ _ h => h) (Or.inl ⟨by rfl, ?_⟩) hHeld ?_ ?_
        rotate_left
        ·rintro w' ⟨s0, s1, s2, s3, s4, s5, s6, s7, s8⟩
         go_simp
         with_reducible rfl
        rotate_left
        ·simp only [Act.put, q_a, q_b, q_c, i64_w, i32_w]
         rfl
        refine take_ (i := 4) (N := some 63) (v := ?_) (a' := ?_) #[zT, zT, zT, zT, zT, zT, zF, zT, zT, zF, zF, zF, zF, zF] rfl rfl (take_ofW HT_.out HW_.out (by kernel_rfl)) (fun _ _ _ h => h) (Or.inl ⟨by rfl, ?_⟩) hHeld ?_ ?_
        rotate_left
        ·rintro w' ⟨s0, s1, s2, s3, s4, s5, s6, s7, s8⟩
         go_simp
         with_reducible rfl
        rotate_left
        ·simp only [Act.put, q_a, q_b, q_c, i64_w, i32_w]
         rfl
        refine take_ (i := 6) (N := some 65) (v := ?_) (a' := ?_) #[zT, zT, zT, zT, zT, zT, zT, zT, zT, zF, zF, zF, zF, zF] rfl rfl (take_ofW HT_.out HW_.out (by kernel_rfl)) (fun _ _ _ h => h) (Or.inl ⟨by rfl, ?_⟩) hHeld ?_ ?_
        rotate_left
        ·rintro w' ⟨s0, s1, s2, s3, s4, s5, s6, s7, s8⟩
         go_simp
         with_reducible rfl
        rotate_left
        ·simp only [Act.put, q_a, q_b, q_c, i64_w, i32_w]
         rfl
        refine take_ (i := 9) (N := some 68) (v := ?_) (a' := ?_) #[zT, zT, zT, zT, zT, zT, zT, zT, zT, zT, zF, zF, zF, zF] rfl rfl (take_ofW HT_.out HW_.out (by kernel_rfl)) (fun _ _ _ h => h) (Or.inl ⟨by rfl, ?_⟩) hHeld ?_ ?_
        rotate_left
        ·rintro w' ⟨s0, s1, s2, s3, s4, s5, s6, s7, s8⟩
         go_simp
         with_reducible rfl
        rotate_left
        ·simp only [Act.put, q_a, q_b, q_c, i64_w, i32_w]
         rfl
        refine join_ (σ := Nat) 1 #[zT, zT, zT, zT, zT, zT, zT, zT, zT, zT, zT, zT, zT, zF] (fun s_ => [(69, .int .i64 ux), (15, .pointer (some ⟨s_, 0, none⟩)), (70, .agg #[.int .i64 uj, .int .i64 (Go.bits .and .i64 (uk) 63), .int .i64 ux])]) (fun s_ w' => (w'.cell? ⟨ue, 0, none⟩ = some (.int .i64 uj) ∧ w'.cell? ⟨ue, 1, none⟩ = some (.int .i64 (Go.bits .and .i64 (uk) 63)) ∧ w'.cell? ⟨ue, 2, none⟩ = some (.int .i64 (Go.bits .and .i64 a3 (wrap64 ((un) - 1)))) ∧ w'.cell? ⟨uf, 0, none⟩ = some (.int .u64 ul) ∧ w'.cell? ⟨uf, 1, none⟩ = some (.int .u64 um) ∧ w'.cell? ⟨ug, 0, none⟩ = some (.int .i64 a2_0) ∧ w'.cell? ⟨ug, 1, none⟩ = some (.int .i64 a2_1) ∧ w'.cell? ⟨ug, 2, none⟩ = some (.int .i64 a2_2) ∧ w'.cell? ⟨ug, 3, none⟩ = some (.int .i64 a2_3)) ∧ (w'.heap[ui]? = some (.cells #[.int .i64 a0_0, .int .u64 a0_1, .int .u64 a0_2, .int .u64 a0_3, .int .u64 a0_4, .int .u64 a0_5, .int .u64 a0_6] 27 (0, 0))) ∧ (w'.heap[ug]? = some (.cells #[.int .i64 a2_0, .int .i64 a2_1, .int .i64 a2_2, .int .i64 a2_3] 32 (0, 0))) ∧ (w'.heap[ue]? = some (.cells #[.int .i64 uj, .int .i64 (Go.bits .and .i64 (uk) 63), .int .i64 (Go.bits .and .i64 a3 (wrap64 ((un) - 1)))] 69 (0, 0))) ∧ (w'.heap[uf]? = some (.cells #[.int .u64 ul, .int .u64 um] 25 (0, 0))) ∧ (w'.heap[s_]? = some (.cells #[.int .i64 0, .int .i64 0, .int .i64 0] 69 (0, 0))) ∧ (w.heap.size ≤ s_) ∧ (w.heap.size ≤ s_) ∧ (ui ≠ s_) ∧ (s_ ≠ ui) ∧ (ug ≠ s_) ∧ (s_ ≠ ug) ∧ (ue ≠ s_) ∧ (s_ ≠ ue) ∧ (uf ≠ s_) ∧ (s_ ≠ uf) ∧ (Below w.heap.size w w')) ?_ ?_
        rotate_left
        ·intro hCont
         refine two_ (i := 10) (j := 12) (Ni := some 69) (Nj := some 15) #[zT, zT, zT, zT, zT, zT, zT, zT, zT, zT, zT, zF, zF, zF] #[zT, zT, zT, zT, zT, zT, zT, zT, zT, zT, zF, zF, zT, zF] rfl rfl rfl rfl (two_of HT_.out (by kernel_rfl)) (by decide) (by decide) (fun K hK => ?_) (fun K hK => ?_)
         ·skip
          refine goes_ Try.func43 (by kernel_rfl) rfl #[.agg #[.int .u64 ul, .int .u64 um], .int .i64 a1, .agg #[.int .i64 a2_0, .int .i64 a2_1, .int .i64 a2_2, .int .i64 a2_3], .int .i64 (Go.bits .xor .i64 (Go.bits .and .i64 (uk) 63) ut), .int .i64 uj] (by rfl) rfl rfl (by (try simp only [List.map_toArray, List.map_cons, List.map_nil]); first | done | (simp only [u1, u7]; rfl) | rfl | (simp only [List.length_drop, List.length_take]; rfl)) ?_
          with_reducible refine (cookie_tag.calls uu ul um a1 a2_0 a2_1 a2_2 a2_3 (Go.bits .xor .i64 (Go.bits .and .i64 (uk) 63) ut) uj ux _ A24.out).mono ?_
          rintro e w46 ⟨rfl, hb⟩
          refine ⟨_, rfl, ?_⟩
          have n0_ := q_v (q_m (g := ui) (o := .cells #[.int .i64 a0_0, .int .u64 a0_1, .int .u64 a0_2, .int .u64 a0_3, .int .u64 a0_4, .int .u64 a0_5, .int .u64 a0_6] 27 (0, 0)) (by (with_reducible repeat (first | refine q_p ?_ _ | refine q_r ?_ | refine q_q ?_ _)); exact uc.out) hb)
          have n1_ := q_v (q_m (g := ug) (o := .cells #[.int .i64 a2_0, .int .i64 a2_1, .int .i64 a2_2, .int .i64 a2_3] 32 (0, 0)) (by (with_reducible repeat (first | refine q_p ?_ _ | refine q_r ?_ | refine q_q ?_ _)); exact ub.out) hb)
          have n2_ := q_v (q_m (g := ue) (o := .cells #[.int .i64 uj, .int .i64 (Go.bits .and .i64 (uk) 63), .int .i64 (Go.bits .and .i64 a3 (wrap64 ((un) - 1)))] 69 (0, 0)) (by (with_reducible repeat (first | refine q_p ?_ _ | refine q_r ?_ | refine q_q ?_ _)); exact ua.out) hb)
          have n3_ := q_v (q_m (g := uf) (o := .cells #[.int .u64 ul, .int .u64 um] 25 (0, 0)) (by (with_reducible repeat (first | refine q_p ?_ _ | refine q_r ?_ | refine q_q ?_ _)); exact uh.out) hb)
          have n4_ := q_v (below_step (by repeat (first | (with_reducible first | exact HB.out | apply q_j | apply q_i | apply q_k | refine q_u ?_ uo.out | refine q_u ?_ uq.out | refine q_u ?_ ur.out | refine q_u ?_ uw.out) | exact HB.out)) hb)
          clear uc
          clear ub
          clear ua
          clear uh
          clear HB
          have uc := n0_
          have ub := n1_
          have ua := n2_
          have uh := n3_
          have HB := n4_
          clear n0_ n1_ n2_ n3_ n4_
          (try clear hb)
          (try clear hb2)
          (try clear hk)
          (try clear hi)
          refine hK.out _ _ ⟨(q_n ua.out 0).trans rfl, (q_n ua.out 1).trans rfl, (q_n ua.out 2).trans rfl, (q_n uh.out 0).trans rfl, (q_n uh.out 1).trans rfl, (q_n ub.out 0).trans rfl, (q_n ub.out 1).trans rfl, (q_n ub.out 2).trans rfl, (q_n ub.out 3).trans rfl⟩ (fun hHeld => ?_)
          clear hK K
          refine norm_ (a' := ?_) ?_ ?_
          rotate_left
          ·show Act.put _ (some 69) _ = _
           simp only [Act.put, q_a, q_b, q_c, i64_w, i32_w]
           rfl
          refine pure_ (i := 11) (N := some 70) (v := ?_) (a' := ?_) #[zT, zT, zT, zT, zT, zT, zT, zT, zT, zT, zT, zT, zF, zF] rfl rfl (any_of HT_.out (by kernel_rfl)) (fun _ _ _ h => h) (Or.inl ⟨by rfl, ?_⟩) ?_ ?_
          rotate_left
          ·intro w'
           go_simp
           with_reducible rfl
          rotate_left
          ·simp only [Act.put, q_a, q_b, q_c, i64_w, i32_w]
           rfl
          refine one_ (i := 12) (N := some 15) #[zT, zT, zT, zT, zT, zT, zT, zT, zT, zT, zT, zT, zT, zF] rfl rfl (one_of HT_.out (by kernel_rfl)) (by decide) (fun K hK => ?_)
          refine box_step ?hg (N := 15) ?hd (cs := #[.int .i64 0, .int .i64 0, .int .i64 0]) (t := 69) ?hr ?_; (case hd => rfl); (case hg => rfl); (case hr => first | (go_simp; done) | (go_simp; rfl))
          intro ud hg w47 hbox hb
          have n0_ := q_v (q_m (g := ui) (o := .cells #[.int .i64 a0_0, .int .u64 a0_1, .int .u64 a0_2, .int .u64 a0_3, .int .u64 a0_4, .int .u64 a0_5, .int .u64 a0_6] 27 (0, 0)) (by (with_reducible repeat (first | refine q_p ?_ _ | refine q_r ?_ | refine q_q ?_ _)); exact uc.out) hb)
          have n1_ := q_v (q_m (g := ug) (o := .cells #[.int .i64 a2_0, .int .i64 a2_1, .int .i64 a2_2, .int .i64 a2_3] 32 (0, 0)) (by (with_reducible repeat (first | refine q_p ?_ _ | refine q_r ?_ | refine q_q ?_ _)); exact ub.out) hb)
          have n2_ := q_v (q_m (g := ue) (o := .cells #[.int .i64 uj, .int .i64 (Go.bits .and .i64 (uk) 63), .int .i64 (Go.bits .and .i64 a3 (wrap64 ((un) - 1)))] 69 (0, 0)) (by (with_reducible repeat (first | refine q_p ?_ _ | refine q_r ?_ | refine q_q ?_ _)); exact ua.out) hb)
          have n3_ := q_v (q_m (g := uf) (o := .cells #[.int .u64 ul, .int .u64 um] 25 (0, 0)) (by (with_reducible repeat (first | refine q_p ?_ _ | refine q_r ?_ | refine q_q ?_ _)); exact uh.out) hb)
          have n4_ := q_v (below_step (by repeat (first | (with_reducible first | exact HB.out | apply q_j | apply q_i | apply q_k | refine q_u ?_ uo.out | refine q_u ?_ uq.out | refine q_u ?_ ur.out | refine q_u ?_ uw.out) | exact HB.out)) hb)
          have n5_ := q_v (hbox)
          have n6_ := q_v ((by rw [hg]; exact (below_size (by repeat (first | (with_reducible first | exact HB.out | apply q_j | apply q_i | apply q_k | refine q_u ?_ uo.out | refine q_u ?_ uq.out | refine q_u ?_ ur.out | refine q_u ?_ uw.out) | exact HB.out))) : w.heap.size ≤ ud))
          have n7_ := q_v ((by rw [hg]; exact (below_size (by repeat (first | (with_reducible first | exact HB.out | apply q_j | apply q_i | apply q_k | refine q_u ?_ uo.out | refine q_u ?_ uq.out | refine q_u ?_ ur.out | refine q_u ?_ uw.out) | exact HB.out))) : w.heap.size ≤ ud))
          have n8_ := q_v ((by rw [hg]; exact Nat.ne_of_lt (blk_lt (g := ui) (o := .cells #[.int .i64 a0_0, .int .u64 a0_1, .int .u64 a0_2, .int .u64 a0_3, .int .u64 a0_4, .int .u64 a0_5, .int .u64 a0_6] 27 (0, 0)) (by (with_reducible repeat (first | refine q_p ?_ _ | refine q_r ?_ | refine q_q ?_ _)); exact uc.out)) : ui ≠ ud))
          have n9_ := q_v ((by rw [hg]; exact Nat.ne_of_gt (blk_lt (g := ui) (o := .cells #[.int .i64 a0_0, .int .u64 a0_1, .int .u64 a0_2, .int .u64 a0_3, .int .u64 a0_4, .int .u64 a0_5, .int .u64 a0_6] 27 (0, 0)) (by (with_reducible repeat (first | refine q_p ?_ _ | refine q_r ?_ | refine q_q ?_ _)); exact uc.out)) : ud ≠ ui))
          have n10_ := q_v ((by rw [hg]; exact Nat.ne_of_lt (blk_lt (g := ug) (o := .cells #[.int .i64 a2_0, .int .i64 a2_1, .int .i64 a2_2, .int .i64 a2_3] 32 (0, 0)) (by (with_reducible repeat (first | refine q_p ?_ _ | refine q_r ?_ | refine q_q ?_ _)); exact ub.out)) : ug ≠ ud))
          have n11_ := q_v ((by rw [hg]; exact Nat.ne_of_gt (blk_lt (g := ug) (o := .cells #[.int .i64 a2_0, .int .i64 a2_1, .int .i64 a2_2, .int .i64 a2_3] 32 (0, 0)) (by (with_reducible repeat (first | refine q_p ?_ _ | refine q_r ?_ | refine q_q ?_ _)); exact ub.out)) : ud ≠ ug))
          have n12_ := q_v ((by rw [hg]; exact Nat.ne_of_lt (blk_lt (g := ue) (o := .cells #[.int .i64 uj, .int .i64 (Go.bits .and .i64 (uk) 63), .int .i64 (Go.bits .and .i64 a3 (wrap64 ((un) - 1)))] 69 (0, 0)) (by (with_reducible repeat (first | refine q_p ?_ _ | refine q_r ?_ | refine q_q ?_ _)); exact ua.out)) : ue ≠ ud))
          have n13_ := q_v ((by rw [hg]; exact Nat.ne_of_gt (blk_lt (g := ue) (o := .cells #[.int .i64 uj, .int .i64 (Go.bits .and .i64 (uk) 63), .int .i64 (Go.bits .and .i64 a3 (wrap64 ((un) - 1)))] 69 (0, 0)) (by (with_reducible repeat (first | refine q_p ?_ _ | refine q_r ?_ | refine q_q ?_ _)); exact ua.out)) : ud ≠ ue))
          have n14_ := q_v ((by rw [hg]; exact Nat.ne_of_lt (blk_lt (g := uf) (o := .cells #[.int .u64 ul, .int .u64 um] 25 (0, 0)) (by (with_reducible repeat (first | refine q_p ?_ _ | refine q_r ?_ | refine q_q ?_ _)); exact uh.out)) : uf ≠ ud))
          have n15_ := q_v ((by rw [hg]; exact Nat.ne_of_gt (blk_lt (g := uf) (o := .cells #[.int .u64 ul, .int .u64 um] 25 (0, 0)) (by (with_reducible repeat (first | refine q_p ?_ _ | refine q_r ?_ | refine q_q ?_ _)); exact uh.out)) : ud ≠ uf))
          clear uc
          clear ub
          clear ua
          clear uh
          clear HB
          have uc := n0_
          have ub := n1_
          have ua := n2_
          have uh := n3_
          have HB := n4_
          have us := n5_
          have GW147 := n6_
          have u0 := n7_
          have NB137_147 := n8_
          have NB147_137 := n9_
          have NB138_147 := n10_
          have NB147_138 := n11_
          have NB140_147 := n12_
          have NB147_140 := n13_
          have NB144_147 := n14_
          have NB147_144 := n15_
          clear n0_ n1_ n2_ n3_ n4_ n5_ n6_ n7_ n8_ n9_ n10_ n11_ n12_ n13_ n14_ n15_
          clear hb hbox hg
          refine hK.out _ _ ⟨(q_n ua.out 0).trans rfl, (q_n ua.out 1).trans rfl, (q_n ua.out 2).trans rfl, (q_n uh.out 0).trans rfl, (q_n uh.out 1).trans rfl, (q_n ub.out 0).trans rfl, (q_n ub.out 1).trans rfl, (q_n ub.out 2).trans rfl, (q_n ub.out 3).trans rfl⟩ (fun hHeld => ?_)
          clear hK K
          refine norm_ (a' := ?_) ?_ ?_
          rotate_left
          ·show Act.put _ (some 15) _ = _
           simp only [Act.put, q_a, q_b, q_c, i64_w, i32_w]
           rfl
          exact norm_ (by simp only [putAll, Act.put, q_a, q_b, q_c]) (hCont (ud) _ ⟨hHeld, (by (with_reducible repeat (first | refine q_p ?_ _ | refine q_r ?_ | refine q_q ?_ _)); exact uc.out), (by (with_reducible repeat (first | refine q_p ?_ _ | refine q_r ?_ | refine q_q ?_ _)); exact ub.out), (by (with_reducible repeat (first | refine q_p ?_ _ | refine q_r ?_ | refine q_q ?_ _)); exact ua.out), (by (with_reducible repeat (first | refine q_p ?_ _ | refine q_r ?_ | refine q_q ?_ _)); exact uh.out), (by (with_reducible repeat (first | refine q_p ?_ _ | refine q_r ?_ | refine q_q ?_ _)); exact us.out), GW147.out, u0.out, NB137_147.out, NB147_137.out, NB138_147.out, NB147_138.out, NB140_147.out, NB147_140.out, NB144_147.out, NB147_144.out, (by repeat (first | (with_reducible first | exact HB.out | apply q_j | apply q_i | apply q_k | refine q_u ?_ uo.out | refine q_u ?_ uq.out | refine q_u ?_ ur.out | refine q_u ?_ uw.out | refine q_u ?_ u0.out) | exact HB.out))⟩)
         ·skip
          refine box_step ?hg (N := 15) ?hd (cs := #[.int .i64 0, .int .i64 0, .int .i64 0]) (t := 69) ?hr ?_; (case hd => rfl); (case hg => rfl); (case hr => first | (go_simp; done) | (go_simp; rfl))
          intro ud hg w46 hbox hb
          have n0_ := q_v (q_m (g := ui) (o := .cells #[.int .i64 a0_0, .int .u64 a0_1, .int .u64 a0_2, .int .u64 a0_3, .int .u64 a0_4, .int .u64 a0_5, .int .u64 a0_6] 27 (0, 0)) (by (with_reducible repeat (first | refine q_p ?_ _ | refine q_r ?_ | refine q_q ?_ _)); exact uc.out) hb)
          have n1_ := q_v (q_m (g := ug) (o := .cells #[.int .i64 a2_0, .int .i64 a2_1, .int .i64 a2_2, .int .i64 a2_3] 32 (0, 0)) (by (with_reducible repeat (first | refine q_p ?_ _ | refine q_r ?_ | refine q_q ?_ _)); exact ub.out) hb)
          have n2_ := q_v (q_m (g := ue) (o := .cells #[.int .i64 uj, .int .i64 (Go.bits .and .i64 (uk) 63), .int .i64 (Go.bits .and .i64 a3 (wrap64 ((un) - 1)))] 69 (0, 0)) (by (with_reducible repeat (first | refine q_p ?_ _ | refine q_r ?_ | refine q_q ?_ _)); exact ua.out) hb)
          have n3_ := q_v (q_m (g := uf) (o := .cells #[.int .u64 ul, .int .u64 um] 25 (0, 0)) (by (with_reducible repeat (first | refine q_p ?_ _ | refine q_r ?_ | refine q_q ?_ _)); exact uh.out) hb)
          have n4_ := q_v (below_step (by repeat (first | (with_reducible first | exact HB.out | apply q_j | apply q_i | apply q_k | refine q_u ?_ uo.out | refine q_u ?_ uq.out | refine q_u ?_ ur.out | refine q_u ?_ uw.out) | exact HB.out)) hb)
          have n5_ := q_v (hbox)
          have n6_ := q_v ((by rw [hg]; exact (below_size (by repeat (first | (with_reducible first | exact HB.out | apply q_j | apply q_i | apply q_k | refine q_u ?_ uo.out | refine q_u ?_ uq.out | refine q_u ?_ ur.out | refine q_u ?_ uw.out) | exact HB.out))) : w.heap.size ≤ ud))
          have n7_ := q_v ((by rw [hg]; exact (below_size (by repeat (first | (with_reducible first | exact HB.out | apply q_j | apply q_i | apply q_k | refine q_u ?_ uo.out | refine q_u ?_ uq.out | refine q_u ?_ ur.out | refine q_u ?_ uw.out) | exact HB.out))) : w.heap.size ≤ ud))
          have n8_ := q_v ((by rw [hg]; exact Nat.ne_of_lt (blk_lt (g := ui) (o := .cells #[.int .i64 a0_0, .int .u64 a0_1, .int .u64 a0_2, .int .u64 a0_3, .int .u64 a0_4, .int .u64 a0_5, .int .u64 a0_6] 27 (0, 0)) (by (with_reducible repeat (first | refine q_p ?_ _ | refine q_r ?_ | refine q_q ?_ _)); exact uc.out)) : ui ≠ ud))
          have n9_ := q_v ((by rw [hg]; exact Nat.ne_of_gt (blk_lt (g := ui) (o := .cells #[.int .i64 a0_0, .int .u64 a0_1, .int .u64 a0_2, .int .u64 a0_3, .int .u64 a0_4, .int .u64 a0_5, .int .u64 a0_6] 27 (0, 0)) (by (with_reducible repeat (first | refine q_p ?_ _ | refine q_r ?_ | refine q_q ?_ _)); exact uc.out)) : ud ≠ ui))
          have n10_ := q_v ((by rw [hg]; exact Nat.ne_of_lt (blk_lt (g := ug) (o := .cells #[.int .i64 a2_0, .int .i64 a2_1, .int .i64 a2_2, .int .i64 a2_3] 32 (0, 0)) (by (with_reducible repeat (first | refine q_p ?_ _ | refine q_r ?_ | refine q_q ?_ _)); exact ub.out)) : ug ≠ ud))
          have n11_ := q_v ((by rw [hg]; exact Nat.ne_of_gt (blk_lt (g := ug) (o := .cells #[.int .i64 a2_0, .int .i64 a2_1, .int .i64 a2_2, .int .i64 a2_3] 32 (0, 0)) (by (with_reducible repeat (first | refine q_p ?_ _ | refine q_r ?_ | refine q_q ?_ _)); exact ub.out)) : ud ≠ ug))
          have n12_ := q_v ((by rw [hg]; exact Nat.ne_of_lt (blk_lt (g := ue) (o := .cells #[.int .i64 uj, .int .i64 (Go.bits .and .i64 (uk) 63), .int .i64 (Go.bits .and .i64 a3 (wrap64 ((un) - 1)))] 69 (0, 0)) (by (with_reducible repeat (first | refine q_p ?_ _ | refine q_r ?_ | refine q_q ?_ _)); exact ua.out)) : ue ≠ ud))
          have n13_ := q_v ((by rw [hg]; exact Nat.ne_of_gt (blk_lt (g := ue) (o := .cells #[.int .i64 uj, .int .i64 (Go.bits .and .i64 (uk) 63), .int .i64 (Go.bits .and .i64 a3 (wrap64 ((un) - 1)))] 69 (0, 0)) (by (with_reducible repeat (first | refine q_p ?_ _ | refine q_r ?_ | refine q_q ?_ _)); exact ua.out)) : ud ≠ ue))
          have n14_ := q_v ((by rw [hg]; exact Nat.ne_of_lt (blk_lt (g := uf) (o := .cells #[.int .u64 ul, .int .u64 um] 25 (0, 0)) (by (with_reducible repeat (first | refine q_p ?_ _ | refine q_r ?_ | refine q_q ?_ _)); exact uh.out)) : uf ≠ ud))
          have n15_ := q_v ((by rw [hg]; exact Nat.ne_of_gt (blk_lt (g := uf) (o := .cells #[.int .u64 ul, .int .u64 um] 25 (0, 0)) (by (with_reducible repeat (first | refine q_p ?_ _ | refine q_r ?_ | refine q_q ?_ _)); exact uh.out)) : ud ≠ uf))
          clear uc
          clear ub
          clear ua
          clear uh
          clear HB
          have uc := n0_
          have ub := n1_
          have ua := n2_
          have uh := n3_
          have HB := n4_
          have us := n5_
          have GW147 := n6_
          have u0 := n7_
          have NB137_147 := n8_
          have NB147_137 := n9_
          have NB138_147 := n10_
          have NB147_138 := n11_
          have NB140_147 := n12_
          have NB147_140 := n13_
          have NB144_147 := n14_
          have NB147_144 := n15_
          clear n0_ n1_ n2_ n3_ n4_ n5_ n6_ n7_ n8_ n9_ n10_ n11_ n12_ n13_ n14_ n15_
          clear hb hbox hg
          refine hK.out _ _ ⟨(q_n ua.out 0).trans rfl, (q_n ua.out 1).trans rfl, (q_n ua.out 2).trans rfl, (q_n uh.out 0).trans rfl, (q_n uh.out 1).trans rfl, (q_n ub.out 0).trans rfl, (q_n ub.out 1).trans rfl, (q_n ub.out 2).trans rfl, (q_n ub.out 3).trans rfl⟩ (fun hHeld => ?_)
          clear hK K
          refine norm_ (a' := ?_) ?_ ?_
          rotate_left
          ·show Act.put _ (some 15) _ = _
           simp only [Act.put, q_a, q_b, q_c, i64_w, i32_w]
           rfl
          refine one_ (i := 10) (N := some 69) #[zT, zT, zT, zT, zT, zT, zT, zT, zT, zT, zT, zF, zT, zF] rfl rfl (one_of HT_.out (by kernel_rfl)) (by decide) (fun K hK => ?_)
          refine goes_ Try.func43 (by kernel_rfl) rfl #[.agg #[.int .u64 ul, .int .u64 um], .int .i64 a1, .agg #[.int .i64 a2_0, .int .i64 a2_1, .int .i64 a2_2, .int .i64 a2_3], .int .i64 (Go.bits .xor .i64 (Go.bits .and .i64 (uk) 63) ut), .int .i64 uj] (by rfl) rfl rfl (by (try simp only [List.map_toArray, List.map_cons, List.map_nil]); first | done | (simp only [u1, u7]; rfl) | rfl | (simp only [List.length_drop, List.length_take]; rfl)) ?_
          with_reducible refine (cookie_tag.calls uu ul um a1 a2_0 a2_1 a2_2 a2_3 (Go.bits .xor .i64 (Go.bits .and .i64 (uk) 63) ut) uj ux _ A24.out).mono ?_
          rintro e w47 ⟨rfl, hb⟩
          refine ⟨_, rfl, ?_⟩
          have n0_ := q_v (q_m (g := ui) (o := .cells #[.int .i64 a0_0, .int .u64 a0_1, .int .u64 a0_2, .int .u64 a0_3, .int .u64 a0_4, .int .u64 a0_5, .int .u64 a0_6] 27 (0, 0)) (by (with_reducible repeat (first | refine q_p ?_ _ | refine q_r ?_ | refine q_q ?_ _)); exact uc.out) hb)
          have n1_ := q_v (q_m (g := ug) (o := .cells #[.int .i64 a2_0, .int .i64 a2_1, .int .i64 a2_2, .int .i64 a2_3] 32 (0, 0)) (by (with_reducible repeat (first | refine q_p ?_ _ | refine q_r ?_ | refine q_q ?_ _)); exact ub.out) hb)
          have n2_ := q_v (q_m (g := ue) (o := .cells #[.int .i64 uj, .int .i64 (Go.bits .and .i64 (uk) 63), .int .i64 (Go.bits .and .i64 a3 (wrap64 ((un) - 1)))] 69 (0, 0)) (by (with_reducible repeat (first | refine q_p ?_ _ | refine q_r ?_ | refine q_q ?_ _)); exact ua.out) hb)
          have n3_ := q_v (q_m (g := uf) (o := .cells #[.int .u64 ul, .int .u64 um] 25 (0, 0)) (by (with_reducible repeat (first | refine q_p ?_ _ | refine q_r ?_ | refine q_q ?_ _)); exact uh.out) hb)
          have n4_ := q_v (q_m (g := ud) (o := .cells #[.int .i64 0, .int .i64 0, .int .i64 0] 69 (0, 0)) (by (with_reducible repeat (first | refine q_p ?_ _ | refine q_r ?_ | refine q_q ?_ _)); exact us.out) hb)
          have n5_ := q_v (below_step (by repeat (first | (with_reducible first | exact HB.out | apply q_j | apply q_i | apply q_k | refine q_u ?_ uo.out | refine q_u ?_ uq.out | refine q_u ?_ ur.out | refine q_u ?_ uw.out | refine q_u ?_ u0.out) | exact HB.out)) hb)
          clear uc
          clear ub
          clear ua
          clear uh
          clear us
          clear HB
          have uc := n0_
          have ub := n1_
          have ua := n2_
          have uh := n3_
          have us := n4_
          have HB := n5_
          clear n0_ n1_ n2_ n3_ n4_ n5_
          (try clear hb)
          (try clear hb2)
          (try clear hk)
          (try clear hi)
          refine hK.out _ _ ⟨(q_n ua.out 0).trans rfl, (q_n ua.out 1).trans rfl, (q_n ua.out 2).trans rfl, (q_n uh.out 0).trans rfl, (q_n uh.out 1).trans rfl, (q_n ub.out 0).trans rfl, (q_n ub.out 1).trans rfl, (q_n ub.out 2).trans rfl, (q_n ub.out 3).trans rfl⟩ (fun hHeld => ?_)
          clear hK K
          refine norm_ (a' := ?_) ?_ ?_
          rotate_left
          ·show Act.put _ (some 69) _ = _
           simp only [Act.put, q_a, q_b, q_c, i64_w, i32_w]
           rfl
          refine pure_ (i := 11) (N := some 70) (v := ?_) (a' := ?_) #[zT, zT, zT, zT, zT, zT, zT, zT, zT, zT, zT, zT, zT, zF] rfl rfl (any_of HT_.out (by kernel_rfl)) (fun _ _ _ h => h) (Or.inl ⟨by rfl, ?_⟩) ?_ ?_
          rotate_left
          ·intro w'
           go_simp
           with_reducible rfl
          rotate_left
          ·simp only [Act.put, q_a, q_b, q_c, i64_w, i32_w]
           rfl
          exact norm_ (by simp only [putAll, Act.put, q_a, q_b, q_c]) (hCont (ud) _ ⟨hHeld, (by (with_reducible repeat (first | refine q_p ?_ _ | refine q_r ?_ | refine q_q ?_ _)); exact uc.out), (by (with_reducible repeat (first | refine q_p ?_ _ | refine q_r ?_ | refine q_q ?_ _)); exact ub.out), (by (with_reducible repeat (first | refine q_p ?_ _ | refine q_r ?_ | refine q_q ?_ _)); exact ua.out), (by (with_reducible repeat (first | refine q_p ?_ _ | refine q_r ?_ | refine q_q ?_ _)); exact uh.out), (by (with_reducible repeat (first | refine q_p ?_ _ | refine q_r ?_ | refine q_q ?_ _)); exact us.out), GW147.out, u0.out, NB137_147.out, NB147_137.out, NB138_147.out, NB147_138.out, NB140_147.out, NB147_140.out, NB144_147.out, NB147_144.out, (by repeat (first | (with_reducible first | exact HB.out | apply q_j | apply q_i | apply q_k | refine q_u ?_ uo.out | refine q_u ?_ uq.out | refine q_u ?_ ur.out | refine q_u ?_ uw.out | refine q_u ?_ u0.out) | exact HB.out))⟩)
        rintro ud uy ⟨hS_, h0_, h1_, h2_, h3_, h4_, h5_, h6_, h7_, h8_, h9_, h10_, h11_, h12_, h13_, h14_, h15_⟩
        have n0_ : Aside0 (uy.heap[ui]? = some (.cells #[.int .i64 a0_0, .int .u64 a0_1, .int .u64 a0_2, .int .u64 a0_3, .int .u64 a0_4, .int .u64 a0_5, .int .u64 a0_6] 27 (0, 0))) := ⟨h0_⟩
        have n1_ : Aside0 (uy.heap[ug]? = some (.cells #[.int .i64 a2_0, .int .i64 a2_1, .int .i64 a2_2, .int .i64 a2_3] 32 (0, 0))) := ⟨h1_⟩
        have n2_ : Aside0 (uy.heap[ue]? = some (.cells #[.int .i64 uj, .int .i64 (Go.bits .and .i64 (uk) 63), .int .i64 (Go.bits .and .i64 a3 (wrap64 ((un) - 1)))] 69 (0, 0))) := ⟨h2_⟩
        have n3_ : Aside0 (uy.heap[uf]? = some (.cells #[.int .u64 ul, .int .u64 um] 25 (0, 0))) := ⟨h3_⟩
        have n4_ : Aside0 (uy.heap[ud]? = some (.cells #[.int .i64 0, .int .i64 0, .int .i64 0] 69 (0, 0))) := ⟨h4_⟩
        have n5_ : Aside0 (w.heap.size ≤ ud) := ⟨h5_⟩
        have n6_ : Aside0 (w.heap.size ≤ ud) := ⟨h6_⟩
        have n7_ : Aside0 (ui ≠ ud) := ⟨h7_⟩
        have n8_ : Aside0 (ud ≠ ui) := ⟨h8_⟩
        have n9_ : Aside0 (ug ≠ ud) := ⟨h9_⟩
        have n10_ : Aside0 (ud ≠ ug) := ⟨h10_⟩
        have n11_ : Aside0 (ue ≠ ud) := ⟨h11_⟩
        have n12_ : Aside0 (ud ≠ ue) := ⟨h12_⟩
        have n13_ : Aside0 (uf ≠ ud) := ⟨h13_⟩
        have n14_ : Aside0 (ud ≠ uf) := ⟨h14_⟩
        have n15_ : Aside0 (Below w.heap.size w uy) := ⟨h15_⟩
        clear uc
        clear ub
        clear ua
        clear uh
        clear HB
        clear h0_ h1_ h2_ h3_ h4_ h5_ h6_ h7_ h8_ h9_ h10_ h11_ h12_ h13_ h14_ h15_
        have uc := n0_
        have ub := n1_
        have ua := n2_
        have uh := n3_
        have us := n4_
        have GW147 := n5_
        have u0 := n6_
        have NB137_147 := n7_
        have NB147_137 := n8_
        have NB138_147 := n9_
        have NB147_138 := n10_
        have NB140_147 := n11_
        have NB147_140 := n12_
        have NB144_147 := n13_
        have NB147_144 := n14_
        have HB := n15_
        clear n0_ n1_ n2_ n3_ n4_ n5_ n6_ n7_ n8_ n9_ n10_ n11_ n12_ n13_ n14_ n15_
        have hHeld : uy.cell? ⟨ue, 0, none⟩ = some (.int .i64 uj) ∧ uy.cell? ⟨ue, 1, none⟩ = some (.int .i64 (Go.bits .and .i64 (uk) 63)) ∧ uy.cell? ⟨ue, 2, none⟩ = some (.int .i64 (Go.bits .and .i64 a3 (wrap64 ((un) - 1)))) ∧ uy.cell? ⟨uf, 0, none⟩ = some (.int .u64 ul) ∧ uy.cell? ⟨uf, 1, none⟩ = some (.int .u64 um) ∧ uy.cell? ⟨ug, 0, none⟩ = some (.int .i64 a2_0) ∧ uy.cell? ⟨ug, 1, none⟩ = some (.int .i64 a2_1) ∧ uy.cell? ⟨ug, 2, none⟩ = some (.int .i64 a2_2) ∧ uy.cell? ⟨ug, 3, none⟩ = some (.int .i64 a2_3) := hS_
        refine norm_ (a' := ?_) ?_ ?_
        rotate_left
        ·simp only [putAll, Act.put, q_a, q_b, q_c]
         rfl
        refine one_ (i := 13) (N := none) #[zT, zT, zT, zT, zT, zT, zT, zT, zT, zT, zT, zT, zT, zT] rfl rfl (one_of HT_.out (by kernel_rfl)) (by decide) (fun K hK => ?_)
        have hs49 : uy.cell? ⟨ud, 0, none⟩ = some (.int .i64 0) := (q_n us.out 0).trans rfl
        have hfs49 := q_o us.out 0
        have hns49_0 := NB137_147.out
        have hns49_1 := NB138_147.out
        have hns49_2 := NB140_147.out
        have hns49_3 := NB144_147.out
        have hms49_0 := NB147_137.out
        have hms49_1 := NB147_138.out
        have hms49_2 := NB147_140.out
        have hms49_3 := NB147_144.out
        have hs50 : uy.cell? ⟨ud, 1, none⟩ = some (.int .i64 0) := (q_n us.out 1).trans rfl
        have hfs50 := q_o us.out 1
        have hns50_0 := NB137_147.out
        have hns50_1 := NB138_147.out
        have hns50_2 := NB140_147.out
        have hns50_3 := NB144_147.out
        have hms50_0 := NB147_137.out
        have hms50_1 := NB147_138.out
        have hms50_2 := NB147_140.out
        have hms50_3 := NB147_144.out
        have hs51 : uy.cell? ⟨ud, 2, none⟩ = some (.int .i64 0) := (q_n us.out 2).trans rfl
        have hfs51 := q_o us.out 2
        have hns51_0 := NB137_147.out
        have hns51_1 := NB138_147.out
        have hns51_2 := NB140_147.out
        have hns51_3 := NB144_147.out
        have hms51_0 := NB147_137.out
        have hms51_1 := NB147_138.out
        have hms51_2 := NB147_140.out
        have hms51_3 := NB147_144.out
        refine skip_ (w1 := ?_) (by rfl) rfl ?_ ?_
        rotate_left
        ·go_simp
         rfl
        refine hK.out _ _ ⟨((cell_far (p := ⟨ud, _, none⟩) NB140_147.out _).trans (((cell_far (p := ⟨ud, _, none⟩) NB140_147.out _).trans (((cell_far (p := ⟨ud, _, none⟩) NB140_147.out _).trans (hHeld.1)))))), ((cell_far (p := ⟨ud, _, none⟩) NB140_147.out _).trans (((cell_far (p := ⟨ud, _, none⟩) NB140_147.out _).trans (((cell_far (p := ⟨ud, _, none⟩) NB140_147.out _).trans (hHeld.2.1)))))), ((cell_far (p := ⟨ud, _, none⟩) NB140_147.out _).trans (((cell_far (p := ⟨ud, _, none⟩) NB140_147.out _).trans (((cell_far (p := ⟨ud, _, none⟩) NB140_147.out _).trans (hHeld.2.2.1)))))), ((cell_far (p := ⟨ud, _, none⟩) NB144_147.out _).trans (((cell_far (p := ⟨ud, _, none⟩) NB144_147.out _).trans (((cell_far (p := ⟨ud, _, none⟩) NB144_147.out _).trans (hHeld.2.2.2.1)))))), ((cell_far (p := ⟨ud, _, none⟩) NB144_147.out _).trans (((cell_far (p := ⟨ud, _, none⟩) NB144_147.out _).trans (((cell_far (p := ⟨ud, _, none⟩) NB144_147.out _).trans (hHeld.2.2.2.2.1)))))), ((cell_far (p := ⟨ud, _, none⟩) NB138_147.out _).trans (((cell_far (p := ⟨ud, _, none⟩) NB138_147.out _).trans (((cell_far (p := ⟨ud, _, none⟩) NB138_147.out _).trans (hHeld.2.2.2.2.2.1)))))), ((cell_far (p := ⟨ud, _, none⟩) NB138_147.out _).trans (((cell_far (p := ⟨ud, _, none⟩) NB138_147.out _).trans (((cell_far (p := ⟨ud, _, none⟩) NB138_147.out _).trans (hHeld.2.2.2.2.2.2.1)))))), ((cell_far (p := ⟨ud, _, none⟩) NB138_147.out _).trans (((cell_far (p := ⟨ud, _, none⟩) NB138_147.out _).trans (((cell_far (p := ⟨ud, _, none⟩) NB138_147.out _).trans (hHeld.2.2.2.2.2.2.2.1)))))), ((cell_far (p := ⟨ud, _, none⟩) NB138_147.out _).trans (((cell_far (p := ⟨ud, _, none⟩) NB138_147.out _).trans (((cell_far (p := ⟨ud, _, none⟩) NB138_147.out _).trans (hHeld.2.2.2.2.2.2.2.2))))))⟩ (fun hHeld => ?_)
        clear hK K
        refine done_ (done_of HT_.out (by kernel_rfl)) ?_
        have hnb52 := NB147_137.out
        have hnc52 := NB137_147.out
        have hnb53 := NB147_138.out
        have hnc53 := NB138_147.out
        have hnb54 := NB147_140.out
        have hnc54 := NB140_147.out
        have hnb55 := NB147_144.out
        have hnc55 := NB144_147.out
        have hcz56_0 : uy.cell? ⟨ud, 0, none⟩ = some (.int .i64 0) := (q_n us.out 0).trans rfl
        have hcz56_1 : uy.cell? ⟨ud, 1, none⟩ = some (.int .i64 0) := (q_n us.out 1).trans rfl
        have hcz56_2 : uy.cell? ⟨ud, 2, none⟩ = some (.int .i64 0) := (q_n us.out 2).trans rfl
        have hfz56_0 := q_o us.out 0
        have hfz56_1 := q_o us.out 1
        have hfz56_2 := q_o us.out 2
        have hcz57_0 : uy.cell? ⟨ue, 0, none⟩ = some (.int .i64 uj) := (q_n ua.out 0).trans rfl
        have hcz57_1 : uy.cell? ⟨ue, 1, none⟩ = some (.int .i64 (Go.bits .and .i64 (uk) 63)) := (q_n ua.out 1).trans rfl
        have hcz57_2 : uy.cell? ⟨ue, 2, none⟩ = some (.int .i64 (Go.bits .and .i64 a3 (wrap64 ((un) - 1)))) := (q_n ua.out 2).trans rfl
        have hfz57_0 := q_o ua.out 0
        have hfz57_1 := q_o ua.out 1
        have hfz57_2 := q_o ua.out 2
        try go_wp2
        go_ret2
        exact ⟨by first | rfl | (simp [errW_none, errW_some] <;> rfl) | (simp only [← vb, ← u1, ← u7, ← u9]; first | rfl | (simp [errW_none, errW_some] <;> rfl)) | (simp [*, errW_none, errW_some] <;> rfl), by repeat (first | (with_reducible first | exact HB.out | apply q_j | apply q_i | apply q_k | refine q_u ?_ uo.out | refine q_u ?_ uq.out | refine q_u ?_ ur.out | refine q_u ?_ uw.out | refine q_u ?_ u0.out) | exact HB.out)⟩
       ·rw [if_neg c25] at H
        have c25b0 : (!(ux == (Go.bits .and .i64 a3 (wrap64 ((un) - 1))))) = false := by simpa using c25
        clear c25
        simp only [Option.some.injEq, Prod.mk.injEq] at H
        obtain ⟨rfl, rfl⟩ := H
        try go_wp2
        have n0_ := q_v (q_r uc.out)
        have n1_ := q_v (q_r ub.out)
        have n2_ := q_v (q_k HB.out)
        clear uc
        clear ub
        clear HB
        have uc := n0_
        have ub := n1_
        have HB := n2_
        clear n0_ n1_ n2_
        refine start_ (n := 16) (S := fun w' => True) (ds := []) #[zF, zF, zF, zF, zF, zF, zF, zF, zF, zF, zF, zF, zF, zF, zF, zF] (by kernel_rfl) rfl rfl trivial (fun hHeld => ?_); refine with_tabW cookie_Read.tab4 cookie_Read.bits4 (fun HT_ HW_ => ?_)
        generalize wc.drew = w58 at uc ub HB hHeld ⊢
        refine pure_ (i := 0) (N := some 27) (v := ?_) (a' := ?_) #[zT, zF, zF, zF, zF, zF, zF, zF, zF, zF, zF, zF, zF, zF, zF, zF] rfl rfl (any_of HT_.out (by kernel_rfl)) (fun _ _ _ h => h) (Or.inl ⟨by rfl, ?_⟩) ?_ ?_
        rotate_left
        ·intro w'
         go_simp
         with_reducible rfl
        rotate_left
        ·simp only [Act.put, q_a, q_b, q_c, i64_w, i32_w]
         rfl
        refine pure_ (i := 1) (N := some 28) (v := ?_) (a' := ?_) #[zT, zT, zF, zF, zF, zF, zF, zF, zF, zF, zF, zF, zF, zF, zF, zF] rfl rfl (any_of HT_.out (by kernel_rfl)) (fun _ _ _ h => h) (Or.inl ⟨by rfl, ?_⟩) ?_ ?_
        rotate_left
        ·intro w'
         go_simp
         with_reducible rfl
        rotate_left
        ·simp only [Act.put, q_a, q_b, q_c, i64_w, i32_w]
         rfl
        refine pure_ (i := 2) (N := some 29) (v := ?_) (a' := ?_) #[zT, zT, zT, zF, zF, zF, zF, zF, zF, zF, zF, zF, zF, zF, zF, zF] rfl rfl (any_of HT_.out (by kernel_rfl)) (fun _ _ _ h => h) (Or.inl ⟨by rfl, ?_⟩) ?_ ?_
        rotate_left
        ·intro w'
         go_simp
         with_reducible rfl
        rotate_left
        ·simp only [Act.put, q_a, q_b, q_c, i64_w, i32_w]
         rfl
        refine pure_ (i := 3) (N := some 30) (v := ?_) (a' := ?_) #[zT, zT, zT, zT, zF, zF, zF, zF, zF, zF, zF, zF, zF, zF, zF, zF] rfl rfl (any_of HT_.out (by kernel_rfl)) (fun _ _ _ h => h) (Or.inl ⟨by rfl, ?_⟩) ?_ ?_
        rotate_left
        ·intro w'
         go_simp
         with_reducible rfl
        rotate_left
        ·simp only [Act.put, q_a, q_b, q_c, i64_w, i32_w]
         rfl
        refine pure_ (i := 4) (N := some 31) (v := ?_) (a' := ?_) #[zT, zT, zT, zT, zT, zF, zF, zF, zF, zF, zF, zF, zF, zF, zF, zF] rfl rfl (any_of HT_.out (by kernel_rfl)) (fun _ _ _ h => h) (Or.inl ⟨by rfl, ?_⟩) ?_ ?_
        rotate_left
        ·intro w'
         go_simp
         with_reducible rfl
        rotate_left
        ·simp only [Act.put, q_a, q_b, q_c, i64_w, i32_w]
         rfl
        refine pure_ (i := 5) (N := some 32) (v := ?_) (a' := ?_) #[zT, zT, zT, zT, zT, zT, zF, zF, zF, zF, zF, zF, zF, zF, zF, zF] rfl rfl (any_of HT_.out (by kernel_rfl)) (fun _ _ _ h => h) (Or.inl ⟨by rfl, ?_⟩) ?_ ?_
        rotate_left
        ·intro w'
         go_simp
         with_reducible rfl
        rotate_left
        ·simp only [Act.put, q_a, q_b, q_c, i64_w, i32_w]
         rfl
        refine pure_ (i := 6) (N := some 33) (v := ?_) (a' := ?_) #[zT, zT, zT, zT, zT, zT, zT, zF, zF, zF, zF, zF, zF, zF, zF, zF] rfl rfl (any_of HT_.out (by kernel_rfl)) (fun _ _ _ h => h) (Or.inl ⟨by rfl, ?_⟩) ?_ ?_
        rotate_left
        ·intro w'
         go_simp
         with_reducible rfl
        rotate_left
        ·simp only [Act.put, q_a, q_b, q_c, i64_w, i32_w]
         rfl
        refine pure_ (i := 7) (N := some 34) (v := ?_) (a' := ?_) #[zT, zT, zT, zT, zT, zT, zT, zT, zF, zF, zF, zF, zF, zF, zF, zF] rfl rfl (any_of HT_.out (by kernel_rfl)) (fun _ _ _ h => h) (Or.inl ⟨by rfl, ?_⟩) ?_ ?_
        rotate_left
        ·intro w'
         go_simp
         with_reducible rfl
        rotate_left
        ·simp only [Act.put, q_a, q_b, q_c, i64_w, i32_w]
         rfl
        refine pure_ (i := 8) (N := some 35) (v := ?_) (a' := ?_) #[zT, zT, zT, zT, zT, zT, zT, zT, zT, zF, zF, zF, zF, zF, zF, zF] rfl rfl (any_of HT_.out (by kernel_rfl)) (fun _ _ _ h => h) (Or.inl ⟨by rfl, ?_⟩) ?_ ?_
        rotate_left
        ·intro w'
         go_simp
         with_reducible rfl
        rotate_left
        ·simp only [Act.put, q_a, q_b, q_c, i64_w, i32_w]
         rfl
        refine pure_ (i := 9) (N := some 36) (v := ?_) (a' := ?_) #[zT, zT, zT, zT, zT, zT, zT, zT, zT, zT, zF, zF, zF, zF, zF, zF] rfl rfl (any_of HT_.out (by kernel_rfl)) (fun _ _ _ h => h) (Or.inl ⟨by rfl, ?_⟩) ?_ ?_
        rotate_left
        ·intro w'
         go_simp
         with_reducible rfl
        rotate_left
        ·simp only [Act.put, q_a, q_b, q_c, i64_w, i32_w]
         rfl
        refine pure_ (i := 10) (N := some 37) (v := ?_) (a' := ?_) #[zT, zT, zT, zT, zT, zT, zT, zT, zT, zT, zT, zF, zF, zF, zF, zF] rfl rfl (any_of HT_.out (by kernel_rfl)) (fun _ _ _ h => h) (Or.inl ⟨by rfl, ?_⟩) ?_ ?_
        rotate_left
        ·intro w'
         go_simp
         with_reducible rfl
        rotate_left
        ·simp only [Act.put, q_a, q_b, q_c, i64_w, i32_w]
         rfl
        refine pure_ (i := 11) (N := some 38) (v := ?_) (a' := ?_) #[zT, zT, zT, zT, zT, zT, zT, zT, zT, zT, zT, zT, zF, zF, zF, zF] rfl rfl (any_of HT_.out (by kernel_rfl)) (fun _ _ _ h => h) (Or.inl ⟨by rfl, ?_⟩) ?_ ?_
        rotate_left
        ·intro w'
         go_simp
         with_reducible rfl
        rotate_left
        ·simp only [Act.put, q_a, q_b, q_c, i64_w, i32_w]
         rfl
        refine pure_ (i := 12) (N := some 39) (v := ?_) (a' := ?_) #[zT, zT, zT, zT, zT, zT, zT, zT, zT, zT, zT, zT, zT, zF, zF, zF] rfl rfl (any_of HT_.out (by kernel_rfl)) (fun _ _ _ h => h) (Or.inl ⟨by rfl, ?_⟩) ?_ ?_
        rotate_left
        ·intro w'
         go_simp
         with_reducible rfl
        rotate_left
        ·simp only [Act.put, q_a, q_b, q_c, i64_w, i32_w]
         rfl
        refine pure_ (i := 13) (N := some 40) (v := ?_) (a' := ?_) #[zT, zT, zT, zT, zT, zT, zT, zT, zT, zT, zT, zT, zT, zT, zF, zF] rfl rfl (any_of HT_.out (by kernel_rfl)) (fun _ _ _ h => h) (Or.inl ⟨by rfl, ?_⟩) ?_ ?_
        rotate_left
        ·intro w'
         go_simp
         with_reducible rfl
        rotate_left
        ·simp only [Act.put, q_a, q_b, q_c, i64_w, i32_w]
         rfl
        refine one_ (i := 14) (N := some 11) #[zT, zT, zT, zT, zT, zT, zT, zT, zT, zT, zT, zT, zT, zT, zT, zF] rfl rfl (one_of HT_.out (by kernel_rfl)) (by decide) (fun K hK => ?_)
        refine box_step ?hg (N := 11) ?hd (cs := #[.int .i64 0, .int .i64 0, .int .i64 0]) (t := 69) ?hr ?_; (case hd => rfl); (case hg => rfl); (case hr => first | (go_simp; done) | (go_simp; rfl))
        intro ue hg u4 hbox hb
        have n0_ := q_v (q_m (g := ui) (o := .cells #[.int .i64 a0_0, .int .u64 a0_1, .int .u64 a0_2, .int .u64 a0_3, .int .u64 a0_4, .int .u64 a0_5, .int .u64 a0_6] 27 (0, 0)) (by (with_reducible repeat (first | refine q_p ?_ _ | refine q_r ?_ | refine q_q ?_ _)); exact uc.out) hb)
        have n1_ := q_v (q_m (g := ug) (o := .cells #[.int .i64 a2_0, .int .i64 a2_1, .int .i64 a2_2, .int .i64 a2_3] 32 (0, 0)) (by (with_reducible repeat (first | refine q_p ?_ _ | refine q_r ?_ | refine q_q ?_ _)); exact ub.out) hb)
        have n2_ := q_v (below_step (by repeat (first | (with_reducible first | exact HB.out | apply q_j | apply q_i | apply q_k | refine q_u ?_ uo.out | refine q_u ?_ uq.out) | exact HB.out)) hb)
        have n3_ := q_v (hbox)
        have n4_ := q_v ((by rw [hg]; exact (below_size (by repeat (first | (with_reducible first | exact HB.out | apply q_j | apply q_i | apply q_k | refine q_u ?_ uo.out | refine q_u ?_ uq.out) | exact HB.out))) : w.heap.size ≤ ue))
        have n5_ := q_v ((by rw [hg]; exact (below_size (by repeat (first | (with_reducible first | exact HB.out | apply q_j | apply q_i | apply q_k | refine q_u ?_ uo.out | refine q_u ?_ uq.out) | exact HB.out))) : w.heap.size ≤ ue))
        have n6_ := q_v ((by rw [hg]; exact Nat.ne_of_lt (blk_lt (g := ui) (o := .cells #[.int .i64 a0_0, .int .u64 a0_1, .int .u64 a0_2, .int .u64 a0_3, .int .u64 a0_4, .int .u64 a0_5, .int .u64 a0_6] 27 (0, 0)) (by (with_reducible repeat (first | refine q_p ?_ _ | refine q_r ?_ | refine q_q ?_ _)); exact uc.out)) : ui ≠ ue))
        have n7_ := q_v ((by rw [hg]; exact Nat.ne_of_gt (blk_lt (g := ui) (o := .cells #[.int .i64 a0_0, .int .u64 a0_1, .int .u64 a0_2, .int .u64 a0_3, .int .u64 a0_4, .int .u64 a0_5, .int .u64 a0_6] 27 (0, 0)) (by (with_reducible repeat (first | refine q_p ?_ _ | refine q_r ?_ | refine q_q ?_ _)); exact uc.out)) : ue ≠ ui))
        have n8_ := q_v ((by rw [hg]; exact Nat.ne_of_lt (blk_lt (g := ug) (o := .cells #[.int .i64 a2_0, .int .i64 a2_1, .int .i64 a2_2, .int .i64 a2_3] 32 (0, 0)) (by (with_reducible repeat (first | refine q_p ?_ _ | refine q_r ?_ | refine q_q ?_ _)); exact ub.out)) : ug ≠ ue))
        have n9_ := q_v ((by rw [hg]; exact Nat.ne_of_gt (blk_lt (g := ug) (o := .cells #[.int .i64 a2_0, .int .i64 a2_1, .int .i64 a2_2, .int .i64 a2_3] 32 (0, 0)) (by (with_reducible repeat (first | refine q_p ?_ _ | refine q_r ?_ | refine q_q ?_ _)); exact ub.out)) : ue ≠ ug))
        clear uc
        clear ub
        clear HB
        have uc := n0_
        have ub := n1_
        have HB := n2_
        have ua := n3_
        have GW140 := n4_
        have ur := n5_
        have NB137_140 := n6_
        have NB140_137 := n7_
        have NB138_140 := n8_
        have NB140_138 := n9_
        clear n0_ n1_ n2_ n3_ n4_ n5_ n6_ n7_ n8_ n9_
        clear hb hbox hg
        refine hK.out _ _ trivial (fun hHeld => ?_)
        clear hK K
        refine norm_ (a' := ?_) ?_ ?_
        rotate_left
        ·show Act.put _ (some 11) _ = _
         simp only [Act.put, q_a, q_b, q_c, i64_w, i32_w]
         rfl
        refine one_ (i := 15) (N := none) #[zT, zT, zT, zT, zT, zT, zT, zT, zT, zT, zT, zT, zT, zT, zT, zT] rfl rfl (one_of HT_.out (by kernel_rfl)) (by decide) (fun K hK => ?_)
        have hs60 : u4.cell? ⟨ue, 0, none⟩ = some (.int .i64 0) := (q_n ua.out 0).trans rfl
        have hfs60 := q_o ua.out 0
        have hns60_0 := NB137_140.out
        have hns60_1 := NB138_140.out
        have hms60_0 := NB140_137.out
        have hms60_1 := NB140_138.out
        have hs61 : u4.cell? ⟨ue, 1, none⟩ = some (.int .i64 0) := (q_n ua.out 1).trans rfl
        have hfs61 := q_o ua.out 1
        have hns61_0 := NB137_140.out
        have hns61_1 := NB138_140.out
        have hms61_0 := NB140_137.out
        have hms61_1 := NB140_138.out
        have hs62 : u4.cell? ⟨ue, 2, none⟩ = some (.int .i64 0) := (q_n ua.out 2).trans rfl
        have hfs62 := q_o ua.out 2
        have hns62_0 := NB137_140.out
        have hns62_1 := NB138_140.out
        have hms62_0 := NB140_137.out
        have hms62_1 := NB140_138.out
        refine skip_ (w1 := ?_) (by rfl) rfl ?_ ?_
        rotate_left
        ·go_simp
         rfl
        refine hK.out _ _ trivial (fun hHeld => ?_)
        clear hK K
        refine done_ (done_of HT_.out (by kernel_rfl)) ?_
        have hnb63 := NB137_138.out
        have hnc63 := NB138_137.out
        have hnb64 := NB137_140.out
        have hnc64 := NB140_137.out
        have hcz65_0 : u4.cell? ⟨ui, 0, none⟩ = some (.int .i64 a0_0) := (q_n uc.out 0).trans rfl
        have hcz65_1 : u4.cell? ⟨ui, 1, none⟩ = some (.int .u64 a0_1) := (q_n uc.out 1).trans rfl
        have hcz65_2 : u4.cell? ⟨ui, 2, none⟩ = some (.int .u64 a0_2) := (q_n uc.out 2).trans rfl
        have hcz65_3 : u4.cell? ⟨ui, 3, none⟩ = some (.int .u64 a0_3) := (q_n uc.out 3).trans rfl
        have hcz65_4 : u4.cell? ⟨ui, 4, none⟩ = some (.int .u64 a0_4) := (q_n uc.out 4).trans rfl
        have hcz65_5 : u4.cell? ⟨ui, 5, none⟩ = some (.int .u64 a0_5) := (q_n uc.out 5).trans rfl
        have hcz65_6 : u4.cell? ⟨ui, 6, none⟩ = some (.int .u64 a0_6) := (q_n uc.out 6).trans rfl
        have hfz65_0 := q_o uc.out 0
        have hfz65_1 := q_o uc.out 1
        have hfz65_2 := q_o uc.out 2
        have hfz65_3 := q_o uc.out 3
        have hfz65_4 := q_o uc.out 4
        have hfz65_5 := q_o uc.out 5
        have hfz65_6 := q_o uc.out 6
        have hnb66 := NB140_138.out
        have hnc66 := NB138_140.out
        have hcz67_0 : u4.cell? ⟨ue, 0, none⟩ = some (.int .i64 0) := (q_n ua.out 0).trans rfl
        have hcz67_1 : u4.cell? ⟨ue, 1, none⟩ = some (.int .i64 0) := (q_n ua.out 1).trans rfl
        have hcz67_2 : u4.cell? ⟨ue, 2, none⟩ = some (.int .i64 0) := (q_n ua.out 2).trans rfl
        have hfz67_0 := q_o ua.out 0
        have hfz67_1 := q_o ua.out 1
        have hfz67_2 := q_o ua.out 2
        try go_wp2_with (first | ((with_reducible refine gate_callee (f := 29) rfl ?_); refine goesL_ (some 45) rfl rfl Try.func29 (by kernel_rfl) rfl #[.agg #[.int .i64 a0_0, .int .u64 a0_1, .int .u64 a0_2, .int .u64 a0_3, .int .u64 a0_4, .int .u64 a0_5, .int .u64 a0_6], .int .i64 uj] rfl (by (try simp only [List.map_toArray, List.map_cons, List.map_nil]); first | done | (simp only [u1]; rfl) | rfl | (simp only [List.length_drop, List.length_take]; rfl)) ?_; (with_reducible refine (cookie_Key.calls uu a0_0 a0_1 a0_2 a0_3 a0_4 a0_5 a0_6 uj ul um true _ A21.out).mono ?_); rintro e w68 ⟨rfl, hb⟩; refine ⟨_, rfl, ?_⟩; have n0_ := q_v (q_m (g := ui) (o := .cells #[.int .i64 a0_0, .int .u64 a0_1, .int .u64 a0_2, .int .u64 a0_3, .int .u64 a0_4, .int .u64 a0_5, .int .u64 a0_6] 27 (0, 0)) (by (with_reducible repeat (first | refine q_p ?_ _ | refine q_r ?_ | refine q_q ?_ _)); refine blk_far ?_ NB137_140.out _; (with_reducible repeat (first | refine q_p ?_ _ | refine q_r ?_ | refine q_q ?_ _)); refine blk_far ?_ NB137_140.out _; (with_reducible repeat (first | refine q_p ?_ _ | refine q_r ?_ | refine q_q ?_ _)); refine blk_far ?_ NB137_140.out _; (with_reducible repeat (first | refine q_p ?_ _ | refine q_r ?_ | refine q_q ?_ _)); exact uc.out) hb); have n1_ := q_v (q_m (g := ug) (o := .cells #[.int .i64 a2_0, .int .i64 a2_1, .int .i64 a2_2, .int .i64 a2_3] 32 (0, 0)) (by (with_reducible repeat (first | refine q_p ?_ _ | refine q_r ?_ | refine q_q ?_ _)); refine blk_far ?_ NB138_140.out _; (with_reducible repeat (first | refine q_p ?_ _ | refine q_r ?_ | refine q_q ?_ _)); refine blk_far ?_ NB138_140.out _; (with_reducible repeat (first | refine q_p ?_ _ | refine q_r ?_ | refine q_q ?_ _)); refine blk_far ?_ NB138_140.out _; (with_reducible repeat (first | refine q_p ?_ _ | refine q_r ?_ | refine q_q ?_ _)); exact ub.out) hb); have n2_ := q_v (q_m (g := ue) (o := .cells #[.int .i64 uj, .int .i64 (Go.bits .and .i64 (uk) 63), .int .i64 (Go.bits .and .i64 a3 (wrap64 ((un) - 1)))] 69 (0, 0)) (by (with_reducible repeat (first | refine q_p ?_ _ | refine q_r ?_ | refine q_q ?_ _)); refine blk_put (cs := #[.int .i64 uj, .int .i64 (Go.bits .and .i64 (uk) 63), .int .i64 0]) ?_ 2 _ rfl; (with_reducible repeat (first | refine q_p ?_ _ | refine q_r ?_ | refine q_q ?_ _)); refine blk_put (cs := #[.int .i64 uj, .int .i64 0, .int .i64 0]) ?_ 1 _ rfl; (with_reducible repeat (first | refine q_p ?_ _ | refine q_r ?_ | refine q_q ?_ _)); refine blk_put (cs := #[.int .i64 0, .int .i64 0, .int .i64 0]) ?_ 0 _ rfl; (with_reducible repeat (first | refine q_p ?_ _ | refine q_r ?_ | refine q_q ?_ _)); exact ua.out) hb); have n3_ := q_v (below_step (by repeat (first | (with_reducible first | exact HB.out | apply q_j | apply q_i | apply q_k | refine q_u ?_ uo.out | refine q_u ?_ uq.out | refine q_u ?_ ur.out) | exact HB.out)) hb); clear uc; clear ub; clear ua; clear HB; have uc := n0_; have ub := n1_; have ua := n2_; have HB := n3_; clear n0_ n1_ n2_ n3_; (try clear hb); (try clear hb2); (try clear hk); (try clear hi)) | ((with_reducible refine gate_dst (N := 12) rfl ?_); refine box_event ?hg (N := 12) ?hd (cs := #[.int .u64 0, .int .u64 0]) (t := 25) ?hr ?_; (case hd => rfl); (case hg => rfl); (case hr => first | (go_simp; done) | (go_simp; rfl)); intro uf hg w69 hbox hb; have n0_ := q_v (q_m (g := ui) (o := .cells #[.int .i64 a0_0, .int .u64 a0_1, .int .u64 a0_2, .int .u64 a0_3, .int .u64 a0_4, .int .u64 a0_5, .int .u64 a0_6] 27 (0, 0)) (by (with_reducible repeat (first | refine q_p ?_ _ | refine q_r ?_ | refine q_q ?_ _)); exact uc.out) hb); have n1_ := q_v (q_m (g := ug) (o := .cells #[.int .i64 a2_0, .int .i64 a2_1, .int .i64 a2_2, .int .i64 a2_3] 32 (0, 0)) (by (with_reducible repeat (first | refine q_p ?_ _ | refine q_r ?_ | refine q_q ?_ _)); exact ub.out) hb); have n2_ := q_v (q_m (g := ue) (o := .cells #[.int .i64 uj, .int .i64 (Go.bits .and .i64 (uk) 63), .int .i64 (Go.bits .and .i64 a3 (wrap64 ((un) - 1)))] 69 (0, 0)) (by (with_reducible repeat (first | refine q_p ?_ _ | refine q_r ?_ | refine q_q ?_ _)); exact ua.out) hb); have n3_ := q_v (below_step (by repeat (first | (with_reducible first | exact HB.out | apply q_j | apply q_i | apply q_k | refine q_u ?_ uo.out | refine q_u ?_ uq.out | refine q_u ?_ ur.out) | exact HB.out)) hb); have n4_ := q_v (hbox); have n5_ := q_v ((by rw [hg]; exact (below_size (by repeat (first | (with_reducible first | exact HB.out | apply q_j | apply q_i | apply q_k | refine q_u ?_ uo.out | refine q_u ?_ uq.out | refine q_u ?_ ur.out) | exact HB.out))) : w.heap.size ≤ uf)); have n6_ := q_v ((by rw [hg]; exact (below_size (by repeat (first | (with_reducible first | exact HB.out | apply q_j | apply q_i | apply q_k | refine q_u ?_ uo.out | refine q_u ?_ uq.out | refine q_u ?_ ur.out) | exact HB.out))) : w.heap.size ≤ uf)); have n7_ := q_v ((by rw [hg]; exact Nat.ne_of_lt (blk_lt (g := ui) (o := .cells #[.int .i64 a0_0, .int .u64 a0_1, .int .u64 a0_2, .int .u64 a0_3, .int .u64 a0_4, .int .u64 a0_5, .int .u64 a0_6] 27 (0, 0)) (by (with_reducible repeat (first | refine q_p ?_ _ | refine q_r ?_ | refine q_q ?_ _)); exact uc.out)) : ui ≠ uf)); have n8_ := q_v ((by rw [hg]; exact Nat.ne_of_gt (blk_lt (g := ui) (o := .cells #[.int .i64 a0_0, .int .u64 a0_1, .int .u64 a0_2, .int .u64 a0_3, .int .u64 a0_4, .int .u64 a0_5, .int .u64 a0_6] 27 (0, 0)) (by (with_reducible repeat (first | refine q_p ?_ _ | refine q_r ?_ | refine q_q ?_ _)); exact uc.out)) : uf ≠ ui)); have n9_ := q_v ((by rw [hg]; exact Nat.ne_of_lt (blk_lt (g := ug) (o := .cells #[.int .i64 a2_0, .int .i64 a2_1, .int .i64 a2_2, .int .i64 a2_3] 32 (0, 0)) (by (with_reducible repeat (first | refine q_p ?_ _ | refine q_r ?_ | refine q_q ?_ _)); exact ub.out)) : ug ≠ uf)); have n10_ := q_v ((by rw [hg]; exact Nat.ne_of_gt (blk_lt (g := ug) (o := .cells #[.int .i64 a2_0, .int .i64 a2_1, .int .i64 a2_2, .int .i64 a2_3] 32 (0, 0)) (by (with_reducible repeat (first | refine q_p ?_ _ | refine q_r ?_ | refine q_q ?_ _)); exact ub.out)) : uf ≠ ug)); have n11_ := q_v ((by rw [hg]; exact Nat.ne_of_lt (blk_lt (g := ue) (o := .cells #[.int .i64 uj, .int .i64 (Go.bits .and .i64 (uk) 63), .int .i64 (Go.bits .and .i64 a3 (wrap64 ((un) - 1)))] 69 (0, 0)) (by (with_reducible repeat (first | refine q_p ?_ _ | refine q_r ?_ | refine q_q ?_ _)); exact ua.out)) : ue ≠ uf)); have n12_ := q_v ((by rw [hg]; exact Nat.ne_of_gt (blk_lt (g := ue) (o := .cells #[.int .i64 uj, .int .i64 (Go.bits .and .i64 (uk) 63), .int .i64 (Go.bits .and .i64 a3 (wrap64 ((un) - 1)))] 69 (0, 0)) (by (with_reducible repeat (first | refine q_p ?_ _ | refine q_r ?_ | refine q_q ?_ _)); exact ua.out)) : uf ≠ ue)); clear uc; clear ub; clear ua; clear HB; have uc := n0_; have ub := n1_; have ua := n2_; have HB := n3_; have uh := n4_; have GW144 := n5_; have uw := n6_; have NB137_144 := n7_; have NB144_137 := n8_; have NB138_144 := n9_; have NB144_138 := n10_; have NB140_144 := n11_; have NB144_140 := n12_; clear n0_ n1_ n2_ n3_ n4_ n5_ n6_ n7_ n8_ n9_ n10_ n11_ n12_; clear hb hbox hg; have hnb70 := NB144_137.out; have hnc70 := NB137_144.out; have hnb71 := NB144_138.out; have hnc71 := NB138_144.out; have hnb72 := NB144_140.out; have hnc72 := NB140_144.out; have hcz73_0 : w69.cell? ⟨uf, 0, none⟩ = some (.int .u64 0) := (q_n uh.out 0).trans rfl; have hcz73_1 : w69.cell? ⟨uf, 1, none⟩ = some (.int .u64 0) := (q_n uh.out 1).trans rfl; have hfz73_0 := q_o uh.out 0; have hfz73_1 := q_o uh.out 1))
        have n0_ : Aside0 (((w69.setCell ⟨uf, 0, none⟩ (.int .u64 ul)).setCell ⟨uf, 1, none⟩ (.int .u64 um)).heap[ui]? = some (.cells #[.int .i64 a0_0, .int .u64 a0_1, .int .u64 a0_2, .int .u64 a0_3, .int .u64 a0_4, .int .u64 a0_5, .int .u64 a0_6] 27 (0, 0))) := ⟨by (with_reducible repeat (first | refine q_p ?_ _ | refine q_r ?_ | refine q_q ?_ _)); refine blk_far ?_ NB137_144.out _; (with_reducible repeat (first | refine q_p ?_ _ | refine q_r ?_ | refine q_q ?_ _)); refine blk_far ?_ NB137_144.out _; (with_reducible repeat (first | refine q_p ?_ _ | refine q_r ?_ | refine q_q ?_ _)); exact uc.out⟩
        have n1_ : Aside0 (((w69.setCell ⟨uf, 0, none⟩ (.int .u64 ul)).setCell ⟨uf, 1, none⟩ (.int .u64 um)).heap[ug]? = some (.cells #[.int .i64 a2_0, .int .i64 a2_1, .int .i64 a2_2, .int .i64 a2_3] 32 (0, 0))) := ⟨by (with_reducible repeat (first | refine q_p ?_ _ | refine q_r ?_ | refine q_q ?_ _)); refine blk_far ?_ NB138_144.out _; (with_reducible repeat (first | refine q_p ?_ _ | refine q_r ?_ | refine q_q ?_ _)); refine blk_far ?_ NB138_144.out _; (with_reducible repeat (first | refine q_p ?_ _ | refine q_r ?_ | refine q_q ?_ _)); exact ub.out⟩
        have n2_ : Aside0 (((w69.setCell ⟨uf, 0, none⟩ (.int .u64 ul)).setCell ⟨uf, 1, none⟩ (.int .u64 um)).heap[ue]? = some (.cells #[.int .i64 uj, .int .i64 (Go.bits .and .i64 (uk) 63), .int .i64 (Go.bits .and .i64 a3 (wrap64 ((un) - 1)))] 69 (0, 0))) := ⟨by (with_reducible repeat (first | refine q_p ?_ _ | refine q_r ?_ | refine q_q ?_ _)); refine blk_far ?_ NB140_144.out _; (with_reducible repeat (first | refine q_p ?_ _ | refine q_r ?_ | refine q_q ?_ _)); refine blk_far ?_ NB140_144.out _; (with_reducible repeat (first | refine q_p ?_ _ | refine q_r ?_ | refine q_q ?_ _)); exact ua.out⟩
        have n3_ : Aside0 (((w69.setCell ⟨uf, 0, none⟩ (.int .u64 ul)).setCell ⟨uf, 1, none⟩ (.int .u64 um)).heap[uf]? = some (.cells #[.int .u64 ul, .int .u64 um] 25 (0, 0))) := ⟨by (with_reducible repeat (first | refine q_p ?_ _ | refine q_r ?_ | refine q_q ?_ _)); refine blk_put (cs := #[.int .u64 ul, .int .u64 0]) ?_ 1 _ rfl; (with_reducible repeat (first | refine q_p ?_ _ | refine q_r ?_ | refine q_q ?_ _)); refine blk_put (cs := #[.int .u64 0, .int .u64 0]) ?_ 0 _ rfl; (with_reducible repeat (first | refine q_p ?_ _ | refine q_r ?_ | refine q_q ?_ _)); exact uh.out⟩
        have n4_ : Aside0 (Below w.heap.size w ((w69.setCell ⟨uf, 0, none⟩ (.int .u64 ul)).setCell ⟨uf, 1, none⟩ (.int .u64 um))) := ⟨by repeat (first | (with_reducible first | exact HB.out | apply q_j | apply q_i | apply q_k | refine q_u ?_ uo.out | refine q_u ?_ uq.out | refine q_u ?_ ur.out | refine q_u ?_ uw.out) | exact HB.out)⟩
        (try clear uc)
        (try clear ub)
        (try clear ua)
        (try clear uh)
        (try clear HB)
        generalize ((w69.setCell ⟨uf, 0, none⟩ (.int .u64 ul)).setCell ⟨uf, 1, none⟩ (.int .u64 um)) = w74 at n0_ n1_ n2_ n3_ n4_ ⊢
        have uc := n0_
        have ub := n1_
        have ua := n2_
        have uh := n3_
        have HB := n4_
        clear n0_ n1_ n2_ n3_ n4_
        have n0_ := q_v (q_r uc.out)
        have n1_ := q_v (q_r ub.out)
        have n2_ := q_v (q_r ua.out)
        have n3_ := q_v (q_r uh.out)
        have n4_ := q_v (q_k HB.out)
        clear uc
        clear ub
        clear ua
        clear uh
        clear HB
        have uc := n0_
        have ub := n1_
        have ua := n2_
        have uh := n3_
        have HB := n4_
        clear n0_ n1_ n2_ n3_ n4_
        refine start_ (n := 10) (S := fun w' => w'.cell? ⟨ue, 0, none⟩ = some (.int .i64 uj) ∧ w'.cell? ⟨ue, 1, none⟩ = some (.int .i64 (Go.bits .and .i64 (uk) 63)) ∧ w'.cell? ⟨ue, 2, none⟩ = some (.int .i64 (Go.bits .and .i64 a3 (wrap64 ((un) - 1)))) ∧ w'.cell? ⟨uf, 0, none⟩ = some (.int .u64 ul) ∧ w'.cell? ⟨uf, 1, none⟩ = some (.int .u64 um) ∧ w'.cell? ⟨ug, 0, none⟩ = some (.int .i64 a2_0) ∧ w'.cell? ⟨ug, 1, none⟩ = some (.int .i64 a2_1) ∧ w'.cell? ⟨ug, 2, none⟩ = some (.int .i64 a2_2) ∧ w'.cell? ⟨ug, 3, none⟩ = some (.int .i64 a2_3)) (ds := []) #[zF, zF, zF, zF, zF, zF, zF, zF, zF, zF] (by kernel_rfl) rfl rfl ⟨(q_n ua.out 0).trans rfl, (q_n ua.out 1).trans rfl, (q_n ua.out 2).trans rfl, (q_n uh.out 0).trans rfl, (q_n uh.out 1).trans rfl, (q_n ub.out 0).trans rfl, (q_n ub.out 1).trans rfl, (q_n ub.out 2).trans rfl, (q_n ub.out 3).trans rfl⟩ (fun hHeld => ?_); refine with_tabW cookie_Read.tab8 cookie_Read.bits8 (fun HT_ HW_ => ?_)
        generalize w74.drew = w75 at uc ub ua uh HB hHeld ⊢
        refine pure_ (i := 0) (N := some 50) (v := ?_) (a' := ?_) #[zT, zF, zF, zF, zF, zF, zF, zF, zF, zF] rfl rfl (any_of HT_.out (by kernel_rfl)) (fun _ _ _ h => h) (Or.inl ⟨by rfl, ?_⟩) ?_ ?_
        rotate_left
        ·intro w'
         go_simp
         with_reducible rfl
        rotate_left
        ·simp only [Act.put, q_a, q_b, q_c, i64_w, i32_w]
         rfl
        refine pure_ (i := 3) (N := some 53) (v := ?_) (a' := ?_) #[zT, zF, zF, zT, zF, zF, zF, zF, zF, zF] rfl rfl (any_of HT_.out (by kernel_rfl)) (fun _ _ _ h => h) (Or.inl ⟨by rfl, ?_⟩) ?_ ?_
        rotate_left
        ·intro w'
         go_simp
         with_reducible rfl
        rotate_left
        ·simp only [Act.put, q_a, q_b, q_c, i64_w, i32_w]
         rfl
        refine pure_ (i := 5) (N := some 55) (v := ?_) (a' := ?_) #[zT, zF, zF, zT, zF, zT, zF, zF, zF, zF] rfl rfl (any_of HT_.out (by kernel_rfl)) (fun _ _ _ h => h) (Or.inl ⟨by rfl, ?_⟩) ?_ ?_
        rotate_left
        ·intro w'
         go_simp
         with_reducible rfl
        rotate_left
        ·simp only [Act.put, q_a, q_b, q_c, i64_w, i32_w]
         rfl
        refine take_ (i := 1) (N := some 51) (v := ?_) (a' := ?_) #[zT, zT, zF, zT, zF, zT, zF, zF, zF, zF] rfl rfl (take_ofW HT_.out HW_.out (by kernel_rfl)) (fun _ _ _ h => h) (Or.inl ⟨by rfl, ?_⟩) hHeld ?_ ?_
        rotate_left
        ·rintro w' ⟨s0, s1, s2, s3, s4, s5, s6, s7, s8⟩
         go_simp
         with_reducible rfl
        rotate_left
        ·simp only [Act.put, q_a, q_b, q_c, i64_w, i32_w]
         rfl
        refine take_ (i := 2) (N := some 52) (v := ?_) (a' := ?_) #[zT, zT, zT, zT, zF, zT, zF, zF, zF, zF] rfl rfl (take_ofW HT_.out HW_.out (by kernel_rfl)) (fun _ _ _ h => h) (Or.inl ⟨by rfl, ?_⟩) hHeld ?_ ?_
        rotate_left
        ·rintro w' ⟨s0, s1, s2, s3, s4, s5, s6, s7, s8⟩
         go_simp
         with_reducible rfl
        rotate_left
        ·simp only [Act.put, q_a, q_b, q_c, i64_w, i32_w]
         rfl
        refine take_ (i := 4) (N := some 54) (v := ?_) (a' := ?_) #[zT, zT, zT, zT, zT, zT, zF, zF, zF, zF] rfl rfl (take_ofW HT_.out HW_.out (by kernel_rfl)) (fun _ _ _ h => h) (Or.inl ⟨by rfl, ?_⟩) hHeld ?_ ?_
        rotate_left
        ·rintro w' ⟨s0, s1, s2, s3, s4, s5, s6, s7, s8⟩
         go_simp
         with_reducible rfl
        rotate_left
        ·simp only [Act.put, q_a, q_b, q_c, i64_w, i32_w]
         rfl
        refine take_ (i := 6) (N := some 56) (v := ?_) (a' := ?_) #[zT, zT, zT, zT, zT, zT, zT, zF, zF, zF] rfl rfl (take_ofW HT_.out HW_.out (by kernel_rfl)) (fun _ _ _ h => h) (Or.inl ⟨by rfl, ?_⟩) hHeld ?_ ?_
        rotate_left
        ·rintro w' ⟨s0, s1, s2, s3, s4, s5, s6, s7, s8⟩
         go_simp
         with_reducible rfl
        rotate_left
        ·simp only [Act.put, q_a, q_b, q_c, i64_w, i32_w]
         rfl
        refine one_ (i := 7) (N := some 57) #[zT, zT, zT, zT, zT, zT, zT, zT, zF, zF] rfl rfl (one_of HT_.out (by kernel_rfl)) (by decide) (fun K hK => ?_)
        refine goes_ Try.func42 (by kernel_rfl) rfl #[.agg #[.int .u64 ul, .int .u64 um], .int .i64 a1, .agg #[.int .i64 a2_0, .int .i64 a2_1, .int .i64 a2_2, .int .i64 a2_3], .int .i64 uj] (by rfl) rfl rfl (by (try simp only [List.map_toArray, List.map_cons, List.map_nil]); first | done | (simp only [u1]; rfl) | rfl | (simp only [List.length_drop, List.length_take]; rfl)) ?_
        with_reducible refine (cookie_veil.calls uu ul um a1 a2_0 a2_1 a2_2 a2_3 uj ut _ A23.out).mono ?_
        rintro e w76 ⟨rfl, hb⟩
        refine ⟨_, rfl, ?_⟩
        have n0_ := q_v (q_m (g := ui) (o := .cells #[.int .i64 a0_0, .int .u64 a0_1, .int .u64 a0_2, .int .u64 a0_3, .int .u64 a0_4, .int .u64 a0_5, .int .u64 a0_6] 27 (0, 0)) (by (with_reducible repeat (first | refine q_p ?_ _ | refine q_r ?_ | refine q_q ?_ _)); exact uc.out) hb)
        have n1_ := q_v (q_m (g := ug) (o := .cells #[.int .i64 a2_0, .int .i64 a2_1, .int .i64 a2_2, .int .i64 a2_3] 32 (0, 0)) (by (with_reducible repeat (first | refine q_p ?_ _ | refine q_r ?_ | refine q_q ?_ _)); exact ub.out) hb)
        have n2_ := q_v (q_m (g := ue) (o := .cells #[.int .i64 uj, .int .i64 (Go.bits .and .i64 (uk) 63), .int .i64 (Go.bits .and .i64 a3 (wrap64 ((un) - 1)))] 69 (0, 0)) (by (with_reducible repeat (first | refine q_p ?_ _ | refine q_r ?_ | refine q_q ?_ _)); exact ua.out) hb)
        have n3_ := q_v (q_m (g := uf) (o := .cells #[.int .u64 ul, .int .u64 um] 25 (0, 0)) (by (with_reducible repeat (first | refine q_p ?_ _ | refine q_r ?_ | refine q_q ?_ _)); exact uh.out) hb)
        have n4_ := q_v (below_step (by repeat (first | (with_reducible first | exact HB.out | apply q_j | apply q_i | apply q_k | refine q_u ?_ uo.out | refine q_u ?_ uq.out | refine q_u ?_ ur.out | refine q_u ?_ uw.out) | exact HB.out)) hb)
        clear uc
        clear ub
        clear ua
        clear uh
        clear HB
        have uc := n0_
        have ub := n1_
        have ua := n2_
        have uh := n3_
        have HB := n4_
        clear n0_ n1_ n2_ n3_ n4_
        (try clear hb)
        (try clear hb2)
        (try clear hk)
        (try clear hi)
        refine hK.out _ _ ⟨(q_n ua.out 0).trans rfl, (q_n ua.out 1).trans rfl, (q_n ua.out 2).trans rfl, (q_n uh.out 0).trans rfl, (q_n uh.out 1).trans rfl, (q_n ub.out 0).trans rfl, (q_n ub.out 1).trans rfl, (q_n ub.out 2).trans rfl, (q_n ub.out 3).trans rfl⟩ (fun hHeld => ?_)
        clear hK K
        refine norm_ (a' := ?_) ?_ ?_
        rotate_left
        ·show Act.put _ (some 57) _ = _
         simp only [Act.put, q_a, q_b, q_c, i64_w, i32_w]
         rfl
        refine pure_ (i := 8) (N := some 58) (v := ?_) (a' := ?_) #[zT, zT, zT, zT, zT, zT, zT, zT, zT, zF] rfl rfl (any_of HT_.out (by kernel_rfl)) (fun _ _ _ h => h) (Or.inl ⟨by rfl, ?_⟩) ?_ ?_
        rotate_left
        ·intro w'
         go_simp
         with_reducible rfl
        rotate_left
        ·simp only [Act.put, q_a, q_b, q_c, i64_w, i32_w]
         rfl
        refine pure_ (i := 9) (N := some 14) (v := ?_) (a' := ?_) #[zT, zT, zT, zT, zT, zT, zT, zT, zT, zT] rfl rfl (any_of HT_.out (by kernel_rfl)) (fun _ _ _ h => h) (Or.inl ⟨by rfl, ?_⟩) ?_ ?_
        rotate_left
        ·intro w'
         go_simp
         with_reducible rfl
        rotate_left
        ·simp only [Act.put, q_a, q_b, q_c, i64_w, i32_w]
         rfl
        refine done_ (done_of HT_.out (by kernel_rfl)) ?_
        try go_wp2
        have n0_ := q_v (q_r uc.out)
        have n1_ := q_v (q_r ub.out)
        have n2_ := q_v (q_r ua.out)
        have n3_ := q_v (q_r uh.out)
        have n4_ := q_v (q_k HB.out)
        clear uc
        clear ub
        clear ua
        clear uh
        clear HB
        have uc := n0_
        have ub := n1_
        have ua := n2_
        have uh := n3_
        have HB := n4_
        clear n0_ n1_ n2_ n3_ n4_
        refine start_ (n := 14) (S := fun w' => w'.cell? ⟨ue, 0, none⟩ = some (.int .i64 uj) ∧ w'.cell? ⟨ue, 1, none⟩ = some (.int .i64 (Go.bits .and .i64 (uk) 63)) ∧ w'.cell? ⟨ue, 2, none⟩ = some (.int .i64 (Go.bits .and .i64 a3 (wrap64 ((un) - 1)))) ∧ w'.cell? ⟨uf, 0, none⟩ = some (.int .u64 ul) ∧ w'.cell? ⟨uf, 1, none⟩ = some (.int .u64 um) ∧ w'.cell? ⟨ug, 0, none⟩ = some (.int .i64 a2_0) ∧ w'.cell? ⟨ug, 1, none⟩ = some (.int .i64 a2_1) ∧ w'.cell? ⟨ug, 2, none⟩ = some (.int .i64 a2_2) ∧ w'.cell? ⟨ug, 3, none⟩ = some (.int .i64 a2_3)) (ds := []) #[zF, zF, zF, zF, zF, zF, zF, zF, zF, zF, zF, zF, zF, zF] (by kernel_rfl) rfl rfl ⟨(q_n ua.out 0).trans rfl, (q_n ua.out 1).trans rfl, (q_n ua.out 2).trans rfl, (q_n uh.out 0).trans rfl, (q_n uh.out 1).trans rfl, (q_n ub.out 0).trans rfl, (q_n ub.out 1).trans rfl, (q_n ub.out 2).trans rfl, (q_n ub.out 3).trans rfl⟩ (fun hHeld => ?_); refine with_tabW cookie_Read.tab9 cookie_Read.bits9 (fun HT_ HW_ => ?_)
        generalize w76.drew = w77 at uc ub ua uh HB hHeld ⊢
        refine pure_ (i := 0) (N := some 59) (v := ?_) (a' := ?_) #[zT, zF, zF, zF, zF, zF, zF, zF, zF, zF, zF, zF, zF, zF] rfl rfl (any_of HT_.out (by kernel_rfl)) (fun _ _ _ h => h) (Or.inl ⟨by rfl, ?_⟩) ?_ ?_
        rotate_left
        ·intro w'
         go_simp
         with_reducible rfl
        rotate_left
        ·simp only [Act.put, q_a, q_b, q_c, i64_w, i32_w]
         rfl
        refine pure_ (i := 2) (N := some 61) (v := ?_) (a' := ?_) #[zT, zF, zT, zF, zF, zF, zF, zF, zF, zF, zF, zF, zF, zF] rfl rfl (any_of HT_.out (by kernel_rfl)) (fun _ _ _ h => h) (Or.inl ⟨by rfl, ?_⟩) ?_ ?_
        rotate_left
        ·intro w'
         go_simp
         with_reducible rfl
        rotate_left
        ·simp only [Act.put, q_a, q_b, q_c, i64_w, i32_w]
         rfl
        refine pure_ (i := 5) (N := some 64) (v := ?_) (a' := ?_) #[zT, zF, zT, zF, zF, zT, zF, zF, zF, zF, zF, zF, zF, zF] rfl rfl (any_of HT_.out (by kernel_rfl)) (fun _ _ _ h => h) (Or.inl ⟨by rfl, ?_⟩) ?_ ?_
        rotate_left
        ·intro w'
         go_simp
         with_reducible rfl
        rotate_left
        ·simp only [Act.put, q_a, q_b, q_c, i64_w, i32_w]
         rfl
        refine pure_ (i := 7) (N := some 66) (v := ?_) (a' := ?_) #[zT, zF, zT, zF, zF, zT, zF, zT, zF, zF, zF, zF, zF, zF] rfl rfl (any_of HT_.out (by kernel_rfl)) (fun _ _ _ h => h) (Or.inl ⟨by rfl, ?_⟩) ?_ ?_
        rotate_left
        ·intro w'
         go_simp
         with_reducible rfl
        rotate_left
        ·simp only [Act.put, q_a, q_b, q_c, i64_w, i32_w]
         rfl
        refine pure_ (i := 8) (N := some 67) (v := ?_) (a' := ?_) #[zT, zF, zT, zF, zF, zT, zF, zT, zT, zF, zF, zF, zF, zF] rfl rfl (any_of HT_.out (by kernel_rfl)) (fun _ _ _ h => h) (Or.inl ⟨by rfl, ?_⟩) ?_ ?_
        rotate_left
        ·intro w'
         go_simp
         with_reducible rfl
        rotate_left
        ·simp only [Act.put, q_a, q_b, q_c, i64_w, i32_w]
         rfl
        refine take_ (i := 1) (N := some 60) (v := ?_) (a' := ?_) #[zT, zT, zT, zF, zF, zT, zF, zT, zT, zF, zF, zF, zF, zF] rfl rfl (take_ofW HT_.out HW_.out (by kernel_rfl)) (fun _ _ _ h => h) (Or.inl ⟨by rfl, ?_⟩) hHeld ?_ ?_
        rotate_left
        ·rintro w' ⟨s0, s1, s2, s3, s4, s5, s6, s7, s8⟩
         go_simp
         with_reducible rfl
        rotate_left
        ·simp only [Act.put, q_a, q_b, q_c, i64_w, i32_w]
         rfl
        refine take_ (i := 3) (N := some 62) (v := ?_) (a' := ?_) #[zT, zT, zT, zT, zF, zT, zF, zT, zT, zF, zF, zF, zF, zF] rfl rfl (take_ofW HT_.out HW_.out (by kernel_rfl)) (fun _ _ _ h => h) (Or.inl ⟨by rfl, ?_⟩) hHeld ?_ ?_
        rotate_left
        ·rintro w' ⟨s0, s1, s2, s3, s4, s5, s6, s7, s8⟩
         go_simp
         with_reducible rfl
        rotate_left
        ·simp only [Act.put, q_a, q_b, q_c, i64_w, i32_w]
         rfl
        refine take_ (i := 4) (N := some 63) (v := ?_) (a' := ?_) #[zT, zT, zT, zT, zT, zT, zF, zT, zT, zF, zF, zF, zF, zF] rfl rfl (take_ofW HT_.out HW_.out (by kernel_rfl)) (fun _ _ _ h => h) (Or.inl ⟨by rfl, ?_⟩) hHeld ?_ ?_
        rotate_left
        ·rintro w' ⟨s0, s1, s2, s3, s4, s5, s6, s7, s8⟩
         go_simp
         with_reducible rfl
        rotate_left
        ·simp only [Act.put, q_a, q_b, q_c, i64_w, i32_w]
         rfl
        refine take_ (i := 6) (N := some 65) (v := ?_) (a' := ?_) #[zT, zT, zT, zT, zT, zT, zT, zT, zT, zF, zF, zF, zF, zF] rfl rfl (take_ofW HT_.out HW_.out (by kernel_rfl)) (fun _ _ _ h => h) (Or.inl ⟨by rfl, ?_⟩) hHeld ?_ ?_
        rotate_left
        ·rintro w' ⟨s0, s1, s2, s3, s4, s5, s6, s7, s8⟩
         go_simp
         with_reducible rfl
        rotate_left
        ·simp only [Act.put, q_a, q_b, q_c, i64_w, i32_w]
         rfl
        refine take_ (i := 9) (N := some 68) (v := ?_) (a' := ?_) #[zT, zT, zT, zT, zT, zT, zT, zT, zT, zT, zF, zF, zF, zF] rfl rfl (take_ofW HT_.out HW_.out (by kernel_rfl)) (fun _ _ _ h => h) (Or.inl ⟨by rfl, ?_⟩) hHeld ?_ ?_
        rotate_left
        ·rintro w' ⟨s0, s1, s2, s3, s4, s5, s6, s7, s8⟩
         go_simp
         with_reducible rfl
        rotate_left
        ·simp only [Act.put, q_a, q_b, q_c, i64_w, i32_w]
         rfl
        refine join_ (σ := Nat) 1 #[zT, zT, zT, zT, zT, zT, zT, zT, zT, zT, zT, zT, zT, zF] (fun s_ => [(69, .int .i64 ux), (15, .pointer (some ⟨s_, 0, none⟩)), (70, .agg #[.int .i64 uj, .int .i64 (Go.bits .and .i64 (uk) 63), .int .i64 ux])]) (fun s_ w' => (w'.cell? ⟨ue, 0, none⟩ = some (.int .i64 uj) ∧ w'.cell? ⟨ue, 1, none⟩ = some (.int .i64 (Go.bits .and .i64 (uk) 63)) ∧ w'.cell? ⟨ue, 2, none⟩ = some (.int .i64 (Go.bits .and .i64 a3 (wrap64 ((un) - 1)))) ∧ w'.cell? ⟨uf, 0, none⟩ = some (.int .u64 ul) ∧ w'.cell? ⟨uf, 1, none⟩ = some (.int .u64 um) ∧ w'.cell? ⟨ug, 0, none⟩ = some (.int .i64 a2_0) ∧ w'.cell? ⟨ug, 1, none⟩ = some (.int .i64 a2_1) ∧ w'.cell? ⟨ug, 2, none⟩ = some (.int .i64 a2_2) ∧ w'.cell? ⟨ug, 3, none⟩ = some (.int .i64 a2_3)) ∧ (w'.heap[ui]? = some (.cells #[.int .i64 a0_0, .int .u64 a0_1, .int .u64 a0_2, .int .u64 a0_3, .int .u64 a0_4, .int .u64 a0_5, .int .u64 a0_6] 27 (0, 0))) ∧ (w'.heap[ug]? = some (.cells #[.int .i64 a2_0, .int .i64 a2_1, .int .i64 a2_2, .int .i64 a2_3] 32 (0, 0))) ∧ (w'.heap[ue]? = some (.cells #[.int .i64 uj, .int .i64 (Go.bits .and .i64 (uk) 63), .int .i64 (Go.bits .and .i64 a3 (wrap64 ((un) - 1)))] 69 (0, 0))) ∧ (w'.heap[uf]? = some (.cells #[.int .u64 ul, .int .u64 um] 25 (0, 0))) ∧ (w'.heap[s_]? = some (.cells #[.int .i64 0, .int .i64 0, .int .i64 0] 69 (0, 0))) ∧ (w.heap.size ≤ s_) ∧ (w.heap.size ≤ s_) ∧ (ui ≠ s_) ∧ (s_ ≠ ui) ∧ (ug ≠ s_) ∧ (s_ ≠ ug) ∧ (ue ≠ s_) ∧ (s_ ≠ ue) ∧ (uf ≠ s_) ∧ (s_ ≠ uf) ∧ (Below w.heap.size w w')) ?_ ?_
        rotate_left
        ·intro hCont
         refine two_ (i := 10) (j := 12) (Ni := some 69) (Nj := some 15) #[zT, zT, zT, zT, zT, zT, zT, zT, zT, zT, zT, zF, zF, zF] #[zT, zT, zT, zT, zT, zT, zT, zT, zT, zT, zF, zF, zT, zF] rfl rfl rfl rfl (two_of HT_.out (by kernel_rfl)) (by decide) (by decide) (fun K hK => ?_) (fun K hK => ?_)
         ·skip
          refine goes_ Try.func43 (by kernel_rfl) rfl #[.agg #[.int .u64 ul, .int .u64 um], .int .i64 a1, .agg #[.int .i64 a2_0, .int .i64 a2_1, .int .i64 a2_2, .int .i64 a2_3], .int .i64 (Go.bits .xor .i64 (Go.bits .and .i64 (uk) 63) ut), .int .i64 uj] (by rfl) rfl rfl (by (try simp only [List.map_toArray, List.map_cons, List.map_nil]); first | done | (simp only [u1, u7]; rfl) | rfl | (simp only [List.length_drop, List.length_take]; rfl)) ?_
          with_reducible refine (cookie_tag.calls uu ul um a1 a2_0 a2_1 a2_2 a2_3 (Go.bits .xor .i64 (Go.bits .and .i64 (uk) 63) ut) uj ux _ A24.out).mono ?_
          rintro e w78 ⟨rfl, hb⟩
          refine ⟨_, rfl, ?_⟩
          have n0_ := q_v (q_m (g := ui) (o := .cells #[.int .i64 a0_0, .int .u64 a0_1, .int .u64 a0_2, .int .u64 a0_3, .int .u64 a0_4, .int .u64 a0_5, .int .u64 a0_6] 27 (0, 0)) (by (with_reducible repeat (first | refine q_p ?_ _ | refine q_r ?_ | refine q_q ?_ _)); exact uc.out) hb)
          have n1_ := q_v (q_m (g := ug) (o := .cells #[.int .i64 a2_0, .int .i64 a2_1, .int .i64 a2_2, .int .i64 a2_3] 32 (0, 0)) (by (with_reducible repeat (first | refine q_p ?_ _ | refine q_r ?_ | refine q_q ?_ _)); exact ub.out) hb)
          have n2_ := q_v (q_m (g := ue) (o := .cells #[.int .i64 uj, .int .i64 (Go.bits .and .i64 (uk) 63), .int .i64 (Go.bits .and .i64 a3 (wrap64 ((un) - 1)))] 69 (0, 0)) (by (with_reducible repeat (first | refine q_p ?_ _ | refine q_r ?_ | refine q_q ?_ _)); exact ua.out) hb)
          have n3_ := q_v (q_m (g := uf) (o := .cells #[.int .u64 ul, .int .u64 um] 25 (0, 0)) (by (with_reducible repeat (first | refine q_p ?_ _ | refine q_r ?_ | refine q_q ?_ _)); exact uh.out) hb)
          have n4_ := q_v (below_step (by repeat (first | (with_reducible first | exact HB.out | apply q_j | apply q_i | apply q_k | refine q_u ?_ uo.out | refine q_u ?_ uq.out | refine q_u ?_ ur.out | refine q_u ?_ uw.out) | exact HB.out)) hb)
          clear uc
          clear ub
          clear ua
          clear uh
          clear HB
          have uc := n0_
          have ub := n1_
          have ua := n2_
          have uh := n3_
          have HB := n4_
          clear n0_ n1_ n2_ n3_ n4_
          (try clear hb)
          (try clear hb2)
          (try clear hk)
          (try clear hi)
          refine hK.out _ _ ⟨(q_n ua.out 0).trans rfl, (q_n ua.out 1).trans rfl, (q_n ua.out 2).trans rfl, (q_n uh.out 0).trans rfl, (q_n uh.out 1).trans rfl, (q_n ub.out 0).trans rfl, (q_n ub.out 1).trans rfl, (q_n ub.out 2).trans rfl, (q_n ub.out 3).trans rfl⟩ (fun hHeld => ?_)
          clear hK K
          refine norm_ (a' := ?_) ?_ ?_
          rotate_left
          ·show Act.put _ (some 69) _ = _
           simp only [Act.put, q_a, q_b, q_c, i64_w, i32_w]
           rfl
          refine pure_ (i := 11) (N := some 70) (v := ?_) (a' := ?_) #[zT, zT, zT, zT, zT, zT, zT, zT, zT, zT, zT, zT, zF, zF] rfl rfl (any_of HT_.out (by kernel_rfl)) (fun _ _ _ h => h) (Or.inl ⟨by rfl, ?_⟩) ?_ ?_
          rotate_left
          ·intro w'
           go_simp
           with_reducible rfl
          rotate_left
          ·simp only [Act.put, q_a, q_b, q_c, i64_w, i32_w]
           rfl
          refine one_ (i := 12) (N := some 15) #[zT, zT, zT, zT, zT, zT, zT, zT, zT, zT, zT, zT, zT, zF] rfl rfl (one_of HT_.out (by kernel_rfl)) (by decide) (fun K hK => ?_)
          refine box_step ?hg (N := 15) ?hd (cs := #[.int .i64 0, .int .i64 0, .int .i64 0]) (t := 69) ?hr ?_; (case hd => rfl); (case hg => rfl); (case hr => first | (go_simp; done) | (go_simp; rfl))
          intro ud hg w79 hbox hb
          have n0_ := q_v (q_m (g := ui) (o := .cells #[.int .i64 a0_0, .int .u64 a0_1, .int .u64 a0_2, .int .u64 a0_3, .int .u64 a0_4, .int .u64 a0_5, .int .u64 a0_6] 27 (0, 0)) (by (with_reducible repeat (first | refine q_p ?_ _ | refine q_r ?_ | refine q_q ?_ _)); exact uc.out) hb)
          have n1_ := q_v (q_m (g := ug) (o := .cells #[.int .i64 a2_0, .int .i64 a2_1, .int .i64 a2_2, .int .i64 a2_3] 32 (0, 0)) (by (with_reducible repeat (first | refine q_p ?_ _ | refine q_r ?_ | refine q_q ?_ _)); exact ub.out) hb)
          have n2_ := q_v (q_m (g := ue) (o := .cells #[.int .i64 uj, .int .i64 (Go.bits .and .i64 (uk) 63), .int .i64 (Go.bits .and .i64 a3 (wrap64 ((un) - 1)))] 69 (0, 0)) (by (with_reducible repeat (first | refine q_p ?_ _ | refine q_r ?_ | refine q_q ?_ _)); exact ua.out) hb)
          have n3_ := q_v (q_m (g := uf) (o := .cells #[.int .u64 ul, .int .u64 um] 25 (0, 0)) (by (with_reducible repeat (first | refine q_p ?_ _ | refine q_r ?_ | refine q_q ?_ _)); exact uh.out) hb)
          have n4_ := q_v (below_step (by repeat (first | (with_reducible first | exact HB.out | apply q_j | apply q_i | apply q_k | refine q_u ?_ uo.out | refine q_u ?_ uq.out | refine q_u ?_ ur.out | refine q_u ?_ uw.out) | exact HB.out)) hb)
          have n5_ := q_v (hbox)
          have n6_ := q_v ((by rw [hg]; exact (below_size (by repeat (first | (with_reducible first | exact HB.out | apply q_j | apply q_i | apply q_k | refine q_u ?_ uo.out | refine q_u ?_ uq.out | refine q_u ?_ ur.out | refine q_u ?_ uw.out) | exact HB.out))) : w.heap.size ≤ ud))
          have n7_ := q_v ((by rw [hg]; exact (below_size (by repeat (first | (with_reducible first | exact HB.out | apply q_j | apply q_i | apply q_k | refine q_u ?_ uo.out | refine q_u ?_ uq.out | refine q_u ?_ ur.out | refine q_u ?_ uw.out) | exact HB.out))) : w.heap.size ≤ ud))
          have n8_ := q_v ((by rw [hg]; exact Nat.ne_of_lt (blk_lt (g := ui) (o := .cells #[.int .i64 a0_0, .int .u64 a0_1, .int .u64 a0_2, .int .u64 a0_3, .int .u64 a0_4, .int .u64 a0_5, .int .u64 a0_6] 27 (0, 0)) (by (with_reducible repeat (first | refine q_p ?_ _ | refine q_r ?_ | refine q_q ?_ _)); exact uc.out)) : ui ≠ ud))
          have n9_ := q_v ((by rw [hg]; exact Nat.ne_of_gt (blk_lt (g := ui) (o := .cells #[.int .i64 a0_0, .int .u64 a0_1, .int .u64 a0_2, .int .u64 a0_3, .int .u64 a0_4, .int .u64 a0_5, .int .u64 a0_6] 27 (0, 0)) (by (with_reducible repeat (first | refine q_p ?_ _ | refine q_r ?_ | refine q_q ?_ _)); exact uc.out)) : ud ≠ ui))
          have n10_ := q_v ((by rw [hg]; exact Nat.ne_of_lt (blk_lt (g := ug) (o := .cells #[.int .i64 a2_0, .int .i64 a2_1, .int .i64 a2_2, .int .i64 a2_3] 32 (0, 0)) (by (with_reducible repeat (first | refine q_p ?_ _ | refine q_r ?_ | refine q_q ?_ _)); exact ub.out)) : ug ≠ ud))
          have n11_ := q_v ((by rw [hg]; exact Nat.ne_of_gt (blk_lt (g := ug) (o := .cells #[.int .i64 a2_0, .int .i64 a2_1, .int .i64 a2_2, .int .i64 a2_3] 32 (0, 0)) (by (with_reducible repeat (first | refine q_p ?_ _ | refine q_r ?_ | refine q_q ?_ _)); exact ub.out)) : ud ≠ ug))
          have n12_ := q_v ((by rw [hg]; exact Nat.ne_of_lt (blk_lt (g := ue) (o := .cells #[.int .i64 uj, .int .i64 (Go.bits .and .i64 (uk) 63), .int .i64 (Go.bits .and .i64 a3 (wrap64 ((un) - 1)))] 69 (0, 0)) (by (with_reducible repeat (first | refine q_p ?_ _ | refine q_r ?_ | refine q_q ?_ _)); exact ua.out)) : ue ≠ ud))
          have n13_ := q_v ((by rw [hg]; exact Nat.ne_of_gt (blk_lt (g := ue) (o := .cells #[.int .i64 uj, .int .i64 (Go.bits .and .i64 (uk) 63), .int .i64 (Go.bits .and .i64 a3 (wrap64 ((un) - 1)))] 69 (0, 0)) (by (with_reducible repeat (first | refine q_p ?_ _ | refine q_r ?_ | refine q_q ?_ _)); exact ua.out)) : ud ≠ ue))
          have n14_ := q_v ((by rw [hg]; exact Nat.ne_of_lt (blk_lt (g := uf) (o := .cells #[.int .u64 ul, .int .u64 um] 25 (0, 0)) (by (with_reducible repeat (first | refine q_p ?_ _ | refine q_r ?_ | refine q_q ?_ _)); exact uh.out)) : uf ≠ ud))
          have n15_ := q_v ((by rw [hg]; exact Nat.ne_of_gt (blk_lt (g := uf) (o := .cells #[.int .u64 ul, .int .u64 um] 25 (0, 0)) (by (with_reducible repeat (first | refine q_p ?_ _ | refine q_r ?_ | refine q_q ?_ _)); exact uh.out)) : ud ≠ uf))
          clear uc
          clear ub
          clear ua
          clear uh
          clear HB
          have uc := n0_
          have ub := n1_
          have ua := n2_
          have uh := n3_
          have HB := n4_
          have us := n5_
          have GW147 := n6_
          have u0 := n7_
          have NB137_147 := n8_
          have NB147_137 := n9_
          have NB138_147 := n10_
          have NB147_138 := n11_
          have NB140_147 := n12_
          have NB147_140 := n13_
          have NB144_147 := n14_
          have NB147_144 := n15_
          clear n0_ n1_ n2_ n3_ n4_ n5_ n6_ n7_ n8_ n9_ n10_ n11_ n12_ n13_ n14_ n15_
          clear hb hbox hg
          refine hK.out _ _ ⟨(q_n ua.out 0).trans rfl, (q_n ua.out 1).trans rfl, (q_n ua.out 2).trans rfl, (q_n uh.out 0).trans rfl, (q_n uh.out 1).trans rfl, (q_n ub.out 0).trans rfl, (q_n ub.out 1).trans rfl, (q_n ub.out 2).trans rfl, (q_n ub.out 3).trans rfl⟩ (fun hHeld => ?_)
          clear hK K
          refine norm_ (a' := ?_) ?_ ?_
          rotate_left
          ·show Act.put _ (some 15) _ = _
           simp only [Act.put, q_a, q_b, q_c, i64_w, i32_w]
           rfl
          exact norm_ (by simp only [putAll, Act.put, q_a, q_b, q_c]) (hCont (ud) _ ⟨hHeld, (by (with_reducible repeat (first | refine q_p ?_ _ | refine q_r ?_ | refine q_q ?_ _)); exact uc.out), (by (with_reducible repeat (first | refine q_p ?_ _ | refine q_r ?_ | refine q_q ?_ _)); exact ub.out), (by (with_reducible repeat (first | refine q_p ?_ _ | refine q_r ?_ | refine q_q ?_ _)); exact ua.out), (by (with_reducible repeat (first | refine q_p ?_ _ | refine q_r ?_ | refine q_q ?_ _)); exact uh.out), (by (with_reducible repeat (first | refine q_p ?_ _ | refine q_r ?_ | refine q_q ?_ _)); exact us.out), GW147.out, u0.out, NB137_147.out, NB147_137.out, NB138_147.out, NB147_138.out, NB140_147.out, NB147_140.out, NB144_147.out, NB147_144.out, (by repeat (first | (with_reducible first | exact HB.out | apply q_j | apply q_i | apply q_k | refine q_u ?_ uo.out | refine q_u ?_ uq.out | refine q_u ?_ ur.out | refine q_u ?_ uw.out | refine q_u ?_ u0.out) | exact HB.out))⟩)
         ·skip
          refine box_step ?hg (N := 15) ?hd (cs := #[.int .i64 0, .int .i64 0, .int .i64 0]) (t := 69) ?hr ?_; (case hd => rfl); (case hg => rfl); (case hr => first | (go_simp; done) | (go_simp; rfl))
          intro ud hg w78 hbox hb
          have n0_ := q_v (q_m (g := ui) (o := .cells #[.int .i64 a0_0, .int .u64 a0_1, .int .u64 a0_2, .int .u64 a0_3, .int .u64 a0_4, .int .u64 a0_5, .int .u64 a0_6] 27 (0, 0)) (by (with_reducible repeat (first | refine q_p ?_ _ | refine q_r ?_ | refine q_q ?_ _)); exact uc.out) hb)
          have n1_ := q_v (q_m (g := ug) (o := .cells #[.int .i64 a2_0, .int .i64 a2_1, .int .i64 a2_2, .int .i64 a2_3] 32 (0, 0)) (by (with_reducible repeat (first | refine q_p ?_ _ | refine q_r ?_ | refine q_q ?_ _)); exact ub.out) hb)
          have n2_ := q_v (q_m (g := ue) (o := .cells #[.int .i64 uj, .int .i64 (Go.bits .and .i64 (uk) 63), .int .i64 (Go.bits .and .i64 a3 (wrap64 ((un) - 1)))] 69 (0, 0)) (by (with_reducible repeat (first | refine q_p ?_ _ | refine q_r ?_ | refine q_q ?_ _)); exact ua.out) hb)
          have n3_ := q_v (q_m (g := uf) (o := .cells #[.int .u64 ul, .int .u64 um] 25 (0, 0)) (by (with_reducible repeat (first | refine q_p ?_ _ | refine q_r ?_ | refine q_q ?_ _)); exact uh.out) hb)
          have n4_ := q_v (below_step (by repeat (first | (with_reducible first | exact HB.out | apply q_j | apply q_i | apply q_k | refine q_u ?_ uo.out | refine q_u ?_ uq.out | refine q_u ?_ ur.out | refine q_u ?_ uw.out) | exact HB.out)) hb)
          have n5_ := q_v (hbox)
          have n6_ := q_v ((by rw [hg]; exact (below_size (by repeat (first | (with_reducible first | exact HB.out | apply q_j | apply q_i | apply q_k | refine q_u ?_ uo.out | refine q_u ?_ uq.out | refine q_u ?_ ur.out | refine q_u ?_ uw.out) | exact HB.out))) : w.heap.size ≤ ud))
          have n7_ := q_v ((by rw [hg]; exact (below_size (by repeat (first | (with_reducible first | exact HB.out | apply q_j | apply q_i | apply q_k | refine q_u ?_ uo.out | refine q_u ?_ uq.out | refine q_u ?_ ur.out | refine q_u ?_ uw.out) | exact HB.out))) : w.heap.size ≤ ud))
          have n8_ := q_v ((by rw [hg]; exact Nat.ne_of_lt (blk_lt (g := ui) (o := .cells #[.int .i64 a0_0, .int .u64 a0_1, .int .u64 a0_2, .int .u64 a0_3, .int .u64 a0_4, .int .u64 a0_5, .int .u64 a0_6] 27 (0, 0)) (by (with_reducible repeat (first | refine q_p ?_ _ | refine q_r ?_ | refine q_q ?_ _)); exact uc.out)) : ui ≠ ud))
          have n9_ := q_v ((by rw [hg]; exact Nat.ne_of_gt (blk_lt (g := ui) (o := .cells #[.int .i64 a0_0, .int .u64 a0_1, .int .u64 a0_2, .int .u64 a0_3, .int .u64 a0_4, .int .u64 a0_5, .int .u64 a0_6] 27 (0, 0)) (by (with_reducible repeat (first | refine q_p ?_ _ | refine q_r ?_ | refine q_q ?_ _)); exact uc.out)) : ud ≠ ui))
          have n10_ := q_v ((by rw [hg]; exact Nat.ne_of_lt (blk_lt (g := ug) (o := .cells #[.int .i64 a2_0, .int .i64 a2_1, .int .i64 a2_2, .int .i64 a2_3] 32 (0, 0)) (by (with_reducible repeat (first | refine q_p ?_ _ | refine q_r ?_ | refine q_q ?_ _)); exact ub.out)) : ug ≠ ud))
          have n11_ := q_v ((by rw [hg]; exact Nat.ne_of_gt (blk_lt (g := ug) (o := .cells #[.int .i64 a2_0, .int .i64 a2_1, .int .i64 a2_2, .int .i64 a2_3] 32 (0, 0)) (by (with_reducible repeat (first | refine q_p ?_ _ | refine q_r ?_ | refine q_q ?_ _)); exact ub.out)) : ud ≠ ug))
          have n12_ := q_v ((by rw [hg]; exact Nat.ne_of_lt (blk_lt (g := ue) (o := .cells #[.int .i64 uj, .int .i64 (Go.bits .and .i64 (uk) 63), .int .i64 (Go.bits .and .i64 a3 (wrap64 ((un) - 1)))] 69 (0, 0)) (by (with_reducible repeat (first | refine q_p ?_ _ | refine q_r ?_ | refine q_q ?_ _)); exact ua.out)) : ue ≠ ud))
          have n13_ := q_v ((by rw [hg]; exact Nat.ne_of_gt (blk_lt (g := ue) (o := .cells #[.int .i64 uj, .int .i64 (Go.bits .and .i64 (uk) 63), .int .i64 (Go.bits .and .i64 a3 (wrap64 ((un) - 1)))] 69 (0, 0)) (by (with_reducible repeat (first | refine q_p ?_ _ | refine q_r ?_ | refine q_q ?_ _)); exact ua.out)) : ud ≠ ue))
          have n14_ := q_v ((by rw [hg]; exact Nat.ne_of_lt (blk_lt (g := uf) (o := .cells #[.int .u64 ul, .int .u64 um] 25 (0, 0)) (by (with_reducible repeat (first | refine q_p ?_ _ | refine q_r ?_ | refine q_q ?_ _)); exact uh.out)) : uf ≠ ud))
          have n15_ := q_v ((by rw [hg]; exact Nat.ne_of_gt (blk_lt (g := uf) (o := .cells #[.int .u64 ul, .int .u64 um] 25 (0, 0)) (by (with_reducible repeat (first | refine q_p ?_ _ | refine q_r ?_ | refine q_q ?_ _)); exact uh.out)) : ud ≠ uf))
          clear uc
          clear ub
          clear ua
          clear uh
          clear HB
          have uc := n0_
          have ub := n1_
          have ua := n2_
          have uh := n3_
          have HB := n4_
          have us := n5_
          have GW147 := n6_
          have u0 := n7_
          have NB137_147 := n8_
          have NB147_137 := n9_
          have NB138_147 := n10_
          have NB147_138 := n11_
          have NB140_147 := n12_
          have NB147_140 := n13_
          have NB144_147 := n14_
          have NB147_144 := n15_
          clear n0_ n1_ n2_ n3_ n4_ n5_ n6_ n7_ n8_ n9_ n10_ n11_ n12_ n13_ n14_ n15_
          clear hb hbox hg
          refine hK.out _ _ ⟨(q_n ua.out 0).trans rfl, (q_n ua.out 1).trans rfl, (q_n ua.out 2).trans rfl, (q_n uh.out 0).trans rfl, (q_n uh.out 1).trans rfl, (q_n ub.out 0).trans rfl, (q_n ub.out 1).trans rfl, (q_n ub.out 2).trans rfl, (q_n ub.out 3).trans rfl⟩ (fun hHeld => ?_)
          clear hK K
          refine norm_ (a' := ?_) ?_ ?_
          rotate_left
          ·show Act.put _ (some 15) _ = _
           simp only [Act.put, q_a, q_b, q_c, i64_w, i32_w]
           rfl
          refine one_ (i := 10) (N := some 69) #[zT, zT, zT, zT, zT, zT, zT, zT, zT, zT, zT, zF, zT, zF] rfl rfl (one_of HT_.out (by kernel_rfl)) (by decide) (fun K hK => ?_)
          refine goes_ Try.func43 (by kernel_rfl) rfl #[.agg #[.int .u64 ul, .int .u64 um], .int .i64 a1, .agg #[.int .i64 a2_0, .int .i64 a2_1, .int .i64 a2_2, .int .i64 a2_3], .int .i64 (Go.bits .xor .i64 (Go.bits .and .i64 (uk) 63) ut), .int .i64 uj] (by rfl) rfl rfl (by (try simp only [List.map_toArray, List.map_cons, List.map_nil]); first | done | (simp only [u1, u7]; rfl) | rfl | (simp only [List.length_drop, List.length_take]; rfl)) ?_
          with_reducible refine (cookie_tag.calls uu ul um a1 a2_0 a2_1 a2_2 a2_3 (Go.bits .xor .i64 (Go.bits .and .i64 (uk) 63) ut) uj ux _ A24.out).mono ?_
          rintro e w79 ⟨rfl, hb⟩
          refine ⟨_, rfl, ?_⟩
          have n0_ := q_v (q_m (g := ui) (o := .cells #[.int .i64 a0_0, .int .u64 a0_1, .int .u64 a0_2, .int .u64 a0_3, .int .u64 a0_4, .int .u64 a0_5, .int .u64 a0_6] 27 (0, 0)) (by (with_reducible repeat (first | refine q_p ?_ _ | refine q_r ?_ | refine q_q ?_ _)); exact uc.out) hb)
          have n1_ := q_v (q_m (g := ug) (o := .cells #[.int .i64 a2_0, .int .i64 a2_1, .int .i64 a2_2, .int .i64 a2_3] 32 (0, 0)) (by (with_reducible repeat (first | refine q_p ?_ _ | refine q_r ?_ | refine q_q ?_ _)); exact ub.out) hb)
          have n2_ := q_v (q_m (g := ue) (o := .cells #[.int .i64 uj, .int .i64 (Go.bits .and .i64 (uk) 63), .int .i64 (Go.bits .and .i64 a3 (wrap64 ((un) - 1)))] 69 (0, 0)) (by (with_reducible repeat (first | refine q_p ?_ _ | refine q_r ?_ | refine q_q ?_ _)); exact ua.out) hb)
          have n3_ := q_v (q_m (g := uf) (o := .cells #[.int .u64 ul, .int .u64 um] 25 (0, 0)) (by (with_reducible repeat (first | refine q_p ?_ _ | refine q_r ?_ | refine q_q ?_ _)); exact uh.out) hb)
          have n4_ := q_v (q_m (g := ud) (o := .cells #[.int .i64 0, .int .i64 0, .int .i64 0] 69 (0, 0)) (by (with_reducible repeat (first | refine q_p ?_ _ | refine q_r ?_ | refine q_q ?_ _)); exact us.out) hb)
          have n5_ := q_v (below_step (by repeat (first | (with_reducible first | exact HB.out | apply q_j | apply q_i | apply q_k | refine q_u ?_ uo.out | refine q_u ?_ uq.out | refine q_u ?_ ur.out | refine q_u ?_ uw.out | refine q_u ?_ u0.out) | exact HB.out)) hb)
          clear uc
          clear ub
          clear ua
          clear uh
          clear us
          clear HB
          have uc := n0_
          have ub := n1_
          have ua := n2_
          have uh := n3_
          have us := n4_
          have HB := n5_
          clear n0_ n1_ n2_ n3_ n4_ n5_
          (try clear hb)
          (try clear hb2)
          (try clear hk)
          (try clear hi)
          refine hK.out _ _ ⟨(q_n ua.out 0).trans rfl, (q_n ua.out 1).trans rfl, (q_n ua.out 2).trans rfl, (q_n uh.out 0).trans rfl, (q_n uh.out 1).trans rfl, (q_n ub.out 0).trans rfl, (q_n ub.out 1).trans rfl, (q_n ub.out 2).trans rfl, (q_n ub.out 3).trans rfl⟩ (fun hHeld => ?_)
          clear hK K
          refine norm_ (a' := ?_) ?_ ?_
          rotate_left
          ·show Act.put _ (some 69) _ = _
           simp only [Act.put, q_a, q_b, q_c, i64_w, i32_w]
           rfl
          refine pure_ (i := 11) (N := some 70) (v := ?_) (a' := ?_) #[zT, zT, zT, zT, zT, zT, zT, zT, zT, zT, zT, zT, zT, zF] rfl rfl (any_of HT_.out (by kernel_rfl)) (fun _ _ _ h => h) (Or.inl ⟨by rfl, ?_⟩) ?_ ?_
          rotate_left
          ·intro w'
           go_simp
           with_reducible rfl
          rotate_left
          ·simp only [Act.put, q_a, q_b, q_c, i64_w, i32_w]
           rfl
          exact norm_ (by simp only [putAll, Act.put, q_a, q_b, q_c]) (hCont (ud) _ ⟨hHeld, (by (with_reducible repeat (first | refine q_p ?_ _ | refine q_r ?_ | refine q_q ?_ _)); exact uc.out), (by (with_reducible repeat (first | refine q_p ?_ _ | refine q_r ?_ | refine q_q ?_ _)); exact ub.out), (by (with_reducible repeat (first | refine q_p ?_ _ | refine q_r ?_ | refine q_q ?_ _)); exact ua.out), (by (with_reducible repeat (first | refine q_p ?_ _ | refine q_r ?_ | refine q_q ?_ _)); exact uh.out), (by (with_reducible repeat (first | refine q_p ?_ _ | refine q_r ?_ | refine q_q ?_ _)); exact us.out), GW147.out, u0.out, NB137_147.out, NB147_137.out, NB138_147.out, NB147_138.out, NB140_147.out, NB147_140.out, NB144_147.out, NB147_144.out, (by repeat (first | (with_reducible first | exact HB.out | apply q_j | apply q_i | apply q_k | refine q_u ?_ uo.out | refine q_u ?_ uq.out | refine q_u ?_ ur.out | refine q_u ?_ uw.out | refine q_u ?_ u0.out) | exact HB.out))⟩)
        rintro ud uz ⟨hS_, h0_, h1_, h2_, h3_, h4_, h5_, h6_, h7_, h8_, h9_, h10_, h11_, h12_, h13_, h14_, h15_⟩
        have n0_ : Aside0 (uz.heap[ui]? = some (.cells #[.int .i64 a0_0, .int .u64 a0_1, .int .u64 a0_2, .int .u64 a0_3, .int .u64 a0_4, .int .u64 a0_5, .int .u64 a0_6] 27 (0, 0))) := ⟨h0_⟩
        have n1_ : Aside0 (uz.heap[ug]? = some (.cells #[.int .i64 a2_0, .int .i64 a2_1, .int .i64 a2_2, .int .i64 a2_3] 32 (0, 0))) := ⟨h1_⟩
        have n2_ : Aside0 (uz.heap[ue]? = some (.cells #[.int .i64 uj, .int .i64 (Go.bits .and .i64 (uk) 63), .int .i64 (Go.bits .and .i64 a3 (wrap64 ((un) - 1)))] 69 (0, 0))) := ⟨h2_⟩
        have n3_ : Aside0 (uz.heap[uf]? = some (.cells #[.int .u64 ul, .int .u64 um] 25 (0, 0))) := ⟨h3_⟩
        have n4_ : Aside0 (uz.heap[ud]? = some (.cells #[.int .i64 0, .int .i64 0, .int .i64 0] 69 (0, 0))) := ⟨h4_⟩
        have n5_ : Aside0 (w.heap.size ≤ ud) := ⟨h5_⟩
        have n6_ : Aside0 (w.heap.size ≤ ud) := ⟨h6_⟩
        have n7_ : Aside0 (ui ≠ ud) := ⟨h7_⟩
        have n8_ : Aside0 (ud ≠ ui) := ⟨h8_⟩
        have n9_ : Aside0 (ug ≠ ud) := ⟨h9_⟩
        have n10_ : Aside0 (ud ≠ ug) := ⟨h10_⟩
        have n11_ : Aside0 (ue ≠ ud) := ⟨h11_⟩
        have n12_ : Aside0 (ud ≠ ue) := ⟨h12_⟩
        have n13_ : Aside0 (uf ≠ ud) := ⟨h13_⟩
        have n14_ : Aside0 (ud ≠ uf) := ⟨h14_⟩
        have n15_ : Aside0 (Below w.heap.size w uz) := ⟨h15_⟩
        clear uc
        clear ub
        clear ua
        clear uh
        clear HB
        clear h0_ h1_ h2_ h3_ h4_ h5_ h6_ h7_ h8_ h9_ h10_ h11_ h12_ h13_ h14_ h15_
        have uc := n0_
        have ub := n1_
        have ua := n2_
        have uh := n3_
        have us := n4_
        have GW147 := n5_
        have u0 := n6_
        have NB137_147 := n7_
        have NB147_137 := n8_
        have NB138_147 := n9_
        have NB147_138 := n10_
        have NB140_147 := n11_
        have NB147_140 := n12_
        have NB144_147 := n13_
        have NB147_144 := n14_
        have HB := n15_
        clear n0_ n1_ n2_ n3_ n4_ n5_ n6_ n7_ n8_ n9_ n10_ n11_ n12_ n13_ n14_ n15_
        have hHeld : uz.cell? ⟨ue, 0, none⟩ = some (.int .i64 uj) ∧ uz.cell? ⟨ue, 1, none⟩ = some (.int .i64 (Go.bits .and .i64 (uk) 63)) ∧ uz.cell? ⟨ue, 2, none⟩ = some (.int .i64 (Go.bits .and .i64 a3 (wrap64 ((un) - 1)))) ∧ uz.cell? ⟨uf, 0, none⟩ = some (.int .u64 ul) ∧ uz.cell? ⟨uf, 1, none⟩ = some (.int .u64 um) ∧ uz.cell? ⟨ug, 0, none⟩ = some (.int .i64 a2_0) ∧ uz.cell? ⟨ug, 1, none⟩ = some (.int .i64 a2_1) ∧ uz.cell? ⟨ug, 2, none⟩ = some (.int .i64 a2_2) ∧ uz.cell? ⟨ug, 3, none⟩ = some (.int .i64 a2_3) := hS_
        refine norm_ (a' := ?_) ?_ ?_
        rotate_left
        ·simp only [putAll, Act.put, q_a, q_b, q_c]
         rfl
        refine one_ (i := 13) (N := none) #[zT, zT, zT, zT, zT, zT, zT, zT, zT, zT, zT, zT, zT, zT] rfl rfl (one_of HT_.out (by kernel_rfl)) (by decide) (fun K hK => ?_)
        have hs81 : uz.cell? ⟨ud, 0, none⟩ = some (.int .i64 0) := (q_n us.out 0).trans rfl
        have hfs81 := q_o us.out 0
        have hns81_0 := NB137_147.out
        have hns81_1 := NB138_147.out
        have hns81_2 := NB140_147.out
        have hns81_3 := NB144_147.out
        have hms81_0 := NB147_137.out
        have hms81_1 := NB147_138.out
        have hms81_2 := NB147_140.out
        have hms81_3 := NB147_144.out
        have hs82 : uz.cell? ⟨ud, 1, none⟩ = some (.int .i64 0) := (q_n us.out 1).trans rfl
        have hfs82 := q_o us.out 1
        have hns82_0 := NB137_147.out
        have hns82_1 := NB138_147.out
        have hns82_2 := NB140_147.out
        have hns82_3 := NB144_147.out
        have hms82_0 := NB147_137.out
        have hms82_1 := NB147_138.out
        have hms82_2 := NB147_140.out
        have hms82_3 := NB147_144.out
        have hs83 : uz.cell? ⟨ud, 2, none⟩ = some (.int .i64 0) := (q_n us.out 2).trans rfl
        have hfs83 := q_o us.out 2
        have hns83_0 := NB137_147.out
        have hns83_1 := NB138_147.out
        have hns83_2 := NB140_147.out
        have hns83_3 := NB144_147.out
        have hms83_0 := NB147_137.out
        have hms83_1 := NB147_138.out
        have hms83_2 := NB147_140.out
        have hms83_3 := NB147_144.out
        refine skip_ (w1 := ?_) (by rfl) rfl ?_ ?_
        rotate_left
        ·go_simp
         rfl
        refine hK.out _ _ ⟨((cell_far (p := ⟨ud, _, none⟩) NB140_147.out _).trans (((cell_far (p := ⟨ud, _, none⟩) NB140_147.out _).trans (((cell_far (p := ⟨ud, _, none⟩) NB140_147.out _).trans (hHeld.1)))))), ((cell_far (p := ⟨ud, _, none⟩) NB140_147.out _).trans (((cell_far (p := ⟨ud, _, none⟩) NB140_147.out _).trans (((cell_far (p := ⟨ud, _, none⟩) NB140_147.out _).trans (hHeld.2.1)))))), ((cell_far (p := ⟨ud, _, none⟩) NB140_147.out _).trans (((cell_far (p := ⟨ud, _, none⟩) NB140_147.out _).trans (((cell_far (p := ⟨ud, _, none⟩) NB140_147.out _).trans (hHeld.2.2.1)))))), ((cell_far (p := ⟨ud, _, none⟩) NB144_147.out _).trans (((cell_far (p := ⟨ud, _, none⟩) NB144_147.out _).trans (((cell_far (p := ⟨ud, _, none⟩) NB144_147.out _).trans (hHeld.2.2.2.1)))))), ((cell_far (p := ⟨ud, _, none⟩) NB144_147.out _).trans (((cell_far (p := ⟨ud, _, none⟩) NB144_147.out _).trans (((cell_far (p := ⟨ud, _, none⟩) NB144_147.out _).trans (hHeld.2.2.2.2.1)))))), ((cell_far (p := ⟨ud, _, none⟩) NB138_147.out _).trans (((cell_far (p := ⟨ud, _, none⟩) NB138_147.out _).trans (((cell_far (p := ⟨ud, _, none⟩) NB138_147.out _).trans (hHeld.2.2.2.2.2.1)))))), ((cell_far (p := ⟨ud, _, none⟩) NB138_147.out _).trans (((cell_far (p := ⟨ud, _, none⟩) NB138_147.out _).trans (((cell_far (p := ⟨ud, _, none⟩) NB138_147.out _).trans (hHeld.2.2.2.2.2.2.1)))))), ((cell_far (p := ⟨ud, _, none⟩) NB138_147.out _).trans (((cell_far (p := ⟨ud, _, none⟩) NB138_147.out _).trans (((cell_far (p := ⟨ud, _, none⟩) NB138_147.out _).trans (hHeld.2.2.2.2.2.2.2.1)))))), ((cell_far (p := ⟨ud, _, none⟩) NB138_147.out _).trans (((cell_far (p := ⟨ud, _, none⟩) NB138_147.out _).trans (((cell_far (p := ⟨ud, _, none⟩) NB138_147.out _).trans (hHeld.2.2.2.2.2.2.2.2))))))⟩ (fun hHeld => ?_)
        clear hK K
        refine done_ (done_of HT_.out (by kernel_rfl)) ?_
        have hnb84 := NB147_137.out
        have hnc84 := NB137_147.out
        have hnb85 := NB147_138.out
        have hnc85 := NB138_147.out
        have hnb86 := NB147_140.out
        have hnc86 := NB140_147.out
        have hnb87 := NB147_144.out
        have hnc87 := NB144_147.out
        have hcz88_0 : uz.cell? ⟨ud, 0, none⟩ = some (.int .i64 0) := (q_n us.out 0).trans rfl
        have hcz88_1 : uz.cell? ⟨ud, 1, none⟩ = some (.int .i64 0) := (q_n us.out 1).trans rfl
        have hcz88_2 : uz.cell? ⟨ud, 2, none⟩ = some (.int .i64 0) := (q_n us.out 2).trans rfl
        have hfz88_0 := q_o us.out 0
        have hfz88_1 := q_o us.out 1
        have hfz88_2 := q_o us.out 2
        have hcz89_0 : uz.cell? ⟨ue, 0, none⟩ = some (.int .i64 uj) := (q_n ua.out 0).trans rfl
        have hcz89_1 : uz.cell? ⟨ue, 1, none⟩ = some (.int .i64 (Go.bits .and .i64 (uk) 63)) := (q_n ua.out 1).trans rfl
        have hcz89_2 : uz.cell? ⟨ue, 2, none⟩ = some (.int .i64 (Go.bits .and .i64 a3 (wrap64 ((un) - 1)))) := (q_n ua.out 2).trans rfl
        have hfz89_0 := q_o ua.out 0
        have hfz89_1 := q_o ua.out 1
        have hfz89_2 := q_o ua.out 2
        try go_wp2
        go_ret2
        exact ⟨by first | rfl | (simp [errW_none, errW_some] <;> rfl) | (simp only [← vb, ← u1, ← u7, ← u9]; first | rfl | (simp [errW_none, errW_some] <;> rfl)) | (simp [*, errW_none, errW_some] <;> rfl), by repeat (first | (with_reducible first | exact HB.out | apply q_j | apply q_i | apply q_k | refine q_u ?_ uo.out | refine q_u ?_ uq.out | refine q_u ?_ ur.out | refine q_u ?_ uw.out | refine q_u ?_ u0.out) | exact HB.out)⟩
      ·replace c22 := Bool.eq_false_iff.mpr c22
       subst c22
       have H1 : (some (0, false)) = some (r1, r2) := by rw [if_neg (show ¬ (false = true) by decide)] at H; exact H
       clear H
       have H := H1
       clear H1
       simp only [Option.some.injEq, Prod.mk.injEq] at H
       obtain ⟨rfl, rfl⟩ := H
       try go_wp2
       have n0_ := q_v (q_r uc.out)
       have n1_ := q_v (q_r ub.out)
       have n2_ := q_v (q_k HB.out)
       clear uc
       clear ub
       clear HB
       have uc := n0_
       have ub := n1_
       have HB := n2_
       clear n0_ n1_ n2_
       refine start_ (n := 16) (S := fun w' => True) (ds := []) #[zF, zF, zF, zF, zF, zF, zF, zF, zF, zF, zF, zF, zF, zF, zF, zF] (by kernel_rfl) rfl rfl trivial (fun hHeld => ?_); refine with_tabW cookie_Read.tab4 cookie_Read.bits4 (fun HT_ HW_ => ?_)
       generalize wc.drew = w90 at uc ub HB hHeld ⊢
       refine pure_ (i := 0) (N := some 27) (v := ?_) (a' := ?_) #[zT, zF, zF, zF, zF, zF, zF, zF, zF, zF, zF, zF, zF, zF, zF, zF] rfl rfl (any_of HT_.out (by kernel_rfl)) (fun _ _ _ h => h) (Or.inl ⟨by rfl, ?_⟩) ?_ ?_
       rotate_left
       ·intro w'
        go_simp
        with_reducible rfl
       rotate_left
       ·simp only [Act.put, q_a, q_b, q_c, i64_w, i32_w]
        rfl
       refine pure_ (i := 1) (N := some 28) (v := ?_) (a' := ?_) #[zT, zT, zF, zF, zF, zF, zF, zF, zF, zF, zF, zF, zF, zF, zF, zF] rfl rfl (any_of HT_.out (by kernel_rfl)) (fun _ _ _ h => h) (Or.inl ⟨by rfl, ?_⟩) ?_ ?_
       rotate_left
       ·intro w'
        go_simp
        with_reducible rfl
       rotate_left
       ·simp only [Act.put, q_a, q_b, q_c, i64_w, i32_w]
        rfl
       refine pure_ (i := 2) (N := some 29) (v := ?_) (a' := ?_) #[zT, zT, zT, zF, zF, zF, zF, zF, zF, zF, zF, zF, zF, zF, zF, zF] rfl rfl (any_of HT_.out (by kernel_rfl)) (fun _ _ _ h => h) (Or.inl ⟨by rfl, ?_⟩) ?_ ?_
       rotate_left
       ·intro w'
        go_simp
        with_reducible rfl
       rotate_left
       ·simp only [Act.put, q_a, q_b, q_c, i64_w, i32_w]
        rfl
       refine pure_ (i := 3) (N := some 30) (v := ?_) (a' := ?_) #[zT, zT, zT, zT, zF, zF, zF, zF, zF, zF, zF, zF, zF, zF, zF, zF] rfl rfl (any_of HT_.out (by kernel_rfl)) (fun _ _ _ h => h) (Or.inl ⟨by rfl, ?_⟩) ?_ ?_
       rotate_left
       ·intro w'
        go_simp
        with_reducible rfl
       rotate_left
       ·simp only [Act.put, q_a, q_b, q_c, i64_w, i32_w]
        rfl
       refine pure_ (i := 4) (N := some 31) (v := ?_) (a' := ?_) #[zT, zT, zT, zT, zT, zF, zF, zF, zF, zF, zF, zF, zF, zF, zF, zF] rfl rfl (any_of HT_.out (by kernel_rfl)) (fun _ _ _ h => h) (Or.inl ⟨by rfl, ?_⟩) ?_ ?_
       rotate_left
       ·intro w'
        go_simp
        with_reducible rfl
       rotate_left
       ·simp only [Act.put, q_a, q_b, q_c, i64_w, i32_w]
        rfl
       refine pure_ (i := 5) (N := some 32) (v := ?_) (a' := ?_) #[zT, zT, zT, zT, zT, zT, zF, zF, zF, zF, zF, zF, zF, zF, zF, zF] rfl rfl (any_of HT_.out (by kernel_rfl)) (fun _ _ _ h => h) (Or.inl ⟨by rfl, ?_⟩) ?_ ?_
       rotate_left
       ·intro w'
        go_simp
        with_reducible rfl
       rotate_left
       ·simp only [Act.put, q_a, q_b, q_c, i64_w, i32_w]
        rfl
       refine pure_ (i := 6) (N := some 33) (v := ?_) (a' := ?_) #[zT, zT, zT, zT, zT, zT, zT, zF, zF, zF, zF, zF, zF, zF, zF, zF] rfl rfl (any_of HT_.out (by kernel_rfl)) (fun _ _ _ h => h) (Or.inl ⟨by rfl, ?_⟩) ?_ ?_
       rotate_left
       ·intro w'
        go_simp
        with_reducible rfl
       rotate_left
       ·simp only [Act.put, q_a, q_b, q_c, i64_w, i32_w]
        rfl
       refine pure_ (i := 7) (N := some 34) (v := ?_) (a' := ?_) #[zT, zT, zT, zT, zT, zT, zT, zT, zF, zF, zF, zF, zF, zF, zF, zF] rfl rfl (any_of HT_.out (by kernel_rfl)) (fun _ _ _ h => h) (Or.inl ⟨by rfl, ?_⟩) ?_ ?_
       rotate_left
       ·intro w'
        go_simp
        with_reducible rfl
       rotate_left
       ·simp only [Act.put, q_a, q_b, q_c, i64_w, i32_w]
        rfl
       refine pure_ (i := 8) (N := some 35) (v := ?_) (a' := ?_) #[zT, zT, zT, zT, zT, zT, zT, zT, zT, zF, zF, zF, zF, zF, zF, zF] rfl rfl (any_of HT_.out (by kernel_rfl)) (fun _ _ _ h => h) (Or.inl ⟨by rfl, ?_⟩) ?_ ?_
       rotate_left
       ·intro w'
        go_simp
        with_reducible rfl
       rotate_left
       ·simp only [Act.put, q_a, q_b, q_c, i64_w, i32_w]
        rfl
       refine pure_ (i := 9) (N := some 36) (v := ?_) (a' := ?_) #[zT, zT, zT, zT, zT, zT, zT, zT, zT, zT, zF, zF, zF, zF, zF, zF] rfl rfl (any_of HT_.out (by kernel_rfl)) (fun _ _ _ h => h) (Or.inl ⟨by rfl, ?_⟩) ?_ ?_
       rotate_left
       ·intro w'
        go_simp
        with_reducible rfl
       rotate_left
       ·simp only [Act.put, q_a, q_b, q_c, i64_w, i32_w]
        rfl
       refine pure_ (i := 10) (N := some 37) (v := ?_) (a' := ?_) #[zT, zT, zT, zT, zT, zT, zT, zT, zT, zT, zT, zF, zF, zF, zF, zF] rfl rfl (any_of HT_.out (by kernel_rfl)) (fun _ _ _ h => h) (Or.inl ⟨by rfl, ?_⟩) ?_ ?_
       rotate_left
       ·intro w'
        go_simp
        with_reducible rfl
       rotate_left
       ·simp only [Act.put, q_a, q_b, q_c, i64_w, i32_w]
        rfl
       refine pure_ (i := 11) (N := some 38) (v := ?_) (a' := ?_) #[zT, zT, zT, zT, zT, zT, zT, zT, zT, zT, zT, zT, zF, zF, zF, zF] rfl rfl (any_of HT_.out (by kernel_rfl)) (fun _ _ _ h => h) (Or.inl ⟨by rfl, ?_⟩) ?_ ?_
       rotate_left
       ·intro w'
        go_simp
        with_reducible rfl
       rotate_left
       ·simp only [Act.put, q_a, q_b, q_c, i64_w, i32_w]
        rfl
       refine pure_ (i := 12) (N := some 39) (v := ?_) (a' := ?_) #[zT, zT, zT, zT, zT, zT, zT, zT, zT, zT, zT, zT, zT, zF, zF, zF] rfl rfl (any_of HT_.out (by kernel_rfl)) (fun _ _ _ h => h) (Or.inl ⟨by rfl, ?_⟩) ?_ ?_
       rotate_left
       ·intro w'
        go_simp
        with_reducible rfl
       rotate_left
       ·simp only [Act.put, q_a, q_b, q_c, i64_w, i32_w]
        rfl
       refine pure_ (i := 13) (N := some 40) (v := ?_) (a' := ?_) #[zT, zT, zT, zT, zT, zT, zT, zT, zT, zT, zT, zT, zT, zT, zF, zF] rfl rfl (any_of HT_.out (by kernel_rfl)) (fun _ _ _ h => h) (Or.inl ⟨by rfl, ?_⟩) ?_ ?_
       rotate_left
       ·intro w'
        go_simp
        with_reducible rfl
       rotate_left
       ·simp only [Act.put, q_a, q_b, q_c, i64_w, i32_w]
        rfl
       refine one_ (i := 14) (N := some 11) #[zT, zT, zT, zT, zT, zT, zT, zT, zT, zT, zT, zT, zT, zT, zT, zF] rfl rfl (one_of HT_.out (by kernel_rfl)) (by decide) (fun K hK => ?_)
       refine box_step ?hg (N := 11) ?hd (cs := #[.int .i64 0, .int .i64 0, .int .i64 0]) (t := 69) ?hr ?_; (case hd => rfl); (case hg => rfl); (case hr => first | (go_simp; done) | (go_simp; rfl))
       intro ue hg u5 hbox hb
       have n0_ := q_v (q_m (g := ui) (o := .cells #[.int .i64 a0_0, .int .u64 a0_1, .int .u64 a0_2, .int .u64 a0_3, .int .u64 a0_4, .int .u64 a0_5, .int .u64 a0_6] 27 (0, 0)) (by (with_reducible repeat (first | refine q_p ?_ _ | refine q_r ?_ | refine q_q ?_ _)); exact uc.out) hb)
       have n1_ := q_v (q_m (g := ug) (o := .cells #[.int .i64 a2_0, .int .i64 a2_1, .int .i64 a2_2, .int .i64 a2_3] 32 (0, 0)) (by (with_reducible repeat (first | refine q_p ?_ _ | refine q_r ?_ | refine q_q ?_ _)); exact ub.out) hb)
       have n2_ := q_v (below_step (by repeat (first | (with_reducible first | exact HB.out | apply q_j | apply q_i | apply q_k | refine q_u ?_ uo.out | refine q_u ?_ uq.out) | exact HB.out)) hb)
       have n3_ := q_v (hbox)
       have n4_ := q_v ((by rw [hg]; exact (below_size (by repeat (first | (with_reducible first | exact HB.out | apply q_j | apply q_i | apply q_k | refine q_u ?_ uo.out | refine q_u ?_ uq.out) | exact HB.out))) : w.heap.size ≤ ue))
       have n5_ := q_v ((by rw [hg]; exact (below_size (by repeat (first | (with_reducible first | exact HB.out | apply q_j | apply q_i | apply q_k | refine q_u ?_ uo.out | refine q_u ?_ uq.out) | exact HB.out))) : w.heap.size ≤ ue))
       have n6_ := q_v ((by rw [hg]; exact Nat.ne_of_lt (blk_lt (g := ui) (o := .cells #[.int .i64 a0_0, .int .u64 a0_1, .int .u64 a0_2, .int .u64 a0_3, .int .u64 a0_4, .int .u64 a0_5, .int .u64 a0_6] 27 (0, 0)) (by (with_reducible repeat (first | refine q_p ?_ _ | refine q_r ?_ | refine q_q ?_ _)); exact uc.out)) : ui ≠ ue))
       have n7_ := q_v ((by rw [hg]; exact Nat.ne_of_gt (blk_lt (g := ui) (o := .cells #[.int .i64 a0_0, .int .u64 a0_1, .int .u64 a0_2, .int .u64 a0_3, .int .u64 a0_4, .int .u64 a0_5, .int .u64 a0_6] 27 (0, 0)) (by (with_reducible repeat (first | refine q_p ?_ _ | refine q_r ?_ | refine q_q ?_ _)); exact uc.out)) : ue ≠ ui))
       have n8_ := q_v ((by rw [hg]; exact Nat.ne_of_lt (blk_lt (g := ug) (o := .cells #[.int .i64 a2_0, .int .i64 a2_1, .int .i64 a2_2, .int .i64 a2_3] 32 (0, 0)) (by (with_reducible repeat (first | refine q_p ?_ _ | refine q_r ?_ | refine q_q ?_ _)); exact ub.out)) : ug ≠ ue))
       have n9_ := q_v ((by rw [hg]; exact Nat.ne_of_gt (blk_lt (g := ug) (o := .cells #[.int .i64 a2_0, .int .i64 a2_1, .int .i64 a2_2, .int .i64 a2_3] 32 (0, 0)) (by (with_reducible repeat (first | refine q_p ?_ _ | refine q_r ?_ | refine q_q ?_ _)); exact ub.out)) : ue ≠ ug))
       clear uc
       clear ub
       clear HB
       have uc := n0_
       have ub := n1_
       have HB := n2_
       have ua := n3_
       have GW140 := n4_
       have ur := n5_
       have NB137_140 := n6_
       have NB140_137 := n7_
       have NB138_140 := n8_
       have NB140_138 := n9_
       clear n0_ n1_ n2_ n3_ n4_ n5_ n6_ n7_ n8_ n9_
       clear hb hbox hg
       refine hK.out _ _ trivial (fun hHeld => ?_)
       clear hK K
       refine norm_ (a' := ?_) ?_ ?_
       rotate_left
       ·show Act.put _ (some 11) _ = _
        simp only [Act.put, q_a, q_b, q_c, i64_w, i32_w]
        rfl
       refine one_ (i := 15) (N := none) #[zT, zT, zT, zT, zT, zT, zT, zT, zT, zT, zT, zT, zT, zT, zT, zT] rfl rfl (one_of HT_.out (by kernel_rfl)) (by decide) (fun K hK => ?_)
       have hs92 : u5.cell? ⟨ue, 0, none⟩ = some (.int .i64 0) := (q_n ua.out 0).trans rfl
       have hfs92 := q_o ua.out 0
       have hns92_0 := NB137_140.out
       have hns92_1 := NB138_140.out
       have hms92_0 := NB140_137.out
       have hms92_1 := NB140_138.out
       have hs93 : u5.cell? ⟨ue, 1, none⟩ = some (.int .i64 0) := (q_n ua.out 1).trans rfl
       have hfs93 := q_o ua.out 1
       have hns93_0 := NB137_140.out
       have hns93_1 := NB138_140.out
       have hms93_0 := NB140_137.out
       have hms93_1 := NB140_138.out
       have hs94 : u5.cell? ⟨ue, 2, none⟩ = some (.int .i64 0) := (q_n ua.out 2).trans rfl
       have hfs94 := q_o ua.out 2
       have hns94_0 := NB137_140.out
       have hns94_1 := NB138_140.out
       have hms94_0 := NB140_137.out
       have hms94_1 := NB140_138.out
       refine skip_ (w1 := ?_) (by rfl) rfl ?_ ?_
       rotate_left
       ·go_simp
        rfl
       refine hK.out _ _ trivial (fun hHeld => ?_)
       clear hK K
       refine done_ (done_of HT_.out (by kernel_rfl)) ?_
       have hnb95 := NB137_138.out
       have hnc95 := NB138_137.out
       have hnb96 := NB137_140.out
       have hnc96 := NB140_137.out
       have hcz97_0 : u5.cell? ⟨ui, 0, none⟩ = some (.int .i64 a0_0) := (q_n uc.out 0).trans rfl
       have hcz97_1 : u5.cell? ⟨ui, 1, none⟩ = some (.int .u64 a0_1) := (q_n uc.out 1).trans rfl
       have hcz97_2 : u5.cell? ⟨ui, 2, none⟩ = some (.int .u64 a0_2) := (q_n uc.out 2).trans rfl
       have hcz97_3 : u5.cell? ⟨ui, 3, none⟩ = some (.int .u64 a0_3) := (q_n uc.out 3).trans rfl
       have hcz97_4 : u5.cell? ⟨ui, 4, none⟩ = some (.int .u64 a0_4) := (q_n uc.out 4).trans rfl
       have hcz97_5 : u5.cell? ⟨ui, 5, none⟩ = some (.int .u64 a0_5) := (q_n uc.out 5).trans rfl
       have hcz97_6 : u5.cell? ⟨ui, 6, none⟩ = some (.int .u64 a0_6) := (q_n uc.out 6).trans rfl
       have hfz97_0 := q_o uc.out 0
       have hfz97_1 := q_o uc.out 1
       have hfz97_2 := q_o uc.out 2
       have hfz97_3 := q_o uc.out 3
       have hfz97_4 := q_o uc.out 4
       have hfz97_5 := q_o uc.out 5
       have hfz97_6 := q_o uc.out 6
       have hnb98 := NB140_138.out
       have hnc98 := NB138_140.out
       have hcz99_0 : u5.cell? ⟨ue, 0, none⟩ = some (.int .i64 0) := (q_n ua.out 0).trans rfl
       have hcz99_1 : u5.cell? ⟨ue, 1, none⟩ = some (.int .i64 0) := (q_n ua.out 1).trans rfl
       have hcz99_2 : u5.cell? ⟨ue, 2, none⟩ = some (.int .i64 0) := (q_n ua.out 2).trans rfl
       have hfz99_0 := q_o ua.out 0
       have hfz99_1 := q_o ua.out 1
       have hfz99_2 := q_o ua.out 2
       try go_wp2_with (first | ((with_reducible refine gate_callee (f := 29) rfl ?_); refine goesL_ (some 45) rfl rfl Try.func29 (by kernel_rfl) rfl #[.agg #[.int .i64 a0_0, .int .u64 a0_1, .int .u64 a0_2, .int .u64 a0_3, .int .u64 a0_4, .int .u64 a0_5, .int .u64 a0_6], .int .i64 uj] rfl (by (try simp only [List.map_toArray, List.map_cons, List.map_nil]); first | done | (simp only [u1]; rfl) | rfl | (simp only [List.length_drop, List.length_take]; rfl)) ?_; (with_reducible refine (cookie_Key.calls uu a0_0 a0_1 a0_2 a0_3 a0_4 a0_5 a0_6 uj ul um false _ A21.out).mono ?_); rintro e w100 ⟨rfl, hb⟩; refine ⟨_, rfl, ?_⟩; have n0_ := q_v (q_m (g := ui) (o := .cells #[.int .i64 a0_0, .int .u64 a0_1, .int .u64 a0_2, .int .u64 a0_3, .int .u64 a0_4, .int .u64 a0_5, .int .u64 a0_6] 27 (0, 0)) (by (with_reducible repeat (first | refine q_p ?_ _ | refine q_r ?_ | refine q_q ?_ _)); refine blk_far ?_ NB137_140.out _; (with_reducible repeat (first | refine q_p ?_ _ | refine q_r ?_ | refine q_q ?_ _)); refine blk_far ?_ NB137_140.out _; (with_reducible repeat (first | refine q_p ?_ _ | refine q_r ?_ | refine q_q ?_ _)); refine blk_far ?_ NB137_140.out _; (with_reducible repeat (first | refine q_p ?_ _ | refine q_r ?_ | refine q_q ?_ _)); exact uc.out) hb); have n1_ := q_v (q_m (g := ug) (o := .cells #[.int .i64 a2_0, .int .i64 a2_1, .int .i64 a2_2, .int .i64 a2_3] 32 (0, 0)) (by (with_reducible repeat (first | refine q_p ?_ _ | refine q_r ?_ | refine q_q ?_ _)); refine blk_far ?_ NB138_140.out _; (with_reducible repeat (first | refine q_p ?_ _ | refine q_r ?_ | refine q_q ?_ _)); refine blk_far ?_ NB138_140.out _; (with_reducible repeat (first | refine q_p ?_ _ | refine q_r ?_ | refine q_q ?_ _)); refine blk_far ?_ NB138_140.out _; (with_reducible repeat (first | refine q_p ?_ _ | refine q_r ?_ | refine q_q ?_ _)); exact ub.out) hb); have n2_ := q_v (q_m (g := ue) (o := .cells #[.int .i64 uj, .int .i64 (Go.bits .and .i64 (uk) 63), .int .i64 (Go.bits .and .i64 a3 (wrap64 ((un) - 1)))] 69 (0, 0)) (by (with_reducible repeat (first | refine q_p ?_ _ | refine q_r ?_ | refine q_q ?_ _)); refine blk_put (cs := #[.int .i64 uj, .int .i64 (Go.bits .and .i64 (uk) 63), .int .i64 0]) ?_ 2 _ rfl; (with_reducible repeat (first | refine q_p ?_ _ | refine q_r ?_ | refine q_q ?_ _)); refine blk_put (cs := #[.int .i64 uj, .int .i64 0, .int .i64 0]) ?_ 1 _ rfl; (with_reducible repeat (first | refine q_p ?_ _ | refine q_r ?_ | refine q_q ?_ _)); refine blk_put (cs := #[.int .i64 0, .int .i64 0, .int .i64 0]) ?_ 0 _ rfl; (with_reducible repeat (first | refine q_p ?_ _ | refine q_r ?_ | refine q_q ?_ _)); exact ua.out) hb); have n3_ := q_v (below_step (by repeat (first | (with_reducible first | exact HB.out | apply q_j | apply q_i | apply q_k | refine q_u ?_ uo.out | refine q_u ?_ uq.out | refine q_u ?_ ur.out) | exact HB.out)) hb); clear uc; clear ub; clear ua; clear HB; have uc := n0_; have ub := n1_; have ua := n2_; have HB := n3_; clear n0_ n1_ n2_ n3_; (try clear hb); (try clear hb2); (try clear hk); (try clear hi)) | ((with_reducible refine gate_dst (N := 12) rfl ?_); refine box_event ?hg (N := 12) ?hd (cs := #[.int .u64 0, .int .u64 0]) (t := 25) ?hr ?_; (case hd => rfl); (case hg => rfl); (case hr => first | (go_simp; done) | (go_simp; rfl)); intro uf hg w101 hbox hb; have n0_ := q_v (q_m (g := ui) (o := .cells #[.int .i64 a0_0, .int .u64 a0_1, .int .u64 a0_2, .int .u64 a0_3, .int .u64 a0_4, .int .u64 a0_5, .int .u64 a0_6] 27 (0, 0)) (by (with_reducible repeat (first | refine q_p ?_ _ | refine q_r ?_ | refine q_q ?_ _)); exact uc.out) hb); have n1_ := q_v (q_m (g := ug) (o := .cells #[.int .i64 a2_0, .int .i64 a2_1, .int .i64 a2_2, .int .i64 a2_3] 32 (0, 0)) (by (with_reducible repeat (first | refine q_p ?_ _ | refine q_r ?_ | refine q_q ?_ _)); exact ub.out) hb); have n2_ := q_v (q_m (g := ue) (o := .cells #[.int .i64 uj, .int .i64 (Go.bits .and .i64 (uk) 63), .int .i64 (Go.bits .and .i64 a3 (wrap64 ((un) - 1)))] 69 (0, 0)) (by (with_reducible repeat (first | refine q_p ?_ _ | refine q_r ?_ | refine q_q ?_ _)); exact ua.out) hb); have n3_ := q_v (below_step (by repeat (first | (with_reducible first | exact HB.out | apply q_j | apply q_i | apply q_k | refine q_u ?_ uo.out | refine q_u ?_ uq.out | refine q_u ?_ ur.out) | exact HB.out)) hb); have n4_ := q_v (hbox); have n5_ := q_v ((by rw [hg]; exact (below_size (by repeat (first | (with_reducible first | exact HB.out | apply q_j | apply q_i | apply q_k | refine q_u ?_ uo.out | refine q_u ?_ uq.out | refine q_u ?_ ur.out) | exact HB.out))) : w.heap.size ≤ uf)); have n6_ := q_v ((by rw [hg]; exact (below_size (by repeat (first | (with_reducible first | exact HB.out | apply q_j | apply q_i | apply q_k | refine q_u ?_ uo.out | refine q_u ?_ uq.out | refine q_u ?_ ur.out) | exact HB.out))) : w.heap.size ≤ uf)); have n7_ := q_v ((by rw [hg]; exact Nat.ne_of_lt (blk_lt (g := ui) (o := .cells #[.int .i64 a0_0, .int .u64 a0_1, .int .u64 a0_2, .int .u64 a0_3, .int .u64 a0_4, .int .u64 a0_5, .int .u64 a0_6] 27 (0, 0)) (by (with_reducible repeat (first | refine q_p ?_ _ | refine q_r ?_ | refine q_q ?_ _)); exact uc.out)) : ui ≠ uf)); have n8_ := q_v ((by rw [hg]; exact Nat.ne_of_gt (blk_lt (g := ui) (o := .cells #[.int .i64 a0_0, .int .u64 a0_1, .int .u64 a0_2, .int .u64 a0_3, .int .u64 a0_4, .int .u64 a0_5, .int .u64 a0_6] 27 (0, 0)) (by (with_reducible repeat (first | refine q_p ?_ _ | refine q_r ?_ | refine q_q ?_ _)); exact uc.out)) : uf ≠ ui)); have n9_ := q_v ((by rw [hg]; exact Nat.ne_of_lt (blk_lt (g := ug) (o := .cells #[.int .i64 a2_0, .int .i64 a2_1, .int .i64 a2_2, .int .i64 a2_3] 32 (0, 0)) (by (with_reducible repeat (first | refine q_p ?_ _ | refine q_r ?_ | refine q_q ?_ _)); exact ub.out)) : ug ≠ uf)); have n10_ := q_v ((by rw [hg]; exact Nat.ne_of_gt (blk_lt (g := ug) (o := .cells #[.int .i64 a2_0, .int .i64 a2_1, .int .i64 a2_2, .int .i64 a2_3] 32 (0, 0)) (by (with_reducible repeat (first | refine q_p ?_ _ | refine q_r ?_ | refine q_q ?_ _)); exact ub.out)) : uf ≠ ug)); have n11_ := q_v ((by rw [hg]; exact Nat.ne_of_lt (blk_lt (g := ue) (o := .cells #[.int .i64 uj, .int .i64 (Go.bits .and .i64 (uk) 63), .int .i64 (Go.bits .and .i64 a3 (wrap64 ((un) - 1)))] 69 (0, 0)) (by (with_reducible repeat (first | refine q_p ?_ _ | refine q_r ?_ | refine q_q ?_ _)); exact ua.out)) : ue ≠ uf)); have n12_ := q_v ((by rw [hg]; exact Nat.ne_of_gt (blk_lt (g := ue) (o := .cells #[.int .i64 uj, .int .i64 (Go.bits .and .i64 (uk) 63), .int .i64 (Go.bits .and .i64 a3 (wrap64 ((un) - 1)))] 69 (0, 0)) (by (with_reducible repeat (first | refine q_p ?_ _ | refine q_r ?_ | refine q_q ?_ _)); exact ua.out)) : uf ≠ ue)); clear uc; clear ub; clear ua; clear HB; have uc := n0_; have ub := n1_; have ua := n2_; have HB := n3_; have uh := n4_; have GW144 := n5_; have uw := n6_; have NB137_144 := n7_; have NB144_137 := n8_; have NB138_144 := n9_; have NB144_138 := n10_; have NB140_144 := n11_; have NB144_140 := n12_; clear n0_ n1_ n2_ n3_ n4_ n5_ n6_ n7_ n8_ n9_ n10_ n11_ n12_; clear hb hbox hg; have hnb102 := NB144_137.out; have hnc102 := NB137_144.out; have hnb103 := NB144_138.out; have hnc103 := NB138_144.out; have hnb104 := NB144_140.out; have hnc104 := NB140_144.out; have hcz105_0 : w101.cell? ⟨uf, 0, none⟩ = some (.int .u64 0) := (q_n uh.out 0).trans rfl; have hcz105_1 : w101.cell? ⟨uf, 1, none⟩ = some (.int .u64 0) := (q_n uh.out 1).trans rfl; have hfz105_0 := q_o uh.out 0; have hfz105_1 := q_o uh.out 1))
       go_ret2
       exact ⟨by first | rfl | (simp [errW_none, errW_some] <;> rfl) | (simp only [← vb, ← u1, ← u7, ← u9]; first | rfl | (simp [errW_none, errW_some] <;> rfl)) | (simp [*, errW_none, errW_some] <;> rfl), by repeat (first | (with_reducible first | exact HB.out | apply q_j | apply q_i | apply q_k | refine q_u ?_ uo.out | refine q_u ?_ uq.out | refine q_u ?_ ur.out | refine q_u ?_ uw.out) | exact HB.out)⟩
     ·rw [if_neg c17] at H
      exact absurd H (by simp)
    ·rw [if_neg c15] at H
     exact absurd H (by simp)

end Go.Proofs.Ytnaplobnkmdfbaa.Q
