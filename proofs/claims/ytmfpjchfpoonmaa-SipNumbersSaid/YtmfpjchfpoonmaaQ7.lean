/- By a program of this session (wip/tools/myprint.py), out of the translation: for each Go function a plain Lean function, and that the call comes to what that function says; a law's row out of its plain statement. Lean checks it. -/
import Derived.Test.YtmfpjchfpoonmaaQ0
import Derived.Test.YtmfpjchfpoonmaaQ2
namespace Go.Proofs.Ytmfpjchfpoonmaa.Q
open Go.RowKit Go.Proofs.YtmfpjchfpoonmaaW.PrintWords Go.Proofs.YtmfpjchfpoonmaaW.PrintLast Go.Proofs.YtmfpjchfpoonmaaW.PrintMore Go.Proofs.Ytmfpjchfpoonmaa.Own
attribute [local go_sem] max2_int min2_int max_two min_two max_three min_three max_four min_four   -- for this text's walks alone
set_option linter.unusedVariables false
set_option linter.unusedSimpArgs false

/-! ### roundhouselaw2_SipNumbers: function 11 -/
def roundhouselaw2_SipNumbers.f (k : Nat) (a0 : Int) (a1 : Int) (a2 : Int) (a3 : Int) : Option (Bool) := (roundhouselaw2_known.f k).bind fun t261 => (if t261 = true then ((some (([a2, wrap64 (-a2), (-1), 9223372036854775807, (-9223372036854775808), 0] : List Int) : List Int)).bind fun y263 => ((roundhouselaw2_within.f a3 6).bind fun t266 => (if 0 ≤ t266 then (if t266 < (y263.length : Int) then ((sip_Words.f k a0 a1 (([rd y263 t266] : List Int))).bind fun t271 => ((roundhouseref2_Words.f k a0 a1 (([rd y263 t266] : List Int))).bind fun t275 => (if t271 = t275 then ((sip_Words.f k a0 a1 y263).bind fun t276 => ((roundhouseref2_Words.f k a0 a1 y263).bind fun t277 => (some (t276 == t277)))) else (some false)))) else (none)) else (none)))) else (some false))
theorem roundhouselaw2_SipNumbers.mono : ∀ a0 a1 a2 a3 k, LeO (roundhouselaw2_SipNumbers.f k a0 a1 a2 a3) (roundhouselaw2_SipNumbers.f (k + 1) a0 a1 a2 a3) := by
  intro a0 a1 a2 a3 k
  unfold roundhouselaw2_SipNumbers.f
  repeat' first
      | (with_reducible exact roundhouselaw2_known.mono _)
      | (with_reducible exact roundhouseref2_Words.mono _ _ _ _)
      | (with_reducible exact sip_Words.mono _ _ _ _)
      | (with_reducible exact LeO.refl _)
      | (with_reducible exact LeO.none _)
      | (with_reducible refine LeO.ite ?_ ?_)
      | (with_reducible refine LeO.bind ?_ (fun _ => ?_))
      | exact roundhouselaw2_known.mono _
      | exact roundhouseref2_Words.mono _ _ _ _
      | exact sip_Words.mono _ _ _ _
      | exact LeO.none _
      | refine LeO.ite ?_ ?_
      | refine LeO.bind ?_ (fun _ => ?_)
def roundhouselaw2_SipNumbers.T6 : Bool × List (List Nat × List Nat) := (true, [([], []), ([], []), ([1], [1]), ([0, 2], [0, 2]), ([], []), ([], []), ([5], [5]), ([4, 6, 3], [4, 6]), ([3, 7], [3, 7]), ([8, 7], [8]), ([9], [9]), ([9], [9]), ([10, 11, 9, 9], [9, 10, 11]), ([9], [9]), ([9], [9]), ([13, 14, 12, 9], [9, 13, 14]), ([12, 15, 9], [9, 12, 15]), ([9, 16], [9, 16]), ([17, 15, 0, 1, 2, 3, 4, 5, 6, 7, 8, 9, 10, 11, 12, 13, 14, 15, 16, 17], [17])])
def roundhouselaw2_SipNumbers.B6 : List Nat := [0, 0, 2, 7, 0, 0, 32, 127, 255, 511, 1023, 1023, 4095, 1023, 1023, 32767, 65535, 131071, 262143]
theorem roundhouselaw2_SipNumbers.tab6 : rtab .any (opsOf Try.f11 6) = roundhouselaw2_SipNumbers.T6 := by kernel_rfl
theorem roundhouselaw2_SipNumbers.bits6 : waitsOk roundhouselaw2_SipNumbers.T6.2 roundhouselaw2_SipNumbers.B6 = true := by kernel_rfl
set_option maxHeartbeats 8000000 in
set_option maxRecDepth 100000 in
theorem roundhouselaw2_SipNumbers.calls (k : Nat) (a0 : Int) (a1 : Int) (a2 : Int) (a3 : Int) (r : Bool) (w : World) (h : roundhouselaw2_SipNumbers.f k a0 a1 a2 a3 = some r) :
    Calls Try.prog 11 #[.int .u64 a0, .int .u64 a1, .int .i64 a2, .int .i64 a3] w fun e w' => e = .returned (.bool r) ∧ Below w.heap.size w w' := by
  have hu26 := Try.underlying26
  have HB := Aside0.mk (Below.refl w.heap.size w)
  have H : ((roundhouselaw2_known.f k).bind fun t261 => (if t261 = true then ((some (([a2, wrap64 (-a2), (-1), 9223372036854775807, (-9223372036854775808), 0] : List Int) : List Int)).bind fun y263 => ((roundhouselaw2_within.f a3 6).bind fun t266 => (if 0 ≤ t266 then (if t266 < (y263.length : Int) then ((sip_Words.f k a0 a1 (([rd y263 t266] : List Int))).bind fun t271 => ((roundhouseref2_Words.f k a0 a1 (([rd y263 t266] : List Int))).bind fun t275 => (if t271 = t275 then ((sip_Words.f k a0 a1 y263).bind fun t276 => ((roundhouseref2_Words.f k a0 a1 y263).bind fun t277 => (some (t276 == t277)))) else (some false)))) else (none)) else (none)))) else (some false))) = some r := h
  clear h
  replace H := Option.bind_eq_some_iff.mp H
  obtain ⟨t261, A50, H⟩ := H
  replace H : (if t261 = true then ((some (([a2, wrap64 (-a2), (-1), 9223372036854775807, (-9223372036854775808), 0] : List Int) : List Int)).bind fun y263 => ((roundhouselaw2_within.f a3 6).bind fun t266 => (if 0 ≤ t266 then (if t266 < (y263.length : Int) then ((sip_Words.f k a0 a1 (([rd y263 t266] : List Int))).bind fun t271 => ((roundhouseref2_Words.f k a0 a1 (([rd y263 t266] : List Int))).bind fun t275 => (if t271 = t275 then ((sip_Words.f k a0 a1 y263).bind fun t276 => ((roundhouseref2_Words.f k a0 a1 y263).bind fun t277 => (some (t276 == t277)))) else (some false)))) else (none)) else (none)))) else (some false)) = some r := H
  have A5 := Aside0.mk A50
  clear A50
  by_cases c6 : t261 = true
  · subst c6
    have H1 : ((some (([a2, wrap64 (-a2), (-1), 9223372036854775807, (-9223372036854775808), 0] : List Int) : List Int)).bind fun y263 => ((roundhouselaw2_within.f a3 6).bind fun t266 => (if 0 ≤ t266 then (if t266 < (y263.length : Int) then ((sip_Words.f k a0 a1 (([rd y263 t266] : List Int))).bind fun t271 => ((roundhouseref2_Words.f k a0 a1 (([rd y263 t266] : List Int))).bind fun t275 => (if t271 = t275 then ((sip_Words.f k a0 a1 y263).bind fun t276 => ((roundhouseref2_Words.f k a0 a1 y263).bind fun t277 => (some (t276 == t277)))) else (some false)))) else (none)) else (none)))) = some r := by rw [if_pos rfl] at H; exact H
    clear H
    have H := H1
    clear H1
    obtain ⟨y263, hy263⟩ : ∃ y_ : List Int, y_ = (([a2, wrap64 (-a2), (-1), 9223372036854775807, (-9223372036854775808), 0] : List Int)) := ⟨_, rfl⟩
    replace H : ((roundhouselaw2_within.f a3 6).bind fun t266 => (if 0 ≤ t266 then (if t266 < (y263.length : Int) then ((sip_Words.f k a0 a1 (([rd y263 t266] : List Int))).bind fun t271 => ((roundhouseref2_Words.f k a0 a1 (([rd y263 t266] : List Int))).bind fun t275 => (if t271 = t275 then ((sip_Words.f k a0 a1 y263).bind fun t276 => ((roundhouseref2_Words.f k a0 a1 y263).bind fun t277 => (some (t276 == t277)))) else (some false)))) else (none)) else (none))) = some r := by first | (rw [hy263]; with_reducible exact H) | (have H2_ := (Option.bind_some _ _).symm.trans H; rw [hy263]; with_reducible exact H2_) | (have H2_ := (Option.bind_some _ _).symm.trans H; with_reducible exact H2_) | with_reducible exact H | (rw [hy263]; exact H) | exact H
    have Ny263 := Aside0.mk hy263
    clear hy263
    replace H := Option.bind_eq_some_iff.mp H
    obtain ⟨t266, A70, H⟩ := H
    replace H : (if 0 ≤ t266 then (if t266 < (y263.length : Int) then ((sip_Words.f k a0 a1 (([rd y263 t266] : List Int))).bind fun t271 => ((roundhouseref2_Words.f k a0 a1 (([rd y263 t266] : List Int))).bind fun t275 => (if t271 = t275 then ((sip_Words.f k a0 a1 y263).bind fun t276 => ((roundhouseref2_Words.f k a0 a1 y263).bind fun t277 => (some (t276 == t277)))) else (some false)))) else (none)) else (none)) = some r := H
    have A7 := Aside0.mk A70
    clear A70
    by_cases c8 : 0 ≤ t266
    · rw [if_pos c8] at H
      have c8b0 : decide (0 ≤ t266) = true := decide_eq_true c8
      clear c8
      by_cases c9 : t266 < (y263.length : Int)
      · rw [if_pos c9] at H
        have c9b0 : decide (t266 < (y263.length : Int)) = true := decide_eq_true c9
        clear c9
        obtain ⟨y268, hy268⟩ : ∃ y_ : List Int, y_ = (([rd y263 t266] : List Int)) := ⟨_, rfl⟩
        replace H : ((sip_Words.f k a0 a1 y268).bind fun t271 => ((roundhouseref2_Words.f k a0 a1 (([rd y263 t266] : List Int))).bind fun t275 => (if t271 = t275 then ((sip_Words.f k a0 a1 y263).bind fun t276 => ((roundhouseref2_Words.f k a0 a1 y263).bind fun t277 => (some (t276 == t277)))) else (some false)))) = some r := by first | (rw [hy268]; with_reducible exact H) | (have H2_ := (Option.bind_some _ _).symm.trans H; rw [hy268]; with_reducible exact H2_) | (have H2_ := (Option.bind_some _ _).symm.trans H; with_reducible exact H2_) | with_reducible exact H | (rw [hy268]; exact H) | exact H
        have Ny268 := Aside0.mk hy268
        clear hy268
        replace H := Option.bind_eq_some_iff.mp H
        obtain ⟨t271, A100, H⟩ := H
        replace H : ((roundhouseref2_Words.f k a0 a1 (([rd y263 t266] : List Int))).bind fun t275 => (if t271 = t275 then ((sip_Words.f k a0 a1 y263).bind fun t276 => ((roundhouseref2_Words.f k a0 a1 y263).bind fun t277 => (some (t276 == t277)))) else (some false))) = some r := H
        have A10 := Aside0.mk A100
        clear A100
        obtain ⟨y272, hy272⟩ : ∃ y_ : List Int, y_ = (([rd y263 t266] : List Int)) := ⟨_, rfl⟩
        replace H : ((roundhouseref2_Words.f k a0 a1 y272).bind fun t275 => (if t271 = t275 then ((sip_Words.f k a0 a1 y263).bind fun t276 => ((roundhouseref2_Words.f k a0 a1 y263).bind fun t277 => (some (t276 == t277)))) else (some false))) = some r := by first | (rw [hy272]; with_reducible exact H) | (have H2_ := (Option.bind_some _ _).symm.trans H; rw [hy272]; with_reducible exact H2_) | (have H2_ := (Option.bind_some _ _).symm.trans H; with_reducible exact H2_) | with_reducible exact H | (rw [hy272]; exact H) | exact H
        have Ny272 := Aside0.mk hy272
        clear hy272
        replace H := Option.bind_eq_some_iff.mp H
        obtain ⟨t275, A110, H⟩ := H
        replace H : (if t271 = t275 then ((sip_Words.f k a0 a1 y263).bind fun t276 => ((roundhouseref2_Words.f k a0 a1 y263).bind fun t277 => (some (t276 == t277)))) else (some false)) = some r := H
        have A11 := Aside0.mk A110
        clear A110
        by_cases c12 : t271 = t275
        · rw [if_pos c12] at H
          have c12b0 : (t271 == t275) = true := beq_iff_eq.mpr c12
          have c12b1 : (t271 != t275) = false := bne_eq_false_iff_eq.mpr c12
          clear c12
          replace H := Option.bind_eq_some_iff.mp H
          obtain ⟨t276, A130, H⟩ := H
          replace H : ((roundhouseref2_Words.f k a0 a1 y263).bind fun t277 => (some (t276 == t277))) = some r := H
          have A13 := Aside0.mk A130
          clear A130
          replace H := Option.bind_eq_some_iff.mp H
          obtain ⟨t277, A140, H⟩ := H
          replace H : (some (t276 == t277)) = some r := H
          have A14 := Aside0.mk A140
          clear A140
          obtain rfl := Option.some.inj H
          go_enter Try.func11, Try.ntmps11
          try go_wp2_with (first | ((with_reducible refine gate_callee (f := 13) rfl ?_); refine goesL_ (some 12) rfl rfl Try.func13 (by kernel_rfl) rfl #[] rfl (by (try simp only [List.map_toArray, List.map_cons, List.map_nil]); first | done | rfl | (simp only [List.length_drop, List.length_take]; rfl)) ?_; (with_reducible refine (roundhouselaw2_known.calls k  true _ A5.out).mono ?_); rintro e w15 ⟨rfl, hb⟩; refine ⟨_, rfl, ?_⟩; have n0_ := Aside0.mk (below_step (by repeat (first | (with_reducible first | exact HB.out | apply below_alloc | apply pw_below_drewN | apply below_drew1) | exact HB.out)) hb); clear HB; have HB := n0_; clear n0_; (try clear hb); (try clear hb2); (try clear hk); (try clear hi)) | ((with_reducible refine gate_dst (N := 9) rfl ?_); refine box_event ?hg (N := 9) ?hd (cs := #[.int .u64 0, .int .u64 0]) (t := 26) ?hr ?_; (case hd => rfl); (case hg => rfl); (case hr => first | (go_simp; done) | (go_simp; rfl)); intro gb262 hg w16 hbox hb; have n0_ := Aside0.mk (below_step (by repeat (first | (with_reducible first | exact HB.out | apply below_alloc | apply pw_below_drewN | apply below_drew1) | exact HB.out)) hb); have n1_ := Aside0.mk (hbox); have n2_ := Aside0.mk ((by rw [hg]; exact (below_size (by repeat (first | (with_reducible first | exact HB.out | apply below_alloc | apply pw_below_drewN | apply below_drew1) | exact HB.out))) : w.heap.size ≤ gb262)); have n3_ := Aside0.mk ((by rw [hg]; exact (below_size (by repeat (first | (with_reducible first | exact HB.out | apply below_alloc | apply pw_below_drewN | apply below_drew1) | exact HB.out))) : w.heap.size ≤ gb262)); clear HB; have HB := n0_; have BK262 := n1_; have GW262 := n2_; have GE262 := n3_; clear n0_ n1_ n2_ n3_; clear hb hbox hg; have hcz17_0 : w16.cell? ⟨gb262, 0, none⟩ = some (.int .u64 0) := (blk_cell BK262.out 0).trans rfl; have hcz17_1 : w16.cell? ⟨gb262, 1, none⟩ = some (.int .u64 0) := (blk_cell BK262.out 1).trans rfl; have hfz17_0 := blk_frozen BK262.out 0; have hfz17_1 := blk_frozen BK262.out 1) | ((with_reducible refine gate_dst (N := 20) rfl ?_); refine Kd.R_lit (Kd.int .i64) _ 3 ?hg (N := 20) ?hd (xs := ([a2, wrap64 (-a2), (-1), 9223372036854775807, (-9223372036854775808), 0] : List Int)) (inner := [.int .i64 a2, .int .i64 (wrap64 (-a2)), .int .i64 (-1), .int .i64 9223372036854775807, .int .i64 (-9223372036854775808), .int .i64 0]) (ok := fun _ => True) (okp := fun _ => True) ?hr ?hp (fun _ hk => hk) trivial (Below.refl _ _) (Nat.le_refl _) (by simp) ?_; (case hd => rfl); (case hg => rfl); (case hr => first | (go_simp; done) | (go_simp; rfl)); (case hp => exact (Reps.one (show Kd.M (Kd.int .i64) _ _ _ a2 [.int .i64 a2] from rfl) (Reps.one (show Kd.M (Kd.int .i64) _ _ _ (wrap64 (-a2)) [.int .i64 (wrap64 (-a2))] from rfl) (Reps.one (show Kd.M (Kd.int .i64) _ _ _ (-1) [.int .i64 (-1)] from rfl) (Reps.one (show Kd.M (Kd.int .i64) _ _ _ 9223372036854775807 [.int .i64 9223372036854775807] from rfl) (Reps.one (show Kd.M (Kd.int .i64) _ _ _ (-9223372036854775808) [.int .i64 (-9223372036854775808)] from rfl) (Reps.one (show Kd.M (Kd.int .i64) _ _ _ 0 [.int .i64 0] from rfl) (Reps.none _ _)))))))); intro v264 w18 ho19 hb hg_ hnew_; clear hg_ hnew_; (first | rw [← Ny263.out] at ho19 | (simp only [Int.reduceToNat] at ho19; rw [← Ny263.out] at ho19)); have n0_ := Aside0.mk (Kd.R_lower ho19 (below_size (by repeat (first | (with_reducible first | exact HB.out | apply below_alloc | apply pw_below_drewN | apply below_drew1 | refine below_set ?_ GE262.out) | exact HB.out)))); have n1_ := Aside0.mk (blk_below (g := gb262) (o := .cells #[.int .u64 a0, .int .u64 a1] 26 (0, 0)) (by (with_reducible repeat (first | refine blk_drewN ?_ _ | refine blk_drew ?_ | refine blk_alloc ?_ _)); refine blk_put (cs := #[.int .u64 a0, .int .u64 0]) ?_ 1 _ rfl; (with_reducible repeat (first | refine blk_drewN ?_ _ | refine blk_drew ?_ | refine blk_alloc ?_ _)); refine blk_put (cs := #[.int .u64 0, .int .u64 0]) ?_ 0 _ rfl; (with_reducible repeat (first | refine blk_drewN ?_ _ | refine blk_drew ?_ | refine blk_alloc ?_ _)); exact BK262.out) hb); have n2_ := Aside0.mk (below_step (by repeat (first | (with_reducible first | exact HB.out | apply below_alloc | apply pw_below_drewN | apply below_drew1 | refine below_set ?_ GE262.out) | exact HB.out)) hb); clear BK262; clear HB; have HO265 := n0_; have BK262 := n1_; have HB := n2_; clear n0_ n1_ n2_; clear hb ho19) | ((with_reducible refine gate_callee (f := 14) rfl ?_); refine goesL_ (some 23) rfl rfl Try.func14 (by kernel_rfl) rfl #[.int .i64 a3, .int .i64 6] rfl (by (try simp only [List.map_toArray, List.map_cons, List.map_nil]); first | done | rfl | (simp only [List.length_drop, List.length_take]; rfl)) ?_; (with_reducible refine (roundhouselaw2_within.calls a3 6 t266 _ A7.out).mono ?_); rintro e w' ⟨rfl, ⟨nd, rfl⟩⟩; refine ⟨_, rfl, ?_⟩; obtain ⟨Ao20, co20, eo20⟩ := Kd.R_slice HO265.out; subst eo20; have p267 : 0 ≤ (t266 : Int) := of_decide_eq_true (by first | (with_reducible assumption) | assumption); have q267 : t266 < (y263.length : Int) := of_decide_eq_true (by first | (with_reducible assumption) | assumption); obtain ⟨ad267, e267, hx267_0⟩ := Kd.at_int (Kd.R_reads' HO265.out).2.2 t266 p267 q267; cases e267; replace p267 := eq_true p267; replace q267 := eq_true q267))
          (try (rw [drewN_self w18]; generalize hq_ : World.drewN w18 _ = w18; have n0_ : Aside0 (Kd.R (Kd.int .i64) 3 w18 w.heap.size (fun _ => True) (.slice (some ad267) y263.length co20) y263) := ⟨by rw [← hq_]; exact (by (with_reducible repeat (first | apply Kd.R_alloc | apply Kd.R_drewN | apply Kd.R_drew)); exact HO265.out)⟩; have n1_ : Aside0 (w18.heap[gb262]? = some (.cells #[.int .u64 a0, .int .u64 a1] 26 (0, 0))) := ⟨by rw [← hq_]; exact (by (with_reducible repeat (first | refine blk_drewN ?_ _ | refine blk_drew ?_ | refine blk_alloc ?_ _)); exact BK262.out)⟩; have n2_ : Aside0 (Below w.heap.size w w18) := ⟨by rw [← hq_]; exact (by repeat (first | (with_reducible first | exact HB.out | apply below_alloc | apply pw_below_drewN | apply below_drew1 | refine below_set ?_ GE262.out) | exact HB.out))⟩; clear HO265 BK262 HB hq_; have HO265 := n0_; have BK262 := n1_; have HB := n2_; clear n0_ n1_ n2_))
          have n0_ := Aside0.mk (Kd.R_drew HO265.out)
          have n1_ := Aside0.mk (blk_drew BK262.out)
          have n2_ := Aside0.mk (below_drew1 HB.out)
          clear HO265
          clear BK262
          clear HB
          have HO265 := n0_
          have BK262 := n1_
          have HB := n2_
          clear n0_ n1_ n2_
          refine start_ (n := 19) (S := fun w' => True) (ds := []) #[false, false, false, false, false, false, false, false, false, false, false, false, false, false, false, false, false, false, false] (by kernel_rfl) rfl rfl trivial (fun hHeld => ?_); refine with_tabW roundhouselaw2_SipNumbers.tab6 roundhouselaw2_SipNumbers.bits6 (fun HT_ HW_ => ?_)
          generalize w18.drew = w21 at HO265 BK262 HB hHeld ⊢
          refine pure_ (i := 1) (N := some 27) (v := ?_) (a' := ?_) #[false, true, false, false, false, false, false, false, false, false, false, false, false, false, false, false, false, false, false] rfl rfl (any_of HT_.out (by kernel_rfl)) (fun _ _ _ h => h) (Or.inl ⟨by rfl, ?_⟩) ?_ ?_
          rotate_left
          · intro w'
            go_simp
            with_reducible rfl
          rotate_left
          · simp only [Act.put, List.setIfInBounds_toArray, List.set_cons_zero, List.set_cons_succ, i64_w, i32_w]
            rfl
          refine pure_ (i := 5) (N := some 31) (v := ?_) (a' := ?_) #[false, true, false, false, false, true, false, false, false, false, false, false, false, false, false, false, false, false, false] rfl rfl (any_of HT_.out (by kernel_rfl)) (fun _ _ _ h => h) (Or.inl ⟨by rfl, ?_⟩) ?_ ?_
          rotate_left
          · intro w'
            go_simp
            with_reducible rfl
          rotate_left
          · simp only [Act.put, List.setIfInBounds_toArray, List.set_cons_zero, List.set_cons_succ, i64_w, i32_w]
            rfl
          refine inv_at [0, 2, 3, 4, 6, 7, 8, 9, 10, 11, 12, 13, 14, 15, 16, 17, 18] (fun a0_ b a w' => ∃ (v269 : Value) (v273 : Value), a = putSel a0_ b [(0, 26, .agg #[.int .u64 a0, .int .u64 a1]), (2, 28, v269), (3, 29, .int .u64 t271), (4, 30, .agg #[.int .u64 a0, .int .u64 a1]), (6, 32, v273), (7, 33, .int .u64 t275), (8, 34, .bool (t271 == t275)), (9, 35, .bool (t271 == t275)), (10, 36, .agg #[.int .u64 a0, .int .u64 a1]), (11, 37, .slice (some ad267) y263.length co20), (12, 38, .int .u64 t276), (13, 39, .agg #[.int .u64 a0, .int .u64 a1]), (14, 40, .slice (some ad267) y263.length co20), (15, 41, .int .u64 t277), (16, 42, .bool (t276 == t277)), (17, 43, .bool (t276 == t277)), (18, 8, .bool (t276 == t277))] ∧ (Kd.R (Kd.int .i64) 3 w' w.heap.size (fun _ => True) (.slice (some ad267) y263.length co20) y263) ∧ (w'.heap[gb262]? = some (.cells #[.int .u64 a0, .int .u64 a1] 26 (0, 0))) ∧ (Below w.heap.size w w') ∧ (b 2 = true → Kd.R (Kd.int .i64) 3 w' w.heap.size (fun k_ => some k_ ≠ (.slice (some ad267) y263.length co20 : Value).ownBlock) v269 y268) ∧ (b 6 = true → Kd.R (Kd.int .i64) 3 w' w.heap.size (fun k_ => some k_ ≠ (.slice (some ad267) y263.length co20 : Value).ownBlock) v273 y272)) HT_.out HW_.out (by kernel_rfl) (by kernel_rfl) ?_ ?_ ?_
          · exact ⟨.bool false, .bool false, by simp only [putSel, Bool.false_eq_true, if_false], HO265.out, BK262.out, HB.out, fun h_ => absurd h_ (by decide), fun h_ => absurd h_ (by decide)⟩
          · skip
            clear BK262 HB HO265
            refine steps_cons ?_ ?_
            · rintro b a w' ⟨v269, v273, ha, Q_HO265, Q_BK262, Q_HB, Q_HO270, Q_HO274⟩ hb_ hon hoff
              refine ⟨_, rfl, fun K hK => ?_⟩
              have e9 : a.tmps[9]? = some (.pointer (some ⟨gb262, 0, none⟩)) := by rw [ha]; exact (putSel_off rfl).trans rfl
              replace ha := Aside0.mk ha
              have HO265 := Aside0.mk Q_HO265
              have BK262 := Aside0.mk Q_BK262
              have HB := Aside0.mk Q_HB
              have hc0_ : w'.cell? ⟨gb262, 0, none⟩ = some (.int .u64 a0) := (blk_cell BK262.out 0).trans rfl
              have hc1_ : w'.cell? ⟨gb262, 1, none⟩ = some (.int .u64 a1) := (blk_cell BK262.out 1).trans rfl
              refine value_ (w1 := w') (v := .agg #[.int .u64 a0, .int .u64 a1]) (by rfl) rfl ?_ ?_
              · go_simp
                (try simp only [i64_w])
                try rfl
              refine hK.out _ _ ⟨v269, v273, (by rw [ha.out]; exact putSel_upk 0 hb_ rfl rfl rfl), Q_HO265, Q_BK262, Q_HB, Q_HO270, Q_HO274⟩
            refine steps_cons ?_ ?_
            · rintro b a w' ⟨v269, v273, ha, Q_HO265, Q_BK262, Q_HB, Q_HO270, Q_HO274⟩ hb_ hon hoff
              refine ⟨_, rfl, fun K hK => ?_⟩
              have e27 : a.tmps[27]? = some (.int .i64 (rd y263 t266)) := by rw [ha]; exact (putSel_off rfl).trans rfl
              replace ha := Aside0.mk ha
              have HO265 := Aside0.mk Q_HO265
              have BK262 := Aside0.mk Q_BK262
              have HB := Aside0.mk Q_HB
              refine Kd.R_lit_step (Kd.int .i64) _ 3 ?hg (N := 28) ?hd (xs := ([rd y263 t266] : List Int)) (inner := [.int .i64 (rd y263 t266)]) (ok := fun _ => True) (okp := fun _ => True) ?hr ?hp (fun _ hk => hk) trivial (Below.refl _ _) (Nat.le_refl _) (by simp) ?_; (case hd => rfl); (case hg => rfl); (case hr => first | (go_simp; done) | (go_simp; rfl)); (case hp => exact (Reps.one (show Kd.M (Kd.int .i64) _ _ _ (rd y263 t266) [.int .i64 (rd y263 t266)] from rfl) (Reps.none _ _)))
              intro v269 w22 ho23 hb hg_ hnew_
              clear hg_ hnew_
              (first | rw [← Ny268.out] at ho23 | (simp only [Int.reduceToNat] at ho23; rw [← Ny268.out] at ho23))
              have n0_ := Aside0.mk (Kd.R_elder' (by (with_reducible repeat (first | apply Kd.R_alloc | apply Kd.R_drewN | apply Kd.R_drew)); exact HO265.out) (Kd.R_base ho23) hb)
              have n1_ := Aside0.mk (Kd.R_lower (Kd.R_new' ho23 (Kd.R_lt (by (with_reducible repeat (first | apply Kd.R_alloc | apply Kd.R_drewN | apply Kd.R_drew)); exact HO265.out))) (below_size (by repeat (first | (with_reducible first | exact HB.out | apply below_alloc | apply pw_below_drewN | apply below_drew1 | refine below_set ?_ GE262.out) | exact HB.out))))
              have n2_ := Aside0.mk (blk_below (g := gb262) (o := .cells #[.int .u64 a0, .int .u64 a1] 26 (0, 0)) (by (with_reducible repeat (first | refine blk_drewN ?_ _ | refine blk_drew ?_ | refine blk_alloc ?_ _)); exact BK262.out) hb)
              have n3_ := Aside0.mk (below_step (by repeat (first | (with_reducible first | exact HB.out | apply below_alloc | apply pw_below_drewN | apply below_drew1 | refine below_set ?_ GE262.out) | exact HB.out)) hb)
              have z_HO274 := fun (h0_ : b 6 = true) => (show Kd.R (Kd.int .i64) 3 w22 w.heap.size (fun k_ => some k_ ≠ (.slice (some ad267) y263.length co20 : Value).ownBlock) v273 y272 from by first | exact (Kd.R_elder' (by (with_reducible repeat (first | apply Kd.R_alloc | apply Kd.R_drewN | apply Kd.R_drew)); exact (Q_HO274 h0_)) (Kd.R_base ho23) hb) | exact Kd.R_mono (Kd.R_elder' (by (with_reducible repeat (first | apply Kd.R_alloc | apply Kd.R_drewN | apply Kd.R_drew)); exact (Q_HO274 h0_)) (Kd.R_base ho23) hb) (fun _ h_ => by first | trivial | exact h_ | exact h_.1))
              clear HO265
              clear BK262
              clear HB
              have HO265 := n0_
              have HO270 := n1_
              have BK262 := n2_
              have HB := n3_
              clear n0_ n1_ n2_ n3_
              clear hb ho23
              refine hK.out _ _ ⟨v269, v273, (by rw [ha.out]; exact putSel_upk 1 hb_ rfl rfl rfl), (by (with_reducible repeat (first | apply Kd.R_alloc | apply Kd.R_drewN | apply Kd.R_drew)); exact Kd.R_mono HO265.out (fun _ hk => by first | exact hk.2 | trivial)), (by (with_reducible repeat (first | refine blk_drewN ?_ _ | refine blk_drew ?_ | refine blk_alloc ?_ _)); exact BK262.out), (by repeat (first | (with_reducible first | exact HB.out | apply below_alloc | apply pw_below_drewN | apply below_drew1 | refine below_set ?_ GE262.out) | exact HB.out)), fun _ => (by (with_reducible repeat (first | apply Kd.R_alloc | apply Kd.R_drewN | apply Kd.R_drew)); exact Kd.R_mono HO270.out (fun _ hk => by first | exact hk.2 | trivial)), z_HO274⟩
            refine steps_cons ?_ ?_
            · rintro b a w' ⟨v269, v273, ha, Q_HO265, Q_BK262, Q_HB, Q_HO270, Q_HO274⟩ hb_ hon hoff
              refine ⟨_, rfl, fun K hK => ?_⟩
              have e26 : a.tmps[26]? = some (.agg #[.int .u64 a0, .int .u64 a1]) := by rw [ha]; exact putSel_on (e := (0, 26, .agg #[.int .u64 a0, .int .u64 a1])) 0 rfl rfl (hon 0 (by kernel_rfl)) rfl
              have e28 : a.tmps[28]? = some (v269) := by rw [ha]; exact putSel_on (e := (2, 28, v269)) 1 rfl rfl (hon 2 (by kernel_rfl)) rfl
              replace ha := Aside0.mk ha
              have HO265 := Aside0.mk Q_HO265
              have BK262 := Aside0.mk Q_BK262
              have HB := Aside0.mk Q_HB
              have HO270 := Aside0.mk (Q_HO270 (hon 2 (by kernel_rfl)))
              obtain ⟨Ao25, co25, eo25⟩ := Kd.R_slice HO270.out
              (first | subst eo25 | (injection eo25 with f1_ f2_ f3_; have f4_ := f1_.symm; have f5_ := f3_.symm; clear f1_ f2_ f3_; subst f4_; subst f5_))
              refine goes_ Try.func19 (by kernel_rfl) rfl #[.agg #[.int .u64 a0, .int .u64 a1], .slice Ao25 y268.length co25] (by rfl) rfl rfl (by first | (simp only [List.map_toArray, List.map_cons, List.map_nil, Act.eval, Array.getD_eq_getD_getElem?, Option.getD_some, e26, e28]; done) | (simp only [List.map_toArray, List.map_cons, List.map_nil, Act.eval, Array.getD_eq_getD_getElem?, Option.getD_some, e26, e28]; rfl)) ?_
              with_reducible refine (sip_Words.calls k a0 a1 _ _ y268 t271 _ ?side1 ?side2 A10.out).mono ?_
              (case side1 => repeat (first | exact (Kd.R_reads' HO270.out).2.2 | (with_reducible refine Kd.C_alloc ?_ _) | (with_reducible refine Kd.C_drewN ?_ _) | (with_reducible refine Kd.C_drew ?_)))
              (case side2 => exact (Kd.R_reads' HO270.out).2.1)
              rintro e w26 ⟨rfl, hb⟩
              refine ⟨_, rfl, ?_⟩
              have n0_ := Aside0.mk (Kd.R_below (by (with_reducible repeat (first | apply Kd.R_alloc | apply Kd.R_drewN | apply Kd.R_drew)); exact HO265.out) hb)
              have n1_ := Aside0.mk (Kd.R_below (by (with_reducible repeat (first | apply Kd.R_alloc | apply Kd.R_drewN | apply Kd.R_drew)); exact HO270.out) hb)
              have n2_ := Aside0.mk (blk_below (g := gb262) (o := .cells #[.int .u64 a0, .int .u64 a1] 26 (0, 0)) (by (with_reducible repeat (first | refine blk_drewN ?_ _ | refine blk_drew ?_ | refine blk_alloc ?_ _)); exact BK262.out) hb)
              have n3_ := Aside0.mk (below_step (by repeat (first | (with_reducible first | exact HB.out | apply below_alloc | apply pw_below_drewN | apply below_drew1 | refine below_set ?_ GE262.out) | exact HB.out)) hb)
              have z_HO274 := fun (h0_ : b 6 = true) => (show Kd.R (Kd.int .i64) 3 w26 w.heap.size (fun k_ => some k_ ≠ (.slice (some ad267) y263.length co20 : Value).ownBlock) v273 y272 from by first | exact (Kd.R_below (by (with_reducible repeat (first | apply Kd.R_alloc | apply Kd.R_drewN | apply Kd.R_drew)); exact (Q_HO274 h0_)) hb) | exact Kd.R_mono (Kd.R_below (by (with_reducible repeat (first | apply Kd.R_alloc | apply Kd.R_drewN | apply Kd.R_drew)); exact (Q_HO274 h0_)) hb) (fun _ h_ => by first | trivial | exact h_ | exact h_.1))
              clear HO265
              clear HO270
              clear BK262
              clear HB
              have HO265 := n0_
              have HO270 := n1_
              have BK262 := n2_
              have HB := n3_
              clear n0_ n1_ n2_ n3_
              (try clear hb)
              (try clear hb2)
              (try clear hk)
              (try clear hi)
              refine hK.out _ _ ⟨.slice Ao25 y268.length co25, v273, (by rw [ha.out]; exact putSel_upk 2 hb_ rfl rfl rfl), (by (with_reducible repeat (first | apply Kd.R_alloc | apply Kd.R_drewN | apply Kd.R_drew)); exact HO265.out), (by (with_reducible repeat (first | refine blk_drewN ?_ _ | refine blk_drew ?_ | refine blk_alloc ?_ _)); exact BK262.out), (by repeat (first | (with_reducible first | exact HB.out | apply below_alloc | apply pw_below_drewN | apply below_drew1 | refine below_set ?_ GE262.out) | exact HB.out)), fun _ => (by (with_reducible repeat (first | apply Kd.R_alloc | apply Kd.R_drewN | apply Kd.R_drew)); exact HO270.out), z_HO274⟩
            refine steps_cons ?_ ?_
            · rintro b a w' ⟨v269, v273, ha, Q_HO265, Q_BK262, Q_HB, Q_HO270, Q_HO274⟩ hb_ hon hoff
              refine ⟨_, rfl, fun K hK => ?_⟩
              have e9 : a.tmps[9]? = some (.pointer (some ⟨gb262, 0, none⟩)) := by rw [ha]; exact (putSel_off rfl).trans rfl
              replace ha := Aside0.mk ha
              have HO265 := Aside0.mk Q_HO265
              have BK262 := Aside0.mk Q_BK262
              have HB := Aside0.mk Q_HB
              have hc0_ : w'.cell? ⟨gb262, 0, none⟩ = some (.int .u64 a0) := (blk_cell BK262.out 0).trans rfl
              have hc1_ : w'.cell? ⟨gb262, 1, none⟩ = some (.int .u64 a1) := (blk_cell BK262.out 1).trans rfl
              refine value_ (w1 := w') (v := .agg #[.int .u64 a0, .int .u64 a1]) (by rfl) rfl ?_ ?_
              · go_simp
                (try simp only [i64_w])
                try rfl
              refine hK.out _ _ ⟨v269, v273, (by rw [ha.out]; exact putSel_upk 3 hb_ rfl rfl rfl), Q_HO265, Q_BK262, Q_HB, Q_HO270, Q_HO274⟩
            refine steps_cons ?_ ?_
            · rintro b a w' ⟨v269, v273, ha, Q_HO265, Q_BK262, Q_HB, Q_HO270, Q_HO274⟩ hb_ hon hoff
              refine ⟨_, rfl, fun K hK => ?_⟩
              have e31 : a.tmps[31]? = some (.int .i64 (rd y263 t266)) := by rw [ha]; exact (putSel_off rfl).trans rfl
              replace ha := Aside0.mk ha
              have HO265 := Aside0.mk Q_HO265
              have BK262 := Aside0.mk Q_BK262
              have HB := Aside0.mk Q_HB
              refine Kd.R_lit_step (Kd.int .i64) _ 3 ?hg (N := 32) ?hd (xs := ([rd y263 t266] : List Int)) (inner := [.int .i64 (rd y263 t266)]) (ok := fun _ => True) (okp := fun _ => True) ?hr ?hp (fun _ hk => hk) trivial (Below.refl _ _) (Nat.le_refl _) (by simp) ?_; (case hd => rfl); (case hg => rfl); (case hr => first | (go_simp; done) | (go_simp; rfl)); (case hp => exact (Reps.one (show Kd.M (Kd.int .i64) _ _ _ (rd y263 t266) [.int .i64 (rd y263 t266)] from rfl) (Reps.none _ _)))
              intro v273 w22 ho23 hb hg_ hnew_
              clear hg_ hnew_
              (first | rw [← Ny272.out] at ho23 | (simp only [Int.reduceToNat] at ho23; rw [← Ny272.out] at ho23))
              have n0_ := Aside0.mk (Kd.R_elder' (by (with_reducible repeat (first | apply Kd.R_alloc | apply Kd.R_drewN | apply Kd.R_drew)); exact HO265.out) (Kd.R_base ho23) hb)
              have n1_ := Aside0.mk (Kd.R_lower (Kd.R_new' ho23 (Kd.R_lt (by (with_reducible repeat (first | apply Kd.R_alloc | apply Kd.R_drewN | apply Kd.R_drew)); exact HO265.out))) (below_size (by repeat (first | (with_reducible first | exact HB.out | apply below_alloc | apply pw_below_drewN | apply below_drew1 | refine below_set ?_ GE262.out) | exact HB.out))))
              have n2_ := Aside0.mk (blk_below (g := gb262) (o := .cells #[.int .u64 a0, .int .u64 a1] 26 (0, 0)) (by (with_reducible repeat (first | refine blk_drewN ?_ _ | refine blk_drew ?_ | refine blk_alloc ?_ _)); exact BK262.out) hb)
              have n3_ := Aside0.mk (below_step (by repeat (first | (with_reducible first | exact HB.out | apply below_alloc | apply pw_below_drewN | apply below_drew1 | refine below_set ?_ GE262.out) | exact HB.out)) hb)
              have z_HO270 := fun (h0_ : b 2 = true) => (show Kd.R (Kd.int .i64) 3 w22 w.heap.size (fun k_ => some k_ ≠ (.slice (some ad267) y263.length co20 : Value).ownBlock) v269 y268 from by first | exact (Kd.R_elder' (by (with_reducible repeat (first | apply Kd.R_alloc | apply Kd.R_drewN | apply Kd.R_drew)); exact (Q_HO270 h0_)) (Kd.R_base ho23) hb) | exact Kd.R_mono (Kd.R_elder' (by (with_reducible repeat (first | apply Kd.R_alloc | apply Kd.R_drewN | apply Kd.R_drew)); exact (Q_HO270 h0_)) (Kd.R_base ho23) hb) (fun _ h_ => by first | trivial | exact h_ | exact h_.1))
              clear HO265
              clear BK262
              clear HB
              have HO265 := n0_
              have HO274 := n1_
              have BK262 := n2_
              have HB := n3_
              clear n0_ n1_ n2_ n3_
              clear hb ho23
              refine hK.out _ _ ⟨v269, v273, (by rw [ha.out]; exact putSel_upk 4 hb_ rfl rfl rfl), (by (with_reducible repeat (first | apply Kd.R_alloc | apply Kd.R_drewN | apply Kd.R_drew)); exact Kd.R_mono HO265.out (fun _ hk => by first | exact hk.2 | trivial)), (by (with_reducible repeat (first | refine blk_drewN ?_ _ | refine blk_drew ?_ | refine blk_alloc ?_ _)); exact BK262.out), (by repeat (first | (with_reducible first | exact HB.out | apply below_alloc | apply pw_below_drewN | apply below_drew1 | refine below_set ?_ GE262.out) | exact HB.out)), z_HO270, fun _ => (by (with_reducible repeat (first | apply Kd.R_alloc | apply Kd.R_drewN | apply Kd.R_drew)); exact Kd.R_mono HO274.out (fun _ hk => by first | exact hk.2 | trivial))⟩
            refine steps_cons ?_ ?_
            · rintro b a w' ⟨v269, v273, ha, Q_HO265, Q_BK262, Q_HB, Q_HO270, Q_HO274⟩ hb_ hon hoff
              refine ⟨_, rfl, fun K hK => ?_⟩
              have e30 : a.tmps[30]? = some (.agg #[.int .u64 a0, .int .u64 a1]) := by rw [ha]; exact putSel_on (e := (4, 30, .agg #[.int .u64 a0, .int .u64 a1])) 3 rfl rfl (hon 4 (by kernel_rfl)) rfl
              have e32 : a.tmps[32]? = some (v273) := by rw [ha]; exact putSel_on (e := (6, 32, v273)) 4 rfl rfl (hon 6 (by kernel_rfl)) rfl
              replace ha := Aside0.mk ha
              have HO265 := Aside0.mk Q_HO265
              have BK262 := Aside0.mk Q_BK262
              have HB := Aside0.mk Q_HB
              have HO270 := Aside0.mk (Q_HO270 (hon 2 (by kernel_rfl)))
              have HO274 := Aside0.mk (Q_HO274 (hon 6 (by kernel_rfl)))
              obtain ⟨Ao29, co29, eo29⟩ := Kd.R_slice HO274.out
              (first | subst eo29 | (injection eo29 with f1_ f2_ f3_; have f4_ := f1_.symm; have f5_ := f3_.symm; clear f1_ f2_ f3_; subst f4_; subst f5_))
              refine goes_ Try.func20 (by kernel_rfl) rfl #[.agg #[.int .u64 a0, .int .u64 a1], .slice Ao29 y272.length co29] (by rfl) rfl rfl (by first | (simp only [List.map_toArray, List.map_cons, List.map_nil, Act.eval, Array.getD_eq_getD_getElem?, Option.getD_some, e30, e32]; done) | (simp only [List.map_toArray, List.map_cons, List.map_nil, Act.eval, Array.getD_eq_getD_getElem?, Option.getD_some, e30, e32]; rfl)) ?_
              with_reducible refine (roundhouseref2_Words.calls k a0 a1 _ _ y272 t275 _ ?side1 ?side2 A11.out).mono ?_
              (case side1 => repeat (first | exact (Kd.R_reads' HO274.out).2.2 | (with_reducible refine Kd.C_alloc ?_ _) | (with_reducible refine Kd.C_drewN ?_ _) | (with_reducible refine Kd.C_drew ?_)))
              (case side2 => exact (Kd.R_reads' HO274.out).2.1)
              rintro e w30 ⟨rfl, hb⟩
              refine ⟨_, rfl, ?_⟩
              have n0_ := Aside0.mk (Kd.R_below (by (with_reducible repeat (first | apply Kd.R_alloc | apply Kd.R_drewN | apply Kd.R_drew)); exact HO265.out) hb)
              have n1_ := Aside0.mk (Kd.R_below (by (with_reducible repeat (first | apply Kd.R_alloc | apply Kd.R_drewN | apply Kd.R_drew)); exact HO270.out) hb)
              have n2_ := Aside0.mk (Kd.R_below (by (with_reducible repeat (first | apply Kd.R_alloc | apply Kd.R_drewN | apply Kd.R_drew)); exact HO274.out) hb)
              have n3_ := Aside0.mk (blk_below (g := gb262) (o := .cells #[.int .u64 a0, .int .u64 a1] 26 (0, 0)) (by (with_reducible repeat (first | refine blk_drewN ?_ _ | refine blk_drew ?_ | refine blk_alloc ?_ _)); exact BK262.out) hb)
              have n4_ := Aside0.mk (below_step (by repeat (first | (with_reducible first | exact HB.out | apply below_alloc | apply pw_below_drewN | apply below_drew1 | refine below_set ?_ GE262.out) | exact HB.out)) hb)
              clear HO265
              clear HO270
              clear HO274
              clear BK262
              clear HB
              have HO265 := n0_
              have HO270 := n1_
              have HO274 := n2_
              have BK262 := n3_
              have HB := n4_
              clear n0_ n1_ n2_ n3_ n4_
              (try clear hb)
              (try clear hb2)
              (try clear hk)
              (try clear hi)
              refine hK.out _ _ ⟨v269, .slice Ao29 y272.length co29, (by rw [ha.out]; exact putSel_upk 5 hb_ rfl rfl rfl), (by (with_reducible repeat (first | apply Kd.R_alloc | apply Kd.R_drewN | apply Kd.R_drew)); exact HO265.out), (by (with_reducible repeat (first | refine blk_drewN ?_ _ | refine blk_drew ?_ | refine blk_alloc ?_ _)); exact BK262.out), (by repeat (first | (with_reducible first | exact HB.out | apply below_alloc | apply pw_below_drewN | apply below_drew1 | refine below_set ?_ GE262.out) | exact HB.out)), fun _ => (by (with_reducible repeat (first | apply Kd.R_alloc | apply Kd.R_drewN | apply Kd.R_drew)); exact HO270.out), fun _ => (by (with_reducible repeat (first | apply Kd.R_alloc | apply Kd.R_drewN | apply Kd.R_drew)); exact HO274.out)⟩
            refine steps_cons ?_ ?_
            · rintro b a w' ⟨v269, v273, ha, Q_HO265, Q_BK262, Q_HB, Q_HO270, Q_HO274⟩ hb_ hon hoff
              refine ⟨_, rfl, fun K hK => ?_⟩
              have e29 : a.tmps[29]? = some (.int .u64 t271) := by rw [ha]; exact putSel_on (e := (3, 29, .int .u64 t271)) 2 rfl rfl (hon 3 (by kernel_rfl)) rfl
              have e33 : a.tmps[33]? = some (.int .u64 t275) := by rw [ha]; exact putSel_on (e := (7, 33, .int .u64 t275)) 5 rfl rfl (hon 7 (by kernel_rfl)) rfl
              replace ha := Aside0.mk ha
              have HO265 := Aside0.mk Q_HO265
              have BK262 := Aside0.mk Q_BK262
              have HB := Aside0.mk Q_HB
              have HO270 := Aside0.mk (Q_HO270 (hon 2 (by kernel_rfl)))
              have HO274 := Aside0.mk (Q_HO274 (hon 6 (by kernel_rfl)))
              refine value_ (w1 := w') (v := .bool (t271 == t275)) (by rfl) rfl ?_ ?_
              · go_simp
                (try simp only [i64_w])
                try rfl
              refine hK.out _ _ ⟨v269, v273, (by rw [ha.out]; exact putSel_upk 6 hb_ rfl rfl rfl), Q_HO265, Q_BK262, Q_HB, Q_HO270, Q_HO274⟩
            refine steps_cons ?_ ?_
            · rintro b a w' ⟨v269, v273, ha, Q_HO265, Q_BK262, Q_HB, Q_HO270, Q_HO274⟩ hb_ hon hoff
              refine ⟨_, rfl, fun K hK => ?_⟩
              have e34 : a.tmps[34]? = some (.bool (t271 == t275)) := by rw [ha]; exact putSel_on (e := (8, 34, .bool (t271 == t275))) 6 rfl rfl (hon 8 (by kernel_rfl)) rfl
              replace ha := Aside0.mk ha
              have HO265 := Aside0.mk Q_HO265
              have BK262 := Aside0.mk Q_BK262
              have HB := Aside0.mk Q_HB
              have HO270 := Aside0.mk (Q_HO270 (hon 2 (by kernel_rfl)))
              have HO274 := Aside0.mk (Q_HO274 (hon 6 (by kernel_rfl)))
              refine value_ (w1 := w') (v := .bool (t271 == t275)) (by rfl) rfl ?_ ?_
              · go_simp
                (try simp only [i64_w])
                try rfl
              refine hK.out _ _ ⟨v269, v273, (by rw [ha.out]; exact putSel_upk 7 hb_ rfl rfl rfl), Q_HO265, Q_BK262, Q_HB, Q_HO270, Q_HO274⟩
            refine steps_cons ?_ ?_
            · rintro b a w' ⟨v269, v273, ha, Q_HO265, Q_BK262, Q_HB, Q_HO270, Q_HO274⟩ hb_ hon hoff
              refine ⟨_, rfl, fun K hK => ?_⟩
              have e9 : a.tmps[9]? = some (.pointer (some ⟨gb262, 0, none⟩)) := by rw [ha]; exact (putSel_off rfl).trans rfl
              have e35 : a.tmps[35]? = some (.bool (t271 == t275)) := by rw [ha]; exact putSel_on (e := (9, 35, .bool (t271 == t275))) 7 rfl rfl (hon 9 (by kernel_rfl)) rfl
              replace ha := Aside0.mk ha
              have HO265 := Aside0.mk Q_HO265
              have BK262 := Aside0.mk Q_BK262
              have HB := Aside0.mk Q_HB
              have HO270 := Aside0.mk (Q_HO270 (hon 2 (by kernel_rfl)))
              have HO274 := Aside0.mk (Q_HO274 (hon 6 (by kernel_rfl)))
              have hc0_ : w'.cell? ⟨gb262, 0, none⟩ = some (.int .u64 a0) := (blk_cell BK262.out 0).trans rfl
              have hc1_ : w'.cell? ⟨gb262, 1, none⟩ = some (.int .u64 a1) := (blk_cell BK262.out 1).trans rfl
              refine value_ (w1 := w') (v := .agg #[.int .u64 a0, .int .u64 a1]) (wanted_on rfl rfl rfl (e35.trans (by first | rfl | (simp [*]; done)))) rfl ?_ ?_
              · go_simp
                (try simp only [i64_w])
                try rfl
              refine hK.out _ _ ⟨v269, v273, (by rw [ha.out]; exact putSel_upk 8 hb_ rfl rfl rfl), Q_HO265, Q_BK262, Q_HB, Q_HO270, Q_HO274⟩
            refine steps_cons ?_ ?_
            · rintro b a w' ⟨v269, v273, ha, Q_HO265, Q_BK262, Q_HB, Q_HO270, Q_HO274⟩ hb_ hon hoff
              refine ⟨_, rfl, fun K hK => ?_⟩
              have e10 : a.tmps[10]? = some (.slice (some ad267) y263.length co20) := by rw [ha]; exact (putSel_off rfl).trans rfl
              have e35 : a.tmps[35]? = some (.bool (t271 == t275)) := by rw [ha]; exact putSel_on (e := (9, 35, .bool (t271 == t275))) 7 rfl rfl (hon 9 (by kernel_rfl)) rfl
              replace ha := Aside0.mk ha
              have HO265 := Aside0.mk Q_HO265
              have BK262 := Aside0.mk Q_BK262
              have HB := Aside0.mk Q_HB
              have HO270 := Aside0.mk (Q_HO270 (hon 2 (by kernel_rfl)))
              have HO274 := Aside0.mk (Q_HO274 (hon 6 (by kernel_rfl)))
              refine value_ (w1 := w') (v := .slice (some ad267) y263.length co20) (wanted_on rfl rfl rfl (e35.trans (by first | rfl | (simp [*]; done)))) rfl ?_ ?_
              · go_simp
                (try simp only [i64_w])
                try rfl
              refine hK.out _ _ ⟨v269, v273, (by rw [ha.out]; exact putSel_upk 9 hb_ rfl rfl rfl), Q_HO265, Q_BK262, Q_HB, Q_HO270, Q_HO274⟩
            refine steps_cons ?_ ?_
            · rintro b a w' ⟨v269, v273, ha, Q_HO265, Q_BK262, Q_HB, Q_HO270, Q_HO274⟩ hb_ hon hoff
              refine ⟨_, rfl, fun K hK => ?_⟩
              have e36 : a.tmps[36]? = some (.agg #[.int .u64 a0, .int .u64 a1]) := by rw [ha]; exact putSel_on (e := (10, 36, .agg #[.int .u64 a0, .int .u64 a1])) 8 rfl rfl (hon 10 (by kernel_rfl)) rfl
              have e37 : a.tmps[37]? = some (.slice (some ad267) y263.length co20) := by rw [ha]; exact putSel_on (e := (11, 37, .slice (some ad267) y263.length co20)) 9 rfl rfl (hon 11 (by kernel_rfl)) rfl
              have e35 : a.tmps[35]? = some (.bool (t271 == t275)) := by rw [ha]; exact putSel_on (e := (9, 35, .bool (t271 == t275))) 7 rfl rfl (hon 9 (by kernel_rfl)) rfl
              replace ha := Aside0.mk ha
              have HO265 := Aside0.mk Q_HO265
              have BK262 := Aside0.mk Q_BK262
              have HB := Aside0.mk Q_HB
              have HO270 := Aside0.mk (Q_HO270 (hon 2 (by kernel_rfl)))
              have HO274 := Aside0.mk (Q_HO274 (hon 6 (by kernel_rfl)))
              refine goes_ Try.func19 (by kernel_rfl) rfl #[.agg #[.int .u64 a0, .int .u64 a1], .slice (some ad267) y263.length co20] (by first | rfl | exact wanted_on rfl rfl rfl (e35.trans (by first | rfl | (simp [*]; done)))) rfl rfl (by first | (simp only [List.map_toArray, List.map_cons, List.map_nil, Act.eval, Array.getD_eq_getD_getElem?, Option.getD_some, e36, e37, e35]; done) | (simp only [List.map_toArray, List.map_cons, List.map_nil, Act.eval, Array.getD_eq_getD_getElem?, Option.getD_some, e36, e37, e35]; rfl)) ?_
              with_reducible refine (sip_Words.calls k a0 a1 _ _ y263 t276 _ ?side1 ?side2 A13.out).mono ?_
              (case side1 => repeat (first | exact (Kd.R_reads' HO265.out).2.2 | (with_reducible refine Kd.C_alloc ?_ _) | (with_reducible refine Kd.C_drewN ?_ _) | (with_reducible refine Kd.C_drew ?_)))
              (case side2 => exact (Kd.R_reads' HO265.out).2.1)
              rintro e w31 ⟨rfl, hb⟩
              refine ⟨_, rfl, ?_⟩
              have n0_ := Aside0.mk (Kd.R_below (by (with_reducible repeat (first | apply Kd.R_alloc | apply Kd.R_drewN | apply Kd.R_drew)); exact HO265.out) hb)
              have n1_ := Aside0.mk (Kd.R_below (by (with_reducible repeat (first | apply Kd.R_alloc | apply Kd.R_drewN | apply Kd.R_drew)); exact HO270.out) hb)
              have n2_ := Aside0.mk (Kd.R_below (by (with_reducible repeat (first | apply Kd.R_alloc | apply Kd.R_drewN | apply Kd.R_drew)); exact HO274.out) hb)
              have n3_ := Aside0.mk (blk_below (g := gb262) (o := .cells #[.int .u64 a0, .int .u64 a1] 26 (0, 0)) (by (with_reducible repeat (first | refine blk_drewN ?_ _ | refine blk_drew ?_ | refine blk_alloc ?_ _)); exact BK262.out) hb)
              have n4_ := Aside0.mk (below_step (by repeat (first | (with_reducible first | exact HB.out | apply below_alloc | apply pw_below_drewN | apply below_drew1 | refine below_set ?_ GE262.out) | exact HB.out)) hb)
              clear HO265
              clear HO270
              clear HO274
              clear BK262
              clear HB
              have HO265 := n0_
              have HO270 := n1_
              have HO274 := n2_
              have BK262 := n3_
              have HB := n4_
              clear n0_ n1_ n2_ n3_ n4_
              (try clear hb)
              (try clear hb2)
              (try clear hk)
              (try clear hi)
              refine hK.out _ _ ⟨v269, v273, (by rw [ha.out]; exact putSel_upk 10 hb_ rfl rfl rfl), (by (with_reducible repeat (first | apply Kd.R_alloc | apply Kd.R_drewN | apply Kd.R_drew)); exact HO265.out), (by (with_reducible repeat (first | refine blk_drewN ?_ _ | refine blk_drew ?_ | refine blk_alloc ?_ _)); exact BK262.out), (by repeat (first | (with_reducible first | exact HB.out | apply below_alloc | apply pw_below_drewN | apply below_drew1 | refine below_set ?_ GE262.out) | exact HB.out)), fun _ => (by (with_reducible repeat (first | apply Kd.R_alloc | apply Kd.R_drewN | apply Kd.R_drew)); exact HO270.out), fun _ => (by (with_reducible repeat (first | apply Kd.R_alloc | apply Kd.R_drewN | apply Kd.R_drew)); exact HO274.out)⟩
            refine steps_cons ?_ ?_
            · rintro b a w' ⟨v269, v273, ha, Q_HO265, Q_BK262, Q_HB, Q_HO270, Q_HO274⟩ hb_ hon hoff
              refine ⟨_, rfl, fun K hK => ?_⟩
              have e9 : a.tmps[9]? = some (.pointer (some ⟨gb262, 0, none⟩)) := by rw [ha]; exact (putSel_off rfl).trans rfl
              have e35 : a.tmps[35]? = some (.bool (t271 == t275)) := by rw [ha]; exact putSel_on (e := (9, 35, .bool (t271 == t275))) 7 rfl rfl (hon 9 (by kernel_rfl)) rfl
              replace ha := Aside0.mk ha
              have HO265 := Aside0.mk Q_HO265
              have BK262 := Aside0.mk Q_BK262
              have HB := Aside0.mk Q_HB
              have HO270 := Aside0.mk (Q_HO270 (hon 2 (by kernel_rfl)))
              have HO274 := Aside0.mk (Q_HO274 (hon 6 (by kernel_rfl)))
              have hc0_ : w'.cell? ⟨gb262, 0, none⟩ = some (.int .u64 a0) := (blk_cell BK262.out 0).trans rfl
              have hc1_ : w'.cell? ⟨gb262, 1, none⟩ = some (.int .u64 a1) := (blk_cell BK262.out 1).trans rfl
              refine value_ (w1 := w') (v := .agg #[.int .u64 a0, .int .u64 a1]) (wanted_on rfl rfl rfl (e35.trans (by first | rfl | (simp [*]; done)))) rfl ?_ ?_
              · go_simp
                (try simp only [i64_w])
                try rfl
              refine hK.out _ _ ⟨v269, v273, (by rw [ha.out]; exact putSel_upk 11 hb_ rfl rfl rfl), Q_HO265, Q_BK262, Q_HB, Q_HO270, Q_HO274⟩
            refine steps_cons ?_ ?_
            · rintro b a w' ⟨v269, v273, ha, Q_HO265, Q_BK262, Q_HB, Q_HO270, Q_HO274⟩ hb_ hon hoff
              refine ⟨_, rfl, fun K hK => ?_⟩
              have e10 : a.tmps[10]? = some (.slice (some ad267) y263.length co20) := by rw [ha]; exact (putSel_off rfl).trans rfl
              have e35 : a.tmps[35]? = some (.bool (t271 == t275)) := by rw [ha]; exact putSel_on (e := (9, 35, .bool (t271 == t275))) 7 rfl rfl (hon 9 (by kernel_rfl)) rfl
              replace ha := Aside0.mk ha
              have HO265 := Aside0.mk Q_HO265
              have BK262 := Aside0.mk Q_BK262
              have HB := Aside0.mk Q_HB
              have HO270 := Aside0.mk (Q_HO270 (hon 2 (by kernel_rfl)))
              have HO274 := Aside0.mk (Q_HO274 (hon 6 (by kernel_rfl)))
              refine value_ (w1 := w') (v := .slice (some ad267) y263.length co20) (wanted_on rfl rfl rfl (e35.trans (by first | rfl | (simp [*]; done)))) rfl ?_ ?_
              · go_simp
                (try simp only [i64_w])
                try rfl
              refine hK.out _ _ ⟨v269, v273, (by rw [ha.out]; exact putSel_upk 12 hb_ rfl rfl rfl), Q_HO265, Q_BK262, Q_HB, Q_HO270, Q_HO274⟩
            refine steps_cons ?_ ?_
            · rintro b a w' ⟨v269, v273, ha, Q_HO265, Q_BK262, Q_HB, Q_HO270, Q_HO274⟩ hb_ hon hoff
              refine ⟨_, rfl, fun K hK => ?_⟩
              have e39 : a.tmps[39]? = some (.agg #[.int .u64 a0, .int .u64 a1]) := by rw [ha]; exact putSel_on (e := (13, 39, .agg #[.int .u64 a0, .int .u64 a1])) 11 rfl rfl (hon 13 (by kernel_rfl)) rfl
              have e40 : a.tmps[40]? = some (.slice (some ad267) y263.length co20) := by rw [ha]; exact putSel_on (e := (14, 40, .slice (some ad267) y263.length co20)) 12 rfl rfl (hon 14 (by kernel_rfl)) rfl
              have e35 : a.tmps[35]? = some (.bool (t271 == t275)) := by rw [ha]; exact putSel_on (e := (9, 35, .bool (t271 == t275))) 7 rfl rfl (hon 9 (by kernel_rfl)) rfl
              replace ha := Aside0.mk ha
              have HO265 := Aside0.mk Q_HO265
              have BK262 := Aside0.mk Q_BK262
              have HB := Aside0.mk Q_HB
              have HO270 := Aside0.mk (Q_HO270 (hon 2 (by kernel_rfl)))
              have HO274 := Aside0.mk (Q_HO274 (hon 6 (by kernel_rfl)))
              refine goes_ Try.func20 (by kernel_rfl) rfl #[.agg #[.int .u64 a0, .int .u64 a1], .slice (some ad267) y263.length co20] (by first | rfl | exact wanted_on rfl rfl rfl (e35.trans (by first | rfl | (simp [*]; done)))) rfl rfl (by first | (simp only [List.map_toArray, List.map_cons, List.map_nil, Act.eval, Array.getD_eq_getD_getElem?, Option.getD_some, e39, e40, e35]; done) | (simp only [List.map_toArray, List.map_cons, List.map_nil, Act.eval, Array.getD_eq_getD_getElem?, Option.getD_some, e39, e40, e35]; rfl)) ?_
              with_reducible refine (roundhouseref2_Words.calls k a0 a1 _ _ y263 t277 _ ?side1 ?side2 A14.out).mono ?_
              (case side1 => repeat (first | exact (Kd.R_reads' HO265.out).2.2 | (with_reducible refine Kd.C_alloc ?_ _) | (with_reducible refine Kd.C_drewN ?_ _) | (with_reducible refine Kd.C_drew ?_)))
              (case side2 => exact (Kd.R_reads' HO265.out).2.1)
              rintro e w32 ⟨rfl, hb⟩
              refine ⟨_, rfl, ?_⟩
              have n0_ := Aside0.mk (Kd.R_below (by (with_reducible repeat (first | apply Kd.R_alloc | apply Kd.R_drewN | apply Kd.R_drew)); exact HO265.out) hb)
              have n1_ := Aside0.mk (Kd.R_below (by (with_reducible repeat (first | apply Kd.R_alloc | apply Kd.R_drewN | apply Kd.R_drew)); exact HO270.out) hb)
              have n2_ := Aside0.mk (Kd.R_below (by (with_reducible repeat (first | apply Kd.R_alloc | apply Kd.R_drewN | apply Kd.R_drew)); exact HO274.out) hb)
              have n3_ := Aside0.mk (blk_below (g := gb262) (o := .cells #[.int .u64 a0, .int .u64 a1] 26 (0, 0)) (by (with_reducible repeat (first | refine blk_drewN ?_ _ | refine blk_drew ?_ | refine blk_alloc ?_ _)); exact BK262.out) hb)
              have n4_ := Aside0.mk (below_step (by repeat (first | (with_reducible first | exact HB.out | apply below_alloc | apply pw_below_drewN | apply below_drew1 | refine below_set ?_ GE262.out) | exact HB.out)) hb)
              clear HO265
              clear HO270
              clear HO274
              clear BK262
              clear HB
              have HO265 := n0_
              have HO270 := n1_
              have HO274 := n2_
              have BK262 := n3_
              have HB := n4_
              clear n0_ n1_ n2_ n3_ n4_
              (try clear hb)
              (try clear hb2)
              (try clear hk)
              (try clear hi)
              refine hK.out _ _ ⟨v269, v273, (by rw [ha.out]; exact putSel_upk 13 hb_ rfl rfl rfl), (by (with_reducible repeat (first | apply Kd.R_alloc | apply Kd.R_drewN | apply Kd.R_drew)); exact HO265.out), (by (with_reducible repeat (first | refine blk_drewN ?_ _ | refine blk_drew ?_ | refine blk_alloc ?_ _)); exact BK262.out), (by repeat (first | (with_reducible first | exact HB.out | apply below_alloc | apply pw_below_drewN | apply below_drew1 | refine below_set ?_ GE262.out) | exact HB.out)), fun _ => (by (with_reducible repeat (first | apply Kd.R_alloc | apply Kd.R_drewN | apply Kd.R_drew)); exact HO270.out), fun _ => (by (with_reducible repeat (first | apply Kd.R_alloc | apply Kd.R_drewN | apply Kd.R_drew)); exact HO274.out)⟩
            refine steps_cons ?_ ?_
            · rintro b a w' ⟨v269, v273, ha, Q_HO265, Q_BK262, Q_HB, Q_HO270, Q_HO274⟩ hb_ hon hoff
              refine ⟨_, rfl, fun K hK => ?_⟩
              have e38 : a.tmps[38]? = some (.int .u64 t276) := by rw [ha]; exact putSel_on (e := (12, 38, .int .u64 t276)) 10 rfl rfl (hon 12 (by kernel_rfl)) rfl
              have e41 : a.tmps[41]? = some (.int .u64 t277) := by rw [ha]; exact putSel_on (e := (15, 41, .int .u64 t277)) 13 rfl rfl (hon 15 (by kernel_rfl)) rfl
              have e35 : a.tmps[35]? = some (.bool (t271 == t275)) := by rw [ha]; exact putSel_on (e := (9, 35, .bool (t271 == t275))) 7 rfl rfl (hon 9 (by kernel_rfl)) rfl
              replace ha := Aside0.mk ha
              have HO265 := Aside0.mk Q_HO265
              have BK262 := Aside0.mk Q_BK262
              have HB := Aside0.mk Q_HB
              have HO270 := Aside0.mk (Q_HO270 (hon 2 (by kernel_rfl)))
              have HO274 := Aside0.mk (Q_HO274 (hon 6 (by kernel_rfl)))
              refine value_ (w1 := w') (v := .bool (t276 == t277)) (wanted_on rfl rfl rfl (e35.trans (by first | rfl | (simp [*]; done)))) rfl ?_ ?_
              · go_simp
                (try simp only [i64_w])
                try rfl
              refine hK.out _ _ ⟨v269, v273, (by rw [ha.out]; exact putSel_upk 14 hb_ rfl rfl rfl), Q_HO265, Q_BK262, Q_HB, Q_HO270, Q_HO274⟩
            refine steps_cons ?_ ?_
            · rintro b a w' ⟨v269, v273, ha, Q_HO265, Q_BK262, Q_HB, Q_HO270, Q_HO274⟩ hb_ hon hoff
              refine ⟨_, rfl, fun K hK => ?_⟩
              have e35 : a.tmps[35]? = some (.bool (t271 == t275)) := by rw [ha]; exact putSel_on (e := (9, 35, .bool (t271 == t275))) 7 rfl rfl (hon 9 (by kernel_rfl)) rfl
              have e42 : a.tmps[42]? = some (.bool (t276 == t277)) := by rw [ha]; exact putSel_on (e := (16, 42, .bool (t276 == t277))) 14 rfl rfl (hon 16 (by kernel_rfl)) rfl
              replace ha := Aside0.mk ha
              have HO265 := Aside0.mk Q_HO265
              have BK262 := Aside0.mk Q_BK262
              have HB := Aside0.mk Q_HB
              have HO270 := Aside0.mk (Q_HO270 (hon 2 (by kernel_rfl)))
              have HO274 := Aside0.mk (Q_HO274 (hon 6 (by kernel_rfl)))
              refine value_ (w1 := w') (v := .bool (t276 == t277)) (by rfl) rfl ?_ ?_
              · go_simp
                (try simp only [i64_w])
                try rfl
              refine hK.out _ _ ⟨v269, v273, (by rw [ha.out]; exact putSel_upk 15 hb_ rfl rfl rfl), Q_HO265, Q_BK262, Q_HB, Q_HO270, Q_HO274⟩
            refine steps_cons ?_ ?_
            · rintro b a w' ⟨v269, v273, ha, Q_HO265, Q_BK262, Q_HB, Q_HO270, Q_HO274⟩ hb_ hon hoff
              refine ⟨_, rfl, fun K hK => ?_⟩
              have e43 : a.tmps[43]? = some (.bool (t276 == t277)) := by rw [ha]; exact putSel_on (e := (17, 43, .bool (t276 == t277))) 15 rfl rfl (hon 17 (by kernel_rfl)) rfl
              replace ha := Aside0.mk ha
              have HO265 := Aside0.mk Q_HO265
              have BK262 := Aside0.mk Q_BK262
              have HB := Aside0.mk Q_HB
              have HO270 := Aside0.mk (Q_HO270 (hon 2 (by kernel_rfl)))
              have HO274 := Aside0.mk (Q_HO274 (hon 6 (by kernel_rfl)))
              refine value_ (w1 := w') (v := .bool (t276 == t277)) (by rfl) rfl ?_ ?_
              · go_simp
                (try simp only [i64_w])
                try rfl
              refine hK.out _ _ ⟨v269, v273, (by rw [ha.out]; exact putSel_upk 16 hb_ rfl rfl rfl), Q_HO265, Q_BK262, Q_HB, Q_HO270, Q_HO274⟩
            exact steps_nil
          rintro b a w32 hall ⟨v269, v273, ha, Q_HO265, Q_BK262, Q_HB, Q_HO270, Q_HO274⟩
          clear BK262 HB HO265
          have hb0_ := hall 0 (by kernel_rfl)
          have hb2_ := hall 2 (by kernel_rfl)
          have hb3_ := hall 3 (by kernel_rfl)
          have hb4_ := hall 4 (by kernel_rfl)
          have hb6_ := hall 6 (by kernel_rfl)
          have hb7_ := hall 7 (by kernel_rfl)
          have hb8_ := hall 8 (by kernel_rfl)
          have hb9_ := hall 9 (by kernel_rfl)
          have hb10_ := hall 10 (by kernel_rfl)
          have hb11_ := hall 11 (by kernel_rfl)
          have hb12_ := hall 12 (by kernel_rfl)
          have hb13_ := hall 13 (by kernel_rfl)
          have hb14_ := hall 14 (by kernel_rfl)
          have hb15_ := hall 15 (by kernel_rfl)
          have hb16_ := hall 16 (by kernel_rfl)
          have hb17_ := hall 17 (by kernel_rfl)
          have hb18_ := hall 18 (by kernel_rfl)
          subst ha
          simp only [putSel, hb0_, hb2_, hb3_, hb4_, hb6_, hb7_, hb8_, hb9_, hb10_, hb11_, hb12_, hb13_, hb14_, hb15_, hb16_, hb17_, hb18_, if_true, Act.put, List.setIfInBounds_toArray, List.set_cons_zero, List.set_cons_succ]
          have HO265 := Aside0.mk Q_HO265
          clear Q_HO265
          have BK262 := Aside0.mk Q_BK262
          clear Q_BK262
          have HB := Aside0.mk Q_HB
          clear Q_HB
          have HO270 := Aside0.mk (Q_HO270 hb2_)
          clear Q_HO270
          have HO274 := Aside0.mk (Q_HO274 hb6_)
          clear Q_HO274
          clear hall hb0_ hb2_ hb3_ hb4_ hb6_ hb7_ hb8_ hb9_ hb10_ hb11_ hb12_ hb13_ hb14_ hb15_ hb16_ hb17_ hb18_
          try go_wp2
          go_ret
          exact ⟨by first | rfl | (simp [errW_none, errW_some] <;> rfl) | (simp [*, errW_none, errW_some] <;> rfl), by repeat (first | (with_reducible first | exact HB.out | apply below_alloc | apply pw_below_drewN | apply below_drew1 | refine below_set ?_ GE262.out) | exact HB.out)⟩
        · rw [if_neg c12] at H
          have c12b0 : (t271 == t275) = false := beq_eq_false_iff_ne.mpr c12
          have c12b1 : (t271 != t275) = true := bne_iff_ne.mpr c12
          obtain rfl := Option.some.inj H
          go_enter Try.func11, Try.ntmps11
          try go_wp2_with (first | ((with_reducible refine gate_callee (f := 13) rfl ?_); refine goesL_ (some 12) rfl rfl Try.func13 (by kernel_rfl) rfl #[] rfl (by (try simp only [List.map_toArray, List.map_cons, List.map_nil]); first | done | rfl | (simp only [List.length_drop, List.length_take]; rfl)) ?_; (with_reducible refine (roundhouselaw2_known.calls k  true _ A5.out).mono ?_); rintro e w33 ⟨rfl, hb⟩; refine ⟨_, rfl, ?_⟩; have n0_ := Aside0.mk (below_step (by repeat (first | (with_reducible first | exact HB.out | apply below_alloc | apply pw_below_drewN | apply below_drew1) | exact HB.out)) hb); clear HB; have HB := n0_; clear n0_; (try clear hb); (try clear hb2); (try clear hk); (try clear hi)) | ((with_reducible refine gate_dst (N := 9) rfl ?_); refine box_event ?hg (N := 9) ?hd (cs := #[.int .u64 0, .int .u64 0]) (t := 26) ?hr ?_; (case hd => rfl); (case hg => rfl); (case hr => first | (go_simp; done) | (go_simp; rfl)); intro gb262 hg w34 hbox hb; have n0_ := Aside0.mk (below_step (by repeat (first | (with_reducible first | exact HB.out | apply below_alloc | apply pw_below_drewN | apply below_drew1) | exact HB.out)) hb); have n1_ := Aside0.mk (hbox); have n2_ := Aside0.mk ((by rw [hg]; exact (below_size (by repeat (first | (with_reducible first | exact HB.out | apply below_alloc | apply pw_below_drewN | apply below_drew1) | exact HB.out))) : w.heap.size ≤ gb262)); have n3_ := Aside0.mk ((by rw [hg]; exact (below_size (by repeat (first | (with_reducible first | exact HB.out | apply below_alloc | apply pw_below_drewN | apply below_drew1) | exact HB.out))) : w.heap.size ≤ gb262)); clear HB; have HB := n0_; have BK262 := n1_; have GW262 := n2_; have GE262 := n3_; clear n0_ n1_ n2_ n3_; clear hb hbox hg; have hcz35_0 : w34.cell? ⟨gb262, 0, none⟩ = some (.int .u64 0) := (blk_cell BK262.out 0).trans rfl; have hcz35_1 : w34.cell? ⟨gb262, 1, none⟩ = some (.int .u64 0) := (blk_cell BK262.out 1).trans rfl; have hfz35_0 := blk_frozen BK262.out 0; have hfz35_1 := blk_frozen BK262.out 1) | ((with_reducible refine gate_dst (N := 20) rfl ?_); refine Kd.R_lit (Kd.int .i64) _ 3 ?hg (N := 20) ?hd (xs := ([a2, wrap64 (-a2), (-1), 9223372036854775807, (-9223372036854775808), 0] : List Int)) (inner := [.int .i64 a2, .int .i64 (wrap64 (-a2)), .int .i64 (-1), .int .i64 9223372036854775807, .int .i64 (-9223372036854775808), .int .i64 0]) (ok := fun _ => True) (okp := fun _ => True) ?hr ?hp (fun _ hk => hk) trivial (Below.refl _ _) (Nat.le_refl _) (by simp) ?_; (case hd => rfl); (case hg => rfl); (case hr => first | (go_simp; done) | (go_simp; rfl)); (case hp => exact (Reps.one (show Kd.M (Kd.int .i64) _ _ _ a2 [.int .i64 a2] from rfl) (Reps.one (show Kd.M (Kd.int .i64) _ _ _ (wrap64 (-a2)) [.int .i64 (wrap64 (-a2))] from rfl) (Reps.one (show Kd.M (Kd.int .i64) _ _ _ (-1) [.int .i64 (-1)] from rfl) (Reps.one (show Kd.M (Kd.int .i64) _ _ _ 9223372036854775807 [.int .i64 9223372036854775807] from rfl) (Reps.one (show Kd.M (Kd.int .i64) _ _ _ (-9223372036854775808) [.int .i64 (-9223372036854775808)] from rfl) (Reps.one (show Kd.M (Kd.int .i64) _ _ _ 0 [.int .i64 0] from rfl) (Reps.none _ _)))))))); intro v264 w36 ho37 hb hg_ hnew_; clear hg_ hnew_; (first | rw [← Ny263.out] at ho37 | (simp only [Int.reduceToNat] at ho37; rw [← Ny263.out] at ho37)); have n0_ := Aside0.mk (Kd.R_lower ho37 (below_size (by repeat (first | (with_reducible first | exact HB.out | apply below_alloc | apply pw_below_drewN | apply below_drew1 | refine below_set ?_ GE262.out) | exact HB.out)))); have n1_ := Aside0.mk (blk_below (g := gb262) (o := .cells #[.int .u64 a0, .int .u64 a1] 26 (0, 0)) (by (with_reducible repeat (first | refine blk_drewN ?_ _ | refine blk_drew ?_ | refine blk_alloc ?_ _)); refine blk_put (cs := #[.int .u64 a0, .int .u64 0]) ?_ 1 _ rfl; (with_reducible repeat (first | refine blk_drewN ?_ _ | refine blk_drew ?_ | refine blk_alloc ?_ _)); refine blk_put (cs := #[.int .u64 0, .int .u64 0]) ?_ 0 _ rfl; (with_reducible repeat (first | refine blk_drewN ?_ _ | refine blk_drew ?_ | refine blk_alloc ?_ _)); exact BK262.out) hb); have n2_ := Aside0.mk (below_step (by repeat (first | (with_reducible first | exact HB.out | apply below_alloc | apply pw_below_drewN | apply below_drew1 | refine below_set ?_ GE262.out) | exact HB.out)) hb); clear BK262; clear HB; have HO265 := n0_; have BK262 := n1_; have HB := n2_; clear n0_ n1_ n2_; clear hb ho37) | ((with_reducible refine gate_callee (f := 14) rfl ?_); refine goesL_ (some 23) rfl rfl Try.func14 (by kernel_rfl) rfl #[.int .i64 a3, .int .i64 6] rfl (by (try simp only [List.map_toArray, List.map_cons, List.map_nil]); first | done | rfl | (simp only [List.length_drop, List.length_take]; rfl)) ?_; (with_reducible refine (roundhouselaw2_within.calls a3 6 t266 _ A7.out).mono ?_); rintro e w' ⟨rfl, ⟨nd, rfl⟩⟩; refine ⟨_, rfl, ?_⟩; obtain ⟨Ao38, co38, eo38⟩ := Kd.R_slice HO265.out; subst eo38; have p267 : 0 ≤ (t266 : Int) := of_decide_eq_true (by first | (with_reducible assumption) | assumption); have q267 : t266 < (y263.length : Int) := of_decide_eq_true (by first | (with_reducible assumption) | assumption); obtain ⟨ad267, e267, hx267_0⟩ := Kd.at_int (Kd.R_reads' HO265.out).2.2 t266 p267 q267; cases e267; replace p267 := eq_true p267; replace q267 := eq_true q267))
          (try (rw [drewN_self w36]; generalize hq_ : World.drewN w36 _ = w36; have n0_ : Aside0 (Kd.R (Kd.int .i64) 3 w36 w.heap.size (fun _ => True) (.slice (some ad267) y263.length co38) y263) := ⟨by rw [← hq_]; exact (by (with_reducible repeat (first | apply Kd.R_alloc | apply Kd.R_drewN | apply Kd.R_drew)); exact HO265.out)⟩; have n1_ : Aside0 (w36.heap[gb262]? = some (.cells #[.int .u64 a0, .int .u64 a1] 26 (0, 0))) := ⟨by rw [← hq_]; exact (by (with_reducible repeat (first | refine blk_drewN ?_ _ | refine blk_drew ?_ | refine blk_alloc ?_ _)); exact BK262.out)⟩; have n2_ : Aside0 (Below w.heap.size w w36) := ⟨by rw [← hq_]; exact (by repeat (first | (with_reducible first | exact HB.out | apply below_alloc | apply pw_below_drewN | apply below_drew1 | refine below_set ?_ GE262.out) | exact HB.out))⟩; clear HO265 BK262 HB hq_; have HO265 := n0_; have BK262 := n1_; have HB := n2_; clear n0_ n1_ n2_))
          have n0_ := Aside0.mk (Kd.R_drew HO265.out)
          have n1_ := Aside0.mk (blk_drew BK262.out)
          have n2_ := Aside0.mk (below_drew1 HB.out)
          clear HO265
          clear BK262
          clear HB
          have HO265 := n0_
          have BK262 := n1_
          have HB := n2_
          clear n0_ n1_ n2_
          refine start_ (n := 19) (S := fun w' => True) (ds := []) #[false, false, false, false, false, false, false, false, false, false, false, false, false, false, false, false, false, false, false] (by kernel_rfl) rfl rfl trivial (fun hHeld => ?_); refine with_tabW roundhouselaw2_SipNumbers.tab6 roundhouselaw2_SipNumbers.bits6 (fun HT_ HW_ => ?_)
          generalize w36.drew = w39 at HO265 BK262 HB hHeld ⊢
          refine pure_ (i := 1) (N := some 27) (v := ?_) (a' := ?_) #[false, true, false, false, false, false, false, false, false, false, false, false, false, false, false, false, false, false, false] rfl rfl (any_of HT_.out (by kernel_rfl)) (fun _ _ _ h => h) (Or.inl ⟨by rfl, ?_⟩) ?_ ?_
          rotate_left
          · intro w'
            go_simp
            with_reducible rfl
          rotate_left
          · simp only [Act.put, List.setIfInBounds_toArray, List.set_cons_zero, List.set_cons_succ, i64_w, i32_w]
            rfl
          refine pure_ (i := 5) (N := some 31) (v := ?_) (a' := ?_) #[false, true, false, false, false, true, false, false, false, false, false, false, false, false, false, false, false, false, false] rfl rfl (any_of HT_.out (by kernel_rfl)) (fun _ _ _ h => h) (Or.inl ⟨by rfl, ?_⟩) ?_ ?_
          rotate_left
          · intro w'
            go_simp
            with_reducible rfl
          rotate_left
          · simp only [Act.put, List.setIfInBounds_toArray, List.set_cons_zero, List.set_cons_succ, i64_w, i32_w]
            rfl
          refine inv_at [0, 2, 3, 4, 6, 7, 8, 9, 10, 11, 12, 13, 14, 15, 16, 17, 18] (fun a0_ b a w' => ∃ (v269 : Value) (v273 : Value), a = putSel a0_ b [(0, 26, .agg #[.int .u64 a0, .int .u64 a1]), (2, 28, v269), (3, 29, .int .u64 t271), (4, 30, .agg #[.int .u64 a0, .int .u64 a1]), (6, 32, v273), (7, 33, .int .u64 t275), (8, 34, .bool (t271 == t275)), (9, 35, .bool (t271 == t275)), (10, 36, undef), (11, 37, undef), (12, 38, undef), (13, 39, undef), (14, 40, undef), (15, 41, undef), (16, 42, undef), (17, 43, .bool false), (18, 8, .bool false)] ∧ (Kd.R (Kd.int .i64) 3 w' w.heap.size (fun _ => True) (.slice (some ad267) y263.length co38) y263) ∧ (w'.heap[gb262]? = some (.cells #[.int .u64 a0, .int .u64 a1] 26 (0, 0))) ∧ (Below w.heap.size w w') ∧ (b 2 = true → Kd.R (Kd.int .i64) 3 w' w.heap.size (fun k_ => some k_ ≠ (.slice (some ad267) y263.length co38 : Value).ownBlock) v269 y268) ∧ (b 6 = true → Kd.R (Kd.int .i64) 3 w' w.heap.size (fun k_ => some k_ ≠ (.slice (some ad267) y263.length co38 : Value).ownBlock) v273 y272)) HT_.out HW_.out (by kernel_rfl) (by kernel_rfl) ?_ ?_ ?_
          · exact ⟨.bool false, .bool false, by simp only [putSel, Bool.false_eq_true, if_false], HO265.out, BK262.out, HB.out, fun h_ => absurd h_ (by decide), fun h_ => absurd h_ (by decide)⟩
          · skip
            clear BK262 HB HO265
            refine steps_cons ?_ ?_
            · rintro b a w' ⟨v269, v273, ha, Q_HO265, Q_BK262, Q_HB, Q_HO270, Q_HO274⟩ hb_ hon hoff
              refine ⟨_, rfl, fun K hK => ?_⟩
              have e9 : a.tmps[9]? = some (.pointer (some ⟨gb262, 0, none⟩)) := by rw [ha]; exact (putSel_off rfl).trans rfl
              replace ha := Aside0.mk ha
              have HO265 := Aside0.mk Q_HO265
              have BK262 := Aside0.mk Q_BK262
              have HB := Aside0.mk Q_HB
              have hc0_ : w'.cell? ⟨gb262, 0, none⟩ = some (.int .u64 a0) := (blk_cell BK262.out 0).trans rfl
              have hc1_ : w'.cell? ⟨gb262, 1, none⟩ = some (.int .u64 a1) := (blk_cell BK262.out 1).trans rfl
              refine value_ (w1 := w') (v := .agg #[.int .u64 a0, .int .u64 a1]) (by rfl) rfl ?_ ?_
              · go_simp
                (try simp only [i64_w])
                try rfl
              refine hK.out _ _ ⟨v269, v273, (by rw [ha.out]; exact putSel_upk 0 hb_ rfl rfl rfl), Q_HO265, Q_BK262, Q_HB, Q_HO270, Q_HO274⟩
            refine steps_cons ?_ ?_
            · rintro b a w' ⟨v269, v273, ha, Q_HO265, Q_BK262, Q_HB, Q_HO270, Q_HO274⟩ hb_ hon hoff
              refine ⟨_, rfl, fun K hK => ?_⟩
              have e27 : a.tmps[27]? = some (.int .i64 (rd y263 t266)) := by rw [ha]; exact (putSel_off rfl).trans rfl
              replace ha := Aside0.mk ha
              have HO265 := Aside0.mk Q_HO265
              have BK262 := Aside0.mk Q_BK262
              have HB := Aside0.mk Q_HB
              refine Kd.R_lit_step (Kd.int .i64) _ 3 ?hg (N := 28) ?hd (xs := ([rd y263 t266] : List Int)) (inner := [.int .i64 (rd y263 t266)]) (ok := fun _ => True) (okp := fun _ => True) ?hr ?hp (fun _ hk => hk) trivial (Below.refl _ _) (Nat.le_refl _) (by simp) ?_; (case hd => rfl); (case hg => rfl); (case hr => first | (go_simp; done) | (go_simp; rfl)); (case hp => exact (Reps.one (show Kd.M (Kd.int .i64) _ _ _ (rd y263 t266) [.int .i64 (rd y263 t266)] from rfl) (Reps.none _ _)))
              intro v269 w40 ho41 hb hg_ hnew_
              clear hg_ hnew_
              (first | rw [← Ny268.out] at ho41 | (simp only [Int.reduceToNat] at ho41; rw [← Ny268.out] at ho41))
              have n0_ := Aside0.mk (Kd.R_elder' (by (with_reducible repeat (first | apply Kd.R_alloc | apply Kd.R_drewN | apply Kd.R_drew)); exact HO265.out) (Kd.R_base ho41) hb)
              have n1_ := Aside0.mk (Kd.R_lower (Kd.R_new' ho41 (Kd.R_lt (by (with_reducible repeat (first | apply Kd.R_alloc | apply Kd.R_drewN | apply Kd.R_drew)); exact HO265.out))) (below_size (by repeat (first | (with_reducible first | exact HB.out | apply below_alloc | apply pw_below_drewN | apply below_drew1 | refine below_set ?_ GE262.out) | exact HB.out))))
              have n2_ := Aside0.mk (blk_below (g := gb262) (o := .cells #[.int .u64 a0, .int .u64 a1] 26 (0, 0)) (by (with_reducible repeat (first | refine blk_drewN ?_ _ | refine blk_drew ?_ | refine blk_alloc ?_ _)); exact BK262.out) hb)
              have n3_ := Aside0.mk (below_step (by repeat (first | (with_reducible first | exact HB.out | apply below_alloc | apply pw_below_drewN | apply below_drew1 | refine below_set ?_ GE262.out) | exact HB.out)) hb)
              have z_HO274 := fun (h0_ : b 6 = true) => (show Kd.R (Kd.int .i64) 3 w40 w.heap.size (fun k_ => some k_ ≠ (.slice (some ad267) y263.length co38 : Value).ownBlock) v273 y272 from by first | exact (Kd.R_elder' (by (with_reducible repeat (first | apply Kd.R_alloc | apply Kd.R_drewN | apply Kd.R_drew)); exact (Q_HO274 h0_)) (Kd.R_base ho41) hb) | exact Kd.R_mono (Kd.R_elder' (by (with_reducible repeat (first | apply Kd.R_alloc | apply Kd.R_drewN | apply Kd.R_drew)); exact (Q_HO274 h0_)) (Kd.R_base ho41) hb) (fun _ h_ => by first | trivial | exact h_ | exact h_.1))
              clear HO265
              clear BK262
              clear HB
              have HO265 := n0_
              have HO270 := n1_
              have BK262 := n2_
              have HB := n3_
              clear n0_ n1_ n2_ n3_
              clear hb ho41
              refine hK.out _ _ ⟨v269, v273, (by rw [ha.out]; exact putSel_upk 1 hb_ rfl rfl rfl), (by (with_reducible repeat (first | apply Kd.R_alloc | apply Kd.R_drewN | apply Kd.R_drew)); exact Kd.R_mono HO265.out (fun _ hk => by first | exact hk.2 | trivial)), (by (with_reducible repeat (first | refine blk_drewN ?_ _ | refine blk_drew ?_ | refine blk_alloc ?_ _)); exact BK262.out), (by repeat (first | (with_reducible first | exact HB.out | apply below_alloc | apply pw_below_drewN | apply below_drew1 | refine below_set ?_ GE262.out) | exact HB.out)), fun _ => (by (with_reducible repeat (first | apply Kd.R_alloc | apply Kd.R_drewN | apply Kd.R_drew)); exact Kd.R_mono HO270.out (fun _ hk => by first | exact hk.2 | trivial)), z_HO274⟩
            refine steps_cons ?_ ?_
            · rintro b a w' ⟨v269, v273, ha, Q_HO265, Q_BK262, Q_HB, Q_HO270, Q_HO274⟩ hb_ hon hoff
              refine ⟨_, rfl, fun K hK => ?_⟩
              have e26 : a.tmps[26]? = some (.agg #[.int .u64 a0, .int .u64 a1]) := by rw [ha]; exact putSel_on (e := (0, 26, .agg #[.int .u64 a0, .int .u64 a1])) 0 rfl rfl (hon 0 (by kernel_rfl)) rfl
              have e28 : a.tmps[28]? = some (v269) := by rw [ha]; exact putSel_on (e := (2, 28, v269)) 1 rfl rfl (hon 2 (by kernel_rfl)) rfl
              replace ha := Aside0.mk ha
              have HO265 := Aside0.mk Q_HO265
              have BK262 := Aside0.mk Q_BK262
              have HB := Aside0.mk Q_HB
              have HO270 := Aside0.mk (Q_HO270 (hon 2 (by kernel_rfl)))
              obtain ⟨Ao43, co43, eo43⟩ := Kd.R_slice HO270.out
              (first | subst eo43 | (injection eo43 with f1_ f2_ f3_; have f4_ := f1_.symm; have f5_ := f3_.symm; clear f1_ f2_ f3_; subst f4_; subst f5_))
              refine goes_ Try.func19 (by kernel_rfl) rfl #[.agg #[.int .u64 a0, .int .u64 a1], .slice Ao43 y268.length co43] (by rfl) rfl rfl (by first | (simp only [List.map_toArray, List.map_cons, List.map_nil, Act.eval, Array.getD_eq_getD_getElem?, Option.getD_some, e26, e28]; done) | (simp only [List.map_toArray, List.map_cons, List.map_nil, Act.eval, Array.getD_eq_getD_getElem?, Option.getD_some, e26, e28]; rfl)) ?_
              with_reducible refine (sip_Words.calls k a0 a1 _ _ y268 t271 _ ?side1 ?side2 A10.out).mono ?_
              (case side1 => repeat (first | exact (Kd.R_reads' HO270.out).2.2 | (with_reducible refine Kd.C_alloc ?_ _) | (with_reducible refine Kd.C_drewN ?_ _) | (with_reducible refine Kd.C_drew ?_)))
              (case side2 => exact (Kd.R_reads' HO270.out).2.1)
              rintro e w44 ⟨rfl, hb⟩
              refine ⟨_, rfl, ?_⟩
              have n0_ := Aside0.mk (Kd.R_below (by (with_reducible repeat (first | apply Kd.R_alloc | apply Kd.R_drewN | apply Kd.R_drew)); exact HO265.out) hb)
              have n1_ := Aside0.mk (Kd.R_below (by (with_reducible repeat (first | apply Kd.R_alloc | apply Kd.R_drewN | apply Kd.R_drew)); exact HO270.out) hb)
              have n2_ := Aside0.mk (blk_below (g := gb262) (o := .cells #[.int .u64 a0, .int .u64 a1] 26 (0, 0)) (by (with_reducible repeat (first | refine blk_drewN ?_ _ | refine blk_drew ?_ | refine blk_alloc ?_ _)); exact BK262.out) hb)
              have n3_ := Aside0.mk (below_step (by repeat (first | (with_reducible first | exact HB.out | apply below_alloc | apply pw_below_drewN | apply below_drew1 | refine below_set ?_ GE262.out) | exact HB.out)) hb)
              have z_HO274 := fun (h0_ : b 6 = true) => (show Kd.R (Kd.int .i64) 3 w44 w.heap.size (fun k_ => some k_ ≠ (.slice (some ad267) y263.length co38 : Value).ownBlock) v273 y272 from by first | exact (Kd.R_below (by (with_reducible repeat (first | apply Kd.R_alloc | apply Kd.R_drewN | apply Kd.R_drew)); exact (Q_HO274 h0_)) hb) | exact Kd.R_mono (Kd.R_below (by (with_reducible repeat (first | apply Kd.R_alloc | apply Kd.R_drewN | apply Kd.R_drew)); exact (Q_HO274 h0_)) hb) (fun _ h_ => by first | trivial | exact h_ | exact h_.1))
              clear HO265
              clear HO270
              clear BK262
              clear HB
              have HO265 := n0_
              have HO270 := n1_
              have BK262 := n2_
              have HB := n3_
              clear n0_ n1_ n2_ n3_
              (try clear hb)
              (try clear hb2)
              (try clear hk)
              (try clear hi)
              refine hK.out _ _ ⟨.slice Ao43 y268.length co43, v273, (by rw [ha.out]; exact putSel_upk 2 hb_ rfl rfl rfl), (by (with_reducible repeat (first | apply Kd.R_alloc | apply Kd.R_drewN | apply Kd.R_drew)); exact HO265.out), (by (with_reducible repeat (first | refine blk_drewN ?_ _ | refine blk_drew ?_ | refine blk_alloc ?_ _)); exact BK262.out), (by repeat (first | (with_reducible first | exact HB.out | apply below_alloc | apply pw_below_drewN | apply below_drew1 | refine below_set ?_ GE262.out) | exact HB.out)), fun _ => (by (with_reducible repeat (first | apply Kd.R_alloc | apply Kd.R_drewN | apply Kd.R_drew)); exact HO270.out), z_HO274⟩
            refine steps_cons ?_ ?_
            · rintro b a w' ⟨v269, v273, ha, Q_HO265, Q_BK262, Q_HB, Q_HO270, Q_HO274⟩ hb_ hon hoff
              refine ⟨_, rfl, fun K hK => ?_⟩
              have e9 : a.tmps[9]? = some (.pointer (some ⟨gb262, 0, none⟩)) := by rw [ha]; exact (putSel_off rfl).trans rfl
              replace ha := Aside0.mk ha
              have HO265 := Aside0.mk Q_HO265
              have BK262 := Aside0.mk Q_BK262
              have HB := Aside0.mk Q_HB
              have hc0_ : w'.cell? ⟨gb262, 0, none⟩ = some (.int .u64 a0) := (blk_cell BK262.out 0).trans rfl
              have hc1_ : w'.cell? ⟨gb262, 1, none⟩ = some (.int .u64 a1) := (blk_cell BK262.out 1).trans rfl
              refine value_ (w1 := w') (v := .agg #[.int .u64 a0, .int .u64 a1]) (by rfl) rfl ?_ ?_
              · go_simp
                (try simp only [i64_w])
                try rfl
              refine hK.out _ _ ⟨v269, v273, (by rw [ha.out]; exact putSel_upk 3 hb_ rfl rfl rfl), Q_HO265, Q_BK262, Q_HB, Q_HO270, Q_HO274⟩
            refine steps_cons ?_ ?_
            · rintro b a w' ⟨v269, v273, ha, Q_HO265, Q_BK262, Q_HB, Q_HO270, Q_HO274⟩ hb_ hon hoff
              refine ⟨_, rfl, fun K hK => ?_⟩
              have e31 : a.tmps[31]? = some (.int .i64 (rd y263 t266)) := by rw [ha]; exact (putSel_off rfl).trans rfl
              replace ha := Aside0.mk ha
              have HO265 := Aside0.mk Q_HO265
              have BK262 := Aside0.mk Q_BK262
              have HB := Aside0.mk Q_HB
              refine Kd.R_lit_step (Kd.int .i64) _ 3 ?hg (N := 32) ?hd (xs := ([rd y263 t266] : List Int)) (inner := [.int .i64 (rd y263 t266)]) (ok := fun _ => True) (okp := fun _ => True) ?hr ?hp (fun _ hk => hk) trivial (Below.refl _ _) (Nat.le_refl _) (by simp) ?_; (case hd => rfl); (case hg => rfl); (case hr => first | (go_simp; done) | (go_simp; rfl)); (case hp => exact (Reps.one (show Kd.M (Kd.int .i64) _ _ _ (rd y263 t266) [.int .i64 (rd y263 t266)] from rfl) (Reps.none _ _)))
              intro v273 w40 ho41 hb hg_ hnew_
              clear hg_ hnew_
              (first | rw [← Ny272.out] at ho41 | (simp only [Int.reduceToNat] at ho41; rw [← Ny272.out] at ho41))
              have n0_ := Aside0.mk (Kd.R_elder' (by (with_reducible repeat (first | apply Kd.R_alloc | apply Kd.R_drewN | apply Kd.R_drew)); exact HO265.out) (Kd.R_base ho41) hb)
              have n1_ := Aside0.mk (Kd.R_lower (Kd.R_new' ho41 (Kd.R_lt (by (with_reducible repeat (first | apply Kd.R_alloc | apply Kd.R_drewN | apply Kd.R_drew)); exact HO265.out))) (below_size (by repeat (first | (with_reducible first | exact HB.out | apply below_alloc | apply pw_below_drewN | apply below_drew1 | refine below_set ?_ GE262.out) | exact HB.out))))
              have n2_ := Aside0.mk (blk_below (g := gb262) (o := .cells #[.int .u64 a0, .int .u64 a1] 26 (0, 0)) (by (with_reducible repeat (first | refine blk_drewN ?_ _ | refine blk_drew ?_ | refine blk_alloc ?_ _)); exact BK262.out) hb)
              have n3_ := Aside0.mk (below_step (by repeat (first | (with_reducible first | exact HB.out | apply below_alloc | apply pw_below_drewN | apply below_drew1 | refine below_set ?_ GE262.out) | exact HB.out)) hb)
              have z_HO270 := fun (h0_ : b 2 = true) => (show Kd.R (Kd.int .i64) 3 w40 w.heap.size (fun k_ => some k_ ≠ (.slice (some ad267) y263.length co38 : Value).ownBlock) v269 y268 from by first | exact (Kd.R_elder' (by (with_reducible repeat (first | apply Kd.R_alloc | apply Kd.R_drewN | apply Kd.R_drew)); exact (Q_HO270 h0_)) (Kd.R_base ho41) hb) | exact Kd.R_mono (Kd.R_elder' (by (with_reducible repeat (first | apply Kd.R_alloc | apply Kd.R_drewN | apply Kd.R_drew)); exact (Q_HO270 h0_)) (Kd.R_base ho41) hb) (fun _ h_ => by first | trivial | exact h_ | exact h_.1))
              clear HO265
              clear BK262
              clear HB
              have HO265 := n0_
              have HO274 := n1_
              have BK262 := n2_
              have HB := n3_
              clear n0_ n1_ n2_ n3_
              clear hb ho41
              refine hK.out _ _ ⟨v269, v273, (by rw [ha.out]; exact putSel_upk 4 hb_ rfl rfl rfl), (by (with_reducible repeat (first | apply Kd.R_alloc | apply Kd.R_drewN | apply Kd.R_drew)); exact Kd.R_mono HO265.out (fun _ hk => by first | exact hk.2 | trivial)), (by (with_reducible repeat (first | refine blk_drewN ?_ _ | refine blk_drew ?_ | refine blk_alloc ?_ _)); exact BK262.out), (by repeat (first | (with_reducible first | exact HB.out | apply below_alloc | apply pw_below_drewN | apply below_drew1 | refine below_set ?_ GE262.out) | exact HB.out)), z_HO270, fun _ => (by (with_reducible repeat (first | apply Kd.R_alloc | apply Kd.R_drewN | apply Kd.R_drew)); exact Kd.R_mono HO274.out (fun _ hk => by first | exact hk.2 | trivial))⟩
            refine steps_cons ?_ ?_
            · rintro b a w' ⟨v269, v273, ha, Q_HO265, Q_BK262, Q_HB, Q_HO270, Q_HO274⟩ hb_ hon hoff
              refine ⟨_, rfl, fun K hK => ?_⟩
              have e30 : a.tmps[30]? = some (.agg #[.int .u64 a0, .int .u64 a1]) := by rw [ha]; exact putSel_on (e := (4, 30, .agg #[.int .u64 a0, .int .u64 a1])) 3 rfl rfl (hon 4 (by kernel_rfl)) rfl
              have e32 : a.tmps[32]? = some (v273) := by rw [ha]; exact putSel_on (e := (6, 32, v273)) 4 rfl rfl (hon 6 (by kernel_rfl)) rfl
              replace ha := Aside0.mk ha
              have HO265 := Aside0.mk Q_HO265
              have BK262 := Aside0.mk Q_BK262
              have HB := Aside0.mk Q_HB
              have HO270 := Aside0.mk (Q_HO270 (hon 2 (by kernel_rfl)))
              have HO274 := Aside0.mk (Q_HO274 (hon 6 (by kernel_rfl)))
              obtain ⟨Ao47, co47, eo47⟩ := Kd.R_slice HO274.out
              (first | subst eo47 | (injection eo47 with f1_ f2_ f3_; have f4_ := f1_.symm; have f5_ := f3_.symm; clear f1_ f2_ f3_; subst f4_; subst f5_))
              refine goes_ Try.func20 (by kernel_rfl) rfl #[.agg #[.int .u64 a0, .int .u64 a1], .slice Ao47 y272.length co47] (by rfl) rfl rfl (by first | (simp only [List.map_toArray, List.map_cons, List.map_nil, Act.eval, Array.getD_eq_getD_getElem?, Option.getD_some, e30, e32]; done) | (simp only [List.map_toArray, List.map_cons, List.map_nil, Act.eval, Array.getD_eq_getD_getElem?, Option.getD_some, e30, e32]; rfl)) ?_
              with_reducible refine (roundhouseref2_Words.calls k a0 a1 _ _ y272 t275 _ ?side1 ?side2 A11.out).mono ?_
              (case side1 => repeat (first | exact (Kd.R_reads' HO274.out).2.2 | (with_reducible refine Kd.C_alloc ?_ _) | (with_reducible refine Kd.C_drewN ?_ _) | (with_reducible refine Kd.C_drew ?_)))
              (case side2 => exact (Kd.R_reads' HO274.out).2.1)
              rintro e w48 ⟨rfl, hb⟩
              refine ⟨_, rfl, ?_⟩
              have n0_ := Aside0.mk (Kd.R_below (by (with_reducible repeat (first | apply Kd.R_alloc | apply Kd.R_drewN | apply Kd.R_drew)); exact HO265.out) hb)
              have n1_ := Aside0.mk (Kd.R_below (by (with_reducible repeat (first | apply Kd.R_alloc | apply Kd.R_drewN | apply Kd.R_drew)); exact HO270.out) hb)
              have n2_ := Aside0.mk (Kd.R_below (by (with_reducible repeat (first | apply Kd.R_alloc | apply Kd.R_drewN | apply Kd.R_drew)); exact HO274.out) hb)
              have n3_ := Aside0.mk (blk_below (g := gb262) (o := .cells #[.int .u64 a0, .int .u64 a1] 26 (0, 0)) (by (with_reducible repeat (first | refine blk_drewN ?_ _ | refine blk_drew ?_ | refine blk_alloc ?_ _)); exact BK262.out) hb)
              have n4_ := Aside0.mk (below_step (by repeat (first | (with_reducible first | exact HB.out | apply below_alloc | apply pw_below_drewN | apply below_drew1 | refine below_set ?_ GE262.out) | exact HB.out)) hb)
              clear HO265
              clear HO270
              clear HO274
              clear BK262
              clear HB
              have HO265 := n0_
              have HO270 := n1_
              have HO274 := n2_
              have BK262 := n3_
              have HB := n4_
              clear n0_ n1_ n2_ n3_ n4_
              (try clear hb)
              (try clear hb2)
              (try clear hk)
              (try clear hi)
              refine hK.out _ _ ⟨v269, .slice Ao47 y272.length co47, (by rw [ha.out]; exact putSel_upk 5 hb_ rfl rfl rfl), (by (with_reducible repeat (first | apply Kd.R_alloc | apply Kd.R_drewN | apply Kd.R_drew)); exact HO265.out), (by (with_reducible repeat (first | refine blk_drewN ?_ _ | refine blk_drew ?_ | refine blk_alloc ?_ _)); exact BK262.out), (by repeat (first | (with_reducible first | exact HB.out | apply below_alloc | apply pw_below_drewN | apply below_drew1 | refine below_set ?_ GE262.out) | exact HB.out)), fun _ => (by (with_reducible repeat (first | apply Kd.R_alloc | apply Kd.R_drewN | apply Kd.R_drew)); exact HO270.out), fun _ => (by (with_reducible repeat (first | apply Kd.R_alloc | apply Kd.R_drewN | apply Kd.R_drew)); exact HO274.out)⟩
            refine steps_cons ?_ ?_
            · rintro b a w' ⟨v269, v273, ha, Q_HO265, Q_BK262, Q_HB, Q_HO270, Q_HO274⟩ hb_ hon hoff
              refine ⟨_, rfl, fun K hK => ?_⟩
              have e29 : a.tmps[29]? = some (.int .u64 t271) := by rw [ha]; exact putSel_on (e := (3, 29, .int .u64 t271)) 2 rfl rfl (hon 3 (by kernel_rfl)) rfl
              have e33 : a.tmps[33]? = some (.int .u64 t275) := by rw [ha]; exact putSel_on (e := (7, 33, .int .u64 t275)) 5 rfl rfl (hon 7 (by kernel_rfl)) rfl
              replace ha := Aside0.mk ha
              have HO265 := Aside0.mk Q_HO265
              have BK262 := Aside0.mk Q_BK262
              have HB := Aside0.mk Q_HB
              have HO270 := Aside0.mk (Q_HO270 (hon 2 (by kernel_rfl)))
              have HO274 := Aside0.mk (Q_HO274 (hon 6 (by kernel_rfl)))
              refine value_ (w1 := w') (v := .bool (t271 == t275)) (by rfl) rfl ?_ ?_
              · go_simp
                (try simp only [i64_w])
                try rfl
              refine hK.out _ _ ⟨v269, v273, (by rw [ha.out]; exact putSel_upk 6 hb_ rfl rfl rfl), Q_HO265, Q_BK262, Q_HB, Q_HO270, Q_HO274⟩
            refine steps_cons ?_ ?_
            · rintro b a w' ⟨v269, v273, ha, Q_HO265, Q_BK262, Q_HB, Q_HO270, Q_HO274⟩ hb_ hon hoff
              refine ⟨_, rfl, fun K hK => ?_⟩
              have e34 : a.tmps[34]? = some (.bool (t271 == t275)) := by rw [ha]; exact putSel_on (e := (8, 34, .bool (t271 == t275))) 6 rfl rfl (hon 8 (by kernel_rfl)) rfl
              replace ha := Aside0.mk ha
              have HO265 := Aside0.mk Q_HO265
              have BK262 := Aside0.mk Q_BK262
              have HB := Aside0.mk Q_HB
              have HO270 := Aside0.mk (Q_HO270 (hon 2 (by kernel_rfl)))
              have HO274 := Aside0.mk (Q_HO274 (hon 6 (by kernel_rfl)))
              refine value_ (w1 := w') (v := .bool (t271 == t275)) (by rfl) rfl ?_ ?_
              · go_simp
                (try simp only [i64_w])
                try rfl
              refine hK.out _ _ ⟨v269, v273, (by rw [ha.out]; exact putSel_upk 7 hb_ rfl rfl rfl), Q_HO265, Q_BK262, Q_HB, Q_HO270, Q_HO274⟩
            refine steps_cons ?_ ?_
            · rintro b a w' ⟨v269, v273, ha, Q_HO265, Q_BK262, Q_HB, Q_HO270, Q_HO274⟩ hb_ hon hoff
              refine ⟨_, rfl, fun K hK => ?_⟩
              have e35 : a.tmps[35]? = some (.bool (t271 == t275)) := by rw [ha]; exact putSel_on (e := (9, 35, .bool (t271 == t275))) 7 rfl rfl (hon 9 (by kernel_rfl)) rfl
              replace ha := Aside0.mk ha
              have HO265 := Aside0.mk Q_HO265
              have BK262 := Aside0.mk Q_BK262
              have HB := Aside0.mk Q_HB
              have HO270 := Aside0.mk (Q_HO270 (hon 2 (by kernel_rfl)))
              have HO274 := Aside0.mk (Q_HO274 (hon 6 (by kernel_rfl)))
              refine off_ (wanted_off rfl rfl rfl (e35.trans (by first | rfl | (simp [*]; done)))) ?_
              refine hK.out _ _ ⟨v269, v273, (by rw [ha.out]; exact putSel_upk 8 hb_ rfl rfl rfl), Q_HO265, Q_BK262, Q_HB, Q_HO270, Q_HO274⟩
            refine steps_cons ?_ ?_
            · rintro b a w' ⟨v269, v273, ha, Q_HO265, Q_BK262, Q_HB, Q_HO270, Q_HO274⟩ hb_ hon hoff
              refine ⟨_, rfl, fun K hK => ?_⟩
              have e35 : a.tmps[35]? = some (.bool (t271 == t275)) := by rw [ha]; exact putSel_on (e := (9, 35, .bool (t271 == t275))) 7 rfl rfl (hon 9 (by kernel_rfl)) rfl
              replace ha := Aside0.mk ha
              have HO265 := Aside0.mk Q_HO265
              have BK262 := Aside0.mk Q_BK262
              have HB := Aside0.mk Q_HB
              have HO270 := Aside0.mk (Q_HO270 (hon 2 (by kernel_rfl)))
              have HO274 := Aside0.mk (Q_HO274 (hon 6 (by kernel_rfl)))
              refine off_ (wanted_off rfl rfl rfl (e35.trans (by first | rfl | (simp [*]; done)))) ?_
              refine hK.out _ _ ⟨v269, v273, (by rw [ha.out]; exact putSel_upk 9 hb_ rfl rfl rfl), Q_HO265, Q_BK262, Q_HB, Q_HO270, Q_HO274⟩
            refine steps_cons ?_ ?_
            · rintro b a w' ⟨v269, v273, ha, Q_HO265, Q_BK262, Q_HB, Q_HO270, Q_HO274⟩ hb_ hon hoff
              refine ⟨_, rfl, fun K hK => ?_⟩
              have e35 : a.tmps[35]? = some (.bool (t271 == t275)) := by rw [ha]; exact putSel_on (e := (9, 35, .bool (t271 == t275))) 7 rfl rfl (hon 9 (by kernel_rfl)) rfl
              replace ha := Aside0.mk ha
              have HO265 := Aside0.mk Q_HO265
              have BK262 := Aside0.mk Q_BK262
              have HB := Aside0.mk Q_HB
              have HO270 := Aside0.mk (Q_HO270 (hon 2 (by kernel_rfl)))
              have HO274 := Aside0.mk (Q_HO274 (hon 6 (by kernel_rfl)))
              refine off_ (wanted_off rfl rfl rfl (e35.trans (by first | rfl | (simp [*]; done)))) ?_
              refine hK.out _ _ ⟨v269, v273, (by rw [ha.out]; exact putSel_upk 10 hb_ rfl rfl rfl), Q_HO265, Q_BK262, Q_HB, Q_HO270, Q_HO274⟩
            refine steps_cons ?_ ?_
            · rintro b a w' ⟨v269, v273, ha, Q_HO265, Q_BK262, Q_HB, Q_HO270, Q_HO274⟩ hb_ hon hoff
              refine ⟨_, rfl, fun K hK => ?_⟩
              have e35 : a.tmps[35]? = some (.bool (t271 == t275)) := by rw [ha]; exact putSel_on (e := (9, 35, .bool (t271 == t275))) 7 rfl rfl (hon 9 (by kernel_rfl)) rfl
              replace ha := Aside0.mk ha
              have HO265 := Aside0.mk Q_HO265
              have BK262 := Aside0.mk Q_BK262
              have HB := Aside0.mk Q_HB
              have HO270 := Aside0.mk (Q_HO270 (hon 2 (by kernel_rfl)))
              have HO274 := Aside0.mk (Q_HO274 (hon 6 (by kernel_rfl)))
              refine off_ (wanted_off rfl rfl rfl (e35.trans (by first | rfl | (simp [*]; done)))) ?_
              refine hK.out _ _ ⟨v269, v273, (by rw [ha.out]; exact putSel_upk 11 hb_ rfl rfl rfl), Q_HO265, Q_BK262, Q_HB, Q_HO270, Q_HO274⟩
            refine steps_cons ?_ ?_
            · rintro b a w' ⟨v269, v273, ha, Q_HO265, Q_BK262, Q_HB, Q_HO270, Q_HO274⟩ hb_ hon hoff
              refine ⟨_, rfl, fun K hK => ?_⟩
              have e35 : a.tmps[35]? = some (.bool (t271 == t275)) := by rw [ha]; exact putSel_on (e := (9, 35, .bool (t271 == t275))) 7 rfl rfl (hon 9 (by kernel_rfl)) rfl
              replace ha := Aside0.mk ha
              have HO265 := Aside0.mk Q_HO265
              have BK262 := Aside0.mk Q_BK262
              have HB := Aside0.mk Q_HB
              have HO270 := Aside0.mk (Q_HO270 (hon 2 (by kernel_rfl)))
              have HO274 := Aside0.mk (Q_HO274 (hon 6 (by kernel_rfl)))
              refine off_ (wanted_off rfl rfl rfl (e35.trans (by first | rfl | (simp [*]; done)))) ?_
              refine hK.out _ _ ⟨v269, v273, (by rw [ha.out]; exact putSel_upk 12 hb_ rfl rfl rfl), Q_HO265, Q_BK262, Q_HB, Q_HO270, Q_HO274⟩
            refine steps_cons ?_ ?_
            · rintro b a w' ⟨v269, v273, ha, Q_HO265, Q_BK262, Q_HB, Q_HO270, Q_HO274⟩ hb_ hon hoff
              refine ⟨_, rfl, fun K hK => ?_⟩
              have e35 : a.tmps[35]? = some (.bool (t271 == t275)) := by rw [ha]; exact putSel_on (e := (9, 35, .bool (t271 == t275))) 7 rfl rfl (hon 9 (by kernel_rfl)) rfl
              replace ha := Aside0.mk ha
              have HO265 := Aside0.mk Q_HO265
              have BK262 := Aside0.mk Q_BK262
              have HB := Aside0.mk Q_HB
              have HO270 := Aside0.mk (Q_HO270 (hon 2 (by kernel_rfl)))
              have HO274 := Aside0.mk (Q_HO274 (hon 6 (by kernel_rfl)))
              refine off_ (wanted_off rfl rfl rfl (e35.trans (by first | rfl | (simp [*]; done)))) ?_
              refine hK.out _ _ ⟨v269, v273, (by rw [ha.out]; exact putSel_upk 13 hb_ rfl rfl rfl), Q_HO265, Q_BK262, Q_HB, Q_HO270, Q_HO274⟩
            refine steps_cons ?_ ?_
            · rintro b a w' ⟨v269, v273, ha, Q_HO265, Q_BK262, Q_HB, Q_HO270, Q_HO274⟩ hb_ hon hoff
              refine ⟨_, rfl, fun K hK => ?_⟩
              have e35 : a.tmps[35]? = some (.bool (t271 == t275)) := by rw [ha]; exact putSel_on (e := (9, 35, .bool (t271 == t275))) 7 rfl rfl (hon 9 (by kernel_rfl)) rfl
              replace ha := Aside0.mk ha
              have HO265 := Aside0.mk Q_HO265
              have BK262 := Aside0.mk Q_BK262
              have HB := Aside0.mk Q_HB
              have HO270 := Aside0.mk (Q_HO270 (hon 2 (by kernel_rfl)))
              have HO274 := Aside0.mk (Q_HO274 (hon 6 (by kernel_rfl)))
              refine off_ (wanted_off rfl rfl rfl (e35.trans (by first | rfl | (simp [*]; done)))) ?_
              refine hK.out _ _ ⟨v269, v273, (by rw [ha.out]; exact putSel_upk 14 hb_ rfl rfl rfl), Q_HO265, Q_BK262, Q_HB, Q_HO270, Q_HO274⟩
            refine steps_cons ?_ ?_
            · rintro b a w' ⟨v269, v273, ha, Q_HO265, Q_BK262, Q_HB, Q_HO270, Q_HO274⟩ hb_ hon hoff
              refine ⟨_, rfl, fun K hK => ?_⟩
              have e35 : a.tmps[35]? = some (.bool (t271 == t275)) := by rw [ha]; exact putSel_on (e := (9, 35, .bool (t271 == t275))) 7 rfl rfl (hon 9 (by kernel_rfl)) rfl
              have e42 : a.tmps[42]? = some (undef) := by rw [ha]; exact putSel_on (e := (16, 42, undef)) 14 rfl rfl (hon 16 (by kernel_rfl)) rfl
              replace ha := Aside0.mk ha
              have HO265 := Aside0.mk Q_HO265
              have BK262 := Aside0.mk Q_BK262
              have HB := Aside0.mk Q_HB
              have HO270 := Aside0.mk (Q_HO270 (hon 2 (by kernel_rfl)))
              have HO274 := Aside0.mk (Q_HO274 (hon 6 (by kernel_rfl)))
              refine value_ (w1 := w') (v := .bool false) (by rfl) rfl ?_ ?_
              · go_simp
                (try simp only [i64_w])
                try rfl
              refine hK.out _ _ ⟨v269, v273, (by rw [ha.out]; exact putSel_upk 15 hb_ rfl rfl rfl), Q_HO265, Q_BK262, Q_HB, Q_HO270, Q_HO274⟩
            refine steps_cons ?_ ?_
            · rintro b a w' ⟨v269, v273, ha, Q_HO265, Q_BK262, Q_HB, Q_HO270, Q_HO274⟩ hb_ hon hoff
              refine ⟨_, rfl, fun K hK => ?_⟩
              have e43 : a.tmps[43]? = some (.bool false) := by rw [ha]; exact putSel_on (e := (17, 43, .bool false)) 15 rfl rfl (hon 17 (by kernel_rfl)) rfl
              replace ha := Aside0.mk ha
              have HO265 := Aside0.mk Q_HO265
              have BK262 := Aside0.mk Q_BK262
              have HB := Aside0.mk Q_HB
              have HO270 := Aside0.mk (Q_HO270 (hon 2 (by kernel_rfl)))
              have HO274 := Aside0.mk (Q_HO274 (hon 6 (by kernel_rfl)))
              refine value_ (w1 := w') (v := .bool false) (by rfl) rfl ?_ ?_
              · go_simp
                (try simp only [i64_w])
                try rfl
              refine hK.out _ _ ⟨v269, v273, (by rw [ha.out]; exact putSel_upk 16 hb_ rfl rfl rfl), Q_HO265, Q_BK262, Q_HB, Q_HO270, Q_HO274⟩
            exact steps_nil
          rintro b a w48 hall ⟨v269, v273, ha, Q_HO265, Q_BK262, Q_HB, Q_HO270, Q_HO274⟩
          clear BK262 HB HO265
          have hb0_ := hall 0 (by kernel_rfl)
          have hb2_ := hall 2 (by kernel_rfl)
          have hb3_ := hall 3 (by kernel_rfl)
          have hb4_ := hall 4 (by kernel_rfl)
          have hb6_ := hall 6 (by kernel_rfl)
          have hb7_ := hall 7 (by kernel_rfl)
          have hb8_ := hall 8 (by kernel_rfl)
          have hb9_ := hall 9 (by kernel_rfl)
          have hb10_ := hall 10 (by kernel_rfl)
          have hb11_ := hall 11 (by kernel_rfl)
          have hb12_ := hall 12 (by kernel_rfl)
          have hb13_ := hall 13 (by kernel_rfl)
          have hb14_ := hall 14 (by kernel_rfl)
          have hb15_ := hall 15 (by kernel_rfl)
          have hb16_ := hall 16 (by kernel_rfl)
          have hb17_ := hall 17 (by kernel_rfl)
          have hb18_ := hall 18 (by kernel_rfl)
          subst ha
          simp only [putSel, hb0_, hb2_, hb3_, hb4_, hb6_, hb7_, hb8_, hb9_, hb10_, hb11_, hb12_, hb13_, hb14_, hb15_, hb16_, hb17_, hb18_, if_true, Act.put, List.setIfInBounds_toArray, List.set_cons_zero, List.set_cons_succ]
          have HO265 := Aside0.mk Q_HO265
          clear Q_HO265
          have BK262 := Aside0.mk Q_BK262
          clear Q_BK262
          have HB := Aside0.mk Q_HB
          clear Q_HB
          have HO270 := Aside0.mk (Q_HO270 hb2_)
          clear Q_HO270
          have HO274 := Aside0.mk (Q_HO274 hb6_)
          clear Q_HO274
          clear hall hb0_ hb2_ hb3_ hb4_ hb6_ hb7_ hb8_ hb9_ hb10_ hb11_ hb12_ hb13_ hb14_ hb15_ hb16_ hb17_ hb18_
          try go_wp2
          go_ret
          exact ⟨by first | rfl | (simp [errW_none, errW_some] <;> rfl) | (simp [*, errW_none, errW_some] <;> rfl), by repeat (first | (with_reducible first | exact HB.out | apply below_alloc | apply pw_below_drewN | apply below_drew1 | refine below_set ?_ GE262.out) | exact HB.out)⟩
      · rw [if_neg c9] at H
        exact absurd H (by simp)
    · rw [if_neg c8] at H
      exact absurd H (by simp)
  · replace c6 := Bool.eq_false_iff.mpr c6
    subst c6
    have H1 : (some false) = some r := by rw [if_neg (show ¬ (false = true) by decide)] at H; exact H
    clear H
    have H := H1
    clear H1
    obtain rfl := Option.some.inj H
    go_enter Try.func11, Try.ntmps11
    go_wp2_with (first | ((with_reducible refine gate_callee (f := 13) rfl ?_); refine goesL_ (some 12) rfl rfl Try.func13 (by kernel_rfl) rfl #[] rfl (by (try simp only [List.map_toArray, List.map_cons, List.map_nil]); first | done | rfl | (simp only [List.length_drop, List.length_take]; rfl)) ?_; (with_reducible refine (roundhouselaw2_known.calls k  false _ A5.out).mono ?_); rintro e w49 ⟨rfl, hb⟩; refine ⟨_, rfl, ?_⟩; have n0_ := Aside0.mk (below_step (by repeat (first | (with_reducible first | exact HB.out | apply below_alloc | apply pw_below_drewN | apply below_drew1) | exact HB.out)) hb); clear HB; have HB := n0_; clear n0_; (try clear hb); (try clear hb2); (try clear hk); (try clear hi)))
    go_ret
    exact ⟨by first | rfl | (simp [errW_none, errW_some] <;> rfl) | (simp [*, errW_none, errW_some] <;> rfl), by repeat (first | (with_reducible first | exact HB.out | apply below_alloc | apply pw_below_drewN | apply below_drew1) | exact HB.out)⟩

/-- THE ONE PURE STATEMENT of roundhouselaw2_SipNumbers: yours. -/
def roundhouselaw2_SipNumbers.Pure : Prop := ∀ (a0 : Int) (a1 : Int) (a2 : Int) (a3 : Int), (Lit.int .u64 a0).wf = true → (Lit.int .u64 a1).wf = true → (Lit.int .i64 a2).wf = true → (Lit.int .i64 a3).wf = true → ∃ k, roundhouselaw2_SipNumbers.f k a0 a1 a2 a3 = some true
theorem roundhouselaw2_SipNumbers.walk (P : roundhouselaw2_SipNumbers.Pure) (a0 : Int) (a1 : Int) (a2 : Int) (a3 : Int) (w : World) (w0 : (Lit.int .u64 a0).wf = true) (w1 : (Lit.int .u64 a1).wf = true) (w2 : (Lit.int .i64 a2).wf = true) (w3 : (Lit.int .i64 a3).wf = true) :
    Calls Try.prog 11 #[.int .u64 a0, .int .u64 a1, .int .i64 a2, .int .i64 a3] w fun e w' => e = .returned (.bool true) ∧ Below w.heap.size w w' := by
  obtain ⟨k, h⟩ := P a0 a1 a2 a3 w0 w1 w2 w3
  refine (roundhouselaw2_SipNumbers.calls k a0 a1 a2 a3 true w h).mono ?_
  rintro e w' ⟨rfl, hd⟩
  exact ⟨rfl, hd⟩

end Go.Proofs.Ytmfpjchfpoonmaa.Q
