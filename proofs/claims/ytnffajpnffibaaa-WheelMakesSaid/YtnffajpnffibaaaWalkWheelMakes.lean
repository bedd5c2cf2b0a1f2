/-
  The walk of roundhouselaw7.WheelMakes.
-/
import Derived.Test.YtnffajpnffibaaaWheW
namespace Go.Proofs.Ytnffajpnffibaaa.Own
open Go Go.RowKit Go.Proofs.YtnffajpnffibaaaW.PrintWords Go.Proofs.YtnffajpnffibaaaW.PrintMore Go.Proofs.YtnffajpnffibaaaW.PrintLast Go.Proofs.Ytnffajpnffibaaa.Q
set_option linter.unusedVariables false
set_option linter.unusedSimpArgs false

set_option maxHeartbeats 8000000 in
set_option maxRecDepth 100000 in
theorem WheelMakes_walk (W : World) (A : Option Addr) (c : Nat) (l : List Int) (hl : l.length ≤ 4611686018427387903) (hi : ∀ x ∈ l, -9223372036854775808 ≤ x ∧ x ≤ 9223372036854775807) (hc : l.length ≤ c) (hC : Kd.C (Kd.int .i64) W A l.length l) (f : Int) (hf : -9223372036854775808 ≤ f ∧ f ≤ 9223372036854775807) (g0 : Int) (hg0 : -9223372036854775808 ≤ g0 ∧ g0 ≤ 9223372036854775807) : Calls Try.prog 3 #[.slice A l.length c, .int .i64 f, .int .i64 g0] W fun e w' => e = .returned (.bool true) ∧ Below W.heap.size W w' := by
  have HL : Aside0 (l.length ≤ 4611686018427387904) := ⟨by omega⟩
  have HI := Aside0.mk hi
  have HC := Aside0.mk hC
  obtain ⟨p, hp⟩ : ∃ p, make6 l 60 = p := ⟨_, rfl⟩
  have Hp := Aside0.mk hp
  have HP : Aside0 (PInv p) := ⟨by rw [← hp]; exact PInv.make l 60 hi⟩
  obtain ⟨x, hx⟩ : ∃ x, x = wheelOf p.sl := ⟨_, rfl⟩
  have HXE := Aside0.mk hx
  have HXN : Aside0 (x.length = 127) := ⟨by rw [hx]; exact wheel_len HP.out⟩
  have HXB : Aside0 (x.length < 4611686018427387904) := ⟨by rw [HXN.out]; decide⟩
  have HWS : Aside0 (∀ w, Calls Try.prog 15 #[.agg (pcs p)] w fun e w' => ∃ (A : Option Addr) (c : Nat), e = .returned (.slice A x.length c) ∧ x.length ≤ c ∧ Kd.C (Kd.int .i64) w' A x.length x ∧ Below w.heap.size w w') := ⟨fun w => by rw [hx]; exact wheel_say HP.out⟩
  have HRS : Aside0 (∀ w, Calls Try.prog 16 #[.agg (pcs p)] w fun e w' => ∃ (A : Option Addr) (c : Nat), e = .returned (.slice A x.length c) ∧ x.length ≤ c ∧ Kd.C (Kd.int .i64) w' A x.length x ∧ Below w.heap.size w w') := ⟨fun w => by rw [hx]; exact ref_say HP.out⟩
  clear hl hi hC hp hx
  obtain ⟨r1, r2, r3, r4, hfl⟩ := flow_ex f g0
  have HFL := Aside0.mk hfl
  clear hfl
  go_enter Try.func3, Try.ntmps3
  go_upto_region 4 with (first
    | (go_at_call 13; refine (known_calls _).mono ?_; rintro e_ w1 ⟨rfl, hb_⟩; have HB := Aside0.mk hb_; clear hb_)
    | (go_at_call 14; refine (make_calls A c l 60 ⟨by decide, by decide⟩ HL.out HI.out _ (Kd.C_below HC.out HB.out)).mono ?_; rw [Hp.out]; rintro e_ w2 ⟨rfl, hb_⟩; have n_ := Aside0.mk (below_step HB.out hb_); clear HB hb_; have HB := n_; clear n_)
    | ((with_reducible refine gate_dst (N := 7) rfl ?_); refine pl_var (N := 7) rfl rfl rfl rfl rfl (.tmp 13) rfl (HP.out.len) (fun _ => rfl) (fun _ => rfl) ?_; intro g w3 hge hb2 hB2; have HG := Aside0.mk hb2; have n_ := Aside0.mk (below_step HB.out hB2); clear HB hb2 hB2 hge; have HB := n_; clear n_))
  have hb_ := below_drew1 (Below.refl w3.heap.size w3)
  have n0_ := Aside0.mk (below_step HB.out hb_)
  have n1_ := Aside0.mk (HG.out.below hb_)
  clear HB hb_ HG
  have HB := n0_
  have HG := n1_
  clear n0_ n1_
  refine start_ (n := 6) (S := fun w' => Blk w' g 33 (pcs p)) (ds := []) #[false, false, false, false, false, false] (by kernel_rfl) rfl rfl (HG.out) (fun hHeld => ?_)
  generalize w3.drew = w4 at HG HB hHeld ⊢
  refine take_ (i := 0) (N := some 14) (v := ?_) (a' := ?_) #[true, false, false, false, false, false] rfl rfl (by kernel_rfl) (fun _ _ _ h => h) (Or.inl ⟨by rfl, ?_⟩) hHeld ?_ ?_
  rotate_left
  · intro w' hs
    refine (run_ld33 _ _ w' g p (.tmp 7) ?_ ?_ hs HP.out.len).trans ?_
    · rfl
    · rfl
    · with_reducible rfl
  rotate_left
  · simp only [Act.put, List.setIfInBounds_toArray, List.set_cons_zero, List.set_cons_succ, i64_w, i32_w]
    rfl
  refine take_ (i := 2) (N := some 16) (v := ?_) (a' := ?_) #[true, false, true, false, false, false] rfl rfl (by kernel_rfl) (fun _ _ _ h => h) (Or.inl ⟨by rfl, ?_⟩) hHeld ?_ ?_
  rotate_left
  · intro w' hs
    refine (run_ld33 _ _ w' g p (.tmp 7) ?_ ?_ hs HP.out.len).trans ?_
    · rfl
    · rfl
    · with_reducible rfl
  rotate_left
  · simp only [Act.put, List.setIfInBounds_toArray, List.set_cons_zero, List.set_cons_succ, i64_w, i32_w]
    rfl
  refine one_ (i := 1) (N := some 15) #[true, true, true, false, false, false] rfl rfl (by kernel_rfl) (by decide) (fun K hK => ?_)
  refine goes_ Try.func15 (by kernel_rfl) rfl #[.agg (pcs p)] (by rfl) rfl rfl (by simp only [List.map_toArray, List.map_cons, List.map_nil]; rfl) ?_
  refine (HWS.out _).mono ?_
  rintro e_ w5 ⟨A1, c1, rfl, hc_, hC_, hb_⟩
  refine ⟨_, rfl, ?_⟩
  have n0_ := Aside0.mk (below_step HB.out hb_)
  have n1_ := Aside0.mk (HG.out.below hb_)
  clear HB hb_ HG
  have HB := n0_
  have HG := n1_
  clear n0_ n1_
  clear hHeld
  have HX1 := Aside0.mk hC_
  have HX1L := Aside0.mk hc_
  clear hC_ hc_
  refine hK.out _ _ (HG.out) (fun hHeld => ?_)
  clear hK K
  refine norm_ (a' := ?_) ?_ ?_
  rotate_left
  · show Act.put _ (some 15) _ = _
    simp only [Act.put, List.setIfInBounds_toArray, List.set_cons_zero, List.set_cons_succ, i64_w, i32_w]
    rfl
  refine one_ (i := 3) (N := some 17) #[true, true, true, true, false, false] rfl rfl (by kernel_rfl) (by decide) (fun K hK => ?_)
  refine goes_ Try.func16 (by kernel_rfl) rfl #[.agg (pcs p)] (by rfl) rfl rfl (by simp only [List.map_toArray, List.map_cons, List.map_nil]; rfl) ?_
  refine (HRS.out _).mono ?_
  rintro e_ w6 ⟨A2, c2, rfl, hc_, hC_, hb_⟩
  refine ⟨_, rfl, ?_⟩
  have n0_ := Aside0.mk (below_step HB.out hb_)
  have n1_ := Aside0.mk (HG.out.below hb_)
  have n2_ := Aside0.mk (Kd.C_below HX1.out hb_)
  clear HB hb_ HG HX1
  have HB := n0_
  have HG := n1_
  have HX1 := n2_
  clear n0_ n1_ n2_
  clear hHeld
  have HX2 := Aside0.mk hC_
  have HX2L := Aside0.mk hc_
  clear hC_ hc_
  refine hK.out _ _ (HG.out) (fun hHeld => ?_)
  clear hK K
  refine norm_ (a' := ?_) ?_ ?_
  rotate_left
  · show Act.put _ (some 17) _ = _
    simp only [Act.put, List.setIfInBounds_toArray, List.set_cons_zero, List.set_cons_succ, i64_w, i32_w]
    rfl
  refine pure_ (i := 4) (N := some 8) (v := ?_) (a' := ?_) #[true, true, true, true, true, false] rfl rfl (by kernel_rfl) (fun _ _ _ h => h) (Or.inl ⟨by rfl, ?_⟩) ?_ ?_
  rotate_left
  · intro w'
    go_simp
    with_reducible rfl
  rotate_left
  · simp only [Act.put, List.setIfInBounds_toArray, List.set_cons_zero, List.set_cons_succ, i64_w, i32_w]
    rfl
  refine pure_ (i := 5) (N := some 9) (v := ?_) (a' := ?_) #[true, true, true, true, true, true] rfl rfl (by kernel_rfl) (fun _ _ _ h => h) (Or.inl ⟨by rfl, ?_⟩) ?_ ?_
  rotate_left
  · intro w'
    go_simp
    with_reducible rfl
  rotate_left
  · simp only [Act.put, List.setIfInBounds_toArray, List.set_cons_zero, List.set_cons_succ, i64_w, i32_w]
    rfl
  refine done_ (by kernel_rfl) ?_
  clear hHeld
  go_wp2_with (first
    | (go_at_call 17; refine (same_say x x HXB.out HX1.out HX1L.out HX2.out HX2L.out).mono ?_; rw [decide_eq_true rfl]; rintro e_ w7 ⟨rfl, hb_⟩; have n0_ := Aside0.mk (below_step HB.out hb_); have n1_ := Aside0.mk (Kd.C_below HX1.out hb_); have n2_ := Aside0.mk (Kd.C_below HX2.out hb_); clear HB hb_ HX1 HX2; have HB := n0_; have HX1 := n1_; have HX2 := n2_; clear n0_ n1_ n2_)
    | (go_at_call 19; refine (roundhouselaw5_Flow.calls f g0 r1 r2 r3 r4 _ HFL.out).mono ?_; rintro e_ w8 ⟨rfl, hb_⟩; have n0_ := Aside0.mk (below_step HB.out hb_); have n1_ := Aside0.mk (Kd.C_below HX1.out hb_); have n2_ := Aside0.mk (Kd.C_below HX2.out hb_); clear HB hb_ HX1 HX2; have HB := n0_; have HX1 := n1_; have HX2 := n2_; clear n0_ n1_ n2_)
    | (go_at_call 18; refine (pick_say x r1 r2 r3 r4 HXN.out HX1.out HX1L.out).mono ?_; rintro e_ w9 ⟨rfl, hb_⟩; have n0_ := Aside0.mk (below_step HB.out hb_); have n1_ := Aside0.mk (Kd.C_below HX1.out hb_); have n2_ := Aside0.mk (Kd.C_below HX2.out hb_); clear HB hb_ HX1 HX2; have HB := n0_; have HX1 := n1_; have HX2 := n2_; clear n0_ n1_ n2_)
    | (go_at_call 20; refine (rpick_say x r1 r2 r3 r4 HXN.out HX2.out HX2L.out).mono ?_; rintro e_ wA ⟨rfl, hb_⟩; have n0_ := Aside0.mk (below_step HB.out hb_); have n1_ := Aside0.mk (Kd.C_below HX1.out hb_); have n2_ := Aside0.mk (Kd.C_below HX2.out hb_); clear HB hb_ HX1 HX2; have HB := n0_; have HX1 := n1_; have HX2 := n2_; clear n0_ n1_ n2_)
    | (go_at_call 22; refine (within_say f 70 (by decide) (by decide)).mono ?_; rintro e_ wB ⟨rfl, hb_⟩; have n0_ := Aside0.mk (below_step HB.out hb_); have n1_ := Aside0.mk (Kd.C_below HX1.out hb_); have n2_ := Aside0.mk (Kd.C_below HX2.out hb_); clear HB hb_ HX1 HX2; have HB := n0_; have HX1 := n1_; have HX2 := n2_; clear n0_ n1_ n2_)
    | (go_at_call 21; refine (share_say x _ HXB.out HX1.out HX1L.out).mono ?_; rintro e_ wC ⟨rfl, hb_⟩; have n0_ := Aside0.mk (below_step HB.out hb_); have n1_ := Aside0.mk (Kd.C_below HX1.out hb_); have n2_ := Aside0.mk (Kd.C_below HX2.out hb_); clear HB hb_ HX1 HX2; have HB := n0_; have HX1 := n1_; have HX2 := n2_; clear n0_ n1_ n2_)
    | (go_at_call 23; refine (rshare_say x _ HXB.out HX2.out HX2L.out).mono ?_; rintro e_ wD ⟨rfl, hb_⟩; have n0_ := Aside0.mk (below_step HB.out hb_); have n1_ := Aside0.mk (Kd.C_below HX1.out hb_); have n2_ := Aside0.mk (Kd.C_below HX2.out hb_); clear HB hb_ HX1 HX2; have HB := n0_; have HX1 := n1_; have HX2 := n2_; clear n0_ n1_ n2_))
  go_ret
  exact ⟨rfl, HB.out⟩
end Go.Proofs.Ytnffajpnffibaaa.Own
