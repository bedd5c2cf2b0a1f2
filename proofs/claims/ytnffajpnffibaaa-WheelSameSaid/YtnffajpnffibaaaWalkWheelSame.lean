/-
  The walk of roundhouselaw7.WheelSame.
-/
import Derived.Test.YtnffajpnffibaaaWheXA
namespace Go.Proofs.Ytnffajpnffibaaa.Own
open Go Go.RowKit Go.Proofs.YtnffajpnffibaaaW.PrintWords Go.Proofs.YtnffajpnffibaaaW.PrintMore Go.Proofs.YtnffajpnffibaaaW.PrintLast Go.Proofs.Ytnffajpnffibaaa.Q
set_option linter.unusedVariables false
set_option linter.unusedSimpArgs false

set_option maxHeartbeats 8000000 in
set_option maxRecDepth 100000 in
theorem WheelSame_walk (W : World) (A : Option Addr) (c : Nat) (l : List Int) (hl : l.length ≤ 4611686018427387903) (hi : ∀ x ∈ l, -9223372036854775808 ≤ x ∧ x ≤ 9223372036854775807) (hc : l.length ≤ c) (hC : Kd.C (Kd.int .i64) W A l.length l) (kk : Int) (hkk : -9223372036854775808 ≤ kk ∧ kk ≤ 9223372036854775807) : Calls Try.prog 5 #[.slice A l.length c, .int .i64 kk] W fun e w' => e = .returned (.bool true) ∧ Below W.heap.size W w' := by
  have hu25 := Try.underlying25
  have hu33 := pool33
  have hu26 := slots26
  have hu22 := Try.underlying22
  have hu29 := Try.underlying29
  have hu49 := Try.underlying49
  have hu45 := Try.underlying45
  have HL : Aside0 (l.length ≤ 4611686018427387904) := ⟨by omega⟩
  have HI := Aside0.mk hi
  have HC := Aside0.mk hC
  obtain ⟨p, hp⟩ : ∃ p, make6 l 60 = p := ⟨_, rfl⟩
  have Hp := Aside0.mk hp
  have HP : Aside0 (PInv p) := ⟨by rw [← hp]; exact PInv.make l 60 hi⟩
  obtain ⟨x, hx⟩ : ∃ x, x = wheelOf p.sl := ⟨_, rfl⟩
  have HXE := Aside0.mk hx
  have HXN : Aside0 (x.length = 127) := ⟨by rw [hx]; exact wheel_len HP.out⟩
  have HXB : Aside0 (x.length < 4611686018427387904) := ⟨by rw [HXN.out]; decide⟩
  have HWS : Aside0 (∀ w, Calls Try.prog 15 #[.agg (pcs p)] w fun e w' => ∃ (A : Option Addr) (c : Nat), e = .returned (.slice A x.length c) ∧ x.length ≤ c ∧ Kd.C (Kd.int .i64) w' A x.length x ∧ Below w.heap.size w w') := ⟨fun w => by rw [hx]; exact wheel_say HP.out⟩
  have HRS : Aside0 (∀ w, Calls Try.prog 16 #[.agg (pcs p)] w fun e w' => ∃ (A : Option Addr) (c : Nat), e = .returned (.slice A x.length c) ∧ x.length ≤ c ∧ Kd.C (Kd.int .i64) w' A x.length x ∧ Below w.heap.size w w') := ⟨fun w => by rw [hx]; exact ref_say HP.out⟩
  clear hl hi hC hp hx
  obtain ⟨ka, kb, hky⟩ : ∃ ka kb : Int, ∀ w, Calls Try.prog 25 #[.int .i64 kk] w fun e w' => e = .returned (.agg #[.int .u64 ka, .int .u64 kb]) ∧ Below w.heap.size w w' := ⟨_, _, fun w => roundhouselaw5_Key.calls kk _ _ w rfl⟩
  have HKY := Aside0.mk hky
  have hwf0 : WF 6 0 0 0 0 ka kb := .inr (.inr (.inr (.inr (.inr ⟨rfl, rfl, rfl, rfl, rfl⟩))))
  obtain ⟨q0, hq0⟩ : ∃ q0, q0 = (applyP p 6 0 0 0 0 ka kb).1 := ⟨_, rfl⟩
  obtain ⟨r0, hr0⟩ : ∃ r0, r0 = (applyP p 6 0 0 0 0 ka kb).2 := ⟨_, rfl⟩
  have HQ0 : Aside0 (PInv q0) := ⟨by rw [hq0]; exact PInv.apply HP.out hwf0⟩
  have HA0 : Aside0 (Alike p.sl q0.sl) := ⟨by rw [hq0]; exact (rotate_alike HP.out (Alike.refl _) ka kb).2⟩
  have HAP : Aside0 (∀ w, Calls Try.prog 24 #[.agg (pcs p), .agg #[.int .i64 6, .int .i64 0, .int .i64 0, .int .i64 0, .int .i64 0, .int .u64 ka, .int .u64 kb]] w fun e w' => e = .returned (.tuple #[.agg (pcs q0), .int .i64 r0]) ∧ Below w.heap.size w w') := ⟨fun w => by
    rw [hq0, hr0]
    exact apply_calls p HP.out.len 6 0 0 0 0 ka kb hwf0 w⟩
  clear hky hwf0 hq0 hr0
  go_enter Try.func5, Try.ntmps5
  go_upto_region 4 with (first
    | (go_at_call 13; refine (known_calls _).mono ?_; rintro e_ w1 ⟨rfl, hb_⟩; have HB := Aside0.mk hb_; clear hb_)
    | (go_at_call 14; refine (make_calls A c l 60 ⟨by decide, by decide⟩ HL.out HI.out _ (Kd.C_below HC.out HB.out)).mono ?_; rw [Hp.out]; rintro e_ w2 ⟨rfl, hb_⟩; have n_ := Aside0.mk (below_step HB.out hb_); clear HB hb_; have HB := n_; clear n_)
    | ((with_reducible refine gate_dst (N := 5) rfl ?_); refine pl_var (N := 5) rfl rfl rfl rfl rfl (.tmp 13) rfl HP.out.len (fun _ => rfl) (fun _ => rfl) ?_; intro g w3 hge hb2 hB2; have HG := Aside0.mk hb2; have HGE : Aside0 (W.heap.size ≤ g) := ⟨by have h1_ := HB.out.size; omega⟩; have n_ := Aside0.mk (below_step HB.out hB2); clear HB hb2 hB2 hge; have HB := n_; clear n_))
  have hb_ := below_drew1 (Below.refl w3.heap.size w3)
  have n0_ := Aside0.mk (below_step HB.out hb_)
  have n1_ := Aside0.mk (HG.out.below hb_)
  clear HB hb_ HG
  have HB := n0_
  have HG := n1_
  clear n0_ n1_
  refine start_ (n := 11) (S := fun w' => Blk w' g 33 (pcs p)) (ds := []) #[false, false, false, false, false, false, false, false, false, false, false] (by kernel_rfl) rfl rfl (HG.out) (fun hHeld => ?_)
  generalize w3.drew = wB at HG HB hHeld ⊢
  refine pure_ (i := 1) (N := some 16) (v := ?_) (a' := ?_) #[false, true, false, false, false, false, false, false, false, false, false] rfl rfl (by kernel_rfl) (fun _ _ _ h => h) (Or.inl ⟨by rfl, ?_⟩) ?_ ?_
  rotate_left
  · intro w'
    go_simp
    with_reducible rfl
  rotate_left
  · simp only [Act.put, List.setIfInBounds_toArray, List.set_cons_zero, List.set_cons_succ, i64_w, i32_w]
    rfl
  refine take_ (i := 0) (N := some 15) (v := ?_) (a' := ?_) #[true, true, false, false, false, false, false, false, false, false, false] rfl rfl (by kernel_rfl) (fun _ _ _ h => h) (Or.inl ⟨by rfl, ?_⟩) hHeld ?_ ?_
  rotate_left
  · intro w' hs
    refine (run_ld33 _ _ w' g p (.tmp 5) ?_ ?_ hs HP.out.len).trans ?_
    · rfl
    · rfl
    · with_reducible rfl
  rotate_left
  · simp only [Act.put, List.setIfInBounds_toArray, List.set_cons_zero, List.set_cons_succ, i64_w, i32_w]
    rfl
  refine join_ (σ := Nat) 2 #[true, true, true, true, true, true, true, true, true, false, false] (fun s_ => [(17, .agg #[.int .u64 ka, .int .u64 kb]), (18, .agg #[.int .i64 6, .int .i64 0, .int .i64 0, .int .i64 0, .int .i64 0, .int .u64 ka, .int .u64 kb]), (19, .tuple #[.agg (pcs q0), .int .i64 r0]), (14, .tuple #[.agg (pcs q0), .int .i64 r0]), (20, .agg (pcs q0)), (21, .int .i64 r0), (6, .pointer (some ⟨s_, 0, none⟩))]) (fun s_ w' => (Blk w' g 33 (pcs p)) ∧ Below W.heap.size W w' ∧ Blk w' s_ 33 (pcs zeroP) ∧ g < s_) ?_ ?_
  rotate_left
  · intro hCont
    refine two_ (i := 2) (j := 8) (Ni := some 17) (Nj := some 6) #[true, true, true, false, false, false, false, false, false, false, false] #[true, true, false, false, false, false, false, false, true, false, false] rfl rfl rfl rfl (by kernel_rfl) (by decide) (by decide) (fun K hK => ?_) (fun K hK => ?_)
    · skip
      refine goes_ Try.func25 (by kernel_rfl) rfl #[.int .i64 kk] (by rfl) rfl rfl (by simp only [List.map_toArray, List.map_cons, List.map_nil]; rfl) ?_
      refine (HKY.out _).mono ?_
      rintro e_ wE0 ⟨rfl, hb_⟩
      refine ⟨_, rfl, ?_⟩
      have n0_ := Aside0.mk (below_step HB.out hb_)
      have n1_ := Aside0.mk (HG.out.below hb_)
      clear HB HG hHeld
      have HB := n0_
      have HG := n1_
      clear n0_ n1_ hb_
      refine hK.out _ _ (HG.out) (fun hHeld => ?_)
      clear hK K
      refine norm_ (a' := ?_) ?_ ?_
      rotate_left
      · show Act.put _ (some 17) _ = _
        simp only [Act.put, List.setIfInBounds_toArray, List.set_cons_zero, List.set_cons_succ, i64_w, i32_w]
        rfl
      refine pure_ (i := 3) (N := some 18) (v := ?_) (a' := ?_) #[true, true, true, true, false, false, false, false, false, false, false] rfl rfl (by kernel_rfl) (fun _ _ _ h => h) (Or.inl ⟨by rfl, ?_⟩) ?_ ?_
      rotate_left
      · intro w'
        go_simp
        with_reducible rfl
      rotate_left
      · simp only [Act.put, List.setIfInBounds_toArray, List.set_cons_zero, List.set_cons_succ, i64_w, i32_w]
        rfl
      refine two_ (i := 4) (j := 8) (Ni := some 19) (Nj := some 6) #[true, true, true, true, true, false, false, false, false, false, false] #[true, true, true, true, false, false, false, false, true, false, false] rfl rfl rfl rfl (by kernel_rfl) (by decide) (by decide) (fun K hK => ?_) (fun K hK => ?_)
      · skip
        refine goes_ Try.func24 (by kernel_rfl) rfl #[.agg (pcs p), .agg #[.int .i64 6, .int .i64 0, .int .i64 0, .int .i64 0, .int .i64 0, .int .u64 ka, .int .u64 kb]] (by rfl) rfl rfl (by simp only [List.map_toArray, List.map_cons, List.map_nil]; rfl) ?_
        refine (HAP.out _).mono ?_
        rintro e_ wC1 ⟨rfl, hb_⟩
        refine ⟨_, rfl, ?_⟩
        have n0_ := Aside0.mk (below_step HB.out hb_)
        have n1_ := Aside0.mk (HG.out.below hb_)
        clear HB HG hHeld
        have HB := n0_
        have HG := n1_
        clear n0_ n1_ hb_
        refine hK.out _ _ (HG.out) (fun hHeld => ?_)
        clear hK K
        refine norm_ (a' := ?_) ?_ ?_
        rotate_left
        · show Act.put _ (some 19) _ = _
          simp only [Act.put, List.setIfInBounds_toArray, List.set_cons_zero, List.set_cons_succ, i64_w, i32_w]
          rfl
        refine pure_ (i := 5) (N := some 14) (v := ?_) (a' := ?_) #[true, true, true, true, true, true, false, false, false, false, false] rfl rfl (by kernel_rfl) (fun _ _ _ h => h) (Or.inl ⟨by rfl, ?_⟩) ?_ ?_
        rotate_left
        · intro w'
          go_simp
          with_reducible rfl
        rotate_left
        · simp only [Act.put, List.setIfInBounds_toArray, List.set_cons_zero, List.set_cons_succ, i64_w, i32_w]
          rfl
        refine pure_ (i := 6) (N := some 20) (v := ?_) (a' := ?_) #[true, true, true, true, true, true, true, false, false, false, false] rfl rfl (by kernel_rfl) (fun _ _ _ h => h) (Or.inl ⟨by rfl, ?_⟩) ?_ ?_
        rotate_left
        · intro w'
          go_simp
          with_reducible rfl
        rotate_left
        · simp only [Act.put, List.setIfInBounds_toArray, List.set_cons_zero, List.set_cons_succ, i64_w, i32_w]
          rfl
        refine pure_ (i := 7) (N := some 21) (v := ?_) (a' := ?_) #[true, true, true, true, true, true, true, true, false, false, false] rfl rfl (by kernel_rfl) (fun _ _ _ h => h) (Or.inl ⟨by rfl, ?_⟩) ?_ ?_
        rotate_left
        · intro w'
          go_simp
          with_reducible rfl
        rotate_left
        · simp only [Act.put, List.setIfInBounds_toArray, List.set_cons_zero, List.set_cons_succ, i64_w, i32_w]
          rfl
        refine one_ (i := 8) (N := some 6) #[true, true, true, true, true, true, true, true, true, false, false] rfl rfl (by kernel_rfl) (by decide) (fun K hK => ?_)
        refine box_step (by rfl) (N := 6) rfl (run33 _ _ _ rfl) ?_
        intro s8 hs8 wA2 hb_ hB_
        have HLT : Aside0 (g < s8) := ⟨by rw [hs8]; exact HG.out.lt⟩
        have HS8 : Aside0 (Blk wA2 s8 33 (pcs zeroP)) := ⟨hb_⟩
        have n0_ := Aside0.mk (below_step HB.out hB_)
        have n1_ := Aside0.mk (HG.out.below hB_)
        clear HB HG hHeld hb_ hB_ hs8
        have HB := n0_
        have HG := n1_
        clear n0_ n1_
        refine hK.out _ _ (HG.out) (fun hHeld => ?_)
        clear hK K
        refine norm_ (a' := ?_) ?_ ?_
        rotate_left
        · show Act.put _ (some 6) _ = _
          simp only [Act.put, List.setIfInBounds_toArray, List.set_cons_zero, List.set_cons_succ, i64_w, i32_w]
          rfl
        exact norm_ (by simp only [putAll, Act.put, List.setIfInBounds_toArray, List.set_cons_zero, List.set_cons_succ]) (hCont s8 _ ⟨hHeld, HB.out, HS8.out, HLT.out⟩)
      · skip
        refine box_step (by rfl) (N := 6) rfl (run33 _ _ _ rfl) ?_
        intro s8 hs8 wA1 hb_ hB_
        have HLT : Aside0 (g < s8) := ⟨by rw [hs8]; exact HG.out.lt⟩
        have HS8 : Aside0 (Blk wA1 s8 33 (pcs zeroP)) := ⟨hb_⟩
        have n0_ := Aside0.mk (below_step HB.out hB_)
        have n1_ := Aside0.mk (HG.out.below hB_)
        clear HB HG hHeld hb_ hB_ hs8
        have HB := n0_
        have HG := n1_
        clear n0_ n1_
        refine hK.out _ _ (HG.out) (fun hHeld => ?_)
        clear hK K
        refine norm_ (a' := ?_) ?_ ?_
        rotate_left
        · show Act.put _ (some 6) _ = _
          simp only [Act.put, List.setIfInBounds_toArray, List.set_cons_zero, List.set_cons_succ, i64_w, i32_w]
          rfl
        refine one_ (i := 4) (N := some 19) #[true, true, true, true, true, false, false, false, true, false, false] rfl rfl (by kernel_rfl) (by decide) (fun K hK => ?_)
        refine goes_ Try.func24 (by kernel_rfl) rfl #[.agg (pcs p), .agg #[.int .i64 6, .int .i64 0, .int .i64 0, .int .i64 0, .int .i64 0, .int .u64 ka, .int .u64 kb]] (by rfl) rfl rfl (by simp only [List.map_toArray, List.map_cons, List.map_nil]; rfl) ?_
        refine (HAP.out _).mono ?_
        rintro e_ wC2 ⟨rfl, hb_⟩
        refine ⟨_, rfl, ?_⟩
        have n0_ := Aside0.mk (below_step HB.out hb_)
        have n1_ := Aside0.mk (HG.out.below hb_)
        have m_ := Aside0.mk (HS8.out.below hb_)
        clear HS8
        have HS8 := m_
        clear m_
        clear HB HG hHeld
        have HB := n0_
        have HG := n1_
        clear n0_ n1_ hb_
        refine hK.out _ _ (HG.out) (fun hHeld => ?_)
        clear hK K
        refine norm_ (a' := ?_) ?_ ?_
        rotate_left
        · show Act.put _ (some 19) _ = _
          simp only [Act.put, List.setIfInBounds_toArray, List.set_cons_zero, List.set_cons_succ, i64_w, i32_w]
          rfl
        refine pure_ (i := 5) (N := some 14) (v := ?_) (a' := ?_) #[true, true, true, true, true, true, false, false, true, false, false] rfl rfl (by kernel_rfl) (fun _ _ _ h => h) (Or.inl ⟨by rfl, ?_⟩) ?_ ?_
        rotate_left
        · intro w'
          go_simp
          with_reducible rfl
        rotate_left
        · simp only [Act.put, List.setIfInBounds_toArray, List.set_cons_zero, List.set_cons_succ, i64_w, i32_w]
          rfl
        refine pure_ (i := 6) (N := some 20) (v := ?_) (a' := ?_) #[true, true, true, true, true, true, true, false, true, false, false] rfl rfl (by kernel_rfl) (fun _ _ _ h => h) (Or.inl ⟨by rfl, ?_⟩) ?_ ?_
        rotate_left
        · intro w'
          go_simp
          with_reducible rfl
        rotate_left
        · simp only [Act.put, List.setIfInBounds_toArray, List.set_cons_zero, List.set_cons_succ, i64_w, i32_w]
          rfl
        refine pure_ (i := 7) (N := some 21) (v := ?_) (a' := ?_) #[true, true, true, true, true, true, true, true, true, false, false] rfl rfl (by kernel_rfl) (fun _ _ _ h => h) (Or.inl ⟨by rfl, ?_⟩) ?_ ?_
        rotate_left
        · intro w'
          go_simp
          with_reducible rfl
        rotate_left
        · simp only [Act.put, List.setIfInBounds_toArray, List.set_cons_zero, List.set_cons_succ, i64_w, i32_w]
          rfl
        exact norm_ (by simp only [putAll, Act.put, List.setIfInBounds_toArray, List.set_cons_zero, List.set_cons_succ]) (hCont s8 _ ⟨hHeld, HB.out, HS8.out, HLT.out⟩)
    · skip
      refine box_step (by rfl) (N := 6) rfl (run33 _ _ _ rfl) ?_
      intro s8 hs8 wA0 hb_ hB_
      have HLT : Aside0 (g < s8) := ⟨by rw [hs8]; exact HG.out.lt⟩
      have HS8 : Aside0 (Blk wA0 s8 33 (pcs zeroP)) := ⟨hb_⟩
      have n0_ := Aside0.mk (below_step HB.out hB_)
      have n1_ := Aside0.mk (HG.out.below hB_)
      clear HB HG hHeld hb_ hB_ hs8
      have HB := n0_
      have HG := n1_
      clear n0_ n1_
      refine hK.out _ _ (HG.out) (fun hHeld => ?_)
      clear hK K
      refine norm_ (a' := ?_) ?_ ?_
      rotate_left
      · show Act.put _ (some 6) _ = _
        simp only [Act.put, List.setIfInBounds_toArray, List.set_cons_zero, List.set_cons_succ, i64_w, i32_w]
        rfl
      refine one_ (i := 2) (N := some 17) #[true, true, true, false, false, false, false, false, true, false, false] rfl rfl (by kernel_rfl) (by decide) (fun K hK => ?_)
      refine goes_ Try.func25 (by kernel_rfl) rfl #[.int .i64 kk] (by rfl) rfl rfl (by simp only [List.map_toArray, List.map_cons, List.map_nil]; rfl) ?_
      refine (HKY.out _).mono ?_
      rintro e_ wE1 ⟨rfl, hb_⟩
      refine ⟨_, rfl, ?_⟩
      have n0_ := Aside0.mk (below_step HB.out hb_)
      have n1_ := Aside0.mk (HG.out.below hb_)
      have m_ := Aside0.mk (HS8.out.below hb_)
      clear HS8
      have HS8 := m_
      clear m_
      clear HB HG hHeld
      have HB := n0_
      have HG := n1_
      clear n0_ n1_ hb_
      refine hK.out _ _ (HG.out) (fun hHeld => ?_)
      clear hK K
      refine norm_ (a' := ?_) ?_ ?_
      rotate_left
      · show Act.put _ (some 17) _ = _
        simp only [Act.put, List.setIfInBounds_toArray, List.set_cons_zero, List.set_cons_succ, i64_w, i32_w]
        rfl
      refine pure_ (i := 3) (N := some 18) (v := ?_) (a' := ?_) #[true, true, true, true, false, false, false, false, true, false, false] rfl rfl (by kernel_rfl) (fun _ _ _ h => h) (Or.inl ⟨by rfl, ?_⟩) ?_ ?_
      rotate_left
      · intro w'
        go_simp
        with_reducible rfl
      rotate_left
      · simp only [Act.put, List.setIfInBounds_toArray, List.set_cons_zero, List.set_cons_succ, i64_w, i32_w]
        rfl
      refine one_ (i := 4) (N := some 19) #[true, true, true, true, true, false, false, false, true, false, false] rfl rfl (by kernel_rfl) (by decide) (fun K hK => ?_)
      refine goes_ Try.func24 (by kernel_rfl) rfl #[.agg (pcs p), .agg #[.int .i64 6, .int .i64 0, .int .i64 0, .int .i64 0, .int .i64 0, .int .u64 ka, .int .u64 kb]] (by rfl) rfl rfl (by simp only [List.map_toArray, List.map_cons, List.map_nil]; rfl) ?_
      refine (HAP.out _).mono ?_
      rintro e_ wC2 ⟨rfl, hb_⟩
      refine ⟨_, rfl, ?_⟩
      have n0_ := Aside0.mk (below_step HB.out hb_)
      have n1_ := Aside0.mk (HG.out.below hb_)
      have m_ := Aside0.mk (HS8.out.below hb_)
      clear HS8
      have HS8 := m_
      clear m_
      clear HB HG hHeld
      have HB := n0_
      have HG := n1_
      clear n0_ n1_ hb_
      refine hK.out _ _ (HG.out) (fun hHeld => ?_)
      clear hK K
      refine norm_ (a' := ?_) ?_ ?_
      rotate_left
      · show Act.put _ (some 19) _ = _
        simp only [Act.put, List.setIfInBounds_toArray, List.set_cons_zero, List.set_cons_succ, i64_w, i32_w]
        rfl
      refine pure_ (i := 5) (N := some 14) (v := ?_) (a' := ?_) #[true, true, true, true, true, true, false, false, true, false, false] rfl rfl (by kernel_rfl) (fun _ _ _ h => h) (Or.inl ⟨by rfl, ?_⟩) ?_ ?_
      rotate_left
      · intro w'
        go_simp
        with_reducible rfl
      rotate_left
      · simp only [Act.put, List.setIfInBounds_toArray, List.set_cons_zero, List.set_cons_succ, i64_w, i32_w]
        rfl
      refine pure_ (i := 6) (N := some 20) (v := ?_) (a' := ?_) #[true, true, true, true, true, true, true, false, true, false, false] rfl rfl (by kernel_rfl) (fun _ _ _ h => h) (Or.inl ⟨by rfl, ?_⟩) ?_ ?_
      rotate_left
      · intro w'
        go_simp
        with_reducible rfl
      rotate_left
      · simp only [Act.put, List.setIfInBounds_toArray, List.set_cons_zero, List.set_cons_succ, i64_w, i32_w]
        rfl
      refine pure_ (i := 7) (N := some 21) (v := ?_) (a' := ?_) #[true, true, true, true, true, true, true, true, true, false, false] rfl rfl (by kernel_rfl) (fun _ _ _ h => h) (Or.inl ⟨by rfl, ?_⟩) ?_ ?_
      rotate_left
      · intro w'
        go_simp
        with_reducible rfl
      rotate_left
      · simp only [Act.put, List.setIfInBounds_toArray, List.set_cons_zero, List.set_cons_succ, i64_w, i32_w]
        rfl
      exact norm_ (by simp only [putAll, Act.put, List.setIfInBounds_toArray, List.set_cons_zero, List.set_cons_succ]) (hCont s8 _ ⟨hHeld, HB.out, HS8.out, HLT.out⟩)
  rintro s8 wD ⟨hHeld, h1_, h2_, h3_⟩
  clear HB HG
  have HG := Aside0.mk hHeld
  have HB := Aside0.mk h1_
  have HS8 := Aside0.mk h2_
  have HLT := Aside0.mk h3_
  clear h1_ h2_ h3_
  refine norm_ (a' := ?_) ?_ ?_
  rotate_left
  · simp only [putAll, Act.put, List.setIfInBounds_toArray, List.set_cons_zero, List.set_cons_succ]
    rfl
  refine one_ (i := 9) (N := none) #[true, true, true, true, true, true, true, true, true, true, false] rfl rfl (by kernel_rfl) (by decide) (fun K hK => ?_)
  refine skip_ (w1 := wD.setCells s8 0 (pcells q0)) (by rfl) rfl (run_st33 _ _ _ s8 _ q0 (.tmp 6) (.tmp 20) rfl rfl rfl HS8.out (pcs_size _ zeroP_len) HQ0.out.len) ?_
  have hg_ := setCells_grown (pcells q0) 0 wD s8
  have n0_ := Aside0.mk (HB.out.grown hg_ (below_size HB.out) (fun k hk => by injection hk with hk; have h1_ := HLT.out; have h2_ := HGE.out; omega))
  have n1_ := Aside0.mk (HG.out.grown hg_ (by intro e; injection e with e; have h1_ := HLT.out; omega))
  have m_ := Aside0.mk (st33_blk q0 HS8.out (pcs_size _ zeroP_len) HQ0.out.len)
  clear HB HG HS8 hHeld hg_
  generalize wD.setCells s8 0 (pcells q0) = wE at n0_ n1_ m_ ⊢
  have HB := n0_
  have HG := n1_
  have HS8 := m_
  clear n0_ n1_ m_
  refine hK.out _ _ (HG.out) (fun hHeld => ?_)
  clear hK K
  refine pure_ (i := 10) (N := some 7) (v := ?_) (a' := ?_) #[true, true, true, true, true, true, true, true, true, true, true] rfl rfl (by kernel_rfl) (fun _ _ _ h => h) (Or.inl ⟨by rfl, ?_⟩) ?_ ?_
  rotate_left
  · intro w'
    go_simp
    with_reducible rfl
  rotate_left
  · simp only [Act.put, List.setIfInBounds_toArray, List.set_cons_zero, List.set_cons_succ, i64_w, i32_w]
    rfl
  refine done_ (by kernel_rfl) ?_
  clear hHeld
  go_wp2_with fail
  go_loopg [8] 65 (fun kq v8 w' => ∃ (i : Nat) (q : PL), v8 = .int .i64 i ∧ Aside0 (kq + i = 65 ∧ i ≤ 64) ∧ Aside0 (PInv q) ∧ Aside0 (Alike p.sl q.sl) ∧ Aside0 (Blk w' g 33 (pcs p)) ∧ Aside0 (Blk w' s8 33 (pcs q)) ∧ Aside0 (Below W.heap.size W w'))
  case atStart => exact ⟨0, q0, rfl, ⟨by omega⟩, HQ0, HA0, HG, HS8, HB⟩
  case round =>
    clear HG HS8 HB HQ0 HA0 HAP HKY
    obtain ⟨i, q, rfl, HK, HQ, HA, HG, HS8, HB⟩ := hrel
    cases gk with
    | zero => have := HK.out; omega
    | succ k1 =>
      by_cases hi : i < 64
      · have h3 : decide ((i : Int) < 64) = true := decide_eq_true (by omega)
        have h4 : ((0 : Int) ≤ (i : Int)) = True := eq_true (by omega)
        have h5 : ((i : Int) < 64) = True := eq_true (by omega)
        obtain ⟨ad_, e_, hx0, hx1, hx2, hx3, hx4⟩ := at_T25 (slots_C HS8.out (pcs_slots q (HQ.out.len))) (i : Int) (by omega) (by rw [HQ.out.len]; omega); cases e_; simp only [add_in, Int.toNat_natCast] at hx0 hx1 hx2 hx3 hx4
        have HI64 := Aside0.mk hi
        have HIN : Aside0 (wrap64 ((i : Int) + 1) = ((i + 1 : Nat) : Int)) := ⟨by have h_ := HI64.out; rw [w64 _ (by omega) (by omega)]; omega⟩
        clear hi
        by_cases h1 : (rd_T25 q.sl (i : Int)).f0 = 1
        · have hb1 : ((rd_T25 q.sl (i : Int)).f0 == 1) = true := by simp [h1]
          have hsh := Or.inl (b := (rd_T25 q.sl (i : Int)).f0 = 3) h1
          clear h1
          have hwf : WF 4 (i : Int) 0 0 0 0 0 := .inr (.inr (.inr (.inl ⟨rfl, rfl, rfl, rfl, rfl, rfl⟩)))
          obtain ⟨q2, hq2⟩ : ∃ q2, q2 = (applyP q 4 (i : Int) 0 0 0 0 0).1 := ⟨_, rfl⟩
          obtain ⟨r2, hr2⟩ : ∃ r2, r2 = (applyP q 4 (i : Int) 0 0 0 0 0).2 := ⟨_, rfl⟩
          have HQ2 : Aside0 (PInv q2) := ⟨by rw [hq2]; exact PInv.apply HQ.out hwf⟩
          have HA2 : Aside0 (Alike p.sl q2.sl) := ⟨by rw [hq2]; exact (shut_alike HQ.out HA.out (i : Int) (by omega) (by have h_ := HI64.out; omega) hsh).2⟩
          have HAP : Aside0 (∀ w, Calls Try.prog 24 #[.agg (pcs q), .agg #[.int .i64 4, .int .i64 i, .int .i64 0, .int .i64 0, .int .i64 0, .int .u64 0, .int .u64 0]] w fun e w' => e = .returned (.tuple #[.agg (pcs q2), .int .i64 r2]) ∧ Below w.heap.size w w') := ⟨fun w => by
            rw [hq2, hr2]
            exact apply_calls q HQ.out.len 4 (i : Int) 0 0 0 0 0 hwf w⟩
          clear hwf hq2 hr2 hsh
          go_upto_region 10 with fail
          clear hx0 hx1 hx2 hx3 hx4
          go_wp2_with (first
            | ((with_reducible refine gate_dst (N := 38) rfl ?_); refine pl_load (N := 38) rfl rfl (.tmp 6) rfl rfl HS8.out HQ.out.len ?_)
            | (go_at_call 24; refine (HAP.out _).mono ?_; rintro e_ w6 ⟨rfl, hb_⟩; have n0_ := Aside0.mk (below_step HB.out hb_); have n1_ := Aside0.mk (HG.out.below hb_); have n2_ := Aside0.mk (HS8.out.below hb_); clear HB hb_ HG HS8; have HB := n0_; have HG := n1_; have HS8 := n2_; clear n0_ n1_ n2_)
            | ((with_reducible refine gate_store (t := 33) (p := 6) rfl ?_); refine pl_store rfl rfl (.tmp 6) (.tmp 42) rfl rfl rfl HS8.out (pcs_size _ HQ.out.len) HQ2.out.len ?_; intro w7 hb_ hg_; have n0_ := Aside0.mk (HB.out.grown hg_ (below_size HB.out) (fun k hk => by injection hk with hk; have h1_ := HLT.out; have h2_ := HGE.out; omega)); have n1_ := Aside0.mk (HG.out.grown hg_ (by intro e; injection e with e; have h1_ := HLT.out; omega)); have n2_ := Aside0.mk hb_; clear HB HG HS8 hb_ hg_; have HB := n0_; have HG := n1_; have HS8 := n2_; clear n0_ n1_ n2_))
          go_roundg k1
          case measure => omega
          case rel => exact ⟨i + 1, q2, by rw [HIN.out], ⟨by have h_ := HK.out; have h2_ := HI64.out; omega⟩, HQ2, HA2, HG, HS8, HB⟩
        · have hb1 : ((rd_T25 q.sl (i : Int)).f0 == 1) = false := by simp [h1]
          by_cases h2 : (rd_T25 q.sl (i : Int)).f0 = 3
          · have hb2 : ((rd_T25 q.sl (i : Int)).f0 == 3) = true := by simp [h2]
            have hsh := Or.inr (a := (rd_T25 q.sl (i : Int)).f0 = 1) h2
            clear h1 h2
            have hwf : WF 4 (i : Int) 0 0 0 0 0 := .inr (.inr (.inr (.inl ⟨rfl, rfl, rfl, rfl, rfl, rfl⟩)))
            obtain ⟨q2, hq2⟩ : ∃ q2, q2 = (applyP q 4 (i : Int) 0 0 0 0 0).1 := ⟨_, rfl⟩
            obtain ⟨r2, hr2⟩ : ∃ r2, r2 = (applyP q 4 (i : Int) 0 0 0 0 0).2 := ⟨_, rfl⟩
            have HQ2 : Aside0 (PInv q2) := ⟨by rw [hq2]; exact PInv.apply HQ.out hwf⟩
            have HA2 : Aside0 (Alike p.sl q2.sl) := ⟨by rw [hq2]; exact (shut_alike HQ.out HA.out (i : Int) (by omega) (by have h_ := HI64.out; omega) hsh).2⟩
            have HAP : Aside0 (∀ w, Calls Try.prog 24 #[.agg (pcs q), .agg #[.int .i64 4, .int .i64 i, .int .i64 0, .int .i64 0, .int .i64 0, .int .u64 0, .int .u64 0]] w fun e w' => e = .returned (.tuple #[.agg (pcs q2), .int .i64 r2]) ∧ Below w.heap.size w w') := ⟨fun w => by
              rw [hq2, hr2]
              exact apply_calls q HQ.out.len 4 (i : Int) 0 0 0 0 0 hwf w⟩
            clear hwf hq2 hr2 hsh
            go_upto_region 10 with fail
            clear hx0 hx1 hx2 hx3 hx4
            go_wp2_with (first
              | ((with_reducible refine gate_dst (N := 38) rfl ?_); refine pl_load (N := 38) rfl rfl (.tmp 6) rfl rfl HS8.out HQ.out.len ?_)
              | (go_at_call 24; refine (HAP.out _).mono ?_; rintro e_ w6 ⟨rfl, hb_⟩; have n0_ := Aside0.mk (below_step HB.out hb_); have n1_ := Aside0.mk (HG.out.below hb_); have n2_ := Aside0.mk (HS8.out.below hb_); clear HB hb_ HG HS8; have HB := n0_; have HG := n1_; have HS8 := n2_; clear n0_ n1_ n2_)
              | ((with_reducible refine gate_store (t := 33) (p := 6) rfl ?_); refine pl_store rfl rfl (.tmp 6) (.tmp 42) rfl rfl rfl HS8.out (pcs_size _ HQ.out.len) HQ2.out.len ?_; intro w7 hb_ hg_; have n0_ := Aside0.mk (HB.out.grown hg_ (below_size HB.out) (fun k hk => by injection hk with hk; have h1_ := HLT.out; have h2_ := HGE.out; omega)); have n1_ := Aside0.mk (HG.out.grown hg_ (by intro e; injection e with e; have h1_ := HLT.out; omega)); have n2_ := Aside0.mk hb_; clear HB HG HS8 hb_ hg_; have HB := n0_; have HG := n1_; have HS8 := n2_; clear n0_ n1_ n2_))
            go_roundg k1
            case measure => omega
            case rel => exact ⟨i + 1, q2, by rw [HIN.out], ⟨by have h_ := HK.out; have h2_ := HI64.out; omega⟩, HQ2, HA2, HG, HS8, HB⟩
          · have hb2 : ((rd_T25 q.sl (i : Int)).f0 == 3) = false := by simp [h2]
            clear h1 h2
            go_wp2_with fail
            go_roundg k1
            case measure => omega
            case rel => exact ⟨i + 1, q, by rw [HIN.out], ⟨by have h_ := HK.out; have h2_ := HI64.out; omega⟩, HQ, HA, HG, HS8, HB⟩
      · have h3 : decide ((i : Int) < 64) = false := decide_eq_false (by omega)
        clear hi
        have HWQ : Aside0 (∀ w, Calls Try.prog 15 #[.agg (pcs q)] w fun e w' => ∃ (A : Option Addr) (c : Nat), e = .returned (.slice A x.length c) ∧ x.length ≤ c ∧ Kd.C (Kd.int .i64) w' A x.length x ∧ Below w.heap.size w w') := ⟨fun w => by rw [HXE.out, HA.out.wheel HP.out]; exact wheel_say HQ.out⟩
        go_upto_region 11 with fail
        have hb_ := below_drew1 (Below.refl wr.heap.size wr)
        have n0_ := Aside0.mk (below_step HB.out hb_)
        have n1_ := Aside0.mk (HG.out.below hb_)
        have n2_ := Aside0.mk (HS8.out.below hb_)
        clear HB hb_ HG HS8
        have HB := n0_
        have HG := n1_
        have HS8 := n2_
        clear n0_ n1_ n2_
        refine start_ (n := 6) (S := fun w' => Blk w' g 33 (pcs p) ∧ Blk w' s8 33 (pcs q)) (ds := []) #[false, false, false, false, false, false] (by kernel_rfl) rfl rfl ⟨HG.out, HS8.out⟩ (fun hHeld => ?_)
        generalize wr.drew = wx at HG HS8 HB hHeld ⊢
        refine take_ (i := 0) (N := some 44) (v := ?_) (a' := ?_) #[true, false, false, false, false, false] rfl rfl (by kernel_rfl) (fun _ _ _ h => h) (Or.inl ⟨by rfl, ?_⟩) hHeld ?_ ?_
        rotate_left
        · intro w' hs
          refine (run_ld33 _ _ w' g p (.tmp 5) ?_ ?_ hs.1 HP.out.len).trans ?_
          · rfl
          · rfl
          · with_reducible rfl
        rotate_left
        · simp only [Act.put, List.setIfInBounds_toArray, List.set_cons_zero, List.set_cons_succ, i64_w, i32_w]
          rfl
        refine take_ (i := 2) (N := some 46) (v := ?_) (a' := ?_) #[true, false, true, false, false, false] rfl rfl (by kernel_rfl) (fun _ _ _ h => h) (Or.inl ⟨by rfl, ?_⟩) hHeld ?_ ?_
        rotate_left
        · intro w' hs
          refine (run_ld33 _ _ w' s8 q (.tmp 6) ?_ ?_ hs.2 HQ.out.len).trans ?_
          · rfl
          · rfl
          · with_reducible rfl
        rotate_left
        · simp only [Act.put, List.setIfInBounds_toArray, List.set_cons_zero, List.set_cons_succ, i64_w, i32_w]
          rfl
        refine one_ (i := 1) (N := some 45) #[true, true, true, false, false, false] rfl rfl (by kernel_rfl) (by decide) (fun K hK => ?_)
        refine goes_ Try.func15 (by kernel_rfl) rfl #[.agg (pcs p)] (by rfl) rfl rfl (by simp only [List.map_toArray, List.map_cons, List.map_nil]; rfl) ?_
        with_reducible refine (HWS.out _).mono ?_
        rintro e_ w5 ⟨A1, c1, rfl, hc_, hC_, hb_⟩
        refine ⟨_, rfl, ?_⟩
        have n0_ := Aside0.mk (below_step HB.out hb_)
        have n1_ := Aside0.mk (HG.out.below hb_)
        have n2_ := Aside0.mk (HS8.out.below hb_)
        clear HB hb_ HG HS8
        have HB := n0_
        have HG := n1_
        have HS8 := n2_
        clear n0_ n1_ n2_
        clear hHeld
        have HX1 := Aside0.mk hC_
        have HX1L := Aside0.mk hc_
        clear hC_ hc_
        refine hK.out _ _ ⟨HG.out, HS8.out⟩ (fun hHeld => ?_)
        clear hK K
        refine norm_ (a' := ?_) ?_ ?_
        rotate_left
        · show Act.put _ (some 45) _ = _
          simp only [Act.put, List.setIfInBounds_toArray, List.set_cons_zero, List.set_cons_succ, i64_w, i32_w]
          rfl
        refine one_ (i := 3) (N := some 47) #[true, true, true, true, false, false] rfl rfl (by kernel_rfl) (by decide) (fun K hK => ?_)
        refine goes_ Try.func15 (by kernel_rfl) rfl #[.agg (pcs q)] (by rfl) rfl rfl (by simp only [List.map_toArray, List.map_cons, List.map_nil]; rfl) ?_
        with_reducible refine (HWQ.out _).mono ?_
        rintro e_ w6 ⟨A2, c2, rfl, hc_, hC_, hb_⟩
        refine ⟨_, rfl, ?_⟩
        have n0_ := Aside0.mk (below_step HB.out hb_)
        have n1_ := Aside0.mk (HG.out.below hb_)
        have n2_ := Aside0.mk (HS8.out.below hb_)
        have n3_ := Aside0.mk (Kd.C_below HX1.out hb_)
        clear HB hb_ HG HS8 HX1
        have HB := n0_
        have HG := n1_
        have HS8 := n2_
        have HX1 := n3_
        clear n0_ n1_ n2_ n3_
        clear hHeld
        have HX2 := Aside0.mk hC_
        have HX2L := Aside0.mk hc_
        clear hC_ hc_
        refine hK.out _ _ ⟨HG.out, HS8.out⟩ (fun hHeld => ?_)
        clear hK K
        refine norm_ (a' := ?_) ?_ ?_
        rotate_left
        · show Act.put _ (some 47) _ = _
          simp only [Act.put, List.setIfInBounds_toArray, List.set_cons_zero, List.set_cons_succ, i64_w, i32_w]
          rfl
        refine one_ (i := 4) (N := some 48) #[true, true, true, true, true, false] rfl rfl (by kernel_rfl) (by decide) (fun K hK => ?_)
        refine goes_ Try.func17 (by kernel_rfl) rfl #[.slice A1 x.length c1, .slice A2 x.length c2] (by rfl) rfl rfl (by simp only [List.map_toArray, List.map_cons, List.map_nil]; rfl) ?_
        with_reducible refine (same_say x x HXB.out HX1.out HX1L.out HX2.out HX2L.out).mono ?_
        rw [decide_eq_true rfl]
        rintro e_ w7 ⟨rfl, hb_⟩
        refine ⟨_, rfl, ?_⟩
        have n0_ := Aside0.mk (below_step HB.out hb_)
        have n1_ := Aside0.mk (HG.out.below hb_)
        have n2_ := Aside0.mk (HS8.out.below hb_)
        clear HB hb_ HG HS8
        have HB := n0_
        have HG := n1_
        have HS8 := n2_
        clear n0_ n1_ n2_
        clear hHeld
        refine hK.out _ _ ⟨HG.out, HS8.out⟩ (fun hHeld => ?_)
        clear hK K
        refine norm_ (a' := ?_) ?_ ?_
        rotate_left
        · show Act.put _ (some 48) _ = _
          simp only [Act.put, List.setIfInBounds_toArray, List.set_cons_zero, List.set_cons_succ, i64_w, i32_w]
          rfl
        refine pure_ (i := 5) (N := some 4) (v := ?_) (a' := ?_) #[true, true, true, true, true, true] rfl rfl (by kernel_rfl) (fun _ _ _ h => h) (Or.inl ⟨by rfl, ?_⟩) ?_ ?_
        rotate_left
        · intro w'
          go_simp
          with_reducible rfl
        rotate_left
        · simp only [Act.put, List.setIfInBounds_toArray, List.set_cons_zero, List.set_cons_succ, i64_w, i32_w]
          rfl
        refine done_ (by kernel_rfl) ?_
        clear hHeld
        go_wp2_with fail
        go_ret
        exact ⟨rfl, HB.out⟩
end Go.Proofs.Ytnffajpnffibaaa.Own
