/-
  The walk of roundhouselaw7.WheelWeights.
-/
import Derived.Test.YtnffajpnffibaaaWheXT
namespace Go.Proofs.Ytnffajpnffibaaa.Own
open Go Go.RowKit Go.Proofs.YtnffajpnffibaaaW.PrintWords Go.Proofs.YtnffajpnffibaaaW.PrintMore Go.Proofs.YtnffajpnffibaaaW.PrintLast Go.Proofs.Ytnffajpnffibaaa.Q
set_option linter.unusedVariables false
set_option linter.unusedSimpArgs false

section
variable {ops : Array Oper} {rest : List Oper} {o : Oper} {a : Act} {Q : Exit → Act → World → Prop} {W : World}
/-- A pool that is loaded where its guard is on. -/
theorem pl_load_on {N : Tmp} (hd : o.dst = some N) (hw : Region.wanted o (yielded ops a.tmps) = true) (x : Operand) (ho : o.op = .load 33 x) {g : Nat} {p : PL} (hx : a.eval x = .pointer (some ⟨g, 0, none⟩)) (hb : Blk W g 33 (pcs p)) (hp : p.sl.length = 64)
    (h : wpList Try.prog ops Q rest (a.put o.dst (.agg (pcs p))) W) : wpList Try.prog ops Q (o :: rest) a W := by
  unfold wpList
  rw [if_pos hw]
  exact .inl (wp_ld33 ho hx hb hp h)
end
set_option maxHeartbeats 8000000 in
set_option maxRecDepth 100000 in
theorem WheelWeights_walk (W : World) (a0 : Int) (ha0 : -9223372036854775808 ≤ a0 ∧ a0 ≤ 9223372036854775807) (b0 : Int) (hb0 : -9223372036854775808 ≤ b0 ∧ b0 ≤ 9223372036854775807) (x0 : Int) (hx0 : -9223372036854775808 ≤ x0 ∧ x0 ≤ 9223372036854775807) (y0 : Int) (hy0 : -9223372036854775808 ≤ y0 ∧ y0 ≤ 9223372036854775807) : Calls Try.prog 9 #[.int .i64 a0, .int .i64 b0, .int .i64 x0, .int .i64 y0] W fun e w' => e = .returned (.bool true) ∧ Below W.heap.size W w' := by
  have hu25 := Try.underlying25
  have hu33 := pool33
  have hu26 := slots26
  have hu22 := Try.underlying22
  have hu49 := Try.underlying49
  have hu55 := Try.underlying55
  have hu53 := Try.underlying53
  obtain ⟨p, hp⟩ : ∃ p, make6 [] 0 = p := ⟨_, rfl⟩
  have Hp := Aside0.mk hp
  have HP : Aside0 (PInv p) := ⟨by rw [← hp]; exact PInv.make [] 0 (by simp)⟩
  obtain ⟨X, hX⟩ : ∃ X, x0 % 1000 = X := ⟨_, rfl⟩
  obtain ⟨Y, hY⟩ : ∃ Y, y0 % 1000 = Y := ⟨_, rfl⟩
  obtain ⟨u, hu⟩ : ∃ u, 1 + a0 % 8 = u := ⟨_, rfl⟩
  obtain ⟨v, hv⟩ : ∃ v, 1 + b0 % 8 = v := ⟨_, rfl⟩
  have hu1 : 1 ≤ u ∧ u ≤ 8 := by omega
  have hv1 : 1 ≤ v ∧ v ≤ 8 := by omega
  have hX1 : 0 ≤ X ∧ X < 1000 := by omega
  have hY1 : 0 ≤ Y ∧ Y < 1000 := by omega
  have HX := Aside0.mk hX
  have HY := Aside0.mk hY
  have HU := Aside0.mk hu
  have HV := Aside0.mk hv
  have HWF : Aside0 (∀ e ∈ [(⟨1, 4, X, 1, u, 0, 0⟩ : EN), ⟨2, 4, 0, 0, 0, 0, 0⟩, ⟨1, 9, Y, 2, v, 0, 0⟩, ⟨2, 9, 0, 0, 0, 0, 0⟩], WFE e) := ⟨by
    intro e he
    simp only [List.mem_cons, List.not_mem_nil, or_false] at he
    rcases he with rfl | rfl | rfl | rfl
    · exact .inl ⟨rfl, outB_false _ _ _ (by show 0 ≤ X ∧ X ≤ _; omega), outB_false _ _ _ (by show (0 : Int) ≤ 1 ∧ (1 : Int) ≤ 65535; decide), outB_false _ _ _ (by show 1 ≤ u ∧ u ≤ _; omega), rfl, rfl⟩
    · exact .inr (.inl ⟨rfl, rfl, rfl, rfl, rfl, rfl⟩)
    · exact .inl ⟨rfl, outB_false _ _ _ (by show 0 ≤ Y ∧ Y ≤ _; omega), outB_false _ _ _ (by show (0 : Int) ≤ 2 ∧ (2 : Int) ≤ 65535; decide), outB_false _ _ _ (by show 1 ≤ v ∧ v ≤ _; omega), rfl, rfl⟩
    · exact .inr (.inl ⟨rfl, rfl, rfl, rfl, rfl, rfl⟩)⟩
  obtain ⟨q, hqs, hqa⟩ := two_all X u Y v
  rw [hp] at hqa
  have HQ : Aside0 (PInv q) := ⟨by have h_ := PInv.all [(⟨1, 4, X, 1, u, 0, 0⟩ : EN), ⟨2, 4, 0, 0, 0, 0, 0⟩, ⟨1, 9, Y, 2, v, 0, 0⟩, ⟨2, 9, 0, 0, 0, 0, 0⟩] (p := p) 0 HWF.out HP.out; rw [hqa] at h_; exact h_⟩
  have HALL : Aside0 (∀ (b : Nat) (w : World), Blk w b 49 (ens [(⟨1, 4, X, 1, u, 0, 0⟩ : EN), ⟨2, 4, 0, 0, 0, 0, 0⟩, ⟨1, 9, Y, 2, v, 0, 0⟩, ⟨2, 9, 0, 0, 0, 0, 0⟩]) → Calls Try.prog 27 #[.agg (pcs p), .slice (some ⟨b, 0, none⟩) 4 4] w fun e w' => e = .returned (.tuple #[.agg (pcs q), .int .i64 4, .int .i64 0]) ∧ Below w.heap.size w w') := ⟨fun b w hb => by
    have h_ := all_calls p HP.out.len b [(⟨1, 4, X, 1, u, 0, 0⟩ : EN), ⟨2, 4, 0, 0, 0, 0, 0⟩, ⟨1, 9, Y, 2, v, 0, 0⟩, ⟨2, 9, 0, 0, 0, 0, 0⟩] 4 HWF.out (by simp) w hb
    rw [hqa] at h_
    exact h_⟩
  have hcnt := two_counts HQ.out X u Y v hqs hu1 hv1
  obtain ⟨x, hx⟩ : ∃ x, x = wheelOf q.sl := ⟨_, rfl⟩
  have HXE := Aside0.mk hx
  have HXN : Aside0 (x.length = 127) := ⟨by rw [hx]; exact wheel_len HQ.out⟩
  have HXB : Aside0 (x.length < 4611686018427387904) := ⟨by rw [HXN.out]; decide⟩
  have HWS : Aside0 (∀ w, Calls Try.prog 15 #[.agg (pcs q)] w fun e w' => ∃ (A : Option Addr) (c : Nat), e = .returned (.slice A x.length c) ∧ x.length ≤ c ∧ Kd.C (Kd.int .i64) w' A x.length x ∧ Below w.heap.size w w') := ⟨fun w => by rw [hx]; exact wheel_say HQ.out⟩
  have HRS : Aside0 (∀ w, Calls Try.prog 16 #[.agg (pcs q)] w fun e w' => ∃ (A : Option Addr) (c : Nat), e = .returned (.slice A x.length c) ∧ x.length ≤ c ∧ Kd.C (Kd.int .i64) w' A x.length x ∧ Below w.heap.size w w') := ⟨fun w => by rw [hx]; exact ref_say HQ.out⟩
  clear hx
  rw [← HXE.out] at hcnt
  obtain ⟨m, hm⟩ : ∃ m : Int, ((x.count 4 : Nat) : Int) = m := ⟨_, rfl⟩
  obtain ⟨n, hn⟩ : ∃ n : Int, ((x.count 9 : Nat) : Int) = n := ⟨_, rfl⟩
  have HM := Aside0.mk hm
  have HN := Aside0.mk hn
  obtain ⟨c1_, c2_, c3_, c4_, c5_⟩ := hcnt
  rw [hm, hn] at c4_ c5_
  have hm1 : 1 ≤ m ∧ m ≤ 126 := by omega
  have hn1 : 1 ≤ n ∧ n ≤ 126 := by omega
  have e1 : wrap64 (m + n) = 127 := by rw [w64 _ (by omega) (by omega)]; omega
  have e2 : decide (m > 0) = true := decide_eq_true (by omega)
  have e3 : decide (n > 0) = true := decide_eq_true (by omega)
  have b1_ : 0 ≤ m * v ∧ m * v ≤ 126 * 8 := ⟨Int.mul_nonneg (by omega) (by omega), Int.mul_le_mul (by omega) (by omega) (by omega) (by omega)⟩
  have b2_ : 0 ≤ (n + v) * u ∧ (n + v) * u ≤ 134 * 8 := ⟨Int.mul_nonneg (by omega) (by omega), Int.mul_le_mul (by omega) (by omega) (by omega) (by omega)⟩
  have b3_ : 0 ≤ n * u ∧ n * u ≤ 126 * 8 := ⟨Int.mul_nonneg (by omega) (by omega), Int.mul_le_mul (by omega) (by omega) (by omega) (by omega)⟩
  have e4 : wrap64 (m * v) = m * v := w64 _ b1_.1 (by omega)
  have e5 : wrap64 (n + v) = n + v := w64 _ (by omega) (by omega)
  have e6 : wrap64 ((n + v) * u) = (n + v) * u := w64 _ b2_.1 (by omega)
  have e7 : wrap64 (n * u) = n * u := w64 _ b3_.1 (by omega)
  have e8 : decide (m * v ≤ (n + v) * u) = true := decide_eq_true c4_
  have e9 : decide (n * u ≤ m * v) = true := decide_eq_true c5_
  clear hp hX hY hu hv hu1 hv1 hX1 hY1 hqs hqa hm hn c1_ c2_ c3_ c4_ c5_ hm1 hn1 b1_ b2_ b3_ ha0 hb0 hx0 hy0
  go_enter Try.func9, Try.ntmps9
  go_upto_region 5 with (first
    | (go_at_call 13; refine (known_calls _).mono ?_; rintro e_ w1 ⟨rfl, hb_⟩; have HB := Aside0.mk hb_; clear hb_)
    | (go_at_call 14; refine (make_calls none 0 [] 0 ⟨by decide, by decide⟩ (by simp) (by simp) _ (Kd.C_nil _ _)).mono ?_; rw [Hp.out]; rintro e_ w2 ⟨rfl, hb_⟩; have n_ := Aside0.mk (below_step HB.out hb_); clear HB hb_; have HB := n_; clear n_)
    | ((with_reducible refine gate_dst (N := 9) rfl ?_); refine pl_var (N := 9) rfl rfl rfl rfl rfl (.tmp 17) rfl HP.out.len (fun _ => rfl) (fun _ => rfl) ?_; intro g w3 hge hb2 hB2; have HG := Aside0.mk hb2; have HGE : Aside0 (W.heap.size ≤ g) := ⟨by have h1_ := HB.out.size; omega⟩; have n_ := Aside0.mk (below_step HB.out hB2); clear HB hb2 hB2 hge; have HB := n_; clear n_)
    | (go_at_call 22; with_reducible refine (within_say a0 8 (by decide) (by decide)).mono ?_; rintro e_ w4 ⟨rfl, hb_⟩; have n0_ := Aside0.mk (below_step HB.out hb_); have n1_ := Aside0.mk (HG.out.below hb_); clear HB hb_ HG; have HB := n0_; have HG := n1_; clear n0_ n1_)
    | (go_at_call 22; with_reducible refine (within_say b0 8 (by decide) (by decide)).mono ?_; rintro e_ w5 ⟨rfl, hb_⟩; have n0_ := Aside0.mk (below_step HB.out hb_); have n1_ := Aside0.mk (HG.out.below hb_); clear HB hb_ HG; have HB := n0_; have HG := n1_; clear n0_ n1_))
  rw [HU.out, HV.out]
  have hb_ := below_drew1 (Below.refl w5.heap.size w5)
  have n0_ := Aside0.mk (below_step HB.out hb_)
  have n1_ := Aside0.mk (HG.out.below hb_)
  clear HB hb_ HG
  have HB := n0_
  have HG := n1_
  clear n0_ n1_
  refine start_ (n := 18) (S := fun w' => Blk w' g 33 (pcs p)) (ds := [17]) #[false, false, false, false, false, false, false, false, false, false, false, false, false, false, false, false, false, false] (by kernel_rfl) rfl rfl (HG.out) (fun hHeld => ?_)
  generalize w5.drew = w6 at HG HB hHeld ⊢
  refine pure_ (i := 1) (N := some 26) (v := ?_) (a' := ?_) #[false, true, false, false, false, false, false, false, false, false, false, false, false, false, false, false, false, false] rfl rfl (by kernel_rfl) (fun _ _ _ h => h) (Or.inl ⟨by rfl, ?_⟩) ?_ ?_
  rotate_left
  · intro w'
    go_simp
    with_reducible rfl
  rotate_left
  · simp only [Act.put, List.setIfInBounds_toArray, List.set_cons_zero, List.set_cons_succ, i64_w, i32_w]
    rfl
  refine pure_ (i := 3) (N := some 28) (v := ?_) (a' := ?_) #[false, true, false, true, false, false, false, false, false, false, false, false, false, false, false, false, false, false] rfl rfl (by kernel_rfl) (fun _ _ _ h => h) (Or.inl ⟨by rfl, ?_⟩) ?_ ?_
  rotate_left
  · intro w'
    go_simp
    with_reducible rfl
  rotate_left
  · simp only [Act.put, List.setIfInBounds_toArray, List.set_cons_zero, List.set_cons_succ, i64_w, i32_w]
    rfl
  refine pure_ (i := 5) (N := some 30) (v := ?_) (a' := ?_) #[false, true, false, true, false, true, false, false, false, false, false, false, false, false, false, false, false, false] rfl rfl (by kernel_rfl) (fun _ _ _ h => h) (Or.inl ⟨by rfl, ?_⟩) ?_ ?_
  rotate_left
  · intro w'
    go_simp
    with_reducible rfl
  rotate_left
  · simp only [Act.put, List.setIfInBounds_toArray, List.set_cons_zero, List.set_cons_succ, i64_w, i32_w]
    rfl
  refine pure_ (i := 6) (N := some 31) (v := ?_) (a' := ?_) #[false, true, false, true, false, true, true, false, false, false, false, false, false, false, false, false, false, false] rfl rfl (by kernel_rfl) (fun _ _ _ h => h) (Or.inl ⟨by rfl, ?_⟩) ?_ ?_
  rotate_left
  · intro w'
    go_simp
    with_reducible rfl
  rotate_left
  · simp only [Act.put, List.setIfInBounds_toArray, List.set_cons_zero, List.set_cons_succ, i64_w, i32_w]
    rfl
  refine pure_ (i := 8) (N := some 33) (v := ?_) (a' := ?_) #[false, true, false, true, false, true, true, false, true, false, false, false, false, false, false, false, false, false] rfl rfl (by kernel_rfl) (fun _ _ _ h => h) (Or.inl ⟨by rfl, ?_⟩) ?_ ?_
  rotate_left
  · intro w'
    go_simp
    with_reducible rfl
  rotate_left
  · simp only [Act.put, List.setIfInBounds_toArray, List.set_cons_zero, List.set_cons_succ, i64_w, i32_w]
    rfl
  refine pure_ (i := 10) (N := some 35) (v := ?_) (a' := ?_) #[false, true, false, true, false, true, true, false, true, false, true, false, false, false, false, false, false, false] rfl rfl (by kernel_rfl) (fun _ _ _ h => h) (Or.inl ⟨by rfl, ?_⟩) ?_ ?_
  rotate_left
  · intro w'
    go_simp
    with_reducible rfl
  rotate_left
  · simp only [Act.put, List.setIfInBounds_toArray, List.set_cons_zero, List.set_cons_succ, i64_w, i32_w]
    rfl
  refine take_ (i := 0) (N := some 25) (v := ?_) (a' := ?_) #[true, true, false, true, false, true, true, false, true, false, true, false, false, false, false, false, false, false] rfl rfl (by kernel_rfl) (fun _ _ _ h => h) (Or.inl ⟨by rfl, ?_⟩) hHeld ?_ ?_
  rotate_left
  · intro w' hs
    refine (run_ld33 _ _ w' g p (.tmp 9) ?_ ?_ hs HP.out.len).trans ?_
    · rfl
    · rfl
    · with_reducible rfl
  rotate_left
  · simp only [Act.put, List.setIfInBounds_toArray, List.set_cons_zero, List.set_cons_succ, i64_w, i32_w]
    rfl
  refine one_ (i := 2) (N := some 27) #[true, true, true, true, false, true, true, false, true, false, true, false, false, false, false, false, false, false] rfl rfl (by kernel_rfl) (by decide) (fun K hK => ?_)
  refine goes_ Try.func22 (by kernel_rfl) rfl #[.int .i64 x0, .int .i64 1000] (by rfl) rfl rfl (by simp only [List.map_toArray, List.map_cons, List.map_nil]; rfl) ?_
  with_reducible refine (within_say x0 1000 (by decide) (by decide)).mono ?_
  rw [HX.out]
  rintro e_ w7 ⟨rfl, hb_⟩
  refine ⟨_, rfl, ?_⟩
  have n0_ := Aside0.mk (below_step HB.out hb_)
  have n1_ := Aside0.mk (HG.out.below hb_)
  clear HB hb_ HG
  have HB := n0_
  have HG := n1_
  clear n0_ n1_
  clear hHeld
  refine hK.out _ _ (HG.out) (fun hHeld => ?_)
  clear hK K
  refine norm_ (a' := ?_) ?_ ?_
  rotate_left
  · show Act.put _ (some 27) _ = _
    simp only [Act.put, List.setIfInBounds_toArray, List.set_cons_zero, List.set_cons_succ, i64_w, i32_w]
    rfl
  refine pure_ (i := 4) (N := some 29) (v := ?_) (a' := ?_) #[true, true, true, true, true, true, true, false, true, false, true, false, false, false, false, false, false, false] rfl rfl (by kernel_rfl) (fun _ _ _ h => h) (Or.inl ⟨by rfl, ?_⟩) ?_ ?_
  rotate_left
  · intro w'
    go_simp
    with_reducible rfl
  rotate_left
  · simp only [Act.put, List.setIfInBounds_toArray, List.set_cons_zero, List.set_cons_succ, i64_w, i32_w]
    rfl
  refine one_ (i := 7) (N := some 32) #[true, true, true, true, true, true, true, true, true, false, true, false, false, false, false, false, false, false] rfl rfl (by kernel_rfl) (by decide) (fun K hK => ?_)
  refine goes_ Try.func22 (by kernel_rfl) rfl #[.int .i64 y0, .int .i64 1000] (by rfl) rfl rfl (by simp only [List.map_toArray, List.map_cons, List.map_nil]; rfl) ?_
  with_reducible refine (within_say y0 1000 (by decide) (by decide)).mono ?_
  rw [HY.out]
  rintro e_ w8 ⟨rfl, hb_⟩
  refine ⟨_, rfl, ?_⟩
  have n0_ := Aside0.mk (below_step HB.out hb_)
  have n1_ := Aside0.mk (HG.out.below hb_)
  clear HB hb_ HG
  have HB := n0_
  have HG := n1_
  clear n0_ n1_
  clear hHeld
  refine hK.out _ _ (HG.out) (fun hHeld => ?_)
  clear hK K
  refine norm_ (a' := ?_) ?_ ?_
  rotate_left
  · show Act.put _ (some 32) _ = _
    simp only [Act.put, List.setIfInBounds_toArray, List.set_cons_zero, List.set_cons_succ, i64_w, i32_w]
    rfl
  refine pure_ (i := 9) (N := some 34) (v := ?_) (a' := ?_) #[true, true, true, true, true, true, true, true, true, true, true, false, false, false, false, false, false, false] rfl rfl (by kernel_rfl) (fun _ _ _ h => h) (Or.inl ⟨by rfl, ?_⟩) ?_ ?_
  rotate_left
  · intro w'
    go_simp
    with_reducible rfl
  rotate_left
  · simp only [Act.put, List.setIfInBounds_toArray, List.set_cons_zero, List.set_cons_succ, i64_w, i32_w]
    rfl
  refine one_ (i := 11) (N := some 36) #[true, true, true, true, true, true, true, true, true, true, true, true, false, false, false, false, false, false] rfl rfl (by kernel_rfl) (by decide) (fun K hK => ?_)
  refine value_ (w1 := ?_) (v := ?_) (by rfl) rfl ?_ ?_
  rotate_left 2
  · go_simp
    constructor
    · rfl
    · rfl
  refine hK.out _ _ (blk_alloc HG.out _) (fun hHeld => ?_)
  clear hK K
  refine norm_ (a' := ?_) ?_ ?_
  rotate_left
  · show Act.put _ (some 36) _ = _
    simp only [Act.put, List.setIfInBounds_toArray, List.set_cons_zero, List.set_cons_succ, i64_w, i32_w]
    rfl
  refine one_ (i := 12) (N := some 37) #[true, true, true, true, true, true, true, true, true, true, true, true, true, false, false, false, false, false] rfl rfl (by kernel_rfl) (by decide) (fun K hK => ?_)
  refine goes_ Try.func27 (by kernel_rfl) rfl #[.agg (pcs p), .slice (some ⟨w8.heap.size, 0, none⟩) 4 4] (by rfl) rfl rfl (by simp only [List.map_toArray, List.map_cons, List.map_nil]; rfl) ?_
  refine (HALL.out _ _ (heap_alloc_new _ _)).mono ?_
  rintro e_ w9 ⟨rfl, hb_⟩
  refine ⟨_, rfl, ?_⟩
  have n0_ := Aside0.mk (below_step (below_alloc HB.out _) hb_)
  have n1_ := Aside0.mk (Blk.below (g := g) (t := 33) (cs := pcs p) (blk_alloc HG.out _) hb_)
  clear HB HG hb_ hHeld
  have HB := n0_
  have HG := n1_
  clear n0_ n1_
  refine hK.out _ _ (HG.out) (fun hHeld => ?_)
  clear hK K
  refine norm_ (a' := ?_) ?_ ?_
  rotate_left
  · show Act.put _ (some 37) _ = _
    simp only [Act.put, List.setIfInBounds_toArray, List.set_cons_zero, List.set_cons_succ, i64_w, i32_w]
    rfl
  refine pure_ (i := 13) (N := some 24) (v := ?_) (a' := ?_) #[true, true, true, true, true, true, true, true, true, true, true, true, true, true, false, false, false, false] rfl rfl (by kernel_rfl) (fun _ _ _ h => h) (Or.inl ⟨by rfl, ?_⟩) ?_ ?_
  rotate_left
  · intro w'
    go_simp
    with_reducible rfl
  rotate_left
  · simp only [Act.put, List.setIfInBounds_toArray, List.set_cons_zero, List.set_cons_succ, i64_w, i32_w]
    rfl
  refine pure_ (i := 14) (N := some 38) (v := ?_) (a' := ?_) #[true, true, true, true, true, true, true, true, true, true, true, true, true, true, true, false, false, false] rfl rfl (by kernel_rfl) (fun _ _ _ h => h) (Or.inl ⟨by rfl, ?_⟩) ?_ ?_
  rotate_left
  · intro w'
    go_simp
    with_reducible rfl
  rotate_left
  · simp only [Act.put, List.setIfInBounds_toArray, List.set_cons_zero, List.set_cons_succ, i64_w, i32_w]
    rfl
  refine pure_ (i := 15) (N := some 39) (v := ?_) (a' := ?_) #[true, true, true, true, true, true, true, true, true, true, true, true, true, true, true, true, false, false] rfl rfl (by kernel_rfl) (fun _ _ _ h => h) (Or.inl ⟨by rfl, ?_⟩) ?_ ?_
  rotate_left
  · intro w'
    go_simp
    with_reducible rfl
  rotate_left
  · simp only [Act.put, List.setIfInBounds_toArray, List.set_cons_zero, List.set_cons_succ, i64_w, i32_w]
    rfl
  refine pure_ (i := 16) (N := some 40) (v := ?_) (a' := ?_) #[true, true, true, true, true, true, true, true, true, true, true, true, true, true, true, true, true, false] rfl rfl (by kernel_rfl) (fun _ _ _ h => h) (Or.inl ⟨by rfl, ?_⟩) ?_ ?_
  rotate_left
  · intro w'
    go_simp
    with_reducible rfl
  rotate_left
  · simp only [Act.put, List.setIfInBounds_toArray, List.set_cons_zero, List.set_cons_succ, i64_w, i32_w]
    rfl
  refine last_ (i := 17) (N := none) #[true, true, true, true, true, true, true, true, true, true, true, true, true, true, true, true, true, true] rfl rfl (by kernel_rfl) (by decide) (fun K hK => ?_)
  refine skip_ (w1 := w9.setCells g 0 (pcells q)) (by rfl) rfl (run_st33 _ _ _ g _ q (.tmp 9) (.tmp 38) rfl rfl rfl HG.out (pcs_size _ HP.out.len) HQ.out.len) ?_
  have hg_ := setCells_grown (pcells q) 0 w9 g
  have n0_ := Aside0.mk (HB.out.grown hg_ (below_size HB.out) (fun k hk => by injection hk with hk; have h2_ := HGE.out; omega))
  have m_ := Aside0.mk (st33_blk q HG.out (pcs_size _ HP.out.len) HQ.out.len)
  clear HB HG hHeld hg_
  generalize w9.setCells g 0 (pcells q) = wA at n0_ m_ ⊢
  have HB := n0_
  have HG := m_
  clear n0_ m_
  refine hK.out _ _ ?_
  clear hK K
  refine done_ (by kernel_rfl) ?_
  go_upto_region 8 with (first
    | ((with_reducible refine gate_dst (N := 41) rfl ?_); refine pl_load (N := 41) rfl rfl (.tmp 9) rfl rfl HG.out (HQ.out.len) ?_)
    | (go_at_call 15; refine (HWS.out _).mono ?_; rintro e_ wB ⟨A1, c1, rfl, hc_, hC_, hb_⟩; have n0_ := Aside0.mk (below_step HB.out hb_); have n1_ := Aside0.mk (HG.out.below hb_); clear HB hb_ HG; have HB := n0_; have HG := n1_; clear n0_ n1_; have HX1 := Aside0.mk hC_; have HX1L := Aside0.mk hc_; clear hC_ hc_)
    | (go_at_call 21; with_reducible refine (share_say x 4 HXB.out HX1.out HX1L.out).mono ?_; rw [HM.out]; rintro e_ wC ⟨rfl, hb_⟩; have n0_ := Aside0.mk (below_step HB.out hb_); have n1_ := Aside0.mk (HG.out.below hb_); have n2_ := Aside0.mk (Kd.C_below HX1.out hb_); clear HB hb_ HG HX1; have HB := n0_; have HG := n1_; have HX1 := n2_; clear n0_ n1_ n2_)
    | (go_at_call 21; with_reducible refine (share_say x 9 HXB.out HX1.out HX1L.out).mono ?_; rw [HN.out]; rintro e_ wD ⟨rfl, hb_⟩; have n0_ := Aside0.mk (below_step HB.out hb_); have n1_ := Aside0.mk (HG.out.below hb_); have n2_ := Aside0.mk (Kd.C_below HX1.out hb_); clear HB hb_ HG HX1; have HB := n0_; have HG := n1_; have HX1 := n2_; clear n0_ n1_ n2_))
  go_wp2_with (first
    | ((with_reducible refine gate_dst (N := 81) rfl ?_); refine pl_load_on (N := 81) rfl (by rfl) (.tmp 9) rfl rfl HG.out HQ.out.len ?_)
    | (go_at_call 16; refine (HRS.out _).mono ?_; rintro e_ wE ⟨A2, c2, rfl, hc_, hC_, hb_⟩; have n0_ := Aside0.mk (below_step HB.out hb_); have n1_ := Aside0.mk (HG.out.below hb_); have n2_ := Aside0.mk (Kd.C_below HX1.out hb_); clear HB hb_ HG HX1; have HB := n0_; have HG := n1_; have HX1 := n2_; clear n0_ n1_ n2_; have HX2 := Aside0.mk hC_; have HX2L := Aside0.mk hc_; clear hC_ hc_)
    | (go_at_call 17; refine (same_say x x HXB.out HX1.out HX1L.out HX2.out HX2L.out).mono ?_; rw [decide_eq_true rfl]; rintro e_ wF ⟨rfl, hb_⟩; have n0_ := Aside0.mk (below_step HB.out hb_); have n1_ := Aside0.mk (HG.out.below hb_); clear HB hb_ HG; have HB := n0_; have HG := n1_; clear n0_ n1_))
  go_ret
  exact ⟨rfl, HB.out⟩
end Go.Proofs.Ytnffajpnffibaaa.Own
