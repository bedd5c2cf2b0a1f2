/-
  begin, turn, done, Age of the bytes that known() makes.
-/
import Derived.Test.YtkpfojpmigchlaaTopR
namespace Go.Proofs.Ytkpfojpmigchlaa.Own
open Go Go.RowKit Go.Proofs.YtkpfojpmigchlaaW.PrintWords Go.Proofs.YtkpfojpmigchlaaW.PrintMore Go.Proofs.YtkpfojpmigchlaaW.PrintLast Go.Proofs.Ytkpfojpmigchlaa.Q
set_option linter.unusedVariables false
set_option linter.unusedSimpArgs false

/-- A row of bytes, where another block of another type is written. -/
theorem row_grown {w w' : World} {g t base : Nat} {gr n c : Nat} {xs : List Int} {cells : Array Value} (h : Kd.R (Kd.int .u8) 5 w base (fun _ => True) (.slice (some ⟨gr, 0, none⟩) n c) xs) (hb : Blk w g t cells) (ht : 5 ≠ t) (hg : w.grownBy w' (some g)) : Kd.R (Kd.int .u8) 5 w' base (fun _ => True) (.slice (some ⟨gr, 0, none⟩) n c) xs := by
  have hne : g ≠ gr := fun e => Kd.R_ne h hb ht (by rw [e]; simp [Value.ownBlock])
  have h1 : Kd.R (Kd.int .u8) 5 w base (fun k => k = gr) (.slice (some ⟨gr, 0, none⟩) n c) xs := Kd.R_of_own (Kd.own_of_R h) (fun k hk => by simpa [Value.ownBlock] using hk.symm)
  exact Kd.R_mono (Kd.R_grown h1 hg (fun k hk e => by injection e with e; exact hne (by rw [← e, hk]))) (fun _ _ => trivial)
theorem run_ldpk (ev : Operand → Value) (o : Oper) (w : World) (g : Nat) (cs : Array Value) (x : Operand) (ho : o.op = .load 58 x) (hx : ev x = .pointer (some ⟨g, 0, none⟩)) (hb : Blk w g 58 cs) (hs : cs.size = 13) :
    (execOp ev o).run Try.prog w = .ok (.value (.agg cs)) w := by
  have hr := run_loadVar_mid (P := Try.prog) w g 0 58 cs.toList _ hb.range Try.underlying58 rfl (by rw [Array.length_toList, hs]; kernel_rfl)
  unfold execOp
  simp only [ho, hx, Instr.loadAt, Instr.sureAddr, Sem.run_bind, Sem.run_pure, Result.andThen_ok, hr]
set_option maxHeartbeats 16000000 in
set_option maxRecDepth 100000 in
theorem begin_known (ad : Addr) (c : Nat) (W : World) (hC : Kd.C (Kd.int .u8) W (some ad) 24 bytes0) (hc : 24 ≤ c) : Calls Try.prog 64 #[.slice (some ad) 24 c] W fun e w' => ∃ (tn gb cb : Nat), e = .returned (.tuple #[.pointer (some ⟨tn, 0, none⟩), .agg #[.int .i64 2, .int .i64 9, .int .i64 0, .int .i64 1, .int .i64 10, .int .i64 0, .int .i64 80, .int .i64 0, .int .i64 0, .bool false, .int .i64 0, .slice none 0 0, .slice none 0 0], .int .i64 0]) ∧ Blk w' tn 130 #[.slice (some ad) 24 c, .slice (some ⟨gb, 0, none⟩) 24 cb, .bool false] ∧ Kd.R (Kd.int .u8) 5 w' W.heap.size (fun _ => True) (.slice (some ⟨gb, 0, none⟩) 24 cb) bytes0 ∧ W.heap.size ≤ tn ∧ Below W.heap.size W w' := by
  have hu58 := Try.underlying58
  have hu130 := Try.underlying130
  have HC := Aside0.mk hC
  have HCC := Aside0.mk hc
  clear hC hc
  go_enter Try.func64, Try.ntmps64
  go_upto_region 4 with (first
    | ((with_reducible refine gate_dst (N := 3) rfl ?_); refine box_event rfl (N := 3) rfl (cs := #[.int .i64 0, .int .i64 0, .int .i64 0, .int .i64 0, .int .i64 0, .int .i64 0, .int .i64 0, .int .i64 0, .int .i64 0, .bool false, .int .i64 0, .slice none 0 0, .slice none 0 0]) (t := 58) (run_pk _ _ _ rfl) ?_; intro tr h_ w1 hb hb_; have HT := Aside0.mk (show Blk w1 tr 58 #[.int .i64 0, .int .i64 0, .int .i64 0, .int .i64 0, .int .i64 0, .int .i64 0, .int .i64 0, .int .i64 0, .int .i64 0, .bool false, .int .i64 0, .slice none 0 0, .slice none 0 0] from hb); have HTE : Aside0 (W.heap.size ≤ tr) := ⟨by omega⟩; have HB := Aside0.mk hb_; clear h_ hb hb_)
    | (go_at_call 41; (with_reducible refine (parse_known (some ad) c _ (Kd.C_below HC.out HB.out) HCC.out).mono ?_); rintro e_ w2 ⟨rfl, hb_⟩; have n0_ := Aside0.mk (below_step HB.out hb_); have n1_ := Aside0.mk (HT.out.below hb_); clear HB HT; have HB := n0_; have HT := n1_; clear n0_ n1_; clear hb_)
    | ((with_reducible refine gate_dst (N := 5) rfl ?_); refine box_event rfl (N := 5) rfl (cs := #[.int .i64 0, .int .i64 0, .int .i64 0, .int .i64 0, .int .i64 0, .int .i64 0, .int .i64 0, .int .i64 0, .int .i64 0, .bool false, .int .i64 0, .slice none 0 0, .slice none 0 0]) (t := 58) (run_pk _ _ _ rfl) ?_; intro g h_ w3 hb hb_; have HP := Aside0.mk (show Blk w3 g 58 #[.int .i64 0, .int .i64 0, .int .i64 0, .int .i64 0, .int .i64 0, .int .i64 0, .int .i64 0, .int .i64 0, .int .i64 0, .bool false, .int .i64 0, .slice none 0 0, .slice none 0 0] from hb); have HLT : Aside0 (tr < g) := ⟨by rw [h_]; exact HT.out.lt⟩; have n0_ := Aside0.mk (below_step HB.out hb_); have n1_ := Aside0.mk (HT.out.below hb_); clear HB HT; have HB := n0_; have HT := n1_; clear n0_ n1_; clear h_ hb hb_)
    | ((with_reducible refine gate_store (t := 58) (p := 5) rfl ?_); refine stm_event rfl rfl 58 (.tmp 5) (.tmp 10) rfl rfl rfl HP.out (Nat.le_refl _) (by kernel_rfl) (by simp [Value.oneCell']) ?_; intro w4 hb_ hg_; have m_ : Aside0 (Blk w4 g 58 #[.int .i64 2, .int .i64 9, .int .i64 0, .int .i64 1, .int .i64 10, .int .i64 0, .int .i64 80, .int .i64 0, .int .i64 0, .bool false, .int .i64 0, .slice none 0 0, .slice none 0 0]) := ⟨by rw [show setMany #[.int .i64 0, .int .i64 0, .int .i64 0, .int .i64 0, .int .i64 0, .int .i64 0, .int .i64 0, .int .i64 0, .int .i64 0, .bool false, .int .i64 0, .slice none 0 0, .slice none 0 0] 0 (#[.int .i64 2, .int .i64 9, .int .i64 0, .int .i64 1, .int .i64 10, .int .i64 0, .int .i64 80, .int .i64 0, .int .i64 0, .bool false, .int .i64 0, .slice none 0 0, .slice none 0 0] : Array Value).toList = #[.int .i64 2, .int .i64 9, .int .i64 0, .int .i64 1, .int .i64 10, .int .i64 0, .int .i64 80, .int .i64 0, .int .i64 0, .bool false, .int .i64 0, .slice none 0 0, .slice none 0 0] from by kernel_rfl] at hb_; exact hb_⟩; have n0_ := Aside0.mk (HB.out.grown hg_ (below_size HB.out) (fun k hk => by injection hk with hk; have h1_ := HLT.out; have h2_ := HTE.out; omega)); have n1_ := Aside0.mk (HT.out.grown hg_ (by intro e; injection e with e; have h1_ := HLT.out; omega)); clear hb_ hg_; clear HP HB HT; have HP := m_; have HB := n0_; have HT := n1_; clear m_ n0_ n1_))
  have hb_ := below_drew1 (Below.refl w4.heap.size w4)
  have n0_ := Aside0.mk (below_step HB.out hb_)
  have n1_ := Aside0.mk (HT.out.below hb_)
  have n2_ := Aside0.mk (HP.out.below hb_)
  clear HB HT HP
  have HB := n0_
  have HT := n1_
  have HP := n2_
  clear n0_ n1_ n2_
  clear hb_
  refine start_ (n := 11) (S := fun w' => Blk w' g 58 #[.int .i64 2, .int .i64 9, .int .i64 0, .int .i64 1, .int .i64 10, .int .i64 0, .int .i64 80, .int .i64 0, .int .i64 0, .bool false, .int .i64 0, .slice none 0 0, .slice none 0 0] ∧ w'.cell? ⟨g, 9, none⟩ = some (.bool false)) (ds := []) #[false, false, false, false, false, false, false, false, false, false, false] (by kernel_rfl) rfl rfl ⟨HP.out, (blk_cell HP.out 9).trans rfl⟩ (fun hHeld => ?_)
  generalize w4.drew = w5 at HB HT HP hHeld ⊢
  refine pure_ (i := 0) (N := some 16) (v := ?_) (a' := ?_) #[true, false, false, false, false, false, false, false, false, false, false] rfl rfl (by kernel_rfl) (fun _ _ _ h => h) (Or.inl ⟨by rfl, ?_⟩) ?_ ?_
  rotate_left
  · intro w'
    go_simp
    with_reducible rfl
  rotate_left
  · simp only [Act.put, List.setIfInBounds_toArray, List.set_cons_zero, List.set_cons_succ, i64_w, i32_w]
    rfl
  refine pure_ (i := 1) (N := some 17) (v := ?_) (a' := ?_) #[true, true, false, false, false, false, false, false, false, false, false] rfl rfl (by kernel_rfl) (fun _ _ _ h => h) (Or.inl ⟨by rfl, ?_⟩) ?_ ?_
  rotate_left
  · intro w'
    go_simp
    with_reducible rfl
  rotate_left
  · simp only [Act.put, List.setIfInBounds_toArray, List.set_cons_zero, List.set_cons_succ, i64_w, i32_w]
    rfl
  refine pure_ (i := 3) (N := some 19) (v := ?_) (a' := ?_) #[true, true, false, true, false, false, false, false, false, false, false] rfl rfl (by kernel_rfl) (fun _ _ _ h => h) (Or.inl ⟨by rfl, ?_⟩) ?_ ?_
  rotate_left
  · intro w'
    go_simp
    with_reducible rfl
  rotate_left
  · simp only [Act.put, List.setIfInBounds_toArray, List.set_cons_zero, List.set_cons_succ, i64_w, i32_w]
    rfl
  refine take_ (i := 4) (N := some 20) (v := ?_) (a' := ?_) #[true, true, false, true, true, false, false, false, false, false, false] rfl rfl (by kernel_rfl) (fun _ _ _ h => h) (Or.inl ⟨by rfl, ?_⟩) hHeld ?_ ?_
  rotate_left
  · rintro w' ⟨s0, s1⟩
    go_simp
    with_reducible rfl
  rotate_left
  · simp only [Act.put, List.setIfInBounds_toArray, List.set_cons_zero, List.set_cons_succ, i64_w, i32_w]
    rfl
  refine take_ (i := 7) (N := some 23) (v := ?_) (a' := ?_) #[true, true, false, true, true, false, false, true, false, false, false] rfl rfl (by kernel_rfl) (fun _ _ _ h => h) (Or.inl ⟨by rfl, ?_⟩) hHeld ?_ ?_
  rotate_left
  · intro w' hs
    refine (run_ldpk _ _ w' g #[.int .i64 2, .int .i64 9, .int .i64 0, .int .i64 1, .int .i64 10, .int .i64 0, .int .i64 80, .int .i64 0, .int .i64 0, .bool false, .int .i64 0, .slice none 0 0, .slice none 0 0] (.tmp 5) ?_ ?_ hs.1 rfl).trans ?_
    · rfl
    · rfl
    · with_reducible rfl
  rotate_left
  · simp only [Act.put, List.setIfInBounds_toArray, List.set_cons_zero, List.set_cons_succ, i64_w, i32_w]
    rfl
  refine one_ (i := 2) (N := some 18) #[true, true, true, true, true, false, false, true, false, false, false] rfl rfl (by kernel_rfl) (by decide) (fun K hK => ?_)
  refine goes_ Try.func63 (by kernel_rfl) rfl #[.slice (some ad) 24 c] (by rfl) rfl rfl (by simp only [List.map_toArray, List.map_cons, List.map_nil]; rfl) ?_
  refine (clone_calls (some ad) c bytes0 _ (Kd.C_below HC.out HB.out) HCC.out (by decide)).mono ?_
  rintro e_ w6 ⟨vb, rfl, hR_, hb_⟩
  obtain ⟨gb, cb, rfl, _, _, _⟩ := Kd.R_form hR_ (by decide)
  have HR : Aside0 (Kd.R (Kd.int .u8) 5 w6 W.heap.size (fun _ => True) (.slice (some ⟨gb, 0, none⟩) 24 cb) bytes0) := ⟨Kd.R_lower hR_ HB.out.size⟩
  refine ⟨_, rfl, ?_⟩
  have n0_ := Aside0.mk (below_step HB.out hb_)
  have n1_ := Aside0.mk (HT.out.below hb_)
  have n2_ := Aside0.mk (HP.out.below hb_)
  clear HB HT HP
  have HB := n0_
  have HT := n1_
  have HP := n2_
  clear n0_ n1_ n2_
  clear hb_ hR_ hHeld
  refine hK.out _ _ ⟨HP.out, (blk_cell HP.out 9).trans rfl⟩ (fun hHeld => ?_)
  clear hK K
  refine norm_ (a' := ?_) ?_ ?_
  rotate_left
  · show Act.put _ (some 18) _ = _
    simp only [Act.put, List.setIfInBounds_toArray, List.set_cons_zero, List.set_cons_succ, i64_w, i32_w]
    rfl
  refine pure_ (i := 5) (N := some 21) (v := ?_) (a' := ?_) #[true, true, true, true, true, true, false, true, false, false, false] rfl rfl (by kernel_rfl) (fun _ _ _ h => h) (Or.inl ⟨by rfl, ?_⟩) ?_ ?_
  rotate_left
  · intro w'
    go_simp
    with_reducible rfl
  rotate_left
  · simp only [Act.put, List.setIfInBounds_toArray, List.set_cons_zero, List.set_cons_succ, i64_w, i32_w]
    rfl
  refine one_ (i := 6) (N := some 22) #[true, true, true, true, true, true, true, true, false, false, false] rfl rfl (by kernel_rfl) (by decide) (fun K hK => ?_)
  refine box_step (by rfl) (N := 22) rfl (cs := #[.slice (some ad) 24 c, .slice (some ⟨gb, 0, none⟩) 24 cb, .bool false]) (t := 130) (by first | (go_simp; done) | (go_simp; rfl)) ?_
  intro tn h_ w7 hbb_ hb_
  have HTN : Aside0 (Blk w7 tn 130 #[.slice (some ad) 24 c, .slice (some ⟨gb, 0, none⟩) 24 cb, .bool false]) := ⟨hbb_⟩
  have HTNE : Aside0 (g < tn) := ⟨by rw [h_]; exact HP.out.lt⟩
  have n0_ := Aside0.mk (below_step HB.out hb_)
  have n1_ := Aside0.mk (HT.out.below hb_)
  have n2_ := Aside0.mk (HP.out.below hb_)
  have n3_ := Aside0.mk (Kd.R_below HR.out hb_)
  clear HB HT HP HR
  have HB := n0_
  have HT := n1_
  have HP := n2_
  have HR := n3_
  clear n0_ n1_ n2_ n3_
  clear hb_ hbb_ h_ hHeld
  refine hK.out _ _ ⟨HP.out, (blk_cell HP.out 9).trans rfl⟩ (fun hHeld => ?_)
  clear hK K
  refine norm_ (a' := ?_) ?_ ?_
  rotate_left
  · show Act.put _ (some 22) _ = _
    simp only [Act.put, List.setIfInBounds_toArray, List.set_cons_zero, List.set_cons_succ, i64_w, i32_w]
    rfl
  refine pure_ (i := 8) (N := some 2) (v := ?_) (a' := ?_) #[true, true, true, true, true, true, true, true, true, false, false] rfl rfl (by kernel_rfl) (fun _ _ _ h => h) (Or.inl ⟨by rfl, ?_⟩) ?_ ?_
  rotate_left
  · intro w'
    go_simp
    with_reducible rfl
  rotate_left
  · simp only [Act.put, List.setIfInBounds_toArray, List.set_cons_zero, List.set_cons_succ, i64_w, i32_w]
    rfl
  refine one_ (i := 9) (N := none) #[true, true, true, true, true, true, true, true, true, true, false] rfl rfl (by kernel_rfl) (by decide) (fun K hK => ?_)
  refine skip_ (w1 := w7.setCells tr 0 (#[.int .i64 2, .int .i64 9, .int .i64 0, .int .i64 1, .int .i64 10, .int .i64 0, .int .i64 80, .int .i64 0, .int .i64 0, .bool false, .int .i64 0, .slice none 0 0, .slice none 0 0] : Array Value).toList) (by rfl) rfl (run_stpk _ _ _ tr #[.int .i64 0, .int .i64 0, .int .i64 0, .int .i64 0, .int .i64 0, .int .i64 0, .int .i64 0, .int .i64 0, .int .i64 0, .bool false, .int .i64 0, .slice none 0 0, .slice none 0 0] #[.int .i64 2, .int .i64 9, .int .i64 0, .int .i64 1, .int .i64 10, .int .i64 0, .int .i64 80, .int .i64 0, .int .i64 0, .bool false, .int .i64 0, .slice none 0 0, .slice none 0 0] (.tmp 3) (.tmp 23) rfl rfl rfl HT.out rfl rfl (by simp [Value.oneCell'])) ?_
  have hg_ := setCells_grown (#[.int .i64 2, .int .i64 9, .int .i64 0, .int .i64 1, .int .i64 10, .int .i64 0, .int .i64 80, .int .i64 0, .int .i64 0, .bool false, .int .i64 0, .slice none 0 0, .slice none 0 0] : Array Value).toList 0 w7 tr
  have n0_ := Aside0.mk (HB.out.grown hg_ (below_size HB.out) (fun k hk => by injection hk with hk; have h2_ := HTE.out; omega))
  have n1_ : Aside0 (Blk (w7.setCells tr 0 (#[.int .i64 2, .int .i64 9, .int .i64 0, .int .i64 1, .int .i64 10, .int .i64 0, .int .i64 80, .int .i64 0, .int .i64 0, .bool false, .int .i64 0, .slice none 0 0, .slice none 0 0] : Array Value).toList) tr 58 #[.int .i64 2, .int .i64 9, .int .i64 0, .int .i64 1, .int .i64 10, .int .i64 0, .int .i64 80, .int .i64 0, .int .i64 0, .bool false, .int .i64 0, .slice none 0 0, .slice none 0 0]) := ⟨st_blk HT.out (by kernel_rfl)⟩
  have n2_ := Aside0.mk (HP.out.grown hg_ (by intro e; injection e with e; have h1_ := HLT.out; omega))
  have n3_ := Aside0.mk (HTN.out.grown hg_ (by intro e; injection e with e; have h1_ := HLT.out; have h2_ := HTNE.out; omega))
  have n4_ : Aside0 (Kd.R (Kd.int .u8) 5 (w7.setCells tr 0 (#[.int .i64 2, .int .i64 9, .int .i64 0, .int .i64 1, .int .i64 10, .int .i64 0, .int .i64 80, .int .i64 0, .int .i64 0, .bool false, .int .i64 0, .slice none 0 0, .slice none 0 0] : Array Value).toList) W.heap.size (fun _ => True) (.slice (some ⟨gb, 0, none⟩) 24 cb) bytes0) := ⟨row_grown HR.out HT.out (by decide) hg_⟩
  clear hHeld hg_ HB HT HP HTN HR
  generalize w7.setCells tr 0 (#[.int .i64 2, .int .i64 9, .int .i64 0, .int .i64 1, .int .i64 10, .int .i64 0, .int .i64 80, .int .i64 0, .int .i64 0, .bool false, .int .i64 0, .slice none 0 0, .slice none 0 0] : Array Value).toList = w8 at n0_ n1_ n2_ n3_ n4_ ⊢
  have HB := n0_
  have HT := n1_
  have HP := n2_
  have HTN := n3_
  have HR := n4_
  clear n0_ n1_ n2_ n3_ n4_
  refine hK.out _ _ ⟨HP.out, (blk_cell HP.out 9).trans rfl⟩ (fun hHeld => ?_)
  clear hK K
  refine pure_ (i := 10) (N := some 4) (v := ?_) (a' := ?_) #[true, true, true, true, true, true, true, true, true, true, true] rfl rfl (by kernel_rfl) (fun _ _ _ h => h) (Or.inl ⟨by rfl, ?_⟩) ?_ ?_
  rotate_left
  · intro w'
    go_simp
    with_reducible rfl
  rotate_left
  · simp only [Act.put, List.setIfInBounds_toArray, List.set_cons_zero, List.set_cons_succ, i64_w, i32_w]
    rfl
  refine done_ (by kernel_rfl) ?_
  clear hHeld
  go_wp2_with fail
  refine bodyPost_ret (results_list (rs := [.tmp 2, .cell 3 58, .tmp 4]) (vs := [.pointer (some ⟨tn, 0, none⟩), .agg #[.int .i64 2, .int .i64 9, .int .i64 0, .int .i64 1, .int .i64 10, .int .i64 0, .int .i64 80, .int .i64 0, .int .i64 0, .bool false, .int .i64 0, .slice none 0 0, .slice none 0 0], .int .i64 0]) rfl (by simp) (.tmp (.cell tr 58 #[.int .i64 2, .int .i64 9, .int .i64 0, .int .i64 1, .int .i64 10, .int .i64 0, .int .i64 80, .int .i64 0, .int .i64 0, .bool false, .int .i64 0, .slice none 0 0, .slice none 0 0] (0, 0) _ rfl HT.out Try.underlying58 rfl (by kernel_rfl) (.tmp .nil)))) rfl ?_
  exact ⟨tn, gb, cb, rfl, HTN.out, HR.out, by have h1_ := HTE.out; have h2_ := HLT.out; have h3_ := HTNE.out; omega, HB.out⟩
theorem getA : wire_get.f 10 ([2, 8, 0, 24, 0, 0, 0, 1, 0, 0, 0, 10, 0, 0, 253, 211, 0, 0, 0, 80, 0, 0, 255, 154] : List Int) 14 2 = some 64979 := by kernel_rfl
theorem getA_c {A : Option Addr} {c : Nat} {w : World} (hC : Kd.C (Kd.int .u8) w A 24 ([2, 8, 0, 24, 0, 0, 0, 1, 0, 0, 0, 10, 0, 0, 253, 211, 0, 0, 0, 80, 0, 0, 255, 154] : List Int)) (hc : 24 ≤ c) : Calls Try.prog 62 #[.slice A 24 c, .int .i64 14, .int .i64 2] w fun e w' => e = .returned (.int .i64 64979) ∧ Below w.heap.size w w' := by
  refine (wire_get.calls 10 A c ([2, 8, 0, 24, 0, 0, 0, 1, 0, 0, 0, 10, 0, 0, 253, 211, 0, 0, 0, 80, 0, 0, 255, 154] : List Int) 14 2 64979 w hC hc getA).mono ?_
  rintro e w' ⟨rfl, hd⟩
  exact ⟨rfl, drawn_below hd⟩
theorem getB : wire_get.f 10 ([2, 8, 0, 24, 0, 0, 0, 1, 0, 0, 0, 10, 0, 0, 253, 212, 0, 0, 0, 80, 0, 0, 255, 154] : List Int) 22 2 = some 65434 := by kernel_rfl
theorem getB_c {A : Option Addr} {c : Nat} {w : World} (hC : Kd.C (Kd.int .u8) w A 24 ([2, 8, 0, 24, 0, 0, 0, 1, 0, 0, 0, 10, 0, 0, 253, 212, 0, 0, 0, 80, 0, 0, 255, 154] : List Int)) (hc : 24 ≤ c) : Calls Try.prog 62 #[.slice A 24 c, .int .i64 22, .int .i64 2] w fun e w' => e = .returned (.int .i64 65434) ∧ Below w.heap.size w w' := by
  refine (wire_get.calls 10 A c ([2, 8, 0, 24, 0, 0, 0, 1, 0, 0, 0, 10, 0, 0, 253, 212, 0, 0, 0, 80, 0, 0, 255, 154] : List Int) 22 2 65434 w hC hc getB).mono ?_
  rintro e w' ⟨rfl, hd⟩
  exact ⟨rfl, drawn_below hd⟩
theorem pairA : wire_pair.f 10 ([2, 9, 0, 24, 0, 0, 0, 1, 0, 0, 0, 10, 0, 0, 253, 211, 0, 0, 0, 80, 0, 0, 255, 154] : List Int) 0 = some 521 := by kernel_rfl
theorem pairA_c {A : Option Addr} {c : Nat} {w : World} (hC : Kd.C (Kd.int .u8) w A 24 ([2, 9, 0, 24, 0, 0, 0, 1, 0, 0, 0, 10, 0, 0, 253, 211, 0, 0, 0, 80, 0, 0, 255, 154] : List Int)) (hc : 24 ≤ c) : Calls Try.prog 84 #[.slice A 24 c, .int .i64 0] w fun e w' => e = .returned (.int .i64 521) ∧ Below w.heap.size w w' := by
  refine (wire_pair.calls 10 A c ([2, 9, 0, 24, 0, 0, 0, 1, 0, 0, 0, 10, 0, 0, 253, 211, 0, 0, 0, 80, 0, 0, 255, 154] : List Int) 0 521 w hC hc pairA).mono ?_
  rintro e w' ⟨rfl, hd⟩
  exact ⟨rfl, drawn_below hd⟩
theorem pairB : wire_pair.f 10 ([2, 8, 0, 24, 0, 0, 0, 1, 0, 0, 0, 10, 0, 0, 253, 211, 0, 0, 0, 80, 0, 0, 255, 154] : List Int) 0 = some 520 := by kernel_rfl
theorem pairB_c {A : Option Addr} {c : Nat} {w : World} (hC : Kd.C (Kd.int .u8) w A 24 ([2, 8, 0, 24, 0, 0, 0, 1, 0, 0, 0, 10, 0, 0, 253, 211, 0, 0, 0, 80, 0, 0, 255, 154] : List Int)) (hc : 24 ≤ c) : Calls Try.prog 84 #[.slice A 24 c, .int .i64 0] w fun e w' => e = .returned (.int .i64 520) ∧ Below w.heap.size w w' := by
  refine (wire_pair.calls 10 A c ([2, 8, 0, 24, 0, 0, 0, 1, 0, 0, 0, 10, 0, 0, 253, 211, 0, 0, 0, 80, 0, 0, 255, 154] : List Int) 0 520 w hC hc pairB).mono ?_
  rintro e w' ⟨rfl, hd⟩
  exact ⟨rfl, drawn_below hd⟩
theorem turn_v : sum_Turn.f 64979 521 520 = some 64980 := by kernel_rfl
theorem put_v : wire_put.f 10 ([2, 8, 0, 24, 0, 0, 0, 1, 0, 0, 0, 10, 0, 0, 253, 211, 0, 0, 0, 80, 0, 0, 255, 154] : List Int) 14 2 64980 = some ([2, 8, 0, 24, 0, 0, 0, 1, 0, 0, 0, 10, 0, 0, 253, 212, 0, 0, 0, 80, 0, 0, 255, 154] : List Int) := by kernel_rfl
set_option maxHeartbeats 16000000 in
set_option maxRecDepth 100000 in
theorem turn_known (w0 : World) (ad : Addr) (c tn gb cb : Nat) (W : World) (hB : Below w0.heap.size w0 W) (hC : Kd.C (Kd.int .u8) W (some ad) 24 ([2, 9, 0, 24, 0, 0, 0, 1, 0, 0, 0, 10, 0, 0, 253, 211, 0, 0, 0, 80, 0, 0, 255, 154] : List Int)) (hc : 24 ≤ c) (hT : Blk W tn 130 #[.slice (some ad) 24 c, .slice (some ⟨gb, 0, none⟩) 24 cb, .bool false]) (hR : Kd.R (Kd.int .u8) 5 W w0.heap.size (fun _ => True) (.slice (some ⟨gb, 0, none⟩) 24 cb) ([2, 8, 0, 24, 0, 0, 0, 1, 0, 0, 0, 10, 0, 0, 253, 211, 0, 0, 0, 80, 0, 0, 255, 154] : List Int)) :
    Calls Try.prog 65 #[.pointer (some ⟨tn, 0, none⟩), .int .i64 14, .int .i64 0, .int .i64 2] W fun e w' => e = .returned (.tuple #[]) ∧ Blk w' tn 130 #[.slice (some ad) 24 c, .slice (some ⟨gb, 0, none⟩) 24 cb, .bool false] ∧ Kd.R (Kd.int .u8) 5 w' w0.heap.size (fun _ => True) (.slice (some ⟨gb, 0, none⟩) 24 cb) ([2, 8, 0, 24, 0, 0, 0, 1, 0, 0, 0, 10, 0, 0, 253, 212, 0, 0, 0, 80, 0, 0, 255, 154] : List Int) ∧ Below w0.heap.size w0 w' := by
  have hu130 := Try.underlying130
  have HB := Aside0.mk hB
  have HC := Aside0.mk hC
  have HCC := Aside0.mk hc
  have HT := Aside0.mk hT
  have HR := Aside0.mk hR
  have HCB : Aside0 (24 ≤ cb) := ⟨(Kd.R_reads' hR).2.1⟩
  have HNE : Aside0 (tn ≠ gb) := ⟨fun e => Kd.R_ne hR hT (by decide) (by rw [e]; simp [Value.ownBlock])⟩
  clear hB hC hc hT hR
  have hn_ : Go.bits .andNot .i64 0 1 = 0 := by kernel_rfl
  have hw2 : wrap64 2 = 2 := by unfold wrap64; omega
  have d0 : W.cell? ⟨tn, 0, none⟩ = some (.slice (some ad) 24 c) := (blk_cell HT.out 0).trans rfl
  have d1 : W.cell? ⟨tn, 1, none⟩ = some (.slice (some ⟨gb, 0, none⟩) 24 cb) := (blk_cell HT.out 1).trans rfl
  have d2 : W.cell? ⟨tn, 2, none⟩ = some (.bool false) := (blk_cell HT.out 2).trans rfl
  go_enter Try.func65, Try.ntmps65
  go_wp2_with (first
    | (go_at_call 62; (with_reducible refine (getA_c (Kd.R_reads' HR.out).2.2 HCB.out).mono ?_); rintro e_ w1 ⟨rfl, hb_⟩; clear d0 d1 d2; have n0_ := Aside0.mk (below_step HB.out hb_); have n1_ := Aside0.mk (Kd.C_below HC.out hb_); have n2_ := Aside0.mk (HT.out.below hb_); have n3_ := Aside0.mk (Kd.R_below HR.out hb_); clear HB HC HT HR; have HB := n0_; have HC := n1_; have HT := n2_; have HR := n3_; clear n0_ n1_ n2_ n3_; clear hb_; have d0 : w1.cell? ⟨tn, 0, none⟩ = some (.slice (some ad) 24 c) := (blk_cell HT.out 0).trans rfl; have d1 : w1.cell? ⟨tn, 1, none⟩ = some (.slice (some ⟨gb, 0, none⟩) 24 cb) := (blk_cell HT.out 1).trans rfl; have d2 : w1.cell? ⟨tn, 2, none⟩ = some (.bool false) := (blk_cell HT.out 2).trans rfl))
  go_loopg [8, 9] 3 (fun kq v8 v9 w' => ∃ n : Nat, v8 = .int .i64 ((64979 + n : Nat) : Int) ∧ v9 = .int .i64 ((2 * n : Nat) : Int) ∧ Aside0 (kq + n = 3 ∧ n ≤ 1) ∧ Aside0 (Below w0.heap.size w0 w') ∧ Aside0 (Kd.C (Kd.int .u8) w' (some ad) 24 ([2, 9, 0, 24, 0, 0, 0, 1, 0, 0, 0, 10, 0, 0, 253, 211, 0, 0, 0, 80, 0, 0, 255, 154] : List Int)) ∧ Aside0 (Blk w' tn 130 #[.slice (some ad) 24 c, .slice (some ⟨gb, 0, none⟩) 24 cb, .bool false]) ∧ Aside0 (Kd.R (Kd.int .u8) 5 w' w0.heap.size (fun _ => True) (.slice (some ⟨gb, 0, none⟩) 24 cb) ([2, 8, 0, 24, 0, 0, 0, 1, 0, 0, 0, 10, 0, 0, 253, 211, 0, 0, 0, 80, 0, 0, 255, 154] : List Int)))
  case atStart => exact ⟨0, rfl, rfl, ⟨by omega⟩, HB, HC, HT, HR⟩
  case round =>
    clear HB HC HT HR d0 d1 d2
    obtain ⟨n, rfl, rfl, HK, HB, HC, HT, HR⟩ := hrel
    cases gk with
    | zero => have := HK.out; omega
    | succ k1 =>
      have hk_ := HK.out
      rcases (show n = 0 ∨ n = 1 by omega) with rfl | rfl
      · clear hk_
        go_upto_region 4 with fail
        have hb_ := below_drew1 (Below.refl wr.heap.size wr)
        have n0_ := Aside0.mk (below_step HB.out hb_)
        have n1_ := Aside0.mk (Kd.C_below HC.out hb_)
        have n2_ := Aside0.mk (HT.out.below hb_)
        have n3_ := Aside0.mk (Kd.R_below HR.out hb_)
        clear HB HC HT HR
        have HB := n0_
        have HC := n1_
        have HT := n2_
        have HR := n3_
        clear n0_ n1_ n2_ n3_
        clear hb_
        refine start_ (n := 15) (S := fun w' => w'.cell? ⟨tn, 0, none⟩ = some (.slice (some ad) 24 c) ∧ w'.cell? ⟨tn, 1, none⟩ = some (.slice (some ⟨gb, 0, none⟩) 24 cb)) (ds := []) #[false, false, false, false, false, false, false, false, false, false, false, false, false, false, false] (by kernel_rfl) rfl rfl ⟨(blk_cell HT.out 0).trans rfl, (blk_cell HT.out 1).trans rfl⟩ (fun hHeld => ?_)
        generalize wr.drew = w2 at HB HC HT HR hHeld ⊢
        refine pure_ (i := 0) (N := some 25) (v := ?_) (a' := ?_) #[true, false, false, false, false, false, false, false, false, false, false, false, false, false, false] rfl rfl (by kernel_rfl) (fun _ _ _ h => h) (Or.inl ⟨by rfl, ?_⟩) ?_ ?_
        rotate_left
        · intro w'
          go_simp
          with_reducible rfl
        rotate_left
        · simp only [Act.put, List.setIfInBounds_toArray, List.set_cons_zero, List.set_cons_succ, i64_w, i32_w]
          rfl
        refine pure_ (i := 1) (N := some 26) (v := ?_) (a' := ?_) #[true, true, false, false, false, false, false, false, false, false, false, false, false, false, false] rfl rfl (by kernel_rfl) (fun _ _ _ h => h) (Or.inl ⟨by rfl, ?_⟩) ?_ ?_
        rotate_left
        · intro w'
          go_simp
          with_reducible rfl
        rotate_left
        · simp only [Act.put, List.setIfInBounds_toArray, List.set_cons_zero, List.set_cons_succ, i64_w, i32_w]
          rfl
        refine pure_ (i := 2) (N := some 27) (v := ?_) (a' := ?_) #[true, true, true, false, false, false, false, false, false, false, false, false, false, false, false] rfl rfl (by kernel_rfl) (fun _ _ _ h => h) (Or.inl ⟨by rfl, ?_⟩) ?_ ?_
        rotate_left
        · intro w'
          go_simp
          with_reducible rfl
        rotate_left
        · simp only [Act.put, List.setIfInBounds_toArray, List.set_cons_zero, List.set_cons_succ, i64_w, i32_w]
          rfl
        refine pure_ (i := 3) (N := some 28) (v := ?_) (a' := ?_) #[true, true, true, true, false, false, false, false, false, false, false, false, false, false, false] rfl rfl (by kernel_rfl) (fun _ _ _ h => h) (Or.inl ⟨by rfl, ?_⟩) ?_ ?_
        rotate_left
        · intro w'
          go_simp
          with_reducible rfl
        rotate_left
        · simp only [Act.put, List.setIfInBounds_toArray, List.set_cons_zero, List.set_cons_succ, i64_w, i32_w]
          rfl
        refine pure_ (i := 5) (N := some 30) (v := ?_) (a' := ?_) #[true, true, true, true, false, true, false, false, false, false, false, false, false, false, false] rfl rfl (by kernel_rfl) (fun _ _ _ h => h) (Or.inl ⟨by rfl, ?_⟩) ?_ ?_
        rotate_left
        · intro w'
          go_simp
          with_reducible rfl
        rotate_left
        · simp only [Act.put, List.setIfInBounds_toArray, List.set_cons_zero, List.set_cons_succ, i64_w, i32_w]
          rfl
        refine pure_ (i := 7) (N := some 32) (v := ?_) (a' := ?_) #[true, true, true, true, false, true, false, true, false, false, false, false, false, false, false] rfl rfl (by kernel_rfl) (fun _ _ _ h => h) (Or.inl ⟨by rfl, ?_⟩) ?_ ?_
        rotate_left
        · intro w'
          go_simp
          with_reducible rfl
        rotate_left
        · simp only [Act.put, List.setIfInBounds_toArray, List.set_cons_zero, List.set_cons_succ, i64_w, i32_w]
          rfl
        refine pure_ (i := 8) (N := some 33) (v := ?_) (a' := ?_) #[true, true, true, true, false, true, false, true, true, false, false, false, false, false, false] rfl rfl (by kernel_rfl) (fun _ _ _ h => h) (Or.inl ⟨by rfl, ?_⟩) ?_ ?_
        rotate_left
        · intro w'
          go_simp
          with_reducible rfl
        rotate_left
        · simp only [Act.put, List.setIfInBounds_toArray, List.set_cons_zero, List.set_cons_succ, i64_w, i32_w]
          rfl
        refine pure_ (i := 9) (N := some 34) (v := ?_) (a' := ?_) #[true, true, true, true, false, true, false, true, true, true, false, false, false, false, false] rfl rfl (by kernel_rfl) (fun _ _ _ h => h) (Or.inl ⟨by rfl, ?_⟩) ?_ ?_
        rotate_left
        · intro w'
          go_simp
          with_reducible rfl
        rotate_left
        · simp only [Act.put, List.setIfInBounds_toArray, List.set_cons_zero, List.set_cons_succ, i64_w, i32_w]
          rfl
        refine pure_ (i := 11) (N := some 36) (v := ?_) (a' := ?_) #[true, true, true, true, false, true, false, true, true, true, false, true, false, false, false] rfl rfl (by kernel_rfl) (fun _ _ _ h => h) (Or.inl ⟨by rfl, ?_⟩) ?_ ?_
        rotate_left
        · intro w'
          go_simp
          with_reducible rfl
        rotate_left
        · simp only [Act.put, List.setIfInBounds_toArray, List.set_cons_zero, List.set_cons_succ, i64_w, i32_w]
          rfl
        refine take_ (i := 4) (N := some 29) (v := ?_) (a' := ?_) #[true, true, true, true, true, true, false, true, true, true, false, true, false, false, false] rfl rfl (by kernel_rfl) (fun _ _ _ h => h) (Or.inl ⟨by rfl, ?_⟩) hHeld ?_ ?_
        rotate_left
        · rintro w' ⟨s0, s1⟩
          go_simp
          with_reducible rfl
        rotate_left
        · simp only [Act.put, List.setIfInBounds_toArray, List.set_cons_zero, List.set_cons_succ, i64_w, i32_w]
          rfl
        refine take_ (i := 10) (N := some 35) (v := ?_) (a' := ?_) #[true, true, true, true, true, true, false, true, true, true, true, true, false, false, false] rfl rfl (by kernel_rfl) (fun _ _ _ h => h) (Or.inl ⟨by rfl, ?_⟩) hHeld ?_ ?_
        rotate_left
        · rintro w' ⟨s0, s1⟩
          go_simp
          with_reducible rfl
        rotate_left
        · simp only [Act.put, List.setIfInBounds_toArray, List.set_cons_zero, List.set_cons_succ, i64_w, i32_w]
          rfl
        refine one_ (i := 6) (N := some 31) #[true, true, true, true, true, true, true, true, true, true, true, true, false, false, false] rfl rfl (by kernel_rfl) (by decide) (fun K hK => ?_)
        refine goes_ Try.func84 (by kernel_rfl) rfl #[.slice (some ad) 24 c, .int .i64 0] (by rfl) rfl rfl (by simp only [List.map_toArray, List.map_cons, List.map_nil]; rfl) ?_
        refine (pairA_c HC.out HCC.out).mono ?_
        rintro e_ w3 ⟨rfl, hb_⟩
        refine ⟨_, rfl, ?_⟩
        have n0_ := Aside0.mk (below_step HB.out hb_)
        have n1_ := Aside0.mk (Kd.C_below HC.out hb_)
        have n2_ := Aside0.mk (HT.out.below hb_)
        have n3_ := Aside0.mk (Kd.R_below HR.out hb_)
        clear HB HC HT HR
        have HB := n0_
        have HC := n1_
        have HT := n2_
        have HR := n3_
        clear n0_ n1_ n2_ n3_
        clear hb_ hHeld
        refine hK.out _ _ ⟨(blk_cell HT.out 0).trans rfl, (blk_cell HT.out 1).trans rfl⟩ (fun hHeld => ?_)
        clear hK K
        refine norm_ (a' := ?_) ?_ ?_
        rotate_left
        · show Act.put _ (some 31) _ = _
          simp only [Act.put, List.setIfInBounds_toArray, List.set_cons_zero, List.set_cons_succ, i64_w, i32_w]
          rfl
        refine one_ (i := 12) (N := some 37) #[true, true, true, true, true, true, true, true, true, true, true, true, true, false, false] rfl rfl (by kernel_rfl) (by decide) (fun K hK => ?_)
        refine goes_ Try.func84 (by kernel_rfl) rfl #[.slice (some ⟨gb, 0, none⟩) 24 cb, .int .i64 0] (by rfl) rfl rfl (by simp only [List.map_toArray, List.map_cons, List.map_nil]; rfl) ?_
        refine (pairB_c (Kd.R_reads' HR.out).2.2 HCB.out).mono ?_
        rintro e_ w4 ⟨rfl, hb_⟩
        refine ⟨_, rfl, ?_⟩
        have n0_ := Aside0.mk (below_step HB.out hb_)
        have n1_ := Aside0.mk (Kd.C_below HC.out hb_)
        have n2_ := Aside0.mk (HT.out.below hb_)
        have n3_ := Aside0.mk (Kd.R_below HR.out hb_)
        clear HB HC HT HR
        have HB := n0_
        have HC := n1_
        have HT := n2_
        have HR := n3_
        clear n0_ n1_ n2_ n3_
        clear hb_ hHeld
        refine hK.out _ _ ⟨(blk_cell HT.out 0).trans rfl, (blk_cell HT.out 1).trans rfl⟩ (fun hHeld => ?_)
        clear hK K
        refine norm_ (a' := ?_) ?_ ?_
        rotate_left
        · show Act.put _ (some 37) _ = _
          simp only [Act.put, List.setIfInBounds_toArray, List.set_cons_zero, List.set_cons_succ, i64_w, i32_w]
          rfl
        refine one_ (i := 13) (N := some 38) #[true, true, true, true, true, true, true, true, true, true, true, true, true, true, false] rfl rfl (by kernel_rfl) (by decide) (fun K hK => ?_)
        refine goes_ Try.func70 (by kernel_rfl) rfl #[.int .i64 64979, .int .i64 521, .int .i64 520] (by rfl) rfl rfl (by simp only [List.map_toArray, List.map_cons, List.map_nil]; rfl) ?_
        refine (sum_Turn.calls 64979 521 520 64980 _ turn_v).mono ?_
        rintro e_ w5 ⟨rfl, hd_⟩
        have hb_ := drawn_below hd_
        refine ⟨_, rfl, ?_⟩
        have n0_ := Aside0.mk (below_step HB.out hb_)
        have n1_ := Aside0.mk (Kd.C_below HC.out hb_)
        have n2_ := Aside0.mk (HT.out.below hb_)
        have n3_ := Aside0.mk (Kd.R_below HR.out hb_)
        clear HB HC HT HR
        have HB := n0_
        have HC := n1_
        have HT := n2_
        have HR := n3_
        clear n0_ n1_ n2_ n3_
        clear hb_ hd_ hHeld
        refine hK.out _ _ ⟨(blk_cell HT.out 0).trans rfl, (blk_cell HT.out 1).trans rfl⟩ (fun hHeld => ?_)
        clear hK K
        refine norm_ (a' := ?_) ?_ ?_
        rotate_left
        · show Act.put _ (some 38) _ = _
          simp only [Act.put, List.setIfInBounds_toArray, List.set_cons_zero, List.set_cons_succ, i64_w, i32_w]
          rfl
        refine pure_ (i := 14) (N := some 8) (v := ?_) (a' := ?_) #[true, true, true, true, true, true, true, true, true, true, true, true, true, true, true] rfl rfl (by kernel_rfl) (fun _ _ _ h => h) (Or.inl ⟨by rfl, ?_⟩) ?_ ?_
        rotate_left
        · intro w'
          go_simp
          with_reducible rfl
        rotate_left
        · simp only [Act.put, List.setIfInBounds_toArray, List.set_cons_zero, List.set_cons_succ, i64_w, i32_w]
          rfl
        refine done_ (by kernel_rfl) ?_
        clear hHeld
        go_wp2_with fail
        go_roundg k1
        case measure => omega
        case rel => exact ⟨1, rfl, rfl, ⟨by have h_ := HK.out; omega⟩, HB, HC, HT, HR⟩
      · clear hk_
        have HRP : Aside0 (Kd.R (Kd.int .u8) 5 wr w0.heap.size (fun k => k = gb) (.slice (some ⟨gb, 0, none⟩) 24 cb) ([2, 8, 0, 24, 0, 0, 0, 1, 0, 0, 0, 10, 0, 0, 253, 211, 0, 0, 0, 80, 0, 0, 255, 154] : List Int)) := ⟨Kd.R_of_own (Kd.own_of_R HR.out) (fun k hk => by simpa [Value.ownBlock] using hk.symm)⟩
        have HT0 := HT
        have d0 : wr.cell? ⟨tn, 0, none⟩ = some (.slice (some ad) 24 c) := (blk_cell HT.out 0).trans rfl
        have d1 : wr.cell? ⟨tn, 1, none⟩ = some (.slice (some ⟨gb, 0, none⟩) 24 cb) := (blk_cell HT.out 1).trans rfl
        have d2 : wr.cell? ⟨tn, 2, none⟩ = some (.bool false) := (blk_cell HT.out 2).trans rfl
        go_wp2_with (first
          | (go_at_call 37; (with_reducible refine (wire_put.calls 10 (fun k => k = gb) _ ([2, 8, 0, 24, 0, 0, 0, 1, 0, 0, 0, 10, 0, 0, 253, 211, 0, 0, 0, 80, 0, 0, 255, 154] : List Int) 14 2 64980 ([2, 8, 0, 24, 0, 0, 0, 1, 0, 0, 0, 10, 0, 0, 253, 212, 0, 0, 0, 80, 0, 0, 255, 154] : List Int) w0 _ HB.out HRP.out put_v).mono ?_); rintro e_ w6 ⟨rfl, hr_, hb_, hk_⟩; have HB6 := Aside0.mk hb_; have HR6 := Aside0.mk hr_; have HK6 := Aside0.mk hk_; clear hr_ hb_ hk_))
        first | go_end0 | ((try simp only [Exit.inBlock, Exit.then]); refine bodyPost_ret (results_none rfl _ _ _) rfl ?_)
        exact ⟨rfl, (HK6.out.2 tn HT0.out.lt (by intro e; exact HNE.out e)).trans HT0.out, Kd.R_mono HR6.out (fun _ _ => trivial), HB6.out⟩
set_option maxHeartbeats 16000000 in
set_option maxRecDepth 100000 in
theorem done_known (w0 : World) (ad : Addr) (c tn gb cb : Nat) (W : World) (hB : Below w0.heap.size w0 W) (hT : Blk W tn 130 #[.slice (some ad) 24 c, .slice (some ⟨gb, 0, none⟩) 24 cb, .bool false]) (hR : Kd.R (Kd.int .u8) 5 W w0.heap.size (fun _ => True) (.slice (some ⟨gb, 0, none⟩) 24 cb) ([2, 8, 0, 24, 0, 0, 0, 1, 0, 0, 0, 10, 0, 0, 253, 212, 0, 0, 0, 80, 0, 0, 255, 154] : List Int)) :
    Calls Try.prog 66 #[.pointer (some ⟨tn, 0, none⟩)] W fun e w' => e = .returned (.slice (some ⟨gb, 0, none⟩) 24 cb) ∧ Below w0.heap.size w0 w' := by
  have hu130 := Try.underlying130
  have HB := Aside0.mk hB
  have HT := Aside0.mk hT
  have HR := Aside0.mk hR
  have HCB : Aside0 (24 ≤ cb) := ⟨(Kd.R_reads' hR).2.1⟩
  obtain ⟨hx_, hf_⟩ := Kd.R_celln 0 hR (0 : Int) (by decide) (by decide)
  replace hx_ : W.cell? ⟨gb, 0, none⟩ = some (.int .u8 2) := hx_
  clear hB hT hR hf_
  have hw2 : wrap64 2 = 2 := by unfold wrap64; omega
  have d0 : W.cell? ⟨tn, 0, none⟩ = some (.slice (some ad) 24 c) := (blk_cell HT.out 0).trans rfl
  have d1 : W.cell? ⟨tn, 1, none⟩ = some (.slice (some ⟨gb, 0, none⟩) 24 cb) := (blk_cell HT.out 1).trans rfl
  have d2 : W.cell? ⟨tn, 2, none⟩ = some (.bool false) := (blk_cell HT.out 2).trans rfl
  go_enter Try.func66, Try.ntmps66
  go_wp2_with (first
    | (go_at_call 62; (with_reducible refine (getB_c (Kd.R_reads' HR.out).2.2 HCB.out).mono ?_); rintro e_ w1 ⟨rfl, hb_⟩; clear d0 d1 d2; clear hx_; have n0_ := Aside0.mk (below_step HB.out hb_); have n1_ := Aside0.mk (HT.out.below hb_); have n2_ := Aside0.mk (Kd.R_below HR.out hb_); clear HB HT HR; have HB := n0_; have HT := n1_; have HR := n2_; clear n0_ n1_ n2_; clear hb_; have d0 : w1.cell? ⟨tn, 0, none⟩ = some (.slice (some ad) 24 c) := (blk_cell HT.out 0).trans rfl; have d1 : w1.cell? ⟨tn, 1, none⟩ = some (.slice (some ⟨gb, 0, none⟩) 24 cb) := (blk_cell HT.out 1).trans rfl; have d2 : w1.cell? ⟨tn, 2, none⟩ = some (.bool false) := (blk_cell HT.out 2).trans rfl))
  go_ret
  exact ⟨rfl, HB.out⟩
set_option maxHeartbeats 16000000 in
set_option maxRecDepth 100000 in
theorem age_known (ad : Addr) (c : Nat) (W : World) (hC : Kd.C (Kd.int .u8) W (some ad) 24 bytes0) (hc : 24 ≤ c) : Calls Try.prog 43 #[.slice (some ad) 24 c] W fun e w' => ∃ gb cb : Nat, e = .returned (.tuple #[.slice (some ⟨gb, 0, none⟩) 24 cb, .int .i64 0]) ∧ Below W.heap.size W w' := by
  have hu58 := Try.underlying58
  have hu130 := Try.underlying130
  have HC := Aside0.mk hC
  have HCC := Aside0.mk hc
  clear hC hc
  go_enter Try.func43, Try.ntmps43
  go_upto_region 2 with (first
    | (go_at_call 64; (with_reducible refine (begin_known ad c _ HC.out HCC.out).mono ?_); rintro e_ w1 ⟨tn, gb, cb, rfl, hT_, hR_, hge_, hb_⟩; have HT := Aside0.mk hT_; have HR := Aside0.mk hR_; have HGE := Aside0.mk hge_; have HB := Aside0.mk hb_; clear hT_ hR_ hge_ hb_)
    | ((with_reducible refine gate_dst (N := 5) rfl ?_); refine box_event rfl (N := 5) rfl (cs := #[.int .i64 0, .int .i64 0, .int .i64 0, .int .i64 0, .int .i64 0, .int .i64 0, .int .i64 0, .int .i64 0, .int .i64 0, .bool false, .int .i64 0, .slice none 0 0, .slice none 0 0]) (t := 58) (run_pk _ _ _ rfl) ?_; intro g h_ w2 hb hb_; have HP := Aside0.mk (show Blk w2 g 58 #[.int .i64 0, .int .i64 0, .int .i64 0, .int .i64 0, .int .i64 0, .int .i64 0, .int .i64 0, .int .i64 0, .int .i64 0, .bool false, .int .i64 0, .slice none 0 0, .slice none 0 0] from hb); have HLT : Aside0 (tn < g) := ⟨by rw [h_]; exact HT.out.lt⟩; have n0_ := Aside0.mk (below_step HB.out hb_); have n1_ := Aside0.mk (HT.out.below hb_); have n2_ := Aside0.mk (Kd.R_below HR.out hb_); clear HB HT HR; have HB := n0_; have HT := n1_; have HR := n2_; clear n0_ n1_ n2_; clear h_ hb hb_)
    | ((with_reducible refine gate_store (t := 58) (p := 5) rfl ?_); refine stm_event rfl rfl 58 (.tmp 5) (.tmp 11) rfl rfl rfl HP.out (Nat.le_refl _) (by kernel_rfl) (by simp [Value.oneCell']) ?_; intro w3 hb_ hg_; have m_ : Aside0 (Blk w3 g 58 #[.int .i64 2, .int .i64 9, .int .i64 0, .int .i64 1, .int .i64 10, .int .i64 0, .int .i64 80, .int .i64 0, .int .i64 0, .bool false, .int .i64 0, .slice none 0 0, .slice none 0 0]) := ⟨by rw [show setMany #[.int .i64 0, .int .i64 0, .int .i64 0, .int .i64 0, .int .i64 0, .int .i64 0, .int .i64 0, .int .i64 0, .int .i64 0, .bool false, .int .i64 0, .slice none 0 0, .slice none 0 0] 0 (#[.int .i64 2, .int .i64 9, .int .i64 0, .int .i64 1, .int .i64 10, .int .i64 0, .int .i64 80, .int .i64 0, .int .i64 0, .bool false, .int .i64 0, .slice none 0 0, .slice none 0 0] : Array Value).toList = #[.int .i64 2, .int .i64 9, .int .i64 0, .int .i64 1, .int .i64 10, .int .i64 0, .int .i64 80, .int .i64 0, .int .i64 0, .bool false, .int .i64 0, .slice none 0 0, .slice none 0 0] from by kernel_rfl] at hb_; exact hb_⟩; have n0_ := Aside0.mk (HB.out.grown hg_ (below_size HB.out) (fun k hk => by injection hk with hk; have h1_ := HLT.out; have h2_ := HGE.out; omega)); have n1_ := Aside0.mk (HT.out.grown hg_ (by intro e; injection e with e; have h1_ := HLT.out; omega)); have n2_ : Aside0 (Kd.R (Kd.int .u8) 5 w3 W.heap.size (fun _ => True) (.slice (some ⟨gb, 0, none⟩) 24 cb) ([2, 9, 0, 24, 0, 0, 0, 1, 0, 0, 0, 10, 0, 0, 253, 211, 0, 0, 0, 80, 0, 0, 255, 154] : List Int)) := ⟨row_grown HR.out HP.out (by decide) hg_⟩; clear hb_ hg_; clear HP HB HT HR; have HP := m_; have HB := n0_; have HT := n1_; have HR := n2_; clear m_ n0_ n1_ n2_))
  have c1_ : w3.cell? ⟨g, 1, none⟩ = some (.int .i64 9) := (blk_cell HP.out 1).trans rfl
  have HCB : Aside0 (24 ≤ cb) := ⟨(Kd.R_reads' HR.out).2.1⟩
  obtain ⟨hx_, hf_⟩ := Kd.R_celln 0 HR.out (1 : Int) (by decide) (by decide)
  replace hx_ : w3.cell? ⟨gb, 1, none⟩ = some (.int .u8 9) := hx_
  replace hf_ : w3.frozen? ⟨gb, 1, none⟩ = false := hf_
  have d0 : w3.cell? ⟨tn, 0, none⟩ = some (.slice (some ad) 24 c) := (blk_cell HT.out 0).trans rfl
  have d1 : w3.cell? ⟨tn, 1, none⟩ = some (.slice (some ⟨gb, 0, none⟩) 24 cb) := (blk_cell HT.out 1).trans rfl
  have d2 : w3.cell? ⟨tn, 2, none⟩ = some (.bool false) := (blk_cell HT.out 2).trans rfl
  have HGB : Aside0 (W.heap.size ≤ gb) := ⟨Kd.R_base HR.out gb (by simp [Value.ownBlock])⟩
  have HNE : Aside0 (tn ≠ gb) := ⟨fun e => Kd.R_ne HR.out HT.out (by decide) (by rw [e]; simp [Value.ownBlock])⟩
  go_upto_region 7 with fail
  have n0_ := Aside0.mk (below_set (j := 1) (v := .int .u8 8) HB.out HGB.out)
  have n1_ : Aside0 (Blk (w3.setCell ⟨gb, 1, none⟩ (.int .u8 8)) tn 130 #[.slice (some ad) 24 c, .slice (some ⟨gb, 0, none⟩) 24 cb, .bool false]) := ⟨blk_far HT.out (by show tn ≠ gb; exact HNE.out) _⟩
  have n2_ : Aside0 (Kd.R (Kd.int .u8) 5 (w3.setCell ⟨gb, 1, none⟩ (.int .u8 8)) W.heap.size (fun _ => True) (.slice (some ⟨gb, 0, none⟩) 24 cb) ([2, 8, 0, 24, 0, 0, 0, 1, 0, 0, 0, 10, 0, 0, 253, 211, 0, 0, 0, 80, 0, 0, 255, 154] : List Int)) := ⟨(Kd.R_putg HR.out (1 : Int) 8).1⟩
  have n3_ : Aside0 (Kd.C (Kd.int .u8) (w3.setCell ⟨gb, 1, none⟩ (.int .u8 8)) (some ad) 24 ([2, 9, 0, 24, 0, 0, 0, 1, 0, 0, 0, 10, 0, 0, 253, 211, 0, 0, 0, 80, 0, 0, 255, 154] : List Int)) := ⟨Kd.C_below HC.out n0_.out⟩
  clear HB HT HR c1_ hx_ hf_ d0 d1 d2 HP
  generalize hq_ : (w3.setCell ⟨gb, 1, none⟩ (.int .u8 8)) = w4 at n0_ n1_ n2_ n3_ ⊢
  clear hq_
  have HB := n0_
  have HT := n1_
  have HR := n2_
  have HC4 := n3_
  clear n0_ n1_ n2_ n3_
  go_wp2_with (first
    | (go_at_call 65; (with_reducible refine (turn_known W ad c tn gb cb _ HB.out HC4.out HCC.out HT.out HR.out).mono ?_); rintro e_ w5 ⟨rfl, hT_, hR_, hb_⟩; clear HB HT HR HC4; have HB := Aside0.mk hb_; have HT := Aside0.mk hT_; have HR := Aside0.mk hR_; clear hT_ hR_ hb_)
    | (go_at_call 66; (with_reducible refine (done_known W ad c tn gb cb _ HB.out HT.out HR.out).mono ?_); rintro e_ w6 ⟨rfl, hb_⟩; clear HB HT HR; have HB := Aside0.mk hb_; clear hb_))
  go_ret2
  exact ⟨gb, cb, rfl, HB.out⟩
end Go.Proofs.Ytkpfojpmigchlaa.Own
