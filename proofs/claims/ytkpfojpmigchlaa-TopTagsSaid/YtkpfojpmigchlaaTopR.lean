/-
  wire.Parse of the bytes that known() makes.
-/
import Derived.Test.YtkpfojpmigchlaaTopB
namespace Go.Proofs.Ytkpfojpmigchlaa.Own
open Go Go.RowKit Go.Proofs.YtkpfojpmigchlaaW.PrintWords Go.Proofs.YtkpfojpmigchlaaW.PrintMore Go.Proofs.YtkpfojpmigchlaaW.PrintLast Go.Proofs.Ytkpfojpmigchlaa.Q
set_option linter.unusedVariables false
set_option linter.unusedSimpArgs false

theorem head_v : wire_head.f 60 bytes0 = some 0 := by kernel_rfl
theorem head_known {A : Option Addr} {c : Nat} {w : World} (hC : Kd.C (Kd.int .u8) w A 24 bytes0) (hc : 24 ≤ c) : Calls Try.prog 61 #[.slice A 24 c] w fun e w' => e = .returned (.int .i64 0) ∧ Below w.heap.size w w' := by
  refine (wire_head.calls 60 A c bytes0 0 w hC hc head_v).mono ?_
  rintro e w' ⟨rfl, hd⟩
  exact ⟨rfl, drawn_below hd⟩
theorem get_known {a1 a2 r : Int} (hf : wire_get.f 10 bytes0 a1 a2 = some r) {A : Option Addr} {c : Nat} {w : World} (hC : Kd.C (Kd.int .u8) w A 24 bytes0) (hc : 24 ≤ c) : Calls Try.prog 62 #[.slice A 24 c, .int .i64 a1, .int .i64 a2] w fun e w' => e = .returned (.int .i64 r) ∧ Below w.heap.size w w' := by
  refine (wire_get.calls 10 A c bytes0 a1 a2 r w hC hc hf).mono ?_
  rintro e w' ⟨rfl, hd⟩
  exact ⟨rfl, drawn_below hd⟩
theorem getv4 : wire_get.f 10 bytes0 4 4 = some 1 := by kernel_rfl
theorem getv8 : wire_get.f 10 bytes0 8 4 = some 10 := by kernel_rfl
theorem getv16 : wire_get.f 10 bytes0 16 2 = some 0 := by kernel_rfl
theorem getv18 : wire_get.f 10 bytes0 18 2 = some 80 := by kernel_rfl
theorem getv20 : wire_get.f 10 bytes0 20 2 = some 0 := by kernel_rfl
theorem getv22 : wire_get.f 10 bytes0 22 2 = some 65434 := by kernel_rfl
theorem clone_nil (A : Option Addr) (n c : Nat) (hn : n = 0) (w : World) : Calls Try.prog 63 #[.slice A n c] w fun e w' => e = .returned (.slice none 0 0) ∧ w = w' := by
  have hb1 : ((n : Int) == 0) = true := beq_iff_eq.2 (by omega)
  clear hn
  go_enter Try.func63, Try.ntmps63
  go_wp2
  all_goals first | (go_ret; done) | (go_ret; exact ⟨rfl, rfl⟩) | exact ⟨rfl, rfl⟩
theorem run_pk (ev : Operand → Value) (o : Oper) (w : World) (ho : o.op = .alloc 58) : (execOp ev o).run Try.prog w = .ok (.value (.pointer (some ⟨w.heap.size, 0, none⟩))) (w.alloc (.cells #[.int .i64 0, .int .i64 0, .int .i64 0, .int .i64 0, .int .i64 0, .int .i64 0, .int .i64 0, .int .i64 0, .int .i64 0, .bool false, .int .i64 0, .slice none 0 0, .slice none 0 0] 58 (0, 0))) := by
  cases o with
  | mk dst op ty pos after guard =>
    obtain rfl : op = _ := ho
    kernel_rfl
theorem run_stpk (ev : Operand → Value) (o : Oper) (w : World) (g : Nat) (cs cells : Array Value) (x y : Operand) (ho : o.op = .store 58 x y) (hx : ev x = .pointer (some ⟨g, 0, none⟩)) (hy : ev y = .agg cells) (hb : Blk w g 58 cs) (hs : cells.size = 13) (hc : cs.size = 13) (h1 : cells.all (·.oneCell') = true) :
    (execOp ev o).run Try.prog w = .ok .skip (w.setCells g 0 cells.toList) := by
  have hr := run_storeVar_mid (P := Try.prog) w g 0 58 cells (hb.there 0 _ (by rw [hs, hc]; decide)) (by rw [hs]; kernel_rfl) h1
  unfold execOp
  simp only [ho, hx, hy, Instr.storeAt, Instr.sureAddr, Sem.run_bind, Sem.run_pure, Result.andThen_ok, hr]
theorem st_blk {w : World} {g : Nat} {cells : Array Value} (h : Blk w g 58 #[.int .i64 0, .int .i64 0, .int .i64 0, .int .i64 0, .int .i64 0, .int .i64 0, .int .i64 0, .int .i64 0, .int .i64 0, .bool false, .int .i64 0, .slice none 0 0, .slice none 0 0]) (hs : setMany #[.int .i64 0, .int .i64 0, .int .i64 0, .int .i64 0, .int .i64 0, .int .i64 0, .int .i64 0, .int .i64 0, .int .i64 0, .bool false, .int .i64 0, .slice none 0 0, .slice none 0 0] 0 cells.toList = cells) : Blk (w.setCells g 0 cells.toList) g 58 cells := by
  have h2 := setCells_blk cells.toList 0 h
  rw [hs] at h2
  exact h2
set_option maxHeartbeats 16000000 in
set_option maxRecDepth 100000 in
theorem parse_known (A : Option Addr) (c : Nat) (W : World) (hC : Kd.C (Kd.int .u8) W A 24 bytes0) (hc : 24 ≤ c) : Calls Try.prog 41 #[.slice A 24 c] W fun e w' => e = .returned (.tuple #[.agg #[.int .i64 2, .int .i64 9, .int .i64 0, .int .i64 1, .int .i64 10, .int .i64 0, .int .i64 80, .int .i64 0, .int .i64 0, .bool false, .int .i64 0, .slice none 0 0, .slice none 0 0], .int .i64 0]) ∧ Below W.heap.size W w' := by
  have hu58 := Try.underlying58
  have HC := Aside0.mk hC
  have HCC := Aside0.mk hc
  obtain ⟨ad, hA_, hx_⟩ := Kd.at_int hC 0 (by decide) (by decide)
  cases hA_
  clear hx_
  have HBY : Aside0 (∀ (i : Nat) (w : World), i < 24 → Below W.heap.size W w → w.cell? (ad.add i) = some (.int .u8 (rd bytes0 (i : Int)))) := ⟨fun i w hi hb => by
    obtain ⟨ad2, e2, hx2⟩ := Kd.at_int (Kd.C_below HC.out hb) (i : Int) (Int.natCast_nonneg i) (by omega)
    cases e2
    rw [Int.toNat_natCast] at hx2
    exact hx2⟩
  have k1_ : ((24 : Int) ≤ (c : Int)) = True := eq_true (by omega)
  have k2_ : (24 ≤ c) = True := eq_true hc
  clear hC hc
  have hw2 : wrap64 2 = 2 := by unfold wrap64; omega
  have hw9 : wrap64 9 = 9 := by unfold wrap64; omega
  have hw0 : wrap64 0 = 0 := by unfold wrap64; omega
  go_enter Try.func41, Try.ntmps41
  go_upto_region 4 with (first
    | ((with_reducible refine gate_dst (N := 2) rfl ?_); refine box_event rfl (N := 2) rfl (cs := #[.int .i64 0, .int .i64 0, .int .i64 0, .int .i64 0, .int .i64 0, .int .i64 0, .int .i64 0, .int .i64 0, .int .i64 0, .bool false, .int .i64 0, .slice none 0 0, .slice none 0 0]) (t := 58) (run_pk _ _ _ rfl) ?_; intro tr htr w1 hb hB; have HT := Aside0.mk (show Blk w1 tr 58 #[.int .i64 0, .int .i64 0, .int .i64 0, .int .i64 0, .int .i64 0, .int .i64 0, .int .i64 0, .int .i64 0, .int .i64 0, .bool false, .int .i64 0, .slice none 0 0, .slice none 0 0] from hb); have HTE : Aside0 (W.heap.size ≤ tr) := ⟨by omega⟩; have HB := Aside0.mk hB; clear htr hb hB)
    | (go_at_call 61; (with_reducible refine (head_known (Kd.C_below HC.out HB.out) HCC.out).mono ?_); rintro e_ w2 ⟨rfl, hb_⟩; have n0_ := Aside0.mk (below_step HB.out hb_); have n1_ := Aside0.mk (HT.out.below hb_); clear HB HT; have HB := n0_; have HT := n1_; clear n0_ n1_; clear hb_))
  have hbd_ := below_drew1 (Below.refl w2.heap.size w2)
  have n0_ := Aside0.mk (below_step HB.out hbd_)
  have n1_ := Aside0.mk (HT.out.below hbd_)
  clear hbd_ HB HT
  have HB := n0_
  have HT := n1_
  clear n0_ n1_
  refine start_ (n := 19) (S := fun w' => w'.cell? ad = some (.int .u8 2) ∧ w'.cell? (ad.add 0) = some (.int .u8 2) ∧ w'.cell? (ad.add 1) = some (.int .u8 9) ∧ w'.cell? ⟨ad.block, ad.off + 1, none⟩ = some (.int .u8 9) ∧ w'.cell? (ad.add 12) = some (.int .u8 0) ∧ w'.cell? ⟨ad.block, ad.off + 12, none⟩ = some (.int .u8 0)) (ds := []) #[false, false, false, false, false, false, false, false, false, false, false, false, false, false, false, false, false, false, false] (by kernel_rfl) rfl rfl ⟨(by have h_ := HBY.out 0 _ (by decide) HB.out; rw [Addr.add_zero'] at h_; exact h_), HBY.out 0 _ (by decide) HB.out, HBY.out 1 _ (by decide) HB.out, (by have h_ := HBY.out 1 _ (by decide) HB.out; rw [← show ad.add 1 = ⟨ad.block, ad.off + 1, none⟩ from by simp [Addr.add]]; exact h_), HBY.out 12 _ (by decide) HB.out, (by have h_ := HBY.out 12 _ (by decide) HB.out; rw [← show ad.add 12 = ⟨ad.block, ad.off + 12, none⟩ from by simp [Addr.add]]; exact h_)⟩ (fun hHeld => ?_)
  generalize w2.drew = w3 at HB HT hHeld ⊢
  refine pure_ (i := 0) (N := some 13) (v := ?_) (a' := ?_) #[true, false, false, false, false, false, false, false, false, false, false, false, false, false, false, false, false, false, false] rfl rfl (by kernel_rfl) (fun _ _ _ h => h) (Or.inl ⟨by rfl, ?_⟩) ?_ ?_
  rotate_left
  · intro w'
    go_simp
    with_reducible rfl
  rotate_left
  · simp only [Act.put, List.setIfInBounds_toArray, List.set_cons_zero, List.set_cons_succ, i64_w, i32_w]
    rfl
  refine pure_ (i := 1) (N := some 14) (v := ?_) (a' := ?_) #[true, true, false, false, false, false, false, false, false, false, false, false, false, false, false, false, false, false, false] rfl rfl (by kernel_rfl) (fun _ _ _ h => h) (Or.inl ⟨by rfl, ?_⟩) ?_ ?_
  rotate_left
  · intro w'
    go_simp
    with_reducible rfl
  rotate_left
  · simp only [Act.put, List.setIfInBounds_toArray, List.set_cons_zero, List.set_cons_succ, i64_w, i32_w]
    rfl
  refine pure_ (i := 4) (N := some 17) (v := ?_) (a' := ?_) #[true, true, false, false, true, false, false, false, false, false, false, false, false, false, false, false, false, false, false] rfl rfl (by kernel_rfl) (fun _ _ _ h => h) (Or.inl ⟨by rfl, ?_⟩) ?_ ?_
  rotate_left
  · intro w'
    go_simp
    with_reducible rfl
  rotate_left
  · simp only [Act.put, List.setIfInBounds_toArray, List.set_cons_zero, List.set_cons_succ, i64_w, i32_w]
    rfl
  refine pure_ (i := 5) (N := some 18) (v := ?_) (a' := ?_) #[true, true, false, false, true, true, false, false, false, false, false, false, false, false, false, false, false, false, false] rfl rfl (by kernel_rfl) (fun _ _ _ h => h) (Or.inl ⟨by rfl, ?_⟩) ?_ ?_
  rotate_left
  · intro w'
    go_simp
    with_reducible rfl
  rotate_left
  · simp only [Act.put, List.setIfInBounds_toArray, List.set_cons_zero, List.set_cons_succ, i64_w, i32_w]
    rfl
  refine pure_ (i := 8) (N := some 21) (v := ?_) (a' := ?_) #[true, true, false, false, true, true, false, false, true, false, false, false, false, false, false, false, false, false, false] rfl rfl (by kernel_rfl) (fun _ _ _ h => h) (Or.inl ⟨by rfl, ?_⟩) ?_ ?_
  rotate_left
  · intro w'
    go_simp
    with_reducible rfl
  rotate_left
  · simp only [Act.put, List.setIfInBounds_toArray, List.set_cons_zero, List.set_cons_succ, i64_w, i32_w]
    rfl
  refine pure_ (i := 9) (N := some 22) (v := ?_) (a' := ?_) #[true, true, false, false, true, true, false, false, true, true, false, false, false, false, false, false, false, false, false] rfl rfl (by kernel_rfl) (fun _ _ _ h => h) (Or.inl ⟨by rfl, ?_⟩) ?_ ?_
  rotate_left
  · intro w'
    go_simp
    with_reducible rfl
  rotate_left
  · simp only [Act.put, List.setIfInBounds_toArray, List.set_cons_zero, List.set_cons_succ, i64_w, i32_w]
    rfl
  refine pure_ (i := 12) (N := some 25) (v := ?_) (a' := ?_) #[true, true, false, false, true, true, false, false, true, true, false, false, true, false, false, false, false, false, false] rfl rfl (by kernel_rfl) (fun _ _ _ h => h) (Or.inl ⟨by rfl, ?_⟩) ?_ ?_
  rotate_left
  · intro w'
    go_simp
    with_reducible rfl
  rotate_left
  · simp only [Act.put, List.setIfInBounds_toArray, List.set_cons_zero, List.set_cons_succ, i64_w, i32_w]
    rfl
  refine pure_ (i := 14) (N := some 27) (v := ?_) (a' := ?_) #[true, true, false, false, true, true, false, false, true, true, false, false, true, false, true, false, false, false, false] rfl rfl (by kernel_rfl) (fun _ _ _ h => h) (Or.inl ⟨by rfl, ?_⟩) ?_ ?_
  rotate_left
  · intro w'
    go_simp
    with_reducible rfl
  rotate_left
  · simp only [Act.put, List.setIfInBounds_toArray, List.set_cons_zero, List.set_cons_succ, i64_w, i32_w]
    rfl
  refine take_ (i := 2) (N := some 15) (v := ?_) (a' := ?_) #[true, true, true, false, true, true, false, false, true, true, false, false, true, false, true, false, false, false, false] rfl rfl (by kernel_rfl) (fun _ _ _ h => h) (Or.inl ⟨by rfl, ?_⟩) hHeld ?_ ?_
  rotate_left
  · rintro w' ⟨s0, s1, s2, s3, s4, s5⟩
    go_simp
    with_reducible rfl
  rotate_left
  · simp only [Act.put, List.setIfInBounds_toArray, List.set_cons_zero, List.set_cons_succ, i64_w, i32_w]
    rfl
  refine pure_ (i := 3) (N := some 16) (v := ?_) (a' := ?_) #[true, true, true, true, true, true, false, false, true, true, false, false, true, false, true, false, false, false, false] rfl rfl (by kernel_rfl) (fun _ _ _ h => h) (Or.inl ⟨by rfl, ?_⟩) ?_ ?_
  rotate_left
  · intro w'
    go_simp
    with_reducible rfl
  rotate_left
  · simp only [Act.put, List.setIfInBounds_toArray, List.set_cons_zero, List.set_cons_succ, i64_w, i32_w]
    rfl
  refine take_ (i := 6) (N := some 19) (v := ?_) (a' := ?_) #[true, true, true, true, true, true, true, false, true, true, false, false, true, false, true, false, false, false, false] rfl rfl (by kernel_rfl) (fun _ _ _ h => h) (Or.inl ⟨by rfl, ?_⟩) hHeld ?_ ?_
  rotate_left
  · rintro w' ⟨s0, s1, s2, s3, s4, s5⟩
    go_simp
    with_reducible rfl
  rotate_left
  · simp only [Act.put, List.setIfInBounds_toArray, List.set_cons_zero, List.set_cons_succ, i64_w, i32_w]
    rfl
  refine pure_ (i := 7) (N := some 20) (v := ?_) (a' := ?_) #[true, true, true, true, true, true, true, true, true, true, false, false, true, false, true, false, false, false, false] rfl rfl (by kernel_rfl) (fun _ _ _ h => h) (Or.inl ⟨by rfl, ?_⟩) ?_ ?_
  rotate_left
  · intro w'
    go_simp
    with_reducible rfl
  rotate_left
  · simp only [Act.put, List.setIfInBounds_toArray, List.set_cons_zero, List.set_cons_succ, i64_w, i32_w]
    rfl
  refine take_ (i := 10) (N := some 23) (v := ?_) (a' := ?_) #[true, true, true, true, true, true, true, true, true, true, true, false, true, false, true, false, false, false, false] rfl rfl (by kernel_rfl) (fun _ _ _ h => h) (Or.inl ⟨by rfl, ?_⟩) hHeld ?_ ?_
  rotate_left
  · rintro w' ⟨s0, s1, s2, s3, s4, s5⟩
    go_simp
    with_reducible rfl
  rotate_left
  · simp only [Act.put, List.setIfInBounds_toArray, List.set_cons_zero, List.set_cons_succ, i64_w, i32_w]
    rfl
  refine pure_ (i := 11) (N := some 24) (v := ?_) (a' := ?_) #[true, true, true, true, true, true, true, true, true, true, true, true, true, false, true, false, false, false, false] rfl rfl (by kernel_rfl) (fun _ _ _ h => h) (Or.inl ⟨by rfl, ?_⟩) ?_ ?_
  rotate_left
  · intro w'
    go_simp
    with_reducible rfl
  rotate_left
  · simp only [Act.put, List.setIfInBounds_toArray, List.set_cons_zero, List.set_cons_succ, i64_w, i32_w]
    rfl
  refine join_ (σ := Nat) 1 #[true, true, true, true, true, true, true, true, true, true, true, true, true, true, true, true, true, true, false] (fun s_ => [(26, .int .i64 1), (28, .int .i64 10), (29, .agg #[.int .i64 2, .int .i64 9, .int .i64 0, .int .i64 1, .int .i64 10, .int .i64 0, .int .i64 0, .int .i64 0, .int .i64 0, .bool false, .int .i64 0, .slice none 0 0, .slice none 0 0]), (5, .pointer (some ⟨s_, 0, none⟩))]) (fun s_ w' => (w'.cell? ad = some (.int .u8 2) ∧ w'.cell? (ad.add 0) = some (.int .u8 2) ∧ w'.cell? (ad.add 1) = some (.int .u8 9) ∧ w'.cell? ⟨ad.block, ad.off + 1, none⟩ = some (.int .u8 9) ∧ w'.cell? (ad.add 12) = some (.int .u8 0) ∧ w'.cell? ⟨ad.block, ad.off + 12, none⟩ = some (.int .u8 0)) ∧ Below W.heap.size W w' ∧ Blk w' tr 58 #[.int .i64 0, .int .i64 0, .int .i64 0, .int .i64 0, .int .i64 0, .int .i64 0, .int .i64 0, .int .i64 0, .int .i64 0, .bool false, .int .i64 0, .slice none 0 0, .slice none 0 0] ∧ Blk w' s_ 58 #[.int .i64 0, .int .i64 0, .int .i64 0, .int .i64 0, .int .i64 0, .int .i64 0, .int .i64 0, .int .i64 0, .int .i64 0, .bool false, .int .i64 0, .slice none 0 0, .slice none 0 0] ∧ tr < s_) ?_ ?_
  rotate_left
  · intro hCont
    refine two_ (i := 13) (j := 17) (Ni := some 26) (Nj := some 5) #[true, true, true, true, true, true, true, true, true, true, true, true, true, true, true, false, false, false, false] #[true, true, true, true, true, true, true, true, true, true, true, true, true, false, true, false, false, true, false] rfl rfl rfl rfl (by kernel_rfl) (by decide) (by decide) (fun K hK => ?_) (fun K hK => ?_)
    · skip
      refine goes_ Try.func62 (by kernel_rfl) rfl #[.slice (some ad) 24 c, .int .i64 4, .int .i64 4] (by rfl) rfl rfl (by simp only [List.map_toArray, List.map_cons, List.map_nil]; rfl) ?_
      refine (get_known getv4 (Kd.C_below HC.out HB.out) HCC.out).mono ?_
      rintro e_ wE130 ⟨rfl, hb_⟩
      refine ⟨_, rfl, ?_⟩
      have n0_ := Aside0.mk (below_step HB.out hb_)
      have n1_ := Aside0.mk (HT.out.below hb_)
      clear HB HT hHeld hb_
      have HB := n0_
      have HT := n1_
      clear n0_ n1_
      refine hK.out _ _ ⟨(by have h_ := HBY.out 0 _ (by decide) HB.out; rw [Addr.add_zero'] at h_; exact h_), HBY.out 0 _ (by decide) HB.out, HBY.out 1 _ (by decide) HB.out, (by have h_ := HBY.out 1 _ (by decide) HB.out; rw [← show ad.add 1 = ⟨ad.block, ad.off + 1, none⟩ from by simp [Addr.add]]; exact h_), HBY.out 12 _ (by decide) HB.out, (by have h_ := HBY.out 12 _ (by decide) HB.out; rw [← show ad.add 12 = ⟨ad.block, ad.off + 12, none⟩ from by simp [Addr.add]]; exact h_)⟩ (fun hHeld => ?_)
      clear hK K
      refine norm_ (a' := ?_) ?_ ?_
      rotate_left
      · show Act.put _ (some 26) _ = _
        simp only [Act.put, List.setIfInBounds_toArray, List.set_cons_zero, List.set_cons_succ, i64_w, i32_w]
        rfl
      refine two_ (i := 15) (j := 17) (Ni := some 28) (Nj := some 5) #[true, true, true, true, true, true, true, true, true, true, true, true, true, true, true, true, false, false, false] #[true, true, true, true, true, true, true, true, true, true, true, true, true, true, true, false, false, true, false] rfl rfl rfl rfl (by kernel_rfl) (by decide) (by decide) (fun K hK => ?_) (fun K hK => ?_)
      · skip
        refine goes_ Try.func62 (by kernel_rfl) rfl #[.slice (some ad) 24 c, .int .i64 8, .int .i64 4] (by rfl) rfl rfl (by simp only [List.map_toArray, List.map_cons, List.map_nil]; rfl) ?_
        refine (get_known getv8 (Kd.C_below HC.out HB.out) HCC.out).mono ?_
        rintro e_ wE151 ⟨rfl, hb_⟩
        refine ⟨_, rfl, ?_⟩
        have n0_ := Aside0.mk (below_step HB.out hb_)
        have n1_ := Aside0.mk (HT.out.below hb_)
        clear HB HT hHeld hb_
        have HB := n0_
        have HT := n1_
        clear n0_ n1_
        refine hK.out _ _ ⟨(by have h_ := HBY.out 0 _ (by decide) HB.out; rw [Addr.add_zero'] at h_; exact h_), HBY.out 0 _ (by decide) HB.out, HBY.out 1 _ (by decide) HB.out, (by have h_ := HBY.out 1 _ (by decide) HB.out; rw [← show ad.add 1 = ⟨ad.block, ad.off + 1, none⟩ from by simp [Addr.add]]; exact h_), HBY.out 12 _ (by decide) HB.out, (by have h_ := HBY.out 12 _ (by decide) HB.out; rw [← show ad.add 12 = ⟨ad.block, ad.off + 12, none⟩ from by simp [Addr.add]]; exact h_)⟩ (fun hHeld => ?_)
        clear hK K
        refine norm_ (a' := ?_) ?_ ?_
        rotate_left
        · show Act.put _ (some 28) _ = _
          simp only [Act.put, List.setIfInBounds_toArray, List.set_cons_zero, List.set_cons_succ, i64_w, i32_w]
          rfl
        refine pure_ (i := 16) (N := some 29) (v := ?_) (a' := ?_) #[true, true, true, true, true, true, true, true, true, true, true, true, true, true, true, true, true, false, false] rfl rfl (by kernel_rfl) (fun _ _ _ h => h) (Or.inl ⟨by rfl, ?_⟩) ?_ ?_
        rotate_left
        · intro w'
          go_simp
          with_reducible rfl
        rotate_left
        · simp only [Act.put, List.setIfInBounds_toArray, List.set_cons_zero, List.set_cons_succ, i64_w, i32_w]
          rfl
        refine one_ (i := 17) (N := some 5) #[true, true, true, true, true, true, true, true, true, true, true, true, true, true, true, true, true, true, false] rfl rfl (by kernel_rfl) (by decide) (fun K hK => ?_)
        refine box_step (by rfl) (N := 5) rfl (run_pk _ _ _ rfl) ?_
        intro g hg wA2 hb_ hB_
        have HLT : Aside0 (tr < g) := ⟨by rw [hg]; exact HT.out.lt⟩
        have HP : Aside0 (Blk wA2 g 58 #[.int .i64 0, .int .i64 0, .int .i64 0, .int .i64 0, .int .i64 0, .int .i64 0, .int .i64 0, .int .i64 0, .int .i64 0, .bool false, .int .i64 0, .slice none 0 0, .slice none 0 0]) := ⟨hb_⟩
        have n0_ := Aside0.mk (below_step HB.out hB_)
        have n1_ := Aside0.mk (HT.out.below hB_)
        clear HB HT hHeld hb_ hB_ hg
        have HB := n0_
        have HT := n1_
        clear n0_ n1_
        refine hK.out _ _ ⟨(by have h_ := HBY.out 0 _ (by decide) HB.out; rw [Addr.add_zero'] at h_; exact h_), HBY.out 0 _ (by decide) HB.out, HBY.out 1 _ (by decide) HB.out, (by have h_ := HBY.out 1 _ (by decide) HB.out; rw [← show ad.add 1 = ⟨ad.block, ad.off + 1, none⟩ from by simp [Addr.add]]; exact h_), HBY.out 12 _ (by decide) HB.out, (by have h_ := HBY.out 12 _ (by decide) HB.out; rw [← show ad.add 12 = ⟨ad.block, ad.off + 12, none⟩ from by simp [Addr.add]]; exact h_)⟩ (fun hHeld => ?_)
        clear hK K
        refine norm_ (a' := ?_) ?_ ?_
        rotate_left
        · show Act.put _ (some 5) _ = _
          simp only [Act.put, List.setIfInBounds_toArray, List.set_cons_zero, List.set_cons_succ, i64_w, i32_w]
          rfl
        exact norm_ (by simp only [putAll, Act.put, List.setIfInBounds_toArray, List.set_cons_zero, List.set_cons_succ]) (hCont g _ ⟨hHeld, HB.out, HT.out, HP.out, HLT.out⟩)
      · skip
        refine box_step (by rfl) (N := 5) rfl (run_pk _ _ _ rfl) ?_
        intro g hg wA1 hb_ hB_
        have HLT : Aside0 (tr < g) := ⟨by rw [hg]; exact HT.out.lt⟩
        have HP : Aside0 (Blk wA1 g 58 #[.int .i64 0, .int .i64 0, .int .i64 0, .int .i64 0, .int .i64 0, .int .i64 0, .int .i64 0, .int .i64 0, .int .i64 0, .bool false, .int .i64 0, .slice none 0 0, .slice none 0 0]) := ⟨hb_⟩
        have n0_ := Aside0.mk (below_step HB.out hB_)
        have n1_ := Aside0.mk (HT.out.below hB_)
        clear HB HT hHeld hb_ hB_ hg
        have HB := n0_
        have HT := n1_
        clear n0_ n1_
        refine hK.out _ _ ⟨(by have h_ := HBY.out 0 _ (by decide) HB.out; rw [Addr.add_zero'] at h_; exact h_), HBY.out 0 _ (by decide) HB.out, HBY.out 1 _ (by decide) HB.out, (by have h_ := HBY.out 1 _ (by decide) HB.out; rw [← show ad.add 1 = ⟨ad.block, ad.off + 1, none⟩ from by simp [Addr.add]]; exact h_), HBY.out 12 _ (by decide) HB.out, (by have h_ := HBY.out 12 _ (by decide) HB.out; rw [← show ad.add 12 = ⟨ad.block, ad.off + 12, none⟩ from by simp [Addr.add]]; exact h_)⟩ (fun hHeld => ?_)
        clear hK K
        refine norm_ (a' := ?_) ?_ ?_
        rotate_left
        · show Act.put _ (some 5) _ = _
          simp only [Act.put, List.setIfInBounds_toArray, List.set_cons_zero, List.set_cons_succ, i64_w, i32_w]
          rfl
        refine one_ (i := 15) (N := some 28) #[true, true, true, true, true, true, true, true, true, true, true, true, true, true, true, true, false, true, false] rfl rfl (by kernel_rfl) (by decide) (fun K hK => ?_)
        refine goes_ Try.func62 (by kernel_rfl) rfl #[.slice (some ad) 24 c, .int .i64 8, .int .i64 4] (by rfl) rfl rfl (by simp only [List.map_toArray, List.map_cons, List.map_nil]; rfl) ?_
        refine (get_known getv8 (Kd.C_below HC.out HB.out) HCC.out).mono ?_
        rintro e_ wE152 ⟨rfl, hb_⟩
        refine ⟨_, rfl, ?_⟩
        have n0_ := Aside0.mk (below_step HB.out hb_)
        have n1_ := Aside0.mk (HT.out.below hb_)
        have m_ := Aside0.mk (HP.out.below hb_)
        clear HP
        have HP := m_
        clear m_
        clear HB HT hHeld hb_
        have HB := n0_
        have HT := n1_
        clear n0_ n1_
        refine hK.out _ _ ⟨(by have h_ := HBY.out 0 _ (by decide) HB.out; rw [Addr.add_zero'] at h_; exact h_), HBY.out 0 _ (by decide) HB.out, HBY.out 1 _ (by decide) HB.out, (by have h_ := HBY.out 1 _ (by decide) HB.out; rw [← show ad.add 1 = ⟨ad.block, ad.off + 1, none⟩ from by simp [Addr.add]]; exact h_), HBY.out 12 _ (by decide) HB.out, (by have h_ := HBY.out 12 _ (by decide) HB.out; rw [← show ad.add 12 = ⟨ad.block, ad.off + 12, none⟩ from by simp [Addr.add]]; exact h_)⟩ (fun hHeld => ?_)
        clear hK K
        refine norm_ (a' := ?_) ?_ ?_
        rotate_left
        · show Act.put _ (some 28) _ = _
          simp only [Act.put, List.setIfInBounds_toArray, List.set_cons_zero, List.set_cons_succ, i64_w, i32_w]
          rfl
        refine pure_ (i := 16) (N := some 29) (v := ?_) (a' := ?_) #[true, true, true, true, true, true, true, true, true, true, true, true, true, true, true, true, true, true, false] rfl rfl (by kernel_rfl) (fun _ _ _ h => h) (Or.inl ⟨by rfl, ?_⟩) ?_ ?_
        rotate_left
        · intro w'
          go_simp
          with_reducible rfl
        rotate_left
        · simp only [Act.put, List.setIfInBounds_toArray, List.set_cons_zero, List.set_cons_succ, i64_w, i32_w]
          rfl
        exact norm_ (by simp only [putAll, Act.put, List.setIfInBounds_toArray, List.set_cons_zero, List.set_cons_succ]) (hCont g _ ⟨hHeld, HB.out, HT.out, HP.out, HLT.out⟩)
    · skip
      refine box_step (by rfl) (N := 5) rfl (run_pk _ _ _ rfl) ?_
      intro g hg wA0 hb_ hB_
      have HLT : Aside0 (tr < g) := ⟨by rw [hg]; exact HT.out.lt⟩
      have HP : Aside0 (Blk wA0 g 58 #[.int .i64 0, .int .i64 0, .int .i64 0, .int .i64 0, .int .i64 0, .int .i64 0, .int .i64 0, .int .i64 0, .int .i64 0, .bool false, .int .i64 0, .slice none 0 0, .slice none 0 0]) := ⟨hb_⟩
      have n0_ := Aside0.mk (below_step HB.out hB_)
      have n1_ := Aside0.mk (HT.out.below hB_)
      clear HB HT hHeld hb_ hB_ hg
      have HB := n0_
      have HT := n1_
      clear n0_ n1_
      refine hK.out _ _ ⟨(by have h_ := HBY.out 0 _ (by decide) HB.out; rw [Addr.add_zero'] at h_; exact h_), HBY.out 0 _ (by decide) HB.out, HBY.out 1 _ (by decide) HB.out, (by have h_ := HBY.out 1 _ (by decide) HB.out; rw [← show ad.add 1 = ⟨ad.block, ad.off + 1, none⟩ from by simp [Addr.add]]; exact h_), HBY.out 12 _ (by decide) HB.out, (by have h_ := HBY.out 12 _ (by decide) HB.out; rw [← show ad.add 12 = ⟨ad.block, ad.off + 12, none⟩ from by simp [Addr.add]]; exact h_)⟩ (fun hHeld => ?_)
      clear hK K
      refine norm_ (a' := ?_) ?_ ?_
      rotate_left
      · show Act.put _ (some 5) _ = _
        simp only [Act.put, List.setIfInBounds_toArray, List.set_cons_zero, List.set_cons_succ, i64_w, i32_w]
        rfl
      refine one_ (i := 13) (N := some 26) #[true, true, true, true, true, true, true, true, true, true, true, true, true, true, true, false, false, true, false] rfl rfl (by kernel_rfl) (by decide) (fun K hK => ?_)
      refine goes_ Try.func62 (by kernel_rfl) rfl #[.slice (some ad) 24 c, .int .i64 4, .int .i64 4] (by rfl) rfl rfl (by simp only [List.map_toArray, List.map_cons, List.map_nil]; rfl) ?_
      refine (get_known getv4 (Kd.C_below HC.out HB.out) HCC.out).mono ?_
      rintro e_ wE131 ⟨rfl, hb_⟩
      refine ⟨_, rfl, ?_⟩
      have n0_ := Aside0.mk (below_step HB.out hb_)
      have n1_ := Aside0.mk (HT.out.below hb_)
      have m_ := Aside0.mk (HP.out.below hb_)
      clear HP
      have HP := m_
      clear m_
      clear HB HT hHeld hb_
      have HB := n0_
      have HT := n1_
      clear n0_ n1_
      refine hK.out _ _ ⟨(by have h_ := HBY.out 0 _ (by decide) HB.out; rw [Addr.add_zero'] at h_; exact h_), HBY.out 0 _ (by decide) HB.out, HBY.out 1 _ (by decide) HB.out, (by have h_ := HBY.out 1 _ (by decide) HB.out; rw [← show ad.add 1 = ⟨ad.block, ad.off + 1, none⟩ from by simp [Addr.add]]; exact h_), HBY.out 12 _ (by decide) HB.out, (by have h_ := HBY.out 12 _ (by decide) HB.out; rw [← show ad.add 12 = ⟨ad.block, ad.off + 12, none⟩ from by simp [Addr.add]]; exact h_)⟩ (fun hHeld => ?_)
      clear hK K
      refine norm_ (a' := ?_) ?_ ?_
      rotate_left
      · show Act.put _ (some 26) _ = _
        simp only [Act.put, List.setIfInBounds_toArray, List.set_cons_zero, List.set_cons_succ, i64_w, i32_w]
        rfl
      refine one_ (i := 15) (N := some 28) #[true, true, true, true, true, true, true, true, true, true, true, true, true, true, true, true, false, true, false] rfl rfl (by kernel_rfl) (by decide) (fun K hK => ?_)
      refine goes_ Try.func62 (by kernel_rfl) rfl #[.slice (some ad) 24 c, .int .i64 8, .int .i64 4] (by rfl) rfl rfl (by simp only [List.map_toArray, List.map_cons, List.map_nil]; rfl) ?_
      refine (get_known getv8 (Kd.C_below HC.out HB.out) HCC.out).mono ?_
      rintro e_ wE152 ⟨rfl, hb_⟩
      refine ⟨_, rfl, ?_⟩
      have n0_ := Aside0.mk (below_step HB.out hb_)
      have n1_ := Aside0.mk (HT.out.below hb_)
      have m_ := Aside0.mk (HP.out.below hb_)
      clear HP
      have HP := m_
      clear m_
      clear HB HT hHeld hb_
      have HB := n0_
      have HT := n1_
      clear n0_ n1_
      refine hK.out _ _ ⟨(by have h_ := HBY.out 0 _ (by decide) HB.out; rw [Addr.add_zero'] at h_; exact h_), HBY.out 0 _ (by decide) HB.out, HBY.out 1 _ (by decide) HB.out, (by have h_ := HBY.out 1 _ (by decide) HB.out; rw [← show ad.add 1 = ⟨ad.block, ad.off + 1, none⟩ from by simp [Addr.add]]; exact h_), HBY.out 12 _ (by decide) HB.out, (by have h_ := HBY.out 12 _ (by decide) HB.out; rw [← show ad.add 12 = ⟨ad.block, ad.off + 12, none⟩ from by simp [Addr.add]]; exact h_)⟩ (fun hHeld => ?_)
      clear hK K
      refine norm_ (a' := ?_) ?_ ?_
      rotate_left
      · show Act.put _ (some 28) _ = _
        simp only [Act.put, List.setIfInBounds_toArray, List.set_cons_zero, List.set_cons_succ, i64_w, i32_w]
        rfl
      refine pure_ (i := 16) (N := some 29) (v := ?_) (a' := ?_) #[true, true, true, true, true, true, true, true, true, true, true, true, true, true, true, true, true, true, false] rfl rfl (by kernel_rfl) (fun _ _ _ h => h) (Or.inl ⟨by rfl, ?_⟩) ?_ ?_
      rotate_left
      · intro w'
        go_simp
        with_reducible rfl
      rotate_left
      · simp only [Act.put, List.setIfInBounds_toArray, List.set_cons_zero, List.set_cons_succ, i64_w, i32_w]
        rfl
      exact norm_ (by simp only [putAll, Act.put, List.setIfInBounds_toArray, List.set_cons_zero, List.set_cons_succ]) (hCont g _ ⟨hHeld, HB.out, HT.out, HP.out, HLT.out⟩)
  rintro g wD ⟨hHeld, h1_, h2_, h3_, h4_⟩
  clear HB HT
  have HB := Aside0.mk h1_
  have HT := Aside0.mk h2_
  have HP := Aside0.mk h3_
  have HLT := Aside0.mk h4_
  clear h1_ h2_ h3_ h4_
  refine norm_ (a' := ?_) ?_ ?_
  rotate_left
  · simp only [putAll, Act.put, List.setIfInBounds_toArray, List.set_cons_zero, List.set_cons_succ]
    rfl
  refine one_ (i := 18) (N := none) #[true, true, true, true, true, true, true, true, true, true, true, true, true, true, true, true, true, true, true] rfl rfl (by kernel_rfl) (by decide) (fun K hK => ?_)
  refine skip_ (w1 := wD.setCells g 0 (#[.int .i64 2, .int .i64 9, .int .i64 0, .int .i64 1, .int .i64 10, .int .i64 0, .int .i64 0, .int .i64 0, .int .i64 0, .bool false, .int .i64 0, .slice none 0 0, .slice none 0 0] : Array Value).toList) (by rfl) rfl (run_stpk _ _ _ g #[.int .i64 0, .int .i64 0, .int .i64 0, .int .i64 0, .int .i64 0, .int .i64 0, .int .i64 0, .int .i64 0, .int .i64 0, .bool false, .int .i64 0, .slice none 0 0, .slice none 0 0] #[.int .i64 2, .int .i64 9, .int .i64 0, .int .i64 1, .int .i64 10, .int .i64 0, .int .i64 0, .int .i64 0, .int .i64 0, .bool false, .int .i64 0, .slice none 0 0, .slice none 0 0] (.tmp 5) (.tmp 29) rfl rfl rfl HP.out rfl rfl (by simp [Value.oneCell'])) ?_
  have hg_ := setCells_grown (#[.int .i64 2, .int .i64 9, .int .i64 0, .int .i64 1, .int .i64 10, .int .i64 0, .int .i64 0, .int .i64 0, .int .i64 0, .bool false, .int .i64 0, .slice none 0 0, .slice none 0 0] : Array Value).toList 0 wD g
  have n0_ := Aside0.mk (HB.out.grown hg_ (below_size HB.out) (fun k hk => by injection hk with hk; have h1_ := HLT.out; have h2_ := HTE.out; omega))
  have n1_ := Aside0.mk (HT.out.grown hg_ (by intro e; injection e with e; have h1_ := HLT.out; omega))
  have m_ : Aside0 (Blk (wD.setCells g 0 (#[.int .i64 2, .int .i64 9, .int .i64 0, .int .i64 1, .int .i64 10, .int .i64 0, .int .i64 0, .int .i64 0, .int .i64 0, .bool false, .int .i64 0, .slice none 0 0, .slice none 0 0] : Array Value).toList) g 58 #[.int .i64 2, .int .i64 9, .int .i64 0, .int .i64 1, .int .i64 10, .int .i64 0, .int .i64 0, .int .i64 0, .int .i64 0, .bool false, .int .i64 0, .slice none 0 0, .slice none 0 0]) := ⟨st_blk HP.out (by kernel_rfl)⟩
  clear HB HT HP hHeld hg_
  generalize wD.setCells g 0 (#[.int .i64 2, .int .i64 9, .int .i64 0, .int .i64 1, .int .i64 10, .int .i64 0, .int .i64 0, .int .i64 0, .int .i64 0, .bool false, .int .i64 0, .slice none 0 0, .slice none 0 0] : Array Value).toList = wE at n0_ n1_ m_ ⊢
  have HB := n0_
  have HT := n1_
  have HP := m_
  clear n0_ n1_ m_
  refine hK.out _ _ ⟨(by have h_ := HBY.out 0 _ (by decide) HB.out; rw [Addr.add_zero'] at h_; exact h_), HBY.out 0 _ (by decide) HB.out, HBY.out 1 _ (by decide) HB.out, (by have h_ := HBY.out 1 _ (by decide) HB.out; rw [← show ad.add 1 = ⟨ad.block, ad.off + 1, none⟩ from by simp [Addr.add]]; exact h_), HBY.out 12 _ (by decide) HB.out, (by have h_ := HBY.out 12 _ (by decide) HB.out; rw [← show ad.add 12 = ⟨ad.block, ad.off + 12, none⟩ from by simp [Addr.add]]; exact h_)⟩ (fun hHeld => ?_)
  clear hK K
  refine done_ (by kernel_rfl) ?_
  clear hHeld
  have c0 : wE.cell? ⟨g, 0, none⟩ = some (.int .i64 2) := (blk_cell HP.out 0).trans rfl
  have f0 := blk_frozen HP.out 0
  have c1 : wE.cell? ⟨g, 1, none⟩ = some (.int .i64 9) := (blk_cell HP.out 1).trans rfl
  have f1 := blk_frozen HP.out 1
  have c2 : wE.cell? ⟨g, 2, none⟩ = some (.int .i64 0) := (blk_cell HP.out 2).trans rfl
  have f2 := blk_frozen HP.out 2
  have c3 : wE.cell? ⟨g, 3, none⟩ = some (.int .i64 1) := (blk_cell HP.out 3).trans rfl
  have f3 := blk_frozen HP.out 3
  have c4 : wE.cell? ⟨g, 4, none⟩ = some (.int .i64 10) := (blk_cell HP.out 4).trans rfl
  have f4 := blk_frozen HP.out 4
  have c5 : wE.cell? ⟨g, 5, none⟩ = some (.int .i64 0) := (blk_cell HP.out 5).trans rfl
  have f5 := blk_frozen HP.out 5
  have c6 : wE.cell? ⟨g, 6, none⟩ = some (.int .i64 0) := (blk_cell HP.out 6).trans rfl
  have f6 := blk_frozen HP.out 6
  have c7 : wE.cell? ⟨g, 7, none⟩ = some (.int .i64 0) := (blk_cell HP.out 7).trans rfl
  have f7 := blk_frozen HP.out 7
  have c8 : wE.cell? ⟨g, 8, none⟩ = some (.int .i64 0) := (blk_cell HP.out 8).trans rfl
  have f8 := blk_frozen HP.out 8
  have c9 : wE.cell? ⟨g, 9, none⟩ = some (.bool false) := (blk_cell HP.out 9).trans rfl
  have f9 := blk_frozen HP.out 9
  have c10 : wE.cell? ⟨g, 10, none⟩ = some (.int .i64 0) := (blk_cell HP.out 10).trans rfl
  have f10 := blk_frozen HP.out 10
  have c11 : wE.cell? ⟨g, 11, none⟩ = some (.slice none 0 0) := (blk_cell HP.out 11).trans rfl
  have f11 := blk_frozen HP.out 11
  have c12 : wE.cell? ⟨g, 12, none⟩ = some (.slice none 0 0) := (blk_cell HP.out 12).trans rfl
  have f12 := blk_frozen HP.out 12
  go_upto_region 19 with (first
    | (go_at_call 62; (with_reducible refine (get_known getv16 (Kd.C_below HC.out HB.out) HCC.out).mono ?_); rintro e_ wF ⟨rfl, hb_⟩; clear c0 f0 c1 f1 c2 f2 c3 f3 c4 f4 c5 f5 c6 f6 c7 f7 c8 f8 c9 f9 c10 f10 c11 f11 c12 f12; have n0_ := Aside0.mk (below_step HB.out hb_); have n1_ := Aside0.mk (HT.out.below hb_); have n2_ := Aside0.mk (HP.out.below hb_); clear HB HT HP; have HB := n0_; have HT := n1_; have HP := n2_; clear n0_ n1_ n2_; clear hb_; have c0 : wF.cell? ⟨g, 0, none⟩ = some (.int .i64 2) := (blk_cell HP.out 0).trans rfl; have f0 := blk_frozen HP.out 0; have c1 : wF.cell? ⟨g, 1, none⟩ = some (.int .i64 9) := (blk_cell HP.out 1).trans rfl; have f1 := blk_frozen HP.out 1; have c2 : wF.cell? ⟨g, 2, none⟩ = some (.int .i64 0) := (blk_cell HP.out 2).trans rfl; have f2 := blk_frozen HP.out 2; have c3 : wF.cell? ⟨g, 3, none⟩ = some (.int .i64 1) := (blk_cell HP.out 3).trans rfl; have f3 := blk_frozen HP.out 3; have c4 : wF.cell? ⟨g, 4, none⟩ = some (.int .i64 10) := (blk_cell HP.out 4).trans rfl; have f4 := blk_frozen HP.out 4; have c5 : wF.cell? ⟨g, 5, none⟩ = some (.int .i64 0) := (blk_cell HP.out 5).trans rfl; have f5 := blk_frozen HP.out 5; have c6 : wF.cell? ⟨g, 6, none⟩ = some (.int .i64 0) := (blk_cell HP.out 6).trans rfl; have f6 := blk_frozen HP.out 6; have c7 : wF.cell? ⟨g, 7, none⟩ = some (.int .i64 0) := (blk_cell HP.out 7).trans rfl; have f7 := blk_frozen HP.out 7; have c8 : wF.cell? ⟨g, 8, none⟩ = some (.int .i64 0) := (blk_cell HP.out 8).trans rfl; have f8 := blk_frozen HP.out 8; have c9 : wF.cell? ⟨g, 9, none⟩ = some (.bool false) := (blk_cell HP.out 9).trans rfl; have f9 := blk_frozen HP.out 9; have c10 : wF.cell? ⟨g, 10, none⟩ = some (.int .i64 0) := (blk_cell HP.out 10).trans rfl; have f10 := blk_frozen HP.out 10; have c11 : wF.cell? ⟨g, 11, none⟩ = some (.slice none 0 0) := (blk_cell HP.out 11).trans rfl; have f11 := blk_frozen HP.out 11; have c12 : wF.cell? ⟨g, 12, none⟩ = some (.slice none 0 0) := (blk_cell HP.out 12).trans rfl; have f12 := blk_frozen HP.out 12)
    | (go_at_call 62; (with_reducible refine (get_known getv18 (Kd.C_below HC.out HB.out) HCC.out).mono ?_); rintro e_ wG ⟨rfl, hb_⟩; clear c0 f0 c1 f1 c2 f2 c3 f3 c4 f4 c5 f5 c6 f6 c7 f7 c8 f8 c9 f9 c10 f10 c11 f11 c12 f12; have n0_ := Aside0.mk (below_step HB.out hb_); have n1_ := Aside0.mk (HT.out.below hb_); have n2_ := Aside0.mk (HP.out.below hb_); clear HB HT HP; have HB := n0_; have HT := n1_; have HP := n2_; clear n0_ n1_ n2_; clear hb_; have c0 : wG.cell? ⟨g, 0, none⟩ = some (.int .i64 2) := (blk_cell HP.out 0).trans rfl; have f0 := blk_frozen HP.out 0; have c1 : wG.cell? ⟨g, 1, none⟩ = some (.int .i64 9) := (blk_cell HP.out 1).trans rfl; have f1 := blk_frozen HP.out 1; have c2 : wG.cell? ⟨g, 2, none⟩ = some (.int .i64 0) := (blk_cell HP.out 2).trans rfl; have f2 := blk_frozen HP.out 2; have c3 : wG.cell? ⟨g, 3, none⟩ = some (.int .i64 1) := (blk_cell HP.out 3).trans rfl; have f3 := blk_frozen HP.out 3; have c4 : wG.cell? ⟨g, 4, none⟩ = some (.int .i64 10) := (blk_cell HP.out 4).trans rfl; have f4 := blk_frozen HP.out 4; have c5 : wG.cell? ⟨g, 5, none⟩ = some (.int .i64 0) := (blk_cell HP.out 5).trans rfl; have f5 := blk_frozen HP.out 5; have c6 : wG.cell? ⟨g, 6, none⟩ = some (.int .i64 0) := (blk_cell HP.out 6).trans rfl; have f6 := blk_frozen HP.out 6; have c7 : wG.cell? ⟨g, 7, none⟩ = some (.int .i64 0) := (blk_cell HP.out 7).trans rfl; have f7 := blk_frozen HP.out 7; have c8 : wG.cell? ⟨g, 8, none⟩ = some (.int .i64 0) := (blk_cell HP.out 8).trans rfl; have f8 := blk_frozen HP.out 8; have c9 : wG.cell? ⟨g, 9, none⟩ = some (.bool false) := (blk_cell HP.out 9).trans rfl; have f9 := blk_frozen HP.out 9; have c10 : wG.cell? ⟨g, 10, none⟩ = some (.int .i64 0) := (blk_cell HP.out 10).trans rfl; have f10 := blk_frozen HP.out 10; have c11 : wG.cell? ⟨g, 11, none⟩ = some (.slice none 0 0) := (blk_cell HP.out 11).trans rfl; have f11 := blk_frozen HP.out 11; have c12 : wG.cell? ⟨g, 12, none⟩ = some (.slice none 0 0) := (blk_cell HP.out 12).trans rfl; have f12 := blk_frozen HP.out 12))
  clear c0 f0 c1 f1 c2 f2 c3 f3 c4 f4 c5 f5 c6 f6 c7 f7 c8 f8 c9 f9 c10 f10 c11 f11 c12 f12
  have m_ : Aside0 (Blk ((wG.setCell ⟨g, 5, none⟩ (.int .i64 0)).setCell ⟨g, 6, none⟩ (.int .i64 80)) g 58 #[.int .i64 2, .int .i64 9, .int .i64 0, .int .i64 1, .int .i64 10, .int .i64 0, .int .i64 80, .int .i64 0, .int .i64 0, .bool false, .int .i64 0, .slice none 0 0, .slice none 0 0]) := ⟨blk_put (cs' := #[.int .i64 2, .int .i64 9, .int .i64 0, .int .i64 1, .int .i64 10, .int .i64 0, .int .i64 80, .int .i64 0, .int .i64 0, .bool false, .int .i64 0, .slice none 0 0, .slice none 0 0]) (blk_put (cs' := #[.int .i64 2, .int .i64 9, .int .i64 0, .int .i64 1, .int .i64 10, .int .i64 0, .int .i64 0, .int .i64 0, .int .i64 0, .bool false, .int .i64 0, .slice none 0 0, .slice none 0 0]) (HP.out) 5 _ rfl) 6 _ rfl⟩
  have hg_ : wG.grownBy ((wG.setCell ⟨g, 5, none⟩ (.int .i64 0)).setCell ⟨g, 6, none⟩ (.int .i64 80)) (some g) := grown_trans (grown_set _ g 5 _) (grown_set _ g 6 _)
  have n0_ := Aside0.mk (HB.out.grown hg_ (below_size HB.out) (fun k hk => by injection hk with hk; have h1_ := HLT.out; have h2_ := HTE.out; omega))
  have n1_ := Aside0.mk (HT.out.grown hg_ (by intro e; injection e with e; have h1_ := HLT.out; omega))
  clear HB HT HP hg_
  generalize ((wG.setCell ⟨g, 5, none⟩ (.int .i64 0)).setCell ⟨g, 6, none⟩ (.int .i64 80)) = wH at n0_ n1_ m_ ⊢
  have HB := n0_
  have HT := n1_
  have HP := m_
  clear n0_ n1_ m_
  have c0 : wH.cell? ⟨g, 0, none⟩ = some (.int .i64 2) := (blk_cell HP.out 0).trans rfl
  have f0 := blk_frozen HP.out 0
  have c1 : wH.cell? ⟨g, 1, none⟩ = some (.int .i64 9) := (blk_cell HP.out 1).trans rfl
  have f1 := blk_frozen HP.out 1
  have c2 : wH.cell? ⟨g, 2, none⟩ = some (.int .i64 0) := (blk_cell HP.out 2).trans rfl
  have f2 := blk_frozen HP.out 2
  have c3 : wH.cell? ⟨g, 3, none⟩ = some (.int .i64 1) := (blk_cell HP.out 3).trans rfl
  have f3 := blk_frozen HP.out 3
  have c4 : wH.cell? ⟨g, 4, none⟩ = some (.int .i64 10) := (blk_cell HP.out 4).trans rfl
  have f4 := blk_frozen HP.out 4
  have c5 : wH.cell? ⟨g, 5, none⟩ = some (.int .i64 0) := (blk_cell HP.out 5).trans rfl
  have f5 := blk_frozen HP.out 5
  have c6 : wH.cell? ⟨g, 6, none⟩ = some (.int .i64 80) := (blk_cell HP.out 6).trans rfl
  have f6 := blk_frozen HP.out 6
  have c7 : wH.cell? ⟨g, 7, none⟩ = some (.int .i64 0) := (blk_cell HP.out 7).trans rfl
  have f7 := blk_frozen HP.out 7
  have c8 : wH.cell? ⟨g, 8, none⟩ = some (.int .i64 0) := (blk_cell HP.out 8).trans rfl
  have f8 := blk_frozen HP.out 8
  have c9 : wH.cell? ⟨g, 9, none⟩ = some (.bool false) := (blk_cell HP.out 9).trans rfl
  have f9 := blk_frozen HP.out 9
  have c10 : wH.cell? ⟨g, 10, none⟩ = some (.int .i64 0) := (blk_cell HP.out 10).trans rfl
  have f10 := blk_frozen HP.out 10
  have c11 : wH.cell? ⟨g, 11, none⟩ = some (.slice none 0 0) := (blk_cell HP.out 11).trans rfl
  have f11 := blk_frozen HP.out 11
  have c12 : wH.cell? ⟨g, 12, none⟩ = some (.slice none 0 0) := (blk_cell HP.out 12).trans rfl
  have f12 := blk_frozen HP.out 12
  go_upto_region 20 with (first
    | (go_at_call 62; (with_reducible refine (get_known getv20 (Kd.C_below HC.out HB.out) HCC.out).mono ?_); rintro e_ wI ⟨rfl, hb_⟩; clear c0 f0 c1 f1 c2 f2 c3 f3 c4 f4 c5 f5 c6 f6 c7 f7 c8 f8 c9 f9 c10 f10 c11 f11 c12 f12; have n0_ := Aside0.mk (below_step HB.out hb_); have n1_ := Aside0.mk (HT.out.below hb_); have n2_ := Aside0.mk (HP.out.below hb_); clear HB HT HP; have HB := n0_; have HT := n1_; have HP := n2_; clear n0_ n1_ n2_; clear hb_; have c0 : wI.cell? ⟨g, 0, none⟩ = some (.int .i64 2) := (blk_cell HP.out 0).trans rfl; have f0 := blk_frozen HP.out 0; have c1 : wI.cell? ⟨g, 1, none⟩ = some (.int .i64 9) := (blk_cell HP.out 1).trans rfl; have f1 := blk_frozen HP.out 1; have c2 : wI.cell? ⟨g, 2, none⟩ = some (.int .i64 0) := (blk_cell HP.out 2).trans rfl; have f2 := blk_frozen HP.out 2; have c3 : wI.cell? ⟨g, 3, none⟩ = some (.int .i64 1) := (blk_cell HP.out 3).trans rfl; have f3 := blk_frozen HP.out 3; have c4 : wI.cell? ⟨g, 4, none⟩ = some (.int .i64 10) := (blk_cell HP.out 4).trans rfl; have f4 := blk_frozen HP.out 4; have c5 : wI.cell? ⟨g, 5, none⟩ = some (.int .i64 0) := (blk_cell HP.out 5).trans rfl; have f5 := blk_frozen HP.out 5; have c6 : wI.cell? ⟨g, 6, none⟩ = some (.int .i64 80) := (blk_cell HP.out 6).trans rfl; have f6 := blk_frozen HP.out 6; have c7 : wI.cell? ⟨g, 7, none⟩ = some (.int .i64 0) := (blk_cell HP.out 7).trans rfl; have f7 := blk_frozen HP.out 7; have c8 : wI.cell? ⟨g, 8, none⟩ = some (.int .i64 0) := (blk_cell HP.out 8).trans rfl; have f8 := blk_frozen HP.out 8; have c9 : wI.cell? ⟨g, 9, none⟩ = some (.bool false) := (blk_cell HP.out 9).trans rfl; have f9 := blk_frozen HP.out 9; have c10 : wI.cell? ⟨g, 10, none⟩ = some (.int .i64 0) := (blk_cell HP.out 10).trans rfl; have f10 := blk_frozen HP.out 10; have c11 : wI.cell? ⟨g, 11, none⟩ = some (.slice none 0 0) := (blk_cell HP.out 11).trans rfl; have f11 := blk_frozen HP.out 11; have c12 : wI.cell? ⟨g, 12, none⟩ = some (.slice none 0 0) := (blk_cell HP.out 12).trans rfl; have f12 := blk_frozen HP.out 12)
    | (go_at_call 62; (with_reducible refine (get_known getv22 (Kd.C_below HC.out HB.out) HCC.out).mono ?_); rintro e_ wJ ⟨rfl, hb_⟩; clear c0 f0 c1 f1 c2 f2 c3 f3 c4 f4 c5 f5 c6 f6 c7 f7 c8 f8 c9 f9 c10 f10 c11 f11 c12 f12; have n0_ := Aside0.mk (below_step HB.out hb_); have n1_ := Aside0.mk (HT.out.below hb_); have n2_ := Aside0.mk (HP.out.below hb_); clear HB HT HP; have HB := n0_; have HT := n1_; have HP := n2_; clear n0_ n1_ n2_; clear hb_; have c0 : wJ.cell? ⟨g, 0, none⟩ = some (.int .i64 2) := (blk_cell HP.out 0).trans rfl; have f0 := blk_frozen HP.out 0; have c1 : wJ.cell? ⟨g, 1, none⟩ = some (.int .i64 9) := (blk_cell HP.out 1).trans rfl; have f1 := blk_frozen HP.out 1; have c2 : wJ.cell? ⟨g, 2, none⟩ = some (.int .i64 0) := (blk_cell HP.out 2).trans rfl; have f2 := blk_frozen HP.out 2; have c3 : wJ.cell? ⟨g, 3, none⟩ = some (.int .i64 1) := (blk_cell HP.out 3).trans rfl; have f3 := blk_frozen HP.out 3; have c4 : wJ.cell? ⟨g, 4, none⟩ = some (.int .i64 10) := (blk_cell HP.out 4).trans rfl; have f4 := blk_frozen HP.out 4; have c5 : wJ.cell? ⟨g, 5, none⟩ = some (.int .i64 0) := (blk_cell HP.out 5).trans rfl; have f5 := blk_frozen HP.out 5; have c6 : wJ.cell? ⟨g, 6, none⟩ = some (.int .i64 80) := (blk_cell HP.out 6).trans rfl; have f6 := blk_frozen HP.out 6; have c7 : wJ.cell? ⟨g, 7, none⟩ = some (.int .i64 0) := (blk_cell HP.out 7).trans rfl; have f7 := blk_frozen HP.out 7; have c8 : wJ.cell? ⟨g, 8, none⟩ = some (.int .i64 0) := (blk_cell HP.out 8).trans rfl; have f8 := blk_frozen HP.out 8; have c9 : wJ.cell? ⟨g, 9, none⟩ = some (.bool false) := (blk_cell HP.out 9).trans rfl; have f9 := blk_frozen HP.out 9; have c10 : wJ.cell? ⟨g, 10, none⟩ = some (.int .i64 0) := (blk_cell HP.out 10).trans rfl; have f10 := blk_frozen HP.out 10; have c11 : wJ.cell? ⟨g, 11, none⟩ = some (.slice none 0 0) := (blk_cell HP.out 11).trans rfl; have f11 := blk_frozen HP.out 11; have c12 : wJ.cell? ⟨g, 12, none⟩ = some (.slice none 0 0) := (blk_cell HP.out 12).trans rfl; have f12 := blk_frozen HP.out 12))
  clear c0 f0 c1 f1 c2 f2 c3 f3 c4 f4 c5 f5 c6 f6 c7 f7 c8 f8 c9 f9 c10 f10 c11 f11 c12 f12
  have m_ : Aside0 (Blk ((wJ.setCell ⟨g, 8, none⟩ (.int .i64 0)).setCell ⟨g, 9, none⟩ (.bool false)) g 58 #[.int .i64 2, .int .i64 9, .int .i64 0, .int .i64 1, .int .i64 10, .int .i64 0, .int .i64 80, .int .i64 0, .int .i64 0, .bool false, .int .i64 0, .slice none 0 0, .slice none 0 0]) := ⟨blk_put (cs' := #[.int .i64 2, .int .i64 9, .int .i64 0, .int .i64 1, .int .i64 10, .int .i64 0, .int .i64 80, .int .i64 0, .int .i64 0, .bool false, .int .i64 0, .slice none 0 0, .slice none 0 0]) (blk_put (cs' := #[.int .i64 2, .int .i64 9, .int .i64 0, .int .i64 1, .int .i64 10, .int .i64 0, .int .i64 80, .int .i64 0, .int .i64 0, .bool false, .int .i64 0, .slice none 0 0, .slice none 0 0]) (HP.out) 8 _ rfl) 9 _ rfl⟩
  have hg_ : wJ.grownBy ((wJ.setCell ⟨g, 8, none⟩ (.int .i64 0)).setCell ⟨g, 9, none⟩ (.bool false)) (some g) := grown_trans (grown_set _ g 8 _) (grown_set _ g 9 _)
  have n0_ := Aside0.mk (HB.out.grown hg_ (below_size HB.out) (fun k hk => by injection hk with hk; have h1_ := HLT.out; have h2_ := HTE.out; omega))
  have n1_ := Aside0.mk (HT.out.grown hg_ (by intro e; injection e with e; have h1_ := HLT.out; omega))
  clear HB HT HP hg_
  generalize ((wJ.setCell ⟨g, 8, none⟩ (.int .i64 0)).setCell ⟨g, 9, none⟩ (.bool false)) = wK at n0_ n1_ m_ ⊢
  have HB := n0_
  have HT := n1_
  have HP := m_
  clear n0_ n1_ m_
  have c0 : wK.cell? ⟨g, 0, none⟩ = some (.int .i64 2) := (blk_cell HP.out 0).trans rfl
  have f0 := blk_frozen HP.out 0
  have c1 : wK.cell? ⟨g, 1, none⟩ = some (.int .i64 9) := (blk_cell HP.out 1).trans rfl
  have f1 := blk_frozen HP.out 1
  have c2 : wK.cell? ⟨g, 2, none⟩ = some (.int .i64 0) := (blk_cell HP.out 2).trans rfl
  have f2 := blk_frozen HP.out 2
  have c3 : wK.cell? ⟨g, 3, none⟩ = some (.int .i64 1) := (blk_cell HP.out 3).trans rfl
  have f3 := blk_frozen HP.out 3
  have c4 : wK.cell? ⟨g, 4, none⟩ = some (.int .i64 10) := (blk_cell HP.out 4).trans rfl
  have f4 := blk_frozen HP.out 4
  have c5 : wK.cell? ⟨g, 5, none⟩ = some (.int .i64 0) := (blk_cell HP.out 5).trans rfl
  have f5 := blk_frozen HP.out 5
  have c6 : wK.cell? ⟨g, 6, none⟩ = some (.int .i64 80) := (blk_cell HP.out 6).trans rfl
  have f6 := blk_frozen HP.out 6
  have c7 : wK.cell? ⟨g, 7, none⟩ = some (.int .i64 0) := (blk_cell HP.out 7).trans rfl
  have f7 := blk_frozen HP.out 7
  have c8 : wK.cell? ⟨g, 8, none⟩ = some (.int .i64 0) := (blk_cell HP.out 8).trans rfl
  have f8 := blk_frozen HP.out 8
  have c9 : wK.cell? ⟨g, 9, none⟩ = some (.bool false) := (blk_cell HP.out 9).trans rfl
  have f9 := blk_frozen HP.out 9
  have c10 : wK.cell? ⟨g, 10, none⟩ = some (.int .i64 0) := (blk_cell HP.out 10).trans rfl
  have f10 := blk_frozen HP.out 10
  have c11 : wK.cell? ⟨g, 11, none⟩ = some (.slice none 0 0) := (blk_cell HP.out 11).trans rfl
  have f11 := blk_frozen HP.out 11
  have c12 : wK.cell? ⟨g, 12, none⟩ = some (.slice none 0 0) := (blk_cell HP.out 12).trans rfl
  have f12 := blk_frozen HP.out 12
  go_upto_region 21 with (first
    | (go_at_call 63; refine (clone_nil _ _ _ rfl _).mono ?_; rintro e_ wL ⟨rfl, rfl⟩))
  clear c0 f0 c1 f1 c2 f2 c3 f3 c4 f4 c5 f5 c6 f6 c7 f7 c8 f8 c9 f9 c10 f10 c11 f11 c12 f12
  have m_ : Aside0 (Blk (wK.setCell ⟨g, 12, none⟩ (.slice none 0 0)) g 58 #[.int .i64 2, .int .i64 9, .int .i64 0, .int .i64 1, .int .i64 10, .int .i64 0, .int .i64 80, .int .i64 0, .int .i64 0, .bool false, .int .i64 0, .slice none 0 0, .slice none 0 0]) := ⟨blk_put (cs' := #[.int .i64 2, .int .i64 9, .int .i64 0, .int .i64 1, .int .i64 10, .int .i64 0, .int .i64 80, .int .i64 0, .int .i64 0, .bool false, .int .i64 0, .slice none 0 0, .slice none 0 0]) (HP.out) 12 _ rfl⟩
  have hg_ : wK.grownBy (wK.setCell ⟨g, 12, none⟩ (.slice none 0 0)) (some g) := grown_set _ g 12 _
  have n0_ := Aside0.mk (HB.out.grown hg_ (below_size HB.out) (fun k hk => by injection hk with hk; have h1_ := HLT.out; have h2_ := HTE.out; omega))
  have n1_ := Aside0.mk (HT.out.grown hg_ (by intro e; injection e with e; have h1_ := HLT.out; omega))
  clear HB HT HP hg_
  generalize (wK.setCell ⟨g, 12, none⟩ (.slice none 0 0)) = wM at n0_ n1_ m_ ⊢
  have HB := n0_
  have HT := n1_
  have HP := m_
  clear n0_ n1_ m_
  have c0 : wM.cell? ⟨g, 0, none⟩ = some (.int .i64 2) := (blk_cell HP.out 0).trans rfl
  have f0 := blk_frozen HP.out 0
  have c1 : wM.cell? ⟨g, 1, none⟩ = some (.int .i64 9) := (blk_cell HP.out 1).trans rfl
  have f1 := blk_frozen HP.out 1
  have c2 : wM.cell? ⟨g, 2, none⟩ = some (.int .i64 0) := (blk_cell HP.out 2).trans rfl
  have f2 := blk_frozen HP.out 2
  have c3 : wM.cell? ⟨g, 3, none⟩ = some (.int .i64 1) := (blk_cell HP.out 3).trans rfl
  have f3 := blk_frozen HP.out 3
  have c4 : wM.cell? ⟨g, 4, none⟩ = some (.int .i64 10) := (blk_cell HP.out 4).trans rfl
  have f4 := blk_frozen HP.out 4
  have c5 : wM.cell? ⟨g, 5, none⟩ = some (.int .i64 0) := (blk_cell HP.out 5).trans rfl
  have f5 := blk_frozen HP.out 5
  have c6 : wM.cell? ⟨g, 6, none⟩ = some (.int .i64 80) := (blk_cell HP.out 6).trans rfl
  have f6 := blk_frozen HP.out 6
  have c7 : wM.cell? ⟨g, 7, none⟩ = some (.int .i64 0) := (blk_cell HP.out 7).trans rfl
  have f7 := blk_frozen HP.out 7
  have c8 : wM.cell? ⟨g, 8, none⟩ = some (.int .i64 0) := (blk_cell HP.out 8).trans rfl
  have f8 := blk_frozen HP.out 8
  have c9 : wM.cell? ⟨g, 9, none⟩ = some (.bool false) := (blk_cell HP.out 9).trans rfl
  have f9 := blk_frozen HP.out 9
  have c10 : wM.cell? ⟨g, 10, none⟩ = some (.int .i64 0) := (blk_cell HP.out 10).trans rfl
  have f10 := blk_frozen HP.out 10
  have c11 : wM.cell? ⟨g, 11, none⟩ = some (.slice none 0 0) := (blk_cell HP.out 11).trans rfl
  have f11 := blk_frozen HP.out 11
  have c12 : wM.cell? ⟨g, 12, none⟩ = some (.slice none 0 0) := (blk_cell HP.out 12).trans rfl
  have f12 := blk_frozen HP.out 12
  go_wp2_with (first
    | ((with_reducible refine gate_store (t := 58) (p := 2) rfl ?_); refine stm_event rfl rfl 58 (.tmp 2) (.tmp 107) rfl rfl rfl HT.out (Nat.le_refl _) (by kernel_rfl) (by simp [Value.oneCell']) ?_; intro wN hb_ hg_; have HR : Aside0 (Blk wN tr 58 #[.int .i64 2, .int .i64 9, .int .i64 0, .int .i64 1, .int .i64 10, .int .i64 0, .int .i64 80, .int .i64 0, .int .i64 0, .bool false, .int .i64 0, .slice none 0 0, .slice none 0 0]) := ⟨by rw [show setMany #[.int .i64 0, .int .i64 0, .int .i64 0, .int .i64 0, .int .i64 0, .int .i64 0, .int .i64 0, .int .i64 0, .int .i64 0, .bool false, .int .i64 0, .slice none 0 0, .slice none 0 0] 0 (#[.int .i64 2, .int .i64 9, .int .i64 0, .int .i64 1, .int .i64 10, .int .i64 0, .int .i64 80, .int .i64 0, .int .i64 0, .bool false, .int .i64 0, .slice none 0 0, .slice none 0 0] : Array Value).toList = #[.int .i64 2, .int .i64 9, .int .i64 0, .int .i64 1, .int .i64 10, .int .i64 0, .int .i64 80, .int .i64 0, .int .i64 0, .bool false, .int .i64 0, .slice none 0 0, .slice none 0 0] from by kernel_rfl] at hb_; exact hb_⟩; have n0_ := Aside0.mk (HB.out.grown hg_ (below_size HB.out) (fun k hk => by injection hk with hk; have h2_ := HTE.out; omega)); clear HB hb_ hg_ HT HP; clear c0 f0 c1 f1 c2 f2 c3 f3 c4 f4 c5 f5 c6 f6 c7 f7 c8 f8 c9 f9 c10 f10 c11 f11 c12 f12; have HB := n0_; clear n0_))
  refine bodyPost_ret (results_ct rfl _ _ tr 58 #[.int .i64 2, .int .i64 9, .int .i64 0, .int .i64 1, .int .i64 10, .int .i64 0, .int .i64 80, .int .i64 0, .int .i64 0, .bool false, .int .i64 0, .slice none 0 0, .slice none 0 0] (0, 0) _ rfl HR.out Try.underlying58 rfl (by kernel_rfl)) rfl ?_
  exact ⟨rfl, HB.out⟩
end Go.Proofs.Ytkpfojpmigchlaa.Own
