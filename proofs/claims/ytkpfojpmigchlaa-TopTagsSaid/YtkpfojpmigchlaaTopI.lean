/-
  then, carried, in, Take of the packet that known() makes.
-/
import Derived.Test.YtkpfojpmigchlaaTopT
import Derived.Test.YtkpfojpmigchlaaTopP
import Derived.Test.YtkpfojpmigchlaaTopN
namespace Go.Proofs.Ytkpfojpmigchlaa.Own
open Go Go.RowKit Go.Proofs.YtkpfojpmigchlaaW.PrintWords Go.Proofs.YtkpfojpmigchlaaW.PrintMore Go.Proofs.YtkpfojpmigchlaaW.PrintLast Go.Proofs.Ytkpfojpmigchlaa.Q
set_option linter.unusedVariables false
set_option linter.unusedSimpArgs false

theorem run_out (ev : Operand → Value) (o : Oper) (w : World) (ho : o.op = .alloc 60) : (execOp ev o).run Try.prog w = .ok (.value (.pointer (some ⟨w.heap.size, 0, none⟩))) (w.alloc (.cells #[.int .i64 0, .int .i64 0, .bool false, .slice none 0 0] 60 (0, 0))) := by
  cases o with
  | mk dst op ty pos after guard =>
    obtain rfl : op = _ := ho
    kernel_rfl
theorem run_ring (ev : Operand → Value) (o : Oper) (w : World) (ho : o.op = .alloc 31) : (execOp ev o).run Try.prog w = .ok (.value (.pointer (some ⟨w.heap.size, 0, none⟩))) (w.alloc (.cells #[.int .i64 0, .int .u64 0, .int .u64 0, .int .u64 0, .int .u64 0, .int .u64 0, .int .u64 0] 31 (0, 0))) := by
  cases o with
  | mk dst op ty pos after guard =>
    obtain rfl : op = _ := ho
    kernel_rfl
theorem run_flow (ev : Operand → Value) (o : Oper) (w : World) (ho : o.op = .alloc 36) : (execOp ev o).run Try.prog w = .ok (.value (.pointer (some ⟨w.heap.size, 0, none⟩))) (w.alloc (.cells #[.int .i64 0, .int .i64 0, .int .i64 0, .int .i64 0] 36 (0, 0))) := by
  cases o with
  | mk dst op ty pos after guard =>
    obtain rfl : op = _ := ho
    kernel_rfl
set_option maxHeartbeats 16000000 in
set_option maxRecDepth 100000 in
theorem then_known (k gu : Nat) (b1 : Addr) (n1 m1 : Nat) (A2 : Option Addr) (n2 m2 : Nat) (W : World) (hb : Blk W k 99 #[.int .i64 2, .int .i64 9, .int .i64 0, .int .i64 1, .int .i64 10, .int .i64 0, .int .i64 80, .int .i64 0, .int .i64 0, .bool false, .int .i64 0, .slice none 0 0, .slice none 0 0, .pointer (some ⟨gu, 0, none⟩), .slice (some b1) n1 m1]) : Calls Try.prog 42 #[.pointer (some ⟨k, 0, none⟩), .slice A2 n2 m2, .int .i64 0] W fun e w' => e = .returned (.tuple #[]) ∧ Blk w' k 99 #[.int .i64 2, .int .i64 9, .int .i64 0, .int .i64 1, .int .i64 10, .int .i64 0, .int .i64 80, .int .i64 0, .int .i64 0, .bool false, .int .i64 0, .slice none 0 0, .slice none 0 0, .pointer (some ⟨gu, 0, none⟩), .slice A2 n2 m2] ∧ W.grownBy w' (some k) := by
  have hu99 := Try.underlying99
  have HB := Aside0.mk hb
  have c14 : W.cell? ⟨k, 14, none⟩ = some (.slice (some b1) n1 m1) := (blk_cell hb 14).trans rfl
  have f14 := blk_frozen hb 14
  clear hb
  go_enter Try.func42, Try.ntmps42
  go_wp2
  first | go_end0 | ((try simp only [Exit.inBlock, Exit.then]); refine bodyPost_ret (results_none rfl _ _ _) rfl ?_)
  exact ⟨rfl, blk_put HB.out 14 _ rfl, grown_set _ _ _ _⟩
set_option maxHeartbeats 16000000 in
set_option maxRecDepth 100000 in
theorem carried_known (p : PL) (hp : p.sl.length = 64) (nr : List Value) (hn : nr.length = 128) (ws : Value) (k gu : Nat) (Bv : Value) (a b c d : Int) (W : World) (hU : Blk W gu 88 (PLN p true nr ws)) (hK : Blk W k 99 #[.int .i64 2, .int .i64 9, .int .i64 0, .int .i64 1, .int .i64 10, .int .i64 0, .int .i64 80, .int .i64 0, .int .i64 0, .bool false, .int .i64 0, .slice none 0 0, .slice none 0 0, .pointer (some ⟨gu, 0, none⟩), Bv]) : Calls Try.prog 71 #[.pointer (some ⟨k, 0, none⟩), .agg #[.int .i64 a, .int .i64 b, .int .i64 c, .int .i64 d]] W fun e w' => e = .returned (.tuple #[.int .i64 0, .bool false]) ∧ Below W.heap.size W w' := by
  have hu99 := Try.underlying99
  have hu36 := Try.underlying36
  have hu31 := Try.underlying31
  have HP := Aside0.mk hp
  have HU := Aside0.mk hU
  have HK := Aside0.mk hK
  clear hp hn hU hK
  go_enter Try.func71, Try.ntmps71
  go_wp2_with (first
    | ((with_reducible refine gate_dst (N := 3) rfl ?_); refine any_box rfl rfl rfl ?_; intro gf h_ w1 hbx_ hb_; have n0_ := Aside0.mk (HU.out.below hb_); have n1_ := Aside0.mk (HK.out.below hb_); clear HU HK; have HU := n0_; have HK := n1_; clear n0_ n1_; have HB := Aside0.mk hb_; clear h_ hbx_ hb_; have k0 : w1.cell? ⟨k, 0, none⟩ = some (.int .i64 2) := (blk_cell HK.out 0).trans rfl; have k8 : w1.cell? ⟨k, 8, none⟩ = some (.int .i64 0) := (blk_cell HK.out 8).trans rfl; have k13 : w1.cell? ⟨k, 13, none⟩ = some (.pointer (some ⟨gu, 0, none⟩)) := (blk_cell HK.out 13).trans rfl; have r0 : w1.cell? ⟨gu, 323, none⟩ = some (.int .i64 p.ep) := (blk_cell HU.out 323).trans ((PLN_low HP.out 323 (by decide)).trans ((pcs_ring p HP.out 0).trans rfl)); have r1 : w1.cell? ⟨gu, 324, none⟩ = some (.int .u64 p.k1) := (blk_cell HU.out 324).trans ((PLN_low HP.out 324 (by decide)).trans ((pcs_ring p HP.out 1).trans rfl)); have r2 : w1.cell? ⟨gu, 325, none⟩ = some (.int .u64 p.k2) := (blk_cell HU.out 325).trans ((PLN_low HP.out 325 (by decide)).trans ((pcs_ring p HP.out 2).trans rfl)); have r3 : w1.cell? ⟨gu, 326, none⟩ = some (.int .u64 p.k3) := (blk_cell HU.out 326).trans ((PLN_low HP.out 326 (by decide)).trans ((pcs_ring p HP.out 3).trans rfl)); have r4 : w1.cell? ⟨gu, 327, none⟩ = some (.int .u64 p.k4) := (blk_cell HU.out 327).trans ((PLN_low HP.out 327 (by decide)).trans ((pcs_ring p HP.out 4).trans rfl)); have r5 : w1.cell? ⟨gu, 328, none⟩ = some (.int .u64 p.k5) := (blk_cell HU.out 328).trans ((PLN_low HP.out 328 (by decide)).trans ((pcs_ring p HP.out 5).trans rfl)); have r6 : w1.cell? ⟨gu, 329, none⟩ = some (.int .u64 p.k6) := (blk_cell HU.out 329).trans ((PLN_low HP.out 329 (by decide)).trans ((pcs_ring p HP.out 6).trans rfl)))
    | ((with_reducible refine gate_dst (N := 6) rfl ?_); refine box_event rfl (N := 6) rfl (cs := #[.int .i64 0, .int .u64 0, .int .u64 0, .int .u64 0, .int .u64 0, .int .u64 0, .int .u64 0]) (t := 31) (run_ring _ _ _ rfl) ?_; intro gr h_ w2 hbx_ hb_; have HRG := Aside0.mk (show Blk w2 gr 31 #[.int .i64 0, .int .u64 0, .int .u64 0, .int .u64 0, .int .u64 0, .int .u64 0, .int .u64 0] from hbx_); have HRE : Aside0 (W.heap.size ≤ gr ∧ k < gr) := ⟨by have h1_ := HB.out.size; have h2_ := HK.out.lt; omega⟩; have n0_ := Aside0.mk (below_step HB.out hb_); have n1_ := Aside0.mk (HK.out.below hb_); clear HB HK; have HB := n0_; have HK := n1_; clear n0_ n1_; clear h_ hbx_ hb_ k0 k8 k13 r0 r1 r2 r3 r4 r5 r6)
    | ((with_reducible refine gate_store (t := 31) (p := 6) rfl ?_); refine stm_event rfl rfl 31 (.tmp 6) (.tmp 21) rfl rfl rfl HRG.out (Nat.le_refl _) (by kernel_rfl) (by simp [Value.oneCell']) ?_; intro w3 hb_ hg_; have n0_ := Aside0.mk (HB.out.grown hg_ (below_size HB.out) (fun q hq => by injection hq with hq; have h1_ := HRE.out; omega)); have n1_ := Aside0.mk (HK.out.grown hg_ (by intro e; injection e with e; have h1_ := HRE.out; omega)); clear hb_ hg_ HRG HU; clear HB HK; have HB := n0_; have HK := n1_; clear n0_ n1_; have k0 : w3.cell? ⟨k, 0, none⟩ = some (.int .i64 2) := (blk_cell HK.out 0).trans rfl; have k8 : w3.cell? ⟨k, 8, none⟩ = some (.int .i64 0) := (blk_cell HK.out 8).trans rfl))
  go_ret2
  exact ⟨rfl, HB.out⟩
theorem pick_v : wheel_Pick.f 200 (nob 127) 1 0 10 80 = some (-1) := by kernel_rfl
theorem nob_len' : (nob 127).length = 127 := nob_len 127 (Nat.le_refl _)
theorem pick_known {Aw : Option Addr} {cw : Nat} {w : World} (hC : Kd.C (Kd.int .i64) w Aw 127 (nob 127)) (hc : 127 ≤ cw) : Calls Try.prog 68 #[.slice Aw 127 cw, .agg #[.int .i64 1, .int .i64 0, .int .i64 10, .int .i64 80]] w fun e w' => e = .returned (.int .i64 (-1)) ∧ Below w.heap.size w w' :=
  wheel_Pick.calls 200 Aw cw (nob 127) 1 0 10 80 (-1) w hC hc pick_v
theorem drop_known (x : Int) (w : World) : Calls Try.prog 40 #[.int .i64 x] w fun e w' => ∃ (Ad : Option Addr) (nd cd : Nat), e = .returned (.agg #[.int .i64 x, .int .i64 (-1), .bool false, .slice Ad nd cd]) ∧ Below w.heap.size w w' := by
  refine (plane_drop.calls x x (-1) false [] w rfl).mono ?_
  rintro e w' ⟨v, rfl, hR, hb⟩
  obtain ⟨Ad, cd, rfl⟩ := Kd.R_slice hR
  exact ⟨Ad, _, cd, rfl, hb⟩
theorem run_stfl (ev : Operand → Value) (o : Oper) (w : World) (g : Nat) (cs cells : Array Value) (x y : Operand) (ho : o.op = .store 36 x y) (hx : ev x = .pointer (some ⟨g, 0, none⟩)) (hy : ev y = .agg cells) (hb : Blk w g 36 cs) (hs : cells.size = 4) (hc : cs.size = 4) (h1 : cells.all (·.oneCell') = true) :
    (execOp ev o).run Try.prog w = .ok .skip (w.setCells g 0 cells.toList) := by
  have hr := run_storeVar_mid (P := Try.prog) w g 0 36 cells (hb.there 0 _ (by rw [hs, hc]; decide)) (by rw [hs]; kernel_rfl) h1
  unfold execOp
  simp only [ho, hx, hy, Instr.storeAt, Instr.sureAddr, Sem.run_bind, Sem.run_pure, Result.andThen_ok, hr]
set_option maxHeartbeats 16000000 in
set_option maxRecDepth 100000 in
theorem in_known (p : PL) (hp : p.sl.length = 64) (ha : p.addr = 10) (hpt : p.port = 80) (nr : List Value) (hn : nr.length = 128) (Aw : Option Addr) (cw : Nat) (hcw : 127 ≤ cw) (k gu : Nat) (Bv : Value) (W : World) (hU : Blk W gu 88 (PLN p true nr (.slice Aw 127 cw))) (hK : Blk W k 99 #[.int .i64 2, .int .i64 9, .int .i64 0, .int .i64 1, .int .i64 10, .int .i64 0, .int .i64 80, .int .i64 0, .int .i64 0, .bool false, .int .i64 0, .slice none 0 0, .slice none 0 0, .pointer (some ⟨gu, 0, none⟩), Bv]) (hW : Kd.C (Kd.int .i64) W Aw 127 (nob 127)) : Calls Try.prog 45 #[.pointer (some ⟨k, 0, none⟩)] W fun e w' => ∃ (Ad : Option Addr) (nd cd : Nat), e = .returned (.agg #[.int .i64 9, .int .i64 (-1), .bool false, .slice Ad nd cd]) ∧ Below W.heap.size W w' := by
  have hu60 := Try.underlying60
  have hu36 := Try.underlying36
  have HPL := Aside0.mk hp
  have HA := Aside0.mk ha
  have HPT := Aside0.mk hpt
  have HNR := Aside0.mk hn
  have HCW := Aside0.mk hcw
  have HU := Aside0.mk hU
  have HK := Aside0.mk hK
  have HW := Aside0.mk hW
  clear hp ha hpt hn hcw hU hK hW
  go_enter Try.func45, Try.ntmps45
  go_upto_region 2 with (first
    | ((with_reducible refine gate_dst (N := 2) rfl ?_); refine box_event rfl (N := 2) rfl (cs := #[.int .i64 0, .int .i64 0, .bool false, .slice none 0 0]) (t := 60) (run_out _ _ _ rfl) ?_; intro tq h_ w1 hbx_ hb_; have HO := Aside0.mk (show Blk w1 tq 60 #[.int .i64 0, .int .i64 0, .bool false, .slice none 0 0] from hbx_); have HOE : Aside0 (W.heap.size ≤ tq ∧ k < tq ∧ gu < tq) := ⟨by have h1_ := HK.out.lt; have h2_ := HU.out.lt; omega⟩; have HB := Aside0.mk hb_; have n0_ := Aside0.mk (HU.out.below hb_); have n1_ := Aside0.mk (HK.out.below hb_); clear HU HK; have HU := n0_; have HK := n1_; clear n0_ n1_; clear h_ hbx_ hb_; have k13 : w1.cell? ⟨k, 13, none⟩ = some (.pointer (some ⟨gu, 0, none⟩)) := (blk_cell HK.out 13).trans rfl)
    | ((with_reducible refine gate_dst (N := 22) rfl ?_); refine un_load (N := 22) rfl rfl (.tmp 21) rfl rfl HU.out HPL.out ?_)
    | ((with_reducible refine gate_dst (N := 3) rfl ?_); refine pl_alloc (N := 3) rfl rfl rfl ?_; intro tp h_ w2 hbx_ hb_; have HT := Aside0.mk hbx_; have HTE : Aside0 (tq < tp) := ⟨by rw [h_]; exact HO.out.lt⟩; clear k13; have n0_ := Aside0.mk (below_step HB.out hb_); have n1_ := Aside0.mk (HU.out.below hb_); have n2_ := Aside0.mk (HK.out.below hb_); have n3_ := Aside0.mk (HO.out.below hb_); clear HB HU HK HO; have HB := n0_; have HU := n1_; have HK := n2_; have HO := n3_; clear n0_ n1_ n2_ n3_; clear h_ hbx_ hb_)
    | ((with_reducible refine gate_store (t := 33) (p := 3) rfl ?_); refine pl_store rfl rfl (.tmp 3) (.tmp 22) rfl rfl rfl HT.out (pcs_size _ zeroP_len) HPL.out ?_; intro w3 hb_ hg_; have n0_ := Aside0.mk (HB.out.grown hg_ (below_size HB.out) (fun q hq => by injection hq with hq; have h1_ := HTE.out; have h2_ := HOE.out; omega)); have n1_ := Aside0.mk (HK.out.grown hg_ (by intro e; injection e with e; have h1_ := HTE.out; have h2_ := HOE.out; omega)); have n2_ := Aside0.mk (HU.out.grown hg_ (by intro e; injection e with e; have h1_ := HTE.out; have h2_ := HOE.out; omega)); have n3_ := Aside0.mk (HO.out.grown hg_ (by intro e; injection e with e; have h1_ := HTE.out; omega)); have m_ := Aside0.mk hb_; clear hb_ hg_; clear HB HK HU HO HT; have HB := n0_; have HK := n1_; have HU := n2_; have HO := n3_; have HT := m_; clear n0_ n1_ n2_ n3_ m_))
  have hb_ := below_drew1 (Below.refl w3.heap.size w3)
  have n0_ := Aside0.mk (below_step HB.out hb_)
  have n1_ := Aside0.mk (HU.out.below hb_)
  have n2_ := Aside0.mk (HK.out.below hb_)
  have n3_ := Aside0.mk (HO.out.below hb_)
  have n4_ := Aside0.mk (HT.out.below hb_)
  clear HB HU HK HO HT
  have HB := n0_
  have HU := n1_
  have HK := n2_
  have HO := n3_
  have HT := n4_
  clear n0_ n1_ n2_ n3_ n4_
  clear hb_
  refine start_ (n := 17) (S := fun w' => w'.cell? ⟨k, 3, none⟩ = some (.int .i64 1) ∧ w'.cell? ⟨k, 5, none⟩ = some (.int .i64 0) ∧ w'.cell? ⟨tp, 1, none⟩ = some (.int .i64 10) ∧ w'.cell? ⟨tp, 2, none⟩ = some (.int .i64 80)) (ds := []) #[false, false, false, false, false, false, false, false, false, false, false, false, false, false, false, false, false] (by kernel_rfl) rfl rfl ⟨(blk_cell HK.out 3).trans rfl, (blk_cell HK.out 5).trans rfl, (by have h_ := (blk_cell HT.out 1).trans (show _ = some (Value.int .i64 p.addr) from rfl); rw [HA.out] at h_; exact h_), (by have h_ := (blk_cell HT.out 2).trans (show _ = some (Value.int .i64 p.port) from rfl); rw [HPT.out] at h_; exact h_)⟩ (fun hHeld => ?_)
  generalize w3.drew = w4 at HB HU HK HO HT hHeld ⊢
  refine pure_ (i := 0) (N := some 23) (v := ?_) (a' := ?_) #[true, false, false, false, false, false, false, false, false, false, false, false, false, false, false, false, false] rfl rfl (by kernel_rfl) (fun _ _ _ h => h) (Or.inl ⟨by rfl, ?_⟩) ?_ ?_
  rotate_left
  · intro w'
    go_simp
    with_reducible rfl
  rotate_left
  · simp only [Act.put, List.setIfInBounds_toArray, List.set_cons_zero, List.set_cons_succ, i64_w, i32_w]
    rfl
  refine pure_ (i := 1) (N := some 24) (v := ?_) (a' := ?_) #[true, true, false, false, false, false, false, false, false, false, false, false, false, false, false, false, false] rfl rfl (by kernel_rfl) (fun _ _ _ h => h) (Or.inl ⟨by rfl, ?_⟩) ?_ ?_
  rotate_left
  · intro w'
    go_simp
    with_reducible rfl
  rotate_left
  · simp only [Act.put, List.setIfInBounds_toArray, List.set_cons_zero, List.set_cons_succ, i64_w, i32_w]
    rfl
  refine pure_ (i := 2) (N := some 25) (v := ?_) (a' := ?_) #[true, true, true, false, false, false, false, false, false, false, false, false, false, false, false, false, false] rfl rfl (by kernel_rfl) (fun _ _ _ h => h) (Or.inl ⟨by rfl, ?_⟩) ?_ ?_
  rotate_left
  · intro w'
    go_simp
    with_reducible rfl
  rotate_left
  · simp only [Act.put, List.setIfInBounds_toArray, List.set_cons_zero, List.set_cons_succ, i64_w, i32_w]
    rfl
  refine pure_ (i := 3) (N := some 26) (v := ?_) (a' := ?_) #[true, true, true, true, false, false, false, false, false, false, false, false, false, false, false, false, false] rfl rfl (by kernel_rfl) (fun _ _ _ h => h) (Or.inl ⟨by rfl, ?_⟩) ?_ ?_
  rotate_left
  · intro w'
    go_simp
    with_reducible rfl
  rotate_left
  · simp only [Act.put, List.setIfInBounds_toArray, List.set_cons_zero, List.set_cons_succ, i64_w, i32_w]
    rfl
  refine pure_ (i := 5) (N := some 28) (v := ?_) (a' := ?_) #[true, true, true, true, false, true, false, false, false, false, false, false, false, false, false, false, false] rfl rfl (by kernel_rfl) (fun _ _ _ h => h) (Or.inl ⟨by rfl, ?_⟩) ?_ ?_
  rotate_left
  · intro w'
    go_simp
    with_reducible rfl
  rotate_left
  · simp only [Act.put, List.setIfInBounds_toArray, List.set_cons_zero, List.set_cons_succ, i64_w, i32_w]
    rfl
  refine pure_ (i := 6) (N := some 29) (v := ?_) (a' := ?_) #[true, true, true, true, false, true, true, false, false, false, false, false, false, false, false, false, false] rfl rfl (by kernel_rfl) (fun _ _ _ h => h) (Or.inl ⟨by rfl, ?_⟩) ?_ ?_
  rotate_left
  · intro w'
    go_simp
    with_reducible rfl
  rotate_left
  · simp only [Act.put, List.setIfInBounds_toArray, List.set_cons_zero, List.set_cons_succ, i64_w, i32_w]
    rfl
  refine pure_ (i := 7) (N := some 30) (v := ?_) (a' := ?_) #[true, true, true, true, false, true, true, true, false, false, false, false, false, false, false, false, false] rfl rfl (by kernel_rfl) (fun _ _ _ h => h) (Or.inl ⟨by rfl, ?_⟩) ?_ ?_
  rotate_left
  · intro w'
    go_simp
    with_reducible rfl
  rotate_left
  · simp only [Act.put, List.setIfInBounds_toArray, List.set_cons_zero, List.set_cons_succ, i64_w, i32_w]
    rfl
  refine pure_ (i := 8) (N := some 31) (v := ?_) (a' := ?_) #[true, true, true, true, false, true, true, true, true, false, false, false, false, false, false, false, false] rfl rfl (by kernel_rfl) (fun _ _ _ h => h) (Or.inl ⟨by rfl, ?_⟩) ?_ ?_
  rotate_left
  · intro w'
    go_simp
    with_reducible rfl
  rotate_left
  · simp only [Act.put, List.setIfInBounds_toArray, List.set_cons_zero, List.set_cons_succ, i64_w, i32_w]
    rfl
  refine pure_ (i := 10) (N := some 33) (v := ?_) (a' := ?_) #[true, true, true, true, false, true, true, true, true, false, true, false, false, false, false, false, false] rfl rfl (by kernel_rfl) (fun _ _ _ h => h) (Or.inl ⟨by rfl, ?_⟩) ?_ ?_
  rotate_left
  · intro w'
    go_simp
    with_reducible rfl
  rotate_left
  · simp only [Act.put, List.setIfInBounds_toArray, List.set_cons_zero, List.set_cons_succ, i64_w, i32_w]
    rfl
  refine pure_ (i := 12) (N := some 35) (v := ?_) (a' := ?_) #[true, true, true, true, false, true, true, true, true, false, true, false, true, false, false, false, false] rfl rfl (by kernel_rfl) (fun _ _ _ h => h) (Or.inl ⟨by rfl, ?_⟩) ?_ ?_
  rotate_left
  · intro w'
    go_simp
    with_reducible rfl
  rotate_left
  · simp only [Act.put, List.setIfInBounds_toArray, List.set_cons_zero, List.set_cons_succ, i64_w, i32_w]
    rfl
  refine take_ (i := 4) (N := some 27) (v := ?_) (a' := ?_) #[true, true, true, true, true, true, true, true, true, false, true, false, true, false, false, false, false] rfl rfl (by kernel_rfl) (fun _ _ _ h => h) (Or.inl ⟨by rfl, ?_⟩) hHeld ?_ ?_
  rotate_left
  · rintro w' ⟨s0, s1, s2, s3⟩
    go_simp
    with_reducible rfl
  rotate_left
  · simp only [Act.put, List.setIfInBounds_toArray, List.set_cons_zero, List.set_cons_succ, i64_w, i32_w]
    rfl
  refine take_ (i := 9) (N := some 32) (v := ?_) (a' := ?_) #[true, true, true, true, true, true, true, true, true, true, true, false, true, false, false, false, false] rfl rfl (by kernel_rfl) (fun _ _ _ h => h) (Or.inl ⟨by rfl, ?_⟩) hHeld ?_ ?_
  rotate_left
  · rintro w' ⟨s0, s1, s2, s3⟩
    go_simp
    with_reducible rfl
  rotate_left
  · simp only [Act.put, List.setIfInBounds_toArray, List.set_cons_zero, List.set_cons_succ, i64_w, i32_w]
    rfl
  refine take_ (i := 11) (N := some 34) (v := ?_) (a' := ?_) #[true, true, true, true, true, true, true, true, true, true, true, true, true, false, false, false, false] rfl rfl (by kernel_rfl) (fun _ _ _ h => h) (Or.inl ⟨by rfl, ?_⟩) hHeld ?_ ?_
  rotate_left
  · rintro w' ⟨s0, s1, s2, s3⟩
    go_simp
    with_reducible rfl
  rotate_left
  · simp only [Act.put, List.setIfInBounds_toArray, List.set_cons_zero, List.set_cons_succ, i64_w, i32_w]
    rfl
  refine take_ (i := 13) (N := some 36) (v := ?_) (a' := ?_) #[true, true, true, true, true, true, true, true, true, true, true, true, true, true, false, false, false] rfl rfl (by kernel_rfl) (fun _ _ _ h => h) (Or.inl ⟨by rfl, ?_⟩) hHeld ?_ ?_
  rotate_left
  · rintro w' ⟨s0, s1, s2, s3⟩
    go_simp
    with_reducible rfl
  rotate_left
  · simp only [Act.put, List.setIfInBounds_toArray, List.set_cons_zero, List.set_cons_succ, i64_w, i32_w]
    rfl
  refine pure_ (i := 14) (N := some 37) (v := ?_) (a' := ?_) #[true, true, true, true, true, true, true, true, true, true, true, true, true, true, true, false, false] rfl rfl (by kernel_rfl) (fun _ _ _ h => h) (Or.inl ⟨by rfl, ?_⟩) ?_ ?_
  rotate_left
  · intro w'
    go_simp
    with_reducible rfl
  rotate_left
  · simp only [Act.put, List.setIfInBounds_toArray, List.set_cons_zero, List.set_cons_succ, i64_w, i32_w]
    rfl
  refine one_ (i := 15) (N := some 4) #[true, true, true, true, true, true, true, true, true, true, true, true, true, true, true, true, false] rfl rfl (by kernel_rfl) (by decide) (fun K hK => ?_)
  refine box_step (by rfl) (N := 4) rfl (run_flow _ _ _ rfl) ?_
  intro tf h_ w5 hbx_ hb_
  have HF : Aside0 (Blk w5 tf 36 #[.int .i64 0, .int .i64 0, .int .i64 0, .int .i64 0]) := ⟨hbx_⟩
  have HFE : Aside0 (tp < tf) := ⟨by rw [h_]; exact HT.out.lt⟩
  have n0_ := Aside0.mk (below_step HB.out hb_)
  have n1_ := Aside0.mk (HU.out.below hb_)
  have n2_ := Aside0.mk (HK.out.below hb_)
  have n3_ := Aside0.mk (HO.out.below hb_)
  have n4_ := Aside0.mk (HT.out.below hb_)
  clear HB HU HK HO HT
  have HB := n0_
  have HU := n1_
  have HK := n2_
  have HO := n3_
  have HT := n4_
  clear n0_ n1_ n2_ n3_ n4_
  clear h_ hbx_ hb_ hHeld
  refine hK.out _ _ ⟨(blk_cell HK.out 3).trans rfl, (blk_cell HK.out 5).trans rfl, (by have h_ := (blk_cell HT.out 1).trans (show _ = some (Value.int .i64 p.addr) from rfl); rw [HA.out] at h_; exact h_), (by have h_ := (blk_cell HT.out 2).trans (show _ = some (Value.int .i64 p.port) from rfl); rw [HPT.out] at h_; exact h_)⟩ (fun hHeld => ?_)
  clear hK K
  refine norm_ (a' := ?_) ?_ ?_
  rotate_left
  · show Act.put _ (some 4) _ = _
    simp only [Act.put, List.setIfInBounds_toArray, List.set_cons_zero, List.set_cons_succ, i64_w, i32_w]
    rfl
  refine one_ (i := 16) (N := none) #[true, true, true, true, true, true, true, true, true, true, true, true, true, true, true, true, true] rfl rfl (by kernel_rfl) (by decide) (fun K hK => ?_)
  refine skip_ (w1 := w5.setCells tf 0 (#[.int .i64 1, .int .i64 0, .int .i64 10, .int .i64 80] : Array Value).toList) (by rfl) rfl (run_stfl _ _ _ tf _ #[.int .i64 1, .int .i64 0, .int .i64 10, .int .i64 80] (.tmp 4) (.tmp 37) rfl rfl rfl HF.out rfl rfl (by simp [Value.oneCell'])) ?_
  have hg_ := setCells_grown (#[.int .i64 1, .int .i64 0, .int .i64 10, .int .i64 80] : Array Value).toList 0 w5 tf
  have n0_ := Aside0.mk (HB.out.grown hg_ (below_size HB.out) (fun q hq => by injection hq with hq; have h0_ := HFE.out; have h1_ := HTE.out; have h2_ := HOE.out; omega))
  have n1_ := Aside0.mk (HK.out.grown hg_ (by intro e; injection e with e; have h0_ := HFE.out; have h1_ := HTE.out; have h2_ := HOE.out; omega))
  have n2_ := Aside0.mk (HU.out.grown hg_ (by intro e; injection e with e; have h0_ := HFE.out; have h1_ := HTE.out; have h2_ := HOE.out; omega))
  have n3_ := Aside0.mk (HO.out.grown hg_ (by intro e; injection e with e; have h0_ := HFE.out; have h1_ := HTE.out; have h2_ := HOE.out; omega))
  have n4_ := Aside0.mk (HT.out.grown hg_ (by intro e; injection e with e; have h0_ := HFE.out; have h1_ := HTE.out; have h2_ := HOE.out; omega))
  have m_ : Aside0 (Blk (w5.setCells tf 0 (#[.int .i64 1, .int .i64 0, .int .i64 10, .int .i64 80] : Array Value).toList) tf 36 #[.int .i64 1, .int .i64 0, .int .i64 10, .int .i64 80]) := ⟨setCells_blk _ _ HF.out⟩
  clear hHeld hg_ HB HK HU HO HT HF
  generalize w5.setCells tf 0 (#[.int .i64 1, .int .i64 0, .int .i64 10, .int .i64 80] : Array Value).toList = w6 at n0_ n1_ n2_ n3_ n4_ m_ ⊢
  have HB := n0_
  have HK := n1_
  have HU := n2_
  have HO := n3_
  have HT := n4_
  have HF := m_
  clear n0_ n1_ n2_ n3_ n4_ m_
  refine hK.out _ _ ⟨(blk_cell HK.out 3).trans rfl, (blk_cell HK.out 5).trans rfl, (by have h_ := (blk_cell HT.out 1).trans (show _ = some (Value.int .i64 p.addr) from rfl); rw [HA.out] at h_; exact h_), (by have h_ := (blk_cell HT.out 2).trans (show _ = some (Value.int .i64 p.port) from rfl); rw [HPT.out] at h_; exact h_)⟩ (fun hHeld => ?_)
  clear hK K
  refine done_ (by kernel_rfl) ?_
  clear hHeld
  have HFE2 : Aside0 (tq < tf) := ⟨by have h_ := HFE.out; have h1_ := HTE.out; omega⟩
  clear HT HTE HFE
  have f0 : w6.cell? ⟨tf, 0, none⟩ = some (.int .i64 1) := (blk_cell HF.out 0).trans rfl
  have f1 : w6.cell? ⟨tf, 1, none⟩ = some (.int .i64 0) := (blk_cell HF.out 1).trans rfl
  have f2 : w6.cell? ⟨tf, 2, none⟩ = some (.int .i64 10) := (blk_cell HF.out 2).trans rfl
  have f3 : w6.cell? ⟨tf, 3, none⟩ = some (.int .i64 80) := (blk_cell HF.out 3).trans rfl
  go_upto_region 6 with (first
    | (go_at_call 71; (with_reducible refine (carried_known p HPL.out nr HNR.out _ k gu Bv 1 0 10 80 _ HU.out HK.out).mono ?_); rintro e_ w7 ⟨rfl, hb_⟩; clear f0 f1 f2 f3; have n0_ := Aside0.mk (below_step HB.out hb_); have n1_ := Aside0.mk (HU.out.below hb_); have n2_ := Aside0.mk (HK.out.below hb_); have n3_ := Aside0.mk (HO.out.below hb_); have n4_ := Aside0.mk (HF.out.below hb_); clear HB HU HK HO HF; have HB := n0_; have HU := n1_; have HK := n2_; have HO := n3_; have HF := n4_; clear n0_ n1_ n2_ n3_ n4_; clear hb_))
  have hb_ := below_drew1 (Below.refl w7.heap.size w7)
  have n0_ := Aside0.mk (below_step HB.out hb_)
  have n1_ := Aside0.mk (HU.out.below hb_)
  have n2_ := Aside0.mk (HK.out.below hb_)
  have n3_ := Aside0.mk (HO.out.below hb_)
  have n4_ := Aside0.mk (HF.out.below hb_)
  clear HB HU HK HO HF
  have HB := n0_
  have HU := n1_
  have HK := n2_
  have HO := n3_
  have HF := n4_
  clear n0_ n1_ n2_ n3_ n4_
  clear hb_
  refine start_ (n := 10) (S := fun w' => w'.cell? ⟨k, 13, none⟩ = some (.pointer (some ⟨gu, 0, none⟩)) ∧ w'.cell? ⟨gu, 459, none⟩ = some (.slice Aw 127 cw) ∧ w'.cell? ⟨tf, 0, none⟩ = some (.int .i64 1) ∧ w'.cell? ⟨tf, 1, none⟩ = some (.int .i64 0) ∧ w'.cell? ⟨tf, 2, none⟩ = some (.int .i64 10) ∧ w'.cell? ⟨tf, 3, none⟩ = some (.int .i64 80)) (ds := []) #[false, false, false, false, false, false, false, false, false, false] (by kernel_rfl) rfl rfl ⟨(blk_cell HK.out 13).trans rfl, (blk_cell HU.out 459).trans (PLN_ws HPL.out HNR.out), (blk_cell HF.out 0).trans rfl, (blk_cell HF.out 1).trans rfl, (blk_cell HF.out 2).trans rfl, (blk_cell HF.out 3).trans rfl⟩ (fun hHeld => ?_)
  generalize w7.drew = w8 at HB HU HK HO HF hHeld ⊢
  refine pure_ (i := 0) (N := some 54) (v := ?_) (a' := ?_) #[true, false, false, false, false, false, false, false, false, false] rfl rfl (by kernel_rfl) (fun _ _ _ h => h) (Or.inl ⟨by rfl, ?_⟩) ?_ ?_
  rotate_left
  · intro w'
    go_simp
    with_reducible rfl
  rotate_left
  · simp only [Act.put, List.setIfInBounds_toArray, List.set_cons_zero, List.set_cons_succ, i64_w, i32_w]
    rfl
  refine pure_ (i := 1) (N := some 55) (v := ?_) (a' := ?_) #[true, true, false, false, false, false, false, false, false, false] rfl rfl (by kernel_rfl) (fun _ _ _ h => h) (Or.inl ⟨by rfl, ?_⟩) ?_ ?_
  rotate_left
  · intro w'
    go_simp
    with_reducible rfl
  rotate_left
  · simp only [Act.put, List.setIfInBounds_toArray, List.set_cons_zero, List.set_cons_succ, i64_w, i32_w]
    rfl
  refine pure_ (i := 2) (N := some 56) (v := ?_) (a' := ?_) #[true, true, true, false, false, false, false, false, false, false] rfl rfl (by kernel_rfl) (fun _ _ _ h => h) (Or.inl ⟨by rfl, ?_⟩) ?_ ?_
  rotate_left
  · intro w'
    go_simp
    with_reducible rfl
  rotate_left
  · simp only [Act.put, List.setIfInBounds_toArray, List.set_cons_zero, List.set_cons_succ, i64_w, i32_w]
    rfl
  refine take_ (i := 3) (N := some 57) (v := ?_) (a' := ?_) #[true, true, true, true, false, false, false, false, false, false] rfl rfl (by kernel_rfl) (fun _ _ _ h => h) (Or.inl ⟨by rfl, ?_⟩) hHeld ?_ ?_
  rotate_left
  · rintro w' ⟨s0, s1, s2, s3, s4, s5⟩
    go_simp
    with_reducible rfl
  rotate_left
  · simp only [Act.put, List.setIfInBounds_toArray, List.set_cons_zero, List.set_cons_succ, i64_w, i32_w]
    rfl
  refine pure_ (i := 4) (N := some 58) (v := ?_) (a' := ?_) #[true, true, true, true, true, false, false, false, false, false] rfl rfl (by kernel_rfl) (fun _ _ _ h => h) (Or.inl ⟨by rfl, ?_⟩) ?_ ?_
  rotate_left
  · intro w'
    go_simp
    with_reducible rfl
  rotate_left
  · simp only [Act.put, List.setIfInBounds_toArray, List.set_cons_zero, List.set_cons_succ, i64_w, i32_w]
    rfl
  refine pure_ (i := 5) (N := some 59) (v := ?_) (a' := ?_) #[true, true, true, true, true, true, false, false, false, false] rfl rfl (by kernel_rfl) (fun _ _ _ h => h) (Or.inl ⟨by rfl, ?_⟩) ?_ ?_
  rotate_left
  · intro w'
    go_simp
    with_reducible rfl
  rotate_left
  · simp only [Act.put, List.setIfInBounds_toArray, List.set_cons_zero, List.set_cons_succ, i64_w, i32_w]
    rfl
  refine take_ (i := 6) (N := some 60) (v := ?_) (a' := ?_) #[true, true, true, true, true, true, true, false, false, false] rfl rfl (by kernel_rfl) (fun _ _ _ h => h) (Or.inl ⟨by rfl, ?_⟩) hHeld ?_ ?_
  rotate_left
  · rintro w' ⟨s0, s1, s2, s3, s4, s5⟩
    go_simp
    with_reducible rfl
  rotate_left
  · simp only [Act.put, List.setIfInBounds_toArray, List.set_cons_zero, List.set_cons_succ, i64_w, i32_w]
    rfl
  refine take_ (i := 7) (N := some 61) (v := ?_) (a' := ?_) #[true, true, true, true, true, true, true, true, false, false] rfl rfl (by kernel_rfl) (fun _ _ _ h => h) (Or.inl ⟨by rfl, ?_⟩) hHeld ?_ ?_
  rotate_left
  · rintro w' ⟨s0, s1, s2, s3, s4, s5⟩
    go_simp
    with_reducible rfl
  rotate_left
  · simp only [Act.put, List.setIfInBounds_toArray, List.set_cons_zero, List.set_cons_succ, i64_w, i32_w]
    rfl
  refine one_ (i := 8) (N := some 62) #[true, true, true, true, true, true, true, true, true, false] rfl rfl (by kernel_rfl) (by decide) (fun K hK => ?_)
  refine goes_ Try.func68 (by kernel_rfl) rfl #[.slice Aw 127 cw, .agg #[.int .i64 1, .int .i64 0, .int .i64 10, .int .i64 80]] (by rfl) rfl rfl (by simp only [List.map_toArray, List.map_cons, List.map_nil]; rfl) ?_
  refine (pick_known (Kd.C_below HW.out HB.out) HCW.out).mono ?_
  rintro e_ w9 ⟨rfl, hb_⟩
  refine ⟨_, rfl, ?_⟩
  have n0_ := Aside0.mk (below_step HB.out hb_)
  have n1_ := Aside0.mk (HU.out.below hb_)
  have n2_ := Aside0.mk (HK.out.below hb_)
  have n3_ := Aside0.mk (HO.out.below hb_)
  have n4_ := Aside0.mk (HF.out.below hb_)
  clear HB HU HK HO HF
  have HB := n0_
  have HU := n1_
  have HK := n2_
  have HO := n3_
  have HF := n4_
  clear n0_ n1_ n2_ n3_ n4_
  clear hb_ hHeld
  refine hK.out _ _ ⟨(blk_cell HK.out 13).trans rfl, (blk_cell HU.out 459).trans (PLN_ws HPL.out HNR.out), (blk_cell HF.out 0).trans rfl, (blk_cell HF.out 1).trans rfl, (blk_cell HF.out 2).trans rfl, (blk_cell HF.out 3).trans rfl⟩ (fun hHeld => ?_)
  clear hK K
  refine norm_ (a' := ?_) ?_ ?_
  rotate_left
  · show Act.put _ (some 62) _ = _
    simp only [Act.put, List.setIfInBounds_toArray, List.set_cons_zero, List.set_cons_succ, i64_w, i32_w]
    rfl
  refine pure_ (i := 9) (N := some 5) (v := ?_) (a' := ?_) #[true, true, true, true, true, true, true, true, true, true] rfl rfl (by kernel_rfl) (fun _ _ _ h => h) (Or.inl ⟨by rfl, ?_⟩) ?_ ?_
  rotate_left
  · intro w'
    go_simp
    with_reducible rfl
  rotate_left
  · simp only [Act.put, List.setIfInBounds_toArray, List.set_cons_zero, List.set_cons_succ, i64_w, i32_w]
    rfl
  refine done_ (by kernel_rfl) ?_
  clear hHeld
  go_wp2_with (first
    | (go_at_call 40; (with_reducible refine (drop_known 9 _).mono ?_); rintro e_ wA ⟨Ad, nd, cd, rfl, hb_⟩; have n0_ := Aside0.mk (below_step HB.out hb_); have n1_ := Aside0.mk (HO.out.below hb_); clear HB HO; have HB := n0_; have HO := n1_; clear n0_ n1_; clear hb_)
    | ((with_reducible refine gate_store (t := 60) (p := 2) rfl ?_); refine stm_event rfl rfl 60 (.tmp 2) (.tmp 65) rfl rfl rfl HO.out (Nat.le_refl _) (by kernel_rfl) (by simp [Value.oneCell']) ?_; intro wB hb_ hg_; have HR : Aside0 (Blk wB tq 60 #[.int .i64 9, .int .i64 (-1), .bool false, .slice Ad nd cd]) := ⟨hb_⟩; have n0_ := Aside0.mk (HB.out.grown hg_ (below_size HB.out) (fun q hq => by injection hq with hq; have h2_ := HOE.out; omega)); clear hb_ hg_ HB; have HB := n0_; clear n0_))
  refine bodyPost_ret (results_cell_row rfl _ _ tq 60 #[.int .i64 9, .int .i64 (-1), .bool false, .slice Ad nd cd] (0, 0) _ rfl HR.out Try.underlying60 rfl (by kernel_rfl)) rfl ?_
  exact ⟨Ad, nd, cd, rfl, HB.out⟩
set_option maxHeartbeats 16000000 in
set_option maxRecDepth 100000 in
theorem take_known (p : PL) (hp : p.sl.length = 64) (ha : p.addr = 10) (hpt : p.port = 80) (nr : List Value) (hn : nr.length = 128) (Aw : Option Addr) (cw : Nat) (hcw : 127 ≤ cw) (gu : Nat) (ad : Addr) (c : Nat) (W : World) (hU : Blk W gu 88 (PLN p true nr (.slice Aw 127 cw))) (hW : Kd.C (Kd.int .i64) W Aw 127 (nob 127)) (hC : Kd.C (Kd.int .u8) W (some ad) 24 bytes0) (hc : 24 ≤ c) : Calls Try.prog 17 #[.pointer (some ⟨gu, 0, none⟩), .slice (some ad) 24 c] W fun e w' => ∃ (Ad : Option Addr) (nd cd : Nat), e = .returned (.agg #[.int .i64 9, .int .i64 (-1), .bool false, .slice Ad nd cd]) ∧ Below W.heap.size W w' := by
  have hu60 := Try.underlying60
  have hu58 := Try.underlying58
  have hu99 := Try.underlying99
  have HPL := Aside0.mk hp
  have HA := Aside0.mk ha
  have HPT := Aside0.mk hpt
  have HNR := Aside0.mk hn
  have HCW := Aside0.mk hcw
  have HU := Aside0.mk hU
  have HW := Aside0.mk hW
  have HC := Aside0.mk hC
  have HCC := Aside0.mk hc
  clear hp ha hpt hn hcw hU hW hC hc
  go_enter Try.func17, Try.ntmps17
  go_upto_region 16 with (first
    | ((with_reducible refine gate_dst (N := 4) rfl ?_); refine box_event rfl (N := 4) rfl (cs := #[.int .i64 0, .int .i64 0, .bool false, .slice none 0 0]) (t := 60) (run_out _ _ _ rfl) ?_; intro tq h_ w1 hbx_ hb_; have HO := Aside0.mk (show Blk w1 tq 60 #[.int .i64 0, .int .i64 0, .bool false, .slice none 0 0] from hbx_); have HOE : Aside0 (W.heap.size ≤ tq ∧ gu < tq) := ⟨by have h2_ := HU.out.lt; omega⟩; have HB := Aside0.mk hb_; have n0_ := Aside0.mk (HU.out.below hb_); clear HU; have HU := n0_; clear n0_; clear h_ hbx_ hb_; have u330 : w1.cell? ⟨gu, 330, none⟩ = some (.bool true) := (blk_cell HU.out 330).trans (PLN_is HPL.out))
    | (go_at_call 41; (with_reducible refine (parse_known (some ad) c _ (Kd.C_below HC.out HB.out) HCC.out).mono ?_); rintro e_ w2 ⟨rfl, hb_⟩; clear u330; have n0_ := Aside0.mk (below_step HB.out hb_); have n1_ := Aside0.mk (HU.out.below hb_); have n2_ := Aside0.mk (HO.out.below hb_); clear HB HU HO; have HB := n0_; have HU := n1_; have HO := n2_; clear n0_ n1_ n2_; clear hb_)
    | ((with_reducible refine gate_dst (N := 5) rfl ?_); refine box_event rfl (N := 5) rfl (cs := #[.int .i64 0, .int .i64 0, .int .i64 0, .int .i64 0, .int .i64 0, .int .i64 0, .int .i64 0, .int .i64 0, .int .i64 0, .bool false, .int .i64 0, .slice none 0 0, .slice none 0 0]) (t := 58) (run_pk _ _ _ rfl) ?_; intro g h_ w3 hbx_ hb_; have HP := Aside0.mk (show Blk w3 g 58 #[.int .i64 0, .int .i64 0, .int .i64 0, .int .i64 0, .int .i64 0, .int .i64 0, .int .i64 0, .int .i64 0, .int .i64 0, .bool false, .int .i64 0, .slice none 0 0, .slice none 0 0] from hbx_); have HPE : Aside0 (tq < g) := ⟨by rw [h_]; exact HO.out.lt⟩; have n0_ := Aside0.mk (below_step HB.out hb_); have n1_ := Aside0.mk (HU.out.below hb_); have n2_ := Aside0.mk (HO.out.below hb_); clear HB HU HO; have HB := n0_; have HU := n1_; have HO := n2_; clear n0_ n1_ n2_; clear h_ hbx_ hb_)
    | ((with_reducible refine gate_store (t := 58) (p := 5) rfl ?_); refine stm_event rfl rfl 58 (.tmp 5) (.tmp 20) rfl rfl rfl HP.out (Nat.le_refl _) (by kernel_rfl) (by simp [Value.oneCell']) ?_; intro w4 hb_ hg_; have m_ : Aside0 (Blk w4 g 58 #[.int .i64 2, .int .i64 9, .int .i64 0, .int .i64 1, .int .i64 10, .int .i64 0, .int .i64 80, .int .i64 0, .int .i64 0, .bool false, .int .i64 0, .slice none 0 0, .slice none 0 0]) := ⟨by rw [show setMany #[.int .i64 0, .int .i64 0, .int .i64 0, .int .i64 0, .int .i64 0, .int .i64 0, .int .i64 0, .int .i64 0, .int .i64 0, .bool false, .int .i64 0, .slice none 0 0, .slice none 0 0] 0 (#[.int .i64 2, .int .i64 9, .int .i64 0, .int .i64 1, .int .i64 10, .int .i64 0, .int .i64 80, .int .i64 0, .int .i64 0, .bool false, .int .i64 0, .slice none 0 0, .slice none 0 0] : Array Value).toList = #[.int .i64 2, .int .i64 9, .int .i64 0, .int .i64 1, .int .i64 10, .int .i64 0, .int .i64 80, .int .i64 0, .int .i64 0, .bool false, .int .i64 0, .slice none 0 0, .slice none 0 0] from by kernel_rfl] at hb_; exact hb_⟩; have n0_ := Aside0.mk (HB.out.grown hg_ (below_size HB.out) (fun q hq => by injection hq with hq; have h1_ := HPE.out; have h2_ := HOE.out; omega)); have n1_ := Aside0.mk (HU.out.grown hg_ (by intro e; injection e with e; have h1_ := HPE.out; have h2_ := HOE.out; omega)); have n2_ := Aside0.mk (HO.out.grown hg_ (by intro e; injection e with e; have h1_ := HPE.out; omega)); clear hb_ hg_; clear HP HB HU HO; have HP := m_; have HB := n0_; have HU := n1_; have HO := n2_; clear m_ n0_ n1_ n2_; have c0 : w4.cell? ⟨g, 0, none⟩ = some (.int .i64 2) := (blk_cell HP.out 0).trans rfl; have c1 : w4.cell? ⟨g, 1, none⟩ = some (.int .i64 9) := (blk_cell HP.out 1).trans rfl; have c2 : w4.cell? ⟨g, 2, none⟩ = some (.int .i64 0) := (blk_cell HP.out 2).trans rfl; have c3 : w4.cell? ⟨g, 3, none⟩ = some (.int .i64 1) := (blk_cell HP.out 3).trans rfl; have c4 : w4.cell? ⟨g, 4, none⟩ = some (.int .i64 10) := (blk_cell HP.out 4).trans rfl; have c5 : w4.cell? ⟨g, 5, none⟩ = some (.int .i64 0) := (blk_cell HP.out 5).trans rfl; have c6 : w4.cell? ⟨g, 6, none⟩ = some (.int .i64 80) := (blk_cell HP.out 6).trans rfl; have c7 : w4.cell? ⟨g, 7, none⟩ = some (.int .i64 0) := (blk_cell HP.out 7).trans rfl; have c8 : w4.cell? ⟨g, 8, none⟩ = some (.int .i64 0) := (blk_cell HP.out 8).trans rfl; have c9 : w4.cell? ⟨g, 9, none⟩ = some (.bool false) := (blk_cell HP.out 9).trans rfl; have c10 : w4.cell? ⟨g, 10, none⟩ = some (.int .i64 0) := (blk_cell HP.out 10).trans rfl; have c11 : w4.cell? ⟨g, 11, none⟩ = some (.slice none 0 0) := (blk_cell HP.out 11).trans rfl; have c12 : w4.cell? ⟨g, 12, none⟩ = some (.slice none 0 0) := (blk_cell HP.out 12).trans rfl)
    | ((with_reducible refine gate_dst (N := 41) rfl ?_); refine any_box rfl rfl rfl ?_; intro k h_ w5 hbx_ hb_; have HK : Aside0 (Blk w5 k 99 #[.int .i64 2, .int .i64 9, .int .i64 0, .int .i64 1, .int .i64 10, .int .i64 0, .int .i64 80, .int .i64 0, .int .i64 0, .bool false, .int .i64 0, .slice none 0 0, .slice none 0 0, .pointer (some ⟨gu, 0, none⟩), .slice (some ad) 24 c]) := ⟨hbx_⟩; have HKE : Aside0 (g < k) := ⟨by rw [h_]; exact HP.out.lt⟩; clear c0 c1 c2 c3 c4 c5 c6 c7 c8 c9 c10 c11 c12; have n0_ := Aside0.mk (below_step HB.out hb_); have n1_ := Aside0.mk (HU.out.below hb_); have n2_ := Aside0.mk (HO.out.below hb_); have n3_ := Aside0.mk (HP.out.below hb_); clear HB HU HO HP; have HB := n0_; have HU := n1_; have HO := n2_; have HP := n3_; clear n0_ n1_ n2_ n3_; clear h_ hbx_ hb_)
    | (go_at_call 43; (with_reducible refine (age_known ad c _ (Kd.C_below HC.out HB.out) HCC.out).mono ?_); rintro e_ w6 ⟨gb, cb, rfl, hb_⟩; have n0_ := Aside0.mk (below_step HB.out hb_); have n1_ := Aside0.mk (HU.out.below hb_); have n2_ := Aside0.mk (HO.out.below hb_); have n3_ := Aside0.mk (HP.out.below hb_); have n4_ := Aside0.mk (HK.out.below hb_); clear HB HU HO HP HK; have HB := n0_; have HU := n1_; have HO := n2_; have HP := n3_; have HK := n4_; clear n0_ n1_ n2_ n3_ n4_; clear hb_)
    | (go_at_call 42; (with_reducible refine (then_known k gu ad 24 c (some ⟨gb, 0, none⟩) 24 cb _ HK.out).mono ?_); rintro e_ w7 ⟨rfl, hk_, hg_⟩; have n0_ := Aside0.mk (HB.out.grown hg_ (below_size HB.out) (fun q hq => by injection hq with hq; have h0_ := HKE.out; have h1_ := HPE.out; have h2_ := HOE.out; omega)); have n1_ := Aside0.mk (HU.out.grown hg_ (by intro e; injection e with e; have h0_ := HKE.out; have h1_ := HPE.out; have h2_ := HOE.out; omega)); have n2_ := Aside0.mk (HO.out.grown hg_ (by intro e; injection e with e; have h0_ := HKE.out; have h1_ := HPE.out; omega)); have n3_ := Aside0.mk (HP.out.grown hg_ (by intro e; injection e with e; have h0_ := HKE.out; omega)); have m_ := Aside0.mk hk_; clear hk_ hg_; clear HB HU HO HP HK; have HB := n0_; have HU := n1_; have HO := n2_; have HP := n3_; have HK := m_; clear n0_ n1_ n2_ n3_ m_; have c0 : w7.cell? ⟨g, 0, none⟩ = some (.int .i64 2) := (blk_cell HP.out 0).trans rfl))
  clear c0
  have hb_ := below_drew1 (Below.refl w7.heap.size w7)
  have n0_ := Aside0.mk (below_step HB.out hb_)
  have n1_ := Aside0.mk (HU.out.below hb_)
  have n2_ := Aside0.mk (HO.out.below hb_)
  have n3_ := Aside0.mk (HP.out.below hb_)
  have n4_ := Aside0.mk (HK.out.below hb_)
  clear HB HU HO HP HK
  have HB := n0_
  have HU := n1_
  have HO := n2_
  have HP := n3_
  have HK := n4_
  clear n0_ n1_ n2_ n3_ n4_
  clear hb_
  refine start_ (n := 20) (S := fun w' => w'.cell? ⟨g, 4, none⟩ = some (.int .i64 10) ∧ w'.cell? ⟨g, 6, none⟩ = some (.int .i64 80) ∧ w'.cell? ⟨gu, 1, none⟩ = some (.int .i64 10) ∧ w'.cell? ⟨gu, 2, none⟩ = some (.int .i64 80)) (ds := []) #[false, false, false, false, false, false, false, false, false, false, false, false, false, false, false, false, false, false, false, false] (by kernel_rfl) rfl rfl ⟨(blk_cell HP.out 4).trans rfl, (blk_cell HP.out 6).trans rfl, (by have h_ := (blk_cell HU.out 1).trans ((PLN_low HPL.out 1 (by decide)).trans (show _ = some (Value.int .i64 p.addr) from rfl)); rw [HA.out] at h_; exact h_), (by have h_ := (blk_cell HU.out 2).trans ((PLN_low HPL.out 2 (by decide)).trans (show _ = some (Value.int .i64 p.port) from rfl)); rw [HPT.out] at h_; exact h_)⟩ (fun hHeld => ?_)
  generalize w7.drew = w8 at HB HU HO HP HK hHeld ⊢
  refine pure_ (i := 0) (N := some 63) (v := ?_) (a' := ?_) #[true, false, false, false, false, false, false, false, false, false, false, false, false, false, false, false, false, false, false, false] rfl rfl (by kernel_rfl) (fun _ _ _ h => h) (Or.inl ⟨by rfl, ?_⟩) ?_ ?_
  rotate_left
  · intro w'
    go_simp
    with_reducible rfl
  rotate_left
  · simp only [Act.put, List.setIfInBounds_toArray, List.set_cons_zero, List.set_cons_succ, i64_w, i32_w]
    rfl
  refine pure_ (i := 2) (N := some 65) (v := ?_) (a' := ?_) #[true, false, true, false, false, false, false, false, false, false, false, false, false, false, false, false, false, false, false, false] rfl rfl (by kernel_rfl) (fun _ _ _ h => h) (Or.inl ⟨by rfl, ?_⟩) ?_ ?_
  rotate_left
  · intro w'
    go_simp
    with_reducible rfl
  rotate_left
  · simp only [Act.put, List.setIfInBounds_toArray, List.set_cons_zero, List.set_cons_succ, i64_w, i32_w]
    rfl
  refine pure_ (i := 3) (N := some 66) (v := ?_) (a' := ?_) #[true, false, true, true, false, false, false, false, false, false, false, false, false, false, false, false, false, false, false, false] rfl rfl (by kernel_rfl) (fun _ _ _ h => h) (Or.inl ⟨by rfl, ?_⟩) ?_ ?_
  rotate_left
  · intro w'
    go_simp
    with_reducible rfl
  rotate_left
  · simp only [Act.put, List.setIfInBounds_toArray, List.set_cons_zero, List.set_cons_succ, i64_w, i32_w]
    rfl
  refine pure_ (i := 4) (N := some 67) (v := ?_) (a' := ?_) #[true, false, true, true, true, false, false, false, false, false, false, false, false, false, false, false, false, false, false, false] rfl rfl (by kernel_rfl) (fun _ _ _ h => h) (Or.inl ⟨by rfl, ?_⟩) ?_ ?_
  rotate_left
  · intro w'
    go_simp
    with_reducible rfl
  rotate_left
  · simp only [Act.put, List.setIfInBounds_toArray, List.set_cons_zero, List.set_cons_succ, i64_w, i32_w]
    rfl
  refine pure_ (i := 5) (N := some 68) (v := ?_) (a' := ?_) #[true, false, true, true, true, true, false, false, false, false, false, false, false, false, false, false, false, false, false, false] rfl rfl (by kernel_rfl) (fun _ _ _ h => h) (Or.inl ⟨by rfl, ?_⟩) ?_ ?_
  rotate_left
  · intro w'
    go_simp
    with_reducible rfl
  rotate_left
  · simp only [Act.put, List.setIfInBounds_toArray, List.set_cons_zero, List.set_cons_succ, i64_w, i32_w]
    rfl
  refine pure_ (i := 6) (N := some 69) (v := ?_) (a' := ?_) #[true, false, true, true, true, true, true, false, false, false, false, false, false, false, false, false, false, false, false, false] rfl rfl (by kernel_rfl) (fun _ _ _ h => h) (Or.inl ⟨by rfl, ?_⟩) ?_ ?_
  rotate_left
  · intro w'
    go_simp
    with_reducible rfl
  rotate_left
  · simp only [Act.put, List.setIfInBounds_toArray, List.set_cons_zero, List.set_cons_succ, i64_w, i32_w]
    rfl
  refine take_ (i := 1) (N := some 64) (v := ?_) (a' := ?_) #[true, true, true, true, true, true, true, false, false, false, false, false, false, false, false, false, false, false, false, false] rfl rfl (by kernel_rfl) (fun _ _ _ h => h) (Or.inl ⟨by rfl, ?_⟩) hHeld ?_ ?_
  rotate_left
  · rintro w' ⟨s0, s1, s2, s3⟩
    go_simp
    with_reducible rfl
  rotate_left
  · simp only [Act.put, List.setIfInBounds_toArray, List.set_cons_zero, List.set_cons_succ, i64_w, i32_w]
    rfl
  refine take_ (i := 7) (N := some 70) (v := ?_) (a' := ?_) #[true, true, true, true, true, true, true, true, false, false, false, false, false, false, false, false, false, false, false, false] rfl rfl (by kernel_rfl) (fun _ _ _ h => h) (Or.inl ⟨by rfl, ?_⟩) hHeld ?_ ?_
  rotate_left
  · rintro w' ⟨s0, s1, s2, s3⟩
    go_simp
    with_reducible rfl
  rotate_left
  · simp only [Act.put, List.setIfInBounds_toArray, List.set_cons_zero, List.set_cons_succ, i64_w, i32_w]
    rfl
  refine pure_ (i := 8) (N := some 71) (v := ?_) (a' := ?_) #[true, true, true, true, true, true, true, true, true, false, false, false, false, false, false, false, false, false, false, false] rfl rfl (by kernel_rfl) (fun _ _ _ h => h) (Or.inl ⟨by rfl, ?_⟩) ?_ ?_
  rotate_left
  · intro w'
    go_simp
    with_reducible rfl
  rotate_left
  · simp only [Act.put, List.setIfInBounds_toArray, List.set_cons_zero, List.set_cons_succ, i64_w, i32_w]
    rfl
  refine pure_ (i := 9) (N := some 72) (v := ?_) (a' := ?_) #[true, true, true, true, true, true, true, true, true, true, false, false, false, false, false, false, false, false, false, false] rfl rfl (by kernel_rfl) (fun _ _ _ h => h) (Or.inl ⟨by rfl, ?_⟩) ?_ ?_
  rotate_left
  · intro w'
    go_simp
    with_reducible rfl
  rotate_left
  · simp only [Act.put, List.setIfInBounds_toArray, List.set_cons_zero, List.set_cons_succ, i64_w, i32_w]
    rfl
  refine pure_ (i := 10) (N := some 73) (v := ?_) (a' := ?_) #[true, true, true, true, true, true, true, true, true, true, true, false, false, false, false, false, false, false, false, false] rfl rfl (by kernel_rfl) (fun _ _ _ h => h) (Or.inl ⟨by rfl, ?_⟩) ?_ ?_
  rotate_left
  · intro w'
    go_simp
    with_reducible rfl
  rotate_left
  · simp only [Act.put, List.setIfInBounds_toArray, List.set_cons_zero, List.set_cons_succ, i64_w, i32_w]
    rfl
  refine pure_ (i := 12) (N := some 75) (v := ?_) (a' := ?_) #[true, true, true, true, true, true, true, true, true, true, true, false, true, false, false, false, false, false, false, false] rfl rfl (by kernel_rfl) (fun _ _ _ h => h) (Or.inl ⟨by rfl, ?_⟩) ?_ ?_
  rotate_left
  · intro w'
    go_simp
    with_reducible rfl
  rotate_left
  · simp only [Act.put, List.setIfInBounds_toArray, List.set_cons_zero, List.set_cons_succ, i64_w, i32_w]
    rfl
  refine pure_ (i := 13) (N := some 76) (v := ?_) (a' := ?_) #[true, true, true, true, true, true, true, true, true, true, true, false, true, true, false, false, false, false, false, false] rfl rfl (by kernel_rfl) (fun _ _ _ h => h) (Or.inl ⟨by rfl, ?_⟩) ?_ ?_
  rotate_left
  · intro w'
    go_simp
    with_reducible rfl
  rotate_left
  · simp only [Act.put, List.setIfInBounds_toArray, List.set_cons_zero, List.set_cons_succ, i64_w, i32_w]
    rfl
  refine pure_ (i := 14) (N := some 77) (v := ?_) (a' := ?_) #[true, true, true, true, true, true, true, true, true, true, true, false, true, true, true, false, false, false, false, false] rfl rfl (by kernel_rfl) (fun _ _ _ h => h) (Or.inl ⟨by rfl, ?_⟩) ?_ ?_
  rotate_left
  · intro w'
    go_simp
    with_reducible rfl
  rotate_left
  · simp only [Act.put, List.setIfInBounds_toArray, List.set_cons_zero, List.set_cons_succ, i64_w, i32_w]
    rfl
  refine pure_ (i := 15) (N := some 78) (v := ?_) (a' := ?_) #[true, true, true, true, true, true, true, true, true, true, true, false, true, true, true, true, false, false, false, false] rfl rfl (by kernel_rfl) (fun _ _ _ h => h) (Or.inl ⟨by rfl, ?_⟩) ?_ ?_
  rotate_left
  · intro w'
    go_simp
    with_reducible rfl
  rotate_left
  · simp only [Act.put, List.setIfInBounds_toArray, List.set_cons_zero, List.set_cons_succ, i64_w, i32_w]
    rfl
  refine pure_ (i := 16) (N := some 79) (v := ?_) (a' := ?_) #[true, true, true, true, true, true, true, true, true, true, true, false, true, true, true, true, true, false, false, false] rfl rfl (by kernel_rfl) (fun _ _ _ h => h) (Or.inl ⟨by rfl, ?_⟩) ?_ ?_
  rotate_left
  · intro w'
    go_simp
    with_reducible rfl
  rotate_left
  · simp only [Act.put, List.setIfInBounds_toArray, List.set_cons_zero, List.set_cons_succ, i64_w, i32_w]
    rfl
  refine take_ (i := 11) (N := some 74) (v := ?_) (a' := ?_) #[true, true, true, true, true, true, true, true, true, true, true, true, true, true, true, true, true, false, false, false] rfl rfl (by kernel_rfl) (fun _ _ _ h => h) (Or.inl ⟨by rfl, ?_⟩) hHeld ?_ ?_
  rotate_left
  · rintro w' ⟨s0, s1, s2, s3⟩
    go_simp
    with_reducible rfl
  rotate_left
  · simp only [Act.put, List.setIfInBounds_toArray, List.set_cons_zero, List.set_cons_succ, i64_w, i32_w]
    rfl
  refine take_ (i := 17) (N := some 80) (v := ?_) (a' := ?_) #[true, true, true, true, true, true, true, true, true, true, true, true, true, true, true, true, true, true, false, false] rfl rfl (by kernel_rfl) (fun _ _ _ h => h) (Or.inl ⟨by rfl, ?_⟩) hHeld ?_ ?_
  rotate_left
  · rintro w' ⟨s0, s1, s2, s3⟩
    go_simp
    with_reducible rfl
  rotate_left
  · simp only [Act.put, List.setIfInBounds_toArray, List.set_cons_zero, List.set_cons_succ, i64_w, i32_w]
    rfl
  refine pure_ (i := 18) (N := some 81) (v := ?_) (a' := ?_) #[true, true, true, true, true, true, true, true, true, true, true, true, true, true, true, true, true, true, true, false] rfl rfl (by kernel_rfl) (fun _ _ _ h => h) (Or.inl ⟨by rfl, ?_⟩) ?_ ?_
  rotate_left
  · intro w'
    go_simp
    with_reducible rfl
  rotate_left
  · simp only [Act.put, List.setIfInBounds_toArray, List.set_cons_zero, List.set_cons_succ, i64_w, i32_w]
    rfl
  refine pure_ (i := 19) (N := some 82) (v := ?_) (a' := ?_) #[true, true, true, true, true, true, true, true, true, true, true, true, true, true, true, true, true, true, true, true] rfl rfl (by kernel_rfl) (fun _ _ _ h => h) (Or.inl ⟨by rfl, ?_⟩) ?_ ?_
  rotate_left
  · intro w'
    go_simp
    with_reducible rfl
  rotate_left
  · simp only [Act.put, List.setIfInBounds_toArray, List.set_cons_zero, List.set_cons_succ, i64_w, i32_w]
    rfl
  refine done_ (by kernel_rfl) ?_
  clear hHeld
  go_wp2_with (first
    | (go_at_call 45; (with_reducible refine (in_known p HPL.out HA.out HPT.out nr HNR.out Aw cw HCW.out k gu _ _ HU.out HK.out (Kd.C_below HW.out HB.out)).mono ?_); rintro e_ w9 ⟨Ad, nd, cd, rfl, hb_⟩; have n0_ := Aside0.mk (below_step HB.out hb_); have n1_ := Aside0.mk (HO.out.below hb_); clear HB HO; have HB := n0_; have HO := n1_; clear n0_ n1_; clear hb_)
    | ((with_reducible refine gate_store (t := 60) (p := 4) rfl ?_); refine stm_event rfl rfl 60 (.tmp 4) (.tmp 84) rfl rfl rfl HO.out (Nat.le_refl _) (by kernel_rfl) (by simp [Value.oneCell']) ?_; intro wB hb_ hg_; have HR : Aside0 (Blk wB tq 60 #[.int .i64 9, .int .i64 (-1), .bool false, .slice Ad nd cd]) := ⟨hb_⟩; have n0_ := Aside0.mk (HB.out.grown hg_ (below_size HB.out) (fun q hq => by injection hq with hq; have h2_ := HOE.out; omega)); clear hb_ hg_ HB; have HB := n0_; clear n0_))
  refine bodyPost_ret (results_cell_row rfl _ _ tq 60 #[.int .i64 9, .int .i64 (-1), .bool false, .slice Ad nd cd] (0, 0) _ rfl HR.out Try.underlying60 rfl (by kernel_rfl)) rfl ?_
  exact ⟨Ad, nd, cd, rfl, HB.out⟩
end Go.Proofs.Ytkpfojpmigchlaa.Own
