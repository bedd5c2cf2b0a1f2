/-
  The walks of roundhouseref6.Apply.
-/
import Derived.Test.YtkpfojpmigchlaaWheJ
namespace Go.Proofs.Ytkpfojpmigchlaa.Own
open Go Go.RowKit Go.Proofs.YtkpfojpmigchlaaW.PrintWords Go.Proofs.YtkpfojpmigchlaaW.PrintMore Go.Proofs.YtkpfojpmigchlaaW.PrintLast Go.Proofs.Ytkpfojpmigchlaa.Q
set_option linter.unusedVariables false
set_option linter.unusedSimpArgs false

theorem AS.make {w0 w1 w2 w3 : World} {g q r : Nat} {P E R : Array Value} (hg : g = w0.heap.size) (hb1 : Blk w1 g 33 P) (hB1 : Below w0.heap.size w0 w1) (hq : q = w1.heap.size) (hb2 : Blk w2 q 69 E) (hB2 : Below w1.heap.size w1 w2) (hr : r = w2.heap.size) (hb3 : Blk w3 r 33 R) (hB3 : Below w2.heap.size w2 w3) : AS w0 g q r P E R w3 := by
  have h1 := hb1.lt
  have h2 := hb2.lt
  have h3 := hB1.size
  have h4 := hB2.size
  exact ⟨(hb1.below hB2).below hB3, hb2.below hB3, hb3, below_step (below_step hB1 hB2) hB3, ⟨by omega, by omega, by omega⟩, by omega, by omega⟩
section
variable {ops : Array Oper} {rest : List Oper} {o : Oper} {a : Act} {Q : Exit → Act → World → Prop} {W : World}
theorem pl_build0 {N : Tmp} (hd : o.dst = some N) (hgd : o.guard = none) (ho : o.op = .build 33 #[]) (h : wpList Try.prog ops Q rest (a.put o.dst (.agg (pcs zeroP))) W) : wpList Try.prog ops Q (o :: rest) a W := by
  refine Kd.event_run (w1 := W) (v := .agg (pcs zeroP)) hgd ?_ h
  cases o with
  | mk dst op ty pos after guard =>
    obtain rfl : op = _ := ho
    kernel_rfl
theorem run25 (ev : Operand → Value) (o : Oper) (w : World) (ho : o.op = .alloc 25) : (execOp ev o).run Try.prog w = .ok (.value (.pointer (some ⟨w.heap.size, 0, none⟩))) (w.alloc (.cells #[.int .i64 0, .int .i64 0, .int .i64 0, .int .i64 0, .int .i64 0] 25 (0, 0))) := by
  cases o with
  | mk dst op ty pos after guard =>
    obtain rfl : op = _ := ho
    kernel_rfl
theorem sl_alloc {N : Tmp} (hd : o.dst = some N) (hgd : o.guard = none) (ho : o.op = .alloc 25)
    (h : ∀ s, s = W.heap.size → ∀ w1, Blk w1 s 25 #[.int .i64 0, .int .i64 0, .int .i64 0, .int .i64 0, .int .i64 0] → Below W.heap.size W w1 → wpList Try.prog ops Q rest (a.put o.dst (.pointer (some ⟨s, 0, none⟩))) w1) : wpList Try.prog ops Q (o :: rest) a W :=
  box_event hgd hd (run25 _ _ _ ho) h
theorem one5 (a b c d e : Int) : (#[.int .i64 a, .int .i64 b, .int .i64 c, .int .i64 d, .int .i64 e] : Array Value).all (·.oneCell') = true := by simp [Value.oneCell']
theorem one7 (a b c d e f g : Int) : (#[.int .i64 a, .int .u64 b, .int .u64 c, .int .u64 d, .int .u64 e, .int .u64 f, .int .u64 g] : Array Value).all (·.oneCell') = true := by simp [Value.oneCell']
theorem size25' (a b c d e : Value) : (Try.prog.info? 25).map (·.size) = some #[a, b, c, d, e].size := by kernel_rfl
end

set_option maxHeartbeats 8000000 in
set_option maxRecDepth 100000 in
theorem apply1out (p : PL) (hp : p.sl.length = 64) (s a b c : Int) (ha : outB a 0 4294967295 = false) (hb : outB b 0 65535 = false) (hc : outB c 1 8 = false) (hs : outB s 0 63 = true) (w0 : World) : Calls Try.prog 22 #[.agg (pcs p), .agg #[.int .i64 1, .int .i64 s, .int .i64 a, .int .i64 b, .int .i64 c, .int .u64 0, .int .u64 0]] w0 fun e w' => e = .returned (.tuple #[.agg (pcs zeroP), .int .i64 11]) ∧ Below w0.heap.size w0 w' := by
  have hu25 := Try.underlying25
  have hu49 := Try.underlying69
  have hu29 := Try.underlying29
  have hu31 := Try.underlying31
  have hu33 := pool33
  have hu26 := slots26
  have HP := Aside0.mk hp
  have HA := Aside0.mk ha
  have HBB := Aside0.mk hb
  have HC := Aside0.mk hc
  have HS := Aside0.mk hs
  clear hp ha hb hc hs
  go_enter Try.func22, Try.ntmps22
  go_upto_region 1 with (first | ((with_reducible refine gate_dst (N := 2) rfl ?_); refine pl_box rfl rfl rfl ?_; intro g hg w1 hb1 hB1; have G1 := Aside0.mk hg; have G2 := Aside0.mk hb1; have G3 := Aside0.mk hB1; clear hg hb1 hB1) | ((with_reducible refine gate_dst (N := 3) rfl ?_); refine any_box rfl rfl rfl ?_; intro q hq w2 hb2 hB2; have G4 := Aside0.mk hq; have G5 := Aside0.mk hb2; have G6 := Aside0.mk hB2; clear hq hb2 hB2) | ((with_reducible refine gate_dst (N := 4) rfl ?_); refine pl_alloc (N := 4) rfl rfl rfl ?_; intro r hr w3 hb3 hB3; have G7 := Aside0.mk hr; have G8 := Aside0.mk hb3; have G9 := Aside0.mk hB3; clear hr hb3 hB3))
  have H := Aside0.mk (AS.make G1.out G2.out G3.out G4.out G5.out G6.out G7.out G8.out G9.out)
  clear G1 G2 G3 G4 G5 G6 G7 G8 G9
  have he0 : w3.cell? ⟨q, 0, none⟩ = some (.int .i64 1) := (blk_cell H.out.hq 0).trans rfl
  have he1 : w3.cell? ⟨q, 1, none⟩ = some (.int .i64 s) := (blk_cell H.out.hq 1).trans rfl
  have he2 : w3.cell? ⟨q, 2, none⟩ = some (.int .i64 a) := (blk_cell H.out.hq 2).trans rfl
  have he3 : w3.cell? ⟨q, 3, none⟩ = some (.int .i64 b) := (blk_cell H.out.hq 3).trans rfl
  have he4 : w3.cell? ⟨q, 4, none⟩ = some (.int .i64 c) := (blk_cell H.out.hq 4).trans rfl
  have he5 : w3.cell? ⟨q, 5, none⟩ = some (.int .u64 0) := (blk_cell H.out.hq 5).trans rfl
  have he6 : w3.cell? ⟨q, 6, none⟩ = some (.int .u64 0) := (blk_cell H.out.hq 6).trans rfl
  go_upto_region 2 with (first | (go_at_call 54; with_reducible refine (check1t s a b c HA.out HBB.out HC.out HS.out _).mono ?_; rintro e' w4 ⟨rfl, hb_⟩; have n_ := Aside0.mk (H.out.by_below hb_); clear H hb_; have H := n_; clear n_))
  clear he0 he1 he2 he3 he4 he5 he6
  go_wp2_with (first | ((with_reducible refine gate_dst (N := 12) rfl ?_); refine pl_build0 (N := 12) rfl rfl rfl ?_) | ((with_reducible refine gate_store (t := 33) (p := 4) rfl ?_); refine pl_store rfl rfl (.tmp 4) (.tmp 12) rfl rfl rfl H.out.hr (pcs_size _ zeroP_len) zeroP_len ?_; intro w9 hb_ hg_; have n_ := Aside0.mk (H.out.stR hb_ hg_); clear H hb_ hg_; have H := n_; clear n_))
  refine bodyPost_ret (results_ct rfl _ _ r 33 (pcs zeroP) (0, 0) _ rfl H.out.hr pool33 rfl (size33 _ zeroP_len)) rfl ?_
  exact ⟨rfl, H.out.below⟩

set_option maxHeartbeats 8000000 in
set_option maxRecDepth 100000 in
theorem apply1bad (p : PL) (hp : p.sl.length = 64) (s a b c : Int) (ha : outB a 0 4294967295 = false) (hb : outB b 0 65535 = false) (hc : outB c 1 8 = false) (hs : outB s 0 63 = false) (hbad : badP p 1 s a b = true) (w0 : World) : Calls Try.prog 22 #[.agg (pcs p), .agg #[.int .i64 1, .int .i64 s, .int .i64 a, .int .i64 b, .int .i64 c, .int .u64 0, .int .u64 0]] w0 fun e w' => e = .returned (.tuple #[.agg (pcs zeroP), .int .i64 12]) ∧ Below w0.heap.size w0 w' := by
  have hu25 := Try.underlying25
  have hu49 := Try.underlying69
  have hu29 := Try.underlying29
  have hu31 := Try.underlying31
  have hu33 := pool33
  have hu26 := slots26
  have HP := Aside0.mk hp
  have HA := Aside0.mk ha
  have HBB := Aside0.mk hb
  have HC := Aside0.mk hc
  have HS := Aside0.mk hs
  have HBAD := Aside0.mk hbad
  clear hp ha hb hc hs hbad
  have H0 : Aside0 (0 ≤ s ∧ s < 64) := ⟨by have h_ := HS.out; unfold outB at h_; simp only [decide_eq_false_iff_not] at h_; omega⟩
  go_enter Try.func22, Try.ntmps22
  go_upto_region 1 with (first | ((with_reducible refine gate_dst (N := 2) rfl ?_); refine pl_box rfl rfl rfl ?_; intro g hg w1 hb1 hB1; have G1 := Aside0.mk hg; have G2 := Aside0.mk hb1; have G3 := Aside0.mk hB1; clear hg hb1 hB1) | ((with_reducible refine gate_dst (N := 3) rfl ?_); refine any_box rfl rfl rfl ?_; intro q hq w2 hb2 hB2; have G4 := Aside0.mk hq; have G5 := Aside0.mk hb2; have G6 := Aside0.mk hB2; clear hq hb2 hB2) | ((with_reducible refine gate_dst (N := 4) rfl ?_); refine pl_alloc (N := 4) rfl rfl rfl ?_; intro r hr w3 hb3 hB3; have G7 := Aside0.mk hr; have G8 := Aside0.mk hb3; have G9 := Aside0.mk hB3; clear hr hb3 hB3))
  have H := Aside0.mk (AS.make G1.out G2.out G3.out G4.out G5.out G6.out G7.out G8.out G9.out)
  clear G1 G2 G3 G4 G5 G6 G7 G8 G9
  have he0 : w3.cell? ⟨q, 0, none⟩ = some (.int .i64 1) := (blk_cell H.out.hq 0).trans rfl
  have he1 : w3.cell? ⟨q, 1, none⟩ = some (.int .i64 s) := (blk_cell H.out.hq 1).trans rfl
  have he2 : w3.cell? ⟨q, 2, none⟩ = some (.int .i64 a) := (blk_cell H.out.hq 2).trans rfl
  have he3 : w3.cell? ⟨q, 3, none⟩ = some (.int .i64 b) := (blk_cell H.out.hq 3).trans rfl
  have he4 : w3.cell? ⟨q, 4, none⟩ = some (.int .i64 c) := (blk_cell H.out.hq 4).trans rfl
  have he5 : w3.cell? ⟨q, 5, none⟩ = some (.int .u64 0) := (blk_cell H.out.hq 5).trans rfl
  have he6 : w3.cell? ⟨q, 6, none⟩ = some (.int .u64 0) := (blk_cell H.out.hq 6).trans rfl
  go_upto_region 2 with (first | (go_at_call 54; with_reducible refine (check1f s a b c HA.out HBB.out HC.out HS.out _).mono ?_; rintro e' w4 ⟨rfl, hb_⟩; have n_ := Aside0.mk (H.out.by_below hb_); clear H hb_; have H := n_; clear n_))
  clear he0 he1 he2 he3 he4 he5 he6
  go_upto_region 4 with fail
  have he0 : w4.cell? ⟨q, 0, none⟩ = some (.int .i64 1) := (blk_cell H.out.hq 0).trans rfl
  have he1 : w4.cell? ⟨q, 1, none⟩ = some (.int .i64 s) := (blk_cell H.out.hq 1).trans rfl
  have he2 : w4.cell? ⟨q, 2, none⟩ = some (.int .i64 a) := (blk_cell H.out.hq 2).trans rfl
  have he3 : w4.cell? ⟨q, 3, none⟩ = some (.int .i64 b) := (blk_cell H.out.hq 3).trans rfl
  have he4 : w4.cell? ⟨q, 4, none⟩ = some (.int .i64 c) := (blk_cell H.out.hq 4).trans rfl
  have he5 : w4.cell? ⟨q, 5, none⟩ = some (.int .u64 0) := (blk_cell H.out.hq 5).trans rfl
  have he6 : w4.cell? ⟨q, 6, none⟩ = some (.int .u64 0) := (blk_cell H.out.hq 6).trans rfl
  go_upto_region 5 with (first | ((with_reducible refine gate_dst (N := 14) rfl ?_); refine pl_load (N := 14) rfl rfl (.tmp 2) rfl rfl H.out.hg HP.out ?_) | (go_at_call 55; refine (bad_calls p HP.out 1 s a b c 0 0 (by decide) H0.out.1 H0.out.2 _).mono ?_; rw [HBAD.out]; rintro e' w5 ⟨rfl, hb_⟩; have n_ := Aside0.mk (H.out.by_below hb_); clear H hb_; have H := n_; clear n_))
  clear he0 he1 he2 he3 he4 he5 he6
  go_wp2_with (first | ((with_reducible refine gate_dst (N := 17) rfl ?_); refine pl_build0 (N := 17) rfl rfl rfl ?_) | ((with_reducible refine gate_store (t := 33) (p := 4) rfl ?_); refine pl_store rfl rfl (.tmp 4) (.tmp 17) rfl rfl rfl H.out.hr (pcs_size _ zeroP_len) zeroP_len ?_; intro w9 hb_ hg_; have n_ := Aside0.mk (H.out.stR hb_ hg_); clear H hb_ hg_; have H := n_; clear n_))
  refine bodyPost_ret (results_ct rfl _ _ r 33 (pcs zeroP) (0, 0) _ rfl H.out.hr pool33 rfl (size33 _ zeroP_len)) rfl ?_
  exact ⟨rfl, H.out.below⟩

set_option maxHeartbeats 8000000 in
set_option maxRecDepth 100000 in
theorem apply1ok (p : PL) (hp : p.sl.length = 64) (s a b c : Int) (ha : outB a 0 4294967295 = false) (hb : outB b 0 65535 = false) (hc : outB c 1 8 = false) (hs : outB s 0 63 = false) (hbad : badP p 1 s a b = false) (w0 : World) : Calls Try.prog 22 #[.agg (pcs p), .agg #[.int .i64 1, .int .i64 s, .int .i64 a, .int .i64 b, .int .i64 c, .int .u64 0, .int .u64 0]] w0 fun e w' => e = .returned (.tuple #[.agg (pcs (nextPool p 1 s a b c 0 0)), .int .i64 0]) ∧ Below w0.heap.size w0 w' := by
  have hu25 := Try.underlying25
  have hu49 := Try.underlying69
  have hu29 := Try.underlying29
  have hu31 := Try.underlying31
  have hu33 := pool33
  have hu26 := slots26
  have HP := Aside0.mk hp
  have HA := Aside0.mk ha
  have HBB := Aside0.mk hb
  have HC := Aside0.mk hc
  have HS := Aside0.mk hs
  have HBAD := Aside0.mk hbad
  clear hp ha hb hc hs hbad
  have H0 : Aside0 (0 ≤ s ∧ s < 64) := ⟨by have h_ := HS.out; unfold outB at h_; simp only [decide_eq_false_iff_not] at h_; omega⟩
  go_enter Try.func22, Try.ntmps22
  go_upto_region 1 with (first | ((with_reducible refine gate_dst (N := 2) rfl ?_); refine pl_box rfl rfl rfl ?_; intro g hg w1 hb1 hB1; have G1 := Aside0.mk hg; have G2 := Aside0.mk hb1; have G3 := Aside0.mk hB1; clear hg hb1 hB1) | ((with_reducible refine gate_dst (N := 3) rfl ?_); refine any_box rfl rfl rfl ?_; intro q hq w2 hb2 hB2; have G4 := Aside0.mk hq; have G5 := Aside0.mk hb2; have G6 := Aside0.mk hB2; clear hq hb2 hB2) | ((with_reducible refine gate_dst (N := 4) rfl ?_); refine pl_alloc (N := 4) rfl rfl rfl ?_; intro r hr w3 hb3 hB3; have G7 := Aside0.mk hr; have G8 := Aside0.mk hb3; have G9 := Aside0.mk hB3; clear hr hb3 hB3))
  have H := Aside0.mk (AS.make G1.out G2.out G3.out G4.out G5.out G6.out G7.out G8.out G9.out)
  clear G1 G2 G3 G4 G5 G6 G7 G8 G9
  have he0 : w3.cell? ⟨q, 0, none⟩ = some (.int .i64 1) := (blk_cell H.out.hq 0).trans rfl
  have he1 : w3.cell? ⟨q, 1, none⟩ = some (.int .i64 s) := (blk_cell H.out.hq 1).trans rfl
  have he2 : w3.cell? ⟨q, 2, none⟩ = some (.int .i64 a) := (blk_cell H.out.hq 2).trans rfl
  have he3 : w3.cell? ⟨q, 3, none⟩ = some (.int .i64 b) := (blk_cell H.out.hq 3).trans rfl
  have he4 : w3.cell? ⟨q, 4, none⟩ = some (.int .i64 c) := (blk_cell H.out.hq 4).trans rfl
  have he5 : w3.cell? ⟨q, 5, none⟩ = some (.int .u64 0) := (blk_cell H.out.hq 5).trans rfl
  have he6 : w3.cell? ⟨q, 6, none⟩ = some (.int .u64 0) := (blk_cell H.out.hq 6).trans rfl
  go_upto_region 2 with (first | (go_at_call 54; with_reducible refine (check1f s a b c HA.out HBB.out HC.out HS.out _).mono ?_; rintro e' w4 ⟨rfl, hb_⟩; have n_ := Aside0.mk (H.out.by_below hb_); clear H hb_; have H := n_; clear n_))
  clear he0 he1 he2 he3 he4 he5 he6
  go_upto_region 4 with fail
  have he0 : w4.cell? ⟨q, 0, none⟩ = some (.int .i64 1) := (blk_cell H.out.hq 0).trans rfl
  have he1 : w4.cell? ⟨q, 1, none⟩ = some (.int .i64 s) := (blk_cell H.out.hq 1).trans rfl
  have he2 : w4.cell? ⟨q, 2, none⟩ = some (.int .i64 a) := (blk_cell H.out.hq 2).trans rfl
  have he3 : w4.cell? ⟨q, 3, none⟩ = some (.int .i64 b) := (blk_cell H.out.hq 3).trans rfl
  have he4 : w4.cell? ⟨q, 4, none⟩ = some (.int .i64 c) := (blk_cell H.out.hq 4).trans rfl
  have he5 : w4.cell? ⟨q, 5, none⟩ = some (.int .u64 0) := (blk_cell H.out.hq 5).trans rfl
  have he6 : w4.cell? ⟨q, 6, none⟩ = some (.int .u64 0) := (blk_cell H.out.hq 6).trans rfl
  go_upto_region 6 with (first | ((with_reducible refine gate_dst (N := 14) rfl ?_); refine pl_load (N := 14) rfl rfl (.tmp 2) rfl rfl H.out.hg HP.out ?_) | (go_at_call 55; refine (bad_calls p HP.out 1 s a b c 0 0 (by decide) H0.out.1 H0.out.2 _).mono ?_; rw [HBAD.out]; rintro e' w5 ⟨rfl, hb_⟩; have n_ := Aside0.mk (H.out.by_below hb_); clear H hb_; have H := n_; clear n_))
  clear he0 he1 he2 he3 he4 he5 he6
  have h0' := eq_true H0.out.1
  have h1' := eq_true H0.out.2
  have he0 : w5.cell? ⟨q, 0, none⟩ = some (.int .i64 1) := (blk_cell H.out.hq 0).trans rfl
  have he1 : w5.cell? ⟨q, 1, none⟩ = some (.int .i64 s) := (blk_cell H.out.hq 1).trans rfl
  go_quiet (fail)
  have n_ := Aside0.mk (H.out.by_below (pw_below_drewN (Below.refl _ _) nq))
  clear H
  have H := n_
  clear n_
  generalize w5.drewN nq = w6 at H ⊢
  go_upto_region 8 with fail
  clear he0 he1
  have hver : w6.cell? ⟨g, 0, none⟩ = some (.int .i64 p.ver) := (blk_cell H.out.hg 0).trans rfl
  have hverf : w6.frozen? ⟨g, 0, none⟩ = false := blk_frozen H.out.hg 0
  go_upto_region 9 with (first | ((with_reducible refine gate_store (t := 3) (p := 38) rfl ?_); refine st3_event rfl rfl (.tmp 38) (.tmp 37) rfl (v := wrap64 (p.ver + 1)) rfl rfl H.out.hg (by rw [pcs_size p HP.out]; decide) ?_; intro w7 hb_ hg_; rw [pcs_ver] at hb_; have n_ := Aside0.mk (H.out.stG hb_ hg_); clear H hb_ hg_ hver hverf; have H := n_; clear n_))
  have he1 : w7.cell? ⟨q, 1, none⟩ = some (.int .i64 s) := (blk_cell H.out.hq 1).trans rfl
  obtain ⟨ad_, e_, hx0, hx1, hx2, hx3, hx4⟩ := at_T25 (slots_C H.out.hg (pcs_slots _ HP.out) : Kd.C k25 w7 (some ⟨g, 3, none⟩) p.sl.length p.sl) s H0.out.1 (by rw [HP.out]; exact H0.out.2)
  cases e_
  simp only [add_in] at hx0 hx1 hx2 hx3 hx4
  go_upto_region 10 with (first | ((with_reducible refine gate_dst (N := 7) rfl ?_); refine sl_alloc (N := 7) rfl rfl rfl ?_; intro s1 hs1 w8 hb_ hB_; have HLT : Aside0 (r < s1) := ⟨by rw [hs1]; exact H.out.hr.lt⟩; have HSB := Aside0.mk hb_; have n_ := Aside0.mk (H.out.by_below hB_); clear H hb_ hB_ hs1; have H := n_; clear n_) | ((with_reducible refine gate_store (t := 25) (p := 7) rfl ?_); refine stm_event rfl rfl 25 (.tmp 7) (.tmp 43) rfl rfl rfl HSB.out (Nat.le_refl _) (size25' _ _ _ _ _) (one5 _ _ _ _ _) ?_; intro w9 hb_ hg_; have m_ : Aside0 (Blk w9 s1 25 #[.int .i64 (rd_T25 p.sl s).f0, .int .i64 (rd_T25 p.sl s).f1, .int .i64 (rd_T25 p.sl s).f2, .int .i64 (rd_T25 p.sl s).f3, .int .i64 (rd_T25 p.sl s).f4]) := ⟨hb_⟩; have n_ := Aside0.mk (H.out.stS HLT.out hg_); clear H HSB hb_ hg_ ; have H := n_; have HSB := m_; clear n_ m_))
  clear hx0 hx1 hx2 hx3 hx4 he1
  have he0 : w9.cell? ⟨q, 0, none⟩ = some (.int .i64 1) := (blk_cell H.out.hq 0).trans rfl
  go_upto_region 12 with fail
  have he2 : w9.cell? ⟨q, 2, none⟩ = some (.int .i64 a) := (blk_cell H.out.hq 2).trans rfl
  have he3 : w9.cell? ⟨q, 3, none⟩ = some (.int .i64 b) := (blk_cell H.out.hq 3).trans rfl
  have he4 : w9.cell? ⟨q, 4, none⟩ = some (.int .i64 c) := (blk_cell H.out.hq 4).trans rfl
  go_upto_region 23 with (first | ((with_reducible refine gate_store (t := 25) (p := 7) rfl ?_); refine stm_event rfl rfl 25 (.tmp 7) (.tmp 54) rfl rfl rfl HSB.out (Nat.le_refl _) (size25' _ _ _ _ _) (one5 _ _ _ _ _) ?_; intro wA hb_ hg_; have m_ : Aside0 (Blk wA s1 25 #[.int .i64 1, .int .i64 a, .int .i64 b, .int .i64 c, .int .i64 0]) := ⟨hb_⟩; have n_ := Aside0.mk (H.out.stS HLT.out hg_); clear H HSB hb_ hg_ ; have H := n_; have HSB := m_; clear n_ m_))
  clear he0 he2 he3 he4
  have he1 : wA.cell? ⟨q, 1, none⟩ = some (.int .i64 s) := (blk_cell H.out.hq 1).trans rfl
  have hv0 : wA.cell? ⟨s1, 0, none⟩ = some (.int .i64 1) := (blk_cell HSB.out 0).trans rfl
  have hv1 : wA.cell? ⟨s1, 1, none⟩ = some (.int .i64 a) := (blk_cell HSB.out 1).trans rfl
  have hv2 : wA.cell? ⟨s1, 2, none⟩ = some (.int .i64 b) := (blk_cell HSB.out 2).trans rfl
  have hv3 : wA.cell? ⟨s1, 3, none⟩ = some (.int .i64 c) := (blk_cell HSB.out 3).trans rfl
  have hv4 : wA.cell? ⟨s1, 4, none⟩ = some (.int .i64 0) := (blk_cell HSB.out 4).trans rfl
  have HL2 : Aside0 (({ p with ver := wrap64 (p.ver + 1), sl := p.sl.set s.toNat ⟨1, a, b, c, 0⟩ } : PL).sl.length = 64) := ⟨by simp only [List.length_set]; exact HP.out⟩
  have hlt_ : Aside0 (s.toNat < 64) := ⟨by have h_ := H0.out; omega⟩
  go_upto_region 24 with (first | ((with_reducible refine gate_store (t := 25) (p := 83) rfl ?_); refine stm_event rfl rfl 25 (.tmp 83) (.tmp 81) rfl rfl rfl H.out.hg (i := 3 + s.toNat * 5) (by rw [pcs_size ({ p with ver := wrap64 (p.ver + 1) } : PL) HP.out]; have h_ := hlt_.out; simp only [List.size_toArray, List.length_cons, List.length_nil]; omega) (size25' _ _ _ _ _) (one5 _ _ _ _ _) ?_; intro wX hb_ hg_; have hb2_ : Blk wX g 33 (pcs { p with ver := wrap64 (p.ver + 1), sl := p.sl.set s.toNat ⟨1, a, b, c, 0⟩ }) := (pcs_slot { p with ver := wrap64 (p.ver + 1) } HP.out s.toNat hlt_.out ⟨1, a, b, c, 0⟩) ▸ hb_; have n_ := Aside0.mk (H.out.stG hb2_ hg_); clear H hb_ hb2_ hg_; have H := n_; clear n_))
  clear he1 hv0 hv1 hv2 hv3 hv4
  have hres : Aside0 (nextPool p 1 s a b c 0 0 = { p with ver := wrap64 (p.ver + 1), sl := p.sl.set s.toNat ⟨1, a, b, c, 0⟩ }) := ⟨by simp [nextPool, nextSlot]⟩
  go_wp2_with (first | ((with_reducible refine gate_dst (N := 84) rfl ?_); refine pl_load (N := 84) rfl rfl (.tmp 2) rfl rfl H.out.hg HL2.out ?_) | ((with_reducible refine gate_store (t := 33) (p := 4) rfl ?_); refine pl_store rfl rfl (.tmp 4) (.tmp 84) rfl rfl rfl H.out.hr (pcs_size _ zeroP_len) HL2.out ?_; intro wY hb_ hg_; have n_ := Aside0.mk (H.out.stR hb_ hg_); clear H hb_ hg_; have H := n_; clear n_))
  refine bodyPost_ret (results_ct rfl _ _ r 33 (pcs { p with ver := wrap64 (p.ver + 1), sl := p.sl.set s.toNat ⟨1, a, b, c, 0⟩ }) (0, 0) _ rfl H.out.hr pool33 rfl (size33 _ HL2.out)) rfl ?_
  exact ⟨by rw [hres.out]; rfl, H.out.below⟩

set_option maxHeartbeats 8000000 in
set_option maxRecDepth 100000 in
theorem apply2out (p : PL) (hp : p.sl.length = 64) (s : Int) (hs : outB s 0 63 = true) (w0 : World) : Calls Try.prog 22 #[.agg (pcs p), .agg #[.int .i64 2, .int .i64 s, .int .i64 0, .int .i64 0, .int .i64 0, .int .u64 0, .int .u64 0]] w0 fun e w' => e = .returned (.tuple #[.agg (pcs zeroP), .int .i64 11]) ∧ Below w0.heap.size w0 w' := by
  have hu25 := Try.underlying25
  have hu49 := Try.underlying69
  have hu29 := Try.underlying29
  have hu31 := Try.underlying31
  have hu33 := pool33
  have hu26 := slots26
  have HP := Aside0.mk hp
  have HS := Aside0.mk hs
  clear hp hs
  go_enter Try.func22, Try.ntmps22
  go_upto_region 1 with (first | ((with_reducible refine gate_dst (N := 2) rfl ?_); refine pl_box rfl rfl rfl ?_; intro g hg w1 hb1 hB1; have G1 := Aside0.mk hg; have G2 := Aside0.mk hb1; have G3 := Aside0.mk hB1; clear hg hb1 hB1) | ((with_reducible refine gate_dst (N := 3) rfl ?_); refine any_box rfl rfl rfl ?_; intro q hq w2 hb2 hB2; have G4 := Aside0.mk hq; have G5 := Aside0.mk hb2; have G6 := Aside0.mk hB2; clear hq hb2 hB2) | ((with_reducible refine gate_dst (N := 4) rfl ?_); refine pl_alloc (N := 4) rfl rfl rfl ?_; intro r hr w3 hb3 hB3; have G7 := Aside0.mk hr; have G8 := Aside0.mk hb3; have G9 := Aside0.mk hB3; clear hr hb3 hB3))
  have H := Aside0.mk (AS.make G1.out G2.out G3.out G4.out G5.out G6.out G7.out G8.out G9.out)
  clear G1 G2 G3 G4 G5 G6 G7 G8 G9
  have he0 : w3.cell? ⟨q, 0, none⟩ = some (.int .i64 2) := (blk_cell H.out.hq 0).trans rfl
  have he1 : w3.cell? ⟨q, 1, none⟩ = some (.int .i64 s) := (blk_cell H.out.hq 1).trans rfl
  have he2 : w3.cell? ⟨q, 2, none⟩ = some (.int .i64 0) := (blk_cell H.out.hq 2).trans rfl
  have he3 : w3.cell? ⟨q, 3, none⟩ = some (.int .i64 0) := (blk_cell H.out.hq 3).trans rfl
  have he4 : w3.cell? ⟨q, 4, none⟩ = some (.int .i64 0) := (blk_cell H.out.hq 4).trans rfl
  have he5 : w3.cell? ⟨q, 5, none⟩ = some (.int .u64 0) := (blk_cell H.out.hq 5).trans rfl
  have he6 : w3.cell? ⟨q, 6, none⟩ = some (.int .u64 0) := (blk_cell H.out.hq 6).trans rfl
  go_upto_region 2 with (first | (go_at_call 54; with_reducible refine (check2t s HS.out _).mono ?_; rintro e' w4 ⟨rfl, hb_⟩; have n_ := Aside0.mk (H.out.by_below hb_); clear H hb_; have H := n_; clear n_))
  clear he0 he1 he2 he3 he4 he5 he6
  go_wp2_with (first | ((with_reducible refine gate_dst (N := 12) rfl ?_); refine pl_build0 (N := 12) rfl rfl rfl ?_) | ((with_reducible refine gate_store (t := 33) (p := 4) rfl ?_); refine pl_store rfl rfl (.tmp 4) (.tmp 12) rfl rfl rfl H.out.hr (pcs_size _ zeroP_len) zeroP_len ?_; intro w9 hb_ hg_; have n_ := Aside0.mk (H.out.stR hb_ hg_); clear H hb_ hg_; have H := n_; clear n_))
  refine bodyPost_ret (results_ct rfl _ _ r 33 (pcs zeroP) (0, 0) _ rfl H.out.hr pool33 rfl (size33 _ zeroP_len)) rfl ?_
  exact ⟨rfl, H.out.below⟩

set_option maxHeartbeats 8000000 in
set_option maxRecDepth 100000 in
theorem apply2bad (p : PL) (hp : p.sl.length = 64) (s : Int) (hs : outB s 0 63 = false) (hbad : badP p 2 s 0 0 = true) (w0 : World) : Calls Try.prog 22 #[.agg (pcs p), .agg #[.int .i64 2, .int .i64 s, .int .i64 0, .int .i64 0, .int .i64 0, .int .u64 0, .int .u64 0]] w0 fun e w' => e = .returned (.tuple #[.agg (pcs zeroP), .int .i64 12]) ∧ Below w0.heap.size w0 w' := by
  have hu25 := Try.underlying25
  have hu49 := Try.underlying69
  have hu29 := Try.underlying29
  have hu31 := Try.underlying31
  have hu33 := pool33
  have hu26 := slots26
  have HP := Aside0.mk hp
  have HS := Aside0.mk hs
  have HBAD := Aside0.mk hbad
  clear hp hs hbad
  have H0 : Aside0 (0 ≤ s ∧ s < 64) := ⟨by have h_ := HS.out; unfold outB at h_; simp only [decide_eq_false_iff_not] at h_; omega⟩
  go_enter Try.func22, Try.ntmps22
  go_upto_region 1 with (first | ((with_reducible refine gate_dst (N := 2) rfl ?_); refine pl_box rfl rfl rfl ?_; intro g hg w1 hb1 hB1; have G1 := Aside0.mk hg; have G2 := Aside0.mk hb1; have G3 := Aside0.mk hB1; clear hg hb1 hB1) | ((with_reducible refine gate_dst (N := 3) rfl ?_); refine any_box rfl rfl rfl ?_; intro q hq w2 hb2 hB2; have G4 := Aside0.mk hq; have G5 := Aside0.mk hb2; have G6 := Aside0.mk hB2; clear hq hb2 hB2) | ((with_reducible refine gate_dst (N := 4) rfl ?_); refine pl_alloc (N := 4) rfl rfl rfl ?_; intro r hr w3 hb3 hB3; have G7 := Aside0.mk hr; have G8 := Aside0.mk hb3; have G9 := Aside0.mk hB3; clear hr hb3 hB3))
  have H := Aside0.mk (AS.make G1.out G2.out G3.out G4.out G5.out G6.out G7.out G8.out G9.out)
  clear G1 G2 G3 G4 G5 G6 G7 G8 G9
  have he0 : w3.cell? ⟨q, 0, none⟩ = some (.int .i64 2) := (blk_cell H.out.hq 0).trans rfl
  have he1 : w3.cell? ⟨q, 1, none⟩ = some (.int .i64 s) := (blk_cell H.out.hq 1).trans rfl
  have he2 : w3.cell? ⟨q, 2, none⟩ = some (.int .i64 0) := (blk_cell H.out.hq 2).trans rfl
  have he3 : w3.cell? ⟨q, 3, none⟩ = some (.int .i64 0) := (blk_cell H.out.hq 3).trans rfl
  have he4 : w3.cell? ⟨q, 4, none⟩ = some (.int .i64 0) := (blk_cell H.out.hq 4).trans rfl
  have he5 : w3.cell? ⟨q, 5, none⟩ = some (.int .u64 0) := (blk_cell H.out.hq 5).trans rfl
  have he6 : w3.cell? ⟨q, 6, none⟩ = some (.int .u64 0) := (blk_cell H.out.hq 6).trans rfl
  go_upto_region 2 with (first | (go_at_call 54; with_reducible refine (check2f s HS.out _).mono ?_; rintro e' w4 ⟨rfl, hb_⟩; have n_ := Aside0.mk (H.out.by_below hb_); clear H hb_; have H := n_; clear n_))
  clear he0 he1 he2 he3 he4 he5 he6
  go_upto_region 4 with fail
  have he0 : w4.cell? ⟨q, 0, none⟩ = some (.int .i64 2) := (blk_cell H.out.hq 0).trans rfl
  have he1 : w4.cell? ⟨q, 1, none⟩ = some (.int .i64 s) := (blk_cell H.out.hq 1).trans rfl
  have he2 : w4.cell? ⟨q, 2, none⟩ = some (.int .i64 0) := (blk_cell H.out.hq 2).trans rfl
  have he3 : w4.cell? ⟨q, 3, none⟩ = some (.int .i64 0) := (blk_cell H.out.hq 3).trans rfl
  have he4 : w4.cell? ⟨q, 4, none⟩ = some (.int .i64 0) := (blk_cell H.out.hq 4).trans rfl
  have he5 : w4.cell? ⟨q, 5, none⟩ = some (.int .u64 0) := (blk_cell H.out.hq 5).trans rfl
  have he6 : w4.cell? ⟨q, 6, none⟩ = some (.int .u64 0) := (blk_cell H.out.hq 6).trans rfl
  go_upto_region 5 with (first | ((with_reducible refine gate_dst (N := 14) rfl ?_); refine pl_load (N := 14) rfl rfl (.tmp 2) rfl rfl H.out.hg HP.out ?_) | (go_at_call 55; refine (bad_calls p HP.out 2 s 0 0 0 0 0 (by decide) H0.out.1 H0.out.2 _).mono ?_; rw [HBAD.out]; rintro e' w5 ⟨rfl, hb_⟩; have n_ := Aside0.mk (H.out.by_below hb_); clear H hb_; have H := n_; clear n_))
  clear he0 he1 he2 he3 he4 he5 he6
  go_wp2_with (first | ((with_reducible refine gate_dst (N := 17) rfl ?_); refine pl_build0 (N := 17) rfl rfl rfl ?_) | ((with_reducible refine gate_store (t := 33) (p := 4) rfl ?_); refine pl_store rfl rfl (.tmp 4) (.tmp 17) rfl rfl rfl H.out.hr (pcs_size _ zeroP_len) zeroP_len ?_; intro w9 hb_ hg_; have n_ := Aside0.mk (H.out.stR hb_ hg_); clear H hb_ hg_; have H := n_; clear n_))
  refine bodyPost_ret (results_ct rfl _ _ r 33 (pcs zeroP) (0, 0) _ rfl H.out.hr pool33 rfl (size33 _ zeroP_len)) rfl ?_
  exact ⟨rfl, H.out.below⟩

set_option maxHeartbeats 8000000 in
set_option maxRecDepth 100000 in
theorem apply2ok (p : PL) (hp : p.sl.length = 64) (s : Int) (hs : outB s 0 63 = false) (hbad : badP p 2 s 0 0 = false) (w0 : World) : Calls Try.prog 22 #[.agg (pcs p), .agg #[.int .i64 2, .int .i64 s, .int .i64 0, .int .i64 0, .int .i64 0, .int .u64 0, .int .u64 0]] w0 fun e w' => e = .returned (.tuple #[.agg (pcs (nextPool p 2 s 0 0 0 0 0)), .int .i64 0]) ∧ Below w0.heap.size w0 w' := by
  have hu25 := Try.underlying25
  have hu49 := Try.underlying69
  have hu29 := Try.underlying29
  have hu31 := Try.underlying31
  have hu33 := pool33
  have hu26 := slots26
  have HP := Aside0.mk hp
  have HS := Aside0.mk hs
  have HBAD := Aside0.mk hbad
  clear hp hs hbad
  have H0 : Aside0 (0 ≤ s ∧ s < 64) := ⟨by have h_ := HS.out; unfold outB at h_; simp only [decide_eq_false_iff_not] at h_; omega⟩
  go_enter Try.func22, Try.ntmps22
  go_upto_region 1 with (first | ((with_reducible refine gate_dst (N := 2) rfl ?_); refine pl_box rfl rfl rfl ?_; intro g hg w1 hb1 hB1; have G1 := Aside0.mk hg; have G2 := Aside0.mk hb1; have G3 := Aside0.mk hB1; clear hg hb1 hB1) | ((with_reducible refine gate_dst (N := 3) rfl ?_); refine any_box rfl rfl rfl ?_; intro q hq w2 hb2 hB2; have G4 := Aside0.mk hq; have G5 := Aside0.mk hb2; have G6 := Aside0.mk hB2; clear hq hb2 hB2) | ((with_reducible refine gate_dst (N := 4) rfl ?_); refine pl_alloc (N := 4) rfl rfl rfl ?_; intro r hr w3 hb3 hB3; have G7 := Aside0.mk hr; have G8 := Aside0.mk hb3; have G9 := Aside0.mk hB3; clear hr hb3 hB3))
  have H := Aside0.mk (AS.make G1.out G2.out G3.out G4.out G5.out G6.out G7.out G8.out G9.out)
  clear G1 G2 G3 G4 G5 G6 G7 G8 G9
  have he0 : w3.cell? ⟨q, 0, none⟩ = some (.int .i64 2) := (blk_cell H.out.hq 0).trans rfl
  have he1 : w3.cell? ⟨q, 1, none⟩ = some (.int .i64 s) := (blk_cell H.out.hq 1).trans rfl
  have he2 : w3.cell? ⟨q, 2, none⟩ = some (.int .i64 0) := (blk_cell H.out.hq 2).trans rfl
  have he3 : w3.cell? ⟨q, 3, none⟩ = some (.int .i64 0) := (blk_cell H.out.hq 3).trans rfl
  have he4 : w3.cell? ⟨q, 4, none⟩ = some (.int .i64 0) := (blk_cell H.out.hq 4).trans rfl
  have he5 : w3.cell? ⟨q, 5, none⟩ = some (.int .u64 0) := (blk_cell H.out.hq 5).trans rfl
  have he6 : w3.cell? ⟨q, 6, none⟩ = some (.int .u64 0) := (blk_cell H.out.hq 6).trans rfl
  go_upto_region 2 with (first | (go_at_call 54; with_reducible refine (check2f s HS.out _).mono ?_; rintro e' w4 ⟨rfl, hb_⟩; have n_ := Aside0.mk (H.out.by_below hb_); clear H hb_; have H := n_; clear n_))
  clear he0 he1 he2 he3 he4 he5 he6
  go_upto_region 4 with fail
  have he0 : w4.cell? ⟨q, 0, none⟩ = some (.int .i64 2) := (blk_cell H.out.hq 0).trans rfl
  have he1 : w4.cell? ⟨q, 1, none⟩ = some (.int .i64 s) := (blk_cell H.out.hq 1).trans rfl
  have he2 : w4.cell? ⟨q, 2, none⟩ = some (.int .i64 0) := (blk_cell H.out.hq 2).trans rfl
  have he3 : w4.cell? ⟨q, 3, none⟩ = some (.int .i64 0) := (blk_cell H.out.hq 3).trans rfl
  have he4 : w4.cell? ⟨q, 4, none⟩ = some (.int .i64 0) := (blk_cell H.out.hq 4).trans rfl
  have he5 : w4.cell? ⟨q, 5, none⟩ = some (.int .u64 0) := (blk_cell H.out.hq 5).trans rfl
  have he6 : w4.cell? ⟨q, 6, none⟩ = some (.int .u64 0) := (blk_cell H.out.hq 6).trans rfl
  go_upto_region 6 with (first | ((with_reducible refine gate_dst (N := 14) rfl ?_); refine pl_load (N := 14) rfl rfl (.tmp 2) rfl rfl H.out.hg HP.out ?_) | (go_at_call 55; refine (bad_calls p HP.out 2 s 0 0 0 0 0 (by decide) H0.out.1 H0.out.2 _).mono ?_; rw [HBAD.out]; rintro e' w5 ⟨rfl, hb_⟩; have n_ := Aside0.mk (H.out.by_below hb_); clear H hb_; have H := n_; clear n_))
  clear he0 he1 he2 he3 he4 he5 he6
  have h0' := eq_true H0.out.1
  have h1' := eq_true H0.out.2
  have he0 : w5.cell? ⟨q, 0, none⟩ = some (.int .i64 2) := (blk_cell H.out.hq 0).trans rfl
  have he1 : w5.cell? ⟨q, 1, none⟩ = some (.int .i64 s) := (blk_cell H.out.hq 1).trans rfl
  go_quiet (fail)
  have n_ := Aside0.mk (H.out.by_below (pw_below_drewN (Below.refl _ _) nq))
  clear H
  have H := n_
  clear n_
  generalize w5.drewN nq = w6 at H ⊢
  go_upto_region 8 with fail
  clear he0 he1
  have hver : w6.cell? ⟨g, 0, none⟩ = some (.int .i64 p.ver) := (blk_cell H.out.hg 0).trans rfl
  have hverf : w6.frozen? ⟨g, 0, none⟩ = false := blk_frozen H.out.hg 0
  go_upto_region 9 with (first | ((with_reducible refine gate_store (t := 3) (p := 38) rfl ?_); refine st3_event rfl rfl (.tmp 38) (.tmp 37) rfl (v := wrap64 (p.ver + 1)) rfl rfl H.out.hg (by rw [pcs_size p HP.out]; decide) ?_; intro w7 hb_ hg_; rw [pcs_ver] at hb_; have n_ := Aside0.mk (H.out.stG hb_ hg_); clear H hb_ hg_ hver hverf; have H := n_; clear n_))
  have he1 : w7.cell? ⟨q, 1, none⟩ = some (.int .i64 s) := (blk_cell H.out.hq 1).trans rfl
  obtain ⟨ad_, e_, hx0, hx1, hx2, hx3, hx4⟩ := at_T25 (slots_C H.out.hg (pcs_slots _ HP.out) : Kd.C k25 w7 (some ⟨g, 3, none⟩) p.sl.length p.sl) s H0.out.1 (by rw [HP.out]; exact H0.out.2)
  cases e_
  simp only [add_in] at hx0 hx1 hx2 hx3 hx4
  go_upto_region 10 with (first | ((with_reducible refine gate_dst (N := 7) rfl ?_); refine sl_alloc (N := 7) rfl rfl rfl ?_; intro s1 hs1 w8 hb_ hB_; have HLT : Aside0 (r < s1) := ⟨by rw [hs1]; exact H.out.hr.lt⟩; have HSB := Aside0.mk hb_; have n_ := Aside0.mk (H.out.by_below hB_); clear H hb_ hB_ hs1; have H := n_; clear n_) | ((with_reducible refine gate_store (t := 25) (p := 7) rfl ?_); refine stm_event rfl rfl 25 (.tmp 7) (.tmp 43) rfl rfl rfl HSB.out (Nat.le_refl _) (size25' _ _ _ _ _) (one5 _ _ _ _ _) ?_; intro w9 hb_ hg_; have m_ : Aside0 (Blk w9 s1 25 #[.int .i64 (rd_T25 p.sl s).f0, .int .i64 (rd_T25 p.sl s).f1, .int .i64 (rd_T25 p.sl s).f2, .int .i64 (rd_T25 p.sl s).f3, .int .i64 (rd_T25 p.sl s).f4]) := ⟨hb_⟩; have n_ := Aside0.mk (H.out.stS HLT.out hg_); clear H HSB hb_ hg_ ; have H := n_; have HSB := m_; clear n_ m_))
  clear hx0 hx1 hx2 hx3 hx4 he1
  have he0 : w9.cell? ⟨q, 0, none⟩ = some (.int .i64 2) := (blk_cell H.out.hq 0).trans rfl
  go_upto_region 14 with fail
  go_upto_region 23 with (first | ((with_reducible refine gate_store (t := 3) (p := 57) rfl ?_); refine st3_event rfl rfl (.tmp 57) _ rfl (v := 2) rfl rfl HSB.out (by simp) ?_; intro wA hb_ hg_; have m_ : Aside0 (Blk wA s1 25 #[.int .i64 2, .int .i64 (rd_T25 p.sl s).f1, .int .i64 (rd_T25 p.sl s).f2, .int .i64 (rd_T25 p.sl s).f3, .int .i64 (rd_T25 p.sl s).f4]) := ⟨hb_⟩; have n_ := Aside0.mk (H.out.stS HLT.out hg_); clear H HSB hb_ hg_; have H := n_; have HSB := m_; clear n_ m_))
  clear he0
  have he1 : wA.cell? ⟨q, 1, none⟩ = some (.int .i64 s) := (blk_cell H.out.hq 1).trans rfl
  have hv0 : wA.cell? ⟨s1, 0, none⟩ = some (.int .i64 2) := (blk_cell HSB.out 0).trans rfl
  have hv1 : wA.cell? ⟨s1, 1, none⟩ = some (.int .i64 (rd_T25 p.sl s).f1) := (blk_cell HSB.out 1).trans rfl
  have hv2 : wA.cell? ⟨s1, 2, none⟩ = some (.int .i64 (rd_T25 p.sl s).f2) := (blk_cell HSB.out 2).trans rfl
  have hv3 : wA.cell? ⟨s1, 3, none⟩ = some (.int .i64 (rd_T25 p.sl s).f3) := (blk_cell HSB.out 3).trans rfl
  have hv4 : wA.cell? ⟨s1, 4, none⟩ = some (.int .i64 (rd_T25 p.sl s).f4) := (blk_cell HSB.out 4).trans rfl
  have HL2 : Aside0 (({ p with ver := wrap64 (p.ver + 1), sl := p.sl.set s.toNat ⟨2, (rd_T25 p.sl s).f1, (rd_T25 p.sl s).f2, (rd_T25 p.sl s).f3, (rd_T25 p.sl s).f4⟩ } : PL).sl.length = 64) := ⟨by simp only [List.length_set]; exact HP.out⟩
  have hlt_ : Aside0 (s.toNat < 64) := ⟨by have h_ := H0.out; omega⟩
  go_upto_region 24 with (first | ((with_reducible refine gate_store (t := 25) (p := 83) rfl ?_); refine stm_event rfl rfl 25 (.tmp 83) (.tmp 81) rfl rfl rfl H.out.hg (i := 3 + s.toNat * 5) (by rw [pcs_size ({ p with ver := wrap64 (p.ver + 1) } : PL) HP.out]; have h_ := hlt_.out; simp only [List.size_toArray, List.length_cons, List.length_nil]; omega) (size25' _ _ _ _ _) (one5 _ _ _ _ _) ?_; intro wX hb_ hg_; have hb2_ : Blk wX g 33 (pcs { p with ver := wrap64 (p.ver + 1), sl := p.sl.set s.toNat ⟨2, (rd_T25 p.sl s).f1, (rd_T25 p.sl s).f2, (rd_T25 p.sl s).f3, (rd_T25 p.sl s).f4⟩ }) := (pcs_slot { p with ver := wrap64 (p.ver + 1) } HP.out s.toNat hlt_.out ⟨2, (rd_T25 p.sl s).f1, (rd_T25 p.sl s).f2, (rd_T25 p.sl s).f3, (rd_T25 p.sl s).f4⟩) ▸ hb_; have n_ := Aside0.mk (H.out.stG hb2_ hg_); clear H hb_ hb2_ hg_; have H := n_; clear n_))
  clear he1 hv0 hv1 hv2 hv3 hv4
  have hres : Aside0 (nextPool p 2 s 0 0 0 0 0 = { p with ver := wrap64 (p.ver + 1), sl := p.sl.set s.toNat ⟨2, (rd_T25 p.sl s).f1, (rd_T25 p.sl s).f2, (rd_T25 p.sl s).f3, (rd_T25 p.sl s).f4⟩ }) := ⟨by simp [nextPool, nextSlot]⟩
  go_wp2_with (first | ((with_reducible refine gate_dst (N := 84) rfl ?_); refine pl_load (N := 84) rfl rfl (.tmp 2) rfl rfl H.out.hg HL2.out ?_) | ((with_reducible refine gate_store (t := 33) (p := 4) rfl ?_); refine pl_store rfl rfl (.tmp 4) (.tmp 84) rfl rfl rfl H.out.hr (pcs_size _ zeroP_len) HL2.out ?_; intro wY hb_ hg_; have n_ := Aside0.mk (H.out.stR hb_ hg_); clear H hb_ hg_; have H := n_; clear n_))
  refine bodyPost_ret (results_ct rfl _ _ r 33 (pcs { p with ver := wrap64 (p.ver + 1), sl := p.sl.set s.toNat ⟨2, (rd_T25 p.sl s).f1, (rd_T25 p.sl s).f2, (rd_T25 p.sl s).f3, (rd_T25 p.sl s).f4⟩ }) (0, 0) _ rfl H.out.hr pool33 rfl (size33 _ HL2.out)) rfl ?_
  exact ⟨by rw [hres.out]; rfl, H.out.below⟩

set_option maxHeartbeats 8000000 in
set_option maxRecDepth 100000 in
theorem apply3out (p : PL) (hp : p.sl.length = 64) (s : Int) (hs : outB s 0 63 = true) (w0 : World) : Calls Try.prog 22 #[.agg (pcs p), .agg #[.int .i64 3, .int .i64 s, .int .i64 0, .int .i64 0, .int .i64 0, .int .u64 0, .int .u64 0]] w0 fun e w' => e = .returned (.tuple #[.agg (pcs zeroP), .int .i64 11]) ∧ Below w0.heap.size w0 w' := by
  have hu25 := Try.underlying25
  have hu49 := Try.underlying69
  have hu29 := Try.underlying29
  have hu31 := Try.underlying31
  have hu33 := pool33
  have hu26 := slots26
  have HP := Aside0.mk hp
  have HS := Aside0.mk hs
  clear hp hs
  go_enter Try.func22, Try.ntmps22
  go_upto_region 1 with (first | ((with_reducible refine gate_dst (N := 2) rfl ?_); refine pl_box rfl rfl rfl ?_; intro g hg w1 hb1 hB1; have G1 := Aside0.mk hg; have G2 := Aside0.mk hb1; have G3 := Aside0.mk hB1; clear hg hb1 hB1) | ((with_reducible refine gate_dst (N := 3) rfl ?_); refine any_box rfl rfl rfl ?_; intro q hq w2 hb2 hB2; have G4 := Aside0.mk hq; have G5 := Aside0.mk hb2; have G6 := Aside0.mk hB2; clear hq hb2 hB2) | ((with_reducible refine gate_dst (N := 4) rfl ?_); refine pl_alloc (N := 4) rfl rfl rfl ?_; intro r hr w3 hb3 hB3; have G7 := Aside0.mk hr; have G8 := Aside0.mk hb3; have G9 := Aside0.mk hB3; clear hr hb3 hB3))
  have H := Aside0.mk (AS.make G1.out G2.out G3.out G4.out G5.out G6.out G7.out G8.out G9.out)
  clear G1 G2 G3 G4 G5 G6 G7 G8 G9
  have he0 : w3.cell? ⟨q, 0, none⟩ = some (.int .i64 3) := (blk_cell H.out.hq 0).trans rfl
  have he1 : w3.cell? ⟨q, 1, none⟩ = some (.int .i64 s) := (blk_cell H.out.hq 1).trans rfl
  have he2 : w3.cell? ⟨q, 2, none⟩ = some (.int .i64 0) := (blk_cell H.out.hq 2).trans rfl
  have he3 : w3.cell? ⟨q, 3, none⟩ = some (.int .i64 0) := (blk_cell H.out.hq 3).trans rfl
  have he4 : w3.cell? ⟨q, 4, none⟩ = some (.int .i64 0) := (blk_cell H.out.hq 4).trans rfl
  have he5 : w3.cell? ⟨q, 5, none⟩ = some (.int .u64 0) := (blk_cell H.out.hq 5).trans rfl
  have he6 : w3.cell? ⟨q, 6, none⟩ = some (.int .u64 0) := (blk_cell H.out.hq 6).trans rfl
  go_upto_region 2 with (first | (go_at_call 54; with_reducible refine (check3t s HS.out _).mono ?_; rintro e' w4 ⟨rfl, hb_⟩; have n_ := Aside0.mk (H.out.by_below hb_); clear H hb_; have H := n_; clear n_))
  clear he0 he1 he2 he3 he4 he5 he6
  go_wp2_with (first | ((with_reducible refine gate_dst (N := 12) rfl ?_); refine pl_build0 (N := 12) rfl rfl rfl ?_) | ((with_reducible refine gate_store (t := 33) (p := 4) rfl ?_); refine pl_store rfl rfl (.tmp 4) (.tmp 12) rfl rfl rfl H.out.hr (pcs_size _ zeroP_len) zeroP_len ?_; intro w9 hb_ hg_; have n_ := Aside0.mk (H.out.stR hb_ hg_); clear H hb_ hg_; have H := n_; clear n_))
  refine bodyPost_ret (results_ct rfl _ _ r 33 (pcs zeroP) (0, 0) _ rfl H.out.hr pool33 rfl (size33 _ zeroP_len)) rfl ?_
  exact ⟨rfl, H.out.below⟩

set_option maxHeartbeats 8000000 in
set_option maxRecDepth 100000 in
theorem apply3bad (p : PL) (hp : p.sl.length = 64) (s : Int) (hs : outB s 0 63 = false) (hbad : badP p 3 s 0 0 = true) (w0 : World) : Calls Try.prog 22 #[.agg (pcs p), .agg #[.int .i64 3, .int .i64 s, .int .i64 0, .int .i64 0, .int .i64 0, .int .u64 0, .int .u64 0]] w0 fun e w' => e = .returned (.tuple #[.agg (pcs zeroP), .int .i64 12]) ∧ Below w0.heap.size w0 w' := by
  have hu25 := Try.underlying25
  have hu49 := Try.underlying69
  have hu29 := Try.underlying29
  have hu31 := Try.underlying31
  have hu33 := pool33
  have hu26 := slots26
  have HP := Aside0.mk hp
  have HS := Aside0.mk hs
  have HBAD := Aside0.mk hbad
  clear hp hs hbad
  have H0 : Aside0 (0 ≤ s ∧ s < 64) := ⟨by have h_ := HS.out; unfold outB at h_; simp only [decide_eq_false_iff_not] at h_; omega⟩
  go_enter Try.func22, Try.ntmps22
  go_upto_region 1 with (first | ((with_reducible refine gate_dst (N := 2) rfl ?_); refine pl_box rfl rfl rfl ?_; intro g hg w1 hb1 hB1; have G1 := Aside0.mk hg; have G2 := Aside0.mk hb1; have G3 := Aside0.mk hB1; clear hg hb1 hB1) | ((with_reducible refine gate_dst (N := 3) rfl ?_); refine any_box rfl rfl rfl ?_; intro q hq w2 hb2 hB2; have G4 := Aside0.mk hq; have G5 := Aside0.mk hb2; have G6 := Aside0.mk hB2; clear hq hb2 hB2) | ((with_reducible refine gate_dst (N := 4) rfl ?_); refine pl_alloc (N := 4) rfl rfl rfl ?_; intro r hr w3 hb3 hB3; have G7 := Aside0.mk hr; have G8 := Aside0.mk hb3; have G9 := Aside0.mk hB3; clear hr hb3 hB3))
  have H := Aside0.mk (AS.make G1.out G2.out G3.out G4.out G5.out G6.out G7.out G8.out G9.out)
  clear G1 G2 G3 G4 G5 G6 G7 G8 G9
  have he0 : w3.cell? ⟨q, 0, none⟩ = some (.int .i64 3) := (blk_cell H.out.hq 0).trans rfl
  have he1 : w3.cell? ⟨q, 1, none⟩ = some (.int .i64 s) := (blk_cell H.out.hq 1).trans rfl
  have he2 : w3.cell? ⟨q, 2, none⟩ = some (.int .i64 0) := (blk_cell H.out.hq 2).trans rfl
  have he3 : w3.cell? ⟨q, 3, none⟩ = some (.int .i64 0) := (blk_cell H.out.hq 3).trans rfl
  have he4 : w3.cell? ⟨q, 4, none⟩ = some (.int .i64 0) := (blk_cell H.out.hq 4).trans rfl
  have he5 : w3.cell? ⟨q, 5, none⟩ = some (.int .u64 0) := (blk_cell H.out.hq 5).trans rfl
  have he6 : w3.cell? ⟨q, 6, none⟩ = some (.int .u64 0) := (blk_cell H.out.hq 6).trans rfl
  go_upto_region 2 with (first | (go_at_call 54; with_reducible refine (check3f s HS.out _).mono ?_; rintro e' w4 ⟨rfl, hb_⟩; have n_ := Aside0.mk (H.out.by_below hb_); clear H hb_; have H := n_; clear n_))
  clear he0 he1 he2 he3 he4 he5 he6
  go_upto_region 4 with fail
  have he0 : w4.cell? ⟨q, 0, none⟩ = some (.int .i64 3) := (blk_cell H.out.hq 0).trans rfl
  have he1 : w4.cell? ⟨q, 1, none⟩ = some (.int .i64 s) := (blk_cell H.out.hq 1).trans rfl
  have he2 : w4.cell? ⟨q, 2, none⟩ = some (.int .i64 0) := (blk_cell H.out.hq 2).trans rfl
  have he3 : w4.cell? ⟨q, 3, none⟩ = some (.int .i64 0) := (blk_cell H.out.hq 3).trans rfl
  have he4 : w4.cell? ⟨q, 4, none⟩ = some (.int .i64 0) := (blk_cell H.out.hq 4).trans rfl
  have he5 : w4.cell? ⟨q, 5, none⟩ = some (.int .u64 0) := (blk_cell H.out.hq 5).trans rfl
  have he6 : w4.cell? ⟨q, 6, none⟩ = some (.int .u64 0) := (blk_cell H.out.hq 6).trans rfl
  go_upto_region 5 with (first | ((with_reducible refine gate_dst (N := 14) rfl ?_); refine pl_load (N := 14) rfl rfl (.tmp 2) rfl rfl H.out.hg HP.out ?_) | (go_at_call 55; refine (bad_calls p HP.out 3 s 0 0 0 0 0 (by decide) H0.out.1 H0.out.2 _).mono ?_; rw [HBAD.out]; rintro e' w5 ⟨rfl, hb_⟩; have n_ := Aside0.mk (H.out.by_below hb_); clear H hb_; have H := n_; clear n_))
  clear he0 he1 he2 he3 he4 he5 he6
  go_wp2_with (first | ((with_reducible refine gate_dst (N := 17) rfl ?_); refine pl_build0 (N := 17) rfl rfl rfl ?_) | ((with_reducible refine gate_store (t := 33) (p := 4) rfl ?_); refine pl_store rfl rfl (.tmp 4) (.tmp 17) rfl rfl rfl H.out.hr (pcs_size _ zeroP_len) zeroP_len ?_; intro w9 hb_ hg_; have n_ := Aside0.mk (H.out.stR hb_ hg_); clear H hb_ hg_; have H := n_; clear n_))
  refine bodyPost_ret (results_ct rfl _ _ r 33 (pcs zeroP) (0, 0) _ rfl H.out.hr pool33 rfl (size33 _ zeroP_len)) rfl ?_
  exact ⟨rfl, H.out.below⟩

set_option maxHeartbeats 8000000 in
set_option maxRecDepth 100000 in
theorem apply3ok (p : PL) (hp : p.sl.length = 64) (s : Int) (hs : outB s 0 63 = false) (hbad : badP p 3 s 0 0 = false) (w0 : World) : Calls Try.prog 22 #[.agg (pcs p), .agg #[.int .i64 3, .int .i64 s, .int .i64 0, .int .i64 0, .int .i64 0, .int .u64 0, .int .u64 0]] w0 fun e w' => e = .returned (.tuple #[.agg (pcs (nextPool p 3 s 0 0 0 0 0)), .int .i64 0]) ∧ Below w0.heap.size w0 w' := by
  have hu25 := Try.underlying25
  have hu49 := Try.underlying69
  have hu29 := Try.underlying29
  have hu31 := Try.underlying31
  have hu33 := pool33
  have hu26 := slots26
  have HP := Aside0.mk hp
  have HS := Aside0.mk hs
  have HBAD := Aside0.mk hbad
  clear hp hs hbad
  have H0 : Aside0 (0 ≤ s ∧ s < 64) := ⟨by have h_ := HS.out; unfold outB at h_; simp only [decide_eq_false_iff_not] at h_; omega⟩
  go_enter Try.func22, Try.ntmps22
  go_upto_region 1 with (first | ((with_reducible refine gate_dst (N := 2) rfl ?_); refine pl_box rfl rfl rfl ?_; intro g hg w1 hb1 hB1; have G1 := Aside0.mk hg; have G2 := Aside0.mk hb1; have G3 := Aside0.mk hB1; clear hg hb1 hB1) | ((with_reducible refine gate_dst (N := 3) rfl ?_); refine any_box rfl rfl rfl ?_; intro q hq w2 hb2 hB2; have G4 := Aside0.mk hq; have G5 := Aside0.mk hb2; have G6 := Aside0.mk hB2; clear hq hb2 hB2) | ((with_reducible refine gate_dst (N := 4) rfl ?_); refine pl_alloc (N := 4) rfl rfl rfl ?_; intro r hr w3 hb3 hB3; have G7 := Aside0.mk hr; have G8 := Aside0.mk hb3; have G9 := Aside0.mk hB3; clear hr hb3 hB3))
  have H := Aside0.mk (AS.make G1.out G2.out G3.out G4.out G5.out G6.out G7.out G8.out G9.out)
  clear G1 G2 G3 G4 G5 G6 G7 G8 G9
  have he0 : w3.cell? ⟨q, 0, none⟩ = some (.int .i64 3) := (blk_cell H.out.hq 0).trans rfl
  have he1 : w3.cell? ⟨q, 1, none⟩ = some (.int .i64 s) := (blk_cell H.out.hq 1).trans rfl
  have he2 : w3.cell? ⟨q, 2, none⟩ = some (.int .i64 0) := (blk_cell H.out.hq 2).trans rfl
  have he3 : w3.cell? ⟨q, 3, none⟩ = some (.int .i64 0) := (blk_cell H.out.hq 3).trans rfl
  have he4 : w3.cell? ⟨q, 4, none⟩ = some (.int .i64 0) := (blk_cell H.out.hq 4).trans rfl
  have he5 : w3.cell? ⟨q, 5, none⟩ = some (.int .u64 0) := (blk_cell H.out.hq 5).trans rfl
  have he6 : w3.cell? ⟨q, 6, none⟩ = some (.int .u64 0) := (blk_cell H.out.hq 6).trans rfl
  go_upto_region 2 with (first | (go_at_call 54; with_reducible refine (check3f s HS.out _).mono ?_; rintro e' w4 ⟨rfl, hb_⟩; have n_ := Aside0.mk (H.out.by_below hb_); clear H hb_; have H := n_; clear n_))
  clear he0 he1 he2 he3 he4 he5 he6
  go_upto_region 4 with fail
  have he0 : w4.cell? ⟨q, 0, none⟩ = some (.int .i64 3) := (blk_cell H.out.hq 0).trans rfl
  have he1 : w4.cell? ⟨q, 1, none⟩ = some (.int .i64 s) := (blk_cell H.out.hq 1).trans rfl
  have he2 : w4.cell? ⟨q, 2, none⟩ = some (.int .i64 0) := (blk_cell H.out.hq 2).trans rfl
  have he3 : w4.cell? ⟨q, 3, none⟩ = some (.int .i64 0) := (blk_cell H.out.hq 3).trans rfl
  have he4 : w4.cell? ⟨q, 4, none⟩ = some (.int .i64 0) := (blk_cell H.out.hq 4).trans rfl
  have he5 : w4.cell? ⟨q, 5, none⟩ = some (.int .u64 0) := (blk_cell H.out.hq 5).trans rfl
  have he6 : w4.cell? ⟨q, 6, none⟩ = some (.int .u64 0) := (blk_cell H.out.hq 6).trans rfl
  go_upto_region 6 with (first | ((with_reducible refine gate_dst (N := 14) rfl ?_); refine pl_load (N := 14) rfl rfl (.tmp 2) rfl rfl H.out.hg HP.out ?_) | (go_at_call 55; refine (bad_calls p HP.out 3 s 0 0 0 0 0 (by decide) H0.out.1 H0.out.2 _).mono ?_; rw [HBAD.out]; rintro e' w5 ⟨rfl, hb_⟩; have n_ := Aside0.mk (H.out.by_below hb_); clear H hb_; have H := n_; clear n_))
  clear he0 he1 he2 he3 he4 he5 he6
  have h0' := eq_true H0.out.1
  have h1' := eq_true H0.out.2
  have he0 : w5.cell? ⟨q, 0, none⟩ = some (.int .i64 3) := (blk_cell H.out.hq 0).trans rfl
  have he1 : w5.cell? ⟨q, 1, none⟩ = some (.int .i64 s) := (blk_cell H.out.hq 1).trans rfl
  go_quiet (fail)
  have n_ := Aside0.mk (H.out.by_below (pw_below_drewN (Below.refl _ _) nq))
  clear H
  have H := n_
  clear n_
  generalize w5.drewN nq = w6 at H ⊢
  go_upto_region 8 with fail
  clear he0 he1
  have hver : w6.cell? ⟨g, 0, none⟩ = some (.int .i64 p.ver) := (blk_cell H.out.hg 0).trans rfl
  have hverf : w6.frozen? ⟨g, 0, none⟩ = false := blk_frozen H.out.hg 0
  go_upto_region 9 with (first | ((with_reducible refine gate_store (t := 3) (p := 38) rfl ?_); refine st3_event rfl rfl (.tmp 38) (.tmp 37) rfl (v := wrap64 (p.ver + 1)) rfl rfl H.out.hg (by rw [pcs_size p HP.out]; decide) ?_; intro w7 hb_ hg_; rw [pcs_ver] at hb_; have n_ := Aside0.mk (H.out.stG hb_ hg_); clear H hb_ hg_ hver hverf; have H := n_; clear n_))
  have he1 : w7.cell? ⟨q, 1, none⟩ = some (.int .i64 s) := (blk_cell H.out.hq 1).trans rfl
  obtain ⟨ad_, e_, hx0, hx1, hx2, hx3, hx4⟩ := at_T25 (slots_C H.out.hg (pcs_slots _ HP.out) : Kd.C k25 w7 (some ⟨g, 3, none⟩) p.sl.length p.sl) s H0.out.1 (by rw [HP.out]; exact H0.out.2)
  cases e_
  simp only [add_in] at hx0 hx1 hx2 hx3 hx4
  go_upto_region 10 with (first | ((with_reducible refine gate_dst (N := 7) rfl ?_); refine sl_alloc (N := 7) rfl rfl rfl ?_; intro s1 hs1 w8 hb_ hB_; have HLT : Aside0 (r < s1) := ⟨by rw [hs1]; exact H.out.hr.lt⟩; have HSB := Aside0.mk hb_; have n_ := Aside0.mk (H.out.by_below hB_); clear H hb_ hB_ hs1; have H := n_; clear n_) | ((with_reducible refine gate_store (t := 25) (p := 7) rfl ?_); refine stm_event rfl rfl 25 (.tmp 7) (.tmp 43) rfl rfl rfl HSB.out (Nat.le_refl _) (size25' _ _ _ _ _) (one5 _ _ _ _ _) ?_; intro w9 hb_ hg_; have m_ : Aside0 (Blk w9 s1 25 #[.int .i64 (rd_T25 p.sl s).f0, .int .i64 (rd_T25 p.sl s).f1, .int .i64 (rd_T25 p.sl s).f2, .int .i64 (rd_T25 p.sl s).f3, .int .i64 (rd_T25 p.sl s).f4]) := ⟨hb_⟩; have n_ := Aside0.mk (H.out.stS HLT.out hg_); clear H HSB hb_ hg_ ; have H := n_; have HSB := m_; clear n_ m_))
  clear hx0 hx1 hx2 hx3 hx4 he1
  have he0 : w9.cell? ⟨q, 0, none⟩ = some (.int .i64 3) := (blk_cell H.out.hq 0).trans rfl
  go_upto_region 16 with fail
  go_upto_region 23 with (first | ((with_reducible refine gate_store (t := 3) (p := 60) rfl ?_); refine st3_event rfl rfl (.tmp 60) _ rfl (v := 3) rfl rfl HSB.out (by simp) ?_; intro wA hb_ hg_; have m_ : Aside0 (Blk wA s1 25 #[.int .i64 3, .int .i64 (rd_T25 p.sl s).f1, .int .i64 (rd_T25 p.sl s).f2, .int .i64 (rd_T25 p.sl s).f3, .int .i64 (rd_T25 p.sl s).f4]) := ⟨hb_⟩; have n_ := Aside0.mk (H.out.stS HLT.out hg_); clear H HSB hb_ hg_; have H := n_; have HSB := m_; clear n_ m_))
  clear he0
  have he1 : wA.cell? ⟨q, 1, none⟩ = some (.int .i64 s) := (blk_cell H.out.hq 1).trans rfl
  have hv0 : wA.cell? ⟨s1, 0, none⟩ = some (.int .i64 3) := (blk_cell HSB.out 0).trans rfl
  have hv1 : wA.cell? ⟨s1, 1, none⟩ = some (.int .i64 (rd_T25 p.sl s).f1) := (blk_cell HSB.out 1).trans rfl
  have hv2 : wA.cell? ⟨s1, 2, none⟩ = some (.int .i64 (rd_T25 p.sl s).f2) := (blk_cell HSB.out 2).trans rfl
  have hv3 : wA.cell? ⟨s1, 3, none⟩ = some (.int .i64 (rd_T25 p.sl s).f3) := (blk_cell HSB.out 3).trans rfl
  have hv4 : wA.cell? ⟨s1, 4, none⟩ = some (.int .i64 (rd_T25 p.sl s).f4) := (blk_cell HSB.out 4).trans rfl
  have HL2 : Aside0 (({ p with ver := wrap64 (p.ver + 1), sl := p.sl.set s.toNat ⟨3, (rd_T25 p.sl s).f1, (rd_T25 p.sl s).f2, (rd_T25 p.sl s).f3, (rd_T25 p.sl s).f4⟩ } : PL).sl.length = 64) := ⟨by simp only [List.length_set]; exact HP.out⟩
  have hlt_ : Aside0 (s.toNat < 64) := ⟨by have h_ := H0.out; omega⟩
  go_upto_region 24 with (first | ((with_reducible refine gate_store (t := 25) (p := 83) rfl ?_); refine stm_event rfl rfl 25 (.tmp 83) (.tmp 81) rfl rfl rfl H.out.hg (i := 3 + s.toNat * 5) (by rw [pcs_size ({ p with ver := wrap64 (p.ver + 1) } : PL) HP.out]; have h_ := hlt_.out; simp only [List.size_toArray, List.length_cons, List.length_nil]; omega) (size25' _ _ _ _ _) (one5 _ _ _ _ _) ?_; intro wX hb_ hg_; have hb2_ : Blk wX g 33 (pcs { p with ver := wrap64 (p.ver + 1), sl := p.sl.set s.toNat ⟨3, (rd_T25 p.sl s).f1, (rd_T25 p.sl s).f2, (rd_T25 p.sl s).f3, (rd_T25 p.sl s).f4⟩ }) := (pcs_slot { p with ver := wrap64 (p.ver + 1) } HP.out s.toNat hlt_.out ⟨3, (rd_T25 p.sl s).f1, (rd_T25 p.sl s).f2, (rd_T25 p.sl s).f3, (rd_T25 p.sl s).f4⟩) ▸ hb_; have n_ := Aside0.mk (H.out.stG hb2_ hg_); clear H hb_ hb2_ hg_; have H := n_; clear n_))
  clear he1 hv0 hv1 hv2 hv3 hv4
  have hres : Aside0 (nextPool p 3 s 0 0 0 0 0 = { p with ver := wrap64 (p.ver + 1), sl := p.sl.set s.toNat ⟨3, (rd_T25 p.sl s).f1, (rd_T25 p.sl s).f2, (rd_T25 p.sl s).f3, (rd_T25 p.sl s).f4⟩ }) := ⟨by simp [nextPool, nextSlot]⟩
  go_wp2_with (first | ((with_reducible refine gate_dst (N := 84) rfl ?_); refine pl_load (N := 84) rfl rfl (.tmp 2) rfl rfl H.out.hg HL2.out ?_) | ((with_reducible refine gate_store (t := 33) (p := 4) rfl ?_); refine pl_store rfl rfl (.tmp 4) (.tmp 84) rfl rfl rfl H.out.hr (pcs_size _ zeroP_len) HL2.out ?_; intro wY hb_ hg_; have n_ := Aside0.mk (H.out.stR hb_ hg_); clear H hb_ hg_; have H := n_; clear n_))
  refine bodyPost_ret (results_ct rfl _ _ r 33 (pcs { p with ver := wrap64 (p.ver + 1), sl := p.sl.set s.toNat ⟨3, (rd_T25 p.sl s).f1, (rd_T25 p.sl s).f2, (rd_T25 p.sl s).f3, (rd_T25 p.sl s).f4⟩ }) (0, 0) _ rfl H.out.hr pool33 rfl (size33 _ HL2.out)) rfl ?_
  exact ⟨by rw [hres.out]; rfl, H.out.below⟩

set_option maxHeartbeats 8000000 in
set_option maxRecDepth 100000 in
theorem apply4out (p : PL) (hp : p.sl.length = 64) (s : Int) (hs : outB s 0 63 = true) (w0 : World) : Calls Try.prog 22 #[.agg (pcs p), .agg #[.int .i64 4, .int .i64 s, .int .i64 0, .int .i64 0, .int .i64 0, .int .u64 0, .int .u64 0]] w0 fun e w' => e = .returned (.tuple #[.agg (pcs zeroP), .int .i64 11]) ∧ Below w0.heap.size w0 w' := by
  have hu25 := Try.underlying25
  have hu49 := Try.underlying69
  have hu29 := Try.underlying29
  have hu31 := Try.underlying31
  have hu33 := pool33
  have hu26 := slots26
  have HP := Aside0.mk hp
  have HS := Aside0.mk hs
  clear hp hs
  go_enter Try.func22, Try.ntmps22
  go_upto_region 1 with (first | ((with_reducible refine gate_dst (N := 2) rfl ?_); refine pl_box rfl rfl rfl ?_; intro g hg w1 hb1 hB1; have G1 := Aside0.mk hg; have G2 := Aside0.mk hb1; have G3 := Aside0.mk hB1; clear hg hb1 hB1) | ((with_reducible refine gate_dst (N := 3) rfl ?_); refine any_box rfl rfl rfl ?_; intro q hq w2 hb2 hB2; have G4 := Aside0.mk hq; have G5 := Aside0.mk hb2; have G6 := Aside0.mk hB2; clear hq hb2 hB2) | ((with_reducible refine gate_dst (N := 4) rfl ?_); refine pl_alloc (N := 4) rfl rfl rfl ?_; intro r hr w3 hb3 hB3; have G7 := Aside0.mk hr; have G8 := Aside0.mk hb3; have G9 := Aside0.mk hB3; clear hr hb3 hB3))
  have H := Aside0.mk (AS.make G1.out G2.out G3.out G4.out G5.out G6.out G7.out G8.out G9.out)
  clear G1 G2 G3 G4 G5 G6 G7 G8 G9
  have he0 : w3.cell? ⟨q, 0, none⟩ = some (.int .i64 4) := (blk_cell H.out.hq 0).trans rfl
  have he1 : w3.cell? ⟨q, 1, none⟩ = some (.int .i64 s) := (blk_cell H.out.hq 1).trans rfl
  have he2 : w3.cell? ⟨q, 2, none⟩ = some (.int .i64 0) := (blk_cell H.out.hq 2).trans rfl
  have he3 : w3.cell? ⟨q, 3, none⟩ = some (.int .i64 0) := (blk_cell H.out.hq 3).trans rfl
  have he4 : w3.cell? ⟨q, 4, none⟩ = some (.int .i64 0) := (blk_cell H.out.hq 4).trans rfl
  have he5 : w3.cell? ⟨q, 5, none⟩ = some (.int .u64 0) := (blk_cell H.out.hq 5).trans rfl
  have he6 : w3.cell? ⟨q, 6, none⟩ = some (.int .u64 0) := (blk_cell H.out.hq 6).trans rfl
  go_upto_region 2 with (first | (go_at_call 54; with_reducible refine (check4t s HS.out _).mono ?_; rintro e' w4 ⟨rfl, hb_⟩; have n_ := Aside0.mk (H.out.by_below hb_); clear H hb_; have H := n_; clear n_))
  clear he0 he1 he2 he3 he4 he5 he6
  go_wp2_with (first | ((with_reducible refine gate_dst (N := 12) rfl ?_); refine pl_build0 (N := 12) rfl rfl rfl ?_) | ((with_reducible refine gate_store (t := 33) (p := 4) rfl ?_); refine pl_store rfl rfl (.tmp 4) (.tmp 12) rfl rfl rfl H.out.hr (pcs_size _ zeroP_len) zeroP_len ?_; intro w9 hb_ hg_; have n_ := Aside0.mk (H.out.stR hb_ hg_); clear H hb_ hg_; have H := n_; clear n_))
  refine bodyPost_ret (results_ct rfl _ _ r 33 (pcs zeroP) (0, 0) _ rfl H.out.hr pool33 rfl (size33 _ zeroP_len)) rfl ?_
  exact ⟨rfl, H.out.below⟩

set_option maxHeartbeats 8000000 in
set_option maxRecDepth 100000 in
theorem apply4bad (p : PL) (hp : p.sl.length = 64) (s : Int) (hs : outB s 0 63 = false) (hbad : badP p 4 s 0 0 = true) (w0 : World) : Calls Try.prog 22 #[.agg (pcs p), .agg #[.int .i64 4, .int .i64 s, .int .i64 0, .int .i64 0, .int .i64 0, .int .u64 0, .int .u64 0]] w0 fun e w' => e = .returned (.tuple #[.agg (pcs zeroP), .int .i64 12]) ∧ Below w0.heap.size w0 w' := by
  have hu25 := Try.underlying25
  have hu49 := Try.underlying69
  have hu29 := Try.underlying29
  have hu31 := Try.underlying31
  have hu33 := pool33
  have hu26 := slots26
  have HP := Aside0.mk hp
  have HS := Aside0.mk hs
  have HBAD := Aside0.mk hbad
  clear hp hs hbad
  have H0 : Aside0 (0 ≤ s ∧ s < 64) := ⟨by have h_ := HS.out; unfold outB at h_; simp only [decide_eq_false_iff_not] at h_; omega⟩
  go_enter Try.func22, Try.ntmps22
  go_upto_region 1 with (first | ((with_reducible refine gate_dst (N := 2) rfl ?_); refine pl_box rfl rfl rfl ?_; intro g hg w1 hb1 hB1; have G1 := Aside0.mk hg; have G2 := Aside0.mk hb1; have G3 := Aside0.mk hB1; clear hg hb1 hB1) | ((with_reducible refine gate_dst (N := 3) rfl ?_); refine any_box rfl rfl rfl ?_; intro q hq w2 hb2 hB2; have G4 := Aside0.mk hq; have G5 := Aside0.mk hb2; have G6 := Aside0.mk hB2; clear hq hb2 hB2) | ((with_reducible refine gate_dst (N := 4) rfl ?_); refine pl_alloc (N := 4) rfl rfl rfl ?_; intro r hr w3 hb3 hB3; have G7 := Aside0.mk hr; have G8 := Aside0.mk hb3; have G9 := Aside0.mk hB3; clear hr hb3 hB3))
  have H := Aside0.mk (AS.make G1.out G2.out G3.out G4.out G5.out G6.out G7.out G8.out G9.out)
  clear G1 G2 G3 G4 G5 G6 G7 G8 G9
  have he0 : w3.cell? ⟨q, 0, none⟩ = some (.int .i64 4) := (blk_cell H.out.hq 0).trans rfl
  have he1 : w3.cell? ⟨q, 1, none⟩ = some (.int .i64 s) := (blk_cell H.out.hq 1).trans rfl
  have he2 : w3.cell? ⟨q, 2, none⟩ = some (.int .i64 0) := (blk_cell H.out.hq 2).trans rfl
  have he3 : w3.cell? ⟨q, 3, none⟩ = some (.int .i64 0) := (blk_cell H.out.hq 3).trans rfl
  have he4 : w3.cell? ⟨q, 4, none⟩ = some (.int .i64 0) := (blk_cell H.out.hq 4).trans rfl
  have he5 : w3.cell? ⟨q, 5, none⟩ = some (.int .u64 0) := (blk_cell H.out.hq 5).trans rfl
  have he6 : w3.cell? ⟨q, 6, none⟩ = some (.int .u64 0) := (blk_cell H.out.hq 6).trans rfl
  go_upto_region 2 with (first | (go_at_call 54; with_reducible refine (check4f s HS.out _).mono ?_; rintro e' w4 ⟨rfl, hb_⟩; have n_ := Aside0.mk (H.out.by_below hb_); clear H hb_; have H := n_; clear n_))
  clear he0 he1 he2 he3 he4 he5 he6
  go_upto_region 4 with fail
  have he0 : w4.cell? ⟨q, 0, none⟩ = some (.int .i64 4) := (blk_cell H.out.hq 0).trans rfl
  have he1 : w4.cell? ⟨q, 1, none⟩ = some (.int .i64 s) := (blk_cell H.out.hq 1).trans rfl
  have he2 : w4.cell? ⟨q, 2, none⟩ = some (.int .i64 0) := (blk_cell H.out.hq 2).trans rfl
  have he3 : w4.cell? ⟨q, 3, none⟩ = some (.int .i64 0) := (blk_cell H.out.hq 3).trans rfl
  have he4 : w4.cell? ⟨q, 4, none⟩ = some (.int .i64 0) := (blk_cell H.out.hq 4).trans rfl
  have he5 : w4.cell? ⟨q, 5, none⟩ = some (.int .u64 0) := (blk_cell H.out.hq 5).trans rfl
  have he6 : w4.cell? ⟨q, 6, none⟩ = some (.int .u64 0) := (blk_cell H.out.hq 6).trans rfl
  go_upto_region 5 with (first | ((with_reducible refine gate_dst (N := 14) rfl ?_); refine pl_load (N := 14) rfl rfl (.tmp 2) rfl rfl H.out.hg HP.out ?_) | (go_at_call 55; refine (bad_calls p HP.out 4 s 0 0 0 0 0 (by decide) H0.out.1 H0.out.2 _).mono ?_; rw [HBAD.out]; rintro e' w5 ⟨rfl, hb_⟩; have n_ := Aside0.mk (H.out.by_below hb_); clear H hb_; have H := n_; clear n_))
  clear he0 he1 he2 he3 he4 he5 he6
  go_wp2_with (first | ((with_reducible refine gate_dst (N := 17) rfl ?_); refine pl_build0 (N := 17) rfl rfl rfl ?_) | ((with_reducible refine gate_store (t := 33) (p := 4) rfl ?_); refine pl_store rfl rfl (.tmp 4) (.tmp 17) rfl rfl rfl H.out.hr (pcs_size _ zeroP_len) zeroP_len ?_; intro w9 hb_ hg_; have n_ := Aside0.mk (H.out.stR hb_ hg_); clear H hb_ hg_; have H := n_; clear n_))
  refine bodyPost_ret (results_ct rfl _ _ r 33 (pcs zeroP) (0, 0) _ rfl H.out.hr pool33 rfl (size33 _ zeroP_len)) rfl ?_
  exact ⟨rfl, H.out.below⟩

set_option maxHeartbeats 8000000 in
set_option maxRecDepth 100000 in
theorem apply4ok (p : PL) (hp : p.sl.length = 64) (s : Int) (hs : outB s 0 63 = false) (hbad : badP p 4 s 0 0 = false) (w0 : World) : Calls Try.prog 22 #[.agg (pcs p), .agg #[.int .i64 4, .int .i64 s, .int .i64 0, .int .i64 0, .int .i64 0, .int .u64 0, .int .u64 0]] w0 fun e w' => e = .returned (.tuple #[.agg (pcs (nextPool p 4 s 0 0 0 0 0)), .int .i64 0]) ∧ Below w0.heap.size w0 w' := by
  have hu25 := Try.underlying25
  have hu49 := Try.underlying69
  have hu29 := Try.underlying29
  have hu31 := Try.underlying31
  have hu33 := pool33
  have hu26 := slots26
  have HP := Aside0.mk hp
  have HS := Aside0.mk hs
  have HBAD := Aside0.mk hbad
  clear hp hs hbad
  have H0 : Aside0 (0 ≤ s ∧ s < 64) := ⟨by have h_ := HS.out; unfold outB at h_; simp only [decide_eq_false_iff_not] at h_; omega⟩
  go_enter Try.func22, Try.ntmps22
  go_upto_region 1 with (first | ((with_reducible refine gate_dst (N := 2) rfl ?_); refine pl_box rfl rfl rfl ?_; intro g hg w1 hb1 hB1; have G1 := Aside0.mk hg; have G2 := Aside0.mk hb1; have G3 := Aside0.mk hB1; clear hg hb1 hB1) | ((with_reducible refine gate_dst (N := 3) rfl ?_); refine any_box rfl rfl rfl ?_; intro q hq w2 hb2 hB2; have G4 := Aside0.mk hq; have G5 := Aside0.mk hb2; have G6 := Aside0.mk hB2; clear hq hb2 hB2) | ((with_reducible refine gate_dst (N := 4) rfl ?_); refine pl_alloc (N := 4) rfl rfl rfl ?_; intro r hr w3 hb3 hB3; have G7 := Aside0.mk hr; have G8 := Aside0.mk hb3; have G9 := Aside0.mk hB3; clear hr hb3 hB3))
  have H := Aside0.mk (AS.make G1.out G2.out G3.out G4.out G5.out G6.out G7.out G8.out G9.out)
  clear G1 G2 G3 G4 G5 G6 G7 G8 G9
  have he0 : w3.cell? ⟨q, 0, none⟩ = some (.int .i64 4) := (blk_cell H.out.hq 0).trans rfl
  have he1 : w3.cell? ⟨q, 1, none⟩ = some (.int .i64 s) := (blk_cell H.out.hq 1).trans rfl
  have he2 : w3.cell? ⟨q, 2, none⟩ = some (.int .i64 0) := (blk_cell H.out.hq 2).trans rfl
  have he3 : w3.cell? ⟨q, 3, none⟩ = some (.int .i64 0) := (blk_cell H.out.hq 3).trans rfl
  have he4 : w3.cell? ⟨q, 4, none⟩ = some (.int .i64 0) := (blk_cell H.out.hq 4).trans rfl
  have he5 : w3.cell? ⟨q, 5, none⟩ = some (.int .u64 0) := (blk_cell H.out.hq 5).trans rfl
  have he6 : w3.cell? ⟨q, 6, none⟩ = some (.int .u64 0) := (blk_cell H.out.hq 6).trans rfl
  go_upto_region 2 with (first | (go_at_call 54; with_reducible refine (check4f s HS.out _).mono ?_; rintro e' w4 ⟨rfl, hb_⟩; have n_ := Aside0.mk (H.out.by_below hb_); clear H hb_; have H := n_; clear n_))
  clear he0 he1 he2 he3 he4 he5 he6
  go_upto_region 4 with fail
  have he0 : w4.cell? ⟨q, 0, none⟩ = some (.int .i64 4) := (blk_cell H.out.hq 0).trans rfl
  have he1 : w4.cell? ⟨q, 1, none⟩ = some (.int .i64 s) := (blk_cell H.out.hq 1).trans rfl
  have he2 : w4.cell? ⟨q, 2, none⟩ = some (.int .i64 0) := (blk_cell H.out.hq 2).trans rfl
  have he3 : w4.cell? ⟨q, 3, none⟩ = some (.int .i64 0) := (blk_cell H.out.hq 3).trans rfl
  have he4 : w4.cell? ⟨q, 4, none⟩ = some (.int .i64 0) := (blk_cell H.out.hq 4).trans rfl
  have he5 : w4.cell? ⟨q, 5, none⟩ = some (.int .u64 0) := (blk_cell H.out.hq 5).trans rfl
  have he6 : w4.cell? ⟨q, 6, none⟩ = some (.int .u64 0) := (blk_cell H.out.hq 6).trans rfl
  go_upto_region 6 with (first | ((with_reducible refine gate_dst (N := 14) rfl ?_); refine pl_load (N := 14) rfl rfl (.tmp 2) rfl rfl H.out.hg HP.out ?_) | (go_at_call 55; refine (bad_calls p HP.out 4 s 0 0 0 0 0 (by decide) H0.out.1 H0.out.2 _).mono ?_; rw [HBAD.out]; rintro e' w5 ⟨rfl, hb_⟩; have n_ := Aside0.mk (H.out.by_below hb_); clear H hb_; have H := n_; clear n_))
  clear he0 he1 he2 he3 he4 he5 he6
  have h0' := eq_true H0.out.1
  have h1' := eq_true H0.out.2
  have he0 : w5.cell? ⟨q, 0, none⟩ = some (.int .i64 4) := (blk_cell H.out.hq 0).trans rfl
  have he1 : w5.cell? ⟨q, 1, none⟩ = some (.int .i64 s) := (blk_cell H.out.hq 1).trans rfl
  go_quiet (fail)
  have n_ := Aside0.mk (H.out.by_below (pw_below_drewN (Below.refl _ _) nq))
  clear H
  have H := n_
  clear n_
  generalize w5.drewN nq = w6 at H ⊢
  go_upto_region 8 with fail
  clear he0 he1
  have hver : w6.cell? ⟨g, 0, none⟩ = some (.int .i64 p.ver) := (blk_cell H.out.hg 0).trans rfl
  have hverf : w6.frozen? ⟨g, 0, none⟩ = false := blk_frozen H.out.hg 0
  go_upto_region 9 with (first | ((with_reducible refine gate_store (t := 3) (p := 38) rfl ?_); refine st3_event rfl rfl (.tmp 38) (.tmp 37) rfl (v := wrap64 (p.ver + 1)) rfl rfl H.out.hg (by rw [pcs_size p HP.out]; decide) ?_; intro w7 hb_ hg_; rw [pcs_ver] at hb_; have n_ := Aside0.mk (H.out.stG hb_ hg_); clear H hb_ hg_ hver hverf; have H := n_; clear n_))
  have he1 : w7.cell? ⟨q, 1, none⟩ = some (.int .i64 s) := (blk_cell H.out.hq 1).trans rfl
  obtain ⟨ad_, e_, hx0, hx1, hx2, hx3, hx4⟩ := at_T25 (slots_C H.out.hg (pcs_slots _ HP.out) : Kd.C k25 w7 (some ⟨g, 3, none⟩) p.sl.length p.sl) s H0.out.1 (by rw [HP.out]; exact H0.out.2)
  cases e_
  simp only [add_in] at hx0 hx1 hx2 hx3 hx4
  go_upto_region 10 with (first | ((with_reducible refine gate_dst (N := 7) rfl ?_); refine sl_alloc (N := 7) rfl rfl rfl ?_; intro s1 hs1 w8 hb_ hB_; have HLT : Aside0 (r < s1) := ⟨by rw [hs1]; exact H.out.hr.lt⟩; have HSB := Aside0.mk hb_; have n_ := Aside0.mk (H.out.by_below hB_); clear H hb_ hB_ hs1; have H := n_; clear n_) | ((with_reducible refine gate_store (t := 25) (p := 7) rfl ?_); refine stm_event rfl rfl 25 (.tmp 7) (.tmp 43) rfl rfl rfl HSB.out (Nat.le_refl _) (size25' _ _ _ _ _) (one5 _ _ _ _ _) ?_; intro w9 hb_ hg_; have m_ : Aside0 (Blk w9 s1 25 #[.int .i64 (rd_T25 p.sl s).f0, .int .i64 (rd_T25 p.sl s).f1, .int .i64 (rd_T25 p.sl s).f2, .int .i64 (rd_T25 p.sl s).f3, .int .i64 (rd_T25 p.sl s).f4]) := ⟨hb_⟩; have n_ := Aside0.mk (H.out.stS HLT.out hg_); clear H HSB hb_ hg_ ; have H := n_; have HSB := m_; clear n_ m_))
  clear hx0 hx1 hx2 hx3 hx4 he1
  have he0 : w9.cell? ⟨q, 0, none⟩ = some (.int .i64 4) := (blk_cell H.out.hq 0).trans rfl
  go_upto_region 18 with fail
  clear he0
  have n_ : Aside0 (AS w0 g q r _ _ _ w9.drew) := ⟨H.out.by_below (below_drew1 (Below.refl _ _))⟩
  have m_ : Aside0 (Blk w9.drew s1 25 #[.int .i64 (rd_T25 p.sl s).f0, .int .i64 (rd_T25 p.sl s).f1, .int .i64 (rd_T25 p.sl s).f2, .int .i64 (rd_T25 p.sl s).f3, .int .i64 (rd_T25 p.sl s).f4]) := ⟨HSB.out.below (below_drew1 (Below.refl _ _))⟩
  clear H HSB
  have H := n_
  have HSB := m_
  clear n_ m_
  refine start_ (n := 7) (S := fun w' => w'.cell? ⟨g, 323, none⟩ = some (.int .i64 p.ep)) (ds := []) #[false, false, false, false, false, false, false] (by kernel_rfl) rfl rfl ((blk_cell H.out.hg 323).trans (pcs_ring { p with ver := wrap64 (p.ver + 1) } HP.out 0)) (fun hHeld => ?_)
  generalize w9.drew = wD at H HSB hHeld ⊢
  refine pure_ (i := 0) (N := some 63) (v := ?_) (a' := ?_) #[true, false, false, false, false, false, false] rfl rfl (by kernel_rfl) (fun _ _ _ h => h) (Or.inl ⟨by rfl, ?_⟩) ?_ ?_
  rotate_left
  · intro w'
    go_simp
    with_reducible rfl
  rotate_left
  · simp only [Act.put, List.setIfInBounds_toArray, List.set_cons_zero, List.set_cons_succ, i64_w, i32_w]
    rfl
  refine pure_ (i := 1) (N := some 64) (v := ?_) (a' := ?_) #[true, true, false, false, false, false, false] rfl rfl (by kernel_rfl) (fun _ _ _ h => h) (Or.inl ⟨by rfl, ?_⟩) ?_ ?_
  rotate_left
  · intro w'
    go_simp
    with_reducible rfl
  rotate_left
  · simp only [Act.put, List.setIfInBounds_toArray, List.set_cons_zero, List.set_cons_succ, i64_w, i32_w]
    rfl
  refine pure_ (i := 3) (N := some 66) (v := ?_) (a' := ?_) #[true, true, false, true, false, false, false] rfl rfl (by kernel_rfl) (fun _ _ _ h => h) (Or.inl ⟨by rfl, ?_⟩) ?_ ?_
  rotate_left
  · intro w'
    go_simp
    with_reducible rfl
  rotate_left
  · simp only [Act.put, List.setIfInBounds_toArray, List.set_cons_zero, List.set_cons_succ, i64_w, i32_w]
    rfl
  refine take_ (i := 2) (N := some 65) (v := ?_) (a' := ?_) #[true, true, true, true, false, false, false] rfl rfl (by kernel_rfl) (fun _ _ _ h => h) (Or.inl ⟨by rfl, ?_⟩) hHeld ?_ ?_
  rotate_left
  · intro w' s0
    go_simp
    with_reducible rfl
  rotate_left
  · simp only [Act.put, List.setIfInBounds_toArray, List.set_cons_zero, List.set_cons_succ, i64_w, i32_w]
    rfl
  refine one_ (i := 4) (N := none) #[true, true, true, true, true, false, false] rfl rfl (by kernel_rfl) (by decide) (fun K hK => ?_)
  refine skip_ (w1 := wD.setCell ⟨s1, 0, none⟩ (.int .i64 4)) (by rfl) rfl (run_st3 _ _ _ s1 25 0 _ (.tmp 66) _ 4 rfl rfl rfl HSB.out (by simp)) ?_
  have m_ : Aside0 (Blk (wD.setCell ⟨s1, 0, none⟩ (.int .i64 4)) s1 25 #[.int .i64 4, .int .i64 (rd_T25 p.sl s).f1, .int .i64 (rd_T25 p.sl s).f2, .int .i64 (rd_T25 p.sl s).f3, .int .i64 (rd_T25 p.sl s).f4]) := ⟨blk_set HSB.out 0 (.int .i64 4)⟩
  have n_ := Aside0.mk (H.out.stS HLT.out (grown_set wD s1 0 (.int .i64 4)))
  clear H HSB hHeld
  generalize wD.setCell ⟨s1, 0, none⟩ (.int .i64 4) = wE at n_ m_ ⊢
  have H := n_
  have HSB := m_
  clear n_ m_
  refine hK.out _ _ ((blk_cell H.out.hg 323).trans (pcs_ring { p with ver := wrap64 (p.ver + 1) } HP.out 0)) (fun hHeld => ?_)
  clear hK K
  refine pure_ (i := 5) (N := some 67) (v := ?_) (a' := ?_) #[true, true, true, true, true, true, false] rfl rfl (by kernel_rfl) (fun _ _ _ h => h) (Or.inl ⟨by rfl, ?_⟩) ?_ ?_
  rotate_left
  · intro w'
    go_simp
    with_reducible rfl
  rotate_left
  · simp only [Act.put, List.setIfInBounds_toArray, List.set_cons_zero, List.set_cons_succ, i64_w, i32_w]
    rfl
  refine one_ (i := 6) (N := none) #[true, true, true, true, true, true, true] rfl rfl (by kernel_rfl) (by decide) (fun K hK => ?_)
  refine skip_ (w1 := wE.setCell ⟨s1, 4, none⟩ (.int .i64 p.ep)) (by rfl) rfl (run_st3 _ _ _ s1 25 4 _ (.tmp 67) (.tmp 65) p.ep rfl rfl rfl HSB.out (by simp)) ?_
  have m_ : Aside0 (Blk (wE.setCell ⟨s1, 4, none⟩ (.int .i64 p.ep)) s1 25 #[.int .i64 4, .int .i64 (rd_T25 p.sl s).f1, .int .i64 (rd_T25 p.sl s).f2, .int .i64 (rd_T25 p.sl s).f3, .int .i64 (p.ep)]) := ⟨blk_set HSB.out 4 (.int .i64 p.ep)⟩
  have n_ := Aside0.mk (H.out.stS HLT.out (grown_set wE s1 4 (.int .i64 p.ep)))
  clear H HSB hHeld
  generalize wE.setCell ⟨s1, 4, none⟩ (.int .i64 p.ep) = wF at n_ m_ ⊢
  have H := n_
  have HSB := m_
  clear n_ m_
  refine hK.out _ _ ((blk_cell H.out.hg 323).trans (pcs_ring { p with ver := wrap64 (p.ver + 1) } HP.out 0)) (fun hHeld => ?_)
  clear hK K
  refine done_ (by kernel_rfl) ?_
  clear hHeld
  go_upto_region 23 with fail
  have he1 : wF.cell? ⟨q, 1, none⟩ = some (.int .i64 s) := (blk_cell H.out.hq 1).trans rfl
  have hv0 : wF.cell? ⟨s1, 0, none⟩ = some (.int .i64 4) := (blk_cell HSB.out 0).trans rfl
  have hv1 : wF.cell? ⟨s1, 1, none⟩ = some (.int .i64 (rd_T25 p.sl s).f1) := (blk_cell HSB.out 1).trans rfl
  have hv2 : wF.cell? ⟨s1, 2, none⟩ = some (.int .i64 (rd_T25 p.sl s).f2) := (blk_cell HSB.out 2).trans rfl
  have hv3 : wF.cell? ⟨s1, 3, none⟩ = some (.int .i64 (rd_T25 p.sl s).f3) := (blk_cell HSB.out 3).trans rfl
  have hv4 : wF.cell? ⟨s1, 4, none⟩ = some (.int .i64 (p.ep)) := (blk_cell HSB.out 4).trans rfl
  have HL2 : Aside0 (({ p with ver := wrap64 (p.ver + 1), sl := p.sl.set s.toNat ⟨4, (rd_T25 p.sl s).f1, (rd_T25 p.sl s).f2, (rd_T25 p.sl s).f3, p.ep⟩ } : PL).sl.length = 64) := ⟨by simp only [List.length_set]; exact HP.out⟩
  have hlt_ : Aside0 (s.toNat < 64) := ⟨by have h_ := H0.out; omega⟩
  go_upto_region 24 with (first | ((with_reducible refine gate_store (t := 25) (p := 83) rfl ?_); refine stm_event rfl rfl 25 (.tmp 83) (.tmp 81) rfl rfl rfl H.out.hg (i := 3 + s.toNat * 5) (by rw [pcs_size ({ p with ver := wrap64 (p.ver + 1) } : PL) HP.out]; have h_ := hlt_.out; simp only [List.size_toArray, List.length_cons, List.length_nil]; omega) (size25' _ _ _ _ _) (one5 _ _ _ _ _) ?_; intro wX hb_ hg_; have hb2_ : Blk wX g 33 (pcs { p with ver := wrap64 (p.ver + 1), sl := p.sl.set s.toNat ⟨4, (rd_T25 p.sl s).f1, (rd_T25 p.sl s).f2, (rd_T25 p.sl s).f3, p.ep⟩ }) := (pcs_slot { p with ver := wrap64 (p.ver + 1) } HP.out s.toNat hlt_.out ⟨4, (rd_T25 p.sl s).f1, (rd_T25 p.sl s).f2, (rd_T25 p.sl s).f3, p.ep⟩) ▸ hb_; have n_ := Aside0.mk (H.out.stG hb2_ hg_); clear H hb_ hb2_ hg_; have H := n_; clear n_))
  clear he1 hv0 hv1 hv2 hv3 hv4
  have hres : Aside0 (nextPool p 4 s 0 0 0 0 0 = { p with ver := wrap64 (p.ver + 1), sl := p.sl.set s.toNat ⟨4, (rd_T25 p.sl s).f1, (rd_T25 p.sl s).f2, (rd_T25 p.sl s).f3, p.ep⟩ }) := ⟨by simp [nextPool, nextSlot]⟩
  go_wp2_with (first | ((with_reducible refine gate_dst (N := 84) rfl ?_); refine pl_load (N := 84) rfl rfl (.tmp 2) rfl rfl H.out.hg HL2.out ?_) | ((with_reducible refine gate_store (t := 33) (p := 4) rfl ?_); refine pl_store rfl rfl (.tmp 4) (.tmp 84) rfl rfl rfl H.out.hr (pcs_size _ zeroP_len) HL2.out ?_; intro wY hb_ hg_; have n_ := Aside0.mk (H.out.stR hb_ hg_); clear H hb_ hg_; have H := n_; clear n_))
  refine bodyPost_ret (results_ct rfl _ _ r 33 (pcs { p with ver := wrap64 (p.ver + 1), sl := p.sl.set s.toNat ⟨4, (rd_T25 p.sl s).f1, (rd_T25 p.sl s).f2, (rd_T25 p.sl s).f3, p.ep⟩ }) (0, 0) _ rfl H.out.hr pool33 rfl (size33 _ HL2.out)) rfl ?_
  exact ⟨by rw [hres.out]; rfl, H.out.below⟩

set_option maxHeartbeats 8000000 in
set_option maxRecDepth 100000 in
theorem apply5out (p : PL) (hp : p.sl.length = 64) (s : Int) (hs : outB s 0 63 = true) (w0 : World) : Calls Try.prog 22 #[.agg (pcs p), .agg #[.int .i64 5, .int .i64 s, .int .i64 0, .int .i64 0, .int .i64 0, .int .u64 0, .int .u64 0]] w0 fun e w' => e = .returned (.tuple #[.agg (pcs zeroP), .int .i64 11]) ∧ Below w0.heap.size w0 w' := by
  have hu25 := Try.underlying25
  have hu49 := Try.underlying69
  have hu29 := Try.underlying29
  have hu31 := Try.underlying31
  have hu33 := pool33
  have hu26 := slots26
  have HP := Aside0.mk hp
  have HS := Aside0.mk hs
  clear hp hs
  go_enter Try.func22, Try.ntmps22
  go_upto_region 1 with (first | ((with_reducible refine gate_dst (N := 2) rfl ?_); refine pl_box rfl rfl rfl ?_; intro g hg w1 hb1 hB1; have G1 := Aside0.mk hg; have G2 := Aside0.mk hb1; have G3 := Aside0.mk hB1; clear hg hb1 hB1) | ((with_reducible refine gate_dst (N := 3) rfl ?_); refine any_box rfl rfl rfl ?_; intro q hq w2 hb2 hB2; have G4 := Aside0.mk hq; have G5 := Aside0.mk hb2; have G6 := Aside0.mk hB2; clear hq hb2 hB2) | ((with_reducible refine gate_dst (N := 4) rfl ?_); refine pl_alloc (N := 4) rfl rfl rfl ?_; intro r hr w3 hb3 hB3; have G7 := Aside0.mk hr; have G8 := Aside0.mk hb3; have G9 := Aside0.mk hB3; clear hr hb3 hB3))
  have H := Aside0.mk (AS.make G1.out G2.out G3.out G4.out G5.out G6.out G7.out G8.out G9.out)
  clear G1 G2 G3 G4 G5 G6 G7 G8 G9
  have he0 : w3.cell? ⟨q, 0, none⟩ = some (.int .i64 5) := (blk_cell H.out.hq 0).trans rfl
  have he1 : w3.cell? ⟨q, 1, none⟩ = some (.int .i64 s) := (blk_cell H.out.hq 1).trans rfl
  have he2 : w3.cell? ⟨q, 2, none⟩ = some (.int .i64 0) := (blk_cell H.out.hq 2).trans rfl
  have he3 : w3.cell? ⟨q, 3, none⟩ = some (.int .i64 0) := (blk_cell H.out.hq 3).trans rfl
  have he4 : w3.cell? ⟨q, 4, none⟩ = some (.int .i64 0) := (blk_cell H.out.hq 4).trans rfl
  have he5 : w3.cell? ⟨q, 5, none⟩ = some (.int .u64 0) := (blk_cell H.out.hq 5).trans rfl
  have he6 : w3.cell? ⟨q, 6, none⟩ = some (.int .u64 0) := (blk_cell H.out.hq 6).trans rfl
  go_upto_region 2 with (first | (go_at_call 54; with_reducible refine (check5t s HS.out _).mono ?_; rintro e' w4 ⟨rfl, hb_⟩; have n_ := Aside0.mk (H.out.by_below hb_); clear H hb_; have H := n_; clear n_))
  clear he0 he1 he2 he3 he4 he5 he6
  go_wp2_with (first | ((with_reducible refine gate_dst (N := 12) rfl ?_); refine pl_build0 (N := 12) rfl rfl rfl ?_) | ((with_reducible refine gate_store (t := 33) (p := 4) rfl ?_); refine pl_store rfl rfl (.tmp 4) (.tmp 12) rfl rfl rfl H.out.hr (pcs_size _ zeroP_len) zeroP_len ?_; intro w9 hb_ hg_; have n_ := Aside0.mk (H.out.stR hb_ hg_); clear H hb_ hg_; have H := n_; clear n_))
  refine bodyPost_ret (results_ct rfl _ _ r 33 (pcs zeroP) (0, 0) _ rfl H.out.hr pool33 rfl (size33 _ zeroP_len)) rfl ?_
  exact ⟨rfl, H.out.below⟩

set_option maxHeartbeats 8000000 in
set_option maxRecDepth 100000 in
theorem apply5bad (p : PL) (hp : p.sl.length = 64) (s : Int) (hs : outB s 0 63 = false) (hbad : badP p 5 s 0 0 = true) (w0 : World) : Calls Try.prog 22 #[.agg (pcs p), .agg #[.int .i64 5, .int .i64 s, .int .i64 0, .int .i64 0, .int .i64 0, .int .u64 0, .int .u64 0]] w0 fun e w' => e = .returned (.tuple #[.agg (pcs zeroP), .int .i64 12]) ∧ Below w0.heap.size w0 w' := by
  have hu25 := Try.underlying25
  have hu49 := Try.underlying69
  have hu29 := Try.underlying29
  have hu31 := Try.underlying31
  have hu33 := pool33
  have hu26 := slots26
  have HP := Aside0.mk hp
  have HS := Aside0.mk hs
  have HBAD := Aside0.mk hbad
  clear hp hs hbad
  have H0 : Aside0 (0 ≤ s ∧ s < 64) := ⟨by have h_ := HS.out; unfold outB at h_; simp only [decide_eq_false_iff_not] at h_; omega⟩
  go_enter Try.func22, Try.ntmps22
  go_upto_region 1 with (first | ((with_reducible refine gate_dst (N := 2) rfl ?_); refine pl_box rfl rfl rfl ?_; intro g hg w1 hb1 hB1; have G1 := Aside0.mk hg; have G2 := Aside0.mk hb1; have G3 := Aside0.mk hB1; clear hg hb1 hB1) | ((with_reducible refine gate_dst (N := 3) rfl ?_); refine any_box rfl rfl rfl ?_; intro q hq w2 hb2 hB2; have G4 := Aside0.mk hq; have G5 := Aside0.mk hb2; have G6 := Aside0.mk hB2; clear hq hb2 hB2) | ((with_reducible refine gate_dst (N := 4) rfl ?_); refine pl_alloc (N := 4) rfl rfl rfl ?_; intro r hr w3 hb3 hB3; have G7 := Aside0.mk hr; have G8 := Aside0.mk hb3; have G9 := Aside0.mk hB3; clear hr hb3 hB3))
  have H := Aside0.mk (AS.make G1.out G2.out G3.out G4.out G5.out G6.out G7.out G8.out G9.out)
  clear G1 G2 G3 G4 G5 G6 G7 G8 G9
  have he0 : w3.cell? ⟨q, 0, none⟩ = some (.int .i64 5) := (blk_cell H.out.hq 0).trans rfl
  have he1 : w3.cell? ⟨q, 1, none⟩ = some (.int .i64 s) := (blk_cell H.out.hq 1).trans rfl
  have he2 : w3.cell? ⟨q, 2, none⟩ = some (.int .i64 0) := (blk_cell H.out.hq 2).trans rfl
  have he3 : w3.cell? ⟨q, 3, none⟩ = some (.int .i64 0) := (blk_cell H.out.hq 3).trans rfl
  have he4 : w3.cell? ⟨q, 4, none⟩ = some (.int .i64 0) := (blk_cell H.out.hq 4).trans rfl
  have he5 : w3.cell? ⟨q, 5, none⟩ = some (.int .u64 0) := (blk_cell H.out.hq 5).trans rfl
  have he6 : w3.cell? ⟨q, 6, none⟩ = some (.int .u64 0) := (blk_cell H.out.hq 6).trans rfl
  go_upto_region 2 with (first | (go_at_call 54; with_reducible refine (check5f s HS.out _).mono ?_; rintro e' w4 ⟨rfl, hb_⟩; have n_ := Aside0.mk (H.out.by_below hb_); clear H hb_; have H := n_; clear n_))
  clear he0 he1 he2 he3 he4 he5 he6
  go_upto_region 4 with fail
  have he0 : w4.cell? ⟨q, 0, none⟩ = some (.int .i64 5) := (blk_cell H.out.hq 0).trans rfl
  have he1 : w4.cell? ⟨q, 1, none⟩ = some (.int .i64 s) := (blk_cell H.out.hq 1).trans rfl
  have he2 : w4.cell? ⟨q, 2, none⟩ = some (.int .i64 0) := (blk_cell H.out.hq 2).trans rfl
  have he3 : w4.cell? ⟨q, 3, none⟩ = some (.int .i64 0) := (blk_cell H.out.hq 3).trans rfl
  have he4 : w4.cell? ⟨q, 4, none⟩ = some (.int .i64 0) := (blk_cell H.out.hq 4).trans rfl
  have he5 : w4.cell? ⟨q, 5, none⟩ = some (.int .u64 0) := (blk_cell H.out.hq 5).trans rfl
  have he6 : w4.cell? ⟨q, 6, none⟩ = some (.int .u64 0) := (blk_cell H.out.hq 6).trans rfl
  go_upto_region 5 with (first | ((with_reducible refine gate_dst (N := 14) rfl ?_); refine pl_load (N := 14) rfl rfl (.tmp 2) rfl rfl H.out.hg HP.out ?_) | (go_at_call 55; refine (bad_calls p HP.out 5 s 0 0 0 0 0 (by decide) H0.out.1 H0.out.2 _).mono ?_; rw [HBAD.out]; rintro e' w5 ⟨rfl, hb_⟩; have n_ := Aside0.mk (H.out.by_below hb_); clear H hb_; have H := n_; clear n_))
  clear he0 he1 he2 he3 he4 he5 he6
  go_wp2_with (first | ((with_reducible refine gate_dst (N := 17) rfl ?_); refine pl_build0 (N := 17) rfl rfl rfl ?_) | ((with_reducible refine gate_store (t := 33) (p := 4) rfl ?_); refine pl_store rfl rfl (.tmp 4) (.tmp 17) rfl rfl rfl H.out.hr (pcs_size _ zeroP_len) zeroP_len ?_; intro w9 hb_ hg_; have n_ := Aside0.mk (H.out.stR hb_ hg_); clear H hb_ hg_; have H := n_; clear n_))
  refine bodyPost_ret (results_ct rfl _ _ r 33 (pcs zeroP) (0, 0) _ rfl H.out.hr pool33 rfl (size33 _ zeroP_len)) rfl ?_
  exact ⟨rfl, H.out.below⟩

set_option maxHeartbeats 8000000 in
set_option maxRecDepth 100000 in
theorem apply5soon (p : PL) (hp : p.sl.length = 64) (s : Int) (hs : outB s 0 63 = false) (hbad : badP p 5 s 0 0 = false) (hsoon : decide (p.ep < wrap64 ((rd_T25 p.sl s).f4 + 3)) = true) (w0 : World) : Calls Try.prog 22 #[.agg (pcs p), .agg #[.int .i64 5, .int .i64 s, .int .i64 0, .int .i64 0, .int .i64 0, .int .u64 0, .int .u64 0]] w0 fun e w' => e = .returned (.tuple #[.agg (pcs zeroP), .int .i64 13]) ∧ Below w0.heap.size w0 w' := by
  have hu25 := Try.underlying25
  have hu49 := Try.underlying69
  have hu29 := Try.underlying29
  have hu31 := Try.underlying31
  have hu33 := pool33
  have hu26 := slots26
  have HP := Aside0.mk hp
  have HS := Aside0.mk hs
  have HBAD := Aside0.mk hbad
  have HSOON := Aside0.mk hsoon
  clear hp hs hbad hsoon
  have H0 : Aside0 (0 ≤ s ∧ s < 64) := ⟨by have h_ := HS.out; unfold outB at h_; simp only [decide_eq_false_iff_not] at h_; omega⟩
  go_enter Try.func22, Try.ntmps22
  go_upto_region 1 with (first | ((with_reducible refine gate_dst (N := 2) rfl ?_); refine pl_box rfl rfl rfl ?_; intro g hg w1 hb1 hB1; have G1 := Aside0.mk hg; have G2 := Aside0.mk hb1; have G3 := Aside0.mk hB1; clear hg hb1 hB1) | ((with_reducible refine gate_dst (N := 3) rfl ?_); refine any_box rfl rfl rfl ?_; intro q hq w2 hb2 hB2; have G4 := Aside0.mk hq; have G5 := Aside0.mk hb2; have G6 := Aside0.mk hB2; clear hq hb2 hB2) | ((with_reducible refine gate_dst (N := 4) rfl ?_); refine pl_alloc (N := 4) rfl rfl rfl ?_; intro r hr w3 hb3 hB3; have G7 := Aside0.mk hr; have G8 := Aside0.mk hb3; have G9 := Aside0.mk hB3; clear hr hb3 hB3))
  have H := Aside0.mk (AS.make G1.out G2.out G3.out G4.out G5.out G6.out G7.out G8.out G9.out)
  clear G1 G2 G3 G4 G5 G6 G7 G8 G9
  have he0 : w3.cell? ⟨q, 0, none⟩ = some (.int .i64 5) := (blk_cell H.out.hq 0).trans rfl
  have he1 : w3.cell? ⟨q, 1, none⟩ = some (.int .i64 s) := (blk_cell H.out.hq 1).trans rfl
  have he2 : w3.cell? ⟨q, 2, none⟩ = some (.int .i64 0) := (blk_cell H.out.hq 2).trans rfl
  have he3 : w3.cell? ⟨q, 3, none⟩ = some (.int .i64 0) := (blk_cell H.out.hq 3).trans rfl
  have he4 : w3.cell? ⟨q, 4, none⟩ = some (.int .i64 0) := (blk_cell H.out.hq 4).trans rfl
  have he5 : w3.cell? ⟨q, 5, none⟩ = some (.int .u64 0) := (blk_cell H.out.hq 5).trans rfl
  have he6 : w3.cell? ⟨q, 6, none⟩ = some (.int .u64 0) := (blk_cell H.out.hq 6).trans rfl
  go_upto_region 2 with (first | (go_at_call 54; with_reducible refine (check5f s HS.out _).mono ?_; rintro e' w4 ⟨rfl, hb_⟩; have n_ := Aside0.mk (H.out.by_below hb_); clear H hb_; have H := n_; clear n_))
  clear he0 he1 he2 he3 he4 he5 he6
  go_upto_region 4 with fail
  have he0 : w4.cell? ⟨q, 0, none⟩ = some (.int .i64 5) := (blk_cell H.out.hq 0).trans rfl
  have he1 : w4.cell? ⟨q, 1, none⟩ = some (.int .i64 s) := (blk_cell H.out.hq 1).trans rfl
  have he2 : w4.cell? ⟨q, 2, none⟩ = some (.int .i64 0) := (blk_cell H.out.hq 2).trans rfl
  have he3 : w4.cell? ⟨q, 3, none⟩ = some (.int .i64 0) := (blk_cell H.out.hq 3).trans rfl
  have he4 : w4.cell? ⟨q, 4, none⟩ = some (.int .i64 0) := (blk_cell H.out.hq 4).trans rfl
  have he5 : w4.cell? ⟨q, 5, none⟩ = some (.int .u64 0) := (blk_cell H.out.hq 5).trans rfl
  have he6 : w4.cell? ⟨q, 6, none⟩ = some (.int .u64 0) := (blk_cell H.out.hq 6).trans rfl
  go_upto_region 6 with (first | ((with_reducible refine gate_dst (N := 14) rfl ?_); refine pl_load (N := 14) rfl rfl (.tmp 2) rfl rfl H.out.hg HP.out ?_) | (go_at_call 55; refine (bad_calls p HP.out 5 s 0 0 0 0 0 (by decide) H0.out.1 H0.out.2 _).mono ?_; rw [HBAD.out]; rintro e' w5 ⟨rfl, hb_⟩; have n_ := Aside0.mk (H.out.by_below hb_); clear H hb_; have H := n_; clear n_))
  clear he0 he1 he2 he3 he4 he5 he6
  have h0' := eq_true H0.out.1
  have h1' := eq_true H0.out.2
  have he0 : w5.cell? ⟨q, 0, none⟩ = some (.int .i64 5) := (blk_cell H.out.hq 0).trans rfl
  have he1 : w5.cell? ⟨q, 1, none⟩ = some (.int .i64 s) := (blk_cell H.out.hq 1).trans rfl
  obtain ⟨ad_, e_, hx0, hx1, hx2, hx3, hx4⟩ := at_T25 (slots_C H.out.hg (pcs_slots _ HP.out)) s H0.out.1 (by rw [show _ = 64 from HP.out]; exact H0.out.2)
  cases e_
  simp only [add_in] at hx0 hx1 hx2 hx3 hx4
  have hring : w5.cell? ⟨g, 323, none⟩ = some (.int .i64 p.ep) := (blk_cell H.out.hg 323).trans (pcs_ring p HP.out 0)
  have hso := HSOON.out
  go_quiet (fail)
  have n_ := Aside0.mk (H.out.by_below (pw_below_drewN (Below.refl _ _) nq))
  clear H
  have H := n_
  clear n_
  generalize w5.drewN nq = w6 at H ⊢
  clear hx0 hx1 hx2 hx3 hx4 hring
  go_wp2_with (first | ((with_reducible refine gate_dst (N := 34) rfl ?_); refine pl_build0 (N := 34) rfl rfl rfl ?_) | ((with_reducible refine gate_store (t := 33) (p := 4) rfl ?_); refine pl_store rfl rfl (.tmp 4) (.tmp 34) rfl rfl rfl H.out.hr (pcs_size _ zeroP_len) zeroP_len ?_; intro w9 hb_ hg_; have n_ := Aside0.mk (H.out.stR hb_ hg_); clear H hb_ hg_; have H := n_; clear n_))
  refine bodyPost_ret (results_ct rfl _ _ r 33 (pcs zeroP) (0, 0) _ rfl H.out.hr pool33 rfl (size33 _ zeroP_len)) rfl ?_
  exact ⟨rfl, H.out.below⟩

set_option maxHeartbeats 8000000 in
set_option maxRecDepth 100000 in
theorem apply5ok (p : PL) (hp : p.sl.length = 64) (s : Int) (hs : outB s 0 63 = false) (hbad : badP p 5 s 0 0 = false) (hsoon : decide (p.ep < wrap64 ((rd_T25 p.sl s).f4 + 3)) = false) (w0 : World) : Calls Try.prog 22 #[.agg (pcs p), .agg #[.int .i64 5, .int .i64 s, .int .i64 0, .int .i64 0, .int .i64 0, .int .u64 0, .int .u64 0]] w0 fun e w' => e = .returned (.tuple #[.agg (pcs (nextPool p 5 s 0 0 0 0 0)), .int .i64 0]) ∧ Below w0.heap.size w0 w' := by
  have hu25 := Try.underlying25
  have hu49 := Try.underlying69
  have hu29 := Try.underlying29
  have hu31 := Try.underlying31
  have hu33 := pool33
  have hu26 := slots26
  have HP := Aside0.mk hp
  have HS := Aside0.mk hs
  have HBAD := Aside0.mk hbad
  have HSOON := Aside0.mk hsoon
  clear hp hs hbad hsoon
  have H0 : Aside0 (0 ≤ s ∧ s < 64) := ⟨by have h_ := HS.out; unfold outB at h_; simp only [decide_eq_false_iff_not] at h_; omega⟩
  go_enter Try.func22, Try.ntmps22
  go_upto_region 1 with (first | ((with_reducible refine gate_dst (N := 2) rfl ?_); refine pl_box rfl rfl rfl ?_; intro g hg w1 hb1 hB1; have G1 := Aside0.mk hg; have G2 := Aside0.mk hb1; have G3 := Aside0.mk hB1; clear hg hb1 hB1) | ((with_reducible refine gate_dst (N := 3) rfl ?_); refine any_box rfl rfl rfl ?_; intro q hq w2 hb2 hB2; have G4 := Aside0.mk hq; have G5 := Aside0.mk hb2; have G6 := Aside0.mk hB2; clear hq hb2 hB2) | ((with_reducible refine gate_dst (N := 4) rfl ?_); refine pl_alloc (N := 4) rfl rfl rfl ?_; intro r hr w3 hb3 hB3; have G7 := Aside0.mk hr; have G8 := Aside0.mk hb3; have G9 := Aside0.mk hB3; clear hr hb3 hB3))
  have H := Aside0.mk (AS.make G1.out G2.out G3.out G4.out G5.out G6.out G7.out G8.out G9.out)
  clear G1 G2 G3 G4 G5 G6 G7 G8 G9
  have he0 : w3.cell? ⟨q, 0, none⟩ = some (.int .i64 5) := (blk_cell H.out.hq 0).trans rfl
  have he1 : w3.cell? ⟨q, 1, none⟩ = some (.int .i64 s) := (blk_cell H.out.hq 1).trans rfl
  have he2 : w3.cell? ⟨q, 2, none⟩ = some (.int .i64 0) := (blk_cell H.out.hq 2).trans rfl
  have he3 : w3.cell? ⟨q, 3, none⟩ = some (.int .i64 0) := (blk_cell H.out.hq 3).trans rfl
  have he4 : w3.cell? ⟨q, 4, none⟩ = some (.int .i64 0) := (blk_cell H.out.hq 4).trans rfl
  have he5 : w3.cell? ⟨q, 5, none⟩ = some (.int .u64 0) := (blk_cell H.out.hq 5).trans rfl
  have he6 : w3.cell? ⟨q, 6, none⟩ = some (.int .u64 0) := (blk_cell H.out.hq 6).trans rfl
  go_upto_region 2 with (first | (go_at_call 54; with_reducible refine (check5f s HS.out _).mono ?_; rintro e' w4 ⟨rfl, hb_⟩; have n_ := Aside0.mk (H.out.by_below hb_); clear H hb_; have H := n_; clear n_))
  clear he0 he1 he2 he3 he4 he5 he6
  go_upto_region 4 with fail
  have he0 : w4.cell? ⟨q, 0, none⟩ = some (.int .i64 5) := (blk_cell H.out.hq 0).trans rfl
  have he1 : w4.cell? ⟨q, 1, none⟩ = some (.int .i64 s) := (blk_cell H.out.hq 1).trans rfl
  have he2 : w4.cell? ⟨q, 2, none⟩ = some (.int .i64 0) := (blk_cell H.out.hq 2).trans rfl
  have he3 : w4.cell? ⟨q, 3, none⟩ = some (.int .i64 0) := (blk_cell H.out.hq 3).trans rfl
  have he4 : w4.cell? ⟨q, 4, none⟩ = some (.int .i64 0) := (blk_cell H.out.hq 4).trans rfl
  have he5 : w4.cell? ⟨q, 5, none⟩ = some (.int .u64 0) := (blk_cell H.out.hq 5).trans rfl
  have he6 : w4.cell? ⟨q, 6, none⟩ = some (.int .u64 0) := (blk_cell H.out.hq 6).trans rfl
  go_upto_region 6 with (first | ((with_reducible refine gate_dst (N := 14) rfl ?_); refine pl_load (N := 14) rfl rfl (.tmp 2) rfl rfl H.out.hg HP.out ?_) | (go_at_call 55; refine (bad_calls p HP.out 5 s 0 0 0 0 0 (by decide) H0.out.1 H0.out.2 _).mono ?_; rw [HBAD.out]; rintro e' w5 ⟨rfl, hb_⟩; have n_ := Aside0.mk (H.out.by_below hb_); clear H hb_; have H := n_; clear n_))
  clear he0 he1 he2 he3 he4 he5 he6
  have h0' := eq_true H0.out.1
  have h1' := eq_true H0.out.2
  have he0 : w5.cell? ⟨q, 0, none⟩ = some (.int .i64 5) := (blk_cell H.out.hq 0).trans rfl
  have he1 : w5.cell? ⟨q, 1, none⟩ = some (.int .i64 s) := (blk_cell H.out.hq 1).trans rfl
  obtain ⟨ad_, e_, hx0, hx1, hx2, hx3, hx4⟩ := at_T25 (slots_C H.out.hg (pcs_slots _ HP.out)) s H0.out.1 (by rw [show _ = 64 from HP.out]; exact H0.out.2)
  cases e_
  simp only [add_in] at hx0 hx1 hx2 hx3 hx4
  have hring : w5.cell? ⟨g, 323, none⟩ = some (.int .i64 p.ep) := (blk_cell H.out.hg 323).trans (pcs_ring p HP.out 0)
  have hso := HSOON.out
  go_quiet (fail)
  have n_ := Aside0.mk (H.out.by_below (pw_below_drewN (Below.refl _ _) nq))
  clear H
  have H := n_
  clear n_
  generalize w5.drewN nq = w6 at H ⊢
  clear hx0 hx1 hx2 hx3 hx4 hring
  clear hso
  go_upto_region 8 with fail
  clear he0 he1
  have hver : w6.cell? ⟨g, 0, none⟩ = some (.int .i64 p.ver) := (blk_cell H.out.hg 0).trans rfl
  have hverf : w6.frozen? ⟨g, 0, none⟩ = false := blk_frozen H.out.hg 0
  go_upto_region 9 with (first | ((with_reducible refine gate_store (t := 3) (p := 38) rfl ?_); refine st3_event rfl rfl (.tmp 38) (.tmp 37) rfl (v := wrap64 (p.ver + 1)) rfl rfl H.out.hg (by rw [pcs_size p HP.out]; decide) ?_; intro w7 hb_ hg_; rw [pcs_ver] at hb_; have n_ := Aside0.mk (H.out.stG hb_ hg_); clear H hb_ hg_ hver hverf; have H := n_; clear n_))
  have he1 : w7.cell? ⟨q, 1, none⟩ = some (.int .i64 s) := (blk_cell H.out.hq 1).trans rfl
  obtain ⟨ad_, e_, hx0, hx1, hx2, hx3, hx4⟩ := at_T25 (slots_C H.out.hg (pcs_slots _ HP.out) : Kd.C k25 w7 (some ⟨g, 3, none⟩) p.sl.length p.sl) s H0.out.1 (by rw [HP.out]; exact H0.out.2)
  cases e_
  simp only [add_in] at hx0 hx1 hx2 hx3 hx4
  go_upto_region 10 with (first | ((with_reducible refine gate_dst (N := 7) rfl ?_); refine sl_alloc (N := 7) rfl rfl rfl ?_; intro s1 hs1 w8 hb_ hB_; have HLT : Aside0 (r < s1) := ⟨by rw [hs1]; exact H.out.hr.lt⟩; have HSB := Aside0.mk hb_; have n_ := Aside0.mk (H.out.by_below hB_); clear H hb_ hB_ hs1; have H := n_; clear n_) | ((with_reducible refine gate_store (t := 25) (p := 7) rfl ?_); refine stm_event rfl rfl 25 (.tmp 7) (.tmp 43) rfl rfl rfl HSB.out (Nat.le_refl _) (size25' _ _ _ _ _) (one5 _ _ _ _ _) ?_; intro w9 hb_ hg_; have m_ : Aside0 (Blk w9 s1 25 #[.int .i64 (rd_T25 p.sl s).f0, .int .i64 (rd_T25 p.sl s).f1, .int .i64 (rd_T25 p.sl s).f2, .int .i64 (rd_T25 p.sl s).f3, .int .i64 (rd_T25 p.sl s).f4]) := ⟨hb_⟩; have n_ := Aside0.mk (H.out.stS HLT.out hg_); clear H HSB hb_ hg_ ; have H := n_; have HSB := m_; clear n_ m_))
  clear hx0 hx1 hx2 hx3 hx4 he1
  have he0 : w9.cell? ⟨q, 0, none⟩ = some (.int .i64 5) := (blk_cell H.out.hq 0).trans rfl
  go_upto_region 20 with fail
  go_upto_region 23 with (first | ((with_reducible refine gate_store (t := 25) (p := 7) rfl ?_); refine stm_event rfl rfl 25 (.tmp 7) (.tmp 70) rfl rfl rfl HSB.out (Nat.le_refl _) (size25' _ _ _ _ _) (one5 _ _ _ _ _) ?_; intro wA hb_ hg_; have m_ : Aside0 (Blk wA s1 25 #[.int .i64 0, .int .i64 0, .int .i64 0, .int .i64 0, .int .i64 0]) := ⟨hb_⟩; have n_ := Aside0.mk (H.out.stS HLT.out hg_); clear H HSB hb_ hg_ ; have H := n_; have HSB := m_; clear n_ m_))
  clear he0
  have he1 : wA.cell? ⟨q, 1, none⟩ = some (.int .i64 s) := (blk_cell H.out.hq 1).trans rfl
  have hv0 : wA.cell? ⟨s1, 0, none⟩ = some (.int .i64 0) := (blk_cell HSB.out 0).trans rfl
  have hv1 : wA.cell? ⟨s1, 1, none⟩ = some (.int .i64 0) := (blk_cell HSB.out 1).trans rfl
  have hv2 : wA.cell? ⟨s1, 2, none⟩ = some (.int .i64 0) := (blk_cell HSB.out 2).trans rfl
  have hv3 : wA.cell? ⟨s1, 3, none⟩ = some (.int .i64 0) := (blk_cell HSB.out 3).trans rfl
  have hv4 : wA.cell? ⟨s1, 4, none⟩ = some (.int .i64 0) := (blk_cell HSB.out 4).trans rfl
  have HL2 : Aside0 (({ p with ver := wrap64 (p.ver + 1), sl := p.sl.set s.toNat ⟨0, 0, 0, 0, 0⟩ } : PL).sl.length = 64) := ⟨by simp only [List.length_set]; exact HP.out⟩
  have hlt_ : Aside0 (s.toNat < 64) := ⟨by have h_ := H0.out; omega⟩
  go_upto_region 24 with (first | ((with_reducible refine gate_store (t := 25) (p := 83) rfl ?_); refine stm_event rfl rfl 25 (.tmp 83) (.tmp 81) rfl rfl rfl H.out.hg (i := 3 + s.toNat * 5) (by rw [pcs_size ({ p with ver := wrap64 (p.ver + 1) } : PL) HP.out]; have h_ := hlt_.out; simp only [List.size_toArray, List.length_cons, List.length_nil]; omega) (size25' _ _ _ _ _) (one5 _ _ _ _ _) ?_; intro wX hb_ hg_; have hb2_ : Blk wX g 33 (pcs { p with ver := wrap64 (p.ver + 1), sl := p.sl.set s.toNat ⟨0, 0, 0, 0, 0⟩ }) := (pcs_slot { p with ver := wrap64 (p.ver + 1) } HP.out s.toNat hlt_.out ⟨0, 0, 0, 0, 0⟩) ▸ hb_; have n_ := Aside0.mk (H.out.stG hb2_ hg_); clear H hb_ hb2_ hg_; have H := n_; clear n_))
  clear he1 hv0 hv1 hv2 hv3 hv4
  have hres : Aside0 (nextPool p 5 s 0 0 0 0 0 = { p with ver := wrap64 (p.ver + 1), sl := p.sl.set s.toNat ⟨0, 0, 0, 0, 0⟩ }) := ⟨by simp [nextPool, nextSlot, z25]⟩
  go_wp2_with (first | ((with_reducible refine gate_dst (N := 84) rfl ?_); refine pl_load (N := 84) rfl rfl (.tmp 2) rfl rfl H.out.hg HL2.out ?_) | ((with_reducible refine gate_store (t := 33) (p := 4) rfl ?_); refine pl_store rfl rfl (.tmp 4) (.tmp 84) rfl rfl rfl H.out.hr (pcs_size _ zeroP_len) HL2.out ?_; intro wY hb_ hg_; have n_ := Aside0.mk (H.out.stR hb_ hg_); clear H hb_ hg_; have H := n_; clear n_))
  refine bodyPost_ret (results_ct rfl _ _ r 33 (pcs { p with ver := wrap64 (p.ver + 1), sl := p.sl.set s.toNat ⟨0, 0, 0, 0, 0⟩ }) (0, 0) _ rfl H.out.hr pool33 rfl (size33 _ HL2.out)) rfl ?_
  exact ⟨by rw [hres.out]; rfl, H.out.below⟩

set_option maxHeartbeats 8000000 in
set_option maxRecDepth 100000 in
theorem apply6ok (p : PL) (hp : p.sl.length = 64) (x y : Int) (hbad : badP p 6 0 0 0 = false) (w0 : World) : Calls Try.prog 22 #[.agg (pcs p), .agg #[.int .i64 6, .int .i64 0, .int .i64 0, .int .i64 0, .int .i64 0, .int .u64 x, .int .u64 y]] w0 fun e w' => e = .returned (.tuple #[.agg (pcs (nextPool p 6 0 0 0 0 x y)), .int .i64 0]) ∧ Below w0.heap.size w0 w' := by
  have hu25 := Try.underlying25
  have hu49 := Try.underlying69
  have hu29 := Try.underlying29
  have hu31 := Try.underlying31
  have hu33 := pool33
  have hu26 := slots26
  have HP := Aside0.mk hp
  have HBAD := Aside0.mk hbad
  clear hp hbad
  have H0 : Aside0 ((0 : Int) ≤ 0 ∧ (0 : Int) < 64) := ⟨by decide, by decide⟩
  go_enter Try.func22, Try.ntmps22
  go_upto_region 1 with (first | ((with_reducible refine gate_dst (N := 2) rfl ?_); refine pl_box rfl rfl rfl ?_; intro g hg w1 hb1 hB1; have G1 := Aside0.mk hg; have G2 := Aside0.mk hb1; have G3 := Aside0.mk hB1; clear hg hb1 hB1) | ((with_reducible refine gate_dst (N := 3) rfl ?_); refine any_box rfl rfl rfl ?_; intro q hq w2 hb2 hB2; have G4 := Aside0.mk hq; have G5 := Aside0.mk hb2; have G6 := Aside0.mk hB2; clear hq hb2 hB2) | ((with_reducible refine gate_dst (N := 4) rfl ?_); refine pl_alloc (N := 4) rfl rfl rfl ?_; intro r hr w3 hb3 hB3; have G7 := Aside0.mk hr; have G8 := Aside0.mk hb3; have G9 := Aside0.mk hB3; clear hr hb3 hB3))
  have H := Aside0.mk (AS.make G1.out G2.out G3.out G4.out G5.out G6.out G7.out G8.out G9.out)
  clear G1 G2 G3 G4 G5 G6 G7 G8 G9
  have he0 : w3.cell? ⟨q, 0, none⟩ = some (.int .i64 6) := (blk_cell H.out.hq 0).trans rfl
  have he1 : w3.cell? ⟨q, 1, none⟩ = some (.int .i64 0) := (blk_cell H.out.hq 1).trans rfl
  have he2 : w3.cell? ⟨q, 2, none⟩ = some (.int .i64 0) := (blk_cell H.out.hq 2).trans rfl
  have he3 : w3.cell? ⟨q, 3, none⟩ = some (.int .i64 0) := (blk_cell H.out.hq 3).trans rfl
  have he4 : w3.cell? ⟨q, 4, none⟩ = some (.int .i64 0) := (blk_cell H.out.hq 4).trans rfl
  have he5 : w3.cell? ⟨q, 5, none⟩ = some (.int .u64 x) := (blk_cell H.out.hq 5).trans rfl
  have he6 : w3.cell? ⟨q, 6, none⟩ = some (.int .u64 y) := (blk_cell H.out.hq 6).trans rfl
  go_upto_region 2 with (first | (go_at_call 54; with_reducible refine (check6 x y _).mono ?_; rintro e' w4 ⟨rfl, hb_⟩; have n_ := Aside0.mk (H.out.by_below hb_); clear H hb_; have H := n_; clear n_))
  clear he0 he1 he2 he3 he4 he5 he6
  go_upto_region 4 with fail
  have he0 : w4.cell? ⟨q, 0, none⟩ = some (.int .i64 6) := (blk_cell H.out.hq 0).trans rfl
  have he1 : w4.cell? ⟨q, 1, none⟩ = some (.int .i64 0) := (blk_cell H.out.hq 1).trans rfl
  have he2 : w4.cell? ⟨q, 2, none⟩ = some (.int .i64 0) := (blk_cell H.out.hq 2).trans rfl
  have he3 : w4.cell? ⟨q, 3, none⟩ = some (.int .i64 0) := (blk_cell H.out.hq 3).trans rfl
  have he4 : w4.cell? ⟨q, 4, none⟩ = some (.int .i64 0) := (blk_cell H.out.hq 4).trans rfl
  have he5 : w4.cell? ⟨q, 5, none⟩ = some (.int .u64 x) := (blk_cell H.out.hq 5).trans rfl
  have he6 : w4.cell? ⟨q, 6, none⟩ = some (.int .u64 y) := (blk_cell H.out.hq 6).trans rfl
  go_upto_region 6 with (first | ((with_reducible refine gate_dst (N := 14) rfl ?_); refine pl_load (N := 14) rfl rfl (.tmp 2) rfl rfl H.out.hg HP.out ?_) | (go_at_call 55; refine (bad_calls p HP.out 6 0 0 0 0 x y (by decide) H0.out.1 H0.out.2 _).mono ?_; rw [HBAD.out]; rintro e' w5 ⟨rfl, hb_⟩; have n_ := Aside0.mk (H.out.by_below hb_); clear H hb_; have H := n_; clear n_))
  clear he0 he1 he2 he3 he4 he5 he6
  have h0' := eq_true H0.out.1
  have h1' := eq_true H0.out.2
  have he0 : w5.cell? ⟨q, 0, none⟩ = some (.int .i64 6) := (blk_cell H.out.hq 0).trans rfl
  have he1 : w5.cell? ⟨q, 1, none⟩ = some (.int .i64 0) := (blk_cell H.out.hq 1).trans rfl
  go_quiet (fail)
  have n_ := Aside0.mk (H.out.by_below (pw_below_drewN (Below.refl _ _) nq))
  clear H
  have H := n_
  clear n_
  generalize w5.drewN nq = w6 at H ⊢
  go_upto_region 8 with fail
  clear he0 he1
  have hver : w6.cell? ⟨g, 0, none⟩ = some (.int .i64 p.ver) := (blk_cell H.out.hg 0).trans rfl
  have hverf : w6.frozen? ⟨g, 0, none⟩ = false := blk_frozen H.out.hg 0
  go_upto_region 9 with (first | ((with_reducible refine gate_store (t := 3) (p := 38) rfl ?_); refine st3_event rfl rfl (.tmp 38) (.tmp 37) rfl (v := wrap64 (p.ver + 1)) rfl rfl H.out.hg (by rw [pcs_size p HP.out]; decide) ?_; intro w7 hb_ hg_; rw [pcs_ver] at hb_; have n_ := Aside0.mk (H.out.stG hb_ hg_); clear H hb_ hg_ hver hverf; have H := n_; clear n_))
  have he1 : w7.cell? ⟨q, 1, none⟩ = some (.int .i64 0) := (blk_cell H.out.hq 1).trans rfl
  obtain ⟨ad_, e_, hx0, hx1, hx2, hx3, hx4⟩ := at_T25 (slots_C H.out.hg (pcs_slots _ HP.out) : Kd.C k25 w7 (some ⟨g, 3, none⟩) p.sl.length p.sl) 0 H0.out.1 (by rw [HP.out]; exact H0.out.2)
  cases e_
  simp only [add_in, Int.toNat_zero, Nat.zero_mul, Nat.add_zero, Nat.reduceAdd] at hx0 hx1 hx2 hx3 hx4
  go_upto_region 10 with (first | ((with_reducible refine gate_dst (N := 7) rfl ?_); refine sl_alloc (N := 7) rfl rfl rfl ?_; intro s1 hs1 w8 hb_ hB_; have HLT : Aside0 (r < s1) := ⟨by rw [hs1]; exact H.out.hr.lt⟩; have HSB := Aside0.mk hb_; have n_ := Aside0.mk (H.out.by_below hB_); clear H hb_ hB_ hs1; have H := n_; clear n_) | ((with_reducible refine gate_store (t := 25) (p := 7) rfl ?_); refine stm_event rfl rfl 25 (.tmp 7) (.tmp 43) rfl rfl rfl HSB.out (Nat.le_refl _) (size25' _ _ _ _ _) (one5 _ _ _ _ _) ?_; intro w9 hb_ hg_; have m_ : Aside0 (Blk w9 s1 25 #[.int .i64 (rd_T25 p.sl 0).f0, .int .i64 (rd_T25 p.sl 0).f1, .int .i64 (rd_T25 p.sl 0).f2, .int .i64 (rd_T25 p.sl 0).f3, .int .i64 (rd_T25 p.sl 0).f4]) := ⟨hb_⟩; have n_ := Aside0.mk (H.out.stS HLT.out hg_); clear H HSB hb_ hg_ ; have H := n_; have HSB := m_; clear n_ m_))
  clear hx0 hx1 hx2 hx3 hx4 he1
  have he0 : w9.cell? ⟨q, 0, none⟩ = some (.int .i64 6) := (blk_cell H.out.hq 0).trans rfl
  go_upto_region 22 with fail
  have hr0 : w9.cell? ⟨g, 323, none⟩ = some (.int .i64 p.ep) := (blk_cell H.out.hg 323).trans (pcs_ring { p with ver := wrap64 (p.ver + 1) } HP.out 0)
  have hr1 : w9.cell? ⟨g, 324, none⟩ = some (.int .u64 p.k1) := (blk_cell H.out.hg 324).trans (pcs_ring { p with ver := wrap64 (p.ver + 1) } HP.out 1)
  have hr2 : w9.cell? ⟨g, 325, none⟩ = some (.int .u64 p.k2) := (blk_cell H.out.hg 325).trans (pcs_ring { p with ver := wrap64 (p.ver + 1) } HP.out 2)
  have hr3 : w9.cell? ⟨g, 326, none⟩ = some (.int .u64 p.k3) := (blk_cell H.out.hg 326).trans (pcs_ring { p with ver := wrap64 (p.ver + 1) } HP.out 3)
  have hr4 : w9.cell? ⟨g, 327, none⟩ = some (.int .u64 p.k4) := (blk_cell H.out.hg 327).trans (pcs_ring { p with ver := wrap64 (p.ver + 1) } HP.out 4)
  have hr5 : w9.cell? ⟨g, 328, none⟩ = some (.int .u64 p.k5) := (blk_cell H.out.hg 328).trans (pcs_ring { p with ver := wrap64 (p.ver + 1) } HP.out 5)
  have hr6 : w9.cell? ⟨g, 329, none⟩ = some (.int .u64 p.k6) := (blk_cell H.out.hg 329).trans (pcs_ring { p with ver := wrap64 (p.ver + 1) } HP.out 6)
  have he5 : w9.cell? ⟨q, 5, none⟩ = some (.int .u64 x) := (blk_cell H.out.hq 5).trans rfl
  have he6 : w9.cell? ⟨q, 6, none⟩ = some (.int .u64 y) := (blk_cell H.out.hq 6).trans rfl
  go_upto_region 23 with (first | (go_at_call 56; refine (roundhouseref5_Next.calls p.ep p.k1 p.k2 p.k3 p.k4 p.k5 p.k6 x y _ _ _ _ _ _ _ _ rfl).mono ?_; rintro e' wA ⟨rfl, hb_⟩; have n_ := Aside0.mk (H.out.by_below hb_); have m_ := Aside0.mk (HSB.out.below hb_); clear H HSB hb_ hr0 hr1 hr2 hr3 hr4 hr5 hr6 he0 he5 he6; have H := n_; have HSB := m_; clear n_ m_) | ((with_reducible refine gate_store (t := 31) (p := 78) rfl ?_); refine stm_event rfl rfl 31 (.tmp 78) (.tmp 77) rfl rfl rfl H.out.hg (by rw [pcs_size ({ p with ver := wrap64 (p.ver + 1) } : PL) HP.out]; simp) (by kernel_rfl) (one7 _ _ _ _ _ _ _) ?_; intro wB hb_ hg_; have hb2_ : Blk wB g 33 (pcs ⟨wrap64 (p.ver + 1), p.addr, p.port, p.sl, wrap64 (p.ep + 1), p.k3, p.k4, p.k5, p.k6, x, y⟩) := (pcs_rg { p with ver := wrap64 (p.ver + 1) } HP.out (wrap64 (p.ep + 1)) p.k3 p.k4 p.k5 p.k6 x y) ▸ hb_; have n_ := Aside0.mk (H.out.stG hb2_ hg_); have m_ := Aside0.mk (HSB.out.grown hg_ (fun e => by injection e with e; have h1_ := H.out.ne; have h2_ := HLT.out; omega)); clear H HSB hb_ hb2_ hg_; have H := n_; have HSB := m_; clear n_ m_))
  have he1 : wB.cell? ⟨q, 1, none⟩ = some (.int .i64 0) := (blk_cell H.out.hq 1).trans rfl
  have hv0 : wB.cell? ⟨s1, 0, none⟩ = some (.int .i64 (rd_T25 p.sl 0).f0) := (blk_cell HSB.out 0).trans rfl
  have hv1 : wB.cell? ⟨s1, 1, none⟩ = some (.int .i64 (rd_T25 p.sl 0).f1) := (blk_cell HSB.out 1).trans rfl
  have hv2 : wB.cell? ⟨s1, 2, none⟩ = some (.int .i64 (rd_T25 p.sl 0).f2) := (blk_cell HSB.out 2).trans rfl
  have hv3 : wB.cell? ⟨s1, 3, none⟩ = some (.int .i64 (rd_T25 p.sl 0).f3) := (blk_cell HSB.out 3).trans rfl
  have hv4 : wB.cell? ⟨s1, 4, none⟩ = some (.int .i64 (rd_T25 p.sl 0).f4) := (blk_cell HSB.out 4).trans rfl
  have HL2 : Aside0 ((⟨wrap64 (p.ver + 1), p.addr, p.port, p.sl.set 0 ⟨(rd_T25 p.sl 0).f0, (rd_T25 p.sl 0).f1, (rd_T25 p.sl 0).f2, (rd_T25 p.sl 0).f3, (rd_T25 p.sl 0).f4⟩, wrap64 (p.ep + 1), p.k3, p.k4, p.k5, p.k6, x, y⟩ : PL).sl.length = 64) := ⟨by simp only [List.length_set]; exact HP.out⟩
  have hlt_ : Aside0 (0 < 64) := ⟨by have h_ := H0.out; omega⟩
  go_upto_region 24 with (first | ((with_reducible refine gate_store (t := 25) (p := 83) rfl ?_); refine stm_event rfl rfl 25 (.tmp 83) (.tmp 81) rfl rfl rfl H.out.hg (i := 3 + 0 * 5) (by rw [pcs_size (⟨wrap64 (p.ver + 1), p.addr, p.port, p.sl, wrap64 (p.ep + 1), p.k3, p.k4, p.k5, p.k6, x, y⟩ : PL) HP.out]; have h_ := hlt_.out; simp only [List.size_toArray, List.length_cons, List.length_nil]; omega) (size25' _ _ _ _ _) (one5 _ _ _ _ _) ?_; intro wX hb_ hg_; have hb2_ : Blk wX g 33 (pcs ⟨wrap64 (p.ver + 1), p.addr, p.port, p.sl.set 0 ⟨(rd_T25 p.sl 0).f0, (rd_T25 p.sl 0).f1, (rd_T25 p.sl 0).f2, (rd_T25 p.sl 0).f3, (rd_T25 p.sl 0).f4⟩, wrap64 (p.ep + 1), p.k3, p.k4, p.k5, p.k6, x, y⟩) := (pcs_slot ⟨wrap64 (p.ver + 1), p.addr, p.port, p.sl, wrap64 (p.ep + 1), p.k3, p.k4, p.k5, p.k6, x, y⟩ HP.out 0 hlt_.out ⟨(rd_T25 p.sl 0).f0, (rd_T25 p.sl 0).f1, (rd_T25 p.sl 0).f2, (rd_T25 p.sl 0).f3, (rd_T25 p.sl 0).f4⟩) ▸ hb_; have n_ := Aside0.mk (H.out.stG hb2_ hg_); clear H hb_ hb2_ hg_; have H := n_; clear n_))
  clear he1 hv0 hv1 hv2 hv3 hv4
  have hres : Aside0 (nextPool p 6 0 0 0 0 x y = ⟨wrap64 (p.ver + 1), p.addr, p.port, p.sl.set 0 ⟨(rd_T25 p.sl 0).f0, (rd_T25 p.sl 0).f1, (rd_T25 p.sl 0).f2, (rd_T25 p.sl 0).f3, (rd_T25 p.sl 0).f4⟩, wrap64 (p.ep + 1), p.k3, p.k4, p.k5, p.k6, x, y⟩) := ⟨by simp [nextPool, nextSlot]⟩
  go_wp2_with (first | ((with_reducible refine gate_dst (N := 84) rfl ?_); refine pl_load (N := 84) rfl rfl (.tmp 2) rfl rfl H.out.hg HL2.out ?_) | ((with_reducible refine gate_store (t := 33) (p := 4) rfl ?_); refine pl_store rfl rfl (.tmp 4) (.tmp 84) rfl rfl rfl H.out.hr (pcs_size _ zeroP_len) HL2.out ?_; intro wY hb_ hg_; have n_ := Aside0.mk (H.out.stR hb_ hg_); clear H hb_ hg_; have H := n_; clear n_))
  refine bodyPost_ret (results_ct rfl _ _ r 33 (pcs ⟨wrap64 (p.ver + 1), p.addr, p.port, p.sl.set 0 ⟨(rd_T25 p.sl 0).f0, (rd_T25 p.sl 0).f1, (rd_T25 p.sl 0).f2, (rd_T25 p.sl 0).f3, (rd_T25 p.sl 0).f4⟩, wrap64 (p.ep + 1), p.k3, p.k4, p.k5, p.k6, x, y⟩) (0, 0) _ rfl H.out.hr pool33 rfl (size33 _ HL2.out)) rfl ?_
  exact ⟨by rw [hres.out]; rfl, H.out.below⟩

theorem apply_calls (p : PL) (hp : p.sl.length = 64) (k s a b c x y : Int) (hwf : WF k s a b c x y) (w0 : World) : Calls Try.prog 22 #[.agg (pcs p), .agg #[.int .i64 k, .int .i64 s, .int .i64 a, .int .i64 b, .int .i64 c, .int .u64 x, .int .u64 y]] w0 fun e w' => e = .returned (.tuple #[.agg (pcs (applyP p k s a b c x y).1), .int .i64 (applyP p k s a b c x y).2]) ∧ Below w0.heap.size w0 w' := by
  have ht : ∀ b : Bool, b = false → ¬ (b = true) := fun b h => by rw [h]; decide
  rcases hwf with ⟨rfl, h1, h2, h3, rfl, rfl⟩ | ⟨rfl, rfl, rfl, rfl, rfl, rfl⟩ | ⟨rfl, rfl, rfl, rfl, rfl, rfl⟩ | ⟨rfl, rfl, rfl, rfl, rfl, rfl⟩ | ⟨rfl, rfl, rfl, rfl, rfl, rfl⟩ | ⟨rfl, rfl, rfl, rfl, rfl⟩
  · cases hs : outB s 0 63 with
    | true =>
      rw [show applyP p 1 s a b c 0 0 = (zeroP, 11) from by unfold applyP; rw [if_pos hs]]
      exact apply1out p hp s a b c h1 h2 h3 hs w0
    | false =>
      cases hb : badP p 1 s a b with
      | true =>
        rw [show applyP p 1 s a b c 0 0 = (zeroP, 12) from by unfold applyP; rw [if_neg (ht _ hs), if_pos hb]]
        exact apply1bad p hp s a b c h1 h2 h3 hs hb w0
      | false =>
        rw [show applyP p 1 s a b c 0 0 = (nextPool p 1 s a b c 0 0, 0) from by unfold applyP; rw [if_neg (ht _ hs), if_neg (ht _ hb), if_neg (fun h => absurd h.1 (by decide))]]
        exact apply1ok p hp s a b c h1 h2 h3 hs hb w0
  · cases hs : outB s 0 63 with
    | true =>
      rw [show applyP p 2 s 0 0 0 0 0 = (zeroP, 11) from by unfold applyP; rw [if_pos hs]]
      exact apply2out p hp s hs w0
    | false =>
      cases hb : badP p 2 s 0 0 with
      | true =>
        rw [show applyP p 2 s 0 0 0 0 0 = (zeroP, 12) from by unfold applyP; rw [if_neg (ht _ hs), if_pos hb]]
        exact apply2bad p hp s hs hb w0
      | false =>
        rw [show applyP p 2 s 0 0 0 0 0 = (nextPool p 2 s 0 0 0 0 0, 0) from by unfold applyP; rw [if_neg (ht _ hs), if_neg (ht _ hb), if_neg (fun h => absurd h.1 (by decide))]]
        exact apply2ok p hp s hs hb w0
  · cases hs : outB s 0 63 with
    | true =>
      rw [show applyP p 3 s 0 0 0 0 0 = (zeroP, 11) from by unfold applyP; rw [if_pos hs]]
      exact apply3out p hp s hs w0
    | false =>
      cases hb : badP p 3 s 0 0 with
      | true =>
        rw [show applyP p 3 s 0 0 0 0 0 = (zeroP, 12) from by unfold applyP; rw [if_neg (ht _ hs), if_pos hb]]
        exact apply3bad p hp s hs hb w0
      | false =>
        rw [show applyP p 3 s 0 0 0 0 0 = (nextPool p 3 s 0 0 0 0 0, 0) from by unfold applyP; rw [if_neg (ht _ hs), if_neg (ht _ hb), if_neg (fun h => absurd h.1 (by decide))]]
        exact apply3ok p hp s hs hb w0
  · cases hs : outB s 0 63 with
    | true =>
      rw [show applyP p 4 s 0 0 0 0 0 = (zeroP, 11) from by unfold applyP; rw [if_pos hs]]
      exact apply4out p hp s hs w0
    | false =>
      cases hb : badP p 4 s 0 0 with
      | true =>
        rw [show applyP p 4 s 0 0 0 0 0 = (zeroP, 12) from by unfold applyP; rw [if_neg (ht _ hs), if_pos hb]]
        exact apply4bad p hp s hs hb w0
      | false =>
        rw [show applyP p 4 s 0 0 0 0 0 = (nextPool p 4 s 0 0 0 0 0, 0) from by unfold applyP; rw [if_neg (ht _ hs), if_neg (ht _ hb), if_neg (fun h => absurd h.1 (by decide))]]
        exact apply4ok p hp s hs hb w0
  · cases hs : outB s 0 63 with
    | true =>
      rw [show applyP p 5 s 0 0 0 0 0 = (zeroP, 11) from by unfold applyP; rw [if_pos hs]]
      exact apply5out p hp s hs w0
    | false =>
      cases hb : badP p 5 s 0 0 with
      | true =>
        rw [show applyP p 5 s 0 0 0 0 0 = (zeroP, 12) from by unfold applyP; rw [if_neg (ht _ hs), if_pos hb]]
        exact apply5bad p hp s hs hb w0
      | false =>
        by_cases hq : p.ep < wrap64 ((rd_T25 p.sl s).f4 + 3)
        · rw [show applyP p 5 s 0 0 0 0 0 = (zeroP, 13) from by unfold applyP; rw [if_neg (ht _ hs), if_neg (ht _ hb), if_pos ⟨rfl, hq⟩]]
          exact apply5soon p hp s hs hb (decide_eq_true hq) w0
        · rw [show applyP p 5 s 0 0 0 0 0 = (nextPool p 5 s 0 0 0 0 0, 0) from by unfold applyP; rw [if_neg (ht _ hs), if_neg (ht _ hb), if_neg (fun h => hq h.2)]]
          exact apply5ok p hp s hs hb (decide_eq_false hq) w0
  · have hs : outB 0 0 63 = false := by decide
    have hb : badP p 6 0 0 0 = false := by simp [badP]
    rw [show applyP p 6 0 0 0 0 x y = (nextPool p 6 0 0 0 0 x y, 0) from by unfold applyP; rw [if_neg (ht _ hs), if_neg (ht _ hb), if_neg (fun h => absurd h.1 (by decide))]]
    exact apply6ok p hp x y hb w0
end Go.Proofs.Ytkpfojpmigchlaa.Own
