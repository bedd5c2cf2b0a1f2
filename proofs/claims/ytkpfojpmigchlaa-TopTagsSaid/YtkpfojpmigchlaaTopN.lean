/-
  pool.New: a pool without backends.
-/
import Derived.Test.YtkpfojpmigchlaaTopW
import Derived.Test.YtkpfojpmigchlaaWheO
import Derived.Test.YtkpfojpmigchlaaQA
namespace Go.Proofs.Ytkpfojpmigchlaa.Own
open Go Go.RowKit Go.Proofs.YtkpfojpmigchlaaW.PrintWords Go.Proofs.YtkpfojpmigchlaaW.PrintMore Go.Proofs.YtkpfojpmigchlaaW.PrintLast Go.Proofs.Ytkpfojpmigchlaa.Q
set_option linter.unusedVariables false
set_option linter.unusedSimpArgs false

theorem run_new2 (ev : Operand → Value) (o : Oper) (w : World) (a b q x1 x2 x3 x4 x5 x6 : Int) (ho : o.op = .build 33 #[(1, .tmp 15), (2, .tmp 16), (4, .tmp 21)]) (h1 : ev (.tmp 15) = .int .i64 a) (h2 : ev (.tmp 16) = .int .i64 b) (h3 : ev (.tmp 21) = .agg #[.int .i64 q, .int .u64 x1, .int .u64 x2, .int .u64 x3, .int .u64 x4, .int .u64 x5, .int .u64 x6]) :
    (execOp ev o).run Try.prog w = .ok (.value (.agg (pcs ⟨0, a, b, List.replicate 64 z25, q, x1, x2, x3, x4, x5, x6⟩))) w := by
  cases o with
  | mk dst op ty pos after guard =>
    obtain rfl : op = _ := ho
    have e : (#[(1, Operand.tmp 15), (2, Operand.tmp 16), (4, Operand.tmp 21)].map fun (i, x) => (i, ev x)) = #[(1, .int .i64 a), (2, .int .i64 b), (4, .agg #[.int .i64 q, .int .u64 x1, .int .u64 x2, .int .u64 x3, .int .u64 x4, .int .u64 x5, .int .u64 x6])] := by
      simp [h1, h2, h3]
    have key : (Instr.build 33 #[(1, .int .i64 a), (2, .int .i64 b), (4, .agg #[.int .i64 q, .int .u64 x1, .int .u64 x2, .int .u64 x3, .int .u64 x4, .int .u64 x5, .int .u64 x6])]).run Try.prog w = .ok (.agg (pcs ⟨0, a, b, List.replicate 64 z25, q, x1, x2, x3, x4, x5, x6⟩)) w := by kernel_rfl
    unfold execOp
    simp only [e, Sem.run_bind, Sem.run_pure, Result.andThen_ok, key]

set_option maxHeartbeats 8000000 in
set_option maxRecDepth 100000 in
theorem pnew_calls (a b k1 k2 k3 k4 : Int) (hab : pool_placed.f a b = some true) (w0 : World) : Calls Try.prog 13 #[.int .i64 a, .int .i64 b, .agg #[.int .u64 k1, .int .u64 k2], .agg #[.int .u64 k3, .int .u64 k4]] w0 fun e w' => e = .returned (.tuple #[.agg (pcs (newP a b k1 k2 k3 k4)), .int .i64 0]) ∧ Below w0.heap.size w0 w' := by
  have hu29 := Try.underlying29
  have hu31 := Try.underlying31
  have hu113 := Try.underlying113
  have HAB := Aside0.mk hab
  clear hab
  go_enter Try.func13, Try.ntmps13
  go_upto_region 1 with (first | ((with_reducible refine gate_dst (N := 6) rfl ?_); refine any_box rfl rfl rfl ?_; intro g hg w1 hb1 hB1; have G2 := Aside0.mk hb1; have G3 := Aside0.mk hB1; clear hg hb1 hB1) | ((with_reducible refine gate_dst (N := 7) rfl ?_); refine any_box rfl rfl rfl ?_; intro q hq w2 hb2 hB2; have G5 := Aside0.mk hb2; have G6 := Aside0.mk hB2; clear hq hb2 hB2) | ((with_reducible refine gate_dst (N := 8) rfl ?_); refine pl_alloc (N := 8) rfl rfl rfl ?_; intro r hr w3 hb3 hB3; have G7 := Aside0.mk hr; have G8 := Aside0.mk hb3; have G9 := Aside0.mk hB3; clear hr hb3 hB3))
  have H := Aside0.mk (NS.make G2.out G3.out G5.out G6.out G7.out G8.out G9.out)
  clear G2 G3 G5 G6 G7 G8 G9
  go_upto_region 3 with (first | (go_at_call 31; refine (pool_placed.calls a b true _ HAB.out).mono ?_; rintro e_ w4 ⟨rfl, hd⟩; have n_ := Aside0.mk (H.out.by_below (w' := w4) (by obtain ⟨n_, rfl⟩ := hd; exact pw_below_drewN (Below.refl _ _) n_)); clear H hd; have H := n_; clear n_))
  have c0 : w4.cell? ⟨g, 0, none⟩ = some (.int .u64 k1) := (blk_cell H.out.hg 0).trans rfl
  have c1 : w4.cell? ⟨g, 1, none⟩ = some (.int .u64 k2) := (blk_cell H.out.hg 1).trans rfl
  have c2 : w4.cell? ⟨q, 0, none⟩ = some (.int .u64 k3) := (blk_cell H.out.hq 0).trans rfl
  have c3 : w4.cell? ⟨q, 1, none⟩ = some (.int .u64 k4) := (blk_cell H.out.hq 1).trans rfl
  go_wp2_with (first
    | (go_at_call 32; refine (cookie_Ring.calls 1 1 _ 3 [(⟨0, 0⟩ : S29), ⟨k1, k2⟩, ⟨k3, k4⟩] 1 0 0 k1 k2 k3 k4 _ (keys_C (heap_alloc_new _ _)) (by simp) rfl).mono ?_; rintro e_ w5 ⟨rfl, hb_⟩; have n_ := Aside0.mk ((H.out.by_below (below_alloc (Below.refl _ _) _)).by_below hb_); clear H hb_ c0 c1 c2 c3; have H := n_; clear n_)
    | ((with_reducible refine gate_dst (N := 22) rfl ?_); refine Kd.event_run rfl (run_new2 _ _ _ a b 1 0 0 k1 k2 k3 k4 rfl rfl rfl rfl) ?_)
    | ((with_reducible refine gate_store (t := 33) (p := 8) rfl ?_); refine pl_store (p := newP a b k1 k2 k3 k4) rfl rfl (.tmp 8) (.tmp 22) rfl rfl rfl H.out.hr (pcs_size _ zeroP_len) (newP_len _ _ _ _ _ _) ?_; intro w9 hb_ hg_; have HR := Aside0.mk hb_; have n_ := Aside0.mk (H.out.below.grown hg_ (below_size H.out.below) (fun k hk => by injection hk with hk; subst hk; exact H.out.ge)); clear H hb_ hg_; have HB := n_; clear n_))
  refine bodyPost_ret (results_ct rfl _ _ r 33 (pcs (newP a b k1 k2 k3 k4)) (0, 0) _ rfl HR.out pool33 rfl (size33 _ (newP_len _ _ _ _ _ _))) rfl ?_
  exact ⟨rfl, HB.out⟩
end Go.Proofs.Ytkpfojpmigchlaa.Own
