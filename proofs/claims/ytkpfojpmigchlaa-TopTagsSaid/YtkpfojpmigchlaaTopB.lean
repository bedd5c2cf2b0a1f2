/-
  wire.Build of the packet that known() makes.
-/
import Derived.Test.YtkpfojpmigchlaaWheO
import Derived.Test.YtkpfojpmigchlaaQA
namespace Go.Proofs.Ytkpfojpmigchlaa.Own
open Go Go.RowKit Go.Proofs.YtkpfojpmigchlaaW.PrintWords Go.Proofs.YtkpfojpmigchlaaW.PrintMore Go.Proofs.YtkpfojpmigchlaaW.PrintLast Go.Proofs.Ytkpfojpmigchlaa.Q
set_option linter.unusedVariables false
set_option linter.unusedSimpArgs false

theorem drawn_below {w w' : World} (h : Drawn0 w w') : Below w.heap.size w w' := by
  obtain ⟨n, rfl⟩ := h
  exact pw_below_drewN (Below.refl _ _) n
theorem run_copy0 (ev : Operand → Value) (o : Oper) (w : World) (d s : Operand) (ho : o.op = .call { callee := .builtin .copy, args := #[d, s], argTypes := #[54, 54] }) (dp : Option Addr) (dLen dCap : Nat) (hd : ev d = .slice dp dLen dCap) (hs : ev s = .slice none 0 0) :
    (execOp ev o).run Try.prog w = .ok (.value (.int .i64 0)) w := by
  have hrun := run_copy_none (P := Try.prog) w 54 54 o.type 5 dp none dLen dCap 0 0 Try.underlying54 (by kernel_rfl) (Nat.zero_min _)
  simp [execOp, ho, resolve, invoke, builtin, hd, hs, hrun, Result.andThen]
  rfl
/-- A row's front. -/
theorem front_C {e base : Nat} {w : World} {g c n : Nat} {xs : List Int} (h : Kd.R (Kd.int .u8) e w base (fun _ => True) (.slice (some ⟨g, 0, none⟩) n c) xs) (m : Nat) (hm : m ≤ xs.length) : Kd.C (Kd.int .u8) w (some ⟨g, 0, none⟩) (xs.take m).length (xs.take m) := (Kd.R_reads' (Kd.R_take h hm)).2.2

set_option maxHeartbeats 16000000 in
set_option maxRecDepth 100000 in
theorem ranges_known (w0 : World) : Calls Try.prog 36 #[.agg #[.int .i64 2, .int .i64 9, .int .i64 0, .int .i64 1, .int .i64 10, .int .i64 0, .int .i64 80, .int .i64 0, .int .i64 0, .bool false, .int .i64 0, .slice none 0 0, .slice none 0 0]] w0 fun e w' => e = .returned (.bool true) ∧ Below w0.heap.size w0 w' := by
  have hu58 := Try.underlying58
  go_enter Try.func36, Try.ntmps36
  go_wp2_with (first
    | ((with_reducible refine gate_dst (N := 1) rfl ?_); refine any_box rfl rfl rfl ?_; intro g hg w2 hb hB; have HP := Aside0.mk hb; have HB0 := Aside0.mk hB; have HW := Aside0.mk (Below.refl w2.heap.size w2); clear hg hb hB; have c0 : w2.cell? ⟨g, 0, none⟩ = some (.int .i64 2) := (blk_cell (HP.out.below HW.out) 0).trans rfl; have c1 : w2.cell? ⟨g, 1, none⟩ = some (.int .i64 9) := (blk_cell (HP.out.below HW.out) 1).trans rfl; have c2 : w2.cell? ⟨g, 2, none⟩ = some (.int .i64 0) := (blk_cell (HP.out.below HW.out) 2).trans rfl; have c3 : w2.cell? ⟨g, 3, none⟩ = some (.int .i64 1) := (blk_cell (HP.out.below HW.out) 3).trans rfl; have c4 : w2.cell? ⟨g, 4, none⟩ = some (.int .i64 10) := (blk_cell (HP.out.below HW.out) 4).trans rfl; have c5 : w2.cell? ⟨g, 5, none⟩ = some (.int .i64 0) := (blk_cell (HP.out.below HW.out) 5).trans rfl; have c6 : w2.cell? ⟨g, 6, none⟩ = some (.int .i64 80) := (blk_cell (HP.out.below HW.out) 6).trans rfl; have c7 : w2.cell? ⟨g, 7, none⟩ = some (.int .i64 0) := (blk_cell (HP.out.below HW.out) 7).trans rfl; have c8 : w2.cell? ⟨g, 8, none⟩ = some (.int .i64 0) := (blk_cell (HP.out.below HW.out) 8).trans rfl; have c9 : w2.cell? ⟨g, 9, none⟩ = some (.bool false) := (blk_cell (HP.out.below HW.out) 9).trans rfl; have c10 : w2.cell? ⟨g, 10, none⟩ = some (.int .i64 0) := (blk_cell (HP.out.below HW.out) 10).trans rfl; have c11 : w2.cell? ⟨g, 11, none⟩ = some (.slice none 0 0) := (blk_cell (HP.out.below HW.out) 11).trans rfl; have c12 : w2.cell? ⟨g, 12, none⟩ = some (.slice none 0 0) := (blk_cell (HP.out.below HW.out) 12).trans rfl)
    | (go_at_call 60; (with_reducible refine (wire_within.calls 9 255 true _ (by kernel_rfl)).mono ?_); rintro e_ x1 ⟨rfl, hd_⟩; clear c0 c1 c2 c3 c4 c5 c6 c7 c8 c9 c10 c11 c12; have n0_ := Aside0.mk (below_step HW.out (drawn_below hd_)); clear HW; have HW := n0_; clear n0_; have c0 : x1.cell? ⟨g, 0, none⟩ = some (.int .i64 2) := (blk_cell (HP.out.below HW.out) 0).trans rfl; have c1 : x1.cell? ⟨g, 1, none⟩ = some (.int .i64 9) := (blk_cell (HP.out.below HW.out) 1).trans rfl; have c2 : x1.cell? ⟨g, 2, none⟩ = some (.int .i64 0) := (blk_cell (HP.out.below HW.out) 2).trans rfl; have c3 : x1.cell? ⟨g, 3, none⟩ = some (.int .i64 1) := (blk_cell (HP.out.below HW.out) 3).trans rfl; have c4 : x1.cell? ⟨g, 4, none⟩ = some (.int .i64 10) := (blk_cell (HP.out.below HW.out) 4).trans rfl; have c5 : x1.cell? ⟨g, 5, none⟩ = some (.int .i64 0) := (blk_cell (HP.out.below HW.out) 5).trans rfl; have c6 : x1.cell? ⟨g, 6, none⟩ = some (.int .i64 80) := (blk_cell (HP.out.below HW.out) 6).trans rfl; have c7 : x1.cell? ⟨g, 7, none⟩ = some (.int .i64 0) := (blk_cell (HP.out.below HW.out) 7).trans rfl; have c8 : x1.cell? ⟨g, 8, none⟩ = some (.int .i64 0) := (blk_cell (HP.out.below HW.out) 8).trans rfl; have c9 : x1.cell? ⟨g, 9, none⟩ = some (.bool false) := (blk_cell (HP.out.below HW.out) 9).trans rfl; have c10 : x1.cell? ⟨g, 10, none⟩ = some (.int .i64 0) := (blk_cell (HP.out.below HW.out) 10).trans rfl; have c11 : x1.cell? ⟨g, 11, none⟩ = some (.slice none 0 0) := (blk_cell (HP.out.below HW.out) 11).trans rfl; have c12 : x1.cell? ⟨g, 12, none⟩ = some (.slice none 0 0) := (blk_cell (HP.out.below HW.out) 12).trans rfl; clear hd_)
    | (go_at_call 60; (with_reducible refine (wire_within.calls 0 255 true _ (by kernel_rfl)).mono ?_); rintro e_ x2 ⟨rfl, hd_⟩; clear c0 c1 c2 c3 c4 c5 c6 c7 c8 c9 c10 c11 c12; have n0_ := Aside0.mk (below_step HW.out (drawn_below hd_)); clear HW; have HW := n0_; clear n0_; have c0 : x2.cell? ⟨g, 0, none⟩ = some (.int .i64 2) := (blk_cell (HP.out.below HW.out) 0).trans rfl; have c1 : x2.cell? ⟨g, 1, none⟩ = some (.int .i64 9) := (blk_cell (HP.out.below HW.out) 1).trans rfl; have c2 : x2.cell? ⟨g, 2, none⟩ = some (.int .i64 0) := (blk_cell (HP.out.below HW.out) 2).trans rfl; have c3 : x2.cell? ⟨g, 3, none⟩ = some (.int .i64 1) := (blk_cell (HP.out.below HW.out) 3).trans rfl; have c4 : x2.cell? ⟨g, 4, none⟩ = some (.int .i64 10) := (blk_cell (HP.out.below HW.out) 4).trans rfl; have c5 : x2.cell? ⟨g, 5, none⟩ = some (.int .i64 0) := (blk_cell (HP.out.below HW.out) 5).trans rfl; have c6 : x2.cell? ⟨g, 6, none⟩ = some (.int .i64 80) := (blk_cell (HP.out.below HW.out) 6).trans rfl; have c7 : x2.cell? ⟨g, 7, none⟩ = some (.int .i64 0) := (blk_cell (HP.out.below HW.out) 7).trans rfl; have c8 : x2.cell? ⟨g, 8, none⟩ = some (.int .i64 0) := (blk_cell (HP.out.below HW.out) 8).trans rfl; have c9 : x2.cell? ⟨g, 9, none⟩ = some (.bool false) := (blk_cell (HP.out.below HW.out) 9).trans rfl; have c10 : x2.cell? ⟨g, 10, none⟩ = some (.int .i64 0) := (blk_cell (HP.out.below HW.out) 10).trans rfl; have c11 : x2.cell? ⟨g, 11, none⟩ = some (.slice none 0 0) := (blk_cell (HP.out.below HW.out) 11).trans rfl; have c12 : x2.cell? ⟨g, 12, none⟩ = some (.slice none 0 0) := (blk_cell (HP.out.below HW.out) 12).trans rfl; clear hd_)
    | (go_at_call 60; (with_reducible refine (wire_within.calls 1 4294967295 true _ (by kernel_rfl)).mono ?_); rintro e_ x3 ⟨rfl, hd_⟩; clear c0 c1 c2 c3 c4 c5 c6 c7 c8 c9 c10 c11 c12; have n0_ := Aside0.mk (below_step HW.out (drawn_below hd_)); clear HW; have HW := n0_; clear n0_; have c0 : x3.cell? ⟨g, 0, none⟩ = some (.int .i64 2) := (blk_cell (HP.out.below HW.out) 0).trans rfl; have c1 : x3.cell? ⟨g, 1, none⟩ = some (.int .i64 9) := (blk_cell (HP.out.below HW.out) 1).trans rfl; have c2 : x3.cell? ⟨g, 2, none⟩ = some (.int .i64 0) := (blk_cell (HP.out.below HW.out) 2).trans rfl; have c3 : x3.cell? ⟨g, 3, none⟩ = some (.int .i64 1) := (blk_cell (HP.out.below HW.out) 3).trans rfl; have c4 : x3.cell? ⟨g, 4, none⟩ = some (.int .i64 10) := (blk_cell (HP.out.below HW.out) 4).trans rfl; have c5 : x3.cell? ⟨g, 5, none⟩ = some (.int .i64 0) := (blk_cell (HP.out.below HW.out) 5).trans rfl; have c6 : x3.cell? ⟨g, 6, none⟩ = some (.int .i64 80) := (blk_cell (HP.out.below HW.out) 6).trans rfl; have c7 : x3.cell? ⟨g, 7, none⟩ = some (.int .i64 0) := (blk_cell (HP.out.below HW.out) 7).trans rfl; have c8 : x3.cell? ⟨g, 8, none⟩ = some (.int .i64 0) := (blk_cell (HP.out.below HW.out) 8).trans rfl; have c9 : x3.cell? ⟨g, 9, none⟩ = some (.bool false) := (blk_cell (HP.out.below HW.out) 9).trans rfl; have c10 : x3.cell? ⟨g, 10, none⟩ = some (.int .i64 0) := (blk_cell (HP.out.below HW.out) 10).trans rfl; have c11 : x3.cell? ⟨g, 11, none⟩ = some (.slice none 0 0) := (blk_cell (HP.out.below HW.out) 11).trans rfl; have c12 : x3.cell? ⟨g, 12, none⟩ = some (.slice none 0 0) := (blk_cell (HP.out.below HW.out) 12).trans rfl; clear hd_)
    | (go_at_call 60; (with_reducible refine (wire_within.calls 10 4294967295 true _ (by kernel_rfl)).mono ?_); rintro e_ x4 ⟨rfl, hd_⟩; clear c0 c1 c2 c3 c4 c5 c6 c7 c8 c9 c10 c11 c12; have n0_ := Aside0.mk (below_step HW.out (drawn_below hd_)); clear HW; have HW := n0_; clear n0_; have c0 : x4.cell? ⟨g, 0, none⟩ = some (.int .i64 2) := (blk_cell (HP.out.below HW.out) 0).trans rfl; have c1 : x4.cell? ⟨g, 1, none⟩ = some (.int .i64 9) := (blk_cell (HP.out.below HW.out) 1).trans rfl; have c2 : x4.cell? ⟨g, 2, none⟩ = some (.int .i64 0) := (blk_cell (HP.out.below HW.out) 2).trans rfl; have c3 : x4.cell? ⟨g, 3, none⟩ = some (.int .i64 1) := (blk_cell (HP.out.below HW.out) 3).trans rfl; have c4 : x4.cell? ⟨g, 4, none⟩ = some (.int .i64 10) := (blk_cell (HP.out.below HW.out) 4).trans rfl; have c5 : x4.cell? ⟨g, 5, none⟩ = some (.int .i64 0) := (blk_cell (HP.out.below HW.out) 5).trans rfl; have c6 : x4.cell? ⟨g, 6, none⟩ = some (.int .i64 80) := (blk_cell (HP.out.below HW.out) 6).trans rfl; have c7 : x4.cell? ⟨g, 7, none⟩ = some (.int .i64 0) := (blk_cell (HP.out.below HW.out) 7).trans rfl; have c8 : x4.cell? ⟨g, 8, none⟩ = some (.int .i64 0) := (blk_cell (HP.out.below HW.out) 8).trans rfl; have c9 : x4.cell? ⟨g, 9, none⟩ = some (.bool false) := (blk_cell (HP.out.below HW.out) 9).trans rfl; have c10 : x4.cell? ⟨g, 10, none⟩ = some (.int .i64 0) := (blk_cell (HP.out.below HW.out) 10).trans rfl; have c11 : x4.cell? ⟨g, 11, none⟩ = some (.slice none 0 0) := (blk_cell (HP.out.below HW.out) 11).trans rfl; have c12 : x4.cell? ⟨g, 12, none⟩ = some (.slice none 0 0) := (blk_cell (HP.out.below HW.out) 12).trans rfl; clear hd_)
    | (go_at_call 60; (with_reducible refine (wire_within.calls 0 65535 true _ (by kernel_rfl)).mono ?_); rintro e_ x5 ⟨rfl, hd_⟩; clear c0 c1 c2 c3 c4 c5 c6 c7 c8 c9 c10 c11 c12; have n0_ := Aside0.mk (below_step HW.out (drawn_below hd_)); clear HW; have HW := n0_; clear n0_; have c0 : x5.cell? ⟨g, 0, none⟩ = some (.int .i64 2) := (blk_cell (HP.out.below HW.out) 0).trans rfl; have c1 : x5.cell? ⟨g, 1, none⟩ = some (.int .i64 9) := (blk_cell (HP.out.below HW.out) 1).trans rfl; have c2 : x5.cell? ⟨g, 2, none⟩ = some (.int .i64 0) := (blk_cell (HP.out.below HW.out) 2).trans rfl; have c3 : x5.cell? ⟨g, 3, none⟩ = some (.int .i64 1) := (blk_cell (HP.out.below HW.out) 3).trans rfl; have c4 : x5.cell? ⟨g, 4, none⟩ = some (.int .i64 10) := (blk_cell (HP.out.below HW.out) 4).trans rfl; have c5 : x5.cell? ⟨g, 5, none⟩ = some (.int .i64 0) := (blk_cell (HP.out.below HW.out) 5).trans rfl; have c6 : x5.cell? ⟨g, 6, none⟩ = some (.int .i64 80) := (blk_cell (HP.out.below HW.out) 6).trans rfl; have c7 : x5.cell? ⟨g, 7, none⟩ = some (.int .i64 0) := (blk_cell (HP.out.below HW.out) 7).trans rfl; have c8 : x5.cell? ⟨g, 8, none⟩ = some (.int .i64 0) := (blk_cell (HP.out.below HW.out) 8).trans rfl; have c9 : x5.cell? ⟨g, 9, none⟩ = some (.bool false) := (blk_cell (HP.out.below HW.out) 9).trans rfl; have c10 : x5.cell? ⟨g, 10, none⟩ = some (.int .i64 0) := (blk_cell (HP.out.below HW.out) 10).trans rfl; have c11 : x5.cell? ⟨g, 11, none⟩ = some (.slice none 0 0) := (blk_cell (HP.out.below HW.out) 11).trans rfl; have c12 : x5.cell? ⟨g, 12, none⟩ = some (.slice none 0 0) := (blk_cell (HP.out.below HW.out) 12).trans rfl; clear hd_)
    | (go_at_call 60; (with_reducible refine (wire_within.calls 80 65535 true _ (by kernel_rfl)).mono ?_); rintro e_ x6 ⟨rfl, hd_⟩; clear c0 c1 c2 c3 c4 c5 c6 c7 c8 c9 c10 c11 c12; have n0_ := Aside0.mk (below_step HW.out (drawn_below hd_)); clear HW; have HW := n0_; clear n0_; have c0 : x6.cell? ⟨g, 0, none⟩ = some (.int .i64 2) := (blk_cell (HP.out.below HW.out) 0).trans rfl; have c1 : x6.cell? ⟨g, 1, none⟩ = some (.int .i64 9) := (blk_cell (HP.out.below HW.out) 1).trans rfl; have c2 : x6.cell? ⟨g, 2, none⟩ = some (.int .i64 0) := (blk_cell (HP.out.below HW.out) 2).trans rfl; have c3 : x6.cell? ⟨g, 3, none⟩ = some (.int .i64 1) := (blk_cell (HP.out.below HW.out) 3).trans rfl; have c4 : x6.cell? ⟨g, 4, none⟩ = some (.int .i64 10) := (blk_cell (HP.out.below HW.out) 4).trans rfl; have c5 : x6.cell? ⟨g, 5, none⟩ = some (.int .i64 0) := (blk_cell (HP.out.below HW.out) 5).trans rfl; have c6 : x6.cell? ⟨g, 6, none⟩ = some (.int .i64 80) := (blk_cell (HP.out.below HW.out) 6).trans rfl; have c7 : x6.cell? ⟨g, 7, none⟩ = some (.int .i64 0) := (blk_cell (HP.out.below HW.out) 7).trans rfl; have c8 : x6.cell? ⟨g, 8, none⟩ = some (.int .i64 0) := (blk_cell (HP.out.below HW.out) 8).trans rfl; have c9 : x6.cell? ⟨g, 9, none⟩ = some (.bool false) := (blk_cell (HP.out.below HW.out) 9).trans rfl; have c10 : x6.cell? ⟨g, 10, none⟩ = some (.int .i64 0) := (blk_cell (HP.out.below HW.out) 10).trans rfl; have c11 : x6.cell? ⟨g, 11, none⟩ = some (.slice none 0 0) := (blk_cell (HP.out.below HW.out) 11).trans rfl; have c12 : x6.cell? ⟨g, 12, none⟩ = some (.slice none 0 0) := (blk_cell (HP.out.below HW.out) 12).trans rfl; clear hd_))
  go_ret
  exact ⟨rfl, below_step HB0.out HW.out⟩
theorem sumvA : sum_Of.f 40 ([2, 9, 0, 24, 0, 0, 0, 1, 0, 0, 0, 10, 0, 0, 0, 0] : List Int) = some 64979 := by kernel_rfl
theorem sumofA {A : Option Addr} {c : Nat} {w : World} (hC : Kd.C (Kd.int .u8) w A 16 ([2, 9, 0, 24, 0, 0, 0, 1, 0, 0, 0, 10, 0, 0, 0, 0] : List Int)) (hc : 16 ≤ c) : Calls Try.prog 18 #[.slice A 16 c] w fun e w' => e = .returned (.int .i64 64979) ∧ Below w.heap.size w w' := by
  refine (sum_Of.calls 40 A c ([2, 9, 0, 24, 0, 0, 0, 1, 0, 0, 0, 10, 0, 0, 0, 0] : List Int) 64979 w hC hc sumvA).mono ?_
  rintro e w' ⟨rfl, hd⟩
  exact ⟨rfl, drawn_below hd⟩
theorem sumvB : sum_Of.f 40 ([0, 0, 0, 1, 0, 0, 0, 10, 0, 2, 0, 8, 0, 0, 0, 80, 0, 0, 0, 0] : List Int) = some 65434 := by kernel_rfl
theorem sumofB {A : Option Addr} {c : Nat} {w : World} (hC : Kd.C (Kd.int .u8) w A 20 ([0, 0, 0, 1, 0, 0, 0, 10, 0, 2, 0, 8, 0, 0, 0, 80, 0, 0, 0, 0] : List Int)) (hc : 20 ≤ c) : Calls Try.prog 18 #[.slice A 20 c] w fun e w' => e = .returned (.int .i64 65434) ∧ Below w.heap.size w w' := by
  refine (sum_Of.calls 40 A c ([0, 0, 0, 1, 0, 0, 0, 10, 0, 2, 0, 8, 0, 0, 0, 80, 0, 0, 0, 0] : List Int) 65434 w hC hc sumvB).mono ?_
  rintro e w' ⟨rfl, hd⟩
  exact ⟨rfl, drawn_below hd⟩
theorem summedv : wire_summed.f ([2, 9, 0, 24, 0, 0, 0, 1, 0, 0, 0, 10, 0, 0, 253, 211, 0, 0, 0, 80, 0, 0, 0, 0] : List Int) = some [0, 0, 0, 1, 0, 0, 0, 10, 0, 2, 0, 8, 0, 0, 0, 80, 0, 0, 0, 0] := by kernel_rfl
theorem summed0 {A : Option Addr} {c : Nat} {w : World} (hC : Kd.C (Kd.int .u8) w A 24 ([2, 9, 0, 24, 0, 0, 0, 1, 0, 0, 0, 10, 0, 0, 253, 211, 0, 0, 0, 80, 0, 0, 0, 0] : List Int)) (hc : 24 ≤ c) : Calls Try.prog 38 #[.slice A 24 c] w fun e w' => ∃ (A2 : Option Addr) (c2 : Nat), e = .returned (.slice A2 20 c2) ∧ 20 ≤ c2 ∧ Kd.C (Kd.int .u8) w' A2 20 ([0, 0, 0, 1, 0, 0, 0, 10, 0, 2, 0, 8, 0, 0, 0, 80, 0, 0, 0, 0] : List Int) ∧ Below w.heap.size w w' := by
  refine (wire_summed.calls A c ([2, 9, 0, 24, 0, 0, 0, 1, 0, 0, 0, 10, 0, 0, 253, 211, 0, 0, 0, 80, 0, 0, 0, 0] : List Int) ([0, 0, 0, 1, 0, 0, 0, 10, 0, 2, 0, 8, 0, 0, 0, 80, 0, 0, 0, 0] : List Int) w hC hc summedv).mono ?_
  rintro e w' ⟨v, rfl, hr, hb⟩
  obtain ⟨A2, c2, rfl, hl, hC2⟩ := Kd.R_reads hr
  exact ⟨A2, c2, rfl, hl, hC2, hb⟩
def bytes0 : List Int := [2, 9, 0, 24, 0, 0, 0, 1, 0, 0, 0, 10, 0, 0, 253, 211, 0, 0, 0, 80, 0, 0, 255, 154]
set_option maxHeartbeats 16000000 in
set_option maxRecDepth 100000 in
theorem build_known (w0 : World) : Calls Try.prog 16 #[.agg #[.int .i64 2, .int .i64 9, .int .i64 0, .int .i64 1, .int .i64 10, .int .i64 0, .int .i64 80, .int .i64 0, .int .i64 0, .bool false, .int .i64 0, .slice none 0 0, .slice none 0 0]] w0 fun e w' => ∃ v, e = .returned (.tuple #[v, .int .i64 0]) ∧ Kd.R (Kd.int .u8) 5 w' w0.heap.size (fun _ => True) v bytes0 ∧ Below w0.heap.size w0 w' := by
  have hu58 := Try.underlying58
  go_enter Try.func16, Try.ntmps16
  go_upto_region 15 with (first
    | ((with_reducible refine gate_dst (N := 1) rfl ?_); refine any_box rfl rfl rfl ?_; intro g hg w2 hb hB; have HP := Aside0.mk hb; have HB0 := Aside0.mk hB; have HW := Aside0.mk (Below.refl w2.heap.size w2); clear hg hb hB; have c0 : w2.cell? ⟨g, 0, none⟩ = some (.int .i64 2) := (blk_cell (HP.out.below HW.out) 0).trans rfl; have c1 : w2.cell? ⟨g, 1, none⟩ = some (.int .i64 9) := (blk_cell (HP.out.below HW.out) 1).trans rfl; have c2 : w2.cell? ⟨g, 2, none⟩ = some (.int .i64 0) := (blk_cell (HP.out.below HW.out) 2).trans rfl; have c3 : w2.cell? ⟨g, 3, none⟩ = some (.int .i64 1) := (blk_cell (HP.out.below HW.out) 3).trans rfl; have c4 : w2.cell? ⟨g, 4, none⟩ = some (.int .i64 10) := (blk_cell (HP.out.below HW.out) 4).trans rfl; have c5 : w2.cell? ⟨g, 5, none⟩ = some (.int .i64 0) := (blk_cell (HP.out.below HW.out) 5).trans rfl; have c6 : w2.cell? ⟨g, 6, none⟩ = some (.int .i64 80) := (blk_cell (HP.out.below HW.out) 6).trans rfl; have c7 : w2.cell? ⟨g, 7, none⟩ = some (.int .i64 0) := (blk_cell (HP.out.below HW.out) 7).trans rfl; have c8 : w2.cell? ⟨g, 8, none⟩ = some (.int .i64 0) := (blk_cell (HP.out.below HW.out) 8).trans rfl; have c9 : w2.cell? ⟨g, 9, none⟩ = some (.bool false) := (blk_cell (HP.out.below HW.out) 9).trans rfl; have c10 : w2.cell? ⟨g, 10, none⟩ = some (.int .i64 0) := (blk_cell (HP.out.below HW.out) 10).trans rfl; have c11 : w2.cell? ⟨g, 11, none⟩ = some (.slice none 0 0) := (blk_cell (HP.out.below HW.out) 11).trans rfl; have c12 : w2.cell? ⟨g, 12, none⟩ = some (.slice none 0 0) := (blk_cell (HP.out.below HW.out) 12).trans rfl)
    | (go_at_call 35; refine (wire_known.calls 2 true _ rfl).mono ?_; rintro e_ x7 ⟨rfl, hd_⟩; clear c0 c1 c2 c3 c4 c5 c6 c7 c8 c9 c10 c11 c12; have n0_ := Aside0.mk (below_step HW.out (drawn_below hd_)); clear HW; have HW := n0_; clear n0_; have c0 : x7.cell? ⟨g, 0, none⟩ = some (.int .i64 2) := (blk_cell (HP.out.below HW.out) 0).trans rfl; have c1 : x7.cell? ⟨g, 1, none⟩ = some (.int .i64 9) := (blk_cell (HP.out.below HW.out) 1).trans rfl; have c2 : x7.cell? ⟨g, 2, none⟩ = some (.int .i64 0) := (blk_cell (HP.out.below HW.out) 2).trans rfl; have c3 : x7.cell? ⟨g, 3, none⟩ = some (.int .i64 1) := (blk_cell (HP.out.below HW.out) 3).trans rfl; have c4 : x7.cell? ⟨g, 4, none⟩ = some (.int .i64 10) := (blk_cell (HP.out.below HW.out) 4).trans rfl; have c5 : x7.cell? ⟨g, 5, none⟩ = some (.int .i64 0) := (blk_cell (HP.out.below HW.out) 5).trans rfl; have c6 : x7.cell? ⟨g, 6, none⟩ = some (.int .i64 80) := (blk_cell (HP.out.below HW.out) 6).trans rfl; have c7 : x7.cell? ⟨g, 7, none⟩ = some (.int .i64 0) := (blk_cell (HP.out.below HW.out) 7).trans rfl; have c8 : x7.cell? ⟨g, 8, none⟩ = some (.int .i64 0) := (blk_cell (HP.out.below HW.out) 8).trans rfl; have c9 : x7.cell? ⟨g, 9, none⟩ = some (.bool false) := (blk_cell (HP.out.below HW.out) 9).trans rfl; have c10 : x7.cell? ⟨g, 10, none⟩ = some (.int .i64 0) := (blk_cell (HP.out.below HW.out) 10).trans rfl; have c11 : x7.cell? ⟨g, 11, none⟩ = some (.slice none 0 0) := (blk_cell (HP.out.below HW.out) 11).trans rfl; have c12 : x7.cell? ⟨g, 12, none⟩ = some (.slice none 0 0) := (blk_cell (HP.out.below HW.out) 12).trans rfl; clear hd_)
    | (go_at_call 36; refine (ranges_known _).mono ?_; rintro e_ x8 ⟨rfl, hb_⟩; clear c0 c1 c2 c3 c4 c5 c6 c7 c8 c9 c10 c11 c12; have n0_ := Aside0.mk (below_step HW.out hb_); clear HW; have HW := n0_; clear n0_; have c0 : x8.cell? ⟨g, 0, none⟩ = some (.int .i64 2) := (blk_cell (HP.out.below HW.out) 0).trans rfl; have c1 : x8.cell? ⟨g, 1, none⟩ = some (.int .i64 9) := (blk_cell (HP.out.below HW.out) 1).trans rfl; have c2 : x8.cell? ⟨g, 2, none⟩ = some (.int .i64 0) := (blk_cell (HP.out.below HW.out) 2).trans rfl; have c3 : x8.cell? ⟨g, 3, none⟩ = some (.int .i64 1) := (blk_cell (HP.out.below HW.out) 3).trans rfl; have c4 : x8.cell? ⟨g, 4, none⟩ = some (.int .i64 10) := (blk_cell (HP.out.below HW.out) 4).trans rfl; have c5 : x8.cell? ⟨g, 5, none⟩ = some (.int .i64 0) := (blk_cell (HP.out.below HW.out) 5).trans rfl; have c6 : x8.cell? ⟨g, 6, none⟩ = some (.int .i64 80) := (blk_cell (HP.out.below HW.out) 6).trans rfl; have c7 : x8.cell? ⟨g, 7, none⟩ = some (.int .i64 0) := (blk_cell (HP.out.below HW.out) 7).trans rfl; have c8 : x8.cell? ⟨g, 8, none⟩ = some (.int .i64 0) := (blk_cell (HP.out.below HW.out) 8).trans rfl; have c9 : x8.cell? ⟨g, 9, none⟩ = some (.bool false) := (blk_cell (HP.out.below HW.out) 9).trans rfl; have c10 : x8.cell? ⟨g, 10, none⟩ = some (.int .i64 0) := (blk_cell (HP.out.below HW.out) 10).trans rfl; have c11 : x8.cell? ⟨g, 11, none⟩ = some (.slice none 0 0) := (blk_cell (HP.out.below HW.out) 11).trans rfl; have c12 : x8.cell? ⟨g, 12, none⟩ = some (.slice none 0 0) := (blk_cell (HP.out.below HW.out) 12).trans rfl; clear hb_)
    | ((with_reducible refine gate_dst (N := 61) rfl ?_); refine Kd.R_make (Kd.int .u8) w2.heap.size 5 rfl (N := 61) rfl 54 _ _ rfl 24 rfl rfl Try.underlying54 (.int .u8 0) 1 infoB8 rfl (by decide) (by decide) 0 (ok := fun _ => True) (okp := fun _ => True) rfl (fun _ hk => hk) trivial (by decide) (by decide) HW.out HW.out.size ?_; intro v5 w6 ho hb hg_ hat_; obtain ⟨gb, cb, rfl, gbb_, gl_, gx_⟩ := Kd.R_form ho (by decide); have GB : Aside0 (w2.heap.size ≤ gb) := ⟨gbb_⟩; have HR : Aside0 (Kd.R (Kd.int .u8) 5 w6 w2.heap.size (fun _ => True) (.slice (some ⟨gb, 0, none⟩) 24 cb) ([0, 0, 0, 0, 0, 0, 0, 0, 0, 0, 0, 0, 0, 0, 0, 0, 0, 0, 0, 0, 0, 0, 0, 0] : List Int)) := ⟨ho⟩; have HCB : Aside0 (24 ≤ cb) := ⟨(Kd.R_reads' HR.out).2.1⟩; have n0_ := Aside0.mk hb; clear c0 c1 c2 c3 c4 c5 c6 c7 c8 c9 c10 c11 c12; clear hg_ hat_ ho hb gbb_ gl_ gx_; clear HW; have HW := n0_; clear n0_; have c0 : w6.cell? ⟨g, 0, none⟩ = some (.int .i64 2) := (blk_cell (HP.out.below HW.out) 0).trans rfl; have c1 : w6.cell? ⟨g, 1, none⟩ = some (.int .i64 9) := (blk_cell (HP.out.below HW.out) 1).trans rfl; have c2 : w6.cell? ⟨g, 2, none⟩ = some (.int .i64 0) := (blk_cell (HP.out.below HW.out) 2).trans rfl; have c3 : w6.cell? ⟨g, 3, none⟩ = some (.int .i64 1) := (blk_cell (HP.out.below HW.out) 3).trans rfl; have c4 : w6.cell? ⟨g, 4, none⟩ = some (.int .i64 10) := (blk_cell (HP.out.below HW.out) 4).trans rfl; have c5 : w6.cell? ⟨g, 5, none⟩ = some (.int .i64 0) := (blk_cell (HP.out.below HW.out) 5).trans rfl; have c6 : w6.cell? ⟨g, 6, none⟩ = some (.int .i64 80) := (blk_cell (HP.out.below HW.out) 6).trans rfl; have c7 : w6.cell? ⟨g, 7, none⟩ = some (.int .i64 0) := (blk_cell (HP.out.below HW.out) 7).trans rfl; have c8 : w6.cell? ⟨g, 8, none⟩ = some (.int .i64 0) := (blk_cell (HP.out.below HW.out) 8).trans rfl; have c9 : w6.cell? ⟨g, 9, none⟩ = some (.bool false) := (blk_cell (HP.out.below HW.out) 9).trans rfl; have c10 : w6.cell? ⟨g, 10, none⟩ = some (.int .i64 0) := (blk_cell (HP.out.below HW.out) 10).trans rfl; have c11 : w6.cell? ⟨g, 11, none⟩ = some (.slice none 0 0) := (blk_cell (HP.out.below HW.out) 11).trans rfl; have c12 : w6.cell? ⟨g, 12, none⟩ = some (.slice none 0 0) := (blk_cell (HP.out.below HW.out) 12).trans rfl))
  clear c0 c1 c2 c3 c4 c5 c6 c7 c8 c9 c10 c11 c12
  have hbd_ := below_drew1 (Below.refl w6.heap.size w6)
  have n0_ := Aside0.mk (below_step HW.out hbd_)
  have n1_ : Aside0 (Kd.R (Kd.int .u8) 5 w6.drew w2.heap.size (fun _ => True) (.slice (some ⟨gb, 0, none⟩) 24 cb) ([0, 0, 0, 0, 0, 0, 0, 0, 0, 0, 0, 0, 0, 0, 0, 0, 0, 0, 0, 0, 0, 0, 0, 0] : List Int)) := ⟨Kd.R_below HR.out hbd_⟩
  clear hbd_ HW HR
  have HW := n0_
  have HR := n1_
  clear n0_ n1_
  refine start_ (n := 18) (S := fun w' => w'.cell? ⟨g, 0, none⟩ = some (.int .i64 2) ∧ w'.cell? ⟨g, 1, none⟩ = some (.int .i64 9) ∧ w'.cell? ⟨g, 2, none⟩ = some (.int .i64 0)) (ds := []) #[false, false, false, false, false, false, false, false, false, false, false, false, false, false, false, false, false, false] (by kernel_rfl) rfl rfl ⟨(blk_cell (HP.out.below HW.out) 0).trans rfl, (blk_cell (HP.out.below HW.out) 1).trans rfl, (blk_cell (HP.out.below HW.out) 2).trans rfl⟩ (fun hHeld => ?_)
  generalize w6.drew = w7 at HW HR hHeld ⊢
  refine pure_ (i := 0) (N := some 62) (v := ?_) (a' := ?_) #[true, false, false, false, false, false, false, false, false, false, false, false, false, false, false, false, false, false] rfl rfl (by kernel_rfl) (fun _ _ _ h => h) (Or.inl ⟨by rfl, ?_⟩) ?_ ?_
  rotate_left
  · intro w'
    go_simp
    with_reducible rfl
  rotate_left
  · simp only [Act.put, List.setIfInBounds_toArray, List.set_cons_zero, List.set_cons_succ, i64_w, i32_w]
    rfl
  refine pure_ (i := 1) (N := some 63) (v := ?_) (a' := ?_) #[true, true, false, false, false, false, false, false, false, false, false, false, false, false, false, false, false, false] rfl rfl (by kernel_rfl) (fun _ _ _ h => h) (Or.inl ⟨by rfl, ?_⟩) ?_ ?_
  rotate_left
  · intro w'
    go_simp
    with_reducible rfl
  rotate_left
  · simp only [Act.put, List.setIfInBounds_toArray, List.set_cons_zero, List.set_cons_succ, i64_w, i32_w]
    rfl
  refine pure_ (i := 2) (N := some 64) (v := ?_) (a' := ?_) #[true, true, true, false, false, false, false, false, false, false, false, false, false, false, false, false, false, false] rfl rfl (by kernel_rfl) (fun _ _ _ h => h) (Or.inl ⟨by rfl, ?_⟩) ?_ ?_
  rotate_left
  · intro w'
    go_simp
    with_reducible rfl
  rotate_left
  · simp only [Act.put, List.setIfInBounds_toArray, List.set_cons_zero, List.set_cons_succ, i64_w, i32_w]
    rfl
  refine pure_ (i := 3) (N := some 65) (v := ?_) (a' := ?_) #[true, true, true, true, false, false, false, false, false, false, false, false, false, false, false, false, false, false] rfl rfl (by kernel_rfl) (fun _ _ _ h => h) (Or.inl ⟨by rfl, ?_⟩) ?_ ?_
  rotate_left
  · intro w'
    go_simp
    with_reducible rfl
  rotate_left
  · simp only [Act.put, List.setIfInBounds_toArray, List.set_cons_zero, List.set_cons_succ, i64_w, i32_w]
    rfl
  refine pure_ (i := 6) (N := some 68) (v := ?_) (a' := ?_) #[true, true, true, true, false, false, true, false, false, false, false, false, false, false, false, false, false, false] rfl rfl (by kernel_rfl) (fun _ _ _ h => h) (Or.inl ⟨by rfl, ?_⟩) ?_ ?_
  rotate_left
  · intro w'
    go_simp
    with_reducible rfl
  rotate_left
  · simp only [Act.put, List.setIfInBounds_toArray, List.set_cons_zero, List.set_cons_succ, i64_w, i32_w]
    rfl
  refine pure_ (i := 9) (N := some 71) (v := ?_) (a' := ?_) #[true, true, true, true, false, false, true, false, false, true, false, false, false, false, false, false, false, false] rfl rfl (by kernel_rfl) (fun _ _ _ h => h) (Or.inl ⟨by rfl, ?_⟩) ?_ ?_
  rotate_left
  · intro w'
    go_simp
    with_reducible rfl
  rotate_left
  · simp only [Act.put, List.setIfInBounds_toArray, List.set_cons_zero, List.set_cons_succ, i64_w, i32_w]
    rfl
  refine take_ (i := 4) (N := some 66) (v := ?_) (a' := ?_) #[true, true, true, true, true, false, true, false, false, true, false, false, false, false, false, false, false, false] rfl rfl (by kernel_rfl) (fun _ _ _ h => h) (Or.inl ⟨by rfl, ?_⟩) hHeld ?_ ?_
  rotate_left
  · rintro w' ⟨s0, s1, s2⟩
    go_simp
    with_reducible rfl
  rotate_left
  · simp only [Act.put, List.setIfInBounds_toArray, List.set_cons_zero, List.set_cons_succ, i64_w, i32_w]
    rfl
  refine pure_ (i := 5) (N := some 67) (v := ?_) (a' := ?_) #[true, true, true, true, true, true, true, false, false, true, false, false, false, false, false, false, false, false] rfl rfl (by kernel_rfl) (fun _ _ _ h => h) (Or.inl ⟨by rfl, ?_⟩) ?_ ?_
  rotate_left
  · intro w'
    go_simp
    with_reducible rfl
  rotate_left
  · simp only [Act.put, List.setIfInBounds_toArray, List.set_cons_zero, List.set_cons_succ, i64_w, i32_w]
    rfl
  refine pure_ (i := 12) (N := some 74) (v := ?_) (a' := ?_) #[true, true, true, true, true, true, true, false, false, true, false, false, true, false, false, false, false, false] rfl rfl (by kernel_rfl) (fun _ _ _ h => h) (Or.inl ⟨by rfl, ?_⟩) ?_ ?_
  rotate_left
  · intro w'
    go_simp
    with_reducible rfl
  rotate_left
  · simp only [Act.put, List.setIfInBounds_toArray, List.set_cons_zero, List.set_cons_succ, i64_w, i32_w]
    rfl
  refine take_ (i := 7) (N := some 69) (v := ?_) (a' := ?_) #[true, true, true, true, true, true, true, true, false, true, false, false, true, false, false, false, false, false] rfl rfl (by kernel_rfl) (fun _ _ _ h => h) (Or.inl ⟨by rfl, ?_⟩) hHeld ?_ ?_
  rotate_left
  · rintro w' ⟨s0, s1, s2⟩
    go_simp
    with_reducible rfl
  rotate_left
  · simp only [Act.put, List.setIfInBounds_toArray, List.set_cons_zero, List.set_cons_succ, i64_w, i32_w]
    rfl
  refine pure_ (i := 8) (N := some 70) (v := ?_) (a' := ?_) #[true, true, true, true, true, true, true, true, true, true, false, false, true, false, false, false, false, false] rfl rfl (by kernel_rfl) (fun _ _ _ h => h) (Or.inl ⟨by rfl, ?_⟩) ?_ ?_
  rotate_left
  · intro w'
    go_simp
    with_reducible rfl
  rotate_left
  · simp only [Act.put, List.setIfInBounds_toArray, List.set_cons_zero, List.set_cons_succ, i64_w, i32_w]
    rfl
  refine take_ (i := 10) (N := some 72) (v := ?_) (a' := ?_) #[true, true, true, true, true, true, true, true, true, true, true, false, true, false, false, false, false, false] rfl rfl (by kernel_rfl) (fun _ _ _ h => h) (Or.inl ⟨by rfl, ?_⟩) hHeld ?_ ?_
  rotate_left
  · rintro w' ⟨s0, s1, s2⟩
    go_simp
    with_reducible rfl
  rotate_left
  · simp only [Act.put, List.setIfInBounds_toArray, List.set_cons_zero, List.set_cons_succ, i64_w, i32_w]
    rfl
  refine pure_ (i := 11) (N := some 73) (v := ?_) (a' := ?_) #[true, true, true, true, true, true, true, true, true, true, true, true, true, false, false, false, false, false] rfl rfl (by kernel_rfl) (fun _ _ _ h => h) (Or.inl ⟨by rfl, ?_⟩) ?_ ?_
  rotate_left
  · intro w'
    go_simp
    with_reducible rfl
  rotate_left
  · simp only [Act.put, List.setIfInBounds_toArray, List.set_cons_zero, List.set_cons_succ, i64_w, i32_w]
    rfl
  refine one_ (i := 13) (N := none) #[true, true, true, true, true, true, true, true, true, true, true, true, true, true, false, false, false, false] rfl rfl (by kernel_rfl) (by decide) (fun K hK => ?_)
  obtain ⟨hx_, hf_⟩ := Kd.R_celln 0 HR.out (0 : Int) (by decide) (by decide)
  replace hx_ : w7.cell? ⟨gb, 0, none⟩ = some (.int .u8 0) := hx_
  replace hf_ : w7.frozen? ⟨gb, 0, none⟩ = false := hf_
  refine skip_ (w1 := (w7.setCell ⟨gb, 0, none⟩ (.int .u8 2))) (by rfl) rfl ?_ ?_
  · go_simp
    first | done | rfl
  clear hHeld
  have n1_ : Aside0 (Kd.R (Kd.int .u8) 5 (w7.setCell ⟨gb, 0, none⟩ (.int .u8 2)) w2.heap.size (fun _ => True) (.slice (some ⟨gb, 0, none⟩) 24 cb) ([2, 0, 0, 0, 0, 0, 0, 0, 0, 0, 0, 0, 0, 0, 0, 0, 0, 0, 0, 0, 0, 0, 0, 0] : List Int)) := ⟨(Kd.R_putg HR.out (0 : Int) 2).1⟩
  have n0_ := Aside0.mk (below_set (j := 0) (v := .int .u8 2) HW.out GB.out)
  clear hx_ hf_ HW HR
  generalize hq_ : (w7.setCell ⟨gb, 0, none⟩ (.int .u8 2)) = w8 at n0_ n1_ ⊢
  clear hq_
  have HW := n0_
  have HR := n1_
  clear n0_ n1_
  refine hK.out _ _ ⟨(blk_cell (HP.out.below HW.out) 0).trans rfl, (blk_cell (HP.out.below HW.out) 1).trans rfl, (blk_cell (HP.out.below HW.out) 2).trans rfl⟩ (fun hHeld => ?_)
  clear hK K
  refine pure_ (i := 14) (N := some 75) (v := ?_) (a' := ?_) #[true, true, true, true, true, true, true, true, true, true, true, true, true, true, true, false, false, false] rfl rfl (by kernel_rfl) (fun _ _ _ h => h) (Or.inl ⟨by rfl, ?_⟩) ?_ ?_
  rotate_left
  · intro w'
    go_simp
    with_reducible rfl
  rotate_left
  · simp only [Act.put, List.setIfInBounds_toArray, List.set_cons_zero, List.set_cons_succ, i64_w, i32_w]
    rfl
  refine one_ (i := 15) (N := none) #[true, true, true, true, true, true, true, true, true, true, true, true, true, true, true, true, false, false] rfl rfl (by kernel_rfl) (by decide) (fun K hK => ?_)
  obtain ⟨hx_, hf_⟩ := Kd.R_celln 0 HR.out (1 : Int) (by decide) (by decide)
  replace hx_ : w8.cell? ⟨gb, 1, none⟩ = some (.int .u8 0) := hx_
  replace hf_ : w8.frozen? ⟨gb, 1, none⟩ = false := hf_
  refine skip_ (w1 := (w8.setCell ⟨gb, 1, none⟩ (.int .u8 9))) (by rfl) rfl ?_ ?_
  · go_simp
    first | done | rfl
  clear hHeld
  have n1_ : Aside0 (Kd.R (Kd.int .u8) 5 (w8.setCell ⟨gb, 1, none⟩ (.int .u8 9)) w2.heap.size (fun _ => True) (.slice (some ⟨gb, 0, none⟩) 24 cb) ([2, 9, 0, 0, 0, 0, 0, 0, 0, 0, 0, 0, 0, 0, 0, 0, 0, 0, 0, 0, 0, 0, 0, 0] : List Int)) := ⟨(Kd.R_putg HR.out (1 : Int) 9).1⟩
  have n0_ := Aside0.mk (below_set (j := 1) (v := .int .u8 9) HW.out GB.out)
  clear hx_ hf_ HW HR
  generalize hq_ : (w8.setCell ⟨gb, 1, none⟩ (.int .u8 9)) = w9 at n0_ n1_ ⊢
  clear hq_
  have HW := n0_
  have HR := n1_
  clear n0_ n1_
  refine hK.out _ _ ⟨(blk_cell (HP.out.below HW.out) 0).trans rfl, (blk_cell (HP.out.below HW.out) 1).trans rfl, (blk_cell (HP.out.below HW.out) 2).trans rfl⟩ (fun hHeld => ?_)
  clear hK K
  refine pure_ (i := 16) (N := some 76) (v := ?_) (a' := ?_) #[true, true, true, true, true, true, true, true, true, true, true, true, true, true, true, true, true, false] rfl rfl (by kernel_rfl) (fun _ _ _ h => h) (Or.inl ⟨by rfl, ?_⟩) ?_ ?_
  rotate_left
  · intro w'
    go_simp
    with_reducible rfl
  rotate_left
  · simp only [Act.put, List.setIfInBounds_toArray, List.set_cons_zero, List.set_cons_succ, i64_w, i32_w]
    rfl
  refine one_ (i := 17) (N := none) #[true, true, true, true, true, true, true, true, true, true, true, true, true, true, true, true, true, true] rfl rfl (by kernel_rfl) (by decide) (fun K hK => ?_)
  obtain ⟨hx_, hf_⟩ := Kd.R_celln 0 HR.out (12 : Int) (by decide) (by decide)
  replace hx_ : w9.cell? ⟨gb, 12, none⟩ = some (.int .u8 0) := hx_
  replace hf_ : w9.frozen? ⟨gb, 12, none⟩ = false := hf_
  refine skip_ (w1 := (w9.setCell ⟨gb, 12, none⟩ (.int .u8 0))) (by rfl) rfl ?_ ?_
  · go_simp
    first | done | rfl
  clear hHeld
  have n1_ : Aside0 (Kd.R (Kd.int .u8) 5 (w9.setCell ⟨gb, 12, none⟩ (.int .u8 0)) w2.heap.size (fun _ => True) (.slice (some ⟨gb, 0, none⟩) 24 cb) ([2, 9, 0, 0, 0, 0, 0, 0, 0, 0, 0, 0, 0, 0, 0, 0, 0, 0, 0, 0, 0, 0, 0, 0] : List Int)) := ⟨(Kd.R_putg HR.out (12 : Int) 0).1⟩
  have n0_ := Aside0.mk (below_set (j := 12) (v := .int .u8 0) HW.out GB.out)
  clear hx_ hf_ HW HR
  generalize hq_ : (w9.setCell ⟨gb, 12, none⟩ (.int .u8 0)) = wA at n0_ n1_ ⊢
  clear hq_
  have HW := n0_
  have HR := n1_
  clear n0_ n1_
  refine hK.out _ _ ⟨(blk_cell (HP.out.below HW.out) 0).trans rfl, (blk_cell (HP.out.below HW.out) 1).trans rfl, (blk_cell (HP.out.below HW.out) 2).trans rfl⟩ (fun hHeld => ?_)
  clear hK K
  refine done_ (by kernel_rfl) ?_
  clear hHeld
  have c0 : wA.cell? ⟨g, 0, none⟩ = some (.int .i64 2) := (blk_cell (HP.out.below HW.out) 0).trans rfl
  have c1 : wA.cell? ⟨g, 1, none⟩ = some (.int .i64 9) := (blk_cell (HP.out.below HW.out) 1).trans rfl
  have c2 : wA.cell? ⟨g, 2, none⟩ = some (.int .i64 0) := (blk_cell (HP.out.below HW.out) 2).trans rfl
  have c3 : wA.cell? ⟨g, 3, none⟩ = some (.int .i64 1) := (blk_cell (HP.out.below HW.out) 3).trans rfl
  have c4 : wA.cell? ⟨g, 4, none⟩ = some (.int .i64 10) := (blk_cell (HP.out.below HW.out) 4).trans rfl
  have c5 : wA.cell? ⟨g, 5, none⟩ = some (.int .i64 0) := (blk_cell (HP.out.below HW.out) 5).trans rfl
  have c6 : wA.cell? ⟨g, 6, none⟩ = some (.int .i64 80) := (blk_cell (HP.out.below HW.out) 6).trans rfl
  have c7 : wA.cell? ⟨g, 7, none⟩ = some (.int .i64 0) := (blk_cell (HP.out.below HW.out) 7).trans rfl
  have c8 : wA.cell? ⟨g, 8, none⟩ = some (.int .i64 0) := (blk_cell (HP.out.below HW.out) 8).trans rfl
  have c9 : wA.cell? ⟨g, 9, none⟩ = some (.bool false) := (blk_cell (HP.out.below HW.out) 9).trans rfl
  have c10 : wA.cell? ⟨g, 10, none⟩ = some (.int .i64 0) := (blk_cell (HP.out.below HW.out) 10).trans rfl
  have c11 : wA.cell? ⟨g, 11, none⟩ = some (.slice none 0 0) := (blk_cell (HP.out.below HW.out) 11).trans rfl
  have c12 : wA.cell? ⟨g, 12, none⟩ = some (.slice none 0 0) := (blk_cell (HP.out.below HW.out) 12).trans rfl
  go_upto_region 19 with (first
    | (go_at_call 37; (with_reducible refine (wire_put.calls 10 (fun _ => True) _ ([2, 9, 0, 0, 0, 0, 0, 0, 0, 0, 0, 0, 0, 0, 0, 0, 0, 0, 0, 0, 0, 0, 0, 0] : List Int) 2 2 24 [2, 9, 0, 24, 0, 0, 0, 0, 0, 0, 0, 0, 0, 0, 0, 0, 0, 0, 0, 0, 0, 0, 0, 0] w2 _ HW.out HR.out (by kernel_rfl)).mono ?_); rintro e_ x9 ⟨rfl, hr_, hb_, hk_⟩; clear c0 c1 c2 c3 c4 c5 c6 c7 c8 c9 c10 c11 c12; have n0_ := Aside0.mk hb_; have n1_ : Aside0 (Kd.R (Kd.int .u8) 5 x9 w2.heap.size (fun _ => True) (.slice (some ⟨gb, 0, none⟩) 24 cb) ([2, 9, 0, 24, 0, 0, 0, 0, 0, 0, 0, 0, 0, 0, 0, 0, 0, 0, 0, 0, 0, 0, 0, 0] : List Int)) := ⟨Kd.R_mono hr_ (fun _ _ => trivial)⟩; clear hk_ hr_ hb_; clear HW HR; have HW := n0_; have HR := n1_; clear n0_ n1_; have c0 : x9.cell? ⟨g, 0, none⟩ = some (.int .i64 2) := (blk_cell (HP.out.below HW.out) 0).trans rfl; have c1 : x9.cell? ⟨g, 1, none⟩ = some (.int .i64 9) := (blk_cell (HP.out.below HW.out) 1).trans rfl; have c2 : x9.cell? ⟨g, 2, none⟩ = some (.int .i64 0) := (blk_cell (HP.out.below HW.out) 2).trans rfl; have c3 : x9.cell? ⟨g, 3, none⟩ = some (.int .i64 1) := (blk_cell (HP.out.below HW.out) 3).trans rfl; have c4 : x9.cell? ⟨g, 4, none⟩ = some (.int .i64 10) := (blk_cell (HP.out.below HW.out) 4).trans rfl; have c5 : x9.cell? ⟨g, 5, none⟩ = some (.int .i64 0) := (blk_cell (HP.out.below HW.out) 5).trans rfl; have c6 : x9.cell? ⟨g, 6, none⟩ = some (.int .i64 80) := (blk_cell (HP.out.below HW.out) 6).trans rfl; have c7 : x9.cell? ⟨g, 7, none⟩ = some (.int .i64 0) := (blk_cell (HP.out.below HW.out) 7).trans rfl; have c8 : x9.cell? ⟨g, 8, none⟩ = some (.int .i64 0) := (blk_cell (HP.out.below HW.out) 8).trans rfl; have c9 : x9.cell? ⟨g, 9, none⟩ = some (.bool false) := (blk_cell (HP.out.below HW.out) 9).trans rfl; have c10 : x9.cell? ⟨g, 10, none⟩ = some (.int .i64 0) := (blk_cell (HP.out.below HW.out) 10).trans rfl; have c11 : x9.cell? ⟨g, 11, none⟩ = some (.slice none 0 0) := (blk_cell (HP.out.below HW.out) 11).trans rfl; have c12 : x9.cell? ⟨g, 12, none⟩ = some (.slice none 0 0) := (blk_cell (HP.out.below HW.out) 12).trans rfl)
    | (go_at_call 37; (with_reducible refine (wire_put.calls 10 (fun _ => True) _ ([2, 9, 0, 24, 0, 0, 0, 0, 0, 0, 0, 0, 0, 0, 0, 0, 0, 0, 0, 0, 0, 0, 0, 0] : List Int) 4 4 1 [2, 9, 0, 24, 0, 0, 0, 1, 0, 0, 0, 0, 0, 0, 0, 0, 0, 0, 0, 0, 0, 0, 0, 0] w2 _ HW.out HR.out (by kernel_rfl)).mono ?_); rintro e_ x10 ⟨rfl, hr_, hb_, hk_⟩; clear c0 c1 c2 c3 c4 c5 c6 c7 c8 c9 c10 c11 c12; have n0_ := Aside0.mk hb_; have n1_ : Aside0 (Kd.R (Kd.int .u8) 5 x10 w2.heap.size (fun _ => True) (.slice (some ⟨gb, 0, none⟩) 24 cb) ([2, 9, 0, 24, 0, 0, 0, 1, 0, 0, 0, 0, 0, 0, 0, 0, 0, 0, 0, 0, 0, 0, 0, 0] : List Int)) := ⟨Kd.R_mono hr_ (fun _ _ => trivial)⟩; clear hk_ hr_ hb_; clear HW HR; have HW := n0_; have HR := n1_; clear n0_ n1_; have c0 : x10.cell? ⟨g, 0, none⟩ = some (.int .i64 2) := (blk_cell (HP.out.below HW.out) 0).trans rfl; have c1 : x10.cell? ⟨g, 1, none⟩ = some (.int .i64 9) := (blk_cell (HP.out.below HW.out) 1).trans rfl; have c2 : x10.cell? ⟨g, 2, none⟩ = some (.int .i64 0) := (blk_cell (HP.out.below HW.out) 2).trans rfl; have c3 : x10.cell? ⟨g, 3, none⟩ = some (.int .i64 1) := (blk_cell (HP.out.below HW.out) 3).trans rfl; have c4 : x10.cell? ⟨g, 4, none⟩ = some (.int .i64 10) := (blk_cell (HP.out.below HW.out) 4).trans rfl; have c5 : x10.cell? ⟨g, 5, none⟩ = some (.int .i64 0) := (blk_cell (HP.out.below HW.out) 5).trans rfl; have c6 : x10.cell? ⟨g, 6, none⟩ = some (.int .i64 80) := (blk_cell (HP.out.below HW.out) 6).trans rfl; have c7 : x10.cell? ⟨g, 7, none⟩ = some (.int .i64 0) := (blk_cell (HP.out.below HW.out) 7).trans rfl; have c8 : x10.cell? ⟨g, 8, none⟩ = some (.int .i64 0) := (blk_cell (HP.out.below HW.out) 8).trans rfl; have c9 : x10.cell? ⟨g, 9, none⟩ = some (.bool false) := (blk_cell (HP.out.below HW.out) 9).trans rfl; have c10 : x10.cell? ⟨g, 10, none⟩ = some (.int .i64 0) := (blk_cell (HP.out.below HW.out) 10).trans rfl; have c11 : x10.cell? ⟨g, 11, none⟩ = some (.slice none 0 0) := (blk_cell (HP.out.below HW.out) 11).trans rfl; have c12 : x10.cell? ⟨g, 12, none⟩ = some (.slice none 0 0) := (blk_cell (HP.out.below HW.out) 12).trans rfl)
    | (go_at_call 37; (with_reducible refine (wire_put.calls 10 (fun _ => True) _ ([2, 9, 0, 24, 0, 0, 0, 1, 0, 0, 0, 0, 0, 0, 0, 0, 0, 0, 0, 0, 0, 0, 0, 0] : List Int) 8 4 10 [2, 9, 0, 24, 0, 0, 0, 1, 0, 0, 0, 10, 0, 0, 0, 0, 0, 0, 0, 0, 0, 0, 0, 0] w2 _ HW.out HR.out (by kernel_rfl)).mono ?_); rintro e_ x11 ⟨rfl, hr_, hb_, hk_⟩; clear c0 c1 c2 c3 c4 c5 c6 c7 c8 c9 c10 c11 c12; have n0_ := Aside0.mk hb_; have n1_ : Aside0 (Kd.R (Kd.int .u8) 5 x11 w2.heap.size (fun _ => True) (.slice (some ⟨gb, 0, none⟩) 24 cb) ([2, 9, 0, 24, 0, 0, 0, 1, 0, 0, 0, 10, 0, 0, 0, 0, 0, 0, 0, 0, 0, 0, 0, 0] : List Int)) := ⟨Kd.R_mono hr_ (fun _ _ => trivial)⟩; clear hk_ hr_ hb_; clear HW HR; have HW := n0_; have HR := n1_; clear n0_ n1_; have c0 : x11.cell? ⟨g, 0, none⟩ = some (.int .i64 2) := (blk_cell (HP.out.below HW.out) 0).trans rfl; have c1 : x11.cell? ⟨g, 1, none⟩ = some (.int .i64 9) := (blk_cell (HP.out.below HW.out) 1).trans rfl; have c2 : x11.cell? ⟨g, 2, none⟩ = some (.int .i64 0) := (blk_cell (HP.out.below HW.out) 2).trans rfl; have c3 : x11.cell? ⟨g, 3, none⟩ = some (.int .i64 1) := (blk_cell (HP.out.below HW.out) 3).trans rfl; have c4 : x11.cell? ⟨g, 4, none⟩ = some (.int .i64 10) := (blk_cell (HP.out.below HW.out) 4).trans rfl; have c5 : x11.cell? ⟨g, 5, none⟩ = some (.int .i64 0) := (blk_cell (HP.out.below HW.out) 5).trans rfl; have c6 : x11.cell? ⟨g, 6, none⟩ = some (.int .i64 80) := (blk_cell (HP.out.below HW.out) 6).trans rfl; have c7 : x11.cell? ⟨g, 7, none⟩ = some (.int .i64 0) := (blk_cell (HP.out.below HW.out) 7).trans rfl; have c8 : x11.cell? ⟨g, 8, none⟩ = some (.int .i64 0) := (blk_cell (HP.out.below HW.out) 8).trans rfl; have c9 : x11.cell? ⟨g, 9, none⟩ = some (.bool false) := (blk_cell (HP.out.below HW.out) 9).trans rfl; have c10 : x11.cell? ⟨g, 10, none⟩ = some (.int .i64 0) := (blk_cell (HP.out.below HW.out) 10).trans rfl; have c11 : x11.cell? ⟨g, 11, none⟩ = some (.slice none 0 0) := (blk_cell (HP.out.below HW.out) 11).trans rfl; have c12 : x11.cell? ⟨g, 12, none⟩ = some (.slice none 0 0) := (blk_cell (HP.out.below HW.out) 12).trans rfl))
  have k1_ : ((16 : Int) ≤ (cb : Int)) = True := eq_true (by have h_ := HCB.out; omega)
  have k2_ : (16 ≤ cb) = True := eq_true (by have h_ := HCB.out; omega)
  have k3_ : ((24 : Int) ≤ (cb : Int)) = True := eq_true (by have h_ := HCB.out; omega)
  have k4_ : (24 ≤ cb) = True := eq_true (by have h_ := HCB.out; omega)
  go_upto_region 20 with (first
    | (go_at_call 18; (with_reducible refine (sumofA (front_C HR.out 16 (by decide)) (by have h_ := HCB.out; exact Nat.le_trans (by decide) h_)).mono ?_); rintro e_ x12 ⟨rfl, hb_⟩; clear c0 c1 c2 c3 c4 c5 c6 c7 c8 c9 c10 c11 c12; have n0_ := Aside0.mk (below_step HW.out hb_); have n1_ := Aside0.mk (Kd.R_below HR.out hb_); clear HW HR; have HW := n0_; have HR := n1_; clear n0_ n1_; have c0 : x12.cell? ⟨g, 0, none⟩ = some (.int .i64 2) := (blk_cell (HP.out.below HW.out) 0).trans rfl; have c1 : x12.cell? ⟨g, 1, none⟩ = some (.int .i64 9) := (blk_cell (HP.out.below HW.out) 1).trans rfl; have c2 : x12.cell? ⟨g, 2, none⟩ = some (.int .i64 0) := (blk_cell (HP.out.below HW.out) 2).trans rfl; have c3 : x12.cell? ⟨g, 3, none⟩ = some (.int .i64 1) := (blk_cell (HP.out.below HW.out) 3).trans rfl; have c4 : x12.cell? ⟨g, 4, none⟩ = some (.int .i64 10) := (blk_cell (HP.out.below HW.out) 4).trans rfl; have c5 : x12.cell? ⟨g, 5, none⟩ = some (.int .i64 0) := (blk_cell (HP.out.below HW.out) 5).trans rfl; have c6 : x12.cell? ⟨g, 6, none⟩ = some (.int .i64 80) := (blk_cell (HP.out.below HW.out) 6).trans rfl; have c7 : x12.cell? ⟨g, 7, none⟩ = some (.int .i64 0) := (blk_cell (HP.out.below HW.out) 7).trans rfl; have c8 : x12.cell? ⟨g, 8, none⟩ = some (.int .i64 0) := (blk_cell (HP.out.below HW.out) 8).trans rfl; have c9 : x12.cell? ⟨g, 9, none⟩ = some (.bool false) := (blk_cell (HP.out.below HW.out) 9).trans rfl; have c10 : x12.cell? ⟨g, 10, none⟩ = some (.int .i64 0) := (blk_cell (HP.out.below HW.out) 10).trans rfl; have c11 : x12.cell? ⟨g, 11, none⟩ = some (.slice none 0 0) := (blk_cell (HP.out.below HW.out) 11).trans rfl; have c12 : x12.cell? ⟨g, 12, none⟩ = some (.slice none 0 0) := (blk_cell (HP.out.below HW.out) 12).trans rfl; clear hb_)
    | (go_at_call 37; (with_reducible refine (wire_put.calls 10 (fun _ => True) _ ([2, 9, 0, 24, 0, 0, 0, 1, 0, 0, 0, 10, 0, 0, 0, 0, 0, 0, 0, 0, 0, 0, 0, 0] : List Int) 14 2 64979 [2, 9, 0, 24, 0, 0, 0, 1, 0, 0, 0, 10, 0, 0, 253, 211, 0, 0, 0, 0, 0, 0, 0, 0] w2 _ HW.out HR.out (by kernel_rfl)).mono ?_); rintro e_ x13 ⟨rfl, hr_, hb_, hk_⟩; clear c0 c1 c2 c3 c4 c5 c6 c7 c8 c9 c10 c11 c12; have n0_ := Aside0.mk hb_; have n1_ : Aside0 (Kd.R (Kd.int .u8) 5 x13 w2.heap.size (fun _ => True) (.slice (some ⟨gb, 0, none⟩) 24 cb) ([2, 9, 0, 24, 0, 0, 0, 1, 0, 0, 0, 10, 0, 0, 253, 211, 0, 0, 0, 0, 0, 0, 0, 0] : List Int)) := ⟨Kd.R_mono hr_ (fun _ _ => trivial)⟩; clear hk_ hr_ hb_; clear HW HR; have HW := n0_; have HR := n1_; clear n0_ n1_; have c0 : x13.cell? ⟨g, 0, none⟩ = some (.int .i64 2) := (blk_cell (HP.out.below HW.out) 0).trans rfl; have c1 : x13.cell? ⟨g, 1, none⟩ = some (.int .i64 9) := (blk_cell (HP.out.below HW.out) 1).trans rfl; have c2 : x13.cell? ⟨g, 2, none⟩ = some (.int .i64 0) := (blk_cell (HP.out.below HW.out) 2).trans rfl; have c3 : x13.cell? ⟨g, 3, none⟩ = some (.int .i64 1) := (blk_cell (HP.out.below HW.out) 3).trans rfl; have c4 : x13.cell? ⟨g, 4, none⟩ = some (.int .i64 10) := (blk_cell (HP.out.below HW.out) 4).trans rfl; have c5 : x13.cell? ⟨g, 5, none⟩ = some (.int .i64 0) := (blk_cell (HP.out.below HW.out) 5).trans rfl; have c6 : x13.cell? ⟨g, 6, none⟩ = some (.int .i64 80) := (blk_cell (HP.out.below HW.out) 6).trans rfl; have c7 : x13.cell? ⟨g, 7, none⟩ = some (.int .i64 0) := (blk_cell (HP.out.below HW.out) 7).trans rfl; have c8 : x13.cell? ⟨g, 8, none⟩ = some (.int .i64 0) := (blk_cell (HP.out.below HW.out) 8).trans rfl; have c9 : x13.cell? ⟨g, 9, none⟩ = some (.bool false) := (blk_cell (HP.out.below HW.out) 9).trans rfl; have c10 : x13.cell? ⟨g, 10, none⟩ = some (.int .i64 0) := (blk_cell (HP.out.below HW.out) 10).trans rfl; have c11 : x13.cell? ⟨g, 11, none⟩ = some (.slice none 0 0) := (blk_cell (HP.out.below HW.out) 11).trans rfl; have c12 : x13.cell? ⟨g, 12, none⟩ = some (.slice none 0 0) := (blk_cell (HP.out.below HW.out) 12).trans rfl))
  go_upto_region 22 with (first
    | (go_at_call 37; (with_reducible refine (wire_put.calls 10 (fun _ => True) _ ([2, 9, 0, 24, 0, 0, 0, 1, 0, 0, 0, 10, 0, 0, 253, 211, 0, 0, 0, 0, 0, 0, 0, 0] : List Int) 16 2 0 [2, 9, 0, 24, 0, 0, 0, 1, 0, 0, 0, 10, 0, 0, 253, 211, 0, 0, 0, 0, 0, 0, 0, 0] w2 _ HW.out HR.out (by kernel_rfl)).mono ?_); rintro e_ x14 ⟨rfl, hr_, hb_, hk_⟩; clear c0 c1 c2 c3 c4 c5 c6 c7 c8 c9 c10 c11 c12; have n0_ := Aside0.mk hb_; have n1_ : Aside0 (Kd.R (Kd.int .u8) 5 x14 w2.heap.size (fun _ => True) (.slice (some ⟨gb, 0, none⟩) 24 cb) ([2, 9, 0, 24, 0, 0, 0, 1, 0, 0, 0, 10, 0, 0, 253, 211, 0, 0, 0, 0, 0, 0, 0, 0] : List Int)) := ⟨Kd.R_mono hr_ (fun _ _ => trivial)⟩; clear hk_ hr_ hb_; clear HW HR; have HW := n0_; have HR := n1_; clear n0_ n1_; have c0 : x14.cell? ⟨g, 0, none⟩ = some (.int .i64 2) := (blk_cell (HP.out.below HW.out) 0).trans rfl; have c1 : x14.cell? ⟨g, 1, none⟩ = some (.int .i64 9) := (blk_cell (HP.out.below HW.out) 1).trans rfl; have c2 : x14.cell? ⟨g, 2, none⟩ = some (.int .i64 0) := (blk_cell (HP.out.below HW.out) 2).trans rfl; have c3 : x14.cell? ⟨g, 3, none⟩ = some (.int .i64 1) := (blk_cell (HP.out.below HW.out) 3).trans rfl; have c4 : x14.cell? ⟨g, 4, none⟩ = some (.int .i64 10) := (blk_cell (HP.out.below HW.out) 4).trans rfl; have c5 : x14.cell? ⟨g, 5, none⟩ = some (.int .i64 0) := (blk_cell (HP.out.below HW.out) 5).trans rfl; have c6 : x14.cell? ⟨g, 6, none⟩ = some (.int .i64 80) := (blk_cell (HP.out.below HW.out) 6).trans rfl; have c7 : x14.cell? ⟨g, 7, none⟩ = some (.int .i64 0) := (blk_cell (HP.out.below HW.out) 7).trans rfl; have c8 : x14.cell? ⟨g, 8, none⟩ = some (.int .i64 0) := (blk_cell (HP.out.below HW.out) 8).trans rfl; have c9 : x14.cell? ⟨g, 9, none⟩ = some (.bool false) := (blk_cell (HP.out.below HW.out) 9).trans rfl; have c10 : x14.cell? ⟨g, 10, none⟩ = some (.int .i64 0) := (blk_cell (HP.out.below HW.out) 10).trans rfl; have c11 : x14.cell? ⟨g, 11, none⟩ = some (.slice none 0 0) := (blk_cell (HP.out.below HW.out) 11).trans rfl; have c12 : x14.cell? ⟨g, 12, none⟩ = some (.slice none 0 0) := (blk_cell (HP.out.below HW.out) 12).trans rfl))
  go_upto_region 23 with (first
    | (go_at_call 37; (with_reducible refine (wire_put.calls 10 (fun _ => True) _ ([2, 9, 0, 24, 0, 0, 0, 1, 0, 0, 0, 10, 0, 0, 253, 211, 0, 0, 0, 0, 0, 0, 0, 0] : List Int) 18 2 80 [2, 9, 0, 24, 0, 0, 0, 1, 0, 0, 0, 10, 0, 0, 253, 211, 0, 0, 0, 80, 0, 0, 0, 0] w2 _ HW.out HR.out (by kernel_rfl)).mono ?_); rintro e_ x15 ⟨rfl, hr_, hb_, hk_⟩; clear c0 c1 c2 c3 c4 c5 c6 c7 c8 c9 c10 c11 c12; have n0_ := Aside0.mk hb_; have n1_ : Aside0 (Kd.R (Kd.int .u8) 5 x15 w2.heap.size (fun _ => True) (.slice (some ⟨gb, 0, none⟩) 24 cb) ([2, 9, 0, 24, 0, 0, 0, 1, 0, 0, 0, 10, 0, 0, 253, 211, 0, 0, 0, 80, 0, 0, 0, 0] : List Int)) := ⟨Kd.R_mono hr_ (fun _ _ => trivial)⟩; clear hk_ hr_ hb_; clear HW HR; have HW := n0_; have HR := n1_; clear n0_ n1_; have c0 : x15.cell? ⟨g, 0, none⟩ = some (.int .i64 2) := (blk_cell (HP.out.below HW.out) 0).trans rfl; have c1 : x15.cell? ⟨g, 1, none⟩ = some (.int .i64 9) := (blk_cell (HP.out.below HW.out) 1).trans rfl; have c2 : x15.cell? ⟨g, 2, none⟩ = some (.int .i64 0) := (blk_cell (HP.out.below HW.out) 2).trans rfl; have c3 : x15.cell? ⟨g, 3, none⟩ = some (.int .i64 1) := (blk_cell (HP.out.below HW.out) 3).trans rfl; have c4 : x15.cell? ⟨g, 4, none⟩ = some (.int .i64 10) := (blk_cell (HP.out.below HW.out) 4).trans rfl; have c5 : x15.cell? ⟨g, 5, none⟩ = some (.int .i64 0) := (blk_cell (HP.out.below HW.out) 5).trans rfl; have c6 : x15.cell? ⟨g, 6, none⟩ = some (.int .i64 80) := (blk_cell (HP.out.below HW.out) 6).trans rfl; have c7 : x15.cell? ⟨g, 7, none⟩ = some (.int .i64 0) := (blk_cell (HP.out.below HW.out) 7).trans rfl; have c8 : x15.cell? ⟨g, 8, none⟩ = some (.int .i64 0) := (blk_cell (HP.out.below HW.out) 8).trans rfl; have c9 : x15.cell? ⟨g, 9, none⟩ = some (.bool false) := (blk_cell (HP.out.below HW.out) 9).trans rfl; have c10 : x15.cell? ⟨g, 10, none⟩ = some (.int .i64 0) := (blk_cell (HP.out.below HW.out) 10).trans rfl; have c11 : x15.cell? ⟨g, 11, none⟩ = some (.slice none 0 0) := (blk_cell (HP.out.below HW.out) 11).trans rfl; have c12 : x15.cell? ⟨g, 12, none⟩ = some (.slice none 0 0) := (blk_cell (HP.out.below HW.out) 12).trans rfl))
  go_upto_region 30 with (first
    | (go_at_call 37; (with_reducible refine (wire_put.calls 10 (fun _ => True) _ ([2, 9, 0, 24, 0, 0, 0, 1, 0, 0, 0, 10, 0, 0, 253, 211, 0, 0, 0, 80, 0, 0, 0, 0] : List Int) 20 2 0 [2, 9, 0, 24, 0, 0, 0, 1, 0, 0, 0, 10, 0, 0, 253, 211, 0, 0, 0, 80, 0, 0, 0, 0] w2 _ HW.out HR.out (by kernel_rfl)).mono ?_); rintro e_ x16 ⟨rfl, hr_, hb_, hk_⟩; clear c0 c1 c2 c3 c4 c5 c6 c7 c8 c9 c10 c11 c12; have n0_ := Aside0.mk hb_; have n1_ : Aside0 (Kd.R (Kd.int .u8) 5 x16 w2.heap.size (fun _ => True) (.slice (some ⟨gb, 0, none⟩) 24 cb) ([2, 9, 0, 24, 0, 0, 0, 1, 0, 0, 0, 10, 0, 0, 253, 211, 0, 0, 0, 80, 0, 0, 0, 0] : List Int)) := ⟨Kd.R_mono hr_ (fun _ _ => trivial)⟩; clear hk_ hr_ hb_; clear HW HR; have HW := n0_; have HR := n1_; clear n0_ n1_; have c0 : x16.cell? ⟨g, 0, none⟩ = some (.int .i64 2) := (blk_cell (HP.out.below HW.out) 0).trans rfl; have c1 : x16.cell? ⟨g, 1, none⟩ = some (.int .i64 9) := (blk_cell (HP.out.below HW.out) 1).trans rfl; have c2 : x16.cell? ⟨g, 2, none⟩ = some (.int .i64 0) := (blk_cell (HP.out.below HW.out) 2).trans rfl; have c3 : x16.cell? ⟨g, 3, none⟩ = some (.int .i64 1) := (blk_cell (HP.out.below HW.out) 3).trans rfl; have c4 : x16.cell? ⟨g, 4, none⟩ = some (.int .i64 10) := (blk_cell (HP.out.below HW.out) 4).trans rfl; have c5 : x16.cell? ⟨g, 5, none⟩ = some (.int .i64 0) := (blk_cell (HP.out.below HW.out) 5).trans rfl; have c6 : x16.cell? ⟨g, 6, none⟩ = some (.int .i64 80) := (blk_cell (HP.out.below HW.out) 6).trans rfl; have c7 : x16.cell? ⟨g, 7, none⟩ = some (.int .i64 0) := (blk_cell (HP.out.below HW.out) 7).trans rfl; have c8 : x16.cell? ⟨g, 8, none⟩ = some (.int .i64 0) := (blk_cell (HP.out.below HW.out) 8).trans rfl; have c9 : x16.cell? ⟨g, 9, none⟩ = some (.bool false) := (blk_cell (HP.out.below HW.out) 9).trans rfl; have c10 : x16.cell? ⟨g, 10, none⟩ = some (.int .i64 0) := (blk_cell (HP.out.below HW.out) 10).trans rfl; have c11 : x16.cell? ⟨g, 11, none⟩ = some (.slice none 0 0) := (blk_cell (HP.out.below HW.out) 11).trans rfl; have c12 : x16.cell? ⟨g, 12, none⟩ = some (.slice none 0 0) := (blk_cell (HP.out.below HW.out) 12).trans rfl))
  have hw24 : wrap64 24 = 24 := by unfold wrap64; omega
  obtain ⟨i0_, hi0_, _, hsz0_, _⟩ := info_parts infoB8
  obtain ⟨A3, hcut3, _⟩ := print_cut_of (P := Try.prog) (Value.int .u8) 0 54 5 .i64 Try.underlying54 hi0_ hsz0_ (some ⟨gb, 0, none⟩) 24 cb 24 (Nat.le_refl _)
  clear hi0_ hsz0_ k1_ k2_ k3_ k4_
  replace hcut3 : ∀ W : World, (Instr.slice 54 (.slice (some ⟨gb, 0, none⟩) 24 cb) (some (.int .i64 24)) none none).run Try.prog W = .ok (.slice A3 0 (cb - 24)) W := hcut3
  clear c0 c1 c2 c3 c4 c5 c6 c7 c8 c9 c10 c11 c12
  have hbd_ := below_drew1 (Below.refl x16.heap.size x16)
  have n0_ := Aside0.mk (below_step HW.out hbd_)
  have n1_ : Aside0 (Kd.R (Kd.int .u8) 5 x16.drew w2.heap.size (fun _ => True) (.slice (some ⟨gb, 0, none⟩) 24 cb) ([2, 9, 0, 24, 0, 0, 0, 1, 0, 0, 0, 10, 0, 0, 253, 211, 0, 0, 0, 80, 0, 0, 0, 0] : List Int)) := ⟨Kd.R_below HR.out hbd_⟩
  clear hbd_ HW HR
  have HW := n0_
  have HR := n1_
  clear n0_ n1_
  refine start_ (n := 10) (S := fun w' => w'.cell? ⟨g, 12, none⟩ = some (.slice none 0 0)) (ds := []) #[false, false, false, false, false, false, false, false, false, false] (by kernel_rfl) rfl rfl ((blk_cell (HP.out.below HW.out) 12).trans rfl) (fun hHeld => ?_)
  generalize x16.drew = wB at HW HR hHeld ⊢
  refine pure_ (i := 0) (N := some 135) (v := ?_) (a' := ?_) #[true, false, false, false, false, false, false, false, false, false] rfl rfl (by kernel_rfl) (fun _ _ _ h => h) (Or.inl ⟨by rfl, ?_⟩) ?_ ?_
  rotate_left
  · intro w'
    go_simp
    with_reducible rfl
  rotate_left
  · simp only [Act.put, List.setIfInBounds_toArray, List.set_cons_zero, List.set_cons_succ, i64_w, i32_w]
    rfl
  refine pure_ (i := 1) (N := some 136) (v := ?_) (a' := ?_) #[true, true, false, false, false, false, false, false, false, false] rfl rfl (by kernel_rfl) (fun _ _ _ h => h) (Or.inl ⟨by rfl, ?_⟩) ?_ ?_
  rotate_left
  · intro w'
    go_simp
    with_reducible rfl
  rotate_left
  · simp only [Act.put, List.setIfInBounds_toArray, List.set_cons_zero, List.set_cons_succ, i64_w, i32_w]
    rfl
  refine pure_ (i := 2) (N := some 137) (v := ?_) (a' := ?_) #[true, true, true, false, false, false, false, false, false, false] rfl rfl (by kernel_rfl) (fun _ _ _ h => h) (Or.inl ⟨by rfl, ?_⟩) ?_ ?_
  rotate_left
  · intro w'
    go_simp
    with_reducible rfl
  rotate_left
  · simp only [Act.put, List.setIfInBounds_toArray, List.set_cons_zero, List.set_cons_succ, i64_w, i32_w]
    rfl
  refine pure_ (i := 7) (N := some 142) (v := ?_) (a' := ?_) #[true, true, true, false, false, false, false, true, false, false] rfl rfl (by kernel_rfl) (fun _ _ _ h => h) (Or.inl ⟨by rfl, ?_⟩) ?_ ?_
  rotate_left
  · intro w'
    go_simp
    with_reducible rfl
  rotate_left
  · simp only [Act.put, List.setIfInBounds_toArray, List.set_cons_zero, List.set_cons_succ, i64_w, i32_w]
    rfl
  refine take_ (i := 3) (N := some 138) (v := ?_) (a' := ?_) #[true, true, true, true, false, false, false, true, false, false] rfl rfl (by kernel_rfl) (fun _ _ _ h => h) (Or.inl ⟨by rfl, ?_⟩) hHeld ?_ ?_
  rotate_left
  · intro w' s0
    go_simp
    with_reducible rfl
  rotate_left
  · simp only [Act.put, List.setIfInBounds_toArray, List.set_cons_zero, List.set_cons_succ, i64_w, i32_w]
    rfl
  refine pure_ (i := 4) (N := some 139) (v := ?_) (a' := ?_) #[true, true, true, true, true, false, false, true, false, false] rfl rfl (by kernel_rfl) (fun _ _ _ h => h) (Or.inl ⟨by rfl, ?_⟩) ?_ ?_
  rotate_left
  · intro w'
    go_simp
    with_reducible rfl
  rotate_left
  · simp only [Act.put, List.setIfInBounds_toArray, List.set_cons_zero, List.set_cons_succ, i64_w, i32_w]
    rfl
  refine pure_ (i := 5) (N := some 140) (v := ?_) (a' := ?_) #[true, true, true, true, true, true, false, true, false, false] rfl rfl (by kernel_rfl) (fun _ _ _ h => h) (Or.inl ⟨by rfl, ?_⟩) ?_ ?_
  rotate_left
  · intro w'
    go_simp
    with_reducible rfl
  rotate_left
  · simp only [Act.put, List.setIfInBounds_toArray, List.set_cons_zero, List.set_cons_succ, i64_w, i32_w]
    rfl
  refine pure_ (i := 6) (N := some 141) (v := ?_) (a' := ?_) #[true, true, true, true, true, true, true, true, false, false] rfl rfl (by kernel_rfl) (fun _ _ _ h => h) (Or.inl ⟨by rfl, ?_⟩) ?_ ?_
  rotate_left
  · intro w'
    go_simp
    with_reducible rfl
  rotate_left
  · simp only [Act.put, List.setIfInBounds_toArray, List.set_cons_zero, List.set_cons_succ, i64_w, i32_w]
    rfl
  refine take_ (i := 8) (N := some 143) (v := ?_) (a' := ?_) #[true, true, true, true, true, true, true, true, true, false] rfl rfl (by kernel_rfl) (fun _ _ _ h => h) (Or.inl ⟨by rfl, ?_⟩) hHeld ?_ ?_
  rotate_left
  · intro w' s0
    go_simp
    with_reducible rfl
  rotate_left
  · simp only [Act.put, List.setIfInBounds_toArray, List.set_cons_zero, List.set_cons_succ, i64_w, i32_w]
    rfl
  refine one_ (i := 9) (N := some 144) #[true, true, true, true, true, true, true, true, true, true] rfl rfl (by kernel_rfl) (by decide) (fun K hK => ?_)
  refine value_ (by rfl) rfl (run_copy0 _ _ _ (.tmp 141) (.tmp 143) rfl _ _ _ rfl rfl) ?_
  clear hHeld
  refine hK.out _ _ ((blk_cell (HP.out.below HW.out) 12).trans rfl) (fun hHeld => ?_)
  clear hK K
  refine norm_ (a' := ?_) ?_ ?_
  rotate_left
  · show Act.put _ (some 144) _ = _
    simp only [Act.put, List.setIfInBounds_toArray, List.set_cons_zero, List.set_cons_succ, i64_w, i32_w]
    rfl
  refine done_ (by kernel_rfl) ?_
  clear hHeld
  have c0 : wB.cell? ⟨g, 0, none⟩ = some (.int .i64 2) := (blk_cell (HP.out.below HW.out) 0).trans rfl
  have c1 : wB.cell? ⟨g, 1, none⟩ = some (.int .i64 9) := (blk_cell (HP.out.below HW.out) 1).trans rfl
  have c2 : wB.cell? ⟨g, 2, none⟩ = some (.int .i64 0) := (blk_cell (HP.out.below HW.out) 2).trans rfl
  have c3 : wB.cell? ⟨g, 3, none⟩ = some (.int .i64 1) := (blk_cell (HP.out.below HW.out) 3).trans rfl
  have c4 : wB.cell? ⟨g, 4, none⟩ = some (.int .i64 10) := (blk_cell (HP.out.below HW.out) 4).trans rfl
  have c5 : wB.cell? ⟨g, 5, none⟩ = some (.int .i64 0) := (blk_cell (HP.out.below HW.out) 5).trans rfl
  have c6 : wB.cell? ⟨g, 6, none⟩ = some (.int .i64 80) := (blk_cell (HP.out.below HW.out) 6).trans rfl
  have c7 : wB.cell? ⟨g, 7, none⟩ = some (.int .i64 0) := (blk_cell (HP.out.below HW.out) 7).trans rfl
  have c8 : wB.cell? ⟨g, 8, none⟩ = some (.int .i64 0) := (blk_cell (HP.out.below HW.out) 8).trans rfl
  have c9 : wB.cell? ⟨g, 9, none⟩ = some (.bool false) := (blk_cell (HP.out.below HW.out) 9).trans rfl
  have c10 : wB.cell? ⟨g, 10, none⟩ = some (.int .i64 0) := (blk_cell (HP.out.below HW.out) 10).trans rfl
  have c11 : wB.cell? ⟨g, 11, none⟩ = some (.slice none 0 0) := (blk_cell (HP.out.below HW.out) 11).trans rfl
  have c12 : wB.cell? ⟨g, 12, none⟩ = some (.slice none 0 0) := (blk_cell (HP.out.below HW.out) 12).trans rfl
  go_wp2_with (first
    | (go_at_call 38; (with_reducible refine (summed0 (Kd.R_reads' HR.out).2.2 HCB.out).mono ?_); rintro e_ wC ⟨A2, cc2, rfl, hl2_, hC2_, hb_⟩; have HC2 := Aside0.mk hC2_; have HL2 := Aside0.mk hl2_; clear c0 c1 c2 c3 c4 c5 c6 c7 c8 c9 c10 c11 c12; have n0_ := Aside0.mk (below_step HW.out hb_); have n1_ := Aside0.mk (Kd.R_below HR.out hb_); clear HW HR; have HW := n0_; have HR := n1_; clear n0_ n1_; have c0 : wC.cell? ⟨g, 0, none⟩ = some (.int .i64 2) := (blk_cell (HP.out.below HW.out) 0).trans rfl; have c1 : wC.cell? ⟨g, 1, none⟩ = some (.int .i64 9) := (blk_cell (HP.out.below HW.out) 1).trans rfl; have c2 : wC.cell? ⟨g, 2, none⟩ = some (.int .i64 0) := (blk_cell (HP.out.below HW.out) 2).trans rfl; have c3 : wC.cell? ⟨g, 3, none⟩ = some (.int .i64 1) := (blk_cell (HP.out.below HW.out) 3).trans rfl; have c4 : wC.cell? ⟨g, 4, none⟩ = some (.int .i64 10) := (blk_cell (HP.out.below HW.out) 4).trans rfl; have c5 : wC.cell? ⟨g, 5, none⟩ = some (.int .i64 0) := (blk_cell (HP.out.below HW.out) 5).trans rfl; have c6 : wC.cell? ⟨g, 6, none⟩ = some (.int .i64 80) := (blk_cell (HP.out.below HW.out) 6).trans rfl; have c7 : wC.cell? ⟨g, 7, none⟩ = some (.int .i64 0) := (blk_cell (HP.out.below HW.out) 7).trans rfl; have c8 : wC.cell? ⟨g, 8, none⟩ = some (.int .i64 0) := (blk_cell (HP.out.below HW.out) 8).trans rfl; have c9 : wC.cell? ⟨g, 9, none⟩ = some (.bool false) := (blk_cell (HP.out.below HW.out) 9).trans rfl; have c10 : wC.cell? ⟨g, 10, none⟩ = some (.int .i64 0) := (blk_cell (HP.out.below HW.out) 10).trans rfl; have c11 : wC.cell? ⟨g, 11, none⟩ = some (.slice none 0 0) := (blk_cell (HP.out.below HW.out) 11).trans rfl; have c12 : wC.cell? ⟨g, 12, none⟩ = some (.slice none 0 0) := (blk_cell (HP.out.below HW.out) 12).trans rfl; clear hb_ hl2_ hC2_)
    | (go_at_call 18; (with_reducible refine (sumofB HC2.out HL2.out).mono ?_); rintro e_ wD ⟨rfl, hb_⟩; clear c0 c1 c2 c3 c4 c5 c6 c7 c8 c9 c10 c11 c12; have n0_ := Aside0.mk (below_step HW.out hb_); have n1_ := Aside0.mk (Kd.R_below HR.out hb_); clear HW HR; have HW := n0_; have HR := n1_; clear n0_ n1_; have c0 : wD.cell? ⟨g, 0, none⟩ = some (.int .i64 2) := (blk_cell (HP.out.below HW.out) 0).trans rfl; have c1 : wD.cell? ⟨g, 1, none⟩ = some (.int .i64 9) := (blk_cell (HP.out.below HW.out) 1).trans rfl; have c2 : wD.cell? ⟨g, 2, none⟩ = some (.int .i64 0) := (blk_cell (HP.out.below HW.out) 2).trans rfl; have c3 : wD.cell? ⟨g, 3, none⟩ = some (.int .i64 1) := (blk_cell (HP.out.below HW.out) 3).trans rfl; have c4 : wD.cell? ⟨g, 4, none⟩ = some (.int .i64 10) := (blk_cell (HP.out.below HW.out) 4).trans rfl; have c5 : wD.cell? ⟨g, 5, none⟩ = some (.int .i64 0) := (blk_cell (HP.out.below HW.out) 5).trans rfl; have c6 : wD.cell? ⟨g, 6, none⟩ = some (.int .i64 80) := (blk_cell (HP.out.below HW.out) 6).trans rfl; have c7 : wD.cell? ⟨g, 7, none⟩ = some (.int .i64 0) := (blk_cell (HP.out.below HW.out) 7).trans rfl; have c8 : wD.cell? ⟨g, 8, none⟩ = some (.int .i64 0) := (blk_cell (HP.out.below HW.out) 8).trans rfl; have c9 : wD.cell? ⟨g, 9, none⟩ = some (.bool false) := (blk_cell (HP.out.below HW.out) 9).trans rfl; have c10 : wD.cell? ⟨g, 10, none⟩ = some (.int .i64 0) := (blk_cell (HP.out.below HW.out) 10).trans rfl; have c11 : wD.cell? ⟨g, 11, none⟩ = some (.slice none 0 0) := (blk_cell (HP.out.below HW.out) 11).trans rfl; have c12 : wD.cell? ⟨g, 12, none⟩ = some (.slice none 0 0) := (blk_cell (HP.out.below HW.out) 12).trans rfl; clear hb_ HC2 HL2)
    | (go_at_call 39; (with_reducible refine (wire_sumPlace.calls 2 22 _ (by kernel_rfl)).mono ?_); rintro e_ wE ⟨rfl, hd_⟩; clear c0 c1 c2 c3 c4 c5 c6 c7 c8 c9 c10 c11 c12; have n0_ := Aside0.mk (below_step HW.out (drawn_below hd_)); have n1_ := Aside0.mk (Kd.R_below HR.out (drawn_below hd_)); clear HW HR; have HW := n0_; have HR := n1_; clear n0_ n1_; have c0 : wE.cell? ⟨g, 0, none⟩ = some (.int .i64 2) := (blk_cell (HP.out.below HW.out) 0).trans rfl; have c1 : wE.cell? ⟨g, 1, none⟩ = some (.int .i64 9) := (blk_cell (HP.out.below HW.out) 1).trans rfl; have c2 : wE.cell? ⟨g, 2, none⟩ = some (.int .i64 0) := (blk_cell (HP.out.below HW.out) 2).trans rfl; have c3 : wE.cell? ⟨g, 3, none⟩ = some (.int .i64 1) := (blk_cell (HP.out.below HW.out) 3).trans rfl; have c4 : wE.cell? ⟨g, 4, none⟩ = some (.int .i64 10) := (blk_cell (HP.out.below HW.out) 4).trans rfl; have c5 : wE.cell? ⟨g, 5, none⟩ = some (.int .i64 0) := (blk_cell (HP.out.below HW.out) 5).trans rfl; have c6 : wE.cell? ⟨g, 6, none⟩ = some (.int .i64 80) := (blk_cell (HP.out.below HW.out) 6).trans rfl; have c7 : wE.cell? ⟨g, 7, none⟩ = some (.int .i64 0) := (blk_cell (HP.out.below HW.out) 7).trans rfl; have c8 : wE.cell? ⟨g, 8, none⟩ = some (.int .i64 0) := (blk_cell (HP.out.below HW.out) 8).trans rfl; have c9 : wE.cell? ⟨g, 9, none⟩ = some (.bool false) := (blk_cell (HP.out.below HW.out) 9).trans rfl; have c10 : wE.cell? ⟨g, 10, none⟩ = some (.int .i64 0) := (blk_cell (HP.out.below HW.out) 10).trans rfl; have c11 : wE.cell? ⟨g, 11, none⟩ = some (.slice none 0 0) := (blk_cell (HP.out.below HW.out) 11).trans rfl; have c12 : wE.cell? ⟨g, 12, none⟩ = some (.slice none 0 0) := (blk_cell (HP.out.below HW.out) 12).trans rfl; clear hd_)
    | (go_at_call 37; (with_reducible refine (wire_put.calls 10 (fun _ => True) _ ([2, 9, 0, 24, 0, 0, 0, 1, 0, 0, 0, 10, 0, 0, 253, 211, 0, 0, 0, 80, 0, 0, 0, 0] : List Int) 22 2 65434 [2, 9, 0, 24, 0, 0, 0, 1, 0, 0, 0, 10, 0, 0, 253, 211, 0, 0, 0, 80, 0, 0, 255, 154] w2 _ HW.out HR.out (by kernel_rfl)).mono ?_); rintro e_ x17 ⟨rfl, hr_, hb_, hk_⟩; clear c0 c1 c2 c3 c4 c5 c6 c7 c8 c9 c10 c11 c12; have n0_ := Aside0.mk hb_; have n1_ : Aside0 (Kd.R (Kd.int .u8) 5 x17 w2.heap.size (fun _ => True) (.slice (some ⟨gb, 0, none⟩) 24 cb) ([2, 9, 0, 24, 0, 0, 0, 1, 0, 0, 0, 10, 0, 0, 253, 211, 0, 0, 0, 80, 0, 0, 255, 154] : List Int)) := ⟨Kd.R_mono hr_ (fun _ _ => trivial)⟩; clear hk_ hr_ hb_; clear HW HR; have HW := n0_; have HR := n1_; clear n0_ n1_; have c0 : x17.cell? ⟨g, 0, none⟩ = some (.int .i64 2) := (blk_cell (HP.out.below HW.out) 0).trans rfl; have c1 : x17.cell? ⟨g, 1, none⟩ = some (.int .i64 9) := (blk_cell (HP.out.below HW.out) 1).trans rfl; have c2 : x17.cell? ⟨g, 2, none⟩ = some (.int .i64 0) := (blk_cell (HP.out.below HW.out) 2).trans rfl; have c3 : x17.cell? ⟨g, 3, none⟩ = some (.int .i64 1) := (blk_cell (HP.out.below HW.out) 3).trans rfl; have c4 : x17.cell? ⟨g, 4, none⟩ = some (.int .i64 10) := (blk_cell (HP.out.below HW.out) 4).trans rfl; have c5 : x17.cell? ⟨g, 5, none⟩ = some (.int .i64 0) := (blk_cell (HP.out.below HW.out) 5).trans rfl; have c6 : x17.cell? ⟨g, 6, none⟩ = some (.int .i64 80) := (blk_cell (HP.out.below HW.out) 6).trans rfl; have c7 : x17.cell? ⟨g, 7, none⟩ = some (.int .i64 0) := (blk_cell (HP.out.below HW.out) 7).trans rfl; have c8 : x17.cell? ⟨g, 8, none⟩ = some (.int .i64 0) := (blk_cell (HP.out.below HW.out) 8).trans rfl; have c9 : x17.cell? ⟨g, 9, none⟩ = some (.bool false) := (blk_cell (HP.out.below HW.out) 9).trans rfl; have c10 : x17.cell? ⟨g, 10, none⟩ = some (.int .i64 0) := (blk_cell (HP.out.below HW.out) 10).trans rfl; have c11 : x17.cell? ⟨g, 11, none⟩ = some (.slice none 0 0) := (blk_cell (HP.out.below HW.out) 11).trans rfl; have c12 : x17.cell? ⟨g, 12, none⟩ = some (.slice none 0 0) := (blk_cell (HP.out.below HW.out) 12).trans rfl))
  go_ret2
  exact ⟨_, rfl, Kd.R_lower HR.out HB0.out.size, below_step HB0.out HW.out⟩
end Go.Proofs.Ytkpfojpmigchlaa.Own
