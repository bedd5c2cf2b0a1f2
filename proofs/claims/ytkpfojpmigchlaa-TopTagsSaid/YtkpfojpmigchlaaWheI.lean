/-
  The walk of roundhouseref6.bad.
-/
import Derived.Test.YtkpfojpmigchlaaWheH
namespace Go.Proofs.Ytkpfojpmigchlaa.Own
open Go Go.RowKit Go.Proofs.YtkpfojpmigchlaaW.PrintWords Go.Proofs.YtkpfojpmigchlaaW.PrintMore Go.Proofs.YtkpfojpmigchlaaW.PrintLast Go.Proofs.Ytkpfojpmigchlaa.Q
set_option linter.unusedVariables false
set_option linter.unusedSimpArgs false

section
variable {ops : Array Oper} {rest : List Oper} {o : Oper} {a : Act} {Q : Exit → Act → World → Prop} {W : World}
theorem any_box (hgd : o.guard = none) {x : Operand} {t : Nat} (ho : o.op = .box t x) {cs : Array Value} (hx : a.eval x = .agg cs)
    (h : ∀ g, g = W.heap.size → ∀ w1, Blk w1 g t cs → Below W.heap.size W w1 → wpList Try.prog ops Q rest (a.put o.dst (.pointer (some ⟨g, 0, none⟩))) w1) : wpList Try.prog ops Q (o :: rest) a W := by
  have hrun : (execOp a.eval o).run Try.prog W = .ok (.value (.pointer (some ⟨W.heap.size, 0, none⟩))) (W.alloc (.cells cs t (0, 0))) := by
    unfold execOp
    simp only [ho, hx]
    rfl
  exact Kd.event_run hgd hrun (h _ rfl _ (blk_new W _) (below_alloc (Below.refl _ _) _))
end
/-- May an entry not be done? -/
def badP (p : PL) (k s a b : Int) : Bool :=
  if k = 1 then (rd_T25 p.sl s).f0 != 0 || heldP p a b
  else if k = 2 ∨ k = 4 then (rd_T25 p.sl s).f0 != 1 && (rd_T25 p.sl s).f0 != 3
  else if k = 3 then (rd_T25 p.sl s).f0 != 2
  else if k = 5 then (rd_T25 p.sl s).f0 != 4
  else false
set_option maxHeartbeats 8000000 in
set_option maxRecDepth 100000 in
theorem bad1t (p : PL) (hp : p.sl.length = 64) (s a b c x y : Int) (h0 : 0 ≤ s) (h1 : s < 64) (hst : (rd_T25 p.sl s).f0 = 0) (w0 : World) : Calls Try.prog 55 #[.agg (pcs p), .agg #[.int .i64 1, .int .i64 s, .int .i64 a, .int .i64 b, .int .i64 c, .int .u64 x, .int .u64 y]] w0 fun e w' => e = .returned (.bool (heldP p a b)) ∧ Below w0.heap.size w0 w' := by
  have hu25 := Try.underlying25
  have hu33 := pool33
  have hu26 := slots26
  have hu49 := Try.underlying69
  have HP := Aside0.mk hp
  have h1' := eq_true h1
  have h0' := eq_true h0
  have H01 := Aside0.mk (And.intro h0 h1)
  clear hp h0 h1
  go_enter Try.func55, Try.ntmps55
  go_upto_region 1 with (first | ((with_reducible refine gate_dst (N := 2) rfl ?_); refine pl_box rfl rfl rfl ?_; intro g hg w hbox hb; have HBX := Aside0.mk hbox; have HB0 := Aside0.mk hb; clear hbox hb hg) | ((with_reducible refine gate_dst (N := 3) rfl ?_); refine any_box rfl rfl rfl ?_; intro q hq w1 hqb hb1; have HQX := Aside0.mk hqb; have HB1 := Aside0.mk hb1; have hbg := HBX.out.below hb1; clear hqb hb1 hq))
  have HB := Aside0.mk (below_step HB0.out HB1.out)
  have hsl := slots_C hbg (pcs_slots p HP.out)
  obtain ⟨ad, e1, hx0, hx1, hx2, hx3, hx4⟩ := at_T25 hsl s H01.out.1 (by rw [HP.out]; exact H01.out.2)
  cases e1
  simp only [add_in] at hx0 hx1 hx2 hx3 hx4
  have HBG := Aside0.mk hbg
  clear hbg hsl
  have he0 : w1.cell? ⟨q, 0, none⟩ = some (.int .i64 1) := (blk_cell HQX.out 0).trans rfl
  have he1 : w1.cell? ⟨q, 1, none⟩ = some (.int .i64 s) := (blk_cell HQX.out 1).trans rfl
  have he2 : w1.cell? ⟨q, 2, none⟩ = some (.int .i64 a) := (blk_cell HQX.out 2).trans rfl
  have he3 : w1.cell? ⟨q, 3, none⟩ = some (.int .i64 b) := (blk_cell HQX.out 3).trans rfl
  go_upto_region 2 with fail
  clear hu33 hu26 hx0 hx1 hx2 hx3 hx4 h0' h1'
  have hs1 : ((rd_T25 p.sl s).f0 != 0) = false := by simp [hst]
  clear hst
  go_wp2_with fail
  refine wp_ld33 (x := .tmp 2) rfl rfl HBG.out HP.out ?_
  go_wp2_with (first | (go_at_call 82; refine (held_calls p HP.out a b _).mono ?_; rintro e' w2 ⟨rfl, hb2⟩; have n_ := Aside0.mk (below_step HB.out hb2); clear HB; have HB := n_; clear n_ hb2 he0 he1 he2 he3))
  go_ret
  exact ⟨by rfl, by repeat (first | (with_reducible first | exact HB.out | apply below_alloc | apply pw_below_drewN | apply below_drew1 | refine below_set ?_ (below_size HB.out)) | exact HB.out)⟩

set_option maxHeartbeats 8000000 in
set_option maxRecDepth 100000 in
theorem bad1f (p : PL) (hp : p.sl.length = 64) (s a b c x y : Int) (h0 : 0 ≤ s) (h1 : s < 64) (hst : (rd_T25 p.sl s).f0 ≠ 0) (w0 : World) : Calls Try.prog 55 #[.agg (pcs p), .agg #[.int .i64 1, .int .i64 s, .int .i64 a, .int .i64 b, .int .i64 c, .int .u64 x, .int .u64 y]] w0 fun e w' => e = .returned (.bool (true)) ∧ Below w0.heap.size w0 w' := by
  have hu25 := Try.underlying25
  have hu33 := pool33
  have hu26 := slots26
  have hu49 := Try.underlying69
  have HP := Aside0.mk hp
  have h1' := eq_true h1
  have h0' := eq_true h0
  have H01 := Aside0.mk (And.intro h0 h1)
  clear hp h0 h1
  go_enter Try.func55, Try.ntmps55
  go_upto_region 1 with (first | ((with_reducible refine gate_dst (N := 2) rfl ?_); refine pl_box rfl rfl rfl ?_; intro g hg w hbox hb; have HBX := Aside0.mk hbox; have HB0 := Aside0.mk hb; clear hbox hb hg) | ((with_reducible refine gate_dst (N := 3) rfl ?_); refine any_box rfl rfl rfl ?_; intro q hq w1 hqb hb1; have HQX := Aside0.mk hqb; have HB1 := Aside0.mk hb1; have hbg := HBX.out.below hb1; clear hqb hb1 hq))
  have HB := Aside0.mk (below_step HB0.out HB1.out)
  have hsl := slots_C hbg (pcs_slots p HP.out)
  obtain ⟨ad, e1, hx0, hx1, hx2, hx3, hx4⟩ := at_T25 hsl s H01.out.1 (by rw [HP.out]; exact H01.out.2)
  cases e1
  simp only [add_in] at hx0 hx1 hx2 hx3 hx4
  have HBG := Aside0.mk hbg
  clear hbg hsl
  have he0 : w1.cell? ⟨q, 0, none⟩ = some (.int .i64 1) := (blk_cell HQX.out 0).trans rfl
  have he1 : w1.cell? ⟨q, 1, none⟩ = some (.int .i64 s) := (blk_cell HQX.out 1).trans rfl
  have he2 : w1.cell? ⟨q, 2, none⟩ = some (.int .i64 a) := (blk_cell HQX.out 2).trans rfl
  have he3 : w1.cell? ⟨q, 3, none⟩ = some (.int .i64 b) := (blk_cell HQX.out 3).trans rfl
  go_upto_region 2 with fail
  clear hu33 hu26 hx0 hx1 hx2 hx3 hx4 h0' h1'
  have hs1 : ((rd_T25 p.sl s).f0 != 0) = true := by simp [hst]
  clear hst
  go_wp2_with fail
  go_ret
  exact ⟨by rfl, by repeat (first | (with_reducible first | exact HB.out | apply below_alloc | apply pw_below_drewN | apply below_drew1 | refine below_set ?_ (below_size HB.out)) | exact HB.out)⟩

set_option maxHeartbeats 8000000 in
set_option maxRecDepth 100000 in
theorem bad2t (p : PL) (hp : p.sl.length = 64) (s a b c x y : Int) (h0 : 0 ≤ s) (h1 : s < 64) (hst : (rd_T25 p.sl s).f0 = 1) (w0 : World) : Calls Try.prog 55 #[.agg (pcs p), .agg #[.int .i64 2, .int .i64 s, .int .i64 a, .int .i64 b, .int .i64 c, .int .u64 x, .int .u64 y]] w0 fun e w' => e = .returned (.bool (false)) ∧ Below w0.heap.size w0 w' := by
  have hu25 := Try.underlying25
  have hu33 := pool33
  have hu26 := slots26
  have hu49 := Try.underlying69
  have HP := Aside0.mk hp
  have h1' := eq_true h1
  have h0' := eq_true h0
  have H01 := Aside0.mk (And.intro h0 h1)
  clear hp h0 h1
  go_enter Try.func55, Try.ntmps55
  go_upto_region 1 with (first | ((with_reducible refine gate_dst (N := 2) rfl ?_); refine pl_box rfl rfl rfl ?_; intro g hg w hbox hb; have HBX := Aside0.mk hbox; have HB0 := Aside0.mk hb; clear hbox hb hg) | ((with_reducible refine gate_dst (N := 3) rfl ?_); refine any_box rfl rfl rfl ?_; intro q hq w1 hqb hb1; have HQX := Aside0.mk hqb; have HB1 := Aside0.mk hb1; have hbg := HBX.out.below hb1; clear hqb hb1 hq))
  have HB := Aside0.mk (below_step HB0.out HB1.out)
  have hsl := slots_C hbg (pcs_slots p HP.out)
  obtain ⟨ad, e1, hx0, hx1, hx2, hx3, hx4⟩ := at_T25 hsl s H01.out.1 (by rw [HP.out]; exact H01.out.2)
  cases e1
  simp only [add_in] at hx0 hx1 hx2 hx3 hx4
  have HBG := Aside0.mk hbg
  clear hbg hsl
  have he0 : w1.cell? ⟨q, 0, none⟩ = some (.int .i64 2) := (blk_cell HQX.out 0).trans rfl
  have he1 : w1.cell? ⟨q, 1, none⟩ = some (.int .i64 s) := (blk_cell HQX.out 1).trans rfl
  have he2 : w1.cell? ⟨q, 2, none⟩ = some (.int .i64 a) := (blk_cell HQX.out 2).trans rfl
  have he3 : w1.cell? ⟨q, 3, none⟩ = some (.int .i64 b) := (blk_cell HQX.out 3).trans rfl
  go_upto_region 2 with fail
  clear hu33 hu26 hx0 hx1 hx2 hx3 hx4 h0' h1'
  have hs1 : ((rd_T25 p.sl s).f0 != 1) = false := by simp [hst]
  clear hst
  go_wp2_with fail
  go_ret
  exact ⟨by rfl, by repeat (first | (with_reducible first | exact HB.out | apply below_alloc | apply pw_below_drewN | apply below_drew1 | refine below_set ?_ (below_size HB.out)) | exact HB.out)⟩

set_option maxHeartbeats 8000000 in
set_option maxRecDepth 100000 in
theorem bad2f (p : PL) (hp : p.sl.length = 64) (s a b c x y : Int) (h0 : 0 ≤ s) (h1 : s < 64) (hst : (rd_T25 p.sl s).f0 ≠ 1) (w0 : World) : Calls Try.prog 55 #[.agg (pcs p), .agg #[.int .i64 2, .int .i64 s, .int .i64 a, .int .i64 b, .int .i64 c, .int .u64 x, .int .u64 y]] w0 fun e w' => e = .returned (.bool ((rd_T25 p.sl s).f0 != 3)) ∧ Below w0.heap.size w0 w' := by
  have hu25 := Try.underlying25
  have hu33 := pool33
  have hu26 := slots26
  have hu49 := Try.underlying69
  have HP := Aside0.mk hp
  have h1' := eq_true h1
  have h0' := eq_true h0
  have H01 := Aside0.mk (And.intro h0 h1)
  clear hp h0 h1
  go_enter Try.func55, Try.ntmps55
  go_upto_region 1 with (first | ((with_reducible refine gate_dst (N := 2) rfl ?_); refine pl_box rfl rfl rfl ?_; intro g hg w hbox hb; have HBX := Aside0.mk hbox; have HB0 := Aside0.mk hb; clear hbox hb hg) | ((with_reducible refine gate_dst (N := 3) rfl ?_); refine any_box rfl rfl rfl ?_; intro q hq w1 hqb hb1; have HQX := Aside0.mk hqb; have HB1 := Aside0.mk hb1; have hbg := HBX.out.below hb1; clear hqb hb1 hq))
  have HB := Aside0.mk (below_step HB0.out HB1.out)
  have hsl := slots_C hbg (pcs_slots p HP.out)
  obtain ⟨ad, e1, hx0, hx1, hx2, hx3, hx4⟩ := at_T25 hsl s H01.out.1 (by rw [HP.out]; exact H01.out.2)
  cases e1
  simp only [add_in] at hx0 hx1 hx2 hx3 hx4
  have HBG := Aside0.mk hbg
  clear hbg hsl
  have he0 : w1.cell? ⟨q, 0, none⟩ = some (.int .i64 2) := (blk_cell HQX.out 0).trans rfl
  have he1 : w1.cell? ⟨q, 1, none⟩ = some (.int .i64 s) := (blk_cell HQX.out 1).trans rfl
  have he2 : w1.cell? ⟨q, 2, none⟩ = some (.int .i64 a) := (blk_cell HQX.out 2).trans rfl
  have he3 : w1.cell? ⟨q, 3, none⟩ = some (.int .i64 b) := (blk_cell HQX.out 3).trans rfl
  go_upto_region 2 with fail
  clear hu33 hu26 hx0 hx1 hx2 hx3 hx4 h0' h1'
  have hs1 : ((rd_T25 p.sl s).f0 != 1) = true := by simp [hst]
  clear hst
  go_wp2_with fail
  go_ret
  exact ⟨by rfl, by repeat (first | (with_reducible first | exact HB.out | apply below_alloc | apply pw_below_drewN | apply below_drew1 | refine below_set ?_ (below_size HB.out)) | exact HB.out)⟩

set_option maxHeartbeats 8000000 in
set_option maxRecDepth 100000 in
theorem bad4t (p : PL) (hp : p.sl.length = 64) (s a b c x y : Int) (h0 : 0 ≤ s) (h1 : s < 64) (hst : (rd_T25 p.sl s).f0 = 1) (w0 : World) : Calls Try.prog 55 #[.agg (pcs p), .agg #[.int .i64 4, .int .i64 s, .int .i64 a, .int .i64 b, .int .i64 c, .int .u64 x, .int .u64 y]] w0 fun e w' => e = .returned (.bool (false)) ∧ Below w0.heap.size w0 w' := by
  have hu25 := Try.underlying25
  have hu33 := pool33
  have hu26 := slots26
  have hu49 := Try.underlying69
  have HP := Aside0.mk hp
  have h1' := eq_true h1
  have h0' := eq_true h0
  have H01 := Aside0.mk (And.intro h0 h1)
  clear hp h0 h1
  go_enter Try.func55, Try.ntmps55
  go_upto_region 1 with (first | ((with_reducible refine gate_dst (N := 2) rfl ?_); refine pl_box rfl rfl rfl ?_; intro g hg w hbox hb; have HBX := Aside0.mk hbox; have HB0 := Aside0.mk hb; clear hbox hb hg) | ((with_reducible refine gate_dst (N := 3) rfl ?_); refine any_box rfl rfl rfl ?_; intro q hq w1 hqb hb1; have HQX := Aside0.mk hqb; have HB1 := Aside0.mk hb1; have hbg := HBX.out.below hb1; clear hqb hb1 hq))
  have HB := Aside0.mk (below_step HB0.out HB1.out)
  have hsl := slots_C hbg (pcs_slots p HP.out)
  obtain ⟨ad, e1, hx0, hx1, hx2, hx3, hx4⟩ := at_T25 hsl s H01.out.1 (by rw [HP.out]; exact H01.out.2)
  cases e1
  simp only [add_in] at hx0 hx1 hx2 hx3 hx4
  have HBG := Aside0.mk hbg
  clear hbg hsl
  have he0 : w1.cell? ⟨q, 0, none⟩ = some (.int .i64 4) := (blk_cell HQX.out 0).trans rfl
  have he1 : w1.cell? ⟨q, 1, none⟩ = some (.int .i64 s) := (blk_cell HQX.out 1).trans rfl
  have he2 : w1.cell? ⟨q, 2, none⟩ = some (.int .i64 a) := (blk_cell HQX.out 2).trans rfl
  have he3 : w1.cell? ⟨q, 3, none⟩ = some (.int .i64 b) := (blk_cell HQX.out 3).trans rfl
  go_upto_region 2 with fail
  clear hu33 hu26 hx0 hx1 hx2 hx3 hx4 h0' h1'
  have hs1 : ((rd_T25 p.sl s).f0 != 1) = false := by simp [hst]
  clear hst
  go_wp2_with fail
  go_ret
  exact ⟨by rfl, by repeat (first | (with_reducible first | exact HB.out | apply below_alloc | apply pw_below_drewN | apply below_drew1 | refine below_set ?_ (below_size HB.out)) | exact HB.out)⟩

set_option maxHeartbeats 8000000 in
set_option maxRecDepth 100000 in
theorem bad4f (p : PL) (hp : p.sl.length = 64) (s a b c x y : Int) (h0 : 0 ≤ s) (h1 : s < 64) (hst : (rd_T25 p.sl s).f0 ≠ 1) (w0 : World) : Calls Try.prog 55 #[.agg (pcs p), .agg #[.int .i64 4, .int .i64 s, .int .i64 a, .int .i64 b, .int .i64 c, .int .u64 x, .int .u64 y]] w0 fun e w' => e = .returned (.bool ((rd_T25 p.sl s).f0 != 3)) ∧ Below w0.heap.size w0 w' := by
  have hu25 := Try.underlying25
  have hu33 := pool33
  have hu26 := slots26
  have hu49 := Try.underlying69
  have HP := Aside0.mk hp
  have h1' := eq_true h1
  have h0' := eq_true h0
  have H01 := Aside0.mk (And.intro h0 h1)
  clear hp h0 h1
  go_enter Try.func55, Try.ntmps55
  go_upto_region 1 with (first | ((with_reducible refine gate_dst (N := 2) rfl ?_); refine pl_box rfl rfl rfl ?_; intro g hg w hbox hb; have HBX := Aside0.mk hbox; have HB0 := Aside0.mk hb; clear hbox hb hg) | ((with_reducible refine gate_dst (N := 3) rfl ?_); refine any_box rfl rfl rfl ?_; intro q hq w1 hqb hb1; have HQX := Aside0.mk hqb; have HB1 := Aside0.mk hb1; have hbg := HBX.out.below hb1; clear hqb hb1 hq))
  have HB := Aside0.mk (below_step HB0.out HB1.out)
  have hsl := slots_C hbg (pcs_slots p HP.out)
  obtain ⟨ad, e1, hx0, hx1, hx2, hx3, hx4⟩ := at_T25 hsl s H01.out.1 (by rw [HP.out]; exact H01.out.2)
  cases e1
  simp only [add_in] at hx0 hx1 hx2 hx3 hx4
  have HBG := Aside0.mk hbg
  clear hbg hsl
  have he0 : w1.cell? ⟨q, 0, none⟩ = some (.int .i64 4) := (blk_cell HQX.out 0).trans rfl
  have he1 : w1.cell? ⟨q, 1, none⟩ = some (.int .i64 s) := (blk_cell HQX.out 1).trans rfl
  have he2 : w1.cell? ⟨q, 2, none⟩ = some (.int .i64 a) := (blk_cell HQX.out 2).trans rfl
  have he3 : w1.cell? ⟨q, 3, none⟩ = some (.int .i64 b) := (blk_cell HQX.out 3).trans rfl
  go_upto_region 2 with fail
  clear hu33 hu26 hx0 hx1 hx2 hx3 hx4 h0' h1'
  have hs1 : ((rd_T25 p.sl s).f0 != 1) = true := by simp [hst]
  clear hst
  go_wp2_with fail
  go_ret
  exact ⟨by rfl, by repeat (first | (with_reducible first | exact HB.out | apply below_alloc | apply pw_below_drewN | apply below_drew1 | refine below_set ?_ (below_size HB.out)) | exact HB.out)⟩

set_option maxHeartbeats 8000000 in
set_option maxRecDepth 100000 in
theorem bad3 (p : PL) (hp : p.sl.length = 64) (s a b c x y : Int) (h0 : 0 ≤ s) (h1 : s < 64)  (w0 : World) : Calls Try.prog 55 #[.agg (pcs p), .agg #[.int .i64 3, .int .i64 s, .int .i64 a, .int .i64 b, .int .i64 c, .int .u64 x, .int .u64 y]] w0 fun e w' => e = .returned (.bool ((rd_T25 p.sl s).f0 != 2)) ∧ Below w0.heap.size w0 w' := by
  have hu25 := Try.underlying25
  have hu33 := pool33
  have hu26 := slots26
  have hu49 := Try.underlying69
  have HP := Aside0.mk hp
  have h1' := eq_true h1
  have h0' := eq_true h0
  have H01 := Aside0.mk (And.intro h0 h1)
  clear hp h0 h1
  go_enter Try.func55, Try.ntmps55
  go_upto_region 1 with (first | ((with_reducible refine gate_dst (N := 2) rfl ?_); refine pl_box rfl rfl rfl ?_; intro g hg w hbox hb; have HBX := Aside0.mk hbox; have HB0 := Aside0.mk hb; clear hbox hb hg) | ((with_reducible refine gate_dst (N := 3) rfl ?_); refine any_box rfl rfl rfl ?_; intro q hq w1 hqb hb1; have HQX := Aside0.mk hqb; have HB1 := Aside0.mk hb1; have hbg := HBX.out.below hb1; clear hqb hb1 hq))
  have HB := Aside0.mk (below_step HB0.out HB1.out)
  have hsl := slots_C hbg (pcs_slots p HP.out)
  obtain ⟨ad, e1, hx0, hx1, hx2, hx3, hx4⟩ := at_T25 hsl s H01.out.1 (by rw [HP.out]; exact H01.out.2)
  cases e1
  simp only [add_in] at hx0 hx1 hx2 hx3 hx4
  have HBG := Aside0.mk hbg
  clear hbg hsl
  have he0 : w1.cell? ⟨q, 0, none⟩ = some (.int .i64 3) := (blk_cell HQX.out 0).trans rfl
  have he1 : w1.cell? ⟨q, 1, none⟩ = some (.int .i64 s) := (blk_cell HQX.out 1).trans rfl
  have he2 : w1.cell? ⟨q, 2, none⟩ = some (.int .i64 a) := (blk_cell HQX.out 2).trans rfl
  have he3 : w1.cell? ⟨q, 3, none⟩ = some (.int .i64 b) := (blk_cell HQX.out 3).trans rfl
  go_upto_region 2 with fail
  clear hu33 hu26 hx0 hx1 hx2 hx3 hx4 h0' h1'
  go_wp2_with fail
  go_ret
  exact ⟨by rfl, by repeat (first | (with_reducible first | exact HB.out | apply below_alloc | apply pw_below_drewN | apply below_drew1 | refine below_set ?_ (below_size HB.out)) | exact HB.out)⟩

set_option maxHeartbeats 8000000 in
set_option maxRecDepth 100000 in
theorem bad5 (p : PL) (hp : p.sl.length = 64) (s a b c x y : Int) (h0 : 0 ≤ s) (h1 : s < 64)  (w0 : World) : Calls Try.prog 55 #[.agg (pcs p), .agg #[.int .i64 5, .int .i64 s, .int .i64 a, .int .i64 b, .int .i64 c, .int .u64 x, .int .u64 y]] w0 fun e w' => e = .returned (.bool ((rd_T25 p.sl s).f0 != 4)) ∧ Below w0.heap.size w0 w' := by
  have hu25 := Try.underlying25
  have hu33 := pool33
  have hu26 := slots26
  have hu49 := Try.underlying69
  have HP := Aside0.mk hp
  have h1' := eq_true h1
  have h0' := eq_true h0
  have H01 := Aside0.mk (And.intro h0 h1)
  clear hp h0 h1
  go_enter Try.func55, Try.ntmps55
  go_upto_region 1 with (first | ((with_reducible refine gate_dst (N := 2) rfl ?_); refine pl_box rfl rfl rfl ?_; intro g hg w hbox hb; have HBX := Aside0.mk hbox; have HB0 := Aside0.mk hb; clear hbox hb hg) | ((with_reducible refine gate_dst (N := 3) rfl ?_); refine any_box rfl rfl rfl ?_; intro q hq w1 hqb hb1; have HQX := Aside0.mk hqb; have HB1 := Aside0.mk hb1; have hbg := HBX.out.below hb1; clear hqb hb1 hq))
  have HB := Aside0.mk (below_step HB0.out HB1.out)
  have hsl := slots_C hbg (pcs_slots p HP.out)
  obtain ⟨ad, e1, hx0, hx1, hx2, hx3, hx4⟩ := at_T25 hsl s H01.out.1 (by rw [HP.out]; exact H01.out.2)
  cases e1
  simp only [add_in] at hx0 hx1 hx2 hx3 hx4
  have HBG := Aside0.mk hbg
  clear hbg hsl
  have he0 : w1.cell? ⟨q, 0, none⟩ = some (.int .i64 5) := (blk_cell HQX.out 0).trans rfl
  have he1 : w1.cell? ⟨q, 1, none⟩ = some (.int .i64 s) := (blk_cell HQX.out 1).trans rfl
  have he2 : w1.cell? ⟨q, 2, none⟩ = some (.int .i64 a) := (blk_cell HQX.out 2).trans rfl
  have he3 : w1.cell? ⟨q, 3, none⟩ = some (.int .i64 b) := (blk_cell HQX.out 3).trans rfl
  go_upto_region 2 with fail
  clear hu33 hu26 hx0 hx1 hx2 hx3 hx4 h0' h1'
  go_wp2_with fail
  go_ret
  exact ⟨by rfl, by repeat (first | (with_reducible first | exact HB.out | apply below_alloc | apply pw_below_drewN | apply below_drew1 | refine below_set ?_ (below_size HB.out)) | exact HB.out)⟩

set_option maxHeartbeats 8000000 in
set_option maxRecDepth 100000 in
theorem bad6 (p : PL) (hp : p.sl.length = 64) (s a b c x y : Int) (h0 : 0 ≤ s) (h1 : s < 64)  (w0 : World) : Calls Try.prog 55 #[.agg (pcs p), .agg #[.int .i64 6, .int .i64 s, .int .i64 a, .int .i64 b, .int .i64 c, .int .u64 x, .int .u64 y]] w0 fun e w' => e = .returned (.bool (false)) ∧ Below w0.heap.size w0 w' := by
  have hu25 := Try.underlying25
  have hu33 := pool33
  have hu26 := slots26
  have hu49 := Try.underlying69
  have HP := Aside0.mk hp
  have h1' := eq_true h1
  have h0' := eq_true h0
  have H01 := Aside0.mk (And.intro h0 h1)
  clear hp h0 h1
  go_enter Try.func55, Try.ntmps55
  go_upto_region 1 with (first | ((with_reducible refine gate_dst (N := 2) rfl ?_); refine pl_box rfl rfl rfl ?_; intro g hg w hbox hb; have HBX := Aside0.mk hbox; have HB0 := Aside0.mk hb; clear hbox hb hg) | ((with_reducible refine gate_dst (N := 3) rfl ?_); refine any_box rfl rfl rfl ?_; intro q hq w1 hqb hb1; have HQX := Aside0.mk hqb; have HB1 := Aside0.mk hb1; have hbg := HBX.out.below hb1; clear hqb hb1 hq))
  have HB := Aside0.mk (below_step HB0.out HB1.out)
  have hsl := slots_C hbg (pcs_slots p HP.out)
  obtain ⟨ad, e1, hx0, hx1, hx2, hx3, hx4⟩ := at_T25 hsl s H01.out.1 (by rw [HP.out]; exact H01.out.2)
  cases e1
  simp only [add_in] at hx0 hx1 hx2 hx3 hx4
  have HBG := Aside0.mk hbg
  clear hbg hsl
  have he0 : w1.cell? ⟨q, 0, none⟩ = some (.int .i64 6) := (blk_cell HQX.out 0).trans rfl
  have he1 : w1.cell? ⟨q, 1, none⟩ = some (.int .i64 s) := (blk_cell HQX.out 1).trans rfl
  have he2 : w1.cell? ⟨q, 2, none⟩ = some (.int .i64 a) := (blk_cell HQX.out 2).trans rfl
  have he3 : w1.cell? ⟨q, 3, none⟩ = some (.int .i64 b) := (blk_cell HQX.out 3).trans rfl
  go_upto_region 2 with fail
  clear hu33 hu26 hx0 hx1 hx2 hx3 hx4 h0' h1'
  go_wp2_with fail
  go_ret
  exact ⟨by rfl, by repeat (first | (with_reducible first | exact HB.out | apply below_alloc | apply pw_below_drewN | apply below_drew1 | refine below_set ?_ (below_size HB.out)) | exact HB.out)⟩

theorem bad_calls (p : PL) (hp : p.sl.length = 64) (k s a b c x y : Int) (hk : 1 ≤ k ∧ k ≤ 6) (h0 : 0 ≤ s) (h1 : s < 64) (w0 : World) : Calls Try.prog 55 #[.agg (pcs p), .agg #[.int .i64 k, .int .i64 s, .int .i64 a, .int .i64 b, .int .i64 c, .int .u64 x, .int .u64 y]] w0 fun e w' => e = .returned (.bool (badP p k s a b)) ∧ Below w0.heap.size w0 w' := by
  have hk' : k = 1 ∨ k = 2 ∨ k = 3 ∨ k = 4 ∨ k = 5 ∨ k = 6 := by omega
  have nt : ∀ x y : Int, x ≠ y → (x != y) = true := fun x y h => bne_iff_ne.2 h
  rcases hk' with rfl | rfl | rfl | rfl | rfl | rfl
  · by_cases hst : (rd_T25 p.sl s).f0 = 0
    · rw [show badP p 1 s a b = heldP p a b from by simp [badP, hst]]; exact bad1t p hp s a b c x y h0 h1 hst w0
    · rw [show badP p 1 s a b = true from by simp [badP, hst]]; exact bad1f p hp s a b c x y h0 h1 hst w0
  · by_cases hst : (rd_T25 p.sl s).f0 = 1
    · rw [show badP p 2 s a b = false from by simp [badP, hst]]; exact bad2t p hp s a b c x y h0 h1 hst w0
    · rw [show badP p 2 s a b = ((rd_T25 p.sl s).f0 != 3) from by simp [badP, nt _ _ hst]]; exact bad2f p hp s a b c x y h0 h1 hst w0
  · exact bad3 p hp s a b c x y h0 h1 w0
  · by_cases hst : (rd_T25 p.sl s).f0 = 1
    · rw [show badP p 4 s a b = false from by simp [badP, hst]]; exact bad4t p hp s a b c x y h0 h1 hst w0
    · rw [show badP p 4 s a b = ((rd_T25 p.sl s).f0 != 3) from by simp [badP, nt _ _ hst]]; exact bad4f p hp s a b c x y h0 h1 hst w0
  · exact bad5 p hp s a b c x y h0 h1 w0
  · exact bad6 p hp s a b c x y h0 h1 w0
end Go.Proofs.Ytkpfojpmigchlaa.Own
