/-
  The walks of roundhouseref5.Ring, roundhouseref6.New.
-/
import Derived.Test.YtkpfojpmigchlaaWheK
import Derived.Test.YtkpfojpmigchlaaCookK
namespace Go.Proofs.Ytkpfojpmigchlaa.Own
open Go Go.RowKit Go.Proofs.YtkpfojpmigchlaaW.PrintWords Go.Proofs.YtkpfojpmigchlaaW.PrintMore Go.Proofs.YtkpfojpmigchlaaW.PrintLast Go.Proofs.Ytkpfojpmigchlaa.Q
set_option linter.unusedVariables false
set_option linter.unusedSimpArgs false

set_option maxHeartbeats 4000000 in
theorem ring_calls (q : Int) (A : Option Addr) (c : Nat) (l : List S29) (w : World) (hr : Kd.C k29 w A l.length l) (hc : l.length ≤ c) : Calls Try.prog 53 #[.int .i64 q, .slice A l.length c] w
    fun e' w' => e' = .returned (.agg #[.int .i64 q, .int .u64 (l.getD 0 z29).f0, .int .u64 (l.getD 0 z29).f1, .int .u64 (l.getD 1 z29).f0, .int .u64 (l.getD 1 z29).f1, .int .u64 (l.getD 2 z29).f0, .int .u64 (l.getD 2 z29).f1]) ∧ Below w.heap.size w w' := by
  have HR := Aside0.mk hr
  have HM := Aside0.mk hr.2.1
  clear hr
  go_enter Try.func53, Try.ntmps53
  go_wp2
  go_loopw [6] (fun v6 wr => ∃ k : Nat, k ≤ 3 ∧ k ≤ l.length ∧ v6 = .int .i64 k ∧ Aside0 (Below w.heap.size w wr) ∧ Aside0 (wr.heap[w.heap.size]? = some (.cells #[.int .i64 0, .int .u64 0, .int .u64 0, .int .u64 0, .int .u64 0, .int .u64 0, .int .u64 0] 31 (0, 0))) ∧ Aside0 (wr.heap[w.heap.size + 1]? = some (.cells (keyCells l k) 76 (0, 0)))) (fun v6 _ => 3 - (intOf v6).toNat)
  case atStart => exact ⟨0, by omega, by omega, rfl, ⟨below_alloc (below_alloc (Below.refl _ _) _) _⟩, ⟨blk_alloc (heap_alloc_new _ _) _⟩, ⟨heap2 _ _ _⟩⟩
  case round =>
    obtain ⟨k, hk3, hkl, rfl, HB, BR, BK⟩ := hrel
    have hm := HM.out
    by_cases hlt : k < l.length
    · by_cases h3 : k < 3
      · obtain ⟨ad, rfl, h0, h1⟩ := at_T29 (Kd.C_below HR.out HB.out) k (by omega) (by omega)
        rw [Int.toNat_natCast] at h0 h1
        obtain ⟨x, hx⟩ : ∃ x : S29, x = l.getD k z29 := ⟨_, rfl⟩
        have e : rd_T29 l k = x := by rw [hx]; simp [rd_T29]
        rw [e] at h0 h1
        have HX := Aside0.mk hx
        clear hx e
        have c0 : wr.cell? ⟨w.heap.size + 1, k * 2, none⟩ = some (.int .u64 0) := (blk_cell BK.out _).trans (by rcases (show k = 0 ∨ k = 1 ∨ k = 2 by omega) with rfl | rfl | rfl <;> rfl)
        have c1 : wr.cell? ⟨w.heap.size + 1, k * 2 + 1, none⟩ = some (.int .u64 0) := (blk_cell BK.out _).trans (by rcases (show k = 0 ∨ k = 1 ∨ k = 2 by omega) with rfl | rfl | rfl <;> rfl)
        have f0 := blk_frozen BK.out (k * 2)
        have f1 := blk_frozen BK.out (k * 2 + 1)
        go_wp2
        go_roundw
        case rel => exact ⟨k + 1, by omega, by omega, by go_num, ⟨by repeat (first | exact HB.out | (refine below_set ?_ (Nat.le_add_right _ _)))⟩, ⟨blk_far (blk_far BR.out (by simp) _) (by simp) _⟩, ⟨blk_put (blk_put BK.out (k * 2) _ rfl) (k * 2 + 1) _ (keyStep l k x HX.out h3)⟩⟩
        case measure => simp [intOf]; omega
      · obtain rfl : k = 3 := by omega
        obtain ⟨y0, b0, H0⟩ : ∃ y : Int, wr.cell? ⟨w.heap.size + 1, 0, none⟩ = some (.int .u64 y) ∧ Aside0 (y = (l.getD 0 z29).f0) := ⟨_, blk_cell BK.out 0, ⟨congrArg S29.f0 (keyIn_three l 0 (by decide))⟩⟩
        obtain ⟨y1, b1, H1⟩ : ∃ y : Int, wr.cell? ⟨w.heap.size + 1, 1, none⟩ = some (.int .u64 y) ∧ Aside0 (y = (l.getD 0 z29).f1) := ⟨_, blk_cell BK.out 1, ⟨congrArg S29.f1 (keyIn_three l 0 (by decide))⟩⟩
        obtain ⟨y2, b2, H2⟩ : ∃ y : Int, wr.cell? ⟨w.heap.size + 1, 2, none⟩ = some (.int .u64 y) ∧ Aside0 (y = (l.getD 1 z29).f0) := ⟨_, blk_cell BK.out 2, ⟨congrArg S29.f0 (keyIn_three l 1 (by decide))⟩⟩
        obtain ⟨y3, b3, H3⟩ : ∃ y : Int, wr.cell? ⟨w.heap.size + 1, 3, none⟩ = some (.int .u64 y) ∧ Aside0 (y = (l.getD 1 z29).f1) := ⟨_, blk_cell BK.out 3, ⟨congrArg S29.f1 (keyIn_three l 1 (by decide))⟩⟩
        obtain ⟨y4, b4, H4⟩ : ∃ y : Int, wr.cell? ⟨w.heap.size + 1, 4, none⟩ = some (.int .u64 y) ∧ Aside0 (y = (l.getD 2 z29).f0) := ⟨_, blk_cell BK.out 4, ⟨congrArg S29.f0 (keyIn_three l 2 (by decide))⟩⟩
        obtain ⟨y5, b5, H5⟩ : ∃ y : Int, wr.cell? ⟨w.heap.size + 1, 5, none⟩ = some (.int .u64 y) ∧ Aside0 (y = (l.getD 2 z29).f1) := ⟨_, blk_cell BK.out 5, ⟨congrArg S29.f1 (keyIn_three l 2 (by decide))⟩⟩
        have z0 := (blk_cell BR.out 0).trans rfl; have g0 := blk_frozen BR.out 0; have z1 := (blk_cell BR.out 1).trans rfl; have g1 := blk_frozen BR.out 1; have z2 := (blk_cell BR.out 2).trans rfl; have g2 := blk_frozen BR.out 2; have z3 := (blk_cell BR.out 3).trans rfl; have g3 := blk_frozen BR.out 3; have z4 := (blk_cell BR.out 4).trans rfl; have g4 := blk_frozen BR.out 4; have z5 := (blk_cell BR.out 5).trans rfl; have g5 := blk_frozen BR.out 5; have z6 := (blk_cell BR.out 6).trans rfl; have g6 := blk_frozen BR.out 6
        go_wp2
        refine bodyPost_ret (results_cell_row rfl _ _ w.heap.size 31 #[.int .i64 q, .int .u64 y0, .int .u64 y1, .int .u64 y2, .int .u64 y3, .int .u64 y4, .int .u64 y5] (0, 0) _ rfl (by refine blk_put (cs := #[.int .i64 q, .int .u64 y0, .int .u64 y1, .int .u64 y2, .int .u64 y3, .int .u64 y4, .int .u64 0]) ?_ 6 _ rfl; refine blk_put (cs := #[.int .i64 q, .int .u64 y0, .int .u64 y1, .int .u64 y2, .int .u64 y3, .int .u64 0, .int .u64 0]) ?_ 5 _ rfl; refine blk_put (cs := #[.int .i64 q, .int .u64 y0, .int .u64 y1, .int .u64 y2, .int .u64 0, .int .u64 0, .int .u64 0]) ?_ 4 _ rfl; refine blk_put (cs := #[.int .i64 q, .int .u64 y0, .int .u64 y1, .int .u64 0, .int .u64 0, .int .u64 0, .int .u64 0]) ?_ 3 _ rfl; refine blk_put (cs := #[.int .i64 q, .int .u64 y0, .int .u64 0, .int .u64 0, .int .u64 0, .int .u64 0, .int .u64 0]) ?_ 2 _ rfl; refine blk_put (cs := #[.int .i64 q, .int .u64 0, .int .u64 0, .int .u64 0, .int .u64 0, .int .u64 0, .int .u64 0]) ?_ 1 _ rfl; refine blk_put (cs := #[.int .i64 0, .int .u64 0, .int .u64 0, .int .u64 0, .int .u64 0, .int .u64 0, .int .u64 0]) ?_ 0 _ rfl; exact BR.out) Try.underlying31 rfl (by kernel_rfl)) rfl ?_
        exact ⟨by rw [H0.out, H1.out, H2.out, H3.out, H4.out, H5.out], by with_reducible repeat (first | (refine below_set ?_ (Nat.le_refl _)) | exact HB.out)⟩
    · obtain rfl : k = l.length := by omega
      obtain ⟨y0, b0, H0⟩ : ∃ y : Int, wr.cell? ⟨w.heap.size + 1, 0, none⟩ = some (.int .u64 y) ∧ Aside0 (y = (l.getD 0 z29).f0) := ⟨_, blk_cell BK.out 0, ⟨congrArg S29.f0 (keyIn_len l 0)⟩⟩
      obtain ⟨y1, b1, H1⟩ : ∃ y : Int, wr.cell? ⟨w.heap.size + 1, 1, none⟩ = some (.int .u64 y) ∧ Aside0 (y = (l.getD 0 z29).f1) := ⟨_, blk_cell BK.out 1, ⟨congrArg S29.f1 (keyIn_len l 0)⟩⟩
      obtain ⟨y2, b2, H2⟩ : ∃ y : Int, wr.cell? ⟨w.heap.size + 1, 2, none⟩ = some (.int .u64 y) ∧ Aside0 (y = (l.getD 1 z29).f0) := ⟨_, blk_cell BK.out 2, ⟨congrArg S29.f0 (keyIn_len l 1)⟩⟩
      obtain ⟨y3, b3, H3⟩ : ∃ y : Int, wr.cell? ⟨w.heap.size + 1, 3, none⟩ = some (.int .u64 y) ∧ Aside0 (y = (l.getD 1 z29).f1) := ⟨_, blk_cell BK.out 3, ⟨congrArg S29.f1 (keyIn_len l 1)⟩⟩
      obtain ⟨y4, b4, H4⟩ : ∃ y : Int, wr.cell? ⟨w.heap.size + 1, 4, none⟩ = some (.int .u64 y) ∧ Aside0 (y = (l.getD 2 z29).f0) := ⟨_, blk_cell BK.out 4, ⟨congrArg S29.f0 (keyIn_len l 2)⟩⟩
      obtain ⟨y5, b5, H5⟩ : ∃ y : Int, wr.cell? ⟨w.heap.size + 1, 5, none⟩ = some (.int .u64 y) ∧ Aside0 (y = (l.getD 2 z29).f1) := ⟨_, blk_cell BK.out 5, ⟨congrArg S29.f1 (keyIn_len l 2)⟩⟩
      have z0 := (blk_cell BR.out 0).trans rfl; have g0 := blk_frozen BR.out 0; have z1 := (blk_cell BR.out 1).trans rfl; have g1 := blk_frozen BR.out 1; have z2 := (blk_cell BR.out 2).trans rfl; have g2 := blk_frozen BR.out 2; have z3 := (blk_cell BR.out 3).trans rfl; have g3 := blk_frozen BR.out 3; have z4 := (blk_cell BR.out 4).trans rfl; have g4 := blk_frozen BR.out 4; have z5 := (blk_cell BR.out 5).trans rfl; have g5 := blk_frozen BR.out 5; have z6 := (blk_cell BR.out 6).trans rfl; have g6 := blk_frozen BR.out 6
      go_wp2
      refine bodyPost_ret (results_cell_row rfl _ _ w.heap.size 31 #[.int .i64 q, .int .u64 y0, .int .u64 y1, .int .u64 y2, .int .u64 y3, .int .u64 y4, .int .u64 y5] (0, 0) _ rfl (by refine blk_put (cs := #[.int .i64 q, .int .u64 y0, .int .u64 y1, .int .u64 y2, .int .u64 y3, .int .u64 y4, .int .u64 0]) ?_ 6 _ rfl; refine blk_put (cs := #[.int .i64 q, .int .u64 y0, .int .u64 y1, .int .u64 y2, .int .u64 y3, .int .u64 0, .int .u64 0]) ?_ 5 _ rfl; refine blk_put (cs := #[.int .i64 q, .int .u64 y0, .int .u64 y1, .int .u64 y2, .int .u64 0, .int .u64 0, .int .u64 0]) ?_ 4 _ rfl; refine blk_put (cs := #[.int .i64 q, .int .u64 y0, .int .u64 y1, .int .u64 0, .int .u64 0, .int .u64 0, .int .u64 0]) ?_ 3 _ rfl; refine blk_put (cs := #[.int .i64 q, .int .u64 y0, .int .u64 0, .int .u64 0, .int .u64 0, .int .u64 0, .int .u64 0]) ?_ 2 _ rfl; refine blk_put (cs := #[.int .i64 q, .int .u64 0, .int .u64 0, .int .u64 0, .int .u64 0, .int .u64 0, .int .u64 0]) ?_ 1 _ rfl; refine blk_put (cs := #[.int .i64 0, .int .u64 0, .int .u64 0, .int .u64 0, .int .u64 0, .int .u64 0, .int .u64 0]) ?_ 0 _ rfl; exact BR.out) Try.underlying31 rfl (by kernel_rfl)) rfl ?_
      exact ⟨by rw [H0.out, H1.out, H2.out, H3.out, H4.out, H5.out], by with_reducible repeat (first | (refine below_set ?_ (Nat.le_refl _)) | exact HB.out)⟩

/-- Three keys in a row. -/
theorem keys_C {W : World} {g T : Nat} {fr : Nat × Nat} {a b c d e f : Int} (h : W.heap[g]? = some (.cells #[.int .u64 a, .int .u64 b, .int .u64 c, .int .u64 d, .int .u64 e, .int .u64 f] T fr)) : Kd.C k29 W (some ⟨g, 0, none⟩) [(⟨a, b⟩ : S29), ⟨c, d⟩, ⟨e, f⟩].length [(⟨a, b⟩ : S29), ⟨c, d⟩, ⟨e, f⟩] := by
  refine ⟨rfl, by simp, fun _ => ⟨_, rfl, fun j p hj => ⟨[.int .u64 p.f0, .int .u64 p.f1], rfl, k29_mk W p, fun i u hu => ?_⟩⟩⟩
  rw [add_in]
  simp only [World.cell?, h]
  have hi : i < 2 := (List.getElem?_eq_some_iff.1 hu).1
  have hj3 : j < 3 := (List.getElem?_eq_some_iff.1 hj).1
  rcases (show j = 0 ∨ j = 1 ∨ j = 2 by omega) with rfl | rfl | rfl <;> rcases (show i = 0 ∨ i = 1 by omega) with rfl | rfl <;> (injection hj with hj; subst hj; exact hu)
def newP (a b k1 k2 k3 k4 : Int) : PL := ⟨0, a, b, List.replicate 64 z25, 1, 0, 0, k1, k2, k3, k4⟩
theorem newP_len (a b k1 k2 k3 k4 : Int) : (newP a b k1 k2 k3 k4).sl.length = 64 := by simp [newP]
theorem run_new (ev : Operand → Value) (o : Oper) (w : World) (a b q x1 x2 x3 x4 x5 x6 : Int) (ho : o.op = .build 33 #[(1, .tmp 17), (2, .tmp 18), (4, .tmp 23)]) (h1 : ev (.tmp 17) = .int .i64 a) (h2 : ev (.tmp 18) = .int .i64 b) (h3 : ev (.tmp 23) = .agg #[.int .i64 q, .int .u64 x1, .int .u64 x2, .int .u64 x3, .int .u64 x4, .int .u64 x5, .int .u64 x6]) :
    (execOp ev o).run Try.prog w = .ok (.value (.agg (pcs ⟨0, a, b, List.replicate 64 z25, q, x1, x2, x3, x4, x5, x6⟩))) w := by
  cases o with
  | mk dst op ty pos after guard =>
    obtain rfl : op = _ := ho
    have e : (#[(1, Operand.tmp 17), (2, Operand.tmp 18), (4, Operand.tmp 23)].map fun (i, x) => (i, ev x)) = #[(1, .int .i64 a), (2, .int .i64 b), (4, .agg #[.int .i64 q, .int .u64 x1, .int .u64 x2, .int .u64 x3, .int .u64 x4, .int .u64 x5, .int .u64 x6])] := by
      simp [h1, h2, h3]
    have key : (Instr.build 33 #[(1, .int .i64 a), (2, .int .i64 b), (4, .agg #[.int .i64 q, .int .u64 x1, .int .u64 x2, .int .u64 x3, .int .u64 x4, .int .u64 x5, .int .u64 x6])]).run Try.prog w = .ok (.agg (pcs ⟨0, a, b, List.replicate 64 z25, q, x1, x2, x3, x4, x5, x6⟩)) w := by kernel_rfl
    unfold execOp
    simp only [e, Sem.run_bind, Sem.run_pure, Result.andThen_ok, key]

/-- Two keys' blocks, the answer's. -/
structure NS (w0 : World) (g q r : Nat) (P E R : Array Value) (w : World) : Prop where
  hg : Blk w g 29 P
  hq : Blk w q 29 E
  hr : Blk w r 33 R
  below : Below w0.heap.size w0 w
  ge : w0.heap.size ≤ r
theorem NS.by_below {w0 : World} {g q r : Nat} {P E R : Array Value} {w w' : World} (h : NS w0 g q r P E R w) (hb : Below w.heap.size w w') : NS w0 g q r P E R w' :=
  ⟨h.hg.below hb, h.hq.below hb, h.hr.below hb, below_step h.below hb, h.ge⟩
theorem NS.make {w0 w1 w2 w3 : World} {g q r : Nat} {P E R : Array Value} (hb1 : Blk w1 g 29 P) (hB1 : Below w0.heap.size w0 w1) (hb2 : Blk w2 q 29 E) (hB2 : Below w1.heap.size w1 w2) (hr : r = w2.heap.size) (hb3 : Blk w3 r 33 R) (hB3 : Below w2.heap.size w2 w3) : NS w0 g q r P E R w3 := by
  have h3 := hB1.size
  have h4 := hB2.size
  exact ⟨(hb1.below hB2).below hB3, hb2.below hB3, hb3, below_step (below_step hB1 hB2) hB3, by omega⟩

set_option maxHeartbeats 8000000 in
set_option maxRecDepth 100000 in
theorem new_calls (a b k1 k2 k3 k4 : Int) (ha : outB a 0 4294967295 = false) (hb : outB b 0 65535 = false) (w0 : World) : Calls Try.prog 20 #[.int .i64 a, .int .i64 b, .agg #[.int .u64 k1, .int .u64 k2], .agg #[.int .u64 k3, .int .u64 k4]] w0 fun e w' => e = .returned (.tuple #[.agg (pcs (newP a b k1 k2 k3 k4)), .int .i64 0]) ∧ Below w0.heap.size w0 w' := by
  have hu29 := Try.underlying29
  have hu31 := Try.underlying31
  have hu76 := Try.underlying113
  have HA := Aside0.mk ha
  have HBB := Aside0.mk hb
  clear ha hb
  go_enter Try.func20, Try.ntmps20
  go_upto_region 1 with (first | ((with_reducible refine gate_dst (N := 6) rfl ?_); refine any_box rfl rfl rfl ?_; intro g hg w1 hb1 hB1; have G2 := Aside0.mk hb1; have G3 := Aside0.mk hB1; clear hg hb1 hB1) | ((with_reducible refine gate_dst (N := 7) rfl ?_); refine any_box rfl rfl rfl ?_; intro q hq w2 hb2 hB2; have G5 := Aside0.mk hb2; have G6 := Aside0.mk hB2; clear hq hb2 hB2) | ((with_reducible refine gate_dst (N := 8) rfl ?_); refine pl_alloc (N := 8) rfl rfl rfl ?_; intro r hr w3 hb3 hB3; have G7 := Aside0.mk hr; have G8 := Aside0.mk hb3; have G9 := Aside0.mk hB3; clear hr hb3 hB3))
  have H := Aside0.mk (NS.make G2.out G3.out G5.out G6.out G7.out G8.out G9.out)
  clear G2 G3 G5 G6 G7 G8 G9
  go_upto_region 3 with (first | (go_at_call 52; refine Calls.mono (by first | with_reducible exact (out_calls _ _ _ false HA.out _) | with_reducible exact (out_calls _ _ _ false HBB.out _)) ?_; rintro e_ w4 ⟨rfl, hd⟩; have n_ := Aside0.mk (H.out.by_below (w' := w4) (by obtain ⟨n_, rfl⟩ := hd; exact pw_below_drewN (Below.refl _ _) n_)); clear H hd; have H := n_; clear n_))
  have c0 : w4.cell? ⟨g, 0, none⟩ = some (.int .u64 k1) := (blk_cell H.out.hg 0).trans rfl
  have c1 : w4.cell? ⟨g, 1, none⟩ = some (.int .u64 k2) := (blk_cell H.out.hg 1).trans rfl
  have c2 : w4.cell? ⟨q, 0, none⟩ = some (.int .u64 k3) := (blk_cell H.out.hq 0).trans rfl
  have c3 : w4.cell? ⟨q, 1, none⟩ = some (.int .u64 k4) := (blk_cell H.out.hq 1).trans rfl
  go_wp2_with (first
    | (go_at_call 53; refine (ring_calls 1 _ 3 [(⟨0, 0⟩ : S29), ⟨k1, k2⟩, ⟨k3, k4⟩] _ (keys_C (heap_alloc_new _ _)) (by simp)).mono ?_; rintro e_ w5 ⟨rfl, hb_⟩; have n_ := Aside0.mk ((H.out.by_below (below_alloc (Below.refl _ _) _)).by_below hb_); clear H hb_ c0 c1 c2 c3; have H := n_; clear n_)
    | ((with_reducible refine gate_dst (N := 24) rfl ?_); refine Kd.event_run rfl (run_new _ _ _ a b 1 0 0 k1 k2 k3 k4 rfl rfl rfl rfl) ?_)
    | ((with_reducible refine gate_store (t := 33) (p := 8) rfl ?_); refine pl_store (p := newP a b k1 k2 k3 k4) rfl rfl (.tmp 8) (.tmp 24) rfl rfl rfl H.out.hr (pcs_size _ zeroP_len) (newP_len _ _ _ _ _ _) ?_; intro w9 hb_ hg_; have HR := Aside0.mk hb_; have n_ := Aside0.mk (H.out.below.grown hg_ (below_size H.out.below) (fun k hk => by injection hk with hk; subst hk; exact H.out.ge)); clear H hb_ hg_; have HB := n_; clear n_))
  refine bodyPost_ret (results_ct rfl _ _ r 33 (pcs (newP a b k1 k2 k3 k4)) (0, 0) _ rfl HR.out pool33 rfl (size33 _ (newP_len _ _ _ _ _ _))) rfl ?_
  exact ⟨rfl, HB.out⟩
end Go.Proofs.Ytkpfojpmigchlaa.Own
