/-
  The walks of roundhouseref5.Ring, roundhouseref6.New.
-/
import Derived.Test.YtnffajpnffibaaaWheK
import Derived.Test.YtnffajpnffibaaaQ6
namespace Go.Proofs.Ytnffajpnffibaaa.Own
open Go Go.RowKit Go.Proofs.YtnffajpnffibaaaW.PrintWords Go.Proofs.YtnffajpnffibaaaW.PrintMore Go.Proofs.YtnffajpnffibaaaW.PrintLast Go.Proofs.Ytnffajpnffibaaa.Q
set_option linter.unusedVariables false
set_option linter.unusedSimpArgs false

theorem heap2 (w : World) (o1 o2 : Obj) : ((w.alloc o1).alloc o2).heap[w.heap.size + 1]? = some o2 := by
  have h := heap_alloc_new (w.alloc o1) o2
  rwa [show (w.alloc o1).heap.size = w.heap.size + 1 from by simp] at h
/-- The keys of three epochs, of some. -/
def keyIn (l : List S29) (k j : Nat) : S29 := if j < k then l.getD j z29 else z29
def keyCells (l : List S29) (k : Nat) : Array Value := #[.int .u64 (keyIn l k 0).f0, .int .u64 (keyIn l k 0).f1, .int .u64 (keyIn l k 1).f0, .int .u64 (keyIn l k 1).f1, .int .u64 (keyIn l k 2).f0, .int .u64 (keyIn l k 2).f1]
theorem keyStep (l : List S29) (k : Nat) (x : S29) (hx : x = l.getD k z29) (h : k < 3) : (((keyCells l k).setIfInBounds (k * 2) (.int .u64 x.f0)).setIfInBounds (k * 2 + 1) (.int .u64 x.f1)) = keyCells l (k + 1) := by
  subst hx
  rcases (show k = 0 ∨ k = 1 ∨ k = 2 by omega) with rfl | rfl | rfl <;> rfl
theorem keyIn_three (l : List S29) (j : Nat) (h : j < 3) : keyIn l 3 j = l.getD j z29 := if_pos h
theorem keyIn_len (l : List S29) (j : Nat) : keyIn l l.length j = l.getD j z29 := by
  unfold keyIn
  split
  · rfl
  · rw [List.getD_eq_getElem?_getD, List.getElem?_eq_none (by omega)]
    rfl
set_option maxHeartbeats 4000000 in
theorem ring_calls (q : Int) (A : Option Addr) (c : Nat) (l : List S29) (w : World) (hr : Kd.C k29 w A l.length l) (hc : l.length ≤ c) : Calls Try.prog 38 #[.int .i64 q, .slice A l.length c] w
    fun e' w' => e' = .returned (.agg #[.int .i64 q, .int .u64 (l.getD 0 z29).f0, .int .u64 (l.getD 0 z29).f1, .int .u64 (l.getD 1 z29).f0, .int .u64 (l.getD 1 z29).f1, .int .u64 (l.getD 2 z29).f0, .int .u64 (l.getD 2 z29).f1]) ∧ Below w.heap.size w w' := by
  have HR := Aside0.mk hr
  have HM := Aside0.mk hr.2.1
  clear hr
  go_enter Try.func38, Try.ntmps38
  go_wp2
  go_loopw [6] (fun v6 wr => ∃ k : Nat, k ≤ 3 ∧ k ≤ l.length ∧ v6 = .int .i64 k ∧ Aside0 (Below w.heap.size w wr) ∧ Aside0 (wr.heap[w.heap.size]? = some (.cells #[.int .i64 0, .int .u64 0, .int .u64 0, .int .u64 0, .int .u64 0, .int .u64 0, .int .u64 0] 31 (0, 0))) ∧ Aside0 (wr.heap[w.heap.size + 1]? = some (.cells (keyCells l k) 84 (0, 0)))) (fun v6 _ => 3 - (intOf v6).toNat)
  case atStart => exact ⟨0, by omega, by omega, rfl, ⟨below_alloc (below_alloc (Below.refl _ _) _) _⟩, ⟨blk_alloc (heap_alloc_new _ _) _⟩, ⟨heap2 _ _ _⟩⟩
  case round =>
    obtain ⟨k, hk3, hkl, rfl, HB, BR, BK⟩ := hrel
    have hm := HM.out
    by_cases hlt : k < l.length
    · by_cases h3 : k < 3
      · obtain ⟨ad, rfl, h0, h1⟩ := at_T29 (Kd.C_below HR.out HB.out) k (by omega) (by omega)
        rw [Int.toNat_natCast] at h0 h1
        obtain ⟨x, hx⟩ : ∃ x : S29, x = l.getD k z29 := ⟨_, rfl⟩
        have e : rd_T29 l k = x := by rw [hx]; simp [rd_T29]
        rw [e] at h0 h1
        have HX := Aside0.mk hx
        clear hx e
        have c0 : wr.cell? ⟨w.heap.size + 1, k * 2, none⟩ = some (.int .u64 0) := (blk_cell BK.out _).trans (by rcases (show k = 0 ∨ k = 1 ∨ k = 2 by omega) with rfl | rfl | rfl <;> rfl)
        have c1 : wr.cell? ⟨w.heap.size + 1, k * 2 + 1, none⟩ = some (.int .u64 0) := (blk_cell BK.out _).trans (by rcases (show k = 0 ∨ k = 1 ∨ k = 2 by omega) with rfl | rfl | rfl <;> rfl)
        have f0 := blk_frozen BK.out (k * 2)
        have f1 := blk_frozen BK.out (k * 2 + 1)
        go_wp2
        go_roundw
        case rel => exact ⟨k + 1, by omega, by omega, by go_num, ⟨by repeat (first | exact HB.out | (refine below_set ?_ (Nat.le_add_right _ _)))⟩, ⟨blk_far (blk_far BR.out (by simp) _) (by simp) _⟩, ⟨blk_put (blk_put BK.out (k * 2) _ rfl) (k * 2 + 1) _ (keyStep l k x HX.out h3)⟩⟩
        case measure => simp [intOf]; omega
      · obtain rfl : k = 3 := by omega
        obtain ⟨y0, b0, H0⟩ : ∃ y : Int, wr.cell? ⟨w.heap.size + 1, 0, none⟩ = some (.int .u64 y) ∧ Aside0 (y = (l.getD 0 z29).f0) := ⟨_, blk_cell BK.out 0, ⟨congrArg S29.f0 (keyIn_three l 0 (by decide))⟩⟩
        obtain ⟨y1, b1, H1⟩ : ∃ y : Int, wr.cell? ⟨w.heap.size + 1, 1, none⟩ = some (.int .u64 y) ∧ Aside0 (y = (l.getD 0 z29).f1) := ⟨_, blk_cell BK.out 1, ⟨congrArg S29.f1 (keyIn_three l 0 (by decide))⟩⟩
        obtain ⟨y2, b2, H2⟩ : ∃ y : Int, wr.cell? ⟨w.heap.size + 1, 2, none⟩ = some (.int .u64 y) ∧ Aside0 (y = (l.getD 1 z29).f0) := ⟨_, blk_cell BK.out 2, ⟨congrArg S29.f0 (keyIn_three l 1 (by decide))⟩⟩
        obtain ⟨y3, b3, H3⟩ : ∃ y : Int, wr.cell? ⟨w.heap.size + 1, 3, none⟩ = some (.int .u64 y) ∧ Aside0 (y = (l.getD 1 z29).f1) := ⟨_, blk_cell BK.out 3, ⟨congrArg S29.f1 (keyIn_three l 1 (by decide))⟩⟩
        obtain ⟨y4, b4, H4⟩ : ∃ y : Int, wr.cell? ⟨w.heap.size + 1, 4, none⟩ = some (.int .u64 y) ∧ Aside0 (y = (l.getD 2 z29).f0) := ⟨_, blk_cell BK.out 4, ⟨congrArg S29.f0 (keyIn_three l 2 (by decide))⟩⟩
        obtain ⟨y5, b5, H5⟩ : ∃ y : Int, wr.cell? ⟨w.heap.size + 1, 5, none⟩ = some (.int .u64 y) ∧ Aside0 (y = (l.getD 2 z29).f1) := ⟨_, blk_cell BK.out 5, ⟨congrArg S29.f1 (keyIn_three l 2 (by decide))⟩⟩
        have z0 := (blk_cell BR.out 0).trans rfl; have g0 := blk_frozen BR.out 0; have z1 := (blk_cell BR.out 1).trans rfl; have g1 := blk_frozen BR.out 1; have z2 := (blk_cell BR.out 2).trans rfl; have g2 := blk_frozen BR.out 2; have z3 := (blk_cell BR.out 3).trans rfl; have g3 := blk_frozen BR.out 3; have z4 := (blk_cell BR.out 4).trans rfl; have g4 := blk_frozen BR.out 4; have z5 := (blk_cell BR.out 5).trans rfl; have g5 := blk_frozen BR.out 5; have z6 := (blk_cell BR.out 6).trans rfl; have g6 := blk_frozen BR.out 6
        go_wp2
        refine bodyPost_ret (results_cell_row rfl _ _ w.heap.size 31 #[.int .i64 q, .int .u64 y0, .int .u64 y1, .int .u64 y2, .int .u64 y3, .int .u64 y4, .int .u64 y5] (0, 0) _ rfl (by refine blk_put (cs := #[.int .i64 q, .int .u64 y0, .int .u64 y1, .int .u64 y2, .int .u64 y3, .int .u64 y4, .int .u64 0]) ?_ 6 _ rfl; refine blk_put (cs := #[.int .i64 q, .int .u64 y0, .int .u64 y1, .int .u64 y2, .int .u64 y3, .int .u64 0, .int .u64 0]) ?_ 5 _ rfl; refine blk_put (cs := #[.int .i64 q, .int .u64 y0, .int .u64 y1, .int .u64 y2, .int .u64 0, .int .u64 0, .int .u64 0]) ?_ 4 _ rfl; refine blk_put (cs := #[.int .i64 q, .int .u64 y0, .int .u64 y1, .int .u64 0, .int .u64 0, .int .u64 0, .int .u64 0]) ?_ 3 _ rfl; refine blk_put (cs := #[.int .i64 q, .int .u64 y0, .int .u64 0, .int .u64 0, .int .u64 0, .int .u64 0, .int .u64 0]) ?_ 2 _ rfl; refine blk_put (cs := #[.int .i64 q, .int .u64 0, .int .u64 0, .int .u64 0, .int .u64 0, .int .u64 0, .int .u64 0]) ?_ 1 _ rfl; refine blk_put (cs := #[.int .i64 0, .int .u64 0, .int .u64 0, .int .u64 0, .int .u64 0, .int .u64 0, .int .u64 0]) ?_ 0 _ rfl; exact BR.out) Try.underlying31 rfl (by kernel_rfl)) rfl ?_
        exact ⟨by rw [H0.out, H1.out, H2.out, H3.out, H4.out, H5.out], by with_reducible repeat (first | (refine below_set ?_ (Nat.le_refl _)) | exact HB.out)⟩
    · obtain rfl : k = l.length := by omega
      obtain ⟨y0, b0, H0⟩ : ∃ y : Int, wr.cell? ⟨w.heap.size + 1, 0, none⟩ = some (.int .u64 y) ∧ Aside0 (y = (l.getD 0 z29).f0) := ⟨_, blk_cell BK.out 0, ⟨congrArg S29.f0 (keyIn_len l 0)⟩⟩
      obtain ⟨y1, b1, H1⟩ : ∃ y : Int, wr.cell? ⟨w.heap.size + 1, 1, none⟩ = some (.int .u64 y) ∧ Aside0 (y = (l.getD 0 z29).f1) := ⟨_, blk_cell BK.out 1, ⟨congrArg S29.f1 (keyIn_len l 0)⟩⟩
      obtain ⟨y2, b2, H2⟩ : ∃ y : Int, wr.cell? ⟨w.heap.size + 1, 2, none⟩ = some (.int .u64 y) ∧ Aside0 (y = (l.getD 1 z29).f0) := ⟨_, blk_cell BK.out 2, ⟨congrArg S29.f0 (keyIn_len l 1)⟩⟩
      obtain ⟨y3, b3, H3⟩ : ∃ y : Int, wr.cell? ⟨w.heap.size + 1, 3, none⟩ = some (.int .u64 y) ∧ Aside0 (y = (l.getD 1 z29).f1) := ⟨_, blk_cell BK.out 3, ⟨congrArg S29.f1 (keyIn_len l 1)⟩⟩
      obtain ⟨y4, b4, H4⟩ : ∃ y : Int, wr.cell? ⟨w.heap.size + 1, 4, none⟩ = some (.int .u64 y) ∧ Aside0 (y = (l.getD 2 z29).f0) := ⟨_, blk_cell BK.out 4, ⟨congrArg S29.f0 (keyIn_len l 2)⟩⟩
      obtain ⟨y5, b5, H5⟩ : ∃ y : Int, wr.cell? ⟨w.heap.size + 1, 5, none⟩ = some (.int .u64 y) ∧ Aside0 (y = (l.getD 2 z29).f1) := ⟨_, blk_cell BK.out 5, ⟨congrArg S29.f1 (keyIn_len l 2)⟩⟩
      have z0 := (blk_cell BR.out 0).trans rfl; have g0 := blk_frozen BR.out 0; have z1 := (blk_cell BR.out 1).trans rfl; have g1 := blk_frozen BR.out 1; have z2 := (blk_cell BR.out 2).trans rfl; have g2 := blk_frozen BR.out 2; have z3 := (blk_cell BR.out 3).trans rfl; have g3 := blk_frozen BR.out 3; have z4 := (blk_cell BR.out 4).trans rfl; have g4 := blk_frozen BR.out 4; have z5 := (blk_cell BR.out 5).trans rfl; have g5 := blk_frozen BR.out 5; have z6 := (blk_cell BR.out 6).trans rfl; have g6 := blk_frozen BR.out 6
      go_wp2
      refine bodyPost_ret (results_cell_row rfl _ _ w.heap.size 31 #[.int .i64 q, .int .u64 y0, .int .u64 y1, .int .u64 y2, .int .u64 y3, .int .u64 y4, .int .u64 y5] (0, 0) _ rfl (by refine blk_put (cs := #[.int .i64 q, .int .u64 y0, .int .u64 y1, .int .u64 y2, .int .u64 y3, .int .u64 y4, .int .u64 0]) ?_ 6 _ rfl; refine blk_put (cs := #[.int .i64 q, .int .u64 y0, .int .u64 y1, .int .u64 y2, .int .u64 y3, .int .u64 0, .int .u64 0]) ?_ 5 _ rfl; refine blk_put (cs := #[.int .i64 q, .int .u64 y0, .int .u64 y1, .int .u64 y2, .int .u64 0, .int .u64 0, .int .u64 0]) ?_ 4 _ rfl; refine blk_put (cs := #[.int .i64 q, .int .u64 y0, .int .u64 y1, .int .u64 0, .int .u64 0, .int .u64 0, .int .u64 0]) ?_ 3 _ rfl; refine blk_put (cs := #[.int .i64 q, .int .u64 y0, .int .u64 0, .int .u64 0, .int .u64 0, .int .u64 0, .int .u64 0]) ?_ 2 _ rfl; refine blk_put (cs := #[.int .i64 q, .int .u64 0, .int .u64 0, .int .u64 0, .int .u64 0, .int .u64 0, .int .u64 0]) ?_ 1 _ rfl; refine blk_put (cs := #[.int .i64 0, .int .u64 0, .int .u64 0, .int .u64 0, .int .u64 0, .int .u64 0, .int .u64 0]) ?_ 0 _ rfl; exact BR.out) Try.underlying31 rfl (by kernel_rfl)) rfl ?_
      exact ⟨by rw [H0.out, H1.out, H2.out, H3.out, H4.out, H5.out], by with_reducible repeat (first | (refine below_set ?_ (Nat.le_refl _)) | exact HB.out)⟩

/-- Three keys in a row. -/
theorem keys_C {W : World} {g T : Nat} {fr : Nat × Nat} {a b c d e f : Int} (h : W.heap[g]? = some (.cells #[.int .u64 a, .int .u64 b, .int .u64 c, .int .u64 d, .int .u64 e, .int .u64 f] T fr)) : Kd.C k29 W (some ⟨g, 0, none⟩) [(⟨a, b⟩ : S29), ⟨c, d⟩, ⟨e, f⟩].length [(⟨a, b⟩ : S29), ⟨c, d⟩, ⟨e, f⟩] := by
  refine ⟨rfl, by simp, fun _ => ⟨_, rfl, fun j p hj => ⟨[.int .u64 p.f0, .int .u64 p.f1], rfl, k29_mk W p, fun i u hu => ?_⟩⟩⟩
  rw [add_in]
  simp only [World.cell?, h]
  have hi : i < 2 := (List.getElem?_eq_some_iff.1 hu).1
  have hj3 : j < 3 := (List.getElem?_eq_some_iff.1 hj).1
  rcases (show j = 0 ∨ j = 1 ∨ j = 2 by omega) with rfl | rfl | rfl <;> rcases (show i = 0 ∨ i = 1 by omega) with rfl | rfl <;> (injection hj with hj; subst hj; exact hu)
def newP (a b k1 k2 k3 k4 : Int) : PL := ⟨0, a, b, List.replicate 64 z25, 1, 0, 0, k1, k2, k3, k4⟩
theorem newP_len (a b k1 k2 k3 k4 : Int) : (newP a b k1 k2 k3 k4).sl.length = 64 := by simp [newP]
theorem run_new (ev : Operand → Value) (o : Oper) (w : World) (a b q x1 x2 x3 x4 x5 x6 : Int) (ho : o.op = .build 33 #[(1, .tmp 17), (2, .tmp 18), (4, .tmp 23)]) (h1 : ev (.tmp 17) = .int .i64 a) (h2 : ev (.tmp 18) = .int .i64 b) (h3 : ev (.tmp 23) = .agg #[.int .i64 q, .int .u64 x1, .int .u64 x2, .int .u64 x3, .int .u64 x4, .int .u64 x5, .int .u64 x6]) :
    (execOp ev o).run Try.prog w = .ok (.value (.agg (pcs ⟨0, a, b, List.replicate 64 z25, q, x1, x2, x3, x4, x5, x6⟩))) w := by
  cases o with
  | mk dst op ty pos after guard =>
    obtain rfl : op = _ := ho
    have e : (#[(1, Operand.tmp 17), (2, Operand.tmp 18), (4, Operand.tmp 23)].map fun (i, x) => (i, ev x)) = #[(1, .int .i64 a), (2, .int .i64 b), (4, .agg #[.int .i64 q, .int .u64 x1, .int .u64 x2, .int .u64 x3, .int .u64 x4, .int .u64 x5, .int .u64 x6])] := by
      simp [h1, h2, h3]
    have key : (Instr.build 33 #[(1, .int .i64 a), (2, .int .i64 b), (4, .agg #[.int .i64 q, .int .u64 x1, .int .u64 x2, .int .u64 x3, .int .u64 x4, .int .u64 x5, .int .u64 x6])]).run Try.prog w = .ok (.agg (pcs ⟨0, a, b, List.replicate 64 z25, q, x1, x2, x3, x4, x5, x6⟩)) w := by kernel_rfl
    unfold execOp
    simp only [e, Sem.run_bind, Sem.run_pure, Result.andThen_ok, key]

/-- Two keys' blocks, the answer's. -/
structure NS (w0 : World) (g q r : Nat) (P E R : Array Value) (w : World) : Prop where
  hg : Blk w g 29 P
  hq : Blk w q 29 E
  hr : Blk w r 33 R
  below : Below w0.heap.size w0 w
  ge : w0.heap.size ≤ r
theorem NS.by_below {w0 : World} {g q r : Nat} {P E R : Array Value} {w w' : World} (h : NS w0 g q r P E R w) (hb : Below w.heap.size w w') : NS w0 g q r P E R w' :=
  ⟨h.hg.below hb, h.hq.below hb, h.hr.below hb, below_step h.below hb, h.ge⟩
theorem NS.make {w0 w1 w2 w3 : World} {g q r : Nat} {P E R : Array Value} (hb1 : Blk w1 g 29 P) (hB1 : Below w0.heap.size w0 w1) (hb2 : Blk w2 q 29 E) (hB2 : Below w1.heap.size w1 w2) (hr : r = w2.heap.size) (hb3 : Blk w3 r 33 R) (hB3 : Below w2.heap.size w2 w3) : NS w0 g q r P E R w3 := by
  have h3 := hB1.size
  have h4 := hB2.size
  exact ⟨(hb1.below hB2).below hB3, hb2.below hB3, hb3, below_step (below_step hB1 hB2) hB3, by omega⟩

set_option maxHeartbeats 8000000 in
set_option maxRecDepth 100000 in
theorem new_calls (a b k1 k2 k3 k4 : Int) (ha : outB a 0 4294967295 = false) (hb : outB b 0 65535 = false) (w0 : World) : Calls Try.prog 28 #[.int .i64 a, .int .i64 b, .agg #[.int .u64 k1, .int .u64 k2], .agg #[.int .u64 k3, .int .u64 k4]] w0 fun e w' => e = .returned (.tuple #[.agg (pcs (newP a b k1 k2 k3 k4)), .int .i64 0]) ∧ Below w0.heap.size w0 w' := by
  have hu29 := Try.underlying29
  have hu31 := Try.underlying31
  have hu76 := Try.underlying76
  have HA := Aside0.mk ha
  have HBB := Aside0.mk hb
  clear ha hb
  go_enter Try.func28, Try.ntmps28
  go_upto_region 1 with (first | ((with_reducible refine gate_dst (N := 6) rfl ?_); refine any_box rfl rfl rfl ?_; intro g hg w1 hb1 hB1; have G2 := Aside0.mk hb1; have G3 := Aside0.mk hB1; clear hg hb1 hB1) | ((with_reducible refine gate_dst (N := 7) rfl ?_); refine any_box rfl rfl rfl ?_; intro q hq w2 hb2 hB2; have G5 := Aside0.mk hb2; have G6 := Aside0.mk hB2; clear hq hb2 hB2) | ((with_reducible refine gate_dst (N := 8) rfl ?_); refine pl_alloc (N := 8) rfl rfl rfl ?_; intro r hr w3 hb3 hB3; have G7 := Aside0.mk hr; have G8 := Aside0.mk hb3; have G9 := Aside0.mk hB3; clear hr hb3 hB3))
  have H := Aside0.mk (NS.make G2.out G3.out G5.out G6.out G7.out G8.out G9.out)
  clear G2 G3 G5 G6 G7 G8 G9
  go_upto_region 3 with (first | (go_at_call 37; refine Calls.mono (by first | with_reducible exact (out_calls _ _ _ false HA.out _) | with_reducible exact (out_calls _ _ _ false HBB.out _)) ?_; rintro e_ w4 ⟨rfl, hd⟩; have n_ := Aside0.mk (H.out.by_below (w' := w4) (by obtain ⟨n_, rfl⟩ := hd; exact pw_below_drewN (Below.refl _ _) n_)); clear H hd; have H := n_; clear n_))
  have c0 : w4.cell? ⟨g, 0, none⟩ = some (.int .u64 k1) := (blk_cell H.out.hg 0).trans rfl
  have c1 : w4.cell? ⟨g, 1, none⟩ = some (.int .u64 k2) := (blk_cell H.out.hg 1).trans rfl
  have c2 : w4.cell? ⟨q, 0, none⟩ = some (.int .u64 k3) := (blk_cell H.out.hq 0).trans rfl
  have c3 : w4.cell? ⟨q, 1, none⟩ = some (.int .u64 k4) := (blk_cell H.out.hq 1).trans rfl
  go_wp2_with (first
    | (go_at_call 38; refine (ring_calls 1 _ 3 [(⟨0, 0⟩ : S29), ⟨k1, k2⟩, ⟨k3, k4⟩] _ (keys_C (heap_alloc_new _ _)) (by simp)).mono ?_; rintro e_ w5 ⟨rfl, hb_⟩; have n_ := Aside0.mk ((H.out.by_below (below_alloc (Below.refl _ _) _)).by_below hb_); clear H hb_ c0 c1 c2 c3; have H := n_; clear n_)
    | ((with_reducible refine gate_dst (N := 24) rfl ?_); refine Kd.event_run rfl (run_new _ _ _ a b 1 0 0 k1 k2 k3 k4 rfl rfl rfl rfl) ?_)
    | ((with_reducible refine gate_store (t := 33) (p := 8) rfl ?_); refine pl_store (p := newP a b k1 k2 k3 k4) rfl rfl (.tmp 8) (.tmp 24) rfl rfl rfl H.out.hr (pcs_size _ zeroP_len) (newP_len _ _ _ _ _ _) ?_; intro w9 hb_ hg_; have HR := Aside0.mk hb_; have n_ := Aside0.mk (H.out.below.grown hg_ (below_size H.out.below) (fun k hk => by injection hk with hk; subst hk; exact H.out.ge)); clear H hb_ hg_; have HB := n_; clear n_))
  refine bodyPost_ret (results_ct rfl _ _ r 33 (pcs (newP a b k1 k2 k3 k4)) (0, 0) _ rfl HR.out pool33 rfl (size33 _ (newP_len _ _ _ _ _ _))) rfl ?_
  exact ⟨rfl, HB.out⟩
end Go.Proofs.Ytnffajpnffibaaa.Own
namespace Go.Proofs.Ytnffajpnffibaaa.Own
open Go Go.RowKit Go.Proofs.YtnffajpnffibaaaW.PrintWords Go.Proofs.YtnffajpnffibaaaW.PrintMore Go.Proofs.YtnffajpnffibaaaW.PrintLast Go.Proofs.Ytnffajpnffibaaa.Q
set_option linter.unusedVariables false
set_option linter.unusedSimpArgs false

/-- An entry. -/
structure EN where
  k : Int
  s : Int
  a : Int
  b : Int
  c : Int
  x : Int
  y : Int
def ecl (e : EN) : List Value := [.int .i64 e.k, .int .i64 e.s, .int .i64 e.a, .int .i64 e.b, .int .i64 e.c, .int .u64 e.x, .int .u64 e.y]
def enl (l : List EN) : List Value := l.flatMap ecl
def ens (l : List EN) : Array Value := (enl l).toArray
def WFE (e : EN) : Prop := WF e.k e.s e.a e.b e.c e.x e.y
def apE (p : PL) (e : EN) : PL × Int := applyP p e.k e.s e.a e.b e.c e.x e.y
theorem apE_len (p : PL) (e : EN) (h : p.sl.length = 64) : (apE p e).1.sl.length = 64 := applyP_len _ _ _ _ _ _ _ _ h
theorem apE_calls (p : PL) (hp : p.sl.length = 64) (e : EN) (hwf : WFE e) (w0 : World) : Calls Try.prog 24 #[.agg (pcs p), .agg #[.int .i64 e.k, .int .i64 e.s, .int .i64 e.a, .int .i64 e.b, .int .i64 e.c, .int .u64 e.x, .int .u64 e.y]] w0 fun r w' => r = .returned (.tuple #[.agg (pcs (apE p e).1), .int .i64 (apE p e).2]) ∧ Below w0.heap.size w0 w' :=
  apply_calls p hp _ _ _ _ _ _ _ hwf w0
/-- Entries, one behind the other. -/
def allP : PL → List EN → Int → PL × Int × Int
  | p, [], i => (p, i, 0)
  | p, e :: l, i => if (apE p e).2 = 0 then allP (apE p e).1 l (wrap64 (i + 1)) else (p, i, (apE p e).2)
theorem enl_length (l : List EN) : (enl l).length = 7 * l.length := by
  unfold enl
  induction l with
  | nil => rfl
  | cons s l ih => rw [List.flatMap_cons, List.length_append, ih]; show 7 + _ = _; simp only [List.length_cons]; omega
theorem enl_drop (l : List EN) : ∀ q, (enl l).drop (7 * q) = enl (l.drop q) := by
  induction l with
  | nil => intro q; simp [enl]
  | cons s l ih =>
    intro q
    cases q with
    | zero => rfl
    | succ q =>
      rw [List.drop_succ_cons, ← ih q]
      show ((ecl s) ++ enl l).drop (7 * (q + 1)) = _
      rw [List.drop_append]
      rw [List.drop_eq_nil_of_le (show (ecl s).length ≤ 7 * (q + 1) from by show 7 ≤ _; omega), List.nil_append]
      congr 1
theorem ens_range {w : World} {b : Nat} {l : List EN} (h : Blk w b 49 (ens l)) (i : Nat) (e : EN) (he : l[i]? = some e) : w.rangeAt b (i * 7) (ecl e) := by
  obtain ⟨hl, rfl⟩ := List.getElem?_eq_some_iff.1 he
  intro j v hj
  have hj7 : j < 7 := (List.getElem?_eq_some_iff.1 hj).1
  rw [blk_cell h]
  show (enl l).toArray[_]? = _
  rw [List.getElem?_toArray, ← List.getElem?_drop, Nat.mul_comm i 7, enl_drop, List.drop_eq_getElem_cons hl]
  show ((ecl l[i]) ++ enl _)[j]? = _
  rw [List.getElem?_append_left hj7]
  exact hj
theorem ent49 : Try.prog.underlying 49 = some (.struct #[{ name := "Kind", type := 3, offset := 0, embedded := false, tag := "", pkgPath := "", byteOffset := 0 }, { name := "Slot", type := 3, offset := 1, embedded := false, tag := "", pkgPath := "", byteOffset := 8 }, { name := "Addr", type := 3, offset := 2, embedded := false, tag := "", pkgPath := "", byteOffset := 16 }, { name := "Port", type := 3, offset := 3, embedded := false, tag := "", pkgPath := "", byteOffset := 24 }, { name := "Weight", type := 3, offset := 4, embedded := false, tag := "", pkgPath := "", byteOffset := 32 }, { name := "Key", type := 29, offset := 5, embedded := false, tag := "", pkgPath := "", byteOffset := 40 }]) := by kernel_rfl
theorem run_ld49 (ev : Operand → Value) (o : Oper) (w : World) (b i : Nat) (l : List EN) (e : EN) (x : Operand) (ho : o.op = .load 49 x) (hx : ev x = .pointer (some ⟨b, i * 7, none⟩)) (hb : Blk w b 49 (ens l)) (he : l[i]? = some e) :
    (execOp ev o).run Try.prog w = .ok (.value (.agg #[.int .i64 e.k, .int .i64 e.s, .int .i64 e.a, .int .i64 e.b, .int .i64 e.c, .int .u64 e.x, .int .u64 e.y])) w := by
  have hr := run_loadVar_mid (P := Try.prog) w b (i * 7) 49 (ecl e) _ (ens_range hb i e he) ent49 rfl (by kernel_rfl)
  unfold execOp
  simp only [ho, hx, Instr.loadAt, Instr.sureAddr, Sem.run_bind, Sem.run_pure, Result.andThen_ok, hr]
  rfl
/-- The pool's block, the answer's, the entries'. -/
structure LS (w0 : World) (g r b : Nat) (P R E : Array Value) (w : World) : Prop where
  hg : Blk w g 33 P
  hr : Blk w r 33 R
  hb : Blk w b 49 E
  below : Below w0.heap.size w0 w
  ge : w0.heap.size ≤ g ∧ w0.heap.size ≤ r ∧ b < w0.heap.size
  ne : g < r
theorem LS.by_below {w0 : World} {g r b : Nat} {P R E : Array Value} {w w' : World} (h : LS w0 g r b P R E w) (hb : Below w.heap.size w w') : LS w0 g r b P R E w' :=
  ⟨h.hg.below hb, h.hr.below hb, h.hb.below hb, below_step h.below hb, h.ge, h.ne⟩
theorem LS.stG {w0 : World} {g r b : Nat} {P R E P' : Array Value} {w w' : World} (h : LS w0 g r b P R E w) (hb : Blk w' g 33 P') (hg : w.grownBy w' (some g)) : LS w0 g r b P' R E w' :=
  ⟨hb, h.hr.grown hg (fun e => by injection e with e; have := h.ne; omega), h.hb.grown hg (fun e => by injection e with e; have := h.ge; omega), h.below.grown hg (below_size h.below) (fun k hk => by injection hk with hk; subst hk; exact h.ge.1), h.ge, h.ne⟩
theorem LS.stR {w0 : World} {g r b : Nat} {P R E R' : Array Value} {w w' : World} (h : LS w0 g r b P R E w) (hb : Blk w' r 33 R') (hg : w.grownBy w' (some r)) : LS w0 g r b P R' E w' :=
  ⟨h.hg.grown hg (fun e => by injection e with e; have := h.ne; omega), hb, h.hb.grown hg (fun e => by injection e with e; have := h.ge; omega), h.below.grown hg (below_size h.below) (fun k hk => by injection hk with hk; subst hk; exact h.ge.2.1), h.ge, h.ne⟩
theorem LS.stS {w0 : World} {g r b s : Nat} {P R E : Array Value} {w w' : World} (h : LS w0 g r b P R E w) (hs : r < s) (hg : w.grownBy w' (some s)) : LS w0 g r b P R E w' :=
  ⟨h.hg.grown hg (fun e => by injection e with e; have := h.ne; omega), h.hr.grown hg (fun e => by injection e with e; omega), h.hb.grown hg (fun e => by injection e with e; have := h.ge; omega), h.below.grown hg (below_size h.below) (fun k hk => by injection hk with hk; subst hk; have := h.ge; omega), h.ge, h.ne⟩

set_option maxHeartbeats 8000000 in
set_option maxRecDepth 100000 in
theorem all_calls (p : PL) (hp : p.sl.length = 64) (b : Nat) (l : List EN) (c : Nat) (hw : ∀ e ∈ l, WFE e) (hm : l.length ≤ 1048576) (w0 : World) (hb : Blk w0 b 49 (ens l)) : Calls Try.prog 27 #[.agg (pcs p), .slice (some ⟨b, 0, none⟩) l.length c] w0
    fun e w' => e = .returned (.tuple #[.agg (pcs (allP p l 0).1), .int .i64 (allP p l 0).2.1, .int .i64 (allP p l 0).2.2]) ∧ Below w0.heap.size w0 w' := by
  have hu55 := Try.underlying55
  have HP := Aside0.mk hp
  have HW := Aside0.mk hw
  have HM := Aside0.mk hm
  have HBB := Aside0.mk hb
  clear hp hw hb hm
  go_enter Try.func27, Try.ntmps27
  go_wp2_with (first | ((with_reducible refine gate_dst (N := 2) rfl ?_); refine pl_box rfl rfl rfl ?_; intro g hg w1 hb1 hB1; have G1 := Aside0.mk hg; have G2 := Aside0.mk hb1; have G3 := Aside0.mk hB1; clear hg hb1 hB1) | ((with_reducible refine gate_dst (N := 4) rfl ?_); refine pl_alloc (N := 4) rfl rfl rfl ?_; intro r hr w3 hb3 hB3; have G7 := Aside0.mk hr; have G8 := Aside0.mk hb3; have G9 := Aside0.mk hB3; clear hr hb3 hB3))
  have H : Aside0 (LS w0 g r b (pcs p) (pcs zeroP) (ens l) w3) := ⟨⟨G2.out.below G9.out, G8.out, (HBB.out.below G3.out).below G9.out, below_step G3.out G9.out, by have h1 := G1.out; have h2 := G7.out; have h3 := G3.out.size; have h4 := HBB.out.lt; omega, by have h1 := G2.out.lt; have h2 := G7.out; omega⟩⟩
  clear G1 G2 G3 G7 G8 G9 HBB
  go_loopg [7] (l.length + 1) (fun kq v7 w' => ∃ (i : Nat) (q : PL), v7 = .int .i64 i ∧ Aside0 (kq + i = l.length + 1 ∧ i ≤ l.length) ∧ Aside0 (q.sl.length = 64) ∧ Aside0 (allP q (l.drop i) i = allP p l 0) ∧ Aside0 (LS w0 g r b (pcs q) (pcs zeroP) (ens l) w'))
  case atStart => exact ⟨0, p, rfl, ⟨by omega⟩, HP, ⟨rfl⟩, H⟩
  case round =>
    clear H
    obtain ⟨i, q, rfl, HK, HQ, HA, H⟩ := hrel
    cases gk with
    | zero => have := HK.out; omega
    | succ k1 =>
      by_cases hi : i < l.length
      · have hi0 : decide ((i : Int) < (l.length : Int)) = true := decide_eq_true (by omega)
        have p1 : (0 ≤ (i : Int)) = True := eq_true (Int.natCast_nonneg i)
        have p2 : ((i : Int) < (l.length : Int)) = True := eq_true (by omega)
        have HI := Aside0.mk hi
        clear hi
        obtain ⟨e, he⟩ : ∃ e, e = l[i]'HI.out := ⟨_, rfl⟩
        have HE : Aside0 (l[i]? = some e) := ⟨by rw [he]; exact List.getElem?_eq_getElem _⟩
        have HWE : Aside0 (WFE e) := ⟨by rw [he]; exact HW.out _ (List.getElem_mem _)⟩
        have HD : Aside0 (l.drop i = e :: l.drop (i + 1)) := ⟨by rw [he]; exact List.drop_eq_getElem_cons _⟩
        clear he
        obtain ⟨q1, hq1⟩ : ∃ q1, q1 = (apE q e).1 := ⟨_, rfl⟩
        obtain ⟨er, her⟩ : ∃ er, er = (apE q e).2 := ⟨_, rfl⟩
        have HQ1 : Aside0 (q1.sl.length = 64) := ⟨by rw [hq1]; exact apE_len q e HQ.out⟩
        have Hq1 := Aside0.mk hq1
        have Her := Aside0.mk her
        clear hq1 her
        go_upto_region 4 with fail
        have n_ : Aside0 (LS w0 g r b _ _ _ wr.drew) := ⟨H.out.by_below (below_drew1 (Below.refl _ _))⟩
        clear H
        have H := n_
        clear n_
        refine start_ (n := 12) (S := fun w' => Blk w' g 33 (pcs q) ∧ Blk w' b 49 (ens l)) (ds := []) #[false, false, false, false, false, false, false, false, false, false, false, false] (by kernel_rfl) rfl rfl ⟨H.out.hg, H.out.hb⟩ (fun hHeld => ?_)
        generalize wr.drew = wB at H hHeld ⊢
        refine pure_ (i := 1) (N := some 18) (v := ?_) (a' := ?_) #[false, true, false, false, false, false, false, false, false, false, false, false] rfl rfl (by kernel_rfl) (fun _ _ _ h => h) (Or.inl ⟨by rfl, ?_⟩) ?_ ?_
        rotate_left
        · intro w'
          go_simp
          with_reducible rfl
        rotate_left
        · simp only [Act.put, List.setIfInBounds_toArray, List.set_cons_zero, List.set_cons_succ, i64_w, i32_w]
          rfl
        refine pure_ (i := 2) (N := some 19) (v := ?_) (a' := ?_) #[false, true, true, false, false, false, false, false, false, false, false, false] rfl rfl (by kernel_rfl) (fun _ _ _ h => h) (Or.inl ⟨by rfl, ?_⟩) ?_ ?_
        rotate_left
        · intro w'
          go_simp
          with_reducible rfl
        rotate_left
        · simp only [Act.put, List.setIfInBounds_toArray, List.set_cons_zero, List.set_cons_succ, i64_w, i32_w]
          rfl
        refine pure_ (i := 3) (N := some 20) (v := ?_) (a' := ?_) #[false, true, true, true, false, false, false, false, false, false, false, false] rfl rfl (by kernel_rfl) (fun _ _ _ h => h) (Or.inl ⟨by rfl, ?_⟩) ?_ ?_
        rotate_left
        · intro w'
          go_simp
          with_reducible rfl
        rotate_left
        · simp only [Act.put, List.setIfInBounds_toArray, List.set_cons_zero, List.set_cons_succ, i64_w, i32_w]
          rfl
        refine take_ (i := 0) (N := some 17) (v := ?_) (a' := ?_) #[true, true, true, true, false, false, false, false, false, false, false, false] rfl rfl (by kernel_rfl) (fun _ _ _ h => h) (Or.inl ⟨by rfl, ?_⟩) hHeld ?_ ?_
        rotate_left
        · intro w' hs
          refine (run_ld33 _ _ w' g q (.tmp 2) ?_ ?_ hs.1 HQ.out).trans ?_
          · rfl
          · rfl
          · with_reducible rfl
        rotate_left
        · simp only [Act.put, List.setIfInBounds_toArray, List.set_cons_zero, List.set_cons_succ, i64_w, i32_w]
          rfl
        refine take_ (i := 4) (N := some 21) (v := ?_) (a' := ?_) #[true, true, true, true, true, false, false, false, false, false, false, false] rfl rfl (by kernel_rfl) (fun _ _ _ h => h) (Or.inl ⟨by rfl, ?_⟩) hHeld ?_ ?_
        rotate_left
        · intro w' hs
          refine (run_ld49 _ _ w' b i l e (.tmp 20) ?_ ?_ hs.2 HE.out).trans ?_
          · rfl
          · rfl
          · with_reducible rfl
        rotate_left
        · simp only [Act.put, List.setIfInBounds_toArray, List.set_cons_zero, List.set_cons_succ, i64_w, i32_w]
          rfl
        refine join_ (σ := Nat) 2 #[true, true, true, true, true, true, true, true, true, true, false, false] (fun s_ => [(22, .tuple #[.agg (pcs q1), .int .i64 er]), (16, .tuple #[.agg (pcs q1), .int .i64 er]), (23, .agg (pcs q1)), (24, .int .i64 er), (8, .pointer (some ⟨s_, 0, none⟩))]) (fun s_ w' => (Blk w' g 33 (pcs q) ∧ Blk w' b 49 (ens l)) ∧ LS w0 g r b (pcs q) (pcs zeroP) (ens l) w' ∧ Blk w' s_ 33 (pcs zeroP) ∧ r < s_) ?_ ?_
        rotate_left
        · intro hCont
          refine two_ (i := 5) (j := 9) (Ni := some 22) (Nj := some 8) #[true, true, true, true, true, true, false, false, false, false, false, false] #[true, true, true, true, true, false, false, false, false, true, false, false] rfl rfl rfl rfl (by kernel_rfl) (by decide) (by decide) (fun K hK => ?_) (fun K hK => ?_)
          · skip
            refine goes_ Try.func24 (by kernel_rfl) rfl #[.agg (pcs q), .agg #[.int .i64 e.k, .int .i64 e.s, .int .i64 e.a, .int .i64 e.b, .int .i64 e.c, .int .u64 e.x, .int .u64 e.y]] (by rfl) rfl rfl (by simp only [List.map_toArray, List.map_cons, List.map_nil]; rfl) ?_
            refine (apE_calls q HQ.out e HWE.out _).mono ?_
            rw [← Hq1.out, ← Her.out]
            rintro e_ wC0 ⟨rfl, hb_⟩
            refine ⟨_, rfl, ?_⟩
            have n_ := Aside0.mk (H.out.by_below hb_)
            clear H hHeld
            have H := n_
            clear n_ hb_
            refine hK.out _ _ ⟨H.out.hg, H.out.hb⟩ (fun hHeld => ?_)
            clear hK K
            refine norm_ (a' := ?_) ?_ ?_
            rotate_left
            · show Act.put _ (some 22) _ = _
              simp only [Act.put, List.setIfInBounds_toArray, List.set_cons_zero, List.set_cons_succ, i64_w, i32_w]
              rfl
            refine pure_ (i := 6) (N := some 16) (v := ?_) (a' := ?_) #[true, true, true, true, true, true, true, false, false, false, false, false] rfl rfl (by kernel_rfl) (fun _ _ _ h => h) (Or.inl ⟨by rfl, ?_⟩) ?_ ?_
            rotate_left
            · intro w'
              go_simp
              with_reducible rfl
            rotate_left
            · simp only [Act.put, List.setIfInBounds_toArray, List.set_cons_zero, List.set_cons_succ, i64_w, i32_w]
              rfl
            refine pure_ (i := 7) (N := some 23) (v := ?_) (a' := ?_) #[true, true, true, true, true, true, true, true, false, false, false, false] rfl rfl (by kernel_rfl) (fun _ _ _ h => h) (Or.inl ⟨by rfl, ?_⟩) ?_ ?_
            rotate_left
            · intro w'
              go_simp
              with_reducible rfl
            rotate_left
            · simp only [Act.put, List.setIfInBounds_toArray, List.set_cons_zero, List.set_cons_succ, i64_w, i32_w]
              rfl
            refine pure_ (i := 8) (N := some 24) (v := ?_) (a' := ?_) #[true, true, true, true, true, true, true, true, true, false, false, false] rfl rfl (by kernel_rfl) (fun _ _ _ h => h) (Or.inl ⟨by rfl, ?_⟩) ?_ ?_
            rotate_left
            · intro w'
              go_simp
              with_reducible rfl
            rotate_left
            · simp only [Act.put, List.setIfInBounds_toArray, List.set_cons_zero, List.set_cons_succ, i64_w, i32_w]
              rfl
            refine one_ (i := 9) (N := some 8) #[true, true, true, true, true, true, true, true, true, true, false, false] rfl rfl (by kernel_rfl) (by decide) (fun K hK => ?_)
            refine box_step (by rfl) (N := 8) rfl (run33 _ _ _ rfl) ?_
            intro s8 hs8 wA1 hb_ hB_
            have HLT : Aside0 (r < s8) := ⟨by rw [hs8]; exact H.out.hr.lt⟩
            have HS8 : Aside0 (Blk wA1 s8 33 (pcs zeroP)) := ⟨hb_⟩
            have n_ := Aside0.mk (H.out.by_below hB_)
            clear H hHeld hb_ hB_ hs8
            have H := n_
            clear n_
            refine hK.out _ _ ⟨H.out.hg, H.out.hb⟩ (fun hHeld => ?_)
            clear hK K
            refine norm_ (a' := ?_) ?_ ?_
            rotate_left
            · show Act.put _ (some 8) _ = _
              simp only [Act.put, List.setIfInBounds_toArray, List.set_cons_zero, List.set_cons_succ, i64_w, i32_w]
              rfl
            exact norm_ (by simp only [putAll, Act.put, List.setIfInBounds_toArray, List.set_cons_zero, List.set_cons_succ]) (hCont s8 _ ⟨hHeld, H.out, HS8.out, HLT.out⟩)
          · skip
            refine box_step (by rfl) (N := 8) rfl (run33 _ _ _ rfl) ?_
            intro s8 hs8 wA0 hb_ hB_
            have HLT : Aside0 (r < s8) := ⟨by rw [hs8]; exact H.out.hr.lt⟩
            have HS8 : Aside0 (Blk wA0 s8 33 (pcs zeroP)) := ⟨hb_⟩
            have n_ := Aside0.mk (H.out.by_below hB_)
            clear H hHeld hb_ hB_ hs8
            have H := n_
            clear n_
            refine hK.out _ _ ⟨H.out.hg, H.out.hb⟩ (fun hHeld => ?_)
            clear hK K
            refine norm_ (a' := ?_) ?_ ?_
            rotate_left
            · show Act.put _ (some 8) _ = _
              simp only [Act.put, List.setIfInBounds_toArray, List.set_cons_zero, List.set_cons_succ, i64_w, i32_w]
              rfl
            refine one_ (i := 5) (N := some 22) #[true, true, true, true, true, true, false, false, false, true, false, false] rfl rfl (by kernel_rfl) (by decide) (fun K hK => ?_)
            refine goes_ Try.func24 (by kernel_rfl) rfl #[.agg (pcs q), .agg #[.int .i64 e.k, .int .i64 e.s, .int .i64 e.a, .int .i64 e.b, .int .i64 e.c, .int .u64 e.x, .int .u64 e.y]] (by rfl) rfl rfl (by simp only [List.map_toArray, List.map_cons, List.map_nil]; rfl) ?_
            refine (apE_calls q HQ.out e HWE.out _).mono ?_
            rw [← Hq1.out, ← Her.out]
            rintro e_ wC1 ⟨rfl, hb_⟩
            refine ⟨_, rfl, ?_⟩
            have n_ := Aside0.mk (H.out.by_below hb_)
            have m_ := Aside0.mk (HS8.out.below hb_)
            clear HS8
            have HS8 := m_
            clear m_
            clear H hHeld
            have H := n_
            clear n_ hb_
            refine hK.out _ _ ⟨H.out.hg, H.out.hb⟩ (fun hHeld => ?_)
            clear hK K
            refine norm_ (a' := ?_) ?_ ?_
            rotate_left
            · show Act.put _ (some 22) _ = _
              simp only [Act.put, List.setIfInBounds_toArray, List.set_cons_zero, List.set_cons_succ, i64_w, i32_w]
              rfl
            refine pure_ (i := 6) (N := some 16) (v := ?_) (a' := ?_) #[true, true, true, true, true, true, true, false, false, true, false, false] rfl rfl (by kernel_rfl) (fun _ _ _ h => h) (Or.inl ⟨by rfl, ?_⟩) ?_ ?_
            rotate_left
            · intro w'
              go_simp
              with_reducible rfl
            rotate_left
            · simp only [Act.put, List.setIfInBounds_toArray, List.set_cons_zero, List.set_cons_succ, i64_w, i32_w]
              rfl
            refine pure_ (i := 7) (N := some 23) (v := ?_) (a' := ?_) #[true, true, true, true, true, true, true, true, false, true, false, false] rfl rfl (by kernel_rfl) (fun _ _ _ h => h) (Or.inl ⟨by rfl, ?_⟩) ?_ ?_
            rotate_left
            · intro w'
              go_simp
              with_reducible rfl
            rotate_left
            · simp only [Act.put, List.setIfInBounds_toArray, List.set_cons_zero, List.set_cons_succ, i64_w, i32_w]
              rfl
            refine pure_ (i := 8) (N := some 24) (v := ?_) (a' := ?_) #[true, true, true, true, true, true, true, true, true, true, false, false] rfl rfl (by kernel_rfl) (fun _ _ _ h => h) (Or.inl ⟨by rfl, ?_⟩) ?_ ?_
            rotate_left
            · intro w'
              go_simp
              with_reducible rfl
            rotate_left
            · simp only [Act.put, List.setIfInBounds_toArray, List.set_cons_zero, List.set_cons_succ, i64_w, i32_w]
              rfl
            exact norm_ (by simp only [putAll, Act.put, List.setIfInBounds_toArray, List.set_cons_zero, List.set_cons_succ]) (hCont s8 _ ⟨hHeld, H.out, HS8.out, HLT.out⟩)
        rintro s8 wD ⟨hHeld, h1_, h2_, h3_⟩
        clear H
        have H := Aside0.mk h1_
        have HS8 := Aside0.mk h2_
        have HLT := Aside0.mk h3_
        clear h1_ h2_ h3_
        refine norm_ (a' := ?_) ?_ ?_
        rotate_left
        · simp only [putAll, Act.put, List.setIfInBounds_toArray, List.set_cons_zero, List.set_cons_succ]
          rfl
        refine one_ (i := 10) (N := none) #[true, true, true, true, true, true, true, true, true, true, true, false] rfl rfl (by kernel_rfl) (by decide) (fun K hK => ?_)
        refine skip_ (w1 := wD.setCells s8 0 (pcells q1)) (by rfl) rfl (run_st33 _ _ _ s8 _ q1 (.tmp 8) (.tmp 23) rfl rfl rfl HS8.out (pcs_size _ zeroP_len) HQ1.out) ?_
        have n_ := Aside0.mk (H.out.stS HLT.out (setCells_grown (pcells q1) 0 wD s8))
        have m_ := Aside0.mk (st33_blk q1 HS8.out (pcs_size _ zeroP_len) HQ1.out)
        clear H HS8 hHeld
        generalize wD.setCells s8 0 (pcells q1) = wE at n_ m_ ⊢
        have H := n_
        have HS8 := m_
        clear n_ m_
        refine hK.out _ _ ⟨H.out.hg, H.out.hb⟩ (fun hHeld => ?_)
        clear hK K
        refine pure_ (i := 11) (N := some 9) (v := ?_) (a' := ?_) #[true, true, true, true, true, true, true, true, true, true, true, true] rfl rfl (by kernel_rfl) (fun _ _ _ h => h) (Or.inl ⟨by rfl, ?_⟩) ?_ ?_
        rotate_left
        · intro w'
          go_simp
          with_reducible rfl
        rotate_left
        · simp only [Act.put, List.setIfInBounds_toArray, List.set_cons_zero, List.set_cons_succ, i64_w, i32_w]
          rfl
        refine done_ (by kernel_rfl) ?_
        clear hHeld
        have HH := H
        by_cases h0 : er = 0
        · have hc : (er != 0) = false := by simp [h0]
          have HN : Aside0 (allP q1 (l.drop (i + 1)) ((i + 1 : Nat) : Int) = allP p l 0) := ⟨by
            rw [← HA.out, HD.out]
            show _ = if (apE q e).2 = 0 then _ else _
            rw [← Her.out, if_pos h0, ← Hq1.out, show wrap64 ((i : Int) + 1) = ((i + 1 : Nat) : Int) from by unfold wrap64; have h_ := HI.out; have h2_ := HM.out; omega]⟩
          clear h0 HH
          go_wp2_with (first | ((with_reducible refine gate_dst (N := 30) rfl ?_); refine pl_load (N := 30) rfl rfl (.tmp 8) rfl rfl HS8.out HQ1.out ?_) | ((with_reducible refine gate_store (t := 33) (p := 2) rfl ?_); refine pl_store rfl rfl (.tmp 2) (.tmp 30) rfl rfl rfl H.out.hg (pcs_size _ HQ.out) HQ1.out ?_; intro wF hb_ hg_; have n_ := Aside0.mk (H.out.stG hb_ hg_); clear H hb_ hg_; have H := n_; clear n_))
          go_roundg k1
          case measure => omega
          case rel => exact ⟨i + 1, q1, by rw [show wrap64 ((i : Int) + 1) = ((i + 1 : Nat) : Int) from by unfold wrap64; have h_ := HI.out; have h2_ := HM.out; omega], ⟨by have h_ := HK.out; have h2_ := HI.out; omega⟩, HQ1, HN, H⟩
        · have hc : (er != 0) = true := by simp [h0]
          have HN : Aside0 (allP p l 0 = (q, (i : Int), er)) := ⟨by
            rw [← HA.out, HD.out]
            show (if (apE q e).2 = 0 then _ else _) = _
            rw [← Her.out, if_neg h0]⟩
          clear h0 HH
          go_wp2_with (first | ((with_reducible refine gate_dst (N := 27) rfl ?_); refine pl_load (N := 27) rfl rfl (.tmp 2) rfl rfl H.out.hg HQ.out ?_) | ((with_reducible refine gate_store (t := 33) (p := 4) rfl ?_); refine pl_store rfl rfl (.tmp 4) (.tmp 27) rfl rfl rfl H.out.hr (pcs_size _ zeroP_len) HQ.out ?_; intro wF hb_ hg_; have n_ := Aside0.mk (H.out.stR hb_ hg_); clear H hb_ hg_; have H := n_; clear n_))
          refine bodyPost_ret (results_ctt rfl _ _ r 33 (pcs q) (0, 0) _ rfl H.out.hr pool33 rfl (size33 _ HQ.out)) rfl ?_
          exact ⟨by rw [HN.out]; rfl, H.out.below⟩
      · have hi0 : decide ((i : Int) < (l.length : Int)) = false := decide_eq_false (by omega)
        have hi1 : (i < l.length) = False := eq_false hi
        have HI : Aside0 (i = l.length) := ⟨by have h_ := HK.out; omega⟩
        have HN : Aside0 (allP p l 0 = (q, (l.length : Int), 0)) := ⟨by rw [← HA.out, List.drop_eq_nil_of_le (by have h_ := HI.out; omega), HI.out]; rfl⟩
        clear hi
        go_wp2_with (first | ((with_reducible refine gate_dst (N := 31) rfl ?_); refine pl_load (N := 31) rfl rfl (.tmp 2) rfl rfl H.out.hg HQ.out ?_) | ((with_reducible refine gate_store (t := 33) (p := 4) rfl ?_); refine pl_store rfl rfl (.tmp 4) (.tmp 31) rfl rfl rfl H.out.hr (pcs_size _ zeroP_len) HQ.out ?_; intro wF hb_ hg_; have n_ := Aside0.mk (H.out.stR hb_ hg_); clear H hb_ hg_; have H := n_; clear n_))
        refine bodyPost_ret (results_ctt rfl _ _ r 33 (pcs q) (0, 0) _ rfl H.out.hr pool33 rfl (size33 _ HQ.out)) rfl ?_
        exact ⟨by rw [HN.out]; rfl, H.out.below⟩
end Go.Proofs.Ytnffajpnffibaaa.Own
namespace Go.Proofs.Ytnffajpnffibaaa.Own
open Go Go.RowKit Go.Proofs.YtnffajpnffibaaaW.PrintWords Go.Proofs.YtnffajpnffibaaaW.PrintMore Go.Proofs.YtnffajpnffibaaaW.PrintLast Go.Proofs.Ytnffajpnffibaaa.Q
set_option linter.unusedVariables false
set_option linter.unusedSimpArgs false

theorem outB_false (x lo hi : Int) (h : lo ≤ x ∧ x ≤ hi) : outB x lo hi = false := by
  unfold outB
  simp only [decide_eq_false_iff_not]
  omega
theorem entry_j0 (kk s : Int) (h0 : 0 ≤ kk) (h1 : kk < 1125899906842624) : ∃ e : EN, roundhouselaw6_Entry.j0 2 kk s = some (e.k, e.s, e.a, e.b, e.c, e.x, e.y) ∧ WFE e := by
  have hm : Int.tmod kk 8 = kk % 8 := Int.tmod_eq_emod_of_nonneg h0
  have hd1 : Int.tdiv kk 400 = kk / 400 := Int.tdiv_eq_ediv_of_nonneg h0
  have hd2 : Int.tdiv kk 2000 = kk / 2000 := Int.tdiv_eq_ediv_of_nonneg h0
  have hd3 : Int.tdiv kk 6000 = kk / 6000 := Int.tdiv_eq_ediv_of_nonneg h0
  have hw : ∀ z : Int, 0 ≤ z → z < 1125899906842624 → wrap64 z = z := fun z a b => by unfold wrap64; omega
  have key : ∀ b : Bool, (b = true ∨ b = false) → (b = true → True) → ∃ e : EN, roundhouselaw6_Entry.j1 1 kk s (kk % 8) b = some (e.k, e.s, e.a, e.b, e.c, e.x, e.y) ∧ WFE e := by
    intro b hb _
    cases b with
    | true =>
      refine ⟨⟨1, s, Int.tmod (wrap64 (Int.tdiv kk 400)) 5, Int.tmod (wrap64 (Int.tdiv kk 2000)) 3, wrap64 (1 + (Int.tmod (wrap64 (Int.tdiv kk 6000)) 8)), 0, 0⟩, ?_, ?_⟩
      · simp only [roundhouselaw6_Entry.j1, if_true]
      · left
        rw [hd1, hd2, hd3, hw (kk / 400) (by omega) (by omega), hw (kk / 2000) (by omega) (by omega), hw (kk / 6000) (by omega) (by omega)]
        refine ⟨rfl, outB_false _ _ _ ?_, outB_false _ _ _ ?_, outB_false _ _ _ ?_, rfl, rfl⟩
        · show 0 ≤ Int.tmod (kk / 400) 5 ∧ Int.tmod (kk / 400) 5 ≤ _
          rw [Int.tmod_eq_emod_of_nonneg (by omega)]
          omega
        · show 0 ≤ Int.tmod (kk / 2000) 3 ∧ Int.tmod (kk / 2000) 3 ≤ _
          rw [Int.tmod_eq_emod_of_nonneg (by omega)]
          omega
        · show 1 ≤ wrap64 (1 + Int.tmod (kk / 6000) 8) ∧ wrap64 (1 + Int.tmod (kk / 6000) 8) ≤ 8
          rw [Int.tmod_eq_emod_of_nonneg (by omega), hw _ (by omega) (by omega)]
          omega
    | false =>
      simp only [roundhouselaw6_Entry.j1, Bool.false_eq_true, if_false]
      by_cases h2 : kk % 8 = 2
      · exact ⟨⟨2, s, 0, 0, 0, 0, 0⟩, by rw [if_pos h2], .inr (.inl ⟨rfl, rfl, rfl, rfl, rfl, rfl⟩)⟩
      · rw [if_neg h2]
        by_cases h3 : kk % 8 = 3
        · exact ⟨⟨3, s, 0, 0, 0, 0, 0⟩, by rw [if_pos h3], .inr (.inr (.inl ⟨rfl, rfl, rfl, rfl, rfl, rfl⟩))⟩
        · rw [if_neg h3]
          by_cases h4 : kk % 8 = 4
          · exact ⟨⟨4, s, 0, 0, 0, 0, 0⟩, by rw [if_pos h4], .inr (.inr (.inr (.inl ⟨rfl, rfl, rfl, rfl, rfl, rfl⟩)))⟩
          · rw [if_neg h4]
            by_cases h5 : kk % 8 = 5
            · exact ⟨⟨5, s, 0, 0, 0, 0, 0⟩, by rw [if_pos h5], .inr (.inr (.inr (.inr (.inl ⟨rfl, rfl, rfl, rfl, rfl, rfl⟩))))⟩
            · rw [if_neg h5]
              refine ⟨⟨6, 0, 0, 0, 0, _, _⟩, rfl, .inr (.inr (.inr (.inr (.inr ⟨rfl, rfl, rfl, rfl, rfl⟩))))⟩
  show ∃ e : EN, roundhouselaw6_Entry.j0 (1 + 1) kk s = _ ∧ _
  simp only [roundhouselaw6_Entry.j0]
  rw [hm]
  split
  · exact key _ (by cases (kk % 8 == 0) <;> simp) (fun _ => trivial)
  · exact key _ (by cases (kk % 8 == 1) <;> simp) (fun _ => trivial)
theorem entry_ex (n : Int) (hn : -9223372036854775808 ≤ n ∧ n ≤ 9223372036854775807) : ∃ e : EN, roundhouselaw6_Entry.f 2 n = some (e.k, e.s, e.a, e.b, e.c, e.x, e.y) ∧ WFE e := by
  have h1 : ∃ kk, roundhouselaw6_within.f n 1125899906842624 = some kk ∧ 0 ≤ kk ∧ kk < 1125899906842624 := by
    unfold roundhouselaw6_within.f
    rw [if_neg (by decide)]
    have hlt : Int.tmod n 1125899906842624 < 1125899906842624 := Int.tmod_lt_of_pos _ (by decide)
    have hgt : -1125899906842624 < Int.tmod n 1125899906842624 := by
      have h2 : Int.tmod (-n) 1125899906842624 < 1125899906842624 := Int.tmod_lt_of_pos _ (by decide)
      rw [Int.neg_tmod] at h2
      omega
    split
    · refine ⟨_, rfl, ?_⟩
      unfold wrap64
      omega
    · exact ⟨_, rfl, by omega, hlt⟩
  obtain ⟨kk, hk, h0, h2⟩ := h1
  unfold roundhouselaw6_Entry.f
  rw [hk]
  simp only [Option.bind_some]
  split
  · exact entry_j0 kk _ h0 h2
  · exact entry_j0 kk _ h0 h2
/-- The entry that a number says. -/
def entP (n : Int) : EN := match roundhouselaw6_Entry.f 2 n with
  | some (r1, r2, r3, r4, r5, r6, r7) => ⟨r1, r2, r3, r4, r5, r6, r7⟩
  | none => ⟨6, 0, 0, 0, 0, 0, 0⟩
theorem entP_spec (n : Int) (hn : -9223372036854775808 ≤ n ∧ n ≤ 9223372036854775807) : roundhouselaw6_Entry.f 2 n = some ((entP n).k, (entP n).s, (entP n).a, (entP n).b, (entP n).c, (entP n).x, (entP n).y) ∧ WFE (entP n) := by
  obtain ⟨e, h1, h2⟩ := entry_ex n hn
  have he : entP n = e := by unfold entP; rw [h1]
  rw [he]
  exact ⟨h1, h2⟩
/-- The pool that numbers make. -/
def mkP : PL → List Int → PL
  | p, [] => p
  | p, n :: ns => mkP (if (apE p (entP n)).2 = 0 then (apE p (entP n)).1 else p) ns
def pool0 : PL := newP 10 80 (IntKind.u64.wrap ((IntKind.u64.wrap 1) * 11400714819323198485)) (Go.bits .xor .u64 (IntKind.u64.wrap 1) 19088743) (IntKind.u64.wrap ((IntKind.u64.wrap 2) * 11400714819323198485)) (Go.bits .xor .u64 (IntKind.u64.wrap 2) 19088743)
def make6 (ns : List Int) (most : Int) : PL := mkP pool0 (ns.take most.toNat)
theorem mkP_len : ∀ (ns : List Int) (p : PL), p.sl.length = 64 → (mkP p ns).sl.length = 64
  | [], p, h => h
  | n :: ns, p, h => by
    refine mkP_len ns _ ?_
    split
    · exact apE_len _ _ h
    · exact h
theorem make6_len (ns : List Int) (most : Int) : (make6 ns most).sl.length = 64 := mkP_len _ _ (newP_len _ _ _ _ _ _)
end Go.Proofs.Ytnffajpnffibaaa.Own
namespace Go.Proofs.Ytnffajpnffibaaa.Own
open Go Go.RowKit Go.Proofs.YtnffajpnffibaaaW.PrintWords Go.Proofs.YtnffajpnffibaaaW.PrintMore Go.Proofs.YtnffajpnffibaaaW.PrintLast Go.Proofs.Ytnffajpnffibaaa.Q
set_option linter.unusedVariables false
set_option linter.unusedSimpArgs false

/-- Two pools' blocks. -/
structure MS (w0 : World) (r g : Nat) (R P : Array Value) (w : World) : Prop where
  hr : Blk w r 33 R
  hg : Blk w g 33 P
  below : Below w0.heap.size w0 w
  ge : w0.heap.size ≤ r ∧ w0.heap.size ≤ g
  ne : r < g
theorem MS.by_below {w0 : World} {r g : Nat} {R P : Array Value} {w w' : World} (h : MS w0 r g R P w) (hb : Below w.heap.size w w') : MS w0 r g R P w' :=
  ⟨h.hr.below hb, h.hg.below hb, below_step h.below hb, h.ge, h.ne⟩
theorem MS.stG {w0 : World} {r g : Nat} {R P P' : Array Value} {w w' : World} (h : MS w0 r g R P w) (hb : Blk w' g 33 P') (hg : w.grownBy w' (some g)) : MS w0 r g R P' w' :=
  ⟨h.hr.grown hg (fun e => by injection e with e; have := h.ne; omega), hb, h.below.grown hg (below_size h.below) (fun k hk => by injection hk with hk; subst hk; exact h.ge.2), h.ge, h.ne⟩
theorem MS.stR {w0 : World} {r g : Nat} {R P R' : Array Value} {w w' : World} (h : MS w0 r g R P w) (hb : Blk w' r 33 R') (hg : w.grownBy w' (some r)) : MS w0 r g R' P w' :=
  ⟨hb, h.hg.grown hg (fun e => by injection e with e; have := h.ne; omega), h.below.grown hg (below_size h.below) (fun k hk => by injection hk with hk; subst hk; exact h.ge.1), h.ge, h.ne⟩
theorem MS.stS {w0 : World} {r g s : Nat} {R P : Array Value} {w w' : World} (h : MS w0 r g R P w) (hs : g < s) (hg : w.grownBy w' (some s)) : MS w0 r g R P w' :=
  ⟨h.hr.grown hg (fun e => by injection e with e; have := h.ne; omega), h.hg.grown hg (fun e => by injection e with e; omega), h.below.grown hg (below_size h.below) (fun k hk => by injection hk with hk; subst hk; have := h.ge; omega), h.ge, h.ne⟩

theorem key1_calls (w0 : World) : Calls Try.prog 25 #[.int .i64 1] w0 fun e w' => e = .returned (.agg #[.int .u64 (IntKind.u64.wrap ((IntKind.u64.wrap 1) * 11400714819323198485)), .int .u64 (Go.bits .xor .u64 (IntKind.u64.wrap 1) 19088743)]) ∧ Below w0.heap.size w0 w' := roundhouselaw5_Key.calls 1 _ _ w0 rfl
theorem key2_calls (w0 : World) : Calls Try.prog 25 #[.int .i64 2] w0 fun e w' => e = .returned (.agg #[.int .u64 (IntKind.u64.wrap ((IntKind.u64.wrap 2) * 11400714819323198485)), .int .u64 (Go.bits .xor .u64 (IntKind.u64.wrap 2) 19088743)]) ∧ Below w0.heap.size w0 w' := roundhouselaw5_Key.calls 2 _ _ w0 rfl
theorem new0_calls (w0 : World) : Calls Try.prog 28 #[.int .i64 10, .int .i64 80, .agg #[.int .u64 (IntKind.u64.wrap ((IntKind.u64.wrap 1) * 11400714819323198485)), .int .u64 (Go.bits .xor .u64 (IntKind.u64.wrap 1) 19088743)], .agg #[.int .u64 (IntKind.u64.wrap ((IntKind.u64.wrap 2) * 11400714819323198485)), .int .u64 (Go.bits .xor .u64 (IntKind.u64.wrap 2) 19088743)]] w0
    fun e w' => e = .returned (.tuple #[.agg (pcs pool0), .int .i64 0]) ∧ Below w0.heap.size w0 w' :=
  new_calls 10 80 _ _ _ _ (by decide) (by decide) w0

set_option maxHeartbeats 8000000 in
set_option maxRecDepth 100000 in
theorem make_calls (A : Option Addr) (c : Nat) (l : List Int) (m : Int) (hm : 0 ≤ m ∧ m ≤ 1000) (hl : l.length ≤ 4611686018427387904) (hi : ∀ x ∈ l, -9223372036854775808 ≤ x ∧ x ≤ 9223372036854775807) (w0 : World) (hC : Kd.C (Kd.int .i64) w0 A l.length l) : Calls Try.prog 14 #[.slice A l.length c, .int .i64 m] w0
    fun e w' => e = .returned (.agg (pcs (make6 l m))) ∧ Below w0.heap.size w0 w' := by
  have hu22 := Try.underlying22
  have HM := Aside0.mk hm
  have HL := Aside0.mk hl
  have HI := Aside0.mk hi
  have HC := Aside0.mk hC
  clear hm hl hi hC
  obtain ⟨p0, hp0⟩ : ∃ p0, p0 = pool0 := ⟨_, rfl⟩
  have HP0 : Aside0 (p0.sl.length = 64) := ⟨by rw [hp0]; exact newP_len _ _ _ _ _ _⟩
  have HPP := Aside0.mk hp0
  clear hp0
  go_enter Try.func14, Try.ntmps14
  go_wp2_with (first
    | ((with_reducible refine gate_dst (N := 4) rfl ?_); refine pl_alloc (N := 4) rfl rfl rfl ?_; intro r hr w1 hb1 hB1; have G1 := Aside0.mk hr; have G2 := Aside0.mk hb1; have G3 := Aside0.mk hB1; clear hr hb1 hB1)
    | (go_at_call 25; (first | with_reducible refine (key1_calls _).mono ?_; rintro e_ wk1 ⟨rfl, hb_⟩; have G4 := Aside0.mk hb_; clear hb_ | with_reducible refine (key2_calls _).mono ?_; rintro e_ wk2 ⟨rfl, hb_⟩; have G5 := Aside0.mk hb_; clear hb_))
    | (go_at_call 28; refine (new0_calls _).mono ?_; rw [← HPP.out]; rintro e_ wk3 ⟨rfl, hb_⟩; have G6 := Aside0.mk hb_; clear hb_)
    | ((with_reducible refine gate_dst (N := 5) rfl ?_); refine pl_alloc (N := 5) rfl rfl rfl ?_; intro g hg w2 hb2 hB2; have G7 := Aside0.mk hg; have G8 := Aside0.mk hb2; have G9 := Aside0.mk hB2; clear hg hb2 hB2; have H : Aside0 (MS w0 r g (pcs zeroP) (pcs zeroP) w2) := ⟨⟨((((G2.out.below G4.out).below G5.out).below G6.out).below G9.out), G8.out, below_step (below_step (below_step (below_step (below_step G3.out G4.out) G5.out) G6.out) G9.out) (Below.refl _ _), by have h1 := G1.out; have h2 := G7.out; have h3 := G3.out.size; have h4 := G4.out.size; have h5 := G5.out.size; have h6 := G6.out.size; omega, by have h1 := G2.out.lt; have h2 := G7.out; have h4 := G4.out.size; have h5 := G5.out.size; have h6 := G6.out.size; omega⟩⟩; clear G1 G2 G3 G4 G5 G6 G7 G8 G9)
    | ((with_reducible refine gate_store (t := 33) (p := 5) rfl ?_); refine pl_store rfl rfl (.tmp 5) (.tmp 14) rfl rfl rfl H.out.hg (pcs_size _ zeroP_len) HP0.out ?_; intro w3 hb_ hg_; have n_ := Aside0.mk (H.out.stG hb_ hg_); clear H hb_ hg_; have H := n_; clear n_))
  go_loopg [7] (l.length + 1) (fun kq v7 w' => ∃ (i : Nat) (q : PL), v7 = .int .i64 i ∧ Aside0 (kq + i = l.length + 1 ∧ i ≤ l.length ∧ i ≤ m.toNat) ∧ Aside0 (q.sl.length = 64) ∧ Aside0 (mkP q ((l.take m.toNat).drop i) = make6 l m) ∧ Aside0 (MS w0 r g (pcs zeroP) (pcs q) w'))
  case atStart => exact ⟨0, p0, rfl, ⟨by omega⟩, HP0, ⟨by rw [HPP.out]; rfl⟩, H⟩
  case round =>
    clear H
    obtain ⟨i, q, rfl, HK, HQ, HA, H⟩ := hrel
    cases gk with
    | zero => have := HK.out; omega
    | succ k1 =>
      by_cases hi : i < l.length
      · have hi0 : decide ((i : Int) < (l.length : Int)) = true := decide_eq_true (by omega)
        have p1 : (0 ≤ (i : Int)) = True := eq_true (Int.natCast_nonneg i)
        have p2 : ((i : Int) < (l.length : Int)) = True := eq_true (by omega)
        have p3 : (i < l.length) = True := eq_true hi
        have HI2 := Aside0.mk hi
        clear hi
        by_cases him : (i : Int) < m
        · have him0 : decide ((i : Int) < m) = true := decide_eq_true him
          have him1 : ((i : Int) < m) = True := eq_true him
          have HI3 := Aside0.mk him
          clear him
          obtain ⟨e, he⟩ : ∃ e, e = entP (rd l (i : Int)) := ⟨_, rfl⟩
          have HRG : Aside0 (-9223372036854775808 ≤ rd l (i : Int) ∧ rd l (i : Int) ≤ 9223372036854775807) := ⟨HI.out _ (by
            rw [rd]
            simp only [Int.toNat_natCast, List.getD_eq_getElem?_getD, List.getElem?_eq_getElem HI2.out, Option.getD_some]
            exact List.getElem_mem _)⟩
          have HEF : Aside0 (roundhouselaw6_Entry.f 2 (rd l (i : Int)) = some (e.k, e.s, e.a, e.b, e.c, e.x, e.y)) := ⟨by rw [he]; exact (entP_spec _ HRG.out).1⟩
          have HWE : Aside0 (WFE e) := ⟨by rw [he]; exact (entP_spec _ HRG.out).2⟩
          have HD : Aside0 ((l.take m.toNat).drop i = rd l (i : Int) :: (l.take m.toNat).drop (i + 1)) := ⟨by
            have h1 : i < (l.take m.toNat).length := by rw [List.length_take]; have h_ := HI2.out; have h2_ := HI3.out; omega
            rw [List.drop_eq_getElem_cons h1, List.getElem_take]
            congr 1
            rw [rd]
            simp only [Int.toNat_natCast, List.getD_eq_getElem?_getD, List.getElem?_eq_getElem HI2.out, Option.getD_some]⟩
          have HE := Aside0.mk he
          clear he
          obtain ⟨q1, hq1⟩ : ∃ q1, q1 = (apE q e).1 := ⟨_, rfl⟩
          obtain ⟨er, her⟩ : ∃ er, er = (apE q e).2 := ⟨_, rfl⟩
          have HQ1 : Aside0 (q1.sl.length = 64) := ⟨by rw [hq1]; exact apE_len q e HQ.out⟩
          have Hq1 := Aside0.mk hq1
          have Her := Aside0.mk her
          clear hq1 her
          obtain ⟨ad, hA, hx⟩ := Kd.at_int (Kd.C_below HC.out H.out.below) (i : Int) (Int.natCast_nonneg i) (by have h_ := HI2.out; omega)
          cases hA
          have HCX : Aside0 (∀ W, Below w0.heap.size w0 W → W.cell? (ad.add i) = some (.int .i64 (rd l (i : Int)))) := ⟨fun W hW => by
            obtain ⟨ad', hA', hx'⟩ := Kd.at_int (Kd.C_below HC.out hW) (i : Int) (Int.natCast_nonneg i) (by have h_ := HI2.out; omega)
            cases hA'
            rw [Int.toNat_natCast] at hx'
            exact hx'⟩
          clear hx
          go_upto_region 5 with fail
          have n_ : Aside0 (MS w0 r g _ _ wr.drew) := ⟨H.out.by_below (below_drew1 (Below.refl _ _))⟩
          clear H
          have H := n_
          clear n_
          refine start_ (n := 13) (S := fun w' => Blk w' g 33 (pcs q) ∧ w'.cell? (ad.add i) = some (.int .i64 (rd l (i : Int)))) (ds := []) #[false, false, false, false, false, false, false, false, false, false, false, false, false] (by kernel_rfl) rfl rfl ⟨H.out.hg, HCX.out _ H.out.below⟩ (fun hHeld => ?_)
          generalize wr.drew = wB at H hHeld ⊢
          refine pure_ (i := 1) (N := some 29) (v := ?_) (a' := ?_) #[false, true, false, false, false, false, false, false, false, false, false, false, false] rfl rfl (by kernel_rfl) (fun _ _ _ h => h) (Or.inl ⟨by rfl, ?_⟩) ?_ ?_
          rotate_left
          · intro w'
            go_simp
            with_reducible rfl
          rotate_left
          · simp only [Act.put, List.setIfInBounds_toArray, List.set_cons_zero, List.set_cons_succ, i64_w, i32_w]
            rfl
          refine pure_ (i := 2) (N := some 30) (v := ?_) (a' := ?_) #[false, true, true, false, false, false, false, false, false, false, false, false, false] rfl rfl (by kernel_rfl) (fun _ _ _ h => h) (Or.inl ⟨by rfl, ?_⟩) ?_ ?_
          rotate_left
          · intro w'
            go_simp
            with_reducible rfl
          rotate_left
          · simp only [Act.put, List.setIfInBounds_toArray, List.set_cons_zero, List.set_cons_succ, i64_w, i32_w]
            rfl
          refine pure_ (i := 3) (N := some 31) (v := ?_) (a' := ?_) #[false, true, true, true, false, false, false, false, false, false, false, false, false] rfl rfl (by kernel_rfl) (fun _ _ _ h => h) (Or.inl ⟨by rfl, ?_⟩) ?_ ?_
          rotate_left
          · intro w'
            go_simp
            with_reducible rfl
          rotate_left
          · simp only [Act.put, List.setIfInBounds_toArray, List.set_cons_zero, List.set_cons_succ, i64_w, i32_w]
            rfl
          refine take_ (i := 0) (N := some 28) (v := ?_) (a' := ?_) #[true, true, true, true, false, false, false, false, false, false, false, false, false] rfl rfl (by kernel_rfl) (fun _ _ _ h => h) (Or.inl ⟨by rfl, ?_⟩) hHeld ?_ ?_
          rotate_left
          · intro w' hs
            refine (run_ld33 _ _ w' g q (.tmp 5) ?_ ?_ hs.1 HQ.out).trans ?_
            · rfl
            · rfl
            · with_reducible rfl
          rotate_left
          · simp only [Act.put, List.setIfInBounds_toArray, List.set_cons_zero, List.set_cons_succ, i64_w, i32_w]
            rfl
          refine take_ (i := 4) (N := some 32) (v := ?_) (a' := ?_) #[true, true, true, true, true, false, false, false, false, false, false, false, false] rfl rfl (by kernel_rfl) (fun _ _ _ h => h) (Or.inl ⟨by rfl, ?_⟩) hHeld ?_ ?_
          rotate_left
          · rintro w' ⟨s0, s1⟩
            go_simp
            with_reducible rfl
          rotate_left
          · simp only [Act.put, List.setIfInBounds_toArray, List.set_cons_zero, List.set_cons_succ, i64_w, i32_w]
            rfl
          refine join_ (σ := Nat) 2 #[true, true, true, true, true, true, true, true, true, true, true, false, false] (fun s_ => [(33, .agg #[.int .i64 e.k, .int .i64 e.s, .int .i64 e.a, .int .i64 e.b, .int .i64 e.c, .int .u64 e.x, .int .u64 e.y]), (34, .tuple #[.agg (pcs q1), .int .i64 er]), (27, .tuple #[.agg (pcs q1), .int .i64 er]), (35, .agg (pcs q1)), (36, .int .i64 er), (8, .pointer (some ⟨s_, 0, none⟩))]) (fun s_ w' => (Blk w' g 33 (pcs q) ∧ w'.cell? (ad.add i) = some (.int .i64 (rd l (i : Int)))) ∧ MS w0 r g (pcs zeroP) (pcs q) w' ∧ Blk w' s_ 33 (pcs zeroP) ∧ g < s_) ?_ ?_
          rotate_left
          · intro hCont
            refine two_ (i := 5) (j := 10) (Ni := some 33) (Nj := some 8) #[true, true, true, true, true, true, false, false, false, false, false, false, false] #[true, true, true, true, true, false, false, false, false, false, true, false, false] rfl rfl rfl rfl (by kernel_rfl) (by decide) (by decide) (fun K hK => ?_) (fun K hK => ?_)
            · skip
              refine goes_ Try.func29 (by kernel_rfl) rfl #[.int .i64 (rd l (i : Int))] (by rfl) rfl rfl (by simp only [List.map_toArray, List.map_cons, List.map_nil]; rfl) ?_
              refine (roundhouselaw6_Entry.calls 2 _ _ _ _ _ _ _ _ _ HEF.out).mono ?_
              rintro e_ wE0 ⟨rfl, hb_⟩
              refine ⟨_, rfl, ?_⟩
              have n_ := Aside0.mk (H.out.by_below hb_)
              clear H hHeld
              have H := n_
              clear n_ hb_
              refine hK.out _ _ ⟨H.out.hg, HCX.out _ H.out.below⟩ (fun hHeld => ?_)
              clear hK K
              refine norm_ (a' := ?_) ?_ ?_
              rotate_left
              · show Act.put _ (some 33) _ = _
                simp only [Act.put, List.setIfInBounds_toArray, List.set_cons_zero, List.set_cons_succ, i64_w, i32_w]
                rfl
              refine two_ (i := 6) (j := 10) (Ni := some 34) (Nj := some 8) #[true, true, true, true, true, true, true, false, false, false, false, false, false] #[true, true, true, true, true, true, false, false, false, false, true, false, false] rfl rfl rfl rfl (by kernel_rfl) (by decide) (by decide) (fun K hK => ?_) (fun K hK => ?_)
              · skip
                refine goes_ Try.func24 (by kernel_rfl) rfl #[.agg (pcs q), .agg #[.int .i64 e.k, .int .i64 e.s, .int .i64 e.a, .int .i64 e.b, .int .i64 e.c, .int .u64 e.x, .int .u64 e.y]] (by rfl) rfl rfl (by simp only [List.map_toArray, List.map_cons, List.map_nil]; rfl) ?_
                refine (apE_calls q HQ.out e HWE.out _).mono ?_
                rw [← Hq1.out, ← Her.out]
                rintro e_ wC1 ⟨rfl, hb_⟩
                refine ⟨_, rfl, ?_⟩
                have n_ := Aside0.mk (H.out.by_below hb_)
                clear H hHeld
                have H := n_
                clear n_ hb_
                refine hK.out _ _ ⟨H.out.hg, HCX.out _ H.out.below⟩ (fun hHeld => ?_)
                clear hK K
                refine norm_ (a' := ?_) ?_ ?_
                rotate_left
                · show Act.put _ (some 34) _ = _
                  simp only [Act.put, List.setIfInBounds_toArray, List.set_cons_zero, List.set_cons_succ, i64_w, i32_w]
                  rfl
                refine pure_ (i := 7) (N := some 27) (v := ?_) (a' := ?_) #[true, true, true, true, true, true, true, true, false, false, false, false, false] rfl rfl (by kernel_rfl) (fun _ _ _ h => h) (Or.inl ⟨by rfl, ?_⟩) ?_ ?_
                rotate_left
                · intro w'
                  go_simp
                  with_reducible rfl
                rotate_left
                · simp only [Act.put, List.setIfInBounds_toArray, List.set_cons_zero, List.set_cons_succ, i64_w, i32_w]
                  rfl
                refine pure_ (i := 8) (N := some 35) (v := ?_) (a' := ?_) #[true, true, true, true, true, true, true, true, true, false, false, false, false] rfl rfl (by kernel_rfl) (fun _ _ _ h => h) (Or.inl ⟨by rfl, ?_⟩) ?_ ?_
                rotate_left
                · intro w'
                  go_simp
                  with_reducible rfl
                rotate_left
                · simp only [Act.put, List.setIfInBounds_toArray, List.set_cons_zero, List.set_cons_succ, i64_w, i32_w]
                  rfl
                refine pure_ (i := 9) (N := some 36) (v := ?_) (a' := ?_) #[true, true, true, true, true, true, true, true, true, true, false, false, false] rfl rfl (by kernel_rfl) (fun _ _ _ h => h) (Or.inl ⟨by rfl, ?_⟩) ?_ ?_
                rotate_left
                · intro w'
                  go_simp
                  with_reducible rfl
                rotate_left
                · simp only [Act.put, List.setIfInBounds_toArray, List.set_cons_zero, List.set_cons_succ, i64_w, i32_w]
                  rfl
                refine one_ (i := 10) (N := some 8) #[true, true, true, true, true, true, true, true, true, true, true, false, false] rfl rfl (by kernel_rfl) (by decide) (fun K hK => ?_)
                refine box_step (by rfl) (N := 8) rfl (run33 _ _ _ rfl) ?_
                intro s8 hs8 wA2 hb_ hB_
                have HLT : Aside0 (g < s8) := ⟨by rw [hs8]; exact H.out.hg.lt⟩
                have HS8 : Aside0 (Blk wA2 s8 33 (pcs zeroP)) := ⟨hb_⟩
                have n_ := Aside0.mk (H.out.by_below hB_)
                clear H hHeld hb_ hB_ hs8
                have H := n_
                clear n_
                refine hK.out _ _ ⟨H.out.hg, HCX.out _ H.out.below⟩ (fun hHeld => ?_)
                clear hK K
                refine norm_ (a' := ?_) ?_ ?_
                rotate_left
                · show Act.put _ (some 8) _ = _
                  simp only [Act.put, List.setIfInBounds_toArray, List.set_cons_zero, List.set_cons_succ, i64_w, i32_w]
                  rfl
                exact norm_ (by simp only [putAll, Act.put, List.setIfInBounds_toArray, List.set_cons_zero, List.set_cons_succ]) (hCont s8 _ ⟨hHeld, H.out, HS8.out, HLT.out⟩)
              · skip
                refine box_step (by rfl) (N := 8) rfl (run33 _ _ _ rfl) ?_
                intro s8 hs8 wA1 hb_ hB_
                have HLT : Aside0 (g < s8) := ⟨by rw [hs8]; exact H.out.hg.lt⟩
                have HS8 : Aside0 (Blk wA1 s8 33 (pcs zeroP)) := ⟨hb_⟩
                have n_ := Aside0.mk (H.out.by_below hB_)
                clear H hHeld hb_ hB_ hs8
                have H := n_
                clear n_
                refine hK.out _ _ ⟨H.out.hg, HCX.out _ H.out.below⟩ (fun hHeld => ?_)
                clear hK K
                refine norm_ (a' := ?_) ?_ ?_
                rotate_left
                · show Act.put _ (some 8) _ = _
                  simp only [Act.put, List.setIfInBounds_toArray, List.set_cons_zero, List.set_cons_succ, i64_w, i32_w]
                  rfl
                refine one_ (i := 6) (N := some 34) #[true, true, true, true, true, true, true, false, false, false, true, false, false] rfl rfl (by kernel_rfl) (by decide) (fun K hK => ?_)
                refine goes_ Try.func24 (by kernel_rfl) rfl #[.agg (pcs q), .agg #[.int .i64 e.k, .int .i64 e.s, .int .i64 e.a, .int .i64 e.b, .int .i64 e.c, .int .u64 e.x, .int .u64 e.y]] (by rfl) rfl rfl (by simp only [List.map_toArray, List.map_cons, List.map_nil]; rfl) ?_
                refine (apE_calls q HQ.out e HWE.out _).mono ?_
                rw [← Hq1.out, ← Her.out]
                rintro e_ wC2 ⟨rfl, hb_⟩
                refine ⟨_, rfl, ?_⟩
                have n_ := Aside0.mk (H.out.by_below hb_)
                have m_ := Aside0.mk (HS8.out.below hb_)
                clear HS8
                have HS8 := m_
                clear m_
                clear H hHeld
                have H := n_
                clear n_ hb_
                refine hK.out _ _ ⟨H.out.hg, HCX.out _ H.out.below⟩ (fun hHeld => ?_)
                clear hK K
                refine norm_ (a' := ?_) ?_ ?_
                rotate_left
                · show Act.put _ (some 34) _ = _
                  simp only [Act.put, List.setIfInBounds_toArray, List.set_cons_zero, List.set_cons_succ, i64_w, i32_w]
                  rfl
                refine pure_ (i := 7) (N := some 27) (v := ?_) (a' := ?_) #[true, true, true, true, true, true, true, true, false, false, true, false, false] rfl rfl (by kernel_rfl) (fun _ _ _ h => h) (Or.inl ⟨by rfl, ?_⟩) ?_ ?_
                rotate_left
                · intro w'
                  go_simp
                  with_reducible rfl
                rotate_left
                · simp only [Act.put, List.setIfInBounds_toArray, List.set_cons_zero, List.set_cons_succ, i64_w, i32_w]
                  rfl
                refine pure_ (i := 8) (N := some 35) (v := ?_) (a' := ?_) #[true, true, true, true, true, true, true, true, true, false, true, false, false] rfl rfl (by kernel_rfl) (fun _ _ _ h => h) (Or.inl ⟨by rfl, ?_⟩) ?_ ?_
                rotate_left
                · intro w'
                  go_simp
                  with_reducible rfl
                rotate_left
                · simp only [Act.put, List.setIfInBounds_toArray, List.set_cons_zero, List.set_cons_succ, i64_w, i32_w]
                  rfl
                refine pure_ (i := 9) (N := some 36) (v := ?_) (a' := ?_) #[true, true, true, true, true, true, true, true, true, true, true, false, false] rfl rfl (by kernel_rfl) (fun _ _ _ h => h) (Or.inl ⟨by rfl, ?_⟩) ?_ ?_
                rotate_left
                · intro w'
                  go_simp
                  with_reducible rfl
                rotate_left
                · simp only [Act.put, List.setIfInBounds_toArray, List.set_cons_zero, List.set_cons_succ, i64_w, i32_w]
                  rfl
                exact norm_ (by simp only [putAll, Act.put, List.setIfInBounds_toArray, List.set_cons_zero, List.set_cons_succ]) (hCont s8 _ ⟨hHeld, H.out, HS8.out, HLT.out⟩)
            · skip
              refine box_step (by rfl) (N := 8) rfl (run33 _ _ _ rfl) ?_
              intro s8 hs8 wA0 hb_ hB_
              have HLT : Aside0 (g < s8) := ⟨by rw [hs8]; exact H.out.hg.lt⟩
              have HS8 : Aside0 (Blk wA0 s8 33 (pcs zeroP)) := ⟨hb_⟩
              have n_ := Aside0.mk (H.out.by_below hB_)
              clear H hHeld hb_ hB_ hs8
              have H := n_
              clear n_
              refine hK.out _ _ ⟨H.out.hg, HCX.out _ H.out.below⟩ (fun hHeld => ?_)
              clear hK K
              refine norm_ (a' := ?_) ?_ ?_
              rotate_left
              · show Act.put _ (some 8) _ = _
                simp only [Act.put, List.setIfInBounds_toArray, List.set_cons_zero, List.set_cons_succ, i64_w, i32_w]
                rfl
              refine one_ (i := 5) (N := some 33) #[true, true, true, true, true, true, false, false, false, false, true, false, false] rfl rfl (by kernel_rfl) (by decide) (fun K hK => ?_)
              refine goes_ Try.func29 (by kernel_rfl) rfl #[.int .i64 (rd l (i : Int))] (by rfl) rfl rfl (by simp only [List.map_toArray, List.map_cons, List.map_nil]; rfl) ?_
              refine (roundhouselaw6_Entry.calls 2 _ _ _ _ _ _ _ _ _ HEF.out).mono ?_
              rintro e_ wE1 ⟨rfl, hb_⟩
              refine ⟨_, rfl, ?_⟩
              have n_ := Aside0.mk (H.out.by_below hb_)
              have m_ := Aside0.mk (HS8.out.below hb_)
              clear HS8
              have HS8 := m_
              clear m_
              clear H hHeld
              have H := n_
              clear n_ hb_
              refine hK.out _ _ ⟨H.out.hg, HCX.out _ H.out.below⟩ (fun hHeld => ?_)
              clear hK K
              refine norm_ (a' := ?_) ?_ ?_
              rotate_left
              · show Act.put _ (some 33) _ = _
                simp only [Act.put, List.setIfInBounds_toArray, List.set_cons_zero, List.set_cons_succ, i64_w, i32_w]
                rfl
              refine one_ (i := 6) (N := some 34) #[true, true, true, true, true, true, true, false, false, false, true, false, false] rfl rfl (by kernel_rfl) (by decide) (fun K hK => ?_)
              refine goes_ Try.func24 (by kernel_rfl) rfl #[.agg (pcs q), .agg #[.int .i64 e.k, .int .i64 e.s, .int .i64 e.a, .int .i64 e.b, .int .i64 e.c, .int .u64 e.x, .int .u64 e.y]] (by rfl) rfl rfl (by simp only [List.map_toArray, List.map_cons, List.map_nil]; rfl) ?_
              refine (apE_calls q HQ.out e HWE.out _).mono ?_
              rw [← Hq1.out, ← Her.out]
              rintro e_ wC2 ⟨rfl, hb_⟩
              refine ⟨_, rfl, ?_⟩
              have n_ := Aside0.mk (H.out.by_below hb_)
              have m_ := Aside0.mk (HS8.out.below hb_)
              clear HS8
              have HS8 := m_
              clear m_
              clear H hHeld
              have H := n_
              clear n_ hb_
              refine hK.out _ _ ⟨H.out.hg, HCX.out _ H.out.below⟩ (fun hHeld => ?_)
              clear hK K
              refine norm_ (a' := ?_) ?_ ?_
              rotate_left
              · show Act.put _ (some 34) _ = _
                simp only [Act.put, List.setIfInBounds_toArray, List.set_cons_zero, List.set_cons_succ, i64_w, i32_w]
                rfl
              refine pure_ (i := 7) (N := some 27) (v := ?_) (a' := ?_) #[true, true, true, true, true, true, true, true, false, false, true, false, false] rfl rfl (by kernel_rfl) (fun _ _ _ h => h) (Or.inl ⟨by rfl, ?_⟩) ?_ ?_
              rotate_left
              · intro w'
                go_simp
                with_reducible rfl
              rotate_left
              · simp only [Act.put, List.setIfInBounds_toArray, List.set_cons_zero, List.set_cons_succ, i64_w, i32_w]
                rfl
              refine pure_ (i := 8) (N := some 35) (v := ?_) (a' := ?_) #[true, true, true, true, true, true, true, true, true, false, true, false, false] rfl rfl (by kernel_rfl) (fun _ _ _ h => h) (Or.inl ⟨by rfl, ?_⟩) ?_ ?_
              rotate_left
              · intro w'
                go_simp
                with_reducible rfl
              rotate_left
              · simp only [Act.put, List.setIfInBounds_toArray, List.set_cons_zero, List.set_cons_succ, i64_w, i32_w]
                rfl
              refine pure_ (i := 9) (N := some 36) (v := ?_) (a' := ?_) #[true, true, true, true, true, true, true, true, true, true, true, false, false] rfl rfl (by kernel_rfl) (fun _ _ _ h => h) (Or.inl ⟨by rfl, ?_⟩) ?_ ?_
              rotate_left
              · intro w'
                go_simp
                with_reducible rfl
              rotate_left
              · simp only [Act.put, List.setIfInBounds_toArray, List.set_cons_zero, List.set_cons_succ, i64_w, i32_w]
                rfl
              exact norm_ (by simp only [putAll, Act.put, List.setIfInBounds_toArray, List.set_cons_zero, List.set_cons_succ]) (hCont s8 _ ⟨hHeld, H.out, HS8.out, HLT.out⟩)
          rintro s8 wD ⟨hHeld, h1_, h2_, h3_⟩
          clear H
          have H := Aside0.mk h1_
          have HS8 := Aside0.mk h2_
          have HLT := Aside0.mk h3_
          clear h1_ h2_ h3_
          refine norm_ (a' := ?_) ?_ ?_
          rotate_left
          · simp only [putAll, Act.put, List.setIfInBounds_toArray, List.set_cons_zero, List.set_cons_succ]
            rfl
          refine one_ (i := 11) (N := none) #[true, true, true, true, true, true, true, true, true, true, true, true, false] rfl rfl (by kernel_rfl) (by decide) (fun K hK => ?_)
          refine skip_ (w1 := wD.setCells s8 0 (pcells q1)) (by rfl) rfl (run_st33 _ _ _ s8 _ q1 (.tmp 8) (.tmp 35) rfl rfl rfl HS8.out (pcs_size _ zeroP_len) HQ1.out) ?_
          have n_ := Aside0.mk (H.out.stS HLT.out (setCells_grown (pcells q1) 0 wD s8))
          have m_ := Aside0.mk (st33_blk q1 HS8.out (pcs_size _ zeroP_len) HQ1.out)
          clear H HS8 hHeld
          generalize wD.setCells s8 0 (pcells q1) = wE at n_ m_ ⊢
          have H := n_
          have HS8 := m_
          clear n_ m_
          refine hK.out _ _ ⟨H.out.hg, HCX.out _ H.out.below⟩ (fun hHeld => ?_)
          clear hK K
          refine pure_ (i := 12) (N := some 9) (v := ?_) (a' := ?_) #[true, true, true, true, true, true, true, true, true, true, true, true, true] rfl rfl (by kernel_rfl) (fun _ _ _ h => h) (Or.inl ⟨by rfl, ?_⟩) ?_ ?_
          rotate_left
          · intro w'
            go_simp
            with_reducible rfl
          rotate_left
          · simp only [Act.put, List.setIfInBounds_toArray, List.set_cons_zero, List.set_cons_succ, i64_w, i32_w]
            rfl
          refine done_ (by kernel_rfl) ?_
          clear hHeld
          by_cases h0 : er = 0
          · have hc : (er == 0) = true := by simp [h0]
            have HN : Aside0 (mkP q1 ((l.take m.toNat).drop (i + 1)) = make6 l m) := ⟨by
              rw [← HA.out, HD.out]
              show _ = mkP (if (apE q (entP (rd l (i : Int)))).2 = 0 then _ else _) _
              rw [← HE.out, ← Her.out, if_pos h0, ← Hq1.out]⟩
            clear h0
            go_wp2_with (first | ((with_reducible refine gate_dst (N := 39) rfl ?_); refine pl_load (N := 39) rfl rfl (.tmp 8) rfl rfl HS8.out HQ1.out ?_) | ((with_reducible refine gate_store (t := 33) (p := 5) rfl ?_); refine pl_store rfl rfl (.tmp 5) (.tmp 39) rfl rfl rfl H.out.hg (pcs_size _ HQ.out) HQ1.out ?_; intro wF hb_ hg_; have n_ := Aside0.mk (H.out.stG hb_ hg_); clear H hb_ hg_; have H := n_; clear n_))
            go_roundg k1
            case measure => omega
            case rel => exact ⟨i + 1, q1, by rw [show wrap64 ((i : Int) + 1) = ((i + 1 : Nat) : Int) from by unfold wrap64; have h_ := HI3.out; have h2_ := HM.out; omega], ⟨by have h_ := HK.out; have h2_ := HI2.out; have h3_ := HI3.out; omega⟩, HQ1, HN, H⟩
          · have hc : (er == 0) = false := by simp [h0]
            have HN : Aside0 (mkP q ((l.take m.toNat).drop (i + 1)) = make6 l m) := ⟨by
              rw [← HA.out, HD.out]
              show _ = mkP (if (apE q (entP (rd l (i : Int)))).2 = 0 then _ else _) _
              rw [← HE.out, ← Her.out, if_neg h0]⟩
            clear h0
            go_wp2_with fail
            go_roundg k1
            case measure => omega
            case rel => exact ⟨i + 1, q, by rw [show wrap64 ((i : Int) + 1) = ((i + 1 : Nat) : Int) from by unfold wrap64; have h_ := HI3.out; have h2_ := HM.out; omega], ⟨by have h_ := HK.out; have h2_ := HI2.out; have h3_ := HI3.out; omega⟩, HQ, HN, H⟩
        · have him0 : decide ((i : Int) < m) = false := decide_eq_false him
          have HN : Aside0 (make6 l m = q) := ⟨by
            rw [← HA.out, List.drop_eq_nil_of_le (by rw [List.length_take]; omega)]
            rfl⟩
          clear him
          go_wp2_with (first | ((with_reducible refine gate_dst (N := 40) rfl ?_); refine pl_load (N := 40) rfl rfl (.tmp 5) rfl rfl H.out.hg HQ.out ?_) | ((with_reducible refine gate_store (t := 33) (p := 4) rfl ?_); refine pl_store rfl rfl (.tmp 4) (.tmp 40) rfl rfl rfl H.out.hr (pcs_size _ zeroP_len) HQ.out ?_; intro wF hb_ hg_; have n_ := Aside0.mk (H.out.stR hb_ hg_); clear H hb_ hg_; have H := n_; clear n_))
          refine bodyPost_ret (results_cell_row rfl _ _ r 33 (pcs q) (0, 0) _ rfl H.out.hr pool33 rfl (size33 _ HQ.out)) rfl ?_
          exact ⟨by rw [HN.out], H.out.below⟩
      · have hi0 : decide ((i : Int) < (l.length : Int)) = false := decide_eq_false (by omega)
        have hi1 : (i < l.length) = False := eq_false hi
        have HN : Aside0 (make6 l m = q) := ⟨by
          rw [← HA.out, List.drop_eq_nil_of_le (by rw [List.length_take]; omega)]
          rfl⟩
        clear hi
        go_wp2_with (first | ((with_reducible refine gate_dst (N := 40) rfl ?_); refine pl_load (N := 40) rfl rfl (.tmp 5) rfl rfl H.out.hg HQ.out ?_) | ((with_reducible refine gate_store (t := 33) (p := 4) rfl ?_); refine pl_store rfl rfl (.tmp 4) (.tmp 40) rfl rfl rfl H.out.hr (pcs_size _ zeroP_len) HQ.out ?_; intro wF hb_ hg_; have n_ := Aside0.mk (H.out.stR hb_ hg_); clear H hb_ hg_; have H := n_; clear n_))
        refine bodyPost_ret (results_cell_row rfl _ _ r 33 (pcs q) (0, 0) _ rfl H.out.hr pool33 rfl (size33 _ HQ.out)) rfl ?_
        exact ⟨by rw [HN.out], H.out.below⟩
end Go.Proofs.Ytnffajpnffibaaa.Own
