/-
  The walk of cookie.Key: the key of an epoch, of three.
-/
import Derived.Test.YtnaplobnkmdfbaaQ0
import Derived.Laws.CopyOwn
import Derived.Test.YtnaplobnkmdfbaaSipG
import Derived.Laws.BitsAllLaws
import Derived.Laws.Bits128
import Derived.OpenShut
namespace Go.Proofs.Ytnaplobnkmdfbaa.Own
open Go.RowKit Go.Proofs.YtnaplobnkmdfbaaW.PrintWords Go.Proofs.YtnaplobnkmdfbaaW.PrintMore Go.Proofs.YtnaplobnkmdfbaaW.PrintLast Go.Proofs.Ytnaplobnkmdfbaa.Q
set_option linter.unusedVariables false
set_option linter.unusedSimpArgs false

/-- An epoch's bits. -/
def turn4 (x : Int) : Int := Go.bits .and .i64 x 3
theorem turn41 (x : Int) (w : World) : Calls Try.prog 41 #[.int .i64 x] w fun e w' => e = .returned (.int .i64 (turn4 x)) ∧ w = w' := by
  go_enter Try.func41, Try.ntmps41
  go_wp2
  go_ret
  exact ⟨rfl, rfl⟩
/-- The one of three that is an epoch's. -/
def keyAt (a b c d e f first epoch : Int) : Int × Int × Bool :=
  if turn4 (wrap64 first) = turn4 epoch then (a, b, true)
  else if turn4 (wrap64 (first + 1)) = turn4 epoch then (c, d, true)
  else if turn4 (wrap64 (first + 2)) = turn4 epoch then (e, f, true)
  else (0, 0, false)
theorem idx0 (a b c d e f : Int) (w : World) : (Instr.index 73 (.agg #[.int .u64 a, .int .u64 b, .int .u64 c, .int .u64 d, .int .u64 e, .int .u64 f]) (.int .i64 0)).run Try.prog w = .ok (.agg #[.int .u64 a, .int .u64 b]) w := by kernel_rfl
theorem idx1 (a b c d e f : Int) (w : World) : (Instr.index 73 (.agg #[.int .u64 a, .int .u64 b, .int .u64 c, .int .u64 d, .int .u64 e, .int .u64 f]) (.int .i64 1)).run Try.prog w = .ok (.agg #[.int .u64 c, .int .u64 d]) w := by kernel_rfl
theorem idx2 (a b c d e f : Int) (w : World) : (Instr.index 73 (.agg #[.int .u64 a, .int .u64 b, .int .u64 c, .int .u64 d, .int .u64 e, .int .u64 f]) (.int .i64 2)).run Try.prog w = .ok (.agg #[.int .u64 e, .int .u64 f]) w := by kernel_rfl
set_option maxHeartbeats 4000000 in
theorem at50 (a b c d e f first epoch : Int) (w : World) : Calls Try.prog 50 #[.agg #[.int .u64 a, .int .u64 b, .int .u64 c, .int .u64 d, .int .u64 e, .int .u64 f], .int .i64 first, .int .i64 epoch] w
    fun e' w' => e' = .returned (.tuple #[.agg #[.int .u64 (keyAt a b c d e f first epoch).1, .int .u64 (keyAt a b c d e f first epoch).2.1], .bool (keyAt a b c d e f first epoch).2.2]) ∧ Below w.heap.size w w' := by
  obtain ⟨r, hr⟩ : ∃ r, r = keyAt a b c d e f first epoch := ⟨_, rfl⟩
  rw [← hr]
  have HR := Aside0.mk hr
  clear hr
  have x0 := idx0 a b c d e f
  have x1 := idx1 a b c d e f
  have x2 := idx2 a b c d e f
  go_enter Try.func50, Try.ntmps50
  go_wp2
  have HR1 := Aside0.mk (show (w.alloc (.cells #[.int .u64 a, .int .u64 b, .int .u64 c, .int .u64 d, .int .u64 e, .int .u64 f] 73)).heap.size = w.heap.size + 1 from by simp)
  go_loopw [12] (fun v12 wr => ∃ k : Nat, k ≤ 3 ∧ v12 = .int .i64 k ∧ Aside0 (Below w.heap.size w wr) ∧ Aside0 (wr.heap[w.heap.size + 1]? = some (.cells #[.int .u64 0, .int .u64 0] 25 (0, 0))) ∧ Aside0 (∀ i : Nat, i < k → ¬ turn4 (wrap64 (first + i)) = turn4 epoch)) (fun v12 _ => 3 - (intOf v12).toNat)
  case atStart => exact ⟨0, by omega, rfl, ⟨below_alloc (below_alloc (Below.refl _ _) _) _⟩, ⟨by rw [← HR1.out]; exact heap_alloc_new _ _⟩, ⟨fun i hi => absurd hi (by omega)⟩⟩
  case round =>
    obtain ⟨k, hk, rfl, HB, HN, HF⟩ := hrel
    have BO : Aside0 (∀ o, (wr.alloc o).heap[w.heap.size + 1]? = some (.cells #[.int .u64 0, .int .u64 0] 25 (0, 0))) := ⟨fun o => blk_below HN.out (below_alloc (Below.refl _ _) o)⟩
    by_cases hlt : k < 3
    · by_cases he : turn4 (wrap64 (first + k)) = turn4 epoch
      · have he2 := Aside0.mk he
        clear he
        rcases (show k = 0 ∨ k = 1 ∨ k = 2 by omega) with rfl | rfl | rfl
        · have b0 := fun o => (blk_cell (BO.out o) 0).trans rfl; have b1 := fun o => (blk_cell (BO.out o) 1).trans rfl; have f0 := fun o => blk_frozen (BO.out o) 0; have f1 := fun o => blk_frozen (BO.out o) 1
          have he' : (turn4 (wrap64 first) == turn4 epoch) = true := by simpa using he2.out
          go_wp2_with (go_at_call 41; refine (turn41 _ _).mono ?_; rintro e' w' ⟨rfl, rfl⟩)
          refine bodyPost_ret (results_ct rfl _ _ (w.heap.size + 1) 25 #[.int .u64 a, .int .u64 b] (0, 0) _ rfl (by refine blk_put (cs := #[.int .u64 a, .int .u64 0]) ?_ 1 _ rfl; refine blk_put (cs := #[.int .u64 0, .int .u64 0]) ?_ 0 _ rfl; exact BO.out _) Try.underlying25 rfl (by kernel_rfl)) rfl ?_
          exact ⟨by rw [HR.out, keyAt, if_pos (by simpa using he2.out)]; rfl, by repeat (first | exact HB.out | apply below_alloc | (refine below_set ?_ (Nat.le_add_right _ _)))⟩
        · have b0 := fun o => (blk_cell (BO.out o) 0).trans rfl; have b1 := fun o => (blk_cell (BO.out o) 1).trans rfl; have f0 := fun o => blk_frozen (BO.out o) 0; have f1 := fun o => blk_frozen (BO.out o) 1
          have he' : (turn4 (wrap64 (first + 1)) == turn4 epoch) = true := by simpa using he2.out
          go_wp2_with (go_at_call 41; refine (turn41 _ _).mono ?_; rintro e' w' ⟨rfl, rfl⟩)
          refine bodyPost_ret (results_ct rfl _ _ (w.heap.size + 1) 25 #[.int .u64 c, .int .u64 d] (0, 0) _ rfl (by refine blk_put (cs := #[.int .u64 c, .int .u64 0]) ?_ 1 _ rfl; refine blk_put (cs := #[.int .u64 0, .int .u64 0]) ?_ 0 _ rfl; exact BO.out _) Try.underlying25 rfl (by kernel_rfl)) rfl ?_
          exact ⟨by rw [HR.out, keyAt, if_neg (by simpa using HF.out 0 (by decide)), if_pos (by simpa using he2.out)]; rfl, by repeat (first | exact HB.out | apply below_alloc | (refine below_set ?_ (Nat.le_add_right _ _)))⟩
        · have b0 := fun o => (blk_cell (BO.out o) 0).trans rfl; have b1 := fun o => (blk_cell (BO.out o) 1).trans rfl; have f0 := fun o => blk_frozen (BO.out o) 0; have f1 := fun o => blk_frozen (BO.out o) 1
          have he' : (turn4 (wrap64 (first + 2)) == turn4 epoch) = true := by simpa using he2.out
          go_wp2_with (go_at_call 41; refine (turn41 _ _).mono ?_; rintro e' w' ⟨rfl, rfl⟩)
          refine bodyPost_ret (results_ct rfl _ _ (w.heap.size + 1) 25 #[.int .u64 e, .int .u64 f] (0, 0) _ rfl (by refine blk_put (cs := #[.int .u64 e, .int .u64 0]) ?_ 1 _ rfl; refine blk_put (cs := #[.int .u64 0, .int .u64 0]) ?_ 0 _ rfl; exact BO.out _) Try.underlying25 rfl (by kernel_rfl)) rfl ?_
          exact ⟨by rw [HR.out, keyAt, if_neg (by simpa using HF.out 0 (by decide)), if_neg (by simpa using HF.out 1 (by decide)), if_pos (by simpa using he2.out)]; rfl, by repeat (first | exact HB.out | apply below_alloc | (refine below_set ?_ (Nat.le_add_right _ _)))⟩
      · have he2 := Aside0.mk he
        clear he
        rcases (show k = 0 ∨ k = 1 ∨ k = 2 by omega) with rfl | rfl | rfl
        · have he' : (turn4 (wrap64 first) == turn4 epoch) = false := by simpa using he2.out
          go_wp2_with (go_at_call 41; refine (turn41 _ _).mono ?_; rintro e' w' ⟨rfl, rfl⟩)
          go_roundw
          case rel => exact ⟨1, by omega, by go_num, ⟨below_alloc HB.out _⟩, ⟨BO.out _⟩, ⟨fun i hi => (Nat.lt_or_ge i 0).elim (HF.out i) (fun h => by obtain rfl : i = 0 := (by omega); exact he2.out)⟩⟩
          case measure => simp [intOf]
        · have he' : (turn4 (wrap64 (first + 1)) == turn4 epoch) = false := by simpa using he2.out
          go_wp2_with (go_at_call 41; refine (turn41 _ _).mono ?_; rintro e' w' ⟨rfl, rfl⟩)
          go_roundw
          case rel => exact ⟨2, by omega, by go_num, ⟨below_alloc HB.out _⟩, ⟨BO.out _⟩, ⟨fun i hi => (Nat.lt_or_ge i 1).elim (HF.out i) (fun h => by obtain rfl : i = 1 := (by omega); exact he2.out)⟩⟩
          case measure => simp [intOf]
        · have he' : (turn4 (wrap64 (first + 2)) == turn4 epoch) = false := by simpa using he2.out
          go_wp2_with (go_at_call 41; refine (turn41 _ _).mono ?_; rintro e' w' ⟨rfl, rfl⟩)
          go_roundw
          case rel => exact ⟨3, by omega, by go_num, ⟨below_alloc HB.out _⟩, ⟨BO.out _⟩, ⟨fun i hi => (Nat.lt_or_ge i 2).elim (HF.out i) (fun h => by obtain rfl : i = 2 := (by omega); exact he2.out)⟩⟩
          case measure => simp [intOf]
    · obtain rfl : k = 3 := by omega
      have b0 := fun o => (blk_cell (BO.out o) 0).trans rfl; have b1 := fun o => (blk_cell (BO.out o) 1).trans rfl; have f0 := fun o => blk_frozen (BO.out o) 0; have f1 := fun o => blk_frozen (BO.out o) 1
      go_wp2
      refine bodyPost_ret (results_ct rfl _ _ (w.heap.size + 1) 25 #[.int .u64 0, .int .u64 0] (0, 0) _ rfl (by refine blk_put (cs := #[.int .u64 0, .int .u64 0]) ?_ 1 _ rfl; refine blk_put (cs := #[.int .u64 0, .int .u64 0]) ?_ 0 _ rfl; exact BO.out _) Try.underlying25 rfl (by kernel_rfl)) rfl ?_
      exact ⟨by rw [HR.out, keyAt, if_neg (by simpa using HF.out 0 (by decide)), if_neg (by simpa using HF.out 1 (by decide)), if_neg (by simpa using HF.out 2 (by decide))]; rfl, by repeat (first | exact HB.out | apply below_alloc | (refine below_set ?_ (Nat.le_add_right _ _)))⟩
end Go.Proofs.Ytnaplobnkmdfbaa.Own
namespace Go.Proofs.Ytnaplobnkmdfbaa.Own
open Go.RowKit Go.Proofs.YtnaplobnkmdfbaaW.PrintWords Go.Proofs.YtnaplobnkmdfbaaW.PrintMore Go.Proofs.YtnaplobnkmdfbaaW.PrintLast Go.Proofs.Ytnaplobnkmdfbaa.Q
set_option linter.unusedVariables false
set_option linter.unusedSimpArgs false

theorem heap2 (w : World) (o1 o2 : Obj) : ((w.alloc o1).alloc o2).heap[w.heap.size + 1]? = some o2 := by
  have h := heap_alloc_new (w.alloc o1) o2
  rwa [show (w.alloc o1).heap.size = w.heap.size + 1 from by simp] at h
set_option maxHeartbeats 4000000 in
theorem key29 (q a b c d e f epoch : Int) (w : World) : Calls Try.prog 29 #[.agg #[.int .i64 q, .int .u64 a, .int .u64 b, .int .u64 c, .int .u64 d, .int .u64 e, .int .u64 f], .int .i64 epoch] w
    fun e' w' => e' = .returned (.tuple #[.agg #[.int .u64 (keyAt a b c d e f (wrap64 (q - 1)) epoch).1, .int .u64 (keyAt a b c d e f (wrap64 (q - 1)) epoch).2.1], .bool (keyAt a b c d e f (wrap64 (q - 1)) epoch).2.2]) ∧ Below w.heap.size w w' := by
  obtain ⟨r, hr⟩ : ∃ r, r = keyAt a b c d e f (wrap64 (q - 1)) epoch := ⟨_, rfl⟩
  rw [← hr]
  have HR := Aside0.mk hr
  clear hr
  go_enter Try.func29, Try.ntmps29
  go_wp2_with (go_at_call 50; refine (at50 _ _ _ _ _ _ _ _ _).mono ?_; rintro e' w' ⟨rfl, hb⟩; rw [← HR.out]; have HB := Aside0.mk (below_step (below_alloc (below_alloc (Below.refl _ _) _) _) hb); have BK := Aside0.mk (blk_below (heap2 _ _ _) hb); have b0 := (blk_cell BK.out 0).trans rfl; have b1 := (blk_cell BK.out 1).trans rfl; have f0 := blk_frozen BK.out 0; have f1 := blk_frozen BK.out 1; clear hb)
  refine bodyPost_ret (results_ct rfl _ _ (w.heap.size + 1) 25 #[.int .u64 r.1, .int .u64 r.2.1] (0, 0) _ rfl (by refine blk_put (cs := #[.int .u64 r.1, .int .u64 0]) ?_ 1 _ rfl; refine blk_put (cs := #[.int .u64 0, .int .u64 0]) ?_ 0 _ rfl; exact BK.out) Try.underlying25 rfl (by kernel_rfl)) rfl ?_
  exact ⟨rfl, by repeat (first | exact HB.out | apply below_alloc | (refine below_set ?_ (Nat.le_add_right _ _)))⟩
/-- The keys of three epochs, of some. -/
def keyIn (l : List S25) (k j : Nat) : S25 := if j < k then l.getD j z25 else z25
def keyCells (l : List S25) (k : Nat) : Array Value := #[.int .u64 (keyIn l k 0).f0, .int .u64 (keyIn l k 0).f1, .int .u64 (keyIn l k 1).f0, .int .u64 (keyIn l k 1).f1, .int .u64 (keyIn l k 2).f0, .int .u64 (keyIn l k 2).f1]
theorem keyStep (l : List S25) (k : Nat) (x : S25) (hx : x = l.getD k z25) (h : k < 3) : (((keyCells l k).setIfInBounds (k * 2) (.int .u64 x.f0)).setIfInBounds (k * 2 + 1) (.int .u64 x.f1)) = keyCells l (k + 1) := by
  subst hx
  rcases (show k = 0 ∨ k = 1 ∨ k = 2 by omega) with rfl | rfl | rfl <;> rfl
theorem keyIn_three (l : List S25) (j : Nat) (h : j < 3) : keyIn l 3 j = l.getD j z25 := if_pos h
theorem keyIn_len (l : List S25) (j : Nat) : keyIn l l.length j = l.getD j z25 := by
  unfold keyIn
  split
  · rfl
  · rw [List.getD_eq_getElem?_getD, List.getElem?_eq_none (by omega)]
    rfl
set_option maxHeartbeats 4000000 in
theorem rring27 (q : Int) (A : Option Addr) (c : Nat) (l : List S25) (w : World) (hr : Kd.C k25 w A l.length l) (hc : l.length ≤ c) : Calls Try.prog 27 #[.int .i64 q, .slice A l.length c] w
    fun e' w' => e' = .returned (.agg #[.int .i64 q, .int .u64 (l.getD 0 z25).f0, .int .u64 (l.getD 0 z25).f1, .int .u64 (l.getD 1 z25).f0, .int .u64 (l.getD 1 z25).f1, .int .u64 (l.getD 2 z25).f0, .int .u64 (l.getD 2 z25).f1]) ∧ Below w.heap.size w w' := by
  have HR := Aside0.mk hr
  have HM := Aside0.mk hr.2.1
  clear hr
  go_enter Try.func27, Try.ntmps27
  go_wp2
  go_loopw [6] (fun v6 wr => ∃ k : Nat, k ≤ 3 ∧ k ≤ l.length ∧ v6 = .int .i64 k ∧ Aside0 (Below w.heap.size w wr) ∧ Aside0 (wr.heap[w.heap.size]? = some (.cells #[.int .i64 0, .int .u64 0, .int .u64 0, .int .u64 0, .int .u64 0, .int .u64 0, .int .u64 0] 27 (0, 0))) ∧ Aside0 (wr.heap[w.heap.size + 1]? = some (.cells (keyCells l k) 72 (0, 0)))) (fun v6 _ => 3 - (intOf v6).toNat)
  case atStart => exact ⟨0, by omega, by omega, rfl, ⟨below_alloc (below_alloc (Below.refl _ _) _) _⟩, ⟨blk_alloc (heap_alloc_new _ _) _⟩, ⟨heap2 _ _ _⟩⟩
  case round =>
    obtain ⟨k, hk3, hkl, rfl, HB, BR, BK⟩ := hrel
    have hm := HM.out
    by_cases hlt : k < l.length
    · by_cases h3 : k < 3
      · obtain ⟨ad, rfl, h0, h1⟩ := at_T25 (Kd.C_below HR.out HB.out) k (by omega) (by omega)
        rw [Int.toNat_natCast] at h0 h1
        obtain ⟨x, hx⟩ : ∃ x : S25, x = l.getD k z25 := ⟨_, rfl⟩
        have e : rd_T25 l k = x := by rw [hx]; simp [rd_T25]
        rw [e] at h0 h1
        have HX := Aside0.mk hx
        clear hx e
        have c0 : wr.cell? ⟨w.heap.size + 1, k * 2, none⟩ = some (.int .u64 0) := (blk_cell BK.out _).trans (by rcases (show k = 0 ∨ k = 1 ∨ k = 2 by omega) with rfl | rfl | rfl <;> rfl)
        have c1 : wr.cell? ⟨w.heap.size + 1, k * 2 + 1, none⟩ = some (.int .u64 0) := (blk_cell BK.out _).trans (by rcases (show k = 0 ∨ k = 1 ∨ k = 2 by omega) with rfl | rfl | rfl <;> rfl)
        have f0 := blk_frozen BK.out (k * 2)
        have f1 := blk_frozen BK.out (k * 2 + 1)
        go_wp2
        go_roundw
        case rel => exact ⟨k + 1, by omega, by omega, by go_num, ⟨by repeat (first | exact HB.out | (refine below_set ?_ (Nat.le_add_right _ _)))⟩, ⟨blk_far (blk_far BR.out (by simp) _) (by simp) _⟩, ⟨blk_put (blk_put BK.out (k * 2) _ rfl) (k * 2 + 1) _ (keyStep l k x HX.out h3)⟩⟩
        case measure => simp [intOf]; omega
      · obtain rfl : k = 3 := by omega
        obtain ⟨y0, b0, H0⟩ : ∃ y : Int, wr.cell? ⟨w.heap.size + 1, 0, none⟩ = some (.int .u64 y) ∧ Aside0 (y = (l.getD 0 z25).f0) := ⟨_, blk_cell BK.out 0, ⟨congrArg S25.f0 (keyIn_three l 0 (by decide))⟩⟩
        obtain ⟨y1, b1, H1⟩ : ∃ y : Int, wr.cell? ⟨w.heap.size + 1, 1, none⟩ = some (.int .u64 y) ∧ Aside0 (y = (l.getD 0 z25).f1) := ⟨_, blk_cell BK.out 1, ⟨congrArg S25.f1 (keyIn_three l 0 (by decide))⟩⟩
        obtain ⟨y2, b2, H2⟩ : ∃ y : Int, wr.cell? ⟨w.heap.size + 1, 2, none⟩ = some (.int .u64 y) ∧ Aside0 (y = (l.getD 1 z25).f0) := ⟨_, blk_cell BK.out 2, ⟨congrArg S25.f0 (keyIn_three l 1 (by decide))⟩⟩
        obtain ⟨y3, b3, H3⟩ : ∃ y : Int, wr.cell? ⟨w.heap.size + 1, 3, none⟩ = some (.int .u64 y) ∧ Aside0 (y = (l.getD 1 z25).f1) := ⟨_, blk_cell BK.out 3, ⟨congrArg S25.f1 (keyIn_three l 1 (by decide))⟩⟩
        obtain ⟨y4, b4, H4⟩ : ∃ y : Int, wr.cell? ⟨w.heap.size + 1, 4, none⟩ = some (.int .u64 y) ∧ Aside0 (y = (l.getD 2 z25).f0) := ⟨_, blk_cell BK.out 4, ⟨congrArg S25.f0 (keyIn_three l 2 (by decide))⟩⟩
        obtain ⟨y5, b5, H5⟩ : ∃ y : Int, wr.cell? ⟨w.heap.size + 1, 5, none⟩ = some (.int .u64 y) ∧ Aside0 (y = (l.getD 2 z25).f1) := ⟨_, blk_cell BK.out 5, ⟨congrArg S25.f1 (keyIn_three l 2 (by decide))⟩⟩
        have z0 := (blk_cell BR.out 0).trans rfl; have g0 := blk_frozen BR.out 0; have z1 := (blk_cell BR.out 1).trans rfl; have g1 := blk_frozen BR.out 1; have z2 := (blk_cell BR.out 2).trans rfl; have g2 := blk_frozen BR.out 2; have z3 := (blk_cell BR.out 3).trans rfl; have g3 := blk_frozen BR.out 3; have z4 := (blk_cell BR.out 4).trans rfl; have g4 := blk_frozen BR.out 4; have z5 := (blk_cell BR.out 5).trans rfl; have g5 := blk_frozen BR.out 5; have z6 := (blk_cell BR.out 6).trans rfl; have g6 := blk_frozen BR.out 6
        go_wp2
        refine bodyPost_ret (results_cell_row rfl _ _ w.heap.size 27 #[.int .i64 q, .int .u64 y0, .int .u64 y1, .int .u64 y2, .int .u64 y3, .int .u64 y4, .int .u64 y5] (0, 0) _ rfl (by refine blk_put (cs := #[.int .i64 q, .int .u64 y0, .int .u64 y1, .int .u64 y2, .int .u64 y3, .int .u64 y4, .int .u64 0]) ?_ 6 _ rfl; refine blk_put (cs := #[.int .i64 q, .int .u64 y0, .int .u64 y1, .int .u64 y2, .int .u64 y3, .int .u64 0, .int .u64 0]) ?_ 5 _ rfl; refine blk_put (cs := #[.int .i64 q, .int .u64 y0, .int .u64 y1, .int .u64 y2, .int .u64 0, .int .u64 0, .int .u64 0]) ?_ 4 _ rfl; refine blk_put (cs := #[.int .i64 q, .int .u64 y0, .int .u64 y1, .int .u64 0, .int .u64 0, .int .u64 0, .int .u64 0]) ?_ 3 _ rfl; refine blk_put (cs := #[.int .i64 q, .int .u64 y0, .int .u64 0, .int .u64 0, .int .u64 0, .int .u64 0, .int .u64 0]) ?_ 2 _ rfl; refine blk_put (cs := #[.int .i64 q, .int .u64 0, .int .u64 0, .int .u64 0, .int .u64 0, .int .u64 0, .int .u64 0]) ?_ 1 _ rfl; refine blk_put (cs := #[.int .i64 0, .int .u64 0, .int .u64 0, .int .u64 0, .int .u64 0, .int .u64 0, .int .u64 0]) ?_ 0 _ rfl; exact BR.out) Try.underlying27 rfl (by kernel_rfl)) rfl ?_
        exact ⟨by rw [H0.out, H1.out, H2.out, H3.out, H4.out, H5.out], by with_reducible repeat (first | (refine below_set ?_ (Nat.le_refl _)) | exact HB.out)⟩
    · obtain rfl : k = l.length := by omega
      obtain ⟨y0, b0, H0⟩ : ∃ y : Int, wr.cell? ⟨w.heap.size + 1, 0, none⟩ = some (.int .u64 y) ∧ Aside0 (y = (l.getD 0 z25).f0) := ⟨_, blk_cell BK.out 0, ⟨congrArg S25.f0 (keyIn_len l 0)⟩⟩
      obtain ⟨y1, b1, H1⟩ : ∃ y : Int, wr.cell? ⟨w.heap.size + 1, 1, none⟩ = some (.int .u64 y) ∧ Aside0 (y = (l.getD 0 z25).f1) := ⟨_, blk_cell BK.out 1, ⟨congrArg S25.f1 (keyIn_len l 0)⟩⟩
      obtain ⟨y2, b2, H2⟩ : ∃ y : Int, wr.cell? ⟨w.heap.size + 1, 2, none⟩ = some (.int .u64 y) ∧ Aside0 (y = (l.getD 1 z25).f0) := ⟨_, blk_cell BK.out 2, ⟨congrArg S25.f0 (keyIn_len l 1)⟩⟩
      obtain ⟨y3, b3, H3⟩ : ∃ y : Int, wr.cell? ⟨w.heap.size + 1, 3, none⟩ = some (.int .u64 y) ∧ Aside0 (y = (l.getD 1 z25).f1) := ⟨_, blk_cell BK.out 3, ⟨congrArg S25.f1 (keyIn_len l 1)⟩⟩
      obtain ⟨y4, b4, H4⟩ : ∃ y : Int, wr.cell? ⟨w.heap.size + 1, 4, none⟩ = some (.int .u64 y) ∧ Aside0 (y = (l.getD 2 z25).f0) := ⟨_, blk_cell BK.out 4, ⟨congrArg S25.f0 (keyIn_len l 2)⟩⟩
      obtain ⟨y5, b5, H5⟩ : ∃ y : Int, wr.cell? ⟨w.heap.size + 1, 5, none⟩ = some (.int .u64 y) ∧ Aside0 (y = (l.getD 2 z25).f1) := ⟨_, blk_cell BK.out 5, ⟨congrArg S25.f1 (keyIn_len l 2)⟩⟩
      have z0 := (blk_cell BR.out 0).trans rfl; have g0 := blk_frozen BR.out 0; have z1 := (blk_cell BR.out 1).trans rfl; have g1 := blk_frozen BR.out 1; have z2 := (blk_cell BR.out 2).trans rfl; have g2 := blk_frozen BR.out 2; have z3 := (blk_cell BR.out 3).trans rfl; have g3 := blk_frozen BR.out 3; have z4 := (blk_cell BR.out 4).trans rfl; have g4 := blk_frozen BR.out 4; have z5 := (blk_cell BR.out 5).trans rfl; have g5 := blk_frozen BR.out 5; have z6 := (blk_cell BR.out 6).trans rfl; have g6 := blk_frozen BR.out 6
      go_wp2
      refine bodyPost_ret (results_cell_row rfl _ _ w.heap.size 27 #[.int .i64 q, .int .u64 y0, .int .u64 y1, .int .u64 y2, .int .u64 y3, .int .u64 y4, .int .u64 y5] (0, 0) _ rfl (by refine blk_put (cs := #[.int .i64 q, .int .u64 y0, .int .u64 y1, .int .u64 y2, .int .u64 y3, .int .u64 y4, .int .u64 0]) ?_ 6 _ rfl; refine blk_put (cs := #[.int .i64 q, .int .u64 y0, .int .u64 y1, .int .u64 y2, .int .u64 y3, .int .u64 0, .int .u64 0]) ?_ 5 _ rfl; refine blk_put (cs := #[.int .i64 q, .int .u64 y0, .int .u64 y1, .int .u64 y2, .int .u64 0, .int .u64 0, .int .u64 0]) ?_ 4 _ rfl; refine blk_put (cs := #[.int .i64 q, .int .u64 y0, .int .u64 y1, .int .u64 0, .int .u64 0, .int .u64 0, .int .u64 0]) ?_ 3 _ rfl; refine blk_put (cs := #[.int .i64 q, .int .u64 y0, .int .u64 0, .int .u64 0, .int .u64 0, .int .u64 0, .int .u64 0]) ?_ 2 _ rfl; refine blk_put (cs := #[.int .i64 q, .int .u64 0, .int .u64 0, .int .u64 0, .int .u64 0, .int .u64 0, .int .u64 0]) ?_ 1 _ rfl; refine blk_put (cs := #[.int .i64 0, .int .u64 0, .int .u64 0, .int .u64 0, .int .u64 0, .int .u64 0, .int .u64 0]) ?_ 0 _ rfl; exact BR.out) Try.underlying27 rfl (by kernel_rfl)) rfl ?_
      exact ⟨by rw [H0.out, H1.out, H2.out, H3.out, H4.out, H5.out], by with_reducible repeat (first | (refine below_set ?_ (Nat.le_refl _)) | exact HB.out)⟩
end Go.Proofs.Ytnaplobnkmdfbaa.Own
namespace Go.Proofs.Ytnaplobnkmdfbaa.Own
open Go.RowKit Go.Proofs.YtnaplobnkmdfbaaW.PrintWords Go.Proofs.YtnaplobnkmdfbaaW.PrintMore Go.Proofs.YtnaplobnkmdfbaaW.PrintLast Go.Proofs.Ytnaplobnkmdfbaa.Q
set_option linter.unusedVariables false
set_option linter.unusedSimpArgs false

def zero6 : Array Value := #[.int .u64 0, .int .u64 0, .int .u64 0, .int .u64 0, .int .u64 0, .int .u64 0]
def full6 (l : List S25) : Array Value := #[.int .u64 (l.getD 0 z25).f0, .int .u64 (l.getD 0 z25).f1, .int .u64 (l.getD 1 z25).f0, .int .u64 (l.getD 1 z25).f1, .int .u64 (l.getD 2 z25).f0, .int .u64 (l.getD 2 z25).f1]
theorem size25 : (Try.prog.info? 25).map (·.size) = some 2 := by kernel_rfl
theorem run_copy25 (w : World) (ty : TypeId) (g dCap : Nat) (A : Option Addr) (c : Nat) (l : List S25) (cs : List Value) (hg : w.heap[g]? = some (.cells zero6 73 (0, 0))) (hn : cs.length = Nat.min l.length 3 * 2)
    (hsrc : ∀ a, A = some a → ∀ j v, cs[j]? = some v → w.cell? (a.add j) = some v) (hnil : A = none → cs = []) (h1 : ∀ v ∈ cs, v.oneCell' = true) (hfull : (cs ++ zero6.toList.drop cs.length).toArray = full6 l) :
    (Builtin.copy_ #[43, 43] ty #[.slice (some ⟨g, 0, none⟩) 3 dCap, .slice A l.length c]).run Try.prog w = .ok (goInt (Nat.min l.length 3)) (w.setRow g (full6 l)) := by
  have hst := run_storeCells_at Try.prog g 0 73 cs 0 zero6 w hg (by rw [hn]; show 0 + 0 + _ ≤ 6; have : Nat.min l.length 3 ≤ 3 := Nat.min_le_right _ _; omega) h1
  simp only [Nat.zero_add, List.take_zero, List.nil_append] at hst
  rw [hfull] at hst
  have hq := size25
  cases hi : Try.prog.info? 25 with
  | none => simp [hi] at hq
  | some i =>
    have hsz : i.size = 2 := by simpa [hi] using hq
    cases A with
    | none =>
      obtain rfl := hnil rfl
      have hst2 : (storeCells ⟨g, 0, none⟩ [] 0).run Try.prog w = .ok () (w.setRow g (full6 l)) := hst
      simp [Builtin.copy_, run_underlying Try.underlying43, Builtin.lenOf, Builtin.firstCells, sizeOf, typeInfo, hi, hsz, hst2]
    | some a =>
      have hl := run_loadCells_list (P := Try.prog) w a cs (hsrc a rfl)
      rw [hn] at hl
      simp [Builtin.copy_, run_underlying Try.underlying43, Builtin.lenOf, Builtin.firstCells, sizeOf, typeInfo, hi, hsz, hl, hst]
theorem cell25 {w : World} {A : Option Addr} {n : Nat} {l : List S25} (h : Kd.C k25 w A n l) (i : Nat) (hi : i < n) : ∃ ad, A = some ad ∧ w.cell? (ad.add (i * 2)) = some (.int .u64 (l.getD i z25).f0) ∧ w.cell? (ad.add (i * 2 + 1)) = some (.int .u64 (l.getD i z25).f1) := by
  obtain ⟨ad, c, e, _, hK, hc0⟩ := Kd.C_get h z25 (i : Int) (by omega) (by omega)
  have hc : ∀ j u, c[j]? = some u → w.cell? (ad.add (i * 2 + j)) = some u := hc0
  obtain rfl := k25_open hK
  exact ⟨ad, e, hc 0 _ rfl, hc 1 _ rfl⟩
theorem copy25 (w : World) (ty : TypeId) (g dCap : Nat) (A : Option Addr) (c : Nat) (l : List S25) (hg : w.heap[g]? = some (.cells zero6 73 (0, 0))) (hr : Kd.C k25 w A l.length l) :
    (Builtin.copy_ #[43, 43] ty #[.slice (some ⟨g, 0, none⟩) 3 dCap, .slice A l.length c]).run Try.prog w = .ok (goInt (Nat.min l.length 3)) (w.setRow g (full6 l)) := by
  have hc := fun i hi => cell25 hr i hi
  clear hr
  match l with
  | [] =>
    exact run_copy25 w ty g dCap A c [] [] hg rfl (fun a _ j v h => absurd h (by simp)) (fun _ => rfl) (by simp) rfl
  | [x] =>
    obtain ⟨ad, rfl, p0, p1⟩ := hc 0 (by simp)
    refine run_copy25 w ty g dCap _ c [x] [.int .u64 x.f0, .int .u64 x.f1] hg rfl ?_ (by simp) (by simp [Value.oneCell']) rfl
    rintro a ha j v hv
    obtain rfl := Option.some.inj ha
    match j, hv with
    | 0, hv => cases hv; exact p0
    | 1, hv => cases hv; exact p1
  | [x, y] =>
    obtain ⟨ad, rfl, p0, p1⟩ := hc 0 (by simp)
    obtain ⟨ad2, e2, p2, p3⟩ := hc 1 (by simp)
    obtain rfl := Option.some.inj e2
    refine run_copy25 w ty g dCap _ c [x, y] [.int .u64 x.f0, .int .u64 x.f1, .int .u64 y.f0, .int .u64 y.f1] hg rfl ?_ (by simp) (by simp [Value.oneCell']) rfl
    rintro a ha j v hv
    obtain rfl := Option.some.inj ha
    match j, hv with
    | 0, hv => cases hv; exact p0
    | 1, hv => cases hv; exact p1
    | 2, hv => cases hv; exact p2
    | 3, hv => cases hv; exact p3
  | x :: y :: z :: t =>
    obtain ⟨ad, rfl, p0, p1⟩ := hc 0 (by simp)
    obtain ⟨ad2, e2, p2, p3⟩ := hc 1 (by simp)
    obtain rfl := Option.some.inj e2
    obtain ⟨ad3, e3, p4, p5⟩ := hc 2 (by simp)
    obtain rfl := Option.some.inj e3
    refine run_copy25 w ty g dCap _ c (x :: y :: z :: t) [.int .u64 x.f0, .int .u64 x.f1, .int .u64 y.f0, .int .u64 y.f1, .int .u64 z.f0, .int .u64 z.f1] hg (by show 6 = Nat.min (t.length + 3) 3 * 2; rw [show Nat.min (t.length + 3) 3 = 3 from Nat.min_eq_right (by omega)]) ?_ (by simp) (by simp [Value.oneCell']) rfl
    rintro a ha j v hv
    obtain rfl := Option.some.inj ha
    match j, hv with
    | 0, hv => cases hv; exact p0
    | 1, hv => cases hv; exact p1
    | 2, hv => cases hv; exact p2
    | 3, hv => cases hv; exact p3
    | 4, hv => cases hv; exact p4
    | 5, hv => cases hv; exact p5
theorem wpList_copy25 {w : World} {ops : Array Oper} {rest : List Oper} {o : Oper} {a : Act} {Q : Exit → Act → World → Prop} (hgd : o.guard = none) (d s : Operand)
    (ho : o.op = .call { callee := .builtin .copy, args := #[d, s], argTypes := #[43, 43] }) (g dCap : Nat) (A : Option Addr) (c : Nat) (l : List S25) (hd : a.eval d = .slice (some ⟨g, 0, none⟩) 3 dCap) (hs : a.eval s = .slice A l.length c)
    (hg : w.heap[g]? = some (.cells zero6 73 (0, 0))) (hr : Kd.C k25 w A l.length l)
    (h : wpList Try.prog ops Q rest (a.put o.dst (goInt (Nat.min l.length 3))) (w.setRow g (full6 l))) : wpList Try.prog ops Q (o :: rest) a w := by
  refine wpList_plain hgd fun K hK => ?_
  have hrun := copy25 w o.type g dCap A c l hg hr
  unfold Oper.wp
  simp [execOp, ho, resolve, invoke, builtin, hd, hs, hrun, Result.andThen]
  exact hK _ _ h
set_option maxHeartbeats 4000000 in
theorem ring26 (q : Int) (A : Option Addr) (c : Nat) (l : List S25) (w : World) (hr : Kd.C k25 w A l.length l) (hc : l.length ≤ c) : Calls Try.prog 26 #[.int .i64 q, .slice A l.length c] w
    fun e' w' => e' = .returned (.agg #[.int .i64 q, .int .u64 (l.getD 0 z25).f0, .int .u64 (l.getD 0 z25).f1, .int .u64 (l.getD 1 z25).f0, .int .u64 (l.getD 1 z25).f1, .int .u64 (l.getD 2 z25).f0, .int .u64 (l.getD 2 z25).f1]) ∧ Below w.heap.size w w' := by
  have HR := Aside0.mk hr
  clear hr
  obtain ⟨w2, hcp, HB, BR, BK⟩ : ∃ w2, (Builtin.copy_ #[43, 43] 3 #[.slice (some ⟨w.heap.size + 1, 0, none⟩) 3 3, .slice A l.length c]).run Try.prog ((w.alloc (.cells #[.int .i64 0, .int .u64 0, .int .u64 0, .int .u64 0, .int .u64 0, .int .u64 0, .int .u64 0] 27)).alloc (.cells #[.int .u64 0, .int .u64 0, .int .u64 0, .int .u64 0, .int .u64 0, .int .u64 0] 73)) = .ok (goInt (Nat.min l.length 3)) w2 ∧ Aside0 (Below w.heap.size w w2) ∧ Aside0 (w2.heap[w.heap.size]? = some (.cells #[.int .i64 0, .int .u64 0, .int .u64 0, .int .u64 0, .int .u64 0, .int .u64 0, .int .u64 0] 27 (0, 0))) ∧ Aside0 (w2.heap[w.heap.size + 1]? = some (.cells (full6 l) 73 (0, 0))) := by
    have hg := heap2 w (.cells #[.int .i64 0, .int .u64 0, .int .u64 0, .int .u64 0, .int .u64 0, .int .u64 0, .int .u64 0] 27) (.cells zero6 73)
    refine ⟨_, copy25 _ 3 (w.heap.size + 1) 3 A c l hg (Kd.C_alloc (Kd.C_alloc HR.out _) _), ⟨below_setRow (below_alloc (below_alloc (Below.refl _ _) _) _) (by omega) _⟩, ⟨?_⟩, ⟨setRow_heap _ _ _ _ _ _ hg⟩⟩
    rw [setRow_other _ _ _ _ (by omega)]
    exact blk_alloc (heap_alloc_new _ _) _
  obtain ⟨y0, b0, H0⟩ : ∃ y : Int, w2.cell? ⟨w.heap.size + 1, 0, none⟩ = some (.int .u64 y) ∧ Aside0 (y = (l.getD 0 z25).f0) := ⟨_, blk_cell BK.out 0, ⟨rfl⟩⟩
  obtain ⟨y1, b1, H1⟩ : ∃ y : Int, w2.cell? ⟨w.heap.size + 1, 1, none⟩ = some (.int .u64 y) ∧ Aside0 (y = (l.getD 0 z25).f1) := ⟨_, blk_cell BK.out 1, ⟨rfl⟩⟩
  obtain ⟨y2, b2, H2⟩ : ∃ y : Int, w2.cell? ⟨w.heap.size + 1, 2, none⟩ = some (.int .u64 y) ∧ Aside0 (y = (l.getD 1 z25).f0) := ⟨_, blk_cell BK.out 2, ⟨rfl⟩⟩
  obtain ⟨y3, b3, H3⟩ : ∃ y : Int, w2.cell? ⟨w.heap.size + 1, 3, none⟩ = some (.int .u64 y) ∧ Aside0 (y = (l.getD 1 z25).f1) := ⟨_, blk_cell BK.out 3, ⟨rfl⟩⟩
  obtain ⟨y4, b4, H4⟩ : ∃ y : Int, w2.cell? ⟨w.heap.size + 1, 4, none⟩ = some (.int .u64 y) ∧ Aside0 (y = (l.getD 2 z25).f0) := ⟨_, blk_cell BK.out 4, ⟨rfl⟩⟩
  obtain ⟨y5, b5, H5⟩ : ∃ y : Int, w2.cell? ⟨w.heap.size + 1, 5, none⟩ = some (.int .u64 y) ∧ Aside0 (y = (l.getD 2 z25).f1) := ⟨_, blk_cell BK.out 5, ⟨rfl⟩⟩
  have z0 := (blk_cell BR.out 0).trans rfl; have g0 := blk_frozen BR.out 0; have z1 := (blk_cell BR.out 1).trans rfl; have g1 := blk_frozen BR.out 1; have z2 := (blk_cell BR.out 2).trans rfl; have g2 := blk_frozen BR.out 2; have z3 := (blk_cell BR.out 3).trans rfl; have g3 := blk_frozen BR.out 3; have z4 := (blk_cell BR.out 4).trans rfl; have g4 := blk_frozen BR.out 4; have z5 := (blk_cell BR.out 5).trans rfl; have g5 := blk_frozen BR.out 5; have z6 := (blk_cell BR.out 6).trans rfl; have g6 := blk_frozen BR.out 6
  go_enter Try.func26, Try.ntmps26
  go_wp2
  refine bodyPost_ret (results_cell_row rfl _ _ w.heap.size 27 #[.int .i64 q, .int .u64 y0, .int .u64 y1, .int .u64 y2, .int .u64 y3, .int .u64 y4, .int .u64 y5] (0, 0) _ rfl (by refine blk_put (cs := #[.int .i64 q, .int .u64 y0, .int .u64 y1, .int .u64 y2, .int .u64 y3, .int .u64 y4, .int .u64 0]) ?_ 6 _ rfl; refine blk_put (cs := #[.int .i64 q, .int .u64 y0, .int .u64 y1, .int .u64 y2, .int .u64 y3, .int .u64 0, .int .u64 0]) ?_ 5 _ rfl; refine blk_put (cs := #[.int .i64 q, .int .u64 y0, .int .u64 y1, .int .u64 y2, .int .u64 0, .int .u64 0, .int .u64 0]) ?_ 4 _ rfl; refine blk_put (cs := #[.int .i64 q, .int .u64 y0, .int .u64 y1, .int .u64 0, .int .u64 0, .int .u64 0, .int .u64 0]) ?_ 3 _ rfl; refine blk_put (cs := #[.int .i64 q, .int .u64 y0, .int .u64 0, .int .u64 0, .int .u64 0, .int .u64 0, .int .u64 0]) ?_ 2 _ rfl; refine blk_put (cs := #[.int .i64 q, .int .u64 0, .int .u64 0, .int .u64 0, .int .u64 0, .int .u64 0, .int .u64 0]) ?_ 1 _ rfl; refine blk_put (cs := #[.int .i64 0, .int .u64 0, .int .u64 0, .int .u64 0, .int .u64 0, .int .u64 0, .int .u64 0]) ?_ 0 _ rfl; exact BR.out) Try.underlying27 rfl (by kernel_rfl)) rfl ?_
  exact ⟨by rw [H0.out, H1.out, H2.out, H3.out, H4.out, H5.out], by with_reducible repeat (first | (refine below_set ?_ (Nat.le_refl _)) | exact HB.out)⟩
def ringOf (q : Int) (l : List S25) : Int × Int × Int × Int × Int × Int × Int := (q, (l.getD 0 z25).f0, (l.getD 0 z25).f1, (l.getD 1 z25).f0, (l.getD 1 z25).f1, (l.getD 2 z25).f0, (l.getD 2 z25).f1)
def cookie_Ring.f (k : Nat) (q : Int) (l : List S25) : Option (Int × Int × Int × Int × Int × Int × Int) := match k with
  | 0 => none
  | _ + 1 => some (ringOf q l)
theorem cookie_Ring.mono : ∀ q l k, LeO (cookie_Ring.f k q l) (cookie_Ring.f (k + 1) q l) := by
  intro q l k
  cases k with
  | zero => exact LeO.none _
  | succ k => exact LeO.refl _
theorem cookie_Ring.calls (k : Nat) (q : Int) (A : Option Addr) (c : Nat) (l : List S25) (r1 r2 r3 r4 r5 r6 r7 : Int) (w : World) (hr : Kd.C k25 w A l.length l) (hc : l.length ≤ c) (h : cookie_Ring.f k q l = some (r1, r2, r3, r4, r5, r6, r7)) :
    Calls Try.prog 26 #[.int .i64 q, .slice A l.length c] w fun e w' => e = .returned (.agg #[.int .i64 r1, .int .u64 r2, .int .u64 r3, .int .u64 r4, .int .u64 r5, .int .u64 r6, .int .u64 r7]) ∧ Below w.heap.size w w' := by
  cases k with
  | zero => exact absurd h (by simp [cookie_Ring.f])
  | succ k =>
    have h2 : ringOf q l = (r1, r2, r3, r4, r5, r6, r7) := Option.some.inj (show some (ringOf q l) = _ from h)
    injection h2 with h2 h3
    injection h3 with h3 h4
    injection h4 with h4 h5
    injection h5 with h5 h6
    injection h6 with h6 h7
    injection h7 with h7 h8
    subst h2 h3 h4 h5 h6 h7 h8
    exact ring26 q A c l w hr hc
def roundhouseref5_Ring.f (k : Nat) (q : Int) (l : List S25) : Option (Int × Int × Int × Int × Int × Int × Int) := match k with
  | 0 => none
  | _ + 1 => some (ringOf q l)
theorem roundhouseref5_Ring.mono : ∀ q l k, LeO (roundhouseref5_Ring.f k q l) (roundhouseref5_Ring.f (k + 1) q l) := by
  intro q l k
  cases k with
  | zero => exact LeO.none _
  | succ k => exact LeO.refl _
theorem roundhouseref5_Ring.calls (k : Nat) (q : Int) (A : Option Addr) (c : Nat) (l : List S25) (r1 r2 r3 r4 r5 r6 r7 : Int) (w : World) (hr : Kd.C k25 w A l.length l) (hc : l.length ≤ c) (h : roundhouseref5_Ring.f k q l = some (r1, r2, r3, r4, r5, r6, r7)) :
    Calls Try.prog 27 #[.int .i64 q, .slice A l.length c] w fun e w' => e = .returned (.agg #[.int .i64 r1, .int .u64 r2, .int .u64 r3, .int .u64 r4, .int .u64 r5, .int .u64 r6, .int .u64 r7]) ∧ Below w.heap.size w w' := by
  cases k with
  | zero => exact absurd h (by simp [roundhouseref5_Ring.f])
  | succ k =>
    have h2 : ringOf q l = (r1, r2, r3, r4, r5, r6, r7) := Option.some.inj (show some (ringOf q l) = _ from h)
    injection h2 with h2 h3
    injection h3 with h3 h4
    injection h4 with h4 h5
    injection h5 with h5 h6
    injection h6 with h6 h7
    injection h7 with h7 h8
    subst h2 h3 h4 h5 h6 h7 h8
    exact rring27 q A c l w hr hc
def cookie_Key.f (k : Nat) (q a b c d e f epoch : Int) : Option (Int × Int × Bool) := match k with
  | 0 => none
  | _ + 1 => some (keyAt a b c d e f (wrap64 (q - 1)) epoch)
theorem cookie_Key.mono : ∀ q a b c d e f epoch k, LeO (cookie_Key.f k q a b c d e f epoch) (cookie_Key.f (k + 1) q a b c d e f epoch) := by
  intro q a b c d e f epoch k
  cases k with
  | zero => exact LeO.none _
  | succ k => exact LeO.refl _
theorem cookie_Key.calls (k : Nat) (q a b c d e f epoch : Int) (r1 r2 : Int) (r3 : Bool) (w : World) (h : cookie_Key.f k q a b c d e f epoch = some (r1, r2, r3)) :
    Calls Try.prog 29 #[.agg #[.int .i64 q, .int .u64 a, .int .u64 b, .int .u64 c, .int .u64 d, .int .u64 e, .int .u64 f], .int .i64 epoch] w fun e' w' => e' = .returned (.tuple #[.agg #[.int .u64 r1, .int .u64 r2], .bool r3]) ∧ Below w.heap.size w w' := by
  cases k with
  | zero => exact absurd h (by simp [cookie_Key.f])
  | succ k =>
    have h2 : keyAt a b c d e f (wrap64 (q - 1)) epoch = (r1, r2, r3) := Option.some.inj (show some (keyAt a b c d e f (wrap64 (q - 1)) epoch) = _ from h)
    have h3 := key29 q a b c d e f epoch w
    rw [h2] at h3
    exact h3
end Go.Proofs.Ytnaplobnkmdfbaa.Own
namespace Go.Proofs.Ytnaplobnkmdfbaa.Pure
open Go.RowKit Go.Proofs.Ytnaplobnkmdfbaa.Q Go.Proofs.YtnaplobnkmdfbaaW.PrintWords Go.Proofs.YtnaplobnkmdfbaaW.PrintMore Go.Proofs.YtnaplobnkmdfbaaW.PrintLast Go.Proofs.Ytnaplobnkmdfbaa.Own

theorem ofInt_nat64 (a : Nat) (ha : a < 9223372036854775808) : (BitVec.ofInt 64 (a : Int)).toNat = a := by
  rw [BitVec.ofInt_natCast, BitVec.toNat_ofNat]; exact Nat.mod_eq_of_lt (by omega)
theorem and_low (n : Int) (i : Nat) (hi : i ≤ 40) : Go.bits .and .i64 n ((2 ^ i - 1 : Nat) : Int) = n % ((2 ^ i : Nat) : Int) := by
  have hp : 0 < 2 ^ i := Nat.two_pow_pos i
  have hp2 : 2 ^ i ≤ 2 ^ 40 := Nat.pow_le_pow_right (by decide) hi
  have key : (BitVec.ofInt 64 n &&& BitVec.ofInt 64 ((2 ^ i - 1 : Nat) : Int)).toNat = (n % ((2 ^ 64 : Nat) : Int)).toNat % 2 ^ i := by
    rw [BitVec.toNat_and, BitVec.toNat_ofInt, ofInt_nat64 _ (by omega), Nat.and_two_pow_sub_one_eq_mod]
  show IntKind.i64.wrap ((BitVec.ofInt 64 n &&& BitVec.ofInt 64 ((2 ^ i - 1 : Nat) : Int)).toNat : Nat) = _
  have hd : ((2 ^ i : Nat) : Int) ∣ ((2 ^ 64 : Nat) : Int) := by
    exact_mod_cast Nat.pow_dvd_pow 2 (by omega)
  rw [key, IntKind.wrap_i64]
  have h1 : (((n % ((2 ^ 64 : Nat) : Int)).toNat % 2 ^ i : Nat) : Int) = n % ((2 ^ i : Nat) : Int) := by
    rw [Int.natCast_emod, Int.toNat_of_nonneg (Int.emod_nonneg _ (by decide)), Int.emod_emod_of_dvd _ hd]
  have h2 := Int.emod_nonneg n (show ((2 ^ i : Nat) : Int) ≠ 0 by omega)
  have h3 := Int.emod_lt_of_pos n (show 0 < ((2 ^ i : Nat) : Int) by omega)
  rw [h1]
  generalize n % ((2 ^ i : Nat) : Int) = r at h2 h3
  omega
theorem and3 (n : Int) : Go.bits .and .i64 n 3 = n % 4 := and_low n 2 (by decide)
theorem and63 (n : Int) : Go.bits .and .i64 n 63 = n % 64 := and_low n 6 (by decide)
theorem and255 (n : Int) : Go.bits .and .i64 n 255 = n % 256 := and_low n 8 (by decide)
theorem and4095 (n : Int) : Go.bits .and .i64 n 4095 = n % 4096 := and_low n 12 (by decide)
theorem i64_or_nat (a b : Nat) (ha : a < 9223372036854775808) (hb : b < 9223372036854775808) : Go.bits .or .i64 (a : Int) (b : Int) = ((a ||| b : Nat) : Int) := by
  have hx : a ||| b < 2 ^ 63 := Nat.or_lt_two_pow (by omega) (by omega)
  show IntKind.i64.wrap ((BitVec.ofInt 64 (a : Int) ||| BitVec.ofInt 64 (b : Int)).toNat : Int) = _
  rw [BitVec.toNat_or, ofInt_nat64 a ha, ofInt_nat64 b hb, IntKind.wrap_i64]
  omega
theorem i64_xor_nat (a b : Nat) (ha : a < 9223372036854775808) (hb : b < 9223372036854775808) : Go.bits .xor .i64 (a : Int) (b : Int) = ((a ^^^ b : Nat) : Int) := by
  have hx : a ^^^ b < 2 ^ 63 := Nat.xor_lt_two_pow (by omega) (by omega)
  show IntKind.i64.wrap ((BitVec.ofInt 64 (a : Int) ^^^ BitVec.ofInt 64 (b : Int)).toNat : Int) = _
  rw [BitVec.toNat_xor, ofInt_nat64 a ha, ofInt_nat64 b hb, IntKind.wrap_i64]
  omega
/-- Higher bits and lower bits put together. -/
theorem or_join (i : Nat) (a b : Int) (ha : 0 ≤ a) (hb : 0 ≤ b) (hb2 : b < ((2 ^ i : Nat) : Int)) (h : a * ((2 ^ i : Nat) : Int) + b < 9223372036854775808) : Go.bits .or .i64 (a * ((2 ^ i : Nat) : Int)) b = a * ((2 ^ i : Nat) : Int) + b := by
  obtain ⟨x, rfl⟩ := Int.eq_ofNat_of_zero_le ha
  obtain ⟨y, rfl⟩ := Int.eq_ofNat_of_zero_le hb
  have hy : y < 2 ^ i := by omega
  have hxy : x * 2 ^ i + y < 9223372036854775808 := by
    have h2 : ((x * 2 ^ i + y : Nat) : Int) < 9223372036854775808 := by rw [Int.natCast_add, Int.natCast_mul]; exact h
    omega
  have e := i64_or_nat (x * 2 ^ i) y (by omega) (by omega)
  rw [nat_join i (x * 2 ^ i) y (Nat.mul_mod_left _ _) hy, Int.natCast_add, Int.natCast_mul] at e
  exact e
theorem or64 (a b : Int) (ha : 0 ≤ a) (ha2 : a < 1073741824) (hb : 0 ≤ b) (hb2 : b < 64) : Go.bits .or .i64 (a * 64) b = a * 64 + b := or_join 6 a b ha hb (by omega) (by show a * 64 + b < _; omega)
theorem or256 (a b : Int) (ha : 0 ≤ a) (ha2 : a < 1073741824) (hb : 0 ≤ b) (hb2 : b < 256) : Go.bits .or .i64 (a * 256) b = a * 256 + b := or_join 8 a b ha hb (by omega) (by show a * 256 + b < _; omega)
theorem or4096 (a b : Int) (ha : 0 ≤ a) (ha2 : a < 1073741824) (hb : 0 ≤ b) (hb2 : b < 4096) : Go.bits .or .i64 (a * 4096) b = a * 4096 + b := or_join 12 a b ha hb (by omega) (by show a * 4096 + b < _; omega)
/-- Bits turned of numbers below 64. -/
def xr (a b : Int) : Int := ((a.toNat ^^^ b.toNat : Nat) : Int)
theorem xor_xr (a b : Int) (h0 : 0 ≤ a) (h1 : a < 9223372036854775808) (h2 : 0 ≤ b) (h3 : b < 9223372036854775808) : Go.bits .xor .i64 a b = xr a b := by
  obtain ⟨x, rfl⟩ := Int.eq_ofNat_of_zero_le h0
  obtain ⟨y, rfl⟩ := Int.eq_ofNat_of_zero_le h2
  exact i64_xor_nat x y (by omega) (by omega)
theorem xr_lt (a b : Int) (h0 : 0 ≤ a) (h1 : a < 64) (h2 : 0 ≤ b) (h3 : b < 64) : 0 ≤ xr a b ∧ xr a b < 64 := by
  unfold xr
  have hx : a.toNat ^^^ b.toNat < 2 ^ 6 := Nat.xor_lt_two_pow (by omega) (by omega)
  omega
theorem xr_back (a b : Int) (h0 : 0 ≤ a) : xr (xr a b) b = a := by
  unfold xr
  rw [Int.toNat_natCast, Nat.xor_assoc, Nat.xor_self, Nat.xor_zero]
  omega
theorem xr_inj (a a' b : Int) (h0 : 0 ≤ a) (h1 : 0 ≤ a') (h : xr a b = xr a' b) : a = a' := by
  rw [← xr_back a b h0, ← xr_back a' b h1, h]
theorem u64_low (n : Int) (h0 : 0 ≤ n) (h1 : n < 18446744073709551616) (i : Nat) (hi : i ≤ 40) : Go.bits .and .u64 n ((2 ^ i - 1 : Nat) : Int) = n % ((2 ^ i : Nat) : Int) := by
  obtain ⟨x, rfl⟩ := Int.eq_ofNat_of_zero_le h0
  have hp2 : 2 ^ i ≤ 2 ^ 40 := Nat.pow_le_pow_right (by decide) hi
  rw [u64_and_nat x _ (by omega) (by omega), Nat.and_two_pow_sub_one_eq_mod, Int.natCast_emod]
theorem u64_63 (n : Int) (h0 : 0 ≤ n) (h1 : n < 18446744073709551616) : Go.bits .and .u64 n 63 = n % 64 := u64_low n h0 h1 6 (by decide)
theorem u64_255 (n : Int) (h0 : 0 ≤ n) (h1 : n < 18446744073709551616) : Go.bits .and .u64 n 255 = n % 256 := u64_low n h0 h1 8 (by decide)
theorem u64_4095 (n : Int) (h0 : 0 ≤ n) (h1 : n < 18446744073709551616) : Go.bits .and .u64 n 4095 = n % 4096 := u64_low n h0 h1 12 (by decide)
theorem u32_low (n : Int) (h0 : 0 ≤ n) (h1 : n < 4294967296) (i : Nat) (hi : i ≤ 31) : Go.bits .and .u32 n ((2 ^ i - 1 : Nat) : Int) = n % ((2 ^ i : Nat) : Int) := by
  obtain ⟨x, rfl⟩ := Int.eq_ofNat_of_zero_le h0
  have hp2 : 2 ^ i ≤ 2 ^ 31 := Nat.pow_le_pow_right (by decide) hi
  rw [u32_and_nat x _ (by omega) (by omega), Nat.and_two_pow_sub_one_eq_mod, Int.natCast_emod]
theorem u32_255 (n : Int) (h0 : 0 ≤ n) (h1 : n < 4294967296) : Go.bits .and .u32 n 255 = n % 256 := u32_low n h0 h1 8 (by decide)
theorem u32_4095 (n : Int) (h0 : 0 ≤ n) (h1 : n < 4294967296) : Go.bits .and .u32 n 4095 = n % 4096 := u32_low n h0 h1 12 (by decide)
theorem u32_20 (n : Int) (h0 : 0 ≤ n) (h1 : n < 4294967296) : Go.bits .and .u32 n 1048575 = n % 1048576 := u32_low n h0 h1 20 (by decide)
theorem nat_high (x : Nat) (h : x < 4294967296) : x &&& 4294967040 = x - x % 256 := by
  have e1 : (4294967040 : Nat) = (2 ^ 24 - 1) <<< 8 := by decide
  have e2 : x - x % 256 = (x >>> 8) <<< 8 := by rw [Nat.shiftLeft_eq, Nat.shiftRight_eq_div_pow]; omega
  rw [e1, e2]
  apply Nat.eq_of_testBit_eq
  intro i
  simp only [Nat.testBit_and, Nat.testBit_shiftLeft, Nat.testBit_two_pow_sub_one, Nat.testBit_shiftRight]
  by_cases hi : 8 ≤ i
  · have e3 : 8 + (i - 8) = i := by omega
    by_cases h24 : i - 8 < 24
    · simp [hi, h24, e3]
    · have : x.testBit i = false := Nat.testBit_lt_two_pow (Nat.lt_of_lt_of_le (show x < 2 ^ 32 from h) (Nat.pow_le_pow_right (by decide) (by omega)))
      simp [hi, h24, e3, this]
  · simp [hi]
theorem u32_high (n : Int) (h0 : 0 ≤ n) (h1 : n < 4294967296) : Go.bits .andNot .u32 n 255 = n - n % 256 := by
  obtain ⟨x, rfl⟩ := Int.eq_ofNat_of_zero_le h0
  have := u32_andNot_nat x 255 (by omega) (by decide)
  rw [show (4294967295 - 255 : Nat) = 4294967040 from rfl, nat_high x (by omega)] at this
  rw [show ((255 : Nat) : Int) = 255 from rfl] at this
  rw [this]
  omega
theorem u32_join (a b : Int) (ha : 0 ≤ a) (ha2 : a < 4096) (hb : 0 ≤ b) (hb2 : b < 1048576) : Go.bits .or .u32 (a * 1048576) b = a * 1048576 + b := by
  obtain ⟨x, rfl⟩ := Int.eq_ofNat_of_zero_le ha
  obtain ⟨y, rfl⟩ := Int.eq_ofNat_of_zero_le hb
  have e := u32_or_nat (x * 1048576) y (by omega) (by omega)
  rw [nat_join 20 (x * 1048576) y (by omega) (by omega), Int.natCast_add, Int.natCast_mul] at e
  exact e
theorem bind_ok {α β : Type} {x : Option α} {f : α → Option β} {a : α} {r : β} (hx : x = some a) (hf : f a = some r) : x.bind f = some r := by rw [hx]; exact hf
/-- A keyed sum is a number of sixty-four bits. -/
theorem words_range (a b : Int) (l : List Int) : 0 ≤ sipWords a b l ∧ sipWords a b l < 18446744073709551616 := by
  unfold sipWords sipOf fin xor64 Go.bits
  rw [IntKind.wrap_u64]
  omega
theorem i64_of {a : Int} (h : (Lit.int .i64 a).wf = true) : -9223372036854775808 ≤ a ∧ a < 9223372036854775808 := by
  have := bounds_i64 h
  omega
theorem u32_of {a : Int} (h : (Lit.int .u32 a).wf = true) : 0 ≤ a ∧ a < 4294967296 := by
  have := bounds_u32 h
  omega
end Go.Proofs.Ytnaplobnkmdfbaa.Pure
namespace Go.Proofs.Ytnaplobnkmdfbaa.Own
open Go.RowKit Go.Proofs.YtnaplobnkmdfbaaW.PrintWords Go.Proofs.YtnaplobnkmdfbaaW.PrintMore Go.Proofs.YtnaplobnkmdfbaaW.PrintLast Go.Proofs.Ytnaplobnkmdfbaa.Q Go.Proofs.Ytnaplobnkmdfbaa.Pure
set_option linter.unusedVariables false
set_option linter.unusedSimpArgs false

theorem field27 (a b c d e f g : Int) (w : World) : (Instr.field 27 (.agg #[.int .i64 a, .int .u64 b, .int .u64 c, .int .u64 d, .int .u64 e, .int .u64 f, .int .u64 g]) 0).run Try.prog w = .ok (.int .i64 a) w := by kernel_rfl
/-- How far b is ahead of a. -/
def farN (a b : Int) : Int := ((b - a) % 4294967296 + 2147483648) % 4294967296 - 2147483648
theorem far_w (a b : Int) : wrap64 (wrap32 ((b - a) % 4294967296)) = farN a b := by
  unfold farN wrap64 wrap32
  omega
theorem rfar40 (a b d : Int) (h : farN a b = d) (w : World) : Calls Try.prog 40 #[.int .u32 a, .int .u32 b] w fun e w' => e = .returned (.int .i64 d) ∧ w = w' := by
  have hf : Hid (wrap64 (wrap32 ((b - a) % 4294967296)) = d) := (far_w a b).trans h
  clear h
  go_enter Try.func40, Try.ntmps40
  go_wp2
  go_ret
  exact ⟨by rw [← hf.out]; rfl, rfl⟩
theorem rget36 (v : Int) (hv : 0 ≤ v ∧ v < 4294967296) (w : World) : Calls Try.prog 36 #[.int .u32 v] w fun e w' => e = .returned (.tuple #[.int .i64 (v / 1048576), .int .i64 (v % 1048576)]) ∧ w = w' := by
  have hf : Hid (wrap64 (v / 1048576) = v / 1048576) := by show wrap64 (v / 1048576) = v / 1048576; unfold wrap64; omega
  have hg : Hid (wrap64 (Go.bits .and .u32 v 1048575) = v % 1048576) := by show wrap64 _ = _; rw [u32_20 v hv.1 hv.2]; unfold wrap64; omega
  clear hv
  go_enter Try.func36, Try.ntmps36
  go_wp2
  go_ret2
  refine ⟨?_, rfl⟩
  show Ending.returned (.tuple #[.int .i64 (wrap64 (v / 1048576)), .int .i64 (wrap64 (Go.bits .and .u32 v 1048575))]) = _
  rw [hf.out, hg.out]
/-- The stamp near to another one that a stamp says. -/
def backN (v n : Int) : Int :=
  if 524288 ≤ (v / 1048576 * 256 - (n - n % 256)) % 1048576 then (n - n % 256 + (v / 1048576 * 256 - (n - n % 256)) % 1048576 - 1048576) % 4294967296
  else (n - n % 256 + (v / 1048576 * 256 - (n - n % 256)) % 1048576) % 4294967296
theorem back_and (v n d : Int) (hv : 0 ≤ v ∧ v < 4294967296) (hn : 0 ≤ n ∧ n < 4294967296) (hd : d = (v / 1048576 * 256 - (n - n % 256)) % 1048576) : Go.bits .and .u32 ((v / 1048576 % 4294967296 * 256 - (n - n % 256)) % 4294967296) 1048575 = d := by
  rw [u32_20 _ (by omega) (by omega)]
  omega
theorem back_far (v n d : Int) (hn : 0 ≤ n ∧ n < 4294967296) (hd : d = (v / 1048576 * 256 - (n - n % 256)) % 1048576) : farN (n - n % 256) ((n - n % 256 + d) % 4294967296) = d := by
  unfold farN
  omega
theorem rback39 (v n : Int) (hv : 0 ≤ v ∧ v < 4294967296) (hn : 0 ≤ n ∧ n < 4294967296) (w : World) : Calls Try.prog 39 #[.int .u32 v, .int .u32 n] w fun e w' => e = .returned (.int .u32 (backN v n)) ∧ w = w' := by
  have HV := Aside0.mk hv
  have HN := Aside0.mk hn
  obtain ⟨d, hd⟩ : ∃ d, d = (v / 1048576 * 256 - (n - n % 256)) % 1048576 := ⟨_, rfl⟩
  have HD := Aside0.mk hd
  by_cases hc : 524288 ≤ d
  · have HB : Aside0 (backN v n = (n - n % 256 + d - 1048576) % 4294967296) := ⟨by unfold backN; rw [← hd, if_pos hc]⟩
    have hc2 : decide (524288 ≤ d) = true := decide_eq_true hc
    clear hv hn hd hc
    go_enter Try.func39, Try.ntmps39
    go_wp2_with (first | (go_at_call 36; refine (rget36 _ HV.out _).mono ?_; rintro e' w' ⟨rfl, rfl⟩) | (go_at_call 40; refine (rfar40 _ _ d ?_ _).mono ?_; rotate_left; rintro e' w' ⟨rfl, rfl⟩))
    · go_ret
      refine ⟨?_, rfl⟩
      rw [HB.out, u32_high n HN.out.1 HN.out.2, back_and v n d HV.out HN.out HD.out]
      show Ending.returned (.int .u32 (((n - n % 256 + d) % 4294967296 - 1048576) % 4294967296)) = _
      rw [show ((n - n % 256 + d) % 4294967296 - 1048576) % 4294967296 = (n - n % 256 + d - 1048576) % 4294967296 from by omega]
    · rw [u32_high n HN.out.1 HN.out.2, back_and v n d HV.out HN.out HD.out]
      exact back_far v n d HN.out HD.out
  · have HB : Aside0 (backN v n = (n - n % 256 + d) % 4294967296) := ⟨by unfold backN; rw [← hd, if_neg hc]⟩
    have hc2 : decide (524288 ≤ d) = false := decide_eq_false hc
    clear hv hn hd hc
    go_enter Try.func39, Try.ntmps39
    go_wp2_with (first | (go_at_call 36; refine (rget36 _ HV.out _).mono ?_; rintro e' w' ⟨rfl, rfl⟩) | (go_at_call 40; refine (rfar40 _ _ d ?_ _).mono ?_; rotate_left; rintro e' w' ⟨rfl, rfl⟩))
    · go_ret
      refine ⟨?_, rfl⟩
      rw [HB.out, u32_high n HN.out.1 HN.out.2, back_and v n d HV.out HN.out HD.out]
      rfl
    · rw [u32_high n HN.out.1 HN.out.2, back_and v n d HV.out HN.out HD.out]
      exact back_far v n d HN.out HD.out
theorem four47 (x : Int) (w : World) : Calls Try.prog 47 #[.int .i64 x] w fun e w' => e = .returned (.int .i64 (turn4 x)) ∧ w = w' := by
  go_enter Try.func47, Try.ntmps47
  go_wp2
  go_ret
  exact ⟨rfl, rfl⟩
/-- The key of an epoch, of a ring's. -/
def keyOf (q a b c d e f epoch : Int) : Int × Int × Bool :=
  if turn4 epoch = turn4 (wrap64 (q - 1)) then (a, b, true)
  else if turn4 epoch = turn4 q then (c, d, true)
  else if turn4 epoch = turn4 (wrap64 (q + 1)) then (e, f, true)
  else (0, 0, false)
theorem rkey30 (q a b c d e f epoch : Int) (w : World) : Calls Try.prog 30 #[.agg #[.int .i64 q, .int .u64 a, .int .u64 b, .int .u64 c, .int .u64 d, .int .u64 e, .int .u64 f], .int .i64 epoch] w
    fun e' w' => e' = .returned (.tuple #[.agg #[.int .u64 (keyOf q a b c d e f epoch).1, .int .u64 (keyOf q a b c d e f epoch).2.1], .bool (keyOf q a b c d e f epoch).2.2]) ∧ Below w.heap.size w w' := by
  by_cases h1 : turn4 epoch = turn4 (wrap64 (q - 1))
  · have HK : Aside0 (keyOf q a b c d e f epoch = (a, b, true)) := ⟨by rw [keyOf, if_pos h1]⟩
    have c1 : (turn4 epoch == turn4 (wrap64 (q - 1))) = true := by simpa using h1
    clear h1
    go_enter Try.func30, Try.ntmps30
    go_wp2_with (go_at_call 47; refine (four47 _ _).mono ?_; rintro e' w' ⟨rfl, rfl⟩)
    refine bodyPost_ret (results_ct rfl _ _ (w.heap.size + 1) 25 #[.int .u64 a, .int .u64 b] (0, 0) _ rfl (heap2 _ _ _) Try.underlying25 rfl (by kernel_rfl)) rfl ?_
    exact ⟨by rw [HK.out]; rfl, below_alloc (below_alloc (Below.refl _ _) _) _⟩
  · skip
    by_cases h2 : turn4 epoch = turn4 q
    · have HK : Aside0 (keyOf q a b c d e f epoch = (c, d, true)) := ⟨by rw [keyOf, if_neg h1, if_pos h2]⟩
      have c1 : (turn4 epoch == turn4 (wrap64 (q - 1))) = false := by simpa using h1
      have c2 : (turn4 epoch == turn4 q) = true := by simpa using h2
      clear h1 h2
      go_enter Try.func30, Try.ntmps30
      go_wp2_with (go_at_call 47; refine (four47 _ _).mono ?_; rintro e' w' ⟨rfl, rfl⟩)
      refine bodyPost_ret (results_ct rfl _ _ (w.heap.size + 1) 25 #[.int .u64 c, .int .u64 d] (0, 0) _ rfl (heap2 _ _ _) Try.underlying25 rfl (by kernel_rfl)) rfl ?_
      exact ⟨by rw [HK.out]; rfl, below_alloc (below_alloc (Below.refl _ _) _) _⟩
    · skip
      by_cases h3 : turn4 epoch = turn4 (wrap64 (q + 1))
      · have HK : Aside0 (keyOf q a b c d e f epoch = (e, f, true)) := ⟨by rw [keyOf, if_neg h1, if_neg h2, if_pos h3]⟩
        have c1 : (turn4 epoch == turn4 (wrap64 (q - 1))) = false := by simpa using h1
        have c2 : (turn4 epoch == turn4 q) = false := by simpa using h2
        have c3 : (turn4 epoch == turn4 (wrap64 (q + 1))) = true := by simpa using h3
        clear h1 h2 h3
        go_enter Try.func30, Try.ntmps30
        go_wp2_with (go_at_call 47; refine (four47 _ _).mono ?_; rintro e' w' ⟨rfl, rfl⟩)
        refine bodyPost_ret (results_ct rfl _ _ (w.heap.size + 1) 25 #[.int .u64 e, .int .u64 f] (0, 0) _ rfl (heap2 _ _ _) Try.underlying25 rfl (by kernel_rfl)) rfl ?_
        exact ⟨by rw [HK.out]; rfl, below_alloc (below_alloc (Below.refl _ _) _) _⟩
      · have HK : Aside0 (keyOf q a b c d e f epoch = (0, 0, false)) := ⟨by rw [keyOf, if_neg h1, if_neg h2, if_neg h3]⟩
        have c1 : (turn4 epoch == turn4 (wrap64 (q - 1))) = false := by simpa using h1
        have c2 : (turn4 epoch == turn4 q) = false := by simpa using h2
        have c3 : (turn4 epoch == turn4 (wrap64 (q + 1))) = false := by simpa using h3
        clear h1 h2 h3
        go_enter Try.func30, Try.ntmps30
        go_wp2_with (go_at_call 47; refine (four47 _ _).mono ?_; rintro e' w' ⟨rfl, rfl⟩)
        refine bodyPost_ret (results_ct rfl _ _ (w.heap.size + 1) 25 #[.int .u64 0, .int .u64 0] (0, 0) _ rfl (heap2 _ _ _) Try.underlying25 rfl (by kernel_rfl)) rfl ?_
        exact ⟨by rw [HK.out]; rfl, below_alloc (below_alloc (Below.refl _ _) _) _⟩
def roundhouseref5_Key.f (q a b c d e f epoch : Int) : Option (Int × Int × Bool) := some (keyOf q a b c d e f epoch)
theorem roundhouseref5_Key.calls (q a b c d e f epoch : Int) (r1 r2 : Int) (r3 : Bool) (w : World) (h : roundhouseref5_Key.f q a b c d e f epoch = some (r1, r2, r3)) :
    Calls Try.prog 30 #[.agg #[.int .i64 q, .int .u64 a, .int .u64 b, .int .u64 c, .int .u64 d, .int .u64 e, .int .u64 f], .int .i64 epoch] w fun e' w' => e' = .returned (.tuple #[.agg #[.int .u64 r1, .int .u64 r2], .bool r3]) ∧ Below w.heap.size w w' := by
  have h2 : keyOf q a b c d e f epoch = (r1, r2, r3) := Option.some.inj h
  have h3 := rkey30 q a b c d e f epoch w
  rw [h2] at h3
  exact h3
def roundhouseref5_Back.f (v n : Int) : Option Int := if (0 ≤ v ∧ v < 4294967296) ∧ 0 ≤ n ∧ n < 4294967296 then some (backN v n) else none
theorem roundhouseref5_Back.calls (v n : Int) (r : Int) (w : World) (h : roundhouseref5_Back.f v n = some r) :
    Calls Try.prog 39 #[.int .u32 v, .int .u32 n] w fun e w' => e = .returned (.int .u32 r) ∧ Drawn0 w w' := by
  unfold roundhouseref5_Back.f at h
  split at h
  · rename_i hb
    obtain rfl := Option.some.inj h
    refine (rback39 v n hb.1 hb.2 w).mono ?_
    rintro e w' ⟨rfl, rfl⟩
    exact ⟨rfl, Drawn0.refl _⟩
  · exact absurd h (by simp)
end Go.Proofs.Ytnaplobnkmdfbaa.Own
namespace Go.Proofs.Ytnaplobnkmdfbaa.Own
end Go.Proofs.Ytnaplobnkmdfbaa.Own
