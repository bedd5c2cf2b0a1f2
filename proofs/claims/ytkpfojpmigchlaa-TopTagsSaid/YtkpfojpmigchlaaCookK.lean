/-
  The walks of cookie.Key and cookie.Ring.
-/
import Derived.Test.YtkpfojpmigchlaaQ0
import Derived.Laws.CopyOwn
namespace Go.Proofs.Ytkpfojpmigchlaa.Own
open Go.RowKit Go.Proofs.YtkpfojpmigchlaaW.PrintWords Go.Proofs.YtkpfojpmigchlaaW.PrintMore Go.Proofs.YtkpfojpmigchlaaW.PrintLast Go.Proofs.Ytkpfojpmigchlaa.Q
set_option linter.unusedVariables false
set_option linter.unusedSimpArgs false


/-- An epoch's bits. -/
def turn4 (x : Int) : Int := Go.bits .and .i64 x 3
theorem turn41 (x : Int) (w : World) : Calls Try.prog 25 #[.int .i64 x] w fun e w' => e = .returned (.int .i64 (turn4 x)) ∧ w = w' := by
  go_enter Try.func25, Try.ntmps25
  go_wp2
  go_ret
  exact ⟨rfl, rfl⟩
/-- The one of three that is an epoch's. -/
def keyAt (a b c d e f first epoch : Int) : Int × Int × Bool :=
  if turn4 (wrap64 first) = turn4 epoch then (a, b, true)
  else if turn4 (wrap64 (first + 1)) = turn4 epoch then (c, d, true)
  else if turn4 (wrap64 (first + 2)) = turn4 epoch then (e, f, true)
  else (0, 0, false)
theorem idx0 (a b c d e f : Int) (w : World) : (Instr.index 77 (.agg #[.int .u64 a, .int .u64 b, .int .u64 c, .int .u64 d, .int .u64 e, .int .u64 f]) (.int .i64 0)).run Try.prog w = .ok (.agg #[.int .u64 a, .int .u64 b]) w := by kernel_rfl
theorem idx1 (a b c d e f : Int) (w : World) : (Instr.index 77 (.agg #[.int .u64 a, .int .u64 b, .int .u64 c, .int .u64 d, .int .u64 e, .int .u64 f]) (.int .i64 1)).run Try.prog w = .ok (.agg #[.int .u64 c, .int .u64 d]) w := by kernel_rfl
theorem idx2 (a b c d e f : Int) (w : World) : (Instr.index 77 (.agg #[.int .u64 a, .int .u64 b, .int .u64 c, .int .u64 d, .int .u64 e, .int .u64 f]) (.int .i64 2)).run Try.prog w = .ok (.agg #[.int .u64 e, .int .u64 f]) w := by kernel_rfl
set_option maxHeartbeats 4000000 in
theorem at50 (a b c d e f first epoch : Int) (w : World) : Calls Try.prog 30 #[.agg #[.int .u64 a, .int .u64 b, .int .u64 c, .int .u64 d, .int .u64 e, .int .u64 f], .int .i64 first, .int .i64 epoch] w
    fun e' w' => e' = .returned (.tuple #[.agg #[.int .u64 (keyAt a b c d e f first epoch).1, .int .u64 (keyAt a b c d e f first epoch).2.1], .bool (keyAt a b c d e f first epoch).2.2]) ∧ Below w.heap.size w w' := by
  obtain ⟨r, hr⟩ : ∃ r, r = keyAt a b c d e f first epoch := ⟨_, rfl⟩
  rw [← hr]
  have HR := Aside0.mk hr
  clear hr
  have x0 := idx0 a b c d e f
  have x1 := idx1 a b c d e f
  have x2 := idx2 a b c d e f
  go_enter Try.func30, Try.ntmps30
  go_wp2
  have HR1 := Aside0.mk (show (w.alloc (.cells #[.int .u64 a, .int .u64 b, .int .u64 c, .int .u64 d, .int .u64 e, .int .u64 f] 77)).heap.size = w.heap.size + 1 from by simp)
  go_loopw [12] (fun v12 wr => ∃ k : Nat, k ≤ 3 ∧ v12 = .int .i64 k ∧ Aside0 (Below w.heap.size w wr) ∧ Aside0 (wr.heap[w.heap.size + 1]? = some (.cells #[.int .u64 0, .int .u64 0] 29 (0, 0))) ∧ Aside0 (∀ i : Nat, i < k → ¬ turn4 (wrap64 (first + i)) = turn4 epoch)) (fun v12 _ => 3 - (intOf v12).toNat)
  case atStart => exact ⟨0, by omega, rfl, ⟨below_alloc (below_alloc (Below.refl _ _) _) _⟩, ⟨by rw [← HR1.out]; exact heap_alloc_new _ _⟩, ⟨fun i hi => absurd hi (by omega)⟩⟩
  case round =>
    obtain ⟨k, hk, rfl, HB, HN, HF⟩ := hrel
    have BO : Aside0 (∀ o, (wr.alloc o).heap[w.heap.size + 1]? = some (.cells #[.int .u64 0, .int .u64 0] 29 (0, 0))) := ⟨fun o => blk_below HN.out (below_alloc (Below.refl _ _) o)⟩
    by_cases hlt : k < 3
    · by_cases he : turn4 (wrap64 (first + k)) = turn4 epoch
      · have he2 := Aside0.mk he
        clear he
        rcases (show k = 0 ∨ k = 1 ∨ k = 2 by omega) with rfl | rfl | rfl
        · have b0 := fun o => (blk_cell (BO.out o) 0).trans rfl; have b1 := fun o => (blk_cell (BO.out o) 1).trans rfl; have f0 := fun o => blk_frozen (BO.out o) 0; have f1 := fun o => blk_frozen (BO.out o) 1
          have he' : (turn4 (wrap64 first) == turn4 epoch) = true := by simpa using he2.out
          go_wp2_with (go_at_call 25; refine (turn41 _ _).mono ?_; rintro e' w' ⟨rfl, rfl⟩)
          refine bodyPost_ret (results_ct rfl _ _ (w.heap.size + 1) 29 #[.int .u64 a, .int .u64 b] (0, 0) _ rfl (by refine blk_put (cs := #[.int .u64 a, .int .u64 0]) ?_ 1 _ rfl; refine blk_put (cs := #[.int .u64 0, .int .u64 0]) ?_ 0 _ rfl; exact BO.out _) Try.underlying29 rfl (by kernel_rfl)) rfl ?_
          exact ⟨by rw [HR.out, keyAt, if_pos (by simpa using he2.out)]; rfl, by repeat (first | exact HB.out | apply below_alloc | (refine below_set ?_ (Nat.le_add_right _ _)))⟩
        · have b0 := fun o => (blk_cell (BO.out o) 0).trans rfl; have b1 := fun o => (blk_cell (BO.out o) 1).trans rfl; have f0 := fun o => blk_frozen (BO.out o) 0; have f1 := fun o => blk_frozen (BO.out o) 1
          have he' : (turn4 (wrap64 (first + 1)) == turn4 epoch) = true := by simpa using he2.out
          go_wp2_with (go_at_call 25; refine (turn41 _ _).mono ?_; rintro e' w' ⟨rfl, rfl⟩)
          refine bodyPost_ret (results_ct rfl _ _ (w.heap.size + 1) 29 #[.int .u64 c, .int .u64 d] (0, 0) _ rfl (by refine blk_put (cs := #[.int .u64 c, .int .u64 0]) ?_ 1 _ rfl; refine blk_put (cs := #[.int .u64 0, .int .u64 0]) ?_ 0 _ rfl; exact BO.out _) Try.underlying29 rfl (by kernel_rfl)) rfl ?_
          exact ⟨by rw [HR.out, keyAt, if_neg (by simpa using HF.out 0 (by decide)), if_pos (by simpa using he2.out)]; rfl, by repeat (first | exact HB.out | apply below_alloc | (refine below_set ?_ (Nat.le_add_right _ _)))⟩
        · have b0 := fun o => (blk_cell (BO.out o) 0).trans rfl; have b1 := fun o => (blk_cell (BO.out o) 1).trans rfl; have f0 := fun o => blk_frozen (BO.out o) 0; have f1 := fun o => blk_frozen (BO.out o) 1
          have he' : (turn4 (wrap64 (first + 2)) == turn4 epoch) = true := by simpa using he2.out
          go_wp2_with (go_at_call 25; refine (turn41 _ _).mono ?_; rintro e' w' ⟨rfl, rfl⟩)
          refine bodyPost_ret (results_ct rfl _ _ (w.heap.size + 1) 29 #[.int .u64 e, .int .u64 f] (0, 0) _ rfl (by refine blk_put (cs := #[.int .u64 e, .int .u64 0]) ?_ 1 _ rfl; refine blk_put (cs := #[.int .u64 0, .int .u64 0]) ?_ 0 _ rfl; exact BO.out _) Try.underlying29 rfl (by kernel_rfl)) rfl ?_
          exact ⟨by rw [HR.out, keyAt, if_neg (by simpa using HF.out 0 (by decide)), if_neg (by simpa using HF.out 1 (by decide)), if_pos (by simpa using he2.out)]; rfl, by repeat (first | exact HB.out | apply below_alloc | (refine below_set ?_ (Nat.le_add_right _ _)))⟩
      · have he2 := Aside0.mk he
        clear he
        rcases (show k = 0 ∨ k = 1 ∨ k = 2 by omega) with rfl | rfl | rfl
        · have he' : (turn4 (wrap64 first) == turn4 epoch) = false := by simpa using he2.out
          go_wp2_with (go_at_call 25; refine (turn41 _ _).mono ?_; rintro e' w' ⟨rfl, rfl⟩)
          go_roundw
          case rel => exact ⟨1, by omega, by go_num, ⟨below_alloc HB.out _⟩, ⟨BO.out _⟩, ⟨fun i hi => (Nat.lt_or_ge i 0).elim (HF.out i) (fun h => by obtain rfl : i = 0 := (by omega); exact he2.out)⟩⟩
          case measure => simp [intOf]
        · have he' : (turn4 (wrap64 (first + 1)) == turn4 epoch) = false := by simpa using he2.out
          go_wp2_with (go_at_call 25; refine (turn41 _ _).mono ?_; rintro e' w' ⟨rfl, rfl⟩)
          go_roundw
          case rel => exact ⟨2, by omega, by go_num, ⟨below_alloc HB.out _⟩, ⟨BO.out _⟩, ⟨fun i hi => (Nat.lt_or_ge i 1).elim (HF.out i) (fun h => by obtain rfl : i = 1 := (by omega); exact he2.out)⟩⟩
          case measure => simp [intOf]
        · have he' : (turn4 (wrap64 (first + 2)) == turn4 epoch) = false := by simpa using he2.out
          go_wp2_with (go_at_call 25; refine (turn41 _ _).mono ?_; rintro e' w' ⟨rfl, rfl⟩)
          go_roundw
          case rel => exact ⟨3, by omega, by go_num, ⟨below_alloc HB.out _⟩, ⟨BO.out _⟩, ⟨fun i hi => (Nat.lt_or_ge i 2).elim (HF.out i) (fun h => by obtain rfl : i = 2 := (by omega); exact he2.out)⟩⟩
          case measure => simp [intOf]
    · obtain rfl : k = 3 := by omega
      have b0 := fun o => (blk_cell (BO.out o) 0).trans rfl; have b1 := fun o => (blk_cell (BO.out o) 1).trans rfl; have f0 := fun o => blk_frozen (BO.out o) 0; have f1 := fun o => blk_frozen (BO.out o) 1
      go_wp2
      refine bodyPost_ret (results_ct rfl _ _ (w.heap.size + 1) 29 #[.int .u64 0, .int .u64 0] (0, 0) _ rfl (by refine blk_put (cs := #[.int .u64 0, .int .u64 0]) ?_ 1 _ rfl; refine blk_put (cs := #[.int .u64 0, .int .u64 0]) ?_ 0 _ rfl; exact BO.out _) Try.underlying29 rfl (by kernel_rfl)) rfl ?_
      exact ⟨by rw [HR.out, keyAt, if_neg (by simpa using HF.out 0 (by decide)), if_neg (by simpa using HF.out 1 (by decide)), if_neg (by simpa using HF.out 2 (by decide))]; rfl, by repeat (first | exact HB.out | apply below_alloc | (refine below_set ?_ (Nat.le_add_right _ _)))⟩

theorem heap2 (w : World) (o1 o2 : Obj) : ((w.alloc o1).alloc o2).heap[w.heap.size + 1]? = some o2 := by
  have h := heap_alloc_new (w.alloc o1) o2
  rwa [show (w.alloc o1).heap.size = w.heap.size + 1 from by simp] at h
set_option maxHeartbeats 4000000 in
theorem key29 (q a b c d e f epoch : Int) (w : World) : Calls Try.prog 11 #[.agg #[.int .i64 q, .int .u64 a, .int .u64 b, .int .u64 c, .int .u64 d, .int .u64 e, .int .u64 f], .int .i64 epoch] w
    fun e' w' => e' = .returned (.tuple #[.agg #[.int .u64 (keyAt a b c d e f (wrap64 (q - 1)) epoch).1, .int .u64 (keyAt a b c d e f (wrap64 (q - 1)) epoch).2.1], .bool (keyAt a b c d e f (wrap64 (q - 1)) epoch).2.2]) ∧ Below w.heap.size w w' := by
  obtain ⟨r, hr⟩ : ∃ r, r = keyAt a b c d e f (wrap64 (q - 1)) epoch := ⟨_, rfl⟩
  rw [← hr]
  have HR := Aside0.mk hr
  clear hr
  go_enter Try.func11, Try.ntmps11
  go_wp2_with (go_at_call 30; refine (at50 _ _ _ _ _ _ _ _ _).mono ?_; rintro e' w' ⟨rfl, hb⟩; rw [← HR.out]; have HB := Aside0.mk (below_step (below_alloc (below_alloc (Below.refl _ _) _) _) hb); have BK := Aside0.mk (blk_below (heap2 _ _ _) hb); have b0 := (blk_cell BK.out 0).trans rfl; have b1 := (blk_cell BK.out 1).trans rfl; have f0 := blk_frozen BK.out 0; have f1 := blk_frozen BK.out 1; clear hb)
  refine bodyPost_ret (results_ct rfl _ _ (w.heap.size + 1) 29 #[.int .u64 r.1, .int .u64 r.2.1] (0, 0) _ rfl (by refine blk_put (cs := #[.int .u64 r.1, .int .u64 0]) ?_ 1 _ rfl; refine blk_put (cs := #[.int .u64 0, .int .u64 0]) ?_ 0 _ rfl; exact BK.out) Try.underlying29 rfl (by kernel_rfl)) rfl ?_
  exact ⟨rfl, by repeat (first | exact HB.out | apply below_alloc | (refine below_set ?_ (Nat.le_add_right _ _)))⟩
/-- The keys of three epochs, of some. -/
def keyIn (l : List S29) (k j : Nat) : S29 := if j < k then l.getD j z29 else z29
def keyCells (l : List S29) (k : Nat) : Array Value := #[.int .u64 (keyIn l k 0).f0, .int .u64 (keyIn l k 0).f1, .int .u64 (keyIn l k 1).f0, .int .u64 (keyIn l k 1).f1, .int .u64 (keyIn l k 2).f0, .int .u64 (keyIn l k 2).f1]
theorem keyStep (l : List S29) (k : Nat) (x : S29) (hx : x = l.getD k z29) (h : k < 3) : (((keyCells l k).setIfInBounds (k * 2) (.int .u64 x.f0)).setIfInBounds (k * 2 + 1) (.int .u64 x.f1)) = keyCells l (k + 1) := by
  subst hx
  rcases (show k = 0 ∨ k = 1 ∨ k = 2 by omega) with rfl | rfl | rfl <;> rfl
theorem keyIn_three (l : List S29) (j : Nat) (h : j < 3) : keyIn l 3 j = l.getD j z29 := if_pos h
theorem keyIn_len (l : List S29) (j : Nat) : keyIn l l.length j = l.getD j z29 := by
  unfold keyIn
  split
  · rfl
  · rw [List.getD_eq_getElem?_getD, List.getElem?_eq_none (by omega)]
    rfl

def zero6 : Array Value := #[.int .u64 0, .int .u64 0, .int .u64 0, .int .u64 0, .int .u64 0, .int .u64 0]
def full6 (l : List S29) : Array Value := #[.int .u64 (l.getD 0 z29).f0, .int .u64 (l.getD 0 z29).f1, .int .u64 (l.getD 1 z29).f0, .int .u64 (l.getD 1 z29).f1, .int .u64 (l.getD 2 z29).f0, .int .u64 (l.getD 2 z29).f1]
theorem sizeKey : (Try.prog.info? 29).map (·.size) = some 2 := by kernel_rfl
theorem run_copy25 (w : World) (ty : TypeId) (g dCap : Nat) (A : Option Addr) (c : Nat) (l : List S29) (cs : List Value) (hg : w.heap[g]? = some (.cells zero6 77 (0, 0))) (hn : cs.length = Nat.min l.length 3 * 2)
    (hsrc : ∀ a, A = some a → ∀ j v, cs[j]? = some v → w.cell? (a.add j) = some v) (hnil : A = none → cs = []) (h1 : ∀ v ∈ cs, v.oneCell' = true) (hfull : (cs ++ zero6.toList.drop cs.length).toArray = full6 l) :
    (Builtin.copy_ #[113, 113] ty #[.slice (some ⟨g, 0, none⟩) 3 dCap, .slice A l.length c]).run Try.prog w = .ok (goInt (Nat.min l.length 3)) (w.setRow g (full6 l)) := by
  have hst := run_storeCells_at Try.prog g 0 77 cs 0 zero6 w hg (by rw [hn]; show 0 + 0 + _ ≤ 6; have : Nat.min l.length 3 ≤ 3 := Nat.min_le_right _ _; omega) h1
  simp only [Nat.zero_add, List.take_zero, List.nil_append] at hst
  rw [hfull] at hst
  have hq := sizeKey
  cases hi : Try.prog.info? 29 with
  | none => simp [hi] at hq
  | some i =>
    have hsz : i.size = 2 := by simpa [hi] using hq
    cases A with
    | none =>
      obtain rfl := hnil rfl
      have hst2 : (storeCells ⟨g, 0, none⟩ [] 0).run Try.prog w = .ok () (w.setRow g (full6 l)) := hst
      simp [Builtin.copy_, run_underlying Try.underlying113, Builtin.lenOf, Builtin.firstCells, sizeOf, typeInfo, hi, hsz, hst2]
    | some a =>
      have hl := run_loadCells_list (P := Try.prog) w a cs (hsrc a rfl)
      rw [hn] at hl
      simp [Builtin.copy_, run_underlying Try.underlying113, Builtin.lenOf, Builtin.firstCells, sizeOf, typeInfo, hi, hsz, hl, hst]
theorem cell25 {w : World} {A : Option Addr} {n : Nat} {l : List S29} (h : Kd.C k29 w A n l) (i : Nat) (hi : i < n) : ∃ ad, A = some ad ∧ w.cell? (ad.add (i * 2)) = some (.int .u64 (l.getD i z29).f0) ∧ w.cell? (ad.add (i * 2 + 1)) = some (.int .u64 (l.getD i z29).f1) := by
  obtain ⟨ad, c, e, _, hK, hc0⟩ := Kd.C_get h z29 (i : Int) (by omega) (by omega)
  have hc : ∀ j u, c[j]? = some u → w.cell? (ad.add (i * 2 + j)) = some u := hc0
  obtain rfl := k29_open hK
  exact ⟨ad, e, hc 0 _ rfl, hc 1 _ rfl⟩
theorem copy25 (w : World) (ty : TypeId) (g dCap : Nat) (A : Option Addr) (c : Nat) (l : List S29) (hg : w.heap[g]? = some (.cells zero6 77 (0, 0))) (hr : Kd.C k29 w A l.length l) :
    (Builtin.copy_ #[113, 113] ty #[.slice (some ⟨g, 0, none⟩) 3 dCap, .slice A l.length c]).run Try.prog w = .ok (goInt (Nat.min l.length 3)) (w.setRow g (full6 l)) := by
  have hc := fun i hi => cell25 hr i hi
  clear hr
  match l with
  | [] =>
    exact run_copy25 w ty g dCap A c [] [] hg rfl (fun a _ j v h => absurd h (by simp)) (fun _ => rfl) (by simp) rfl
  | [x] =>
    obtain ⟨ad, rfl, p0, p1⟩ := hc 0 (by simp)
    refine run_copy25 w ty g dCap _ c [x] [.int .u64 x.f0, .int .u64 x.f1] hg rfl ?_ (by simp) (by simp [Value.oneCell']) rfl
    rintro a ha j v hv
    obtain rfl := Option.some.inj ha
    match j, hv with
    | 0, hv => cases hv; exact p0
    | 1, hv => cases hv; exact p1
  | [x, y] =>
    obtain ⟨ad, rfl, p0, p1⟩ := hc 0 (by simp)
    obtain ⟨ad2, e2, p2, p3⟩ := hc 1 (by simp)
    obtain rfl := Option.some.inj e2
    refine run_copy25 w ty g dCap _ c [x, y] [.int .u64 x.f0, .int .u64 x.f1, .int .u64 y.f0, .int .u64 y.f1] hg rfl ?_ (by simp) (by simp [Value.oneCell']) rfl
    rintro a ha j v hv
    obtain rfl := Option.some.inj ha
    match j, hv with
    | 0, hv => cases hv; exact p0
    | 1, hv => cases hv; exact p1
    | 2, hv => cases hv; exact p2
    | 3, hv => cases hv; exact p3
  | x :: y :: z :: t =>
    obtain ⟨ad, rfl, p0, p1⟩ := hc 0 (by simp)
    obtain ⟨ad2, e2, p2, p3⟩ := hc 1 (by simp)
    obtain rfl := Option.some.inj e2
    obtain ⟨ad3, e3, p4, p5⟩ := hc 2 (by simp)
    obtain rfl := Option.some.inj e3
    refine run_copy25 w ty g dCap _ c (x :: y :: z :: t) [.int .u64 x.f0, .int .u64 x.f1, .int .u64 y.f0, .int .u64 y.f1, .int .u64 z.f0, .int .u64 z.f1] hg (by show 6 = Nat.min (t.length + 3) 3 * 2; rw [show Nat.min (t.length + 3) 3 = 3 from Nat.min_eq_right (by omega)]) ?_ (by simp) (by simp [Value.oneCell']) rfl
    rintro a ha j v hv
    obtain rfl := Option.some.inj ha
    match j, hv with
    | 0, hv => cases hv; exact p0
    | 1, hv => cases hv; exact p1
    | 2, hv => cases hv; exact p2
    | 3, hv => cases hv; exact p3
    | 4, hv => cases hv; exact p4
    | 5, hv => cases hv; exact p5
set_option maxHeartbeats 4000000 in
theorem ring26 (q : Int) (A : Option Addr) (c : Nat) (l : List S29) (w : World) (hr : Kd.C k29 w A l.length l) (hc : l.length ≤ c) : Calls Try.prog 32 #[.int .i64 q, .slice A l.length c] w
    fun e' w' => e' = .returned (.agg #[.int .i64 q, .int .u64 (l.getD 0 z29).f0, .int .u64 (l.getD 0 z29).f1, .int .u64 (l.getD 1 z29).f0, .int .u64 (l.getD 1 z29).f1, .int .u64 (l.getD 2 z29).f0, .int .u64 (l.getD 2 z29).f1]) ∧ Below w.heap.size w w' := by
  have HR := Aside0.mk hr
  clear hr
  obtain ⟨w2, hcp, HB, BR, BK⟩ : ∃ w2, (Builtin.copy_ #[113, 113] 3 #[.slice (some ⟨w.heap.size + 1, 0, none⟩) 3 3, .slice A l.length c]).run Try.prog ((w.alloc (.cells #[.int .i64 0, .int .u64 0, .int .u64 0, .int .u64 0, .int .u64 0, .int .u64 0, .int .u64 0] 31)).alloc (.cells #[.int .u64 0, .int .u64 0, .int .u64 0, .int .u64 0, .int .u64 0, .int .u64 0] 77)) = .ok (goInt (Nat.min l.length 3)) w2 ∧ Aside0 (Below w.heap.size w w2) ∧ Aside0 (w2.heap[w.heap.size]? = some (.cells #[.int .i64 0, .int .u64 0, .int .u64 0, .int .u64 0, .int .u64 0, .int .u64 0, .int .u64 0] 31 (0, 0))) ∧ Aside0 (w2.heap[w.heap.size + 1]? = some (.cells (full6 l) 77 (0, 0))) := by
    have hg := heap2 w (.cells #[.int .i64 0, .int .u64 0, .int .u64 0, .int .u64 0, .int .u64 0, .int .u64 0, .int .u64 0] 31) (.cells zero6 77)
    refine ⟨_, copy25 _ 3 (w.heap.size + 1) 3 A c l hg (Kd.C_alloc (Kd.C_alloc HR.out _) _), ⟨below_setRow (below_alloc (below_alloc (Below.refl _ _) _) _) (by omega) _⟩, ⟨?_⟩, ⟨setRow_heap _ _ _ _ _ _ hg⟩⟩
    rw [setRow_other _ _ _ _ (by omega)]
    exact blk_alloc (heap_alloc_new _ _) _
  obtain ⟨y0, b0, H0⟩ : ∃ y : Int, w2.cell? ⟨w.heap.size + 1, 0, none⟩ = some (.int .u64 y) ∧ Aside0 (y = (l.getD 0 z29).f0) := ⟨_, blk_cell BK.out 0, ⟨rfl⟩⟩
  obtain ⟨y1, b1, H1⟩ : ∃ y : Int, w2.cell? ⟨w.heap.size + 1, 1, none⟩ = some (.int .u64 y) ∧ Aside0 (y = (l.getD 0 z29).f1) := ⟨_, blk_cell BK.out 1, ⟨rfl⟩⟩
  obtain ⟨y2, b2, H2⟩ : ∃ y : Int, w2.cell? ⟨w.heap.size + 1, 2, none⟩ = some (.int .u64 y) ∧ Aside0 (y = (l.getD 1 z29).f0) := ⟨_, blk_cell BK.out 2, ⟨rfl⟩⟩
  obtain ⟨y3, b3, H3⟩ : ∃ y : Int, w2.cell? ⟨w.heap.size + 1, 3, none⟩ = some (.int .u64 y) ∧ Aside0 (y = (l.getD 1 z29).f1) := ⟨_, blk_cell BK.out 3, ⟨rfl⟩⟩
  obtain ⟨y4, b4, H4⟩ : ∃ y : Int, w2.cell? ⟨w.heap.size + 1, 4, none⟩ = some (.int .u64 y) ∧ Aside0 (y = (l.getD 2 z29).f0) := ⟨_, blk_cell BK.out 4, ⟨rfl⟩⟩
  obtain ⟨y5, b5, H5⟩ : ∃ y : Int, w2.cell? ⟨w.heap.size + 1, 5, none⟩ = some (.int .u64 y) ∧ Aside0 (y = (l.getD 2 z29).f1) := ⟨_, blk_cell BK.out 5, ⟨rfl⟩⟩
  have z0 := (blk_cell BR.out 0).trans rfl; have g0 := blk_frozen BR.out 0; have z1 := (blk_cell BR.out 1).trans rfl; have g1 := blk_frozen BR.out 1; have z2 := (blk_cell BR.out 2).trans rfl; have g2 := blk_frozen BR.out 2; have z3 := (blk_cell BR.out 3).trans rfl; have g3 := blk_frozen BR.out 3; have z4 := (blk_cell BR.out 4).trans rfl; have g4 := blk_frozen BR.out 4; have z5 := (blk_cell BR.out 5).trans rfl; have g5 := blk_frozen BR.out 5; have z6 := (blk_cell BR.out 6).trans rfl; have g6 := blk_frozen BR.out 6
  go_enter Try.func32, Try.ntmps32
  go_wp2
  refine bodyPost_ret (results_cell_row rfl _ _ w.heap.size 31 #[.int .i64 q, .int .u64 y0, .int .u64 y1, .int .u64 y2, .int .u64 y3, .int .u64 y4, .int .u64 y5] (0, 0) _ rfl (by refine blk_put (cs := #[.int .i64 q, .int .u64 y0, .int .u64 y1, .int .u64 y2, .int .u64 y3, .int .u64 y4, .int .u64 0]) ?_ 6 _ rfl; refine blk_put (cs := #[.int .i64 q, .int .u64 y0, .int .u64 y1, .int .u64 y2, .int .u64 y3, .int .u64 0, .int .u64 0]) ?_ 5 _ rfl; refine blk_put (cs := #[.int .i64 q, .int .u64 y0, .int .u64 y1, .int .u64 y2, .int .u64 0, .int .u64 0, .int .u64 0]) ?_ 4 _ rfl; refine blk_put (cs := #[.int .i64 q, .int .u64 y0, .int .u64 y1, .int .u64 0, .int .u64 0, .int .u64 0, .int .u64 0]) ?_ 3 _ rfl; refine blk_put (cs := #[.int .i64 q, .int .u64 y0, .int .u64 0, .int .u64 0, .int .u64 0, .int .u64 0, .int .u64 0]) ?_ 2 _ rfl; refine blk_put (cs := #[.int .i64 q, .int .u64 0, .int .u64 0, .int .u64 0, .int .u64 0, .int .u64 0, .int .u64 0]) ?_ 1 _ rfl; refine blk_put (cs := #[.int .i64 0, .int .u64 0, .int .u64 0, .int .u64 0, .int .u64 0, .int .u64 0, .int .u64 0]) ?_ 0 _ rfl; exact BR.out) Try.underlying31 rfl (by kernel_rfl)) rfl ?_
  exact ⟨by rw [H0.out, H1.out, H2.out, H3.out, H4.out, H5.out], by with_reducible repeat (first | (refine below_set ?_ (Nat.le_refl _)) | exact HB.out)⟩
def ringOf (q : Int) (l : List S29) : Int × Int × Int × Int × Int × Int × Int := (q, (l.getD 0 z29).f0, (l.getD 0 z29).f1, (l.getD 1 z29).f0, (l.getD 1 z29).f1, (l.getD 2 z29).f0, (l.getD 2 z29).f1)
def cookie_Ring.f (k : Nat) (q : Int) (l : List S29) : Option (Int × Int × Int × Int × Int × Int × Int) := match k with
  | 0 => none
  | _ + 1 => some (ringOf q l)
theorem cookie_Ring.mono : ∀ q l k, LeO (cookie_Ring.f k q l) (cookie_Ring.f (k + 1) q l) := by
  intro q l k
  cases k with
  | zero => exact LeO.none _
  | succ k => exact LeO.refl _
theorem cookie_Ring.calls (k : Nat) (q : Int) (A : Option Addr) (c : Nat) (l : List S29) (r1 r2 r3 r4 r5 r6 r7 : Int) (w : World) (hr : Kd.C k29 w A l.length l) (hc : l.length ≤ c) (h : cookie_Ring.f k q l = some (r1, r2, r3, r4, r5, r6, r7)) :
    Calls Try.prog 32 #[.int .i64 q, .slice A l.length c] w fun e w' => e = .returned (.agg #[.int .i64 r1, .int .u64 r2, .int .u64 r3, .int .u64 r4, .int .u64 r5, .int .u64 r6, .int .u64 r7]) ∧ Below w.heap.size w w' := by
  cases k with
  | zero => exact absurd h (by simp [cookie_Ring.f])
  | succ k =>
    have h2 : ringOf q l = (r1, r2, r3, r4, r5, r6, r7) := Option.some.inj (show some (ringOf q l) = _ from h)
    injection h2 with h2 h3
    injection h3 with h3 h4
    injection h4 with h4 h5
    injection h5 with h5 h6
    injection h6 with h6 h7
    injection h7 with h7 h8
    subst h2 h3 h4 h5 h6 h7 h8
    exact ring26 q A c l w hr hc
def cookie_Key.f (k : Nat) (q a b c d e f epoch : Int) : Option (Int × Int × Bool) := match k with
  | 0 => none
  | _ + 1 => some (keyAt a b c d e f (wrap64 (q - 1)) epoch)
theorem cookie_Key.mono : ∀ q a b c d e f epoch k, LeO (cookie_Key.f k q a b c d e f epoch) (cookie_Key.f (k + 1) q a b c d e f epoch) := by
  intro q a b c d e f epoch k
  cases k with
  | zero => exact LeO.none _
  | succ k => exact LeO.refl _
theorem cookie_Key.calls (k : Nat) (q a b c d e f epoch : Int) (r1 r2 : Int) (r3 : Bool) (w : World) (h : cookie_Key.f k q a b c d e f epoch = some (r1, r2, r3)) :
    Calls Try.prog 11 #[.agg #[.int .i64 q, .int .u64 a, .int .u64 b, .int .u64 c, .int .u64 d, .int .u64 e, .int .u64 f], .int .i64 epoch] w fun e' w' => e' = .returned (.tuple #[.agg #[.int .u64 r1, .int .u64 r2], .bool r3]) ∧ Below w.heap.size w w' := by
  cases k with
  | zero => exact absurd h (by simp [cookie_Key.f])
  | succ k =>
    have h2 : keyAt a b c d e f (wrap64 (q - 1)) epoch = (r1, r2, r3) := Option.some.inj (show some (keyAt a b c d e f (wrap64 (q - 1)) epoch) = _ from h)
    have h3 := key29 q a b c d e f epoch w
    rw [h2] at h3
    exact h3
end Go.Proofs.Ytkpfojpmigchlaa.Own
