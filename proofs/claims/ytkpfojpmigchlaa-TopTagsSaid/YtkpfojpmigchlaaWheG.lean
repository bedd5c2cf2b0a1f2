/-
  The walk of roundhouseref6.Check, for entries that are in form.
-/
import Derived.Test.YtkpfojpmigchlaaQP
import Derived.Test.YtkpfojpmigchlaaWheA
namespace Go.Proofs.Ytkpfojpmigchlaa.Own
open Go.RowKit Go.Proofs.YtkpfojpmigchlaaW.PrintWords Go.Proofs.YtkpfojpmigchlaaW.PrintMore Go.Proofs.YtkpfojpmigchlaaW.PrintLast Go.Proofs.Ytkpfojpmigchlaa.Q
set_option linter.unusedVariables false
set_option linter.unusedSimpArgs false

/-- Is a number not from one to another one? -/
def outB (x lo hi : Int) : Bool := decide (x < lo ∨ hi < x)
theorem out_calls (x lo hi : Int) (b : Bool) (hb : outB x lo hi = b) (w : World) : Calls Try.prog 52 #[.int .i64 x, .int .i64 lo, .int .i64 hi] w fun e w' => e = .returned (.bool b) ∧ ∃ n, w' = w.drewN n := by
  refine (roundhouseref6_out.calls x lo hi b w ?_).mono ?_
  · unfold roundhouseref6_out.f
    subst hb
    unfold outB
    by_cases h1 : x < lo <;> by_cases h2 : hi < x <;> simp [h1, h2]
  · rintro e w1 ⟨rfl, n, rfl⟩
    exact ⟨rfl, n, rfl⟩

/-- An entry in form: one of the six kinds, with nothing that is not of its kind. -/
def WF (k s a b c x y : Int) : Prop :=
  (k = 1 ∧ outB a 0 4294967295 = false ∧ outB b 0 65535 = false ∧ outB c 1 8 = false ∧ x = 0 ∧ y = 0) ∨ (k = 2 ∧ a = 0 ∧ b = 0 ∧ c = 0 ∧ x = 0 ∧ y = 0) ∨ (k = 3 ∧ a = 0 ∧ b = 0 ∧ c = 0 ∧ x = 0 ∧ y = 0) ∨ (k = 4 ∧ a = 0 ∧ b = 0 ∧ c = 0 ∧ x = 0 ∧ y = 0) ∨ (k = 5 ∧ a = 0 ∧ b = 0 ∧ c = 0 ∧ x = 0 ∧ y = 0) ∨ (k = 6 ∧ s = 0 ∧ a = 0 ∧ b = 0 ∧ c = 0)

set_option maxHeartbeats 1000000 in
set_option maxRecDepth 100000 in
theorem check1f (s a b c : Int) (ha : outB a 0 4294967295 = false) (hb : outB b 0 65535 = false) (hc : outB c 1 8 = false) (hs : outB s 0 63 = false) (w : World) : Calls Try.prog 54 #[.agg #[.int .i64 1, .int .i64 s, .int .i64 a, .int .i64 b, .int .i64 c, .int .u64 0, .int .u64 0]] w fun e w' => e = .returned (.int .i64 0) ∧ Below w.heap.size w w' := by
  have hu49 := Try.underlying69
  have hu29 := Try.underlying29
  have HA := Aside0.mk ha
  have HBB := Aside0.mk hb
  have HC := Aside0.mk hc
  have HS := Aside0.mk hs
  clear ha hb hc hs
  go_enter Try.func54, Try.ntmps54
  go_wp2_with (first | (go_at_call 52; refine Calls.mono (by first | with_reducible exact (out_calls _ _ _ false HS.out _) | with_reducible exact (out_calls _ _ _ false HA.out _) | with_reducible exact (out_calls _ _ _ false HBB.out _) | with_reducible exact (out_calls _ _ _ false HC.out _) | with_reducible exact (out_calls _ _ _ false (by decide) _)) ?_; rintro e_ w_ ⟨rfl, n_, rfl⟩))
  repeat (go_quiet (first | (go_at_call 52; refine Calls.mono (by first | with_reducible exact (out_calls _ _ _ false HS.out _) | with_reducible exact (out_calls _ _ _ false HA.out _) | with_reducible exact (out_calls _ _ _ false HBB.out _) | with_reducible exact (out_calls _ _ _ false HC.out _) | with_reducible exact (out_calls _ _ _ false (by decide) _)) ?_; rintro e_ w_ ⟨rfl, n_, rfl⟩)); (try go_wp2_with (first | (go_at_call 52; refine Calls.mono (by first | with_reducible exact (out_calls _ _ _ false HS.out _) | with_reducible exact (out_calls _ _ _ false HA.out _) | with_reducible exact (out_calls _ _ _ false HBB.out _) | with_reducible exact (out_calls _ _ _ false HC.out _) | with_reducible exact (out_calls _ _ _ false (by decide) _)) ?_; rintro e_ w_ ⟨rfl, n_, rfl⟩))))
  go_ret
  exact ⟨rfl, by repeat (first | exact Below.refl _ _ | apply below_alloc | apply pw_below_drewN | apply below_drew1)⟩

set_option maxHeartbeats 1000000 in
set_option maxRecDepth 100000 in
theorem check1t (s a b c : Int) (ha : outB a 0 4294967295 = false) (hb : outB b 0 65535 = false) (hc : outB c 1 8 = false) (hs : outB s 0 63 = true) (w : World) : Calls Try.prog 54 #[.agg #[.int .i64 1, .int .i64 s, .int .i64 a, .int .i64 b, .int .i64 c, .int .u64 0, .int .u64 0]] w fun e w' => e = .returned (.int .i64 11) ∧ Below w.heap.size w w' := by
  have hu49 := Try.underlying69
  have hu29 := Try.underlying29
  have HA := Aside0.mk ha
  have HBB := Aside0.mk hb
  have HC := Aside0.mk hc
  have HS := Aside0.mk hs
  clear ha hb hc hs
  go_enter Try.func54, Try.ntmps54
  go_wp2_with (first | (go_at_call 52; refine Calls.mono (by first | with_reducible exact (out_calls _ _ _ true HS.out _) | with_reducible exact (out_calls _ _ _ false HA.out _) | with_reducible exact (out_calls _ _ _ false HBB.out _) | with_reducible exact (out_calls _ _ _ false HC.out _) | with_reducible exact (out_calls _ _ _ false (by decide) _)) ?_; rintro e_ w_ ⟨rfl, n_, rfl⟩))
  repeat (go_quiet (first | (go_at_call 52; refine Calls.mono (by first | with_reducible exact (out_calls _ _ _ true HS.out _) | with_reducible exact (out_calls _ _ _ false HA.out _) | with_reducible exact (out_calls _ _ _ false HBB.out _) | with_reducible exact (out_calls _ _ _ false HC.out _) | with_reducible exact (out_calls _ _ _ false (by decide) _)) ?_; rintro e_ w_ ⟨rfl, n_, rfl⟩)); (try go_wp2_with (first | (go_at_call 52; refine Calls.mono (by first | with_reducible exact (out_calls _ _ _ true HS.out _) | with_reducible exact (out_calls _ _ _ false HA.out _) | with_reducible exact (out_calls _ _ _ false HBB.out _) | with_reducible exact (out_calls _ _ _ false HC.out _) | with_reducible exact (out_calls _ _ _ false (by decide) _)) ?_; rintro e_ w_ ⟨rfl, n_, rfl⟩))))
  go_ret
  exact ⟨rfl, by repeat (first | exact Below.refl _ _ | apply below_alloc | apply pw_below_drewN | apply below_drew1)⟩

set_option maxHeartbeats 1000000 in
set_option maxRecDepth 100000 in
theorem check2f (s : Int) (hs : outB s 0 63 = false) (w : World) : Calls Try.prog 54 #[.agg #[.int .i64 2, .int .i64 s, .int .i64 0, .int .i64 0, .int .i64 0, .int .u64 0, .int .u64 0]] w fun e w' => e = .returned (.int .i64 0) ∧ Below w.heap.size w w' := by
  have hu49 := Try.underlying69
  have hu29 := Try.underlying29
  have HS := Aside0.mk hs
  clear hs
  go_enter Try.func54, Try.ntmps54
  go_wp2_with (first | (go_at_call 52; refine Calls.mono (by first | with_reducible exact (out_calls _ _ _ false HS.out _) | with_reducible exact (out_calls _ _ _ false (by decide) _)) ?_; rintro e_ w_ ⟨rfl, n_, rfl⟩))
  repeat (go_quiet (first | (go_at_call 52; refine Calls.mono (by first | with_reducible exact (out_calls _ _ _ false HS.out _) | with_reducible exact (out_calls _ _ _ false (by decide) _)) ?_; rintro e_ w_ ⟨rfl, n_, rfl⟩)); (try go_wp2_with (first | (go_at_call 52; refine Calls.mono (by first | with_reducible exact (out_calls _ _ _ false HS.out _) | with_reducible exact (out_calls _ _ _ false (by decide) _)) ?_; rintro e_ w_ ⟨rfl, n_, rfl⟩))))
  go_ret
  exact ⟨rfl, by repeat (first | exact Below.refl _ _ | apply below_alloc | apply pw_below_drewN | apply below_drew1)⟩

set_option maxHeartbeats 1000000 in
set_option maxRecDepth 100000 in
theorem check2t (s : Int) (hs : outB s 0 63 = true) (w : World) : Calls Try.prog 54 #[.agg #[.int .i64 2, .int .i64 s, .int .i64 0, .int .i64 0, .int .i64 0, .int .u64 0, .int .u64 0]] w fun e w' => e = .returned (.int .i64 11) ∧ Below w.heap.size w w' := by
  have hu49 := Try.underlying69
  have hu29 := Try.underlying29
  have HS := Aside0.mk hs
  clear hs
  go_enter Try.func54, Try.ntmps54
  go_wp2_with (first | (go_at_call 52; refine Calls.mono (by first | with_reducible exact (out_calls _ _ _ true HS.out _) | with_reducible exact (out_calls _ _ _ false (by decide) _)) ?_; rintro e_ w_ ⟨rfl, n_, rfl⟩))
  repeat (go_quiet (first | (go_at_call 52; refine Calls.mono (by first | with_reducible exact (out_calls _ _ _ true HS.out _) | with_reducible exact (out_calls _ _ _ false (by decide) _)) ?_; rintro e_ w_ ⟨rfl, n_, rfl⟩)); (try go_wp2_with (first | (go_at_call 52; refine Calls.mono (by first | with_reducible exact (out_calls _ _ _ true HS.out _) | with_reducible exact (out_calls _ _ _ false (by decide) _)) ?_; rintro e_ w_ ⟨rfl, n_, rfl⟩))))
  go_ret
  exact ⟨rfl, by repeat (first | exact Below.refl _ _ | apply below_alloc | apply pw_below_drewN | apply below_drew1)⟩

set_option maxHeartbeats 1000000 in
set_option maxRecDepth 100000 in
theorem check3f (s : Int) (hs : outB s 0 63 = false) (w : World) : Calls Try.prog 54 #[.agg #[.int .i64 3, .int .i64 s, .int .i64 0, .int .i64 0, .int .i64 0, .int .u64 0, .int .u64 0]] w fun e w' => e = .returned (.int .i64 0) ∧ Below w.heap.size w w' := by
  have hu49 := Try.underlying69
  have hu29 := Try.underlying29
  have HS := Aside0.mk hs
  clear hs
  go_enter Try.func54, Try.ntmps54
  go_wp2_with (first | (go_at_call 52; refine Calls.mono (by first | with_reducible exact (out_calls _ _ _ false HS.out _) | with_reducible exact (out_calls _ _ _ false (by decide) _)) ?_; rintro e_ w_ ⟨rfl, n_, rfl⟩))
  repeat (go_quiet (first | (go_at_call 52; refine Calls.mono (by first | with_reducible exact (out_calls _ _ _ false HS.out _) | with_reducible exact (out_calls _ _ _ false (by decide) _)) ?_; rintro e_ w_ ⟨rfl, n_, rfl⟩)); (try go_wp2_with (first | (go_at_call 52; refine Calls.mono (by first | with_reducible exact (out_calls _ _ _ false HS.out _) | with_reducible exact (out_calls _ _ _ false (by decide) _)) ?_; rintro e_ w_ ⟨rfl, n_, rfl⟩))))
  go_ret
  exact ⟨rfl, by repeat (first | exact Below.refl _ _ | apply below_alloc | apply pw_below_drewN | apply below_drew1)⟩

set_option maxHeartbeats 1000000 in
set_option maxRecDepth 100000 in
theorem check3t (s : Int) (hs : outB s 0 63 = true) (w : World) : Calls Try.prog 54 #[.agg #[.int .i64 3, .int .i64 s, .int .i64 0, .int .i64 0, .int .i64 0, .int .u64 0, .int .u64 0]] w fun e w' => e = .returned (.int .i64 11) ∧ Below w.heap.size w w' := by
  have hu49 := Try.underlying69
  have hu29 := Try.underlying29
  have HS := Aside0.mk hs
  clear hs
  go_enter Try.func54, Try.ntmps54
  go_wp2_with (first | (go_at_call 52; refine Calls.mono (by first | with_reducible exact (out_calls _ _ _ true HS.out _) | with_reducible exact (out_calls _ _ _ false (by decide) _)) ?_; rintro e_ w_ ⟨rfl, n_, rfl⟩))
  repeat (go_quiet (first | (go_at_call 52; refine Calls.mono (by first | with_reducible exact (out_calls _ _ _ true HS.out _) | with_reducible exact (out_calls _ _ _ false (by decide) _)) ?_; rintro e_ w_ ⟨rfl, n_, rfl⟩)); (try go_wp2_with (first | (go_at_call 52; refine Calls.mono (by first | with_reducible exact (out_calls _ _ _ true HS.out _) | with_reducible exact (out_calls _ _ _ false (by decide) _)) ?_; rintro e_ w_ ⟨rfl, n_, rfl⟩))))
  go_ret
  exact ⟨rfl, by repeat (first | exact Below.refl _ _ | apply below_alloc | apply pw_below_drewN | apply below_drew1)⟩

set_option maxHeartbeats 1000000 in
set_option maxRecDepth 100000 in
theorem check4f (s : Int) (hs : outB s 0 63 = false) (w : World) : Calls Try.prog 54 #[.agg #[.int .i64 4, .int .i64 s, .int .i64 0, .int .i64 0, .int .i64 0, .int .u64 0, .int .u64 0]] w fun e w' => e = .returned (.int .i64 0) ∧ Below w.heap.size w w' := by
  have hu49 := Try.underlying69
  have hu29 := Try.underlying29
  have HS := Aside0.mk hs
  clear hs
  go_enter Try.func54, Try.ntmps54
  go_wp2_with (first | (go_at_call 52; refine Calls.mono (by first | with_reducible exact (out_calls _ _ _ false HS.out _) | with_reducible exact (out_calls _ _ _ false (by decide) _)) ?_; rintro e_ w_ ⟨rfl, n_, rfl⟩))
  repeat (go_quiet (first | (go_at_call 52; refine Calls.mono (by first | with_reducible exact (out_calls _ _ _ false HS.out _) | with_reducible exact (out_calls _ _ _ false (by decide) _)) ?_; rintro e_ w_ ⟨rfl, n_, rfl⟩)); (try go_wp2_with (first | (go_at_call 52; refine Calls.mono (by first | with_reducible exact (out_calls _ _ _ false HS.out _) | with_reducible exact (out_calls _ _ _ false (by decide) _)) ?_; rintro e_ w_ ⟨rfl, n_, rfl⟩))))
  go_ret
  exact ⟨rfl, by repeat (first | exact Below.refl _ _ | apply below_alloc | apply pw_below_drewN | apply below_drew1)⟩

set_option maxHeartbeats 1000000 in
set_option maxRecDepth 100000 in
theorem check4t (s : Int) (hs : outB s 0 63 = true) (w : World) : Calls Try.prog 54 #[.agg #[.int .i64 4, .int .i64 s, .int .i64 0, .int .i64 0, .int .i64 0, .int .u64 0, .int .u64 0]] w fun e w' => e = .returned (.int .i64 11) ∧ Below w.heap.size w w' := by
  have hu49 := Try.underlying69
  have hu29 := Try.underlying29
  have HS := Aside0.mk hs
  clear hs
  go_enter Try.func54, Try.ntmps54
  go_wp2_with (first | (go_at_call 52; refine Calls.mono (by first | with_reducible exact (out_calls _ _ _ true HS.out _) | with_reducible exact (out_calls _ _ _ false (by decide) _)) ?_; rintro e_ w_ ⟨rfl, n_, rfl⟩))
  repeat (go_quiet (first | (go_at_call 52; refine Calls.mono (by first | with_reducible exact (out_calls _ _ _ true HS.out _) | with_reducible exact (out_calls _ _ _ false (by decide) _)) ?_; rintro e_ w_ ⟨rfl, n_, rfl⟩)); (try go_wp2_with (first | (go_at_call 52; refine Calls.mono (by first | with_reducible exact (out_calls _ _ _ true HS.out _) | with_reducible exact (out_calls _ _ _ false (by decide) _)) ?_; rintro e_ w_ ⟨rfl, n_, rfl⟩))))
  go_ret
  exact ⟨rfl, by repeat (first | exact Below.refl _ _ | apply below_alloc | apply pw_below_drewN | apply below_drew1)⟩

set_option maxHeartbeats 1000000 in
set_option maxRecDepth 100000 in
theorem check5f (s : Int) (hs : outB s 0 63 = false) (w : World) : Calls Try.prog 54 #[.agg #[.int .i64 5, .int .i64 s, .int .i64 0, .int .i64 0, .int .i64 0, .int .u64 0, .int .u64 0]] w fun e w' => e = .returned (.int .i64 0) ∧ Below w.heap.size w w' := by
  have hu49 := Try.underlying69
  have hu29 := Try.underlying29
  have HS := Aside0.mk hs
  clear hs
  go_enter Try.func54, Try.ntmps54
  go_wp2_with (first | (go_at_call 52; refine Calls.mono (by first | with_reducible exact (out_calls _ _ _ false HS.out _) | with_reducible exact (out_calls _ _ _ false (by decide) _)) ?_; rintro e_ w_ ⟨rfl, n_, rfl⟩))
  repeat (go_quiet (first | (go_at_call 52; refine Calls.mono (by first | with_reducible exact (out_calls _ _ _ false HS.out _) | with_reducible exact (out_calls _ _ _ false (by decide) _)) ?_; rintro e_ w_ ⟨rfl, n_, rfl⟩)); (try go_wp2_with (first | (go_at_call 52; refine Calls.mono (by first | with_reducible exact (out_calls _ _ _ false HS.out _) | with_reducible exact (out_calls _ _ _ false (by decide) _)) ?_; rintro e_ w_ ⟨rfl, n_, rfl⟩))))
  go_ret
  exact ⟨rfl, by repeat (first | exact Below.refl _ _ | apply below_alloc | apply pw_below_drewN | apply below_drew1)⟩

set_option maxHeartbeats 1000000 in
set_option maxRecDepth 100000 in
theorem check5t (s : Int) (hs : outB s 0 63 = true) (w : World) : Calls Try.prog 54 #[.agg #[.int .i64 5, .int .i64 s, .int .i64 0, .int .i64 0, .int .i64 0, .int .u64 0, .int .u64 0]] w fun e w' => e = .returned (.int .i64 11) ∧ Below w.heap.size w w' := by
  have hu49 := Try.underlying69
  have hu29 := Try.underlying29
  have HS := Aside0.mk hs
  clear hs
  go_enter Try.func54, Try.ntmps54
  go_wp2_with (first | (go_at_call 52; refine Calls.mono (by first | with_reducible exact (out_calls _ _ _ true HS.out _) | with_reducible exact (out_calls _ _ _ false (by decide) _)) ?_; rintro e_ w_ ⟨rfl, n_, rfl⟩))
  repeat (go_quiet (first | (go_at_call 52; refine Calls.mono (by first | with_reducible exact (out_calls _ _ _ true HS.out _) | with_reducible exact (out_calls _ _ _ false (by decide) _)) ?_; rintro e_ w_ ⟨rfl, n_, rfl⟩)); (try go_wp2_with (first | (go_at_call 52; refine Calls.mono (by first | with_reducible exact (out_calls _ _ _ true HS.out _) | with_reducible exact (out_calls _ _ _ false (by decide) _)) ?_; rintro e_ w_ ⟨rfl, n_, rfl⟩))))
  go_ret
  exact ⟨rfl, by repeat (first | exact Below.refl _ _ | apply below_alloc | apply pw_below_drewN | apply below_drew1)⟩

set_option maxHeartbeats 1000000 in
set_option maxRecDepth 100000 in
theorem check6 (x y : Int) (w : World) : Calls Try.prog 54 #[.agg #[.int .i64 6, .int .i64 0, .int .i64 0, .int .i64 0, .int .i64 0, .int .u64 x, .int .u64 y]] w fun e w' => e = .returned (.int .i64 0) ∧ Below w.heap.size w w' := by
  have hu49 := Try.underlying69
  have hu29 := Try.underlying29
  go_enter Try.func54, Try.ntmps54
  go_wp2_with (first | (go_at_call 52; refine Calls.mono (by first | with_reducible exact (out_calls _ _ _ false (by decide) _)) ?_; rintro e_ w_ ⟨rfl, n_, rfl⟩))
  repeat (go_quiet (first | (go_at_call 52; refine Calls.mono (by first | with_reducible exact (out_calls _ _ _ false (by decide) _)) ?_; rintro e_ w_ ⟨rfl, n_, rfl⟩)); (try go_wp2_with (first | (go_at_call 52; refine Calls.mono (by first | with_reducible exact (out_calls _ _ _ false (by decide) _)) ?_; rintro e_ w_ ⟨rfl, n_, rfl⟩))))
  go_ret
  exact ⟨rfl, by repeat (first | exact Below.refl _ _ | apply below_alloc | apply pw_below_drewN | apply below_drew1)⟩
end Go.Proofs.Ytkpfojpmigchlaa.Own

