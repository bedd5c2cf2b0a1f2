/-
  The walk of a round of the keyed sum (the program's): behind the call the four numbers are those of one round; all else that was there is as it was.
-/
import Derived.Test.YtkpfojpmigchlaaSipP
import Derived.Test.YtkpfojpmigchlaaProg
import Derived.Test.YtkpfojpmigchlaaWWords
import Derived.Test.YtkpfojpmigchlaaWMore
import Derived.StillTailTactics
import Derived.RegionTactic
import Derived.Deep.DeepCutAuto
namespace Go.Proofs.Ytkpfojpmigchlaa.Own
open Go.RowKit Go.Proofs.YtkpfojpmigchlaaW.PrintWords Go.Proofs.YtkpfojpmigchlaaW.PrintMore

/-- The four numbers lie in block g, made since w0; what was there at w0 is as it was. -/
structure Stt (T : TypeId) (w0 : World) (g : Nat) (v : Int × Int × Int × Int) (w : World) : Prop where
  blk : w.heap[g]? = some (.cells #[.int .u64 v.1, .int .u64 v.2.1, .int .u64 v.2.2.1, .int .u64 v.2.2.2] T (0, 0))
  below : Below w0.heap.size w0 w
  ge : w0.heap.size ≤ g
theorem Stt.c0 {T w0 g v w} (h : Stt T w0 g v w) : w.cell? ⟨g, 0, none⟩ = some (.int .u64 v.1) := (blk_cell h.blk 0).trans rfl
theorem Stt.c1 {T w0 g v w} (h : Stt T w0 g v w) : w.cell? ⟨g, 1, none⟩ = some (.int .u64 v.2.1) := (blk_cell h.blk 1).trans rfl
theorem Stt.c2 {T w0 g v w} (h : Stt T w0 g v w) : w.cell? ⟨g, 2, none⟩ = some (.int .u64 v.2.2.1) := (blk_cell h.blk 2).trans rfl
theorem Stt.c3 {T w0 g v w} (h : Stt T w0 g v w) : w.cell? ⟨g, 3, none⟩ = some (.int .u64 v.2.2.2) := (blk_cell h.blk 3).trans rfl
theorem Stt.fz {T w0 g v w} (h : Stt T w0 g v w) (i : Nat) : w.frozen? ⟨g, i, none⟩ = false := blk_frozen h.blk i
theorem Stt.drew {T w0 g v w} (h : Stt T w0 g v w) : Stt T w0 g v w.drew := ⟨h.blk, below_drew h.below, h.ge⟩
theorem Stt.drewN {T w0 g v w} (h : Stt T w0 g v w) (n : Nat) : Stt T w0 g v (w.drewN n) := ⟨h.blk, pw_below_drewN h.below n, h.ge⟩
theorem Stt.s0 {T w0 g a b c d w} (h : Stt T w0 g (a, b, c, d) w) (x : Int) : Stt T w0 g (x, b, c, d) (w.setCell ⟨g, 0, none⟩ (.int .u64 x)) := ⟨by simpa using blk_set h.blk 0 (.int .u64 x), below_set h.below h.ge, h.ge⟩
theorem Stt.s1 {T w0 g a b c d w} (h : Stt T w0 g (a, b, c, d) w) (x : Int) : Stt T w0 g (a, x, c, d) (w.setCell ⟨g, 1, none⟩ (.int .u64 x)) := ⟨by simpa using blk_set h.blk 1 (.int .u64 x), below_set h.below h.ge, h.ge⟩
theorem Stt.s2 {T w0 g a b c d w} (h : Stt T w0 g (a, b, c, d) w) (x : Int) : Stt T w0 g (a, b, x, d) (w.setCell ⟨g, 2, none⟩ (.int .u64 x)) := ⟨by simpa using blk_set h.blk 2 (.int .u64 x), below_set h.below h.ge, h.ge⟩
theorem Stt.s3 {T w0 g a b c d w} (h : Stt T w0 g (a, b, c, d) w) (x : Int) : Stt T w0 g (a, b, c, x) (w.setCell ⟨g, 3, none⟩ (.int .u64 x)) := ⟨by simpa using blk_set h.blk 3 (.int .u64 x), below_set h.below h.ge, h.ge⟩
theorem Stt.by_below {T w0 g v w w'} (h : Stt T w0 g v w) (hb : Below w.heap.size w w') : Stt T w0 g v w' := ⟨blk_below h.blk hb, below_step h.below hb, h.ge⟩

theorem rot (n : Nat) (hn : n = 13 ∨ n = 16 ∨ n = 17 ∨ n = 21 ∨ n = 32) (x : Int) (w : World) : Calls Try.prog 92 #[.int .u64 x, .int .i64 n] w fun e w' => e = .returned (.int .u64 (rotl x n)) ∧ w' = w := by
  have h13 : Go.bits .and .u64 13 63 = 13 := by decide
  have h16 : Go.bits .and .u64 16 63 = 16 := by decide
  have h17 : Go.bits .and .u64 17 63 = 17 := by decide
  have h21 : Go.bits .and .u64 21 63 = 21 := by decide
  have h32 : Go.bits .and .u64 32 63 = 32 := by decide
  rcases hn with rfl | rfl | rfl | rfl | rfl
  all_goals
    go_enter Try.func92, Try.ntmps92
    go_wp2
    go_ret
    exact ⟨rfl, rfl⟩

set_option maxHeartbeats 8000000 in
set_option maxRecDepth 100000 in
theorem round (g : Nat) (a b c d : Int) (w0 w : World) (H : Stt 107 w0 g (a, b, c, d) w) :
    Calls Try.prog 81 #[.pointer (some ⟨g, 0, none⟩)] w fun e w' => e = .returned (.tuple #[]) ∧ Stt 107 w0 g (rnd (a, b, c, d)) w' := by
  have HS := Aside0.mk H
  clear H
  go_enter Try.func81, Try.ntmps81
  go_upto_region 0 with fail
  go_cut [] (fun wx => Stt 107 w0 g ((add64 a b), b, c, d) wx)
  case first =>
    have c0 := HS.out.c0
    have c1 := HS.out.c1
    have c2 := HS.out.c2
    have c3 := HS.out.c3
    have fz := HS.out.fz
    refine wp_region_still_tail 11 (by kernel_rfl) (by kernel_rfl) ?_
    simp only [List.take_succ_cons, List.take_zero, List.drop_succ_cons, List.drop_zero]
    repeat still_step
    refine wpStill_nil ?_
    go_wp2
    go_meet
    case rel => exact (HS.out.s0 _).drew
  case rest =>
  replace HS := Aside0.mk hcut
  clear hcut
  go_upto_region 1 with fail
  go_cut [] (fun wx => Stt 107 w0 g ((add64 a b), (xor64 (rotl b 13) (add64 a b)), c, d) wx)
  case first =>
    have c0 := HS.out.c0
    have c1 := HS.out.c1
    have c2 := HS.out.c2
    have c3 := HS.out.c3
    have fz := HS.out.fz
    refine wp_region_still_tail 13 (by kernel_rfl) (by kernel_rfl) ?_
    simp only [List.take_succ_cons, List.take_zero, List.drop_succ_cons, List.drop_zero]
    repeat still_step
    still_call (rot 13 (by decide) _ _)
    repeat still_step
    refine wpStill_nil ?_
    go_wp2
    go_meet
    case rel => exact (HS.out.s1 _).drew
  case rest =>
  replace HS := Aside0.mk hcut
  clear hcut
  go_upto_region 2 with fail
  go_cut [] (fun wx => Stt 107 w0 g ((rotl (add64 a b) 32), (xor64 (rotl b 13) (add64 a b)), c, d) wx)
  case first =>
    have c0 := HS.out.c0
    have c1 := HS.out.c1
    have c2 := HS.out.c2
    have c3 := HS.out.c3
    have fz := HS.out.fz
    go_wp2_with (go_at_call 92; refine (rot 32 (by decide) _ _).mono ?_; rintro e w' ⟨rfl, rfl⟩)
    go_wp2
    go_meet
    case rel => exact (HS.out.s0 _)
  case rest =>
  replace HS := Aside0.mk hcut
  clear hcut
  go_upto_region 3 with fail
  go_cut [] (fun wx => Stt 107 w0 g ((rotl (add64 a b) 32), (xor64 (rotl b 13) (add64 a b)), (add64 c d), d) wx)
  case first =>
    have c0 := HS.out.c0
    have c1 := HS.out.c1
    have c2 := HS.out.c2
    have c3 := HS.out.c3
    have fz := HS.out.fz
    refine wp_region_still_tail 11 (by kernel_rfl) (by kernel_rfl) ?_
    simp only [List.take_succ_cons, List.take_zero, List.drop_succ_cons, List.drop_zero]
    repeat still_step
    refine wpStill_nil ?_
    go_wp2
    go_meet
    case rel => exact (HS.out.s2 _).drew
  case rest =>
  replace HS := Aside0.mk hcut
  clear hcut
  go_upto_region 4 with fail
  go_cut [] (fun wx => Stt 107 w0 g ((rotl (add64 a b) 32), (xor64 (rotl b 13) (add64 a b)), (add64 c d), (xor64 (rotl d 16) (add64 c d))) wx)
  case first =>
    have c0 := HS.out.c0
    have c1 := HS.out.c1
    have c2 := HS.out.c2
    have c3 := HS.out.c3
    have fz := HS.out.fz
    refine wp_region_still_tail 13 (by kernel_rfl) (by kernel_rfl) ?_
    simp only [List.take_succ_cons, List.take_zero, List.drop_succ_cons, List.drop_zero]
    repeat still_step
    still_call (rot 16 (by decide) _ _)
    repeat still_step
    refine wpStill_nil ?_
    go_wp2
    go_meet
    case rel => exact (HS.out.s3 _).drew
  case rest =>
  replace HS := Aside0.mk hcut
  clear hcut
  go_upto_region 5 with fail
  go_cut [] (fun wx => Stt 107 w0 g ((add64 (rotl (add64 a b) 32) (xor64 (rotl d 16) (add64 c d))), (xor64 (rotl b 13) (add64 a b)), (add64 c d), (xor64 (rotl d 16) (add64 c d))) wx)
  case first =>
    have c0 := HS.out.c0
    have c1 := HS.out.c1
    have c2 := HS.out.c2
    have c3 := HS.out.c3
    have fz := HS.out.fz
    refine wp_region_still_tail 11 (by kernel_rfl) (by kernel_rfl) ?_
    simp only [List.take_succ_cons, List.take_zero, List.drop_succ_cons, List.drop_zero]
    repeat still_step
    refine wpStill_nil ?_
    go_wp2
    go_meet
    case rel => exact (HS.out.s0 _).drew
  case rest =>
  replace HS := Aside0.mk hcut
  clear hcut
  go_upto_region 6 with fail
  go_cut [] (fun wx => Stt 107 w0 g ((add64 (rotl (add64 a b) 32) (xor64 (rotl d 16) (add64 c d))), (xor64 (rotl b 13) (add64 a b)), (add64 c d), (xor64 (rotl (xor64 (rotl d 16) (add64 c d)) 21) (add64 (rotl (add64 a b) 32) (xor64 (rotl d 16) (add64 c d))))) wx)
  case first =>
    have c0 := HS.out.c0
    have c1 := HS.out.c1
    have c2 := HS.out.c2
    have c3 := HS.out.c3
    have fz := HS.out.fz
    refine wp_region_still_tail 13 (by kernel_rfl) (by kernel_rfl) ?_
    simp only [List.take_succ_cons, List.take_zero, List.drop_succ_cons, List.drop_zero]
    repeat still_step
    still_call (rot 21 (by decide) _ _)
    repeat still_step
    refine wpStill_nil ?_
    go_wp2
    go_meet
    case rel => exact (HS.out.s3 _).drew
  case rest =>
  replace HS := Aside0.mk hcut
  clear hcut
  go_upto_region 7 with fail
  go_cut [] (fun wx => Stt 107 w0 g ((add64 (rotl (add64 a b) 32) (xor64 (rotl d 16) (add64 c d))), (xor64 (rotl b 13) (add64 a b)), (add64 (add64 c d) (xor64 (rotl b 13) (add64 a b))), (xor64 (rotl (xor64 (rotl d 16) (add64 c d)) 21) (add64 (rotl (add64 a b) 32) (xor64 (rotl d 16) (add64 c d))))) wx)
  case first =>
    have c0 := HS.out.c0
    have c1 := HS.out.c1
    have c2 := HS.out.c2
    have c3 := HS.out.c3
    have fz := HS.out.fz
    refine wp_region_still_tail 11 (by kernel_rfl) (by kernel_rfl) ?_
    simp only [List.take_succ_cons, List.take_zero, List.drop_succ_cons, List.drop_zero]
    repeat still_step
    refine wpStill_nil ?_
    go_wp2
    go_meet
    case rel => exact (HS.out.s2 _).drew
  case rest =>
  replace HS := Aside0.mk hcut
  clear hcut
  go_upto_region 8 with fail
  go_cut [] (fun wx => Stt 107 w0 g ((add64 (rotl (add64 a b) 32) (xor64 (rotl d 16) (add64 c d))), (xor64 (rotl (xor64 (rotl b 13) (add64 a b)) 17) (add64 (add64 c d) (xor64 (rotl b 13) (add64 a b)))), (add64 (add64 c d) (xor64 (rotl b 13) (add64 a b))), (xor64 (rotl (xor64 (rotl d 16) (add64 c d)) 21) (add64 (rotl (add64 a b) 32) (xor64 (rotl d 16) (add64 c d))))) wx)
  case first =>
    have c0 := HS.out.c0
    have c1 := HS.out.c1
    have c2 := HS.out.c2
    have c3 := HS.out.c3
    have fz := HS.out.fz
    refine wp_region_still_tail 13 (by kernel_rfl) (by kernel_rfl) ?_
    simp only [List.take_succ_cons, List.take_zero, List.drop_succ_cons, List.drop_zero]
    repeat still_step
    still_call (rot 17 (by decide) _ _)
    repeat still_step
    refine wpStill_nil ?_
    go_wp2
    go_meet
    case rel => exact (HS.out.s1 _).drew
  case rest =>
  replace HS := Aside0.mk hcut
  clear hcut
  have c0 := HS.out.c0
  have c1 := HS.out.c1
  have c2 := HS.out.c2
  have c3 := HS.out.c3
  have fz := HS.out.fz
  go_wp2_with (go_at_call 92; refine (rot 32 (by decide) _ _).mono ?_; rintro e w' ⟨rfl, rfl⟩)
  go_end0
  exact ⟨rfl, HS.out.s2 _⟩
end Go.Proofs.Ytkpfojpmigchlaa.Own
