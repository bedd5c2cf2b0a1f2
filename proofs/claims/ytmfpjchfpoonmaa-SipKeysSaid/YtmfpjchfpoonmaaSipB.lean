/-
  The walk of a round of the keyed sum (the reference's): behind the call the four numbers are those of one round; all else that was there is as it was.
-/
import Derived.Test.YtmfpjchfpoonmaaSipA
import Derived.StillTailTactics
import Derived.RegionTactic
import Derived.Deep.DeepCutAuto
namespace Go.Proofs.Ytmfpjchfpoonmaa.Own
open Go.RowKit Go.Proofs.YtmfpjchfpoonmaaW.PrintWords Go.Proofs.YtmfpjchfpoonmaaW.PrintMore

theorem lft (n : Nat) (hn : n = 13 ∨ n = 16 ∨ n = 17 ∨ n = 21 ∨ n = 32) (x : Int) (w : World) : Calls Try.prog 28 #[.int .u64 x, .int .u64 n] w fun e w' => e = .returned (.int .u64 (rotl x n)) ∧ w' = w := by
  rcases hn with rfl | rfl | rfl | rfl | rfl
  all_goals
    go_enter Try.func28, Try.ntmps28
    go_wp2
    go_ret
    exact ⟨rfl, rfl⟩

set_option maxHeartbeats 8000000 in
set_option maxRecDepth 100000 in
theorem rround (g : Nat) (a b c d : Int) (w0 w : World) (H : Stt 52 w0 g (a, b, c, d) w) :
    Calls Try.prog 26 #[.pointer (some ⟨g, 0, none⟩)] w fun e w' => e = .returned (.tuple #[]) ∧ Stt 52 w0 g (rnd (a, b, c, d)) w' := by
  have HS := Aside0.mk H
  clear H
  go_enter Try.func26, Try.ntmps26
  go_upto_region 0 with fail
  go_cut [] (fun wx => Stt 52 w0 g ((add64 a b), b, c, d) wx)
  case first =>
    have c0 := HS.out.c0
    have c1 := HS.out.c1
    have c2 := HS.out.c2
    have c3 := HS.out.c3
    have fz := HS.out.fz
    refine wp_region_still_tail 12 (by kernel_rfl) (by kernel_rfl) ?_
    simp only [List.take_succ_cons, List.take_zero, List.drop_succ_cons, List.drop_zero]
    repeat still_step
    refine wpStill_nil ?_
    go_wp2
    go_meet
    case rel => exact (HS.out.s0 _).drew
  case rest =>
  replace HS := Aside0.mk hcut
  clear hcut
  go_upto_region 1 with fail
  go_cut [] (fun wx => Stt 52 w0 g ((add64 a b), (xor64 (rotl b 13) (add64 a b)), c, d) wx)
  case first =>
    have c0 := HS.out.c0
    have c1 := HS.out.c1
    have c2 := HS.out.c2
    have c3 := HS.out.c3
    have fz := HS.out.fz
    refine wp_region_still_tail 13 (by kernel_rfl) (by kernel_rfl) ?_
    simp only [List.take_succ_cons, List.take_zero, List.drop_succ_cons, List.drop_zero]
    repeat still_step
    still_call (lft 13 (by decide) _ _)
    repeat still_step
    refine wpStill_nil ?_
    go_wp2
    go_meet
    case rel => exact (HS.out.s1 _).drew
  case rest =>
  replace HS := Aside0.mk hcut
  clear hcut
  go_upto_region 2 with fail
  go_cut [] (fun wx => Stt 52 w0 g ((rotl (add64 a b) 32), (xor64 (rotl b 13) (add64 a b)), c, d) wx)
  case first =>
    have c0 := HS.out.c0
    have c1 := HS.out.c1
    have c2 := HS.out.c2
    have c3 := HS.out.c3
    have fz := HS.out.fz
    go_wp2_with (go_at_call 28; refine (lft 32 (by decide) _ _).mono ?_; rintro e w' ⟨rfl, rfl⟩)
    go_wp2
    go_meet
    case rel => exact (HS.out.s0 _)
  case rest =>
  replace HS := Aside0.mk hcut
  clear hcut
  go_upto_region 3 with fail
  go_cut [] (fun wx => Stt 52 w0 g ((rotl (add64 a b) 32), (xor64 (rotl b 13) (add64 a b)), (add64 c d), d) wx)
  case first =>
    have c0 := HS.out.c0
    have c1 := HS.out.c1
    have c2 := HS.out.c2
    have c3 := HS.out.c3
    have fz := HS.out.fz
    refine wp_region_still_tail 12 (by kernel_rfl) (by kernel_rfl) ?_
    simp only [List.take_succ_cons, List.take_zero, List.drop_succ_cons, List.drop_zero]
    repeat still_step
    refine wpStill_nil ?_
    go_wp2
    go_meet
    case rel => exact (HS.out.s2 _).drew
  case rest =>
  replace HS := Aside0.mk hcut
  clear hcut
  go_upto_region 4 with fail
  go_cut [] (fun wx => Stt 52 w0 g ((rotl (add64 a b) 32), (xor64 (rotl b 13) (add64 a b)), (add64 c d), (xor64 (rotl d 16) (add64 c d))) wx)
  case first =>
    have c0 := HS.out.c0
    have c1 := HS.out.c1
    have c2 := HS.out.c2
    have c3 := HS.out.c3
    have fz := HS.out.fz
    refine wp_region_still_tail 13 (by kernel_rfl) (by kernel_rfl) ?_
    simp only [List.take_succ_cons, List.take_zero, List.drop_succ_cons, List.drop_zero]
    repeat still_step
    still_call (lft 16 (by decide) _ _)
    repeat still_step
    refine wpStill_nil ?_
    go_wp2
    go_meet
    case rel => exact (HS.out.s3 _).drew
  case rest =>
  replace HS := Aside0.mk hcut
  clear hcut
  go_upto_region 5 with fail
  go_cut [] (fun wx => Stt 52 w0 g ((add64 (rotl (add64 a b) 32) (xor64 (rotl d 16) (add64 c d))), (xor64 (rotl b 13) (add64 a b)), (add64 c d), (xor64 (rotl d 16) (add64 c d))) wx)
  case first =>
    have c0 := HS.out.c0
    have c1 := HS.out.c1
    have c2 := HS.out.c2
    have c3 := HS.out.c3
    have fz := HS.out.fz
    refine wp_region_still_tail 12 (by kernel_rfl) (by kernel_rfl) ?_
    simp only [List.take_succ_cons, List.take_zero, List.drop_succ_cons, List.drop_zero]
    repeat still_step
    refine wpStill_nil ?_
    go_wp2
    go_meet
    case rel => exact (HS.out.s0 _).drew
  case rest =>
  replace HS := Aside0.mk hcut
  clear hcut
  go_upto_region 6 with fail
  go_cut [] (fun wx => Stt 52 w0 g ((add64 (rotl (add64 a b) 32) (xor64 (rotl d 16) (add64 c d))), (xor64 (rotl b 13) (add64 a b)), (add64 c d), (xor64 (rotl (xor64 (rotl d 16) (add64 c d)) 21) (add64 (rotl (add64 a b) 32) (xor64 (rotl d 16) (add64 c d))))) wx)
  case first =>
    have c0 := HS.out.c0
    have c1 := HS.out.c1
    have c2 := HS.out.c2
    have c3 := HS.out.c3
    have fz := HS.out.fz
    refine wp_region_still_tail 13 (by kernel_rfl) (by kernel_rfl) ?_
    simp only [List.take_succ_cons, List.take_zero, List.drop_succ_cons, List.drop_zero]
    repeat still_step
    still_call (lft 21 (by decide) _ _)
    repeat still_step
    refine wpStill_nil ?_
    go_wp2
    go_meet
    case rel => exact (HS.out.s3 _).drew
  case rest =>
  replace HS := Aside0.mk hcut
  clear hcut
  go_upto_region 7 with fail
  go_cut [] (fun wx => Stt 52 w0 g ((add64 (rotl (add64 a b) 32) (xor64 (rotl d 16) (add64 c d))), (xor64 (rotl b 13) (add64 a b)), (add64 (add64 c d) (xor64 (rotl b 13) (add64 a b))), (xor64 (rotl (xor64 (rotl d 16) (add64 c d)) 21) (add64 (rotl (add64 a b) 32) (xor64 (rotl d 16) (add64 c d))))) wx)
  case first =>
    have c0 := HS.out.c0
    have c1 := HS.out.c1
    have c2 := HS.out.c2
    have c3 := HS.out.c3
    have fz := HS.out.fz
    refine wp_region_still_tail 12 (by kernel_rfl) (by kernel_rfl) ?_
    simp only [List.take_succ_cons, List.take_zero, List.drop_succ_cons, List.drop_zero]
    repeat still_step
    refine wpStill_nil ?_
    go_wp2
    go_meet
    case rel => exact (HS.out.s2 _).drew
  case rest =>
  replace HS := Aside0.mk hcut
  clear hcut
  go_upto_region 8 with fail
  go_cut [] (fun wx => Stt 52 w0 g ((add64 (rotl (add64 a b) 32) (xor64 (rotl d 16) (add64 c d))), (xor64 (rotl (xor64 (rotl b 13) (add64 a b)) 17) (add64 (add64 c d) (xor64 (rotl b 13) (add64 a b)))), (add64 (add64 c d) (xor64 (rotl b 13) (add64 a b))), (xor64 (rotl (xor64 (rotl d 16) (add64 c d)) 21) (add64 (rotl (add64 a b) 32) (xor64 (rotl d 16) (add64 c d))))) wx)
  case first =>
    have c0 := HS.out.c0
    have c1 := HS.out.c1
    have c2 := HS.out.c2
    have c3 := HS.out.c3
    have fz := HS.out.fz
    refine wp_region_still_tail 13 (by kernel_rfl) (by kernel_rfl) ?_
    simp only [List.take_succ_cons, List.take_zero, List.drop_succ_cons, List.drop_zero]
    repeat still_step
    still_call (lft 17 (by decide) _ _)
    repeat still_step
    refine wpStill_nil ?_
    go_wp2
    go_meet
    case rel => exact (HS.out.s1 _).drew
  case rest =>
  replace HS := Aside0.mk hcut
  clear hcut
  have c0 := HS.out.c0
  have c1 := HS.out.c1
  have c2 := HS.out.c2
  have c3 := HS.out.c3
  have fz := HS.out.fz
  go_wp2_with (go_at_call 28; refine (lft 32 (by decide) _ _).mono ?_; rintro e w' ⟨rfl, rfl⟩)
  go_end0
  exact ⟨rfl, HS.out.s2 _⟩
end Go.Proofs.Ytmfpjchfpoonmaa.Own
