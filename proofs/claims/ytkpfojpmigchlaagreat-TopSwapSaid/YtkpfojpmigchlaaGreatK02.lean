/- Parts of the proof of TopSwap, laid together and made shorter by a program of this claim. -/
import Derived.Laws.CopyOwn
import Derived.Deep.MidRow
import Derived.Test.YtkpfojpmigchlaaGreatK01
set_option linter.unusedVariables false
set_option linter.unusedSimpArgs false
namespace Go.Proofs.YtkpfojpmigchlaaGreat.Q
open Go.RowKit Go.Proofs.YtkpfojpmigchlaaGreatW.PrintWords Go.Proofs.YtkpfojpmigchlaaGreatW.PrintLast Go.Proofs.YtkpfojpmigchlaaGreatW.PrintMore Go.Proofs.YtkpfojpmigchlaaGreat.Own
open Go.Proofs.YtkpfojpmigchlaaGreat.Zip
open Go.Proofs.YtkpfojpmigchlaaGreat.Zap
section
set_option maxHeartbeats 8000000
set_option maxRecDepth 100000
attribute [local go_sem] max2_int min2_int max_two min_two max_three min_three max_four min_four
def rr6_out.f (a0 : Int) (a1 : Int) (a2 : Int) : Option (Bool) := if a0 < a1 then (some true) else (some (decide (a0 > a2)))
theorem rr6_out.calls (a0 : Int) (a1 : Int) (a2 : Int) (r : Bool) (w : World) (h : rr6_out.f a0 a1 a2 = some r) :
 Calls Tryz.prog 50 #[.int .i64 a0, .int .i64 a1, .int .i64 a2] w fun e w' => e = .returned (.bool r) ∧ Drawn0 w w' := by
 have H := h
 unfold rr6_out.f at H
 clear h
 by_cases c4 : a0 < a1
 ·rw [if_pos c4] at H
  have c4b0 := decide_eq_true c4
  clear c4
  obtain rfl := Option.some.inj H
  go_enter Tryz.func50, Tryz.ntmps50
  go_wp2
  go_ret
  exact jO
 ·rw [if_neg c4] at H
  have c4b0 := decide_eq_false c4
  clear c4
  obtain rfl := Option.some.inj H
  go_enter Tryz.func50, Tryz.ntmps50
  go_wp2
  go_ret
  exact jO
def rl5_Key.f (a0 : Int) : Option (Int × Int) := some (IntKind.u64.wrap ((IntKind.u64.wrap (a0)) * 11400714819323198485), Go.bits .xor .u64 (IntKind.u64.wrap (a0)) 19088743)
theorem rl5_Key.calls (a0 : Int) (r1 : Int) (r2 : Int) (w : World) (h : rl5_Key.f a0 = some (r1, r2)) :
 Calls Tryz.prog 18 #[.int .i64 a0] w fun e w' => e = .returned (.agg #[.int .u64 r1, .int .u64 r2]) ∧ Below w.heap.size w w' := by
 have hu29 := Tryz.underlying29
 have HB := mA (Below.refl w.heap.size w)
 have H : (some (IntKind.u64.wrap ((IntKind.u64.wrap (a0)) * 11400714819323198485), Go.bits .xor .u64 (IntKind.u64.wrap (a0)) 19088743)) = some (r1, r2) := h
 clear h
 simp only [Option.some.injEq, Prod.mk.injEq] at H
 obtain ⟨rfl, rfl⟩ := H
 go_enter Tryz.func18, Tryz.ntmps18
 go_wp2_with (first | (refine zx 2 #[.int .u64 0, .int .u64 0] 29 ?_; clear HB; intro gb306 w2 BK306 HB GE306; obtain ⟨hcz3_0, hcz3_1⟩ := bk2 BK306.out; have hfz3_0 := BK306.fz 0; have hfz3_1 := BK306.fz 1))
 refine bodyPost_ret (results_cell_row rfl _ _ gb306 29 #[.int .u64 (IntKind.u64.wrap ((IntKind.u64.wrap (a0)) * 11400714819323198485)), .int .u64 (Go.bits .xor .u64 (IntKind.u64.wrap (a0)) 19088743)] (0, 0) _ rfl ((blk_put (blk_put BK306.out 0 _ rfl) 1 _ rfl)) Tryz.underlying29 rfl uW) rfl ?_
 exact ⟨yO, yI⟩
def rr5_Next.f (a0_0 : Int) (a0_1 : Int) (a0_2 : Int) (a0_3 : Int) (a0_4 : Int) (a0_5 : Int) (a0_6 : Int) (a1_0 : Int) (a1_1 : Int) : Option (Int × Int × Int × Int × Int × Int × Int) := some (wrap64 (a0_0 + 1), a0_3, a0_4, a0_5, a0_6, a1_0, a1_1)
theorem rr5_Next.calls (a0_0 : Int) (a0_1 : Int) (a0_2 : Int) (a0_3 : Int) (a0_4 : Int) (a0_5 : Int) (a0_6 : Int) (a1_0 : Int) (a1_1 : Int) (r1 : Int) (r2 : Int) (r3 : Int) (r4 : Int) (r5 : Int) (r6 : Int) (r7 : Int) (w : World) (h : rr5_Next.f a0_0 a0_1 a0_2 a0_3 a0_4 a0_5 a0_6 a1_0 a1_1 = some (r1, r2, r3, r4, r5, r6, r7)) :
 Calls Tryz.prog 54 #[.agg #[.int .i64 a0_0, .int .u64 a0_1, .int .u64 a0_2, .int .u64 a0_3, .int .u64 a0_4, .int .u64 a0_5, .int .u64 a0_6], .agg #[.int .u64 a1_0, .int .u64 a1_1]] w fun e w' => e = .returned (.agg #[.int .i64 r1, .int .u64 r2, .int .u64 r3, .int .u64 r4, .int .u64 r5, .int .u64 r6, .int .u64 r7]) ∧ Below w.heap.size w w' := by
 have hu31 := Tryz.underlying31
 have hu29 := Tryz.underlying29
 have HB := mA (Below.refl w.heap.size w)
 have H : (some (wrap64 (a0_0 + 1), a0_3, a0_4, a0_5, a0_6, a1_0, a1_1)) = some (r1, r2, r3, r4, r5, r6, r7) := h
 clear h
 simp only [Option.some.injEq, Prod.mk.injEq] at H
 obtain ⟨rfl, rfl, rfl, rfl, rfl, rfl, rfl⟩ := H
 go_enter Tryz.func54, Tryz.ntmps54
 go_wp2_with (first | (refine zx 2 #[.int .i64 a0_0, .int .u64 a0_1, .int .u64 a0_2, .int .u64 a0_3, .int .u64 a0_4, .int .u64 a0_5, .int .u64 a0_6] 31 ?_; clear HB; intro gb313 w3 BK313 HB GE313) | (refine zX 3 #[.int .u64 a1_0, .int .u64 a1_1] 29 ?_; clear HB; intro gb314 w4 BK314 HB GE314 hb hg; have NB313_314 := mA ((by rw [hg]; exact Nat.ne_of_lt (blk_lt (g := gb313) (o := .cells #[.int .i64 a0_0, .int .u64 a0_1, .int .u64 a0_2, .int .u64 a0_3, .int .u64 a0_4, .int .u64 a0_5, .int .u64 a0_6] 31 (0, 0)) uX) : gb313 ≠ gb314)); have NB314_313 := mA ((by rw [hg]; exact Nat.ne_of_gt (blk_lt (g := gb313) (o := .cells #[.int .i64 a0_0, .int .u64 a0_1, .int .u64 a0_2, .int .u64 a0_3, .int .u64 a0_4, .int .u64 a0_5, .int .u64 a0_6] 31 (0, 0)) uX) : gb314 ≠ gb313)); replace BK313 := mA (blk_below (g := gb313) (o := .cells #[.int .i64 a0_0, .int .u64 a0_1, .int .u64 a0_2, .int .u64 a0_3, .int .u64 a0_4, .int .u64 a0_5, .int .u64 a0_6] 31 (0, 0)) uX hb); clear hb hg) | (refine zX 4 #[.int .i64 0, .int .u64 0, .int .u64 0, .int .u64 0, .int .u64 0, .int .u64 0, .int .u64 0] 31 ?_; clear HB; intro gb315 w5 BK315 HB GE315 hb hg; have NB313_315 := mA ((by rw [hg]; exact Nat.ne_of_lt (blk_lt (g := gb313) (o := .cells #[.int .i64 a0_0, .int .u64 a0_1, .int .u64 a0_2, .int .u64 a0_3, .int .u64 a0_4, .int .u64 a0_5, .int .u64 a0_6] 31 (0, 0)) uX) : gb313 ≠ gb315)); have NB315_313 := mA ((by rw [hg]; exact Nat.ne_of_gt (blk_lt (g := gb313) (o := .cells #[.int .i64 a0_0, .int .u64 a0_1, .int .u64 a0_2, .int .u64 a0_3, .int .u64 a0_4, .int .u64 a0_5, .int .u64 a0_6] 31 (0, 0)) uX) : gb315 ≠ gb313)); replace BK313 := mA (blk_below (g := gb313) (o := .cells #[.int .i64 a0_0, .int .u64 a0_1, .int .u64 a0_2, .int .u64 a0_3, .int .u64 a0_4, .int .u64 a0_5, .int .u64 a0_6] 31 (0, 0)) uX hb); have NB314_315 := mA ((by rw [hg]; exact Nat.ne_of_lt (blk_lt (g := gb314) (o := .cells #[.int .u64 a1_0, .int .u64 a1_1] 29 (0, 0)) uX) : gb314 ≠ gb315)); have NB315_314 := mA ((by rw [hg]; exact Nat.ne_of_gt (blk_lt (g := gb314) (o := .cells #[.int .u64 a1_0, .int .u64 a1_1] 29 (0, 0)) uX) : gb315 ≠ gb314)); replace BK314 := mA (blk_below (g := gb314) (o := .cells #[.int .u64 a1_0, .int .u64 a1_1] 29 (0, 0)) uX hb); clear hb hg; have hnb6 := NB313_314.out; have hnc6 := NB314_313.out; have hnb7 := NB313_315.out; have hnc7 := NB315_313.out; obtain ⟨hcz8_0, hcz8_1, hcz8_2, hcz8_3, hcz8_4, hcz8_5, hcz8_6⟩ := bk7 BK313.out; have hfz8_0 := BK313.fz 0; have hfz8_1 := BK313.fz 1; have hfz8_2 := BK313.fz 2; have hfz8_3 := BK313.fz 3; have hfz8_4 := BK313.fz 4; have hfz8_5 := BK313.fz 5; have hfz8_6 := BK313.fz 6; have hnb9 := NB314_315.out; have hnc9 := NB315_314.out; obtain ⟨hcz10_0, hcz10_1⟩ := bk2 BK314.out; have hfz10_0 := BK314.fz 0; have hfz10_1 := BK314.fz 1; obtain ⟨hcz11_0, hcz11_1, hcz11_2, hcz11_3, hcz11_4, hcz11_5, hcz11_6⟩ := bk7 BK315.out; have hfz11_0 := BK315.fz 0; have hfz11_1 := BK315.fz 1; have hfz11_2 := BK315.fz 2; have hfz11_3 := BK315.fz 3; have hfz11_4 := BK315.fz 4; have hfz11_5 := BK315.fz 5; have hfz11_6 := BK315.fz 6))
 refine bodyPost_ret (results_cell_row rfl _ _ gb315 31 #[.int .i64 (wrap64 (a0_0 + 1)), .int .u64 a0_3, .int .u64 a0_4, .int .u64 a0_5, .int .u64 a0_6, .int .u64 a1_0, .int .u64 a1_1] (0, 0) _ rfl ((blk_put (blk_put (blk_put (blk_put (blk_put (blk_put (blk_put BK315.out 0 _ rfl) 1 _ rfl) 2 _ rfl) 3 _ rfl) 4 _ rfl) 5 _ rfl) 6 _ rfl)) Tryz.underlying31 rfl uW) rfl ?_
 exact ⟨yO, yI⟩
def rl6_within.f (a0 : Int) (a1 : Int) : Option (Int) := if a1 = 0 then (none) else (if (Int.tmod a0 a1) < 0 then (some (wrap64 ((Int.tmod a0 a1) + a1))) else (some (Int.tmod a0 a1)))
theorem rl6_within.calls (a0 : Int) (a1 : Int) (r : Int) (w : World) (h : rl6_within.f a0 a1 = some r) :
 Calls Tryz.prog 55 #[.int .i64 a0, .int .i64 a1] w fun e w' => e = .returned (.int .i64 r) ∧ Drawn0 w w' := by
 have H := h
 unfold rl6_within.f at H
 clear h
 obtain ⟨c3, H⟩ := zin H
 have c3b0 : (a1 == 0) = false := beq_eq_false_iff_ne.mpr c3
 have c3b1 : (a1 != 0) = true := bne_iff_ne.mpr c3
 by_cases c4 : (Int.tmod a0 a1) < 0
 ·rw [if_pos c4] at H
  have c4b0 := decide_eq_true c4
  clear c4
  obtain rfl := Option.some.inj H
  go_enter Tryz.func55, Tryz.ntmps55
  go_wp2
  go_ret
  exact jO
 ·rw [if_neg c4] at H
  have c4b0 := decide_eq_false c4
  clear c4
  obtain rfl := Option.some.inj H
  go_enter Tryz.func55, Tryz.ntmps55
  go_wp2
  go_ret
  exact jO

mutual
def rl6_Entry.j0 : Nat → Int → Int → Option (Int × Int × Int × Int × Int × Int × Int)
 | 0, _, _ => none
 | k + 1, x3, x4 => if (Int.tmod x3 8) = 0 then (rl6_Entry.j1 k x3 x4 (Int.tmod x3 8) ((Int.tmod x3 8) == 0)) else (rl6_Entry.j1 k x3 x4 (Int.tmod x3 8) ((Int.tmod x3 8) == 1))
def rl6_Entry.j1 : Nat → Int → Int → Int → Bool → Option (Int × Int × Int × Int × Int × Int × Int)
 | 0, _, _, _, _ => none
 | k + 1, x3, x4, x18, x19 => if x19 = true then (some (1, x4, Int.tmod (wrap64 (Int.tdiv x3 400)) 5, Int.tmod (wrap64 (Int.tdiv x3 2000)) 3, wrap64 (1 + (Int.tmod (wrap64 (Int.tdiv x3 6000)) 8)), 0, 0)) else (if x18 = 2 then (some (2, x4, 0, 0, 0, 0, 0)) else (if x18 = 3 then (some (3, x4, 0, 0, 0, 0, 0)) else (if x18 = 4 then (some (4, x4, 0, 0, 0, 0, 0)) else (if x18 = 5 then (some (5, x4, 0, 0, 0, 0, 0)) else ((rl5_Key.f x3).bind fun bt318 => (some (6, 0, 0, 0, 0, bt318.1, bt318.2)))))))
end
def rl6_Entry.f (k : Nat) (a0 : Int) : Option (Int × Int × Int × Int × Int × Int × Int) := (rl6_within.f a0 1125899906842624).bind fun t317 => (if (Int.tmod (wrap64 (Int.tdiv t317 48)) 29) = 0 then (rl6_Entry.j0 k t317 (Int.tmod (wrap64 (Int.tdiv t317 48)) 66)) else (rl6_Entry.j0 k t317 (Int.tmod (wrap64 (Int.tdiv t317 8)) 6)))
theorem rl6_Entry.calls (k : Nat) (a0 : Int) (r1 : Int) (r2 : Int) (r3 : Int) (r4 : Int) (r5 : Int) (r6 : Int) (r7 : Int) (w : World) (h : rl6_Entry.f k a0 = some (r1, r2, r3, r4, r5, r6, r7)) :
 Calls Tryz.prog 20 #[.int .i64 a0] w fun e w' => e = .returned (.agg #[.int .i64 r1, .int .i64 r2, .int .i64 r3, .int .i64 r4, .int .i64 r5, .int .u64 r6, .int .u64 r7]) ∧ Below w.heap.size w w' := by
 have hu61 := Tryz.underlying61
 have HB := mA (Below.refl w.heap.size w)
 have H : ((rl6_within.f a0 1125899906842624).bind fun t317 => (if (Int.tmod (wrap64 (Int.tdiv t317 48)) 29) = 0 then (rl6_Entry.j0 k t317 (Int.tmod (wrap64 (Int.tdiv t317 48)) 66)) else (rl6_Entry.j0 k t317 (Int.tmod (wrap64 (Int.tdiv t317 8)) 6)))) = some (r1, r2, r3, r4, r5, r6, r7) := h
 clear h
 replace H := Option.bind_eq_some_iff.mp H
 obtain ⟨t317, A20, H⟩ := H
 replace H : (if (Int.tmod (wrap64 (Int.tdiv t317 48)) 29) = 0 then (rl6_Entry.j0 k t317 (Int.tmod (wrap64 (Int.tdiv t317 48)) 66)) else (rl6_Entry.j0 k t317 (Int.tmod (wrap64 (Int.tdiv t317 8)) 6))) = some (r1, r2, r3, r4, r5, r6, r7) := H
 have A2 := mA A20
 clear A20
 have HC3 := mA H
 clear H
 go_enter Tryz.func20, Tryz.ntmps20
 go_upto_if 13 with (first | (refine zx 2 #[.int .i64 0, .int .i64 0, .int .i64 0, .int .i64 0, .int .i64 0, .int .u64 0, .int .u64 0] 61 ?_; clear HB; intro gb316 w4 BK316 HB GE316) | ((with_reducible refine zd 6 ?_); refine zL 6 Tryz.func55 #[.int .i64 a0, .int .i64 1125899906842624] ?_; (with_reducible refine (rl6_within.calls a0 1125899906842624 t317 _ A2.out).mono ?_); rintro e w' ⟨rfl, ⟨nd, rfl⟩⟩; refine ⟨_, rfl, ?_⟩))
 (try simp only [Act.put, List.setIfInBounds_toArray, List.set_cons_zero, List.set_cons_succ])
 go_cut [4] (fun v4 wc => ∃ (kq : Nat) (x4_2 : Int), v4 = .int .i64 x4_2 ∧ Aside0 (rl6_Entry.j0 kq t317 x4_2 = some (r1, r2, r3, r4, r5, r6, r7)) ∧ Aside0 (kq ≤ k) ∧ Aside0 (wc.heap[gb316]? = some (.cells #[.int .i64 0, .int .i64 0, .int .i64 0, .int .i64 0, .int .i64 0, .int .u64 0, .int .u64 0] 61 (0, 0))) ∧ Aside0 (Below w.heap.size w wc))
 case first =>
  have H := HC3.out
  clear HC3
  by_cases c5 : (Int.tmod (wrap64 (Int.tdiv t317 48)) 29) = 0
  ·rw [if_pos c5] at H
   have c5b0 : ((Int.tmod (wrap64 (Int.tdiv t317 48)) 29) == 0) = true := beq_iff_eq.mpr c5
   have c5b1 : ((Int.tmod (wrap64 (Int.tdiv t317 48)) 29) != 0) = false := bne_eq_false_iff_eq.mpr c5
   clear c5
   (first | rw [c5b0] | (simp only [i64_w, i32_w]; rw [c5b0]) | skip)
   have H' := mA H
   clear H
   go_wp2
   go_meet
   case rel => exact ⟨_, (Int.tmod (wrap64 (Int.tdiv t317 48)) 66), uN, H', ⟨kB⟩, ⟨qC⟩, ⟨yI⟩⟩
  ·rw [if_neg c5] at H
   have c5b0 : ((Int.tmod (wrap64 (Int.tdiv t317 48)) 29) == 0) = false := beq_eq_false_iff_ne.mpr c5
   have c5b1 : ((Int.tmod (wrap64 (Int.tdiv t317 48)) 29) != 0) = true := bne_iff_ne.mpr c5
   (first | rw [c5b0] | (simp only [i64_w, i32_w]; rw [c5b0]) | skip)
   have H' := mA H
   clear H
   go_wp2
   go_meet
   case rel => exact ⟨_, (Int.tmod (wrap64 (Int.tdiv t317 8)) 6), uN, H', ⟨kB⟩, ⟨qC⟩, ⟨yI⟩⟩
 case rest =>
  clear HC3
  obtain ⟨kq, x4_2, rfl, HA, HJ2, BK316, HB⟩ := hcut
  cases kq with
  | zero => exact absurd HA.out (by simp [rl6_Entry.j0])
  | succ kj2 =>
   have H := HA.out
   clear HA
   simp only [rl6_Entry.j0] at H
   have HC6 := mA H
   clear H
   go_upto_if 19 with (fail)
   go_cut [19] (fun v19 wc => ∃ (kq : Nat) (x19_5 : Bool), v19 = .bool x19_5 ∧ Aside0 (rl6_Entry.j1 kq t317 x4_2 (Int.tmod t317 8) x19_5 = some (r1, r2, r3, r4, r5, r6, r7)) ∧ Aside0 (kq ≤ kj2) ∧ Aside0 (wc.heap[gb316]? = some (.cells #[.int .i64 0, .int .i64 0, .int .i64 0, .int .i64 0, .int .i64 0, .int .u64 0, .int .u64 0] 61 (0, 0))) ∧ Aside0 (Below w.heap.size w wc))
   case first =>
    have H := HC6.out
    clear HC6
    by_cases c7 : (Int.tmod t317 8) = 0
    ·rw [if_pos c7] at H
     have c7b0 : ((Int.tmod t317 8) == 0) = true := beq_iff_eq.mpr c7
     have c7b1 : ((Int.tmod t317 8) != 0) = false := bne_eq_false_iff_eq.mpr c7
     clear c7
     (first | rw [c7b0] | (simp only [i64_w, i32_w]; rw [c7b0]) | skip)
     have H' := mA H
     clear H
     go_wp2
     go_meet
     case rel => exact ⟨_, (((Int.tmod t317 8) == 0)), uN, H', ⟨by have := HJ2.out; first | omega | exact Nat.le_refl _⟩, ⟨qC⟩, ⟨yI⟩⟩
    ·rw [if_neg c7] at H
     have c7b0 : ((Int.tmod t317 8) == 0) = false := beq_eq_false_iff_ne.mpr c7
     have c7b1 : ((Int.tmod t317 8) != 0) = true := bne_iff_ne.mpr c7
     (first | rw [c7b0] | (simp only [i64_w, i32_w]; rw [c7b0]) | skip)
     have H' := mA H
     clear H
     go_wp2
     go_meet
     case rel => exact ⟨_, (((Int.tmod t317 8) == 1)), uN, H', ⟨by have := HJ2.out; first | omega | exact Nat.le_refl _⟩, ⟨qC⟩, ⟨yI⟩⟩
   case rest =>
    clear HC6
    obtain ⟨kq, x19_5, rfl, HA, HJ5, BK316, HB⟩ := hcut
    cases kq with
    | zero => exact absurd HA.out (by simp [rl6_Entry.j1])
    | succ kj5 =>
     have H := HA.out
     clear HA
     simp only [rl6_Entry.j1] at H
     by_cases c8 : x19_5 = true
     ·subst c8
      have H1 : (some (1, x4_2, Int.tmod (wrap64 (Int.tdiv t317 400)) 5, Int.tmod (wrap64 (Int.tdiv t317 2000)) 3, wrap64 (1 + (Int.tmod (wrap64 (Int.tdiv t317 6000)) 8)), 0, 0)) = some (r1, r2, r3, r4, r5, r6, r7) := by rw [if_pos rfl] at H; exact H
      clear H
      have H := H1
      clear H1
      simp only [Option.some.injEq, Prod.mk.injEq] at H
      obtain ⟨rfl, rfl, rfl, rfl, rfl, rfl, rfl⟩ := H
      obtain ⟨hcz9_0, hcz9_1, hcz9_2, hcz9_3, hcz9_4, hcz9_5, hcz9_6⟩ := bk7 BK316.out
      have hfz9_0 := BK316.fz 0
      have hfz9_1 := BK316.fz 1
      have hfz9_2 := BK316.fz 2
      have hfz9_3 := BK316.fz 3
      have hfz9_4 := BK316.fz 4
      have hfz9_5 := BK316.fz 5
      have hfz9_6 := BK316.fz 6
      go_wp2
      refine bodyPost_ret (results_cell_row rfl _ _ gb316 61 #[.int .i64 1, .int .i64 x4_2, .int .i64 (Int.tmod (wrap64 (Int.tdiv t317 400)) 5), .int .i64 (Int.tmod (wrap64 (Int.tdiv t317 2000)) 3), .int .i64 (wrap64 (1 + (Int.tmod (wrap64 (Int.tdiv t317 6000)) 8))), .int .u64 0, .int .u64 0] (0, 0) _ rfl ((blk_put (blk_put (blk_put (blk_put (blk_put (blk_put (blk_put BK316.out 0 _ rfl) 1 _ rfl) 2 _ rfl) 3 _ rfl) 4 _ rfl) 5 _ rfl) 6 _ rfl)) Tryz.underlying61 rfl uW) rfl ?_
      exact ⟨yO, yI⟩
     ·replace c8 := Bool.eq_false_iff.mpr c8
      subst c8
      have H1 : (if (Int.tmod t317 8) = 2 then (some (2, x4_2, 0, 0, 0, 0, 0)) else (if (Int.tmod t317 8) = 3 then (some (3, x4_2, 0, 0, 0, 0, 0)) else (if (Int.tmod t317 8) = 4 then (some (4, x4_2, 0, 0, 0, 0, 0)) else (if (Int.tmod t317 8) = 5 then (some (5, x4_2, 0, 0, 0, 0, 0)) else ((rl5_Key.f t317).bind fun bt318 => (some (6, 0, 0, 0, 0, bt318.1, bt318.2))))))) = some (r1, r2, r3, r4, r5, r6, r7) := by rw [if_neg (show ¬ (false = true) by decide)] at H; exact H
      clear H
      have H := H1
      clear H1
      by_cases c10 : (Int.tmod t317 8) = 2
      ·rw [if_pos c10] at H
       have c10b0 : ((Int.tmod t317 8) == 2) = true := beq_iff_eq.mpr c10
       have c10b1 : ((Int.tmod t317 8) != 2) = false := bne_eq_false_iff_eq.mpr c10
       clear c10
       simp only [Option.some.injEq, Prod.mk.injEq] at H
       obtain ⟨rfl, rfl, rfl, rfl, rfl, rfl, rfl⟩ := H
       obtain ⟨hcz11_0, hcz11_1, hcz11_2, hcz11_3, hcz11_4, hcz11_5, hcz11_6⟩ := bk7 BK316.out
       have hfz11_0 := BK316.fz 0
       have hfz11_1 := BK316.fz 1
       have hfz11_2 := BK316.fz 2
       have hfz11_3 := BK316.fz 3
       have hfz11_4 := BK316.fz 4
       have hfz11_5 := BK316.fz 5
       have hfz11_6 := BK316.fz 6
       go_wp2
       refine bodyPost_ret (results_cell_row rfl _ _ gb316 61 #[.int .i64 2, .int .i64 x4_2, .int .i64 0, .int .i64 0, .int .i64 0, .int .u64 0, .int .u64 0] (0, 0) _ rfl ((blk_put (blk_put (blk_put (blk_put (blk_put (blk_put (blk_put BK316.out 0 _ rfl) 1 _ rfl) 2 _ rfl) 3 _ rfl) 4 _ rfl) 5 _ rfl) 6 _ rfl)) Tryz.underlying61 rfl uW) rfl ?_
       exact ⟨yO, yI⟩
      ·rw [if_neg c10] at H
       have c10b0 : ((Int.tmod t317 8) == 2) = false := beq_eq_false_iff_ne.mpr c10
       have c10b1 : ((Int.tmod t317 8) != 2) = true := bne_iff_ne.mpr c10
       by_cases c12 : (Int.tmod t317 8) = 3
       ·rw [if_pos c12] at H
        have c12b0 : ((Int.tmod t317 8) == 3) = true := beq_iff_eq.mpr c12
        have c12b1 : ((Int.tmod t317 8) != 3) = false := bne_eq_false_iff_eq.mpr c12
        clear c12
        simp only [Option.some.injEq, Prod.mk.injEq] at H
        obtain ⟨rfl, rfl, rfl, rfl, rfl, rfl, rfl⟩ := H
        obtain ⟨hcz13_0, hcz13_1, hcz13_2, hcz13_3, hcz13_4, hcz13_5, hcz13_6⟩ := bk7 BK316.out
        have hfz13_0 := BK316.fz 0
        have hfz13_1 := BK316.fz 1
        have hfz13_2 := BK316.fz 2
        have hfz13_3 := BK316.fz 3
        have hfz13_4 := BK316.fz 4
        have hfz13_5 := BK316.fz 5
        have hfz13_6 := BK316.fz 6
        go_wp2
        refine bodyPost_ret (results_cell_row rfl _ _ gb316 61 #[.int .i64 3, .int .i64 x4_2, .int .i64 0, .int .i64 0, .int .i64 0, .int .u64 0, .int .u64 0] (0, 0) _ rfl ((blk_put (blk_put (blk_put (blk_put (blk_put (blk_put (blk_put BK316.out 0 _ rfl) 1 _ rfl) 2 _ rfl) 3 _ rfl) 4 _ rfl) 5 _ rfl) 6 _ rfl)) Tryz.underlying61 rfl uW) rfl ?_
        exact ⟨yO, yI⟩
       ·rw [if_neg c12] at H
        have c12b0 : ((Int.tmod t317 8) == 3) = false := beq_eq_false_iff_ne.mpr c12
        have c12b1 : ((Int.tmod t317 8) != 3) = true := bne_iff_ne.mpr c12
        by_cases c14 : (Int.tmod t317 8) = 4
        ·rw [if_pos c14] at H
         have c14b0 : ((Int.tmod t317 8) == 4) = true := beq_iff_eq.mpr c14
         have c14b1 : ((Int.tmod t317 8) != 4) = false := bne_eq_false_iff_eq.mpr c14
         clear c14
         simp only [Option.some.injEq, Prod.mk.injEq] at H
         obtain ⟨rfl, rfl, rfl, rfl, rfl, rfl, rfl⟩ := H
         obtain ⟨hcz15_0, hcz15_1, hcz15_2, hcz15_3, hcz15_4, hcz15_5, hcz15_6⟩ := bk7 BK316.out
         have hfz15_0 := BK316.fz 0
         have hfz15_1 := BK316.fz 1
         have hfz15_2 := BK316.fz 2
         have hfz15_3 := BK316.fz 3
         have hfz15_4 := BK316.fz 4
         have hfz15_5 := BK316.fz 5
         have hfz15_6 := BK316.fz 6
         go_wp2
         refine bodyPost_ret (results_cell_row rfl _ _ gb316 61 #[.int .i64 4, .int .i64 x4_2, .int .i64 0, .int .i64 0, .int .i64 0, .int .u64 0, .int .u64 0] (0, 0) _ rfl ((blk_put (blk_put (blk_put (blk_put (blk_put (blk_put (blk_put BK316.out 0 _ rfl) 1 _ rfl) 2 _ rfl) 3 _ rfl) 4 _ rfl) 5 _ rfl) 6 _ rfl)) Tryz.underlying61 rfl uW) rfl ?_
         exact ⟨yO, yI⟩
        ·rw [if_neg c14] at H
         have c14b0 : ((Int.tmod t317 8) == 4) = false := beq_eq_false_iff_ne.mpr c14
         have c14b1 : ((Int.tmod t317 8) != 4) = true := bne_iff_ne.mpr c14
         by_cases c16 : (Int.tmod t317 8) = 5
         ·rw [if_pos c16] at H
          have c16b0 : ((Int.tmod t317 8) == 5) = true := beq_iff_eq.mpr c16
          have c16b1 : ((Int.tmod t317 8) != 5) = false := bne_eq_false_iff_eq.mpr c16
          clear c16
          simp only [Option.some.injEq, Prod.mk.injEq] at H
          obtain ⟨rfl, rfl, rfl, rfl, rfl, rfl, rfl⟩ := H
          obtain ⟨hcz17_0, hcz17_1, hcz17_2, hcz17_3, hcz17_4, hcz17_5, hcz17_6⟩ := bk7 BK316.out
          have hfz17_0 := BK316.fz 0
          have hfz17_1 := BK316.fz 1
          have hfz17_2 := BK316.fz 2
          have hfz17_3 := BK316.fz 3
          have hfz17_4 := BK316.fz 4
          have hfz17_5 := BK316.fz 5
          have hfz17_6 := BK316.fz 6
          go_wp2
          refine bodyPost_ret (results_cell_row rfl _ _ gb316 61 #[.int .i64 5, .int .i64 x4_2, .int .i64 0, .int .i64 0, .int .i64 0, .int .u64 0, .int .u64 0] (0, 0) _ rfl ((blk_put (blk_put (blk_put (blk_put (blk_put (blk_put (blk_put BK316.out 0 _ rfl) 1 _ rfl) 2 _ rfl) 3 _ rfl) 4 _ rfl) 5 _ rfl) 6 _ rfl)) Tryz.underlying61 rfl uW) rfl ?_
          exact ⟨yO, yI⟩
         ·rw [if_neg c16] at H
          have c16b0 : ((Int.tmod t317 8) == 5) = false := beq_eq_false_iff_ne.mpr c16
          have c16b1 : ((Int.tmod t317 8) != 5) = true := bne_iff_ne.mpr c16
          replace H := Option.bind_eq_some_iff.mp H
          obtain ⟨⟨t318, t319⟩, A180, H⟩ := H
          replace H : (some (6, 0, 0, 0, 0, t318, t319)) = some (r1, r2, r3, r4, r5, r6, r7) := H
          have A18 := mA A180
          clear A180
          simp only [Option.some.injEq, Prod.mk.injEq] at H
          obtain ⟨rfl, rfl, rfl, rfl, rfl, rfl, rfl⟩ := H
          go_wp2_with (first | ((with_reducible refine zd 51 ?_); refine zL 51 Tryz.func18 #[.int .i64 t317] ?_; (with_reducible refine (rl5_Key.calls t317 t318 t319 _ A18.out).mono ?_); rintro e w19 ⟨rfl, hb⟩; refine ⟨_, rfl, ?_⟩; replace BK316 := mA (blk_below (g := gb316) (o := .cells #[.int .i64 0, .int .i64 0, .int .i64 0, .int .i64 0, .int .i64 0, .int .u64 0, .int .u64 0] 61 (0, 0)) uX hb); replace HB := mA (below_step uQ hb); clear hb; obtain ⟨hcz20_0, hcz20_1, hcz20_2, hcz20_3, hcz20_4, hcz20_5, hcz20_6⟩ := bk7 BK316.out; have hfz20_0 := BK316.fz 0; have hfz20_1 := BK316.fz 1; have hfz20_2 := BK316.fz 2; have hfz20_3 := BK316.fz 3; have hfz20_4 := BK316.fz 4; have hfz20_5 := BK316.fz 5; have hfz20_6 := BK316.fz 6))
          refine bodyPost_ret (results_cell_row rfl _ _ gb316 61 #[.int .i64 6, .int .i64 0, .int .i64 0, .int .i64 0, .int .i64 0, .int .u64 t318, .int .u64 t319] (0, 0) _ rfl ((blk_put (blk_put (blk_put (blk_put (blk_put (blk_put (blk_put BK316.out 0 _ rfl) 1 _ rfl) 2 _ rfl) 3 _ rfl) 4 _ rfl) 5 _ rfl) 6 _ rfl)) Tryz.underlying61 rfl uW) rfl ?_
          exact ⟨yO, yI⟩
end
section
set_option maxHeartbeats 8000000
set_option maxRecDepth 100000
attribute [local go_sem] max2_int min2_int max_two min_two max_three min_three max_four min_four
def rl9_within.f (a0 : Int) (a1 : Int) : Option (Int) := if a1 = 0 then (none) else (if (Int.tmod a0 a1) < 0 then (some (wrap64 ((Int.tmod a0 a1) + a1))) else (some (Int.tmod a0 a1)))
theorem rl9_within.calls (a0 : Int) (a1 : Int) (r : Int) (w : World) (h : rl9_within.f a0 a1 = some r) :
 Calls Tryz.prog 31 #[.int .i64 a0, .int .i64 a1] w fun e w' => e = .returned (.int .i64 r) ∧ Drawn0 w w' := by
 have H := h
 unfold rl9_within.f at H
 clear h
 obtain ⟨c3, H⟩ := zin H
 have c3b0 : (a1 == 0) = false := beq_eq_false_iff_ne.mpr c3
 have c3b1 : (a1 != 0) = true := bne_iff_ne.mpr c3
 by_cases c4 : (Int.tmod a0 a1) < 0
 ·rw [if_pos c4] at H
  have c4b0 := decide_eq_true c4
  clear c4
  obtain rfl := Option.some.inj H
  go_enter Tryz.func31, Tryz.ntmps31
  go_wp2
  go_ret
  exact jO
 ·rw [if_neg c4] at H
  have c4b0 := decide_eq_false c4
  clear c4
  obtain rfl := Option.some.inj H
  go_enter Tryz.func31, Tryz.ntmps31
  go_wp2
  go_ret
  exact jO

def rr5_bits.f (a0 : Int) : Option (Int) := if a0 = 1 then (some 12) else (some 8)
theorem rr5_bits.calls (a0 : Int) (r : Int) (w : World) (h : rr5_bits.f a0 = some r) :
 Calls Tryz.prog 112 #[.int .i64 a0] w fun e w' => e = .returned (.int .u64 r) ∧ Drawn0 w w' := by
 have H := h
 unfold rr5_bits.f at H
 clear h
 by_cases c2 : a0 = 1
 ·rw [if_pos c2] at H
  have c2b0 : (a0 == 1) = true := beq_iff_eq.mpr c2
  have c2b1 : (a0 != 1) = false := bne_eq_false_iff_eq.mpr c2
  clear c2
  obtain rfl := Option.some.inj H
  go_enter Tryz.func112, Tryz.ntmps112
  go_wp2
  go_ret
  exact jO
 ·rw [if_neg c2] at H
  have c2b0 : (a0 == 1) = false := beq_eq_false_iff_ne.mpr c2
  have c2b1 : (a0 != 1) = true := bne_iff_ne.mpr c2
  obtain rfl := Option.some.inj H
  go_enter Tryz.func112, Tryz.ntmps112
  go_wp2
  go_ret
  exact jO
def rr5_word.f (k : Nat) (a0_0 : Int) (a0_1 : Int) (a1 : Int) (a2_0 : Int) (a2_1 : Int) (a2_2 : Int) (a2_3 : Int) (a3 : Int) (a4 : Int) : Option (Int) := (rr2_Words.f k a0_0 a0_1 (([a1, a2_0, a2_1, a2_2, a2_3, a3, a4] : List Int))).bind fun t336 => (some t336)
theorem rr5_word.calls (k : Nat) (a0_0 : Int) (a0_1 : Int) (a1 : Int) (a2_0 : Int) (a2_1 : Int) (a2_2 : Int) (a2_3 : Int) (a3 : Int) (a4 : Int) (r : Int) (w : World) (h : rr5_word.f k a0_0 a0_1 a1 a2_0 a2_1 a2_2 a2_3 a3 a4 = some r) :
 Calls Tryz.prog 113 #[.agg #[.int .u64 a0_0, .int .u64 a0_1], .int .i64 a1, .agg #[.int .i64 a2_0, .int .i64 a2_1, .int .i64 a2_2, .int .i64 a2_3], .int .i64 a3, .int .i64 a4] w fun e w' => e = .returned (.int .u64 r) ∧ Below w.heap.size w w' := by
 have hu29 := Tryz.underlying29
 have hu89 := Tryz.underlying89
 have HB := mA (Below.refl w.heap.size w)
 have H := h
 unfold rr5_word.f at H
 clear h
 obtain ⟨y333, hy333⟩ : ∃ y_ : List Int, y_ = (([a1, a2_0, a2_1, a2_2, a2_3, a3, a4] : List Int)) := ⟨_, rfl⟩
 replace H : ((rr2_Words.f k a0_0 a0_1 y333).bind fun t336 => (some t336)) = some r := zyy hy333 H
 have Ny333 := mA hy333
 clear hy333
 replace H := Option.bind_eq_some_iff.mp H
 obtain ⟨t336, A60, H⟩ := H
 have A6 := mA A60
 clear A60
 obtain rfl := Option.some.inj H
 go_enter Tryz.func113, Tryz.ntmps113
 go_wp2_with (first | (refine zx 5 #[.int .u64 a0_0, .int .u64 a0_1] 29 ?_; clear HB; intro gb331 w7 BK331 HB GE331) | (refine zX 7 #[.int .i64 a2_0, .int .i64 a2_1, .int .i64 a2_2, .int .i64 a2_3] 89 ?_; clear HB; intro gb332 w8 BK332 HB GE332 hb hg; have NB331_332 := mA ((by rw [hg]; exact Nat.ne_of_lt (blk_lt (g := gb331) (o := .cells #[.int .u64 a0_0, .int .u64 a0_1] 29 (0, 0)) uX) : gb331 ≠ gb332)); have NB332_331 := mA ((by rw [hg]; exact Nat.ne_of_gt (blk_lt (g := gb331) (o := .cells #[.int .u64 a0_0, .int .u64 a0_1] 29 (0, 0)) uX) : gb332 ≠ gb331)); replace BK331 := mA (blk_below (g := gb331) (o := .cells #[.int .u64 a0_0, .int .u64 a0_1] 29 (0, 0)) uX hb); clear hb hg; have hnb9 := NB331_332.out; have hnc9 := NB332_331.out; obtain ⟨hcz10_0, hcz10_1⟩ := bk2 BK331.out; have hfz10_0 := BK331.fz 0; have hfz10_1 := BK331.fz 1; obtain ⟨hcz11_0, hcz11_1, hcz11_2, hcz11_3⟩ := bk4 BK332.out; have hfz11_0 := BK332.fz 0; have hfz11_1 := BK332.fz 1; have hfz11_2 := BK332.fz 2; have hfz11_3 := BK332.fz 3) | ((with_reducible refine zd 23 ?_); refine zl .i64 3 23 [a1, a2_0, a2_1, a2_2, a2_3, a3, a4] ?_; intro v334 w12 ho13 hb hg_ hnew_; clear hg_ hnew_; (first | rw [← Ny333.out] at ho13 | (simp only [Int.reduceToNat] at ho13; rw [← Ny333.out] at ho13)); have HO335 := mA (Kd.R_lower ho13 (below_size uQ)); replace BK331 := mA (blk_below (g := gb331) (o := .cells #[.int .u64 a0_0, .int .u64 a0_1] 29 (0, 0)) uX hb); replace BK332 := mA (blk_below (g := gb332) (o := .cells #[.int .i64 a2_0, .int .i64 a2_1, .int .i64 a2_2, .int .i64 a2_3] 89 (0, 0)) uX hb); replace HB := mA (below_step uQ hb); clear hb ho13; obtain ⟨Ao14, co14, eo14⟩ := Kd.R_slice HO335.out; subst eo14) | ((with_reducible refine zd 24 ?_); refine zL 24 Tryz.func120 #[.agg #[.int .u64 a0_0, .int .u64 a0_1], .slice Ao14 y333.length co14] ?_; (with_reducible refine (rr2_Words.calls k a0_0 a0_1 _ _ y333 t336 _ ?side1 ?side2 A6.out).mono ?_); (case side1 => repeat (first | exact (Kd.R_reads' HO335.out).2.2 | (with_reducible refine Kd.C_alloc ?_ _) | (with_reducible refine Kd.C_drewN ?_ _) | (with_reducible refine Kd.C_drew ?_))); (case side2 => exact (Kd.R_reads' HO335.out).2.1); rintro e w15 ⟨rfl, hb⟩; refine ⟨_, rfl, ?_⟩; replace HO335 := mA (Kd.R_below (zkr HO335) hb); replace BK331 := mA (blk_below (g := gb331) (o := .cells #[.int .u64 a0_0, .int .u64 a0_1] 29 (0, 0)) uX hb); replace BK332 := mA (blk_below (g := gb332) (o := .cells #[.int .i64 a2_0, .int .i64 a2_1, .int .i64 a2_2, .int .i64 a2_3] 89 (0, 0)) uX hb); replace HB := mA (below_step uQ hb); clear hb))
 go_ret
 exact ⟨yO, yI⟩
def rr5_cook.f (k : Nat) (a0_0 : Int) (a0_1 : Int) (a1 : Int) (a2_0 : Int) (a2_1 : Int) (a2_2 : Int) (a2_3 : Int) (a3 : Int) (a4 : Int) : Option (Int) := (rr5_bits.f a1).bind fun t339 => ((rr5_word.f k a0_0 a0_1 a1 a2_0 a2_1 a2_2 a2_3 64 a4).bind fun t340 => (if 0 ≤ (IntKind.u64.wrap (6 + t339)) then (if 0 ≤ t339 then ((rr5_word.f k a0_0 a0_1 a1 a2_0 a2_1 a2_2 a2_3 a3 a4).bind fun t341 => (some (Go.bits .or .i64 (Go.bits .or .i64 (shl .i64 a4 (IntKind.u64.wrap (6 + t339))) (shl .i64 (Go.bits .xor .i64 a3 (wrap64 (Go.bits .and .u64 t340 63))) t339)) (wrap64 (Go.bits .and .u64 t341 (IntKind.u64.wrap ((shl .u64 1 t339) - 1))))))) else (none)) else (none)))
theorem rr5_cook.calls (k : Nat) (a0_0 : Int) (a0_1 : Int) (a1 : Int) (a2_0 : Int) (a2_1 : Int) (a2_2 : Int) (a2_3 : Int) (a3 : Int) (a4 : Int) (r : Int) (w : World) (h : rr5_cook.f k a0_0 a0_1 a1 a2_0 a2_1 a2_2 a2_3 a3 a4 = some r) :
 Calls Tryz.prog 88 #[.agg #[.int .u64 a0_0, .int .u64 a0_1], .int .i64 a1, .agg #[.int .i64 a2_0, .int .i64 a2_1, .int .i64 a2_2, .int .i64 a2_3], .int .i64 a3, .int .i64 a4] w fun e w' => e = .returned (.int .i64 r) ∧ Below w.heap.size w w' := by
 have hu29 := Tryz.underlying29
 have hu89 := Tryz.underlying89
 have HB := mA (Below.refl w.heap.size w)
 have H := h
 unfold rr5_cook.f at H
 clear h
 replace H := Option.bind_eq_some_iff.mp H
 obtain ⟨t339, A60, H⟩ := H
 have A6 := mA A60
 clear A60
 replace H := Option.bind_eq_some_iff.mp H
 obtain ⟨t340, A70, H⟩ := H
 have A7 := mA A70
 clear A70
 obtain ⟨ji8, hji8⟩ : ∃ j_ : Int, (IntKind.u64.wrap (6 + t339)) = j_ := ⟨_, rfl⟩
 replace H : (if 0 ≤ (ji8) then (if 0 ≤ t339 then ((rr5_word.f k a0_0 a0_1 a1 a2_0 a2_1 a2_2 a2_3 a3 a4).bind fun t341 => (some (Go.bits .or .i64 (Go.bits .or .i64 (shl .i64 a4 (ji8)) (shl .i64 (Go.bits .xor .i64 a3 (wrap64 (Go.bits .and .u64 t340 63))) t339)) (wrap64 (Go.bits .and .u64 t341 (IntKind.u64.wrap ((shl .u64 1 t339) - 1))))))) else (none)) else (none)) = some r := by first | (rw [hji8] at H; exact H) | (simp only [hji8] at H ⊢; exact H)
 (try rw [hji8] at A6)
 (try rw [hji8] at A7)
 by_cases c9 : 0 ≤ (ji8)
 ·rw [if_pos c9] at H
  have c9b0 := eq_true c9
  have c9b1 := decide_eq_true c9
  clear c9
  obtain ⟨ji10, hji10⟩ : ∃ j_ : Int, (shl .i64 a4 (ji8)) = j_ := ⟨_, rfl⟩
  replace H : (if 0 ≤ t339 then ((rr5_word.f k a0_0 a0_1 a1 a2_0 a2_1 a2_2 a2_3 a3 a4).bind fun t341 => (some (Go.bits .or .i64 (Go.bits .or .i64 (ji10) (shl .i64 (Go.bits .xor .i64 a3 (wrap64 (Go.bits .and .u64 t340 63))) t339)) (wrap64 (Go.bits .and .u64 t341 (IntKind.u64.wrap ((shl .u64 1 t339) - 1))))))) else (none)) = some r := by first | (rw [hji10] at H; exact H) | (simp only [hji10] at H ⊢; exact H)
  (try rw [hji10] at A6)
  (try rw [hji10] at A7)
  have hji10_ : (IntKind.i64.wrap (a4 * 2 ^ min (ji8).toNat 64)) = ji10 := hji10
  have hji10z : (ji8) ≤ 64 → (IntKind.i64.wrap (a4 * 2 ^ (ji8).toNat)) = ji10 := shl_small hji10
  have hji10y : (wrap64 (a4 * 2 ^ min (ji8).toNat 64)) = ji10 := (i64_w _).symm.trans hji10_
  have hji10x : (ji8) ≤ 64 → (wrap64 (a4 * 2 ^ (ji8).toNat)) = ji10 := fun h_ => (i64_w _).symm.trans (hji10z h_)
  obtain ⟨c11, H⟩ := zif H
  have c11b0 := eq_true c11
  have c11b1 := decide_eq_true c11
  clear c11
  obtain ⟨ji12, hji12⟩ : ∃ j_ : Int, (shl .i64 (Go.bits .xor .i64 a3 (wrap64 (Go.bits .and .u64 t340 63))) t339) = j_ := ⟨_, rfl⟩
  replace H : ((rr5_word.f k a0_0 a0_1 a1 a2_0 a2_1 a2_2 a2_3 a3 a4).bind fun t341 => (some (Go.bits .or .i64 (Go.bits .or .i64 (ji10) (ji12)) (wrap64 (Go.bits .and .u64 t341 (IntKind.u64.wrap ((shl .u64 1 t339) - 1))))))) = some r := by first | (rw [hji12] at H; exact H) | (simp only [hji12] at H ⊢; exact H)
  (try rw [hji12] at A6)
  (try rw [hji12] at A7)
  have hji12_ : (IntKind.i64.wrap ((Go.bits .xor .i64 a3 (wrap64 (Go.bits .and .u64 t340 63))) * 2 ^ min t339.toNat 64)) = ji12 := hji12
  have hji12z : t339 ≤ 64 → (IntKind.i64.wrap ((Go.bits .xor .i64 a3 (wrap64 (Go.bits .and .u64 t340 63))) * 2 ^ t339.toNat)) = ji12 := shl_small hji12
  have hji12y : (wrap64 ((Go.bits .xor .i64 a3 (wrap64 (Go.bits .and .u64 t340 63))) * 2 ^ min t339.toNat 64)) = ji12 := (i64_w _).symm.trans hji12_
  have hji12x : t339 ≤ 64 → (wrap64 ((Go.bits .xor .i64 a3 (wrap64 (Go.bits .and .u64 t340 63))) * 2 ^ t339.toNat)) = ji12 := fun h_ => (i64_w _).symm.trans (hji12z h_)
  replace H := Option.bind_eq_some_iff.mp H
  obtain ⟨t341, A130, H⟩ := H
  have A13 := mA A130
  clear A130
  have c14b0 := eq_true (of_decide_eq_true uV : 0 ≤ t339)
  obtain ⟨ji15, hji15⟩ : ∃ j_ : Int, (shl .u64 1 t339) = j_ := ⟨_, rfl⟩
  replace H : (some (Go.bits .or .i64 (Go.bits .or .i64 (ji10) (ji12)) (wrap64 (Go.bits .and .u64 t341 (IntKind.u64.wrap ((ji15) - 1)))))) = some r := by first | (rw [hji15] at H; exact H) | (simp only [hji15] at H ⊢; exact H)
  (try rw [hji15] at A6)
  (try rw [hji15] at A7)
  (try rw [hji15] at A13)
  have hji15_ : (IntKind.u64.wrap (1 * 2 ^ min t339.toNat 64)) = ji15 := hji15
  have hji15z : t339 ≤ 64 → (IntKind.u64.wrap (1 * 2 ^ t339.toNat)) = ji15 := shl_small hji15
  have hji15u : (IntKind.u64.wrap (2 ^ min t339.toNat 64)) = ji15 := by have h_ := hji15_; rw [Int.one_mul] at h_; exact h_
  have hji15v : t339 ≤ 64 → (IntKind.u64.wrap (2 ^ t339.toNat)) = ji15 := fun hle_ => by have h_ := hji15z hle_; rw [Int.one_mul] at h_; exact h_
  obtain rfl := Option.some.inj H
  go_enter Tryz.func88, Tryz.ntmps88
  go_wp2_with (first | (refine zx 5 #[.int .u64 a0_0, .int .u64 a0_1] 29 ?_; clear HB; intro gb337 w16 BK337 HB GE337) | (refine zX 7 #[.int .i64 a2_0, .int .i64 a2_1, .int .i64 a2_2, .int .i64 a2_3] 89 ?_; clear HB; intro gb338 w17 BK338 HB GE338 hb hg; have NB337_338 := mA ((by rw [hg]; exact Nat.ne_of_lt (blk_lt (g := gb337) (o := .cells #[.int .u64 a0_0, .int .u64 a0_1] 29 (0, 0)) uX) : gb337 ≠ gb338)); have NB338_337 := mA ((by rw [hg]; exact Nat.ne_of_gt (blk_lt (g := gb337) (o := .cells #[.int .u64 a0_0, .int .u64 a0_1] 29 (0, 0)) uX) : gb338 ≠ gb337)); replace BK337 := mA (blk_below (g := gb337) (o := .cells #[.int .u64 a0_0, .int .u64 a0_1] 29 (0, 0)) uX hb); clear hb hg) | ((with_reducible refine zd 14 ?_); refine zL 14 Tryz.func112 #[.int .i64 a1] ?_; (with_reducible refine (rr5_bits.calls a1 t339 _ A6.out).mono ?_); rintro e w' ⟨rfl, ⟨nd, rfl⟩⟩; refine ⟨_, rfl, ?_⟩; have hnb18 := NB337_338.out; have hnc18 := NB338_337.out; obtain ⟨hcz19_0, hcz19_1⟩ := bk2 BK337.out; have hfz19_0 := BK337.fz 0; have hfz19_1 := BK337.fz 1; obtain ⟨hcz20_0, hcz20_1, hcz20_2, hcz20_3⟩ := bk4 BK338.out; have hfz20_0 := BK338.fz 0; have hfz20_1 := BK338.fz 1; have hfz20_2 := BK338.fz 2; have hfz20_3 := BK338.fz 3) | ((with_reducible refine zd 20 ?_); refine zL 20 Tryz.func113 #[.agg #[.int .u64 a0_0, .int .u64 a0_1], .int .i64 a1, .agg #[.int .i64 a2_0, .int .i64 a2_1, .int .i64 a2_2, .int .i64 a2_3], .int .i64 64, .int .i64 a4] ?_; (with_reducible refine (rr5_word.calls k a0_0 a0_1 a1 a2_0 a2_1 a2_2 a2_3 64 a4 t340 _ A7.out).mono ?_); rintro e w21 ⟨rfl, hb⟩; refine ⟨_, rfl, ?_⟩; replace BK337 := mA (blk_below (g := gb337) (o := .cells #[.int .u64 a0_0, .int .u64 a0_1] 29 (0, 0)) uX hb); replace BK338 := mA (blk_below (g := gb338) (o := .cells #[.int .i64 a2_0, .int .i64 a2_1, .int .i64 a2_2, .int .i64 a2_3] 89 (0, 0)) uX hb); replace HB := mA (below_step uQ hb); clear hb; obtain ⟨hcz22_0, hcz22_1⟩ := bk2 BK337.out; have hfz22_0 := BK337.fz 0; have hfz22_1 := BK337.fz 1; obtain ⟨hcz23_0, hcz23_1, hcz23_2, hcz23_3⟩ := bk4 BK338.out; have hfz23_0 := BK338.fz 0; have hfz23_1 := BK338.fz 1; have hfz23_2 := BK338.fz 2; have hfz23_3 := BK338.fz 3) | ((with_reducible refine zd 37 ?_); refine zL 37 Tryz.func113 #[.agg #[.int .u64 a0_0, .int .u64 a0_1], .int .i64 a1, .agg #[.int .i64 a2_0, .int .i64 a2_1, .int .i64 a2_2, .int .i64 a2_3], .int .i64 a3, .int .i64 a4] ?_; (with_reducible refine (rr5_word.calls k a0_0 a0_1 a1 a2_0 a2_1 a2_2 a2_3 a3 a4 t341 _ A13.out).mono ?_); rintro e w24 ⟨rfl, hb⟩; refine ⟨_, rfl, ?_⟩; replace BK337 := mA (blk_below (g := gb337) (o := .cells #[.int .u64 a0_0, .int .u64 a0_1] 29 (0, 0)) uX hb); replace BK338 := mA (blk_below (g := gb338) (o := .cells #[.int .i64 a2_0, .int .i64 a2_1, .int .i64 a2_2, .int .i64 a2_3] 89 (0, 0)) uX hb); replace HB := mA (below_step uQ hb); clear hb))
  go_ret
  exact ⟨by first | rfl | (simp [errW_none, errW_some] <;> rfl) | (simp only [← hji8, ← hji10, ← hji12, ← hji15]; first | rfl | (simp [errW_none, errW_some] <;> rfl)) | (simp [*, errW_none, errW_some] <;> rfl), yI⟩
 ·rw [if_neg c9] at H
  exact absurd H xU
def rr5_four.f (a0 : Int) : Option (Int) := some (Go.bits .and .i64 a0 3)
theorem rr5_four.calls (a0 : Int) (r : Int) (w : World) (h : rr5_four.f a0 = some r) :
 Calls Tryz.prog 89 #[.int .i64 a0] w fun e w' => e = .returned (.int .i64 r) ∧ Drawn0 w w' := by
 have H := h
 unfold rr5_four.f at H
 clear h
 obtain rfl := Option.some.inj H
 go_enter Tryz.func89, Tryz.ntmps89
 go_wp2
 go_ret
 exact jO
def rr5_Make.f (k : Nat) (a0_0 : Int) (a0_1 : Int) (a0_2 : Int) (a0_3 : Int) (a0_4 : Int) (a0_5 : Int) (a0_6 : Int) (a1 : Int) (a2_0 : Int) (a2_1 : Int) (a2_2 : Int) (a2_3 : Int) (a3 : Int) : Option (Int) := (rr5_four.f a0_0).bind fun t344 => ((rr5_cook.f k a0_3 a0_4 a1 a2_0 a2_1 a2_2 a2_3 a3 t344).bind fun t345 => (some t345))
def rr5_Make.T1 : Bool × List (List Nat × List Nat) := (true, [([], []), ([0], [0]), ([], []), ([], []), ([], []), ([], []), ([5], [5]), ([6], [6]), ([1, 2, 3, 4, 7, 7], [1, 2, 3, 4, 7]), ([8, 8, 0, 1, 2, 3, 4, 5, 6, 7, 8], [8])])
def rr5_Make.B1 : List Nat := [0, 1, 0, 0, 0, 0, 32, 96, 255, 511]
theorem rr5_Make.tab1 : rtab .any (opsOf Tryz.f36 1) = rr5_Make.T1 := by kernel_rfl
theorem rr5_Make.bits1 : waitsOk rr5_Make.T1.2 rr5_Make.B1 = true := by kernel_rfl
theorem rr5_Make.calls (k : Nat) (a0_0 : Int) (a0_1 : Int) (a0_2 : Int) (a0_3 : Int) (a0_4 : Int) (a0_5 : Int) (a0_6 : Int) (a1 : Int) (a2_0 : Int) (a2_1 : Int) (a2_2 : Int) (a2_3 : Int) (a3 : Int) (r : Int) (w : World) (h : rr5_Make.f k a0_0 a0_1 a0_2 a0_3 a0_4 a0_5 a0_6 a1 a2_0 a2_1 a2_2 a2_3 a3 = some r) :
 Calls Tryz.prog 36 #[.agg #[.int .i64 a0_0, .int .u64 a0_1, .int .u64 a0_2, .int .u64 a0_3, .int .u64 a0_4, .int .u64 a0_5, .int .u64 a0_6], .int .i64 a1, .agg #[.int .i64 a2_0, .int .i64 a2_1, .int .i64 a2_2, .int .i64 a2_3], .int .i64 a3] w fun e w' => e = .returned (.int .i64 r) ∧ Below w.heap.size w w' := by
 have hu31 := Tryz.underlying31
 have hu89 := Tryz.underlying89
 have hu29 := Tryz.underlying29
 have HB := mA (Below.refl w.heap.size w)
 have H := h
 unfold rr5_Make.f at H
 clear h
 replace H := Option.bind_eq_some_iff.mp H
 obtain ⟨t344, A50, H⟩ := H
 have A5 := mA A50
 clear A50
 replace H := Option.bind_eq_some_iff.mp H
 obtain ⟨t345, A60, H⟩ := H
 have A6 := mA A60
 clear A60
 obtain rfl := Option.some.inj H
 go_enter Tryz.func36, Tryz.ntmps36
 try go_wp2_with (first | (refine zx 4 #[.int .i64 a0_0, .int .u64 a0_1, .int .u64 a0_2, .int .u64 a0_3, .int .u64 a0_4, .int .u64 a0_5, .int .u64 a0_6] 31 ?_; clear HB; intro gb342 w7 BK342 HB GE342) | (refine zX 6 #[.int .i64 a2_0, .int .i64 a2_1, .int .i64 a2_2, .int .i64 a2_3] 89 ?_; clear HB; intro gb343 w8 BK343 HB GE343 hb hg; have NB342_343 := mA ((by rw [hg]; exact Nat.ne_of_lt (blk_lt (g := gb342) (o := .cells #[.int .i64 a0_0, .int .u64 a0_1, .int .u64 a0_2, .int .u64 a0_3, .int .u64 a0_4, .int .u64 a0_5, .int .u64 a0_6] 31 (0, 0)) uX) : gb342 ≠ gb343)); have NB343_342 := mA ((by rw [hg]; exact Nat.ne_of_gt (blk_lt (g := gb342) (o := .cells #[.int .i64 a0_0, .int .u64 a0_1, .int .u64 a0_2, .int .u64 a0_3, .int .u64 a0_4, .int .u64 a0_5, .int .u64 a0_6] 31 (0, 0)) uX) : gb343 ≠ gb342)); replace BK342 := mA (blk_below (g := gb342) (o := .cells #[.int .i64 a0_0, .int .u64 a0_1, .int .u64 a0_2, .int .u64 a0_3, .int .u64 a0_4, .int .u64 a0_5, .int .u64 a0_6] 31 (0, 0)) uX hb); clear hb hg))
 replace BK342 := mA (blk_drew BK342.out)
 replace BK343 := mA (blk_drew BK343.out)
 replace HB := mA (below_drew1 HB.out)
 refine start_ (n := 10) (S := fun w' => w'.cell? ⟨gb342, 0, none⟩ = some (.int .i64 a0_0) ∧ w'.cell? ⟨gb342, 1, none⟩ = some (.int .u64 a0_1) ∧ w'.cell? ⟨gb342, 2, none⟩ = some (.int .u64 a0_2) ∧ w'.cell? ⟨gb342, 3, none⟩ = some (.int .u64 a0_3) ∧ w'.cell? ⟨gb342, 4, none⟩ = some (.int .u64 a0_4) ∧ w'.cell? ⟨gb342, 5, none⟩ = some (.int .u64 a0_5) ∧ w'.cell? ⟨gb342, 6, none⟩ = some (.int .u64 a0_6) ∧ w'.cell? ⟨gb343, 0, none⟩ = some (.int .i64 a2_0) ∧ w'.cell? ⟨gb343, 1, none⟩ = some (.int .i64 a2_1) ∧ w'.cell? ⟨gb343, 2, none⟩ = some (.int .i64 a2_2) ∧ w'.cell? ⟨gb343, 3, none⟩ = some (.int .i64 a2_3)) (ds := []) (tf 0 10) uW rfl rfl ⟨BK342.cz 0, BK342.cz 1, BK342.cz 2, BK342.cz 3, BK342.cz 4, BK342.cz 5, BK342.cz 6, BK343.cz 0, BK343.cz 1, BK343.cz 2, BK343.cz 3⟩ (fun hHeld => ?_); refine with_tabW rr5_Make.tab1 rr5_Make.bits1 (fun HT_ HW_ => ?_)
 generalize w8.drew = w9 at BK342 BK343 HB hHeld ⊢
 refine zP 0 9 (tf 1 9) ?_
 refine zP 2 11 (mb 10 5) ?_
 refine zP 4 13 (mb 10 21) ?_
 refine zP 5 14 (mb 10 53) ?_
 refine take_ (i := 1) (N := some 10) (v := ?_) (a' := ?_) (mb 10 55) rfl rfl (take_ofW HT_.out HW_.out uW) (fun _ _ _ h => h) (Or.inl ⟨by rfl, ?_⟩) hHeld ?_ ?_
 rotate_left
 ·exact zH
 rotate_left
 ·exact zU
 refine take_ (i := 3) (N := some 12) (v := ?_) (a' := ?_) (tf 6 4) rfl rfl (take_ofW HT_.out HW_.out uW) (fun _ _ _ h => h) (Or.inl ⟨by rfl, ?_⟩) hHeld ?_ ?_
 rotate_left
 ·exact zH
 rotate_left
 ·exact zU
 refine take_ (i := 6) (N := some 15) (v := ?_) (a' := ?_) (tf 7 3) rfl rfl (take_ofW HT_.out HW_.out uW) (fun _ _ _ h => h) (Or.inl ⟨by rfl, ?_⟩) hHeld ?_ ?_
 rotate_left
 ·exact zH
 rotate_left
 ·exact zU
 refine one_ (i := 7) (N := some 16) (tf 8 2) rfl rfl (one_of HT_.out uW) uJ (fun K hK => ?_)
 refine goes_ Tryz.func89 uW rfl #[.int .i64 a0_0] (by rfl) rfl rfl uE ?_
 with_reducible refine (rr5_four.calls a0_0 t344 _ A5.out).mono ?_
 rintro e w' ⟨rfl, ⟨nd, rfl⟩⟩
 refine ⟨_, rfl, ?_⟩
 refine hK.out _ _ ⟨BK342.cz 0, BK342.cz 1, BK342.cz 2, BK342.cz 3, BK342.cz 4, BK342.cz 5, BK342.cz 6, BK343.cz 0, BK343.cz 1, BK343.cz 2, BK343.cz 3⟩ (fun hHeld => ?_)
 clear hK K
 refine zN ?_
 refine one_ (i := 8) (N := some 17) (tf 9 1) rfl rfl (one_of HT_.out uW) uJ (fun K hK => ?_)
 refine goes_ Tryz.func88 uW rfl #[.agg #[.int .u64 a0_3, .int .u64 a0_4], .int .i64 a1, .agg #[.int .i64 a2_0, .int .i64 a2_1, .int .i64 a2_2, .int .i64 a2_3], .int .i64 a3, .int .i64 t344] (by rfl) rfl rfl uE ?_
 with_reducible refine (rr5_cook.calls k a0_3 a0_4 a1 a2_0 a2_1 a2_2 a2_3 a3 t344 t345 _ A6.out).mono ?_
 rintro e w10 ⟨rfl, hb⟩
 refine ⟨_, rfl, ?_⟩
 have n0_ := mA (blk_below (g := gb342) (o := .cells #[.int .i64 a0_0, .int .u64 a0_1, .int .u64 a0_2, .int .u64 a0_3, .int .u64 a0_4, .int .u64 a0_5, .int .u64 a0_6] 31 (0, 0)) uX hb)
 have n1_ := mA (blk_below (g := gb343) (o := .cells #[.int .i64 a2_0, .int .i64 a2_1, .int .i64 a2_2, .int .i64 a2_3] 89 (0, 0)) uX hb)
 have n2_ := mA (below_step uQ hb)
 clear BK342 BK343 HB
 have BK342 := n0_
 have BK343 := n1_
 have HB := n2_
 clear n0_ n1_ n2_ hb
 refine hK.out _ _ ⟨BK342.cz 0, BK342.cz 1, BK342.cz 2, BK342.cz 3, BK342.cz 4, BK342.cz 5, BK342.cz 6, BK343.cz 0, BK343.cz 1, BK343.cz 2, BK343.cz 3⟩ (fun hHeld => ?_)
 clear hK K
 refine zN ?_
 refine zP 9 8 (tf 10 0) ?_
 refine done_ (done_of HT_.out uW) ?_
 try go_wp2
 go_ret
 exact ⟨yO, yI⟩
def rr4_bytes.f (a0 : Int) : Option (List Int) := some (([(a0 / 16777216) % 256, (a0 / 65536) % 256, (a0 / 256) % 256, (a0) % 256] : List Int))
theorem rr4_bytes.calls (a0 : Int) (r : List Int) (w : World) (h : rr4_bytes.f a0 = some r) :
 Calls Tryz.prog 90 #[.int .u32 a0] w fun e w' => ∃ v0_ : Value, e = .returned (v0_) ∧ Kd.R (Kd.int .u8) 5 w' w.heap.size (fun _ => True) v0_ r ∧ Below w.heap.size w w' := by
 have HB := mA (Below.refl w.heap.size w)
 have H := h
 unfold rr4_bytes.f at H
 clear h
 obtain ⟨y346, hy346⟩ : ∃ y_ : List Int, y_ = (([(a0 / 16777216) % 256, (a0 / 65536) % 256, (a0 / 256) % 256, (a0) % 256] : List Int)) := ⟨_, rfl⟩
 replace H : (some y346) = some r := zyy hy346 H
 have Ny346 := mA hy346
 clear hy346
 obtain rfl := Option.some.inj H
 go_enter Tryz.func90, Tryz.ntmps90
 go_wp2_with (first | ((with_reducible refine zd 14 ?_); refine zl .u8 5 14 [(a0 / 16777216) % 256, (a0 / 65536) % 256, (a0 / 256) % 256, (a0) % 256] ?_; intro v347 w2 ho3 hb hg_ hnew_; clear hg_ hnew_; (first | rw [← Ny346.out] at ho3 | (simp only [Int.reduceToNat] at ho3; rw [← Ny346.out] at ho3)); have HO348 := mA (Kd.R_lower ho3 (below_size uQ)); replace HB := mA (below_step uQ hb); clear hb ho3))
 go_ret
 exact ⟨_, yO, by (with_reducible repeat (first | apply Kd.R_alloc | apply Kd.R_drewN | apply Kd.R_drew)); exact HO348.out, yI⟩
def rr4_Make.f (a0 : Int) (a1 : Int) : Option (List Int) := (some (([1, 1, 8, 10] : List Int) : List Int)).bind fun y349 => ((rr4_bytes.f a0).bind fun t352 => (if y349.length + t352.length < 140737488355328 then ((some (y349 ++ t352 : List Int)).bind fun y355 => ((rr4_bytes.f a1).bind fun t358 => (if y355.length + t358.length < 140737488355328 then (some (y355 ++ t358)) else (none)))) else (none)))
theorem rr4_Make.calls (a0 : Int) (a1 : Int) (r : List Int) (w : World) (h : rr4_Make.f a0 a1 = some r) :
 Calls Tryz.prog 37 #[.int .u32 a0, .int .u32 a1] w fun e w' => ∃ v0_ : Value, e = .returned (v0_) ∧ Kd.R (Kd.int .u8) 5 w' w.heap.size (fun _ => True) v0_ r ∧ Below w.heap.size w w' := by
 have HB := mA (Below.refl w.heap.size w)
 have H := h
 unfold rr4_Make.f at H
 clear h
 obtain ⟨y349, hy349⟩ : ∃ y_ : List Int, y_ = (([1, 1, 8, 10] : List Int)) := ⟨_, rfl⟩
 replace H : ((rr4_bytes.f a0).bind fun t352 => (if y349.length + t352.length < 140737488355328 then ((some (y349 ++ t352 : List Int)).bind fun y355 => ((rr4_bytes.f a1).bind fun t358 => (if y355.length + t358.length < 140737488355328 then (some (y355 ++ t358)) else (none)))) else (none))) = some r := zyy hy349 H
 have Ny349 := mA hy349
 clear hy349
 replace H := Option.bind_eq_some_iff.mp H
 obtain ⟨t352, A30, H⟩ := H
 have A3 := mA A30
 clear A30
 by_cases c4 : y349.length + t352.length < 140737488355328
 ·rw [if_pos c4] at H
  have LMc4 := mA c4
  clear c4
  obtain ⟨y355, hy355⟩ : ∃ y_ : List Int, y_ = (y349 ++ t352) := ⟨_, rfl⟩
  replace H : ((rr4_bytes.f a1).bind fun t358 => (if y355.length + t358.length < 140737488355328 then (some (y355 ++ t358)) else (none))) = some r := zyy hy355 H
  have Ny355 := mA hy355
  clear hy355
  replace H := Option.bind_eq_some_iff.mp H
  obtain ⟨t358, A50, H⟩ := H
  have A5 := mA A50
  clear A50
  obtain ⟨c6, H⟩ := zif H
  have LMc6 := mA c6
  clear c6
  obtain ⟨y361, hy361⟩ : ∃ y_ : List Int, y_ = (y355 ++ t358) := ⟨_, rfl⟩
  replace H : (some y361) = some r := zyy hy361 H
  have Ny361 := mA hy361
  clear hy361
  obtain rfl := Option.some.inj H
  go_enter Tryz.func37, Tryz.ntmps37
  go_wp2_with (first | ((with_reducible refine zd 5 ?_); refine zl .u8 5 5 [1, 1, 8, 10] ?_; intro v350 w7 ho8 hb hg_ hnew_; clear hg_ hnew_; (first | rw [← Ny349.out] at ho8 | (simp only [Int.reduceToNat] at ho8; rw [← Ny349.out] at ho8)); have HO351 := mA (Kd.R_lower ho8 (below_size uQ)); replace HB := mA (below_step uQ hb); clear hb ho8) | ((with_reducible refine zd 7 ?_); refine zL 7 Tryz.func90 #[.int .u32 a0] ?_; (with_reducible refine (rr4_bytes.calls a0 t352 _ A3.out).mono ?_); rintro e w9 ⟨v353, rfl, ho0, hb⟩; refine ⟨_, rfl, ?_⟩; have HO354 := mA (Kd.R_lower (Kd.R_new' ho0 (Kd.R_lt (zkr HO351))) (below_size uQ)); replace HO351 := mA (Kd.R_elder' (zkr HO351) (Kd.R_base ho0) hb); replace HB := mA (below_step uQ hb); clear hb ho0; obtain ⟨Ao11, co11, eo11⟩ := Kd.R_slice HO354.out; subst eo11) | ((with_reducible refine gate_builtin (b := .append) (xs := #[.tmp 5, .tmp 7]) rfl ?_); at_builtin; refine Kd.R_append_rows (Kd.int .u8) (w0 := w) w.heap.size rfl (.tmp 5) (.tmp 7) 39 5 (.int .u8 0) 1 rfl Tryz.underlying39 info5 rfl uJ uY v350 y349 t352 _ _ _ (fun k_ => some k_ ≠ (.slice Ao11 t352.length co11 : Value).ownBlock) (fun _ => False) rfl rfl ?aO ?aR (fun _ _ h => h) (fun _ h => h.elim) ?aF ?aB ?aS ?aL ?_; (case aR => repeat (first | exact (Kd.R_reads' HO354.out).2.2 | (with_reducible refine Kd.C_alloc ?_ _) | (with_reducible refine Kd.C_drewN ?_ _) | (with_reducible refine Kd.C_drew ?_))); (case aB => exact uQ); (case aF => exact (fun k_ hk => Kd.fresh' (Kd.R_lt (zkr HO354)) k_ hk)); (case aO => exact (by (with_reducible repeat (first | apply Kd.R_alloc | apply Kd.R_drewN | apply Kd.R_drew)); exact Kd.R_mono HO351.out (fun _ hk => hk.2))); (case aS => exact (below_size uQ)); (case aL => have := LMc4.out; omega); intro v356 w10 ho hb hg hat; rw [← Ny355.out] at ho; replace HO354 := mA (Kd.R_after (ok := (fun _ => True)) (zkr HO354) hg hat); replace HB := mA (hb); have HO357 := mA (ho); clear HO351 ho hb hg hat) | ((with_reducible refine zd 10 ?_); refine zL 10 Tryz.func90 #[.int .u32 a1] ?_; (with_reducible refine (rr4_bytes.calls a1 t358 _ A5.out).mono ?_); rintro e w12 ⟨v359, rfl, ho0, hb⟩; refine ⟨_, rfl, ?_⟩; have HO360 := mA (Kd.R_lower (Kd.R_new' (Kd.R_new' ho0 (Kd.R_lt (zkr HO354))) (Kd.R_lt (zkr HO357))) (below_size uQ)); replace HO354 := mA (Kd.R_elder' (zkr HO354) (Kd.R_base ho0) hb); replace HO357 := mA (Kd.R_elder' (zkr HO357) (Kd.R_base ho0) hb); replace HB := mA (below_step uQ hb); clear hb ho0; obtain ⟨Ao14, co14, eo14⟩ := Kd.R_slice HO360.out; subst eo14) | ((with_reducible refine gate_builtin (b := .append) (xs := #[.tmp 8, .tmp 10]) rfl ?_); at_builtin; refine Kd.R_append_rows (Kd.int .u8) (w0 := w) w.heap.size rfl (.tmp 8) (.tmp 10) 39 5 (.int .u8 0) 1 rfl Tryz.underlying39 info5 rfl uJ uY v356 y355 t358 _ _ _ (fun k_ => some k_ ≠ (.slice Ao11 t352.length co11 : Value).ownBlock ∧ some k_ ≠ (.slice Ao14 t358.length co14 : Value).ownBlock) (fun _ => False) rfl rfl ?aO ?aR (fun _ _ h => h) (fun _ h => h.elim) ?aF ?aB ?aS ?aL ?_; (case aR => repeat (first | exact (Kd.R_reads' HO360.out).2.2 | (with_reducible refine Kd.C_alloc ?_ _) | (with_reducible refine Kd.C_drewN ?_ _) | (with_reducible refine Kd.C_drew ?_))); (case aB => exact uQ); (case aF => exact (fun k_ hk => ⟨Kd.fresh' (Kd.R_lt (zkr HO354)) k_ hk, Kd.fresh' (Kd.R_lt (zkr HO360)) k_ hk⟩)); (case aO => exact (zkr HO357)); (case aS => exact (below_size uQ)); (case aL => have := LMc6.out; omega); intro v362 w13 ho hb hg hat; rw [← Ny361.out] at ho; replace HO354 := mA (Kd.R_after (ok := (fun k_ => some k_ ≠ (.slice Ao14 t358.length co14 : Value).ownBlock)) (by (with_reducible repeat (first | apply Kd.R_alloc | apply Kd.R_drewN | apply Kd.R_drew)); exact Kd.R_mono HO354.out (fun _ hk => ⟨hk.2, hk.1.2⟩)) hg hat); replace HO360 := mA (Kd.R_after (ok := (fun k_ => some k_ ≠ (.slice Ao11 t352.length co11 : Value).ownBlock)) (by (with_reducible repeat (first | apply Kd.R_alloc | apply Kd.R_drewN | apply Kd.R_drew)); exact Kd.R_mono HO360.out (fun _ hk => ⟨hk.1.2, hk.2⟩)) hg hat); replace HB := mA (hb); have HO363 := mA (ho); clear HO357 ho hb hg hat))
  go_ret
  exact ⟨_, yO, by (with_reducible repeat (first | apply Kd.R_alloc | apply Kd.R_drewN | apply Kd.R_drew)); exact Kd.R_mono HO363.out (fun _ hk => trivial), yI⟩
 ·exact zJ
def rr5_Put.f (a0 : Int) (a1 : Int) : Option (Int) := some (Go.bits .or .u32 (((Go.bits .and .u32 (a0 / 256) 4095) * 1048576) % 4294967296) ((a1) % 4294967296))
theorem rr5_Put.calls (a0 : Int) (a1 : Int) (r : Int) (w : World) (h : rr5_Put.f a0 a1 = some r) :
 Calls Tryz.prog 38 #[.int .u32 a0, .int .i64 a1] w fun e w' => e = .returned (.int .u32 r) ∧ Drawn0 w w' := by
 have H := h
 unfold rr5_Put.f at H
 clear h
 obtain rfl := Option.some.inj H
 go_enter Tryz.func38, Tryz.ntmps38
 go_wp2
 go_ret
 exact jO
def rr3_out.f (a0 : Int) (a1 : Int) : Option (Bool) := if a0 < 0 then (some true) else (some (decide (a0 > a1)))
theorem rr3_out.calls (a0 : Int) (a1 : Int) (r : Bool) (w : World) (h : rr3_out.f a0 a1 = some r) :
 Calls Tryz.prog 77 #[.int .i64 a0, .int .i64 a1] w fun e w' => e = .returned (.bool r) ∧ Drawn0 w w' := by
 have H := h
 unfold rr3_out.f at H
 clear h
 by_cases c3 : a0 < 0
 ·rw [if_pos c3] at H
  have c3b0 := decide_eq_true c3
  clear c3
  obtain rfl := Option.some.inj H
  go_enter Tryz.func77, Tryz.ntmps77
  go_wp2
  go_ret
  exact jO
 ·rw [if_neg c3] at H
  have c3b0 := decide_eq_false c3
  clear c3
  obtain rfl := Option.some.inj H
  go_enter Tryz.func77, Tryz.ntmps77
  go_wp2
  go_ret
  exact jO
def rr3_put.l0 : Nat → List Int → Int → Int → Int → Option (List Int)
 | 0, _, _, _, _ => none
 | k + 1, x0, x1, x3, x8 => if x8 ≥ 0 then (if 0 ≤ (wrap64 (x1 + x8)) then (if (wrap64 (x1 + x8)) < (x0.length : Int) then (rr3_put.l0 k (x0.set ((wrap64 (x1 + x8)) : Int).toNat ((x3) % 256)) x1 (x3 / 256) (wrap64 (x8 - 1))) else (none)) else (none)) else (some x0)
def rr3_put.f (k : Nat) (l0 : List Int) (a1 : Int) (a2 : Int) (a3 : Int) : Option (List Int) := rr3_put.l0 k l0 a1 a3 (wrap64 (a2 - 1))
theorem rr3_put.calls (k : Nat) (P0_ : Nat → Prop) (u9000_ : Value) (l0 : List Int) (a1 : Int) (a2 : Int) (a3 : Int) (r : List Int) (w0 w : World) (hB : Below w0.heap.size w0 w) (ho0 : Kd.R (Kd.int .u8) 5 w w0.heap.size P0_ u9000_ l0) (h : rr3_put.f k l0 a1 a2 a3 = some r) :
 Calls Tryz.prog 78 #[u9000_, .int .i64 a1, .int .i64 a2, .int .i64 a3] w fun e w' => e = .returned (.tuple #[]) ∧ Kd.R (Kd.int .u8) 5 w' w0.heap.size (fun k_ => (P0_ k_ ∨ w.heap.size ≤ k_)) u9000_ r ∧ Below w0.heap.size w0 w' ∧ Kept w w' (fun k_ => P0_ k_) := by
 have HO0 := mA (show Kd.R (Kd.int .u8) 5 w w0.heap.size (fun k_ => (P0_ k_ ∨ w.heap.size ≤ k_)) u9000_ l0 from Kd.R_mono ho0 (fun k_ hk => (.inl hk)))
 have HK := mA (Kept.refl w (fun k_ => P0_ k_))
 have HW0 := mA hB.size
 have HB := mA hB
 clear hB
 have H := h
 unfold rr3_put.f at H
 clear h
 have H' := mA H
 clear H
 go_enter Tryz.func78, Tryz.ntmps78
 go_wp2
 go_loopg [3, 8] k (fun kq v3 v8 w' => ∃ (x0_1 : List Int) (x3_1 : Int) (x8_1 : Int), v3 = .int .i64 x3_1 ∧ v8 = .int .i64 x8_1 ∧ Aside0 (rr3_put.l0 kq x0_1 a1 x3_1 x8_1 = some r) ∧ Aside0 (kq ≤ k) ∧ Aside0 (Kd.R (Kd.int .u8) 5 w' w0.heap.size (fun k_ => (P0_ k_ ∨ w.heap.size ≤ k_)) u9000_ x0_1) ∧ Aside0 (Kept w w' (fun k_ => P0_ k_)) ∧ Aside0 (Below w0.heap.size w0 w'))
 case atStart => exact ⟨(l0), (a3), (wrap64 (a2 - 1)), uN, uN, H', ⟨Nat.le_refl _⟩, ⟨qH⟩, ⟨qX⟩, ⟨yI⟩⟩
 case round =>
  clear H'
  obtain ⟨x0_1, x3_1, x8_1, rfl, rfl, HA, HK1, HO_0, HK, HB⟩ := hrel
  cases gk with
  | zero => exact absurd HA.out (by simp [rr3_put.l0])
  | succ k1 =>
   have H := HA.out
   clear HA
   simp only [rr3_put.l0] at H
   by_cases c5 : x8_1 ≥ 0
   ·rw [if_pos c5] at H
    have c5b0 : decide (0 ≤ x8_1) = true := decide_eq_true c5
    clear c5
    obtain ⟨ji6, hji6⟩ : ∃ j_ : Int, (wrap64 (a1 + x8_1)) = j_ := ⟨_, rfl⟩
    replace H : (if 0 ≤ (ji6) then (if (ji6) < (x0_1.length : Int) then (rr3_put.l0 k1 (x0_1.set ((ji6) : Int).toNat ((x3_1) % 256)) a1 (x3_1 / 256) (wrap64 (x8_1 - 1))) else (none)) else (none)) = some r := by first | (rw [hji6] at H; exact H) | (simp only [hji6] at H ⊢; exact H)
    have hji6w : (IntKind.i64.wrap (a1 + x8_1)) = ji6 := (i64_w _).trans hji6
    obtain ⟨c7, H⟩ := zif H
    have c7b0 := decide_eq_true c7
    clear c7
    obtain ⟨c8, H⟩ := zif H
    have c8b0 := decide_eq_true c8
    clear c8
    obtain ⟨y364, hy364⟩ : ∃ y_ : List Int, y_ = (x0_1.set ((ji6) : Int).toNat ((x3_1) % 256)) := ⟨_, rfl⟩
    replace H : (rr3_put.l0 k1 y364 a1 (x3_1 / 256) (wrap64 (x8_1 - 1))) = some r := zyy hy364 H
    have Ny364 := mA hy364
    clear hy364
    have H' := mA H
    clear H
    have p9 : 0 ≤ ((ji6) : Int) := of_decide_eq_true uV
    have q9 : ((ji6) : Int) < ((x0_1.length : Int) : Int) := of_decide_eq_true uV
    obtain ⟨go9, co9, eo9, gb9, gl9, cl9, HG9⟩ := Kd.R_form HO_0.out uY
    (first | cases eo9 | (injection eo9 with ea_ en_ ec_; (first | subst ea_ | (injection ea_ with ea_; subst ea_)); subst ec_; clear en_))
    have GB9 := mA gb9
    have GG9 := mA HG9
    clear gb9 gl9 HG9
    have HMgo9 := mA (show (P0_ go9 ∨ w.heap.size ≤ go9) from (HO_0.out.1 _ rfl))
    obtain ⟨hx9_0, hf9_0⟩ := Kd.R_celln 0 HO_0.out ((ji6) : Int) p9 q9
    replace p9 := eq_true p9
    replace q9 := eq_true q9
    have HP10 := Kd.R_putg HO_0.out ((ji6) : Int) ((x3_1) % 256)
    go_wp2_with (first | ((with_reducible refine zst 5 21 ?_); refine store_event (t := 5) (p := 21) (v := ?vo_w11) (w1 := (wr.setCell ⟨go9, ((ji6) : Int).toNat, none⟩ (.int .u8 ((x3_1) % 256)))) ?hg ?ho ?hn ?hr ?_; (case ho => rfl); (case hg => rfl); (case hn => rfl); (case hr => first | (go_simp; done) | (go_simp; rfl)); intro w11 hw; have hg : wr.grownBy w11 (some go9) := (by rw [hw]; exact HP10.2); have hp_ : Kd.R (Kd.int .u8) 5 w11 w0.heap.size (fun k_ => (P0_ k_ ∨ w.heap.size ≤ k_)) (.slice (some ⟨go9, 0, none⟩) x0_1.length co9) y364 := (by rw [hw, Ny364.out]; exact HP10.1); clear HP10; replace HB := mA ((by rw [hw]; exact below_set (HB.out) GB9.out : Below w0.heap.size w0 w11)); replace HK := mA (Kept.of_grown (S := (fun k_ => P0_ k_)) hg xT (fun k_ e_ => (HO_0.out.1 k_ e_))); replace HO_0 := mA (hp_); clear hg hw hp_))
    go_roundg k1
    case measure => have := HK1.out; omega
    case rel => exact ⟨(y364), (x3_1 / 256), (wrap64 (x8_1 - 1)), uN, uN, H', ⟨kH⟩, ⟨kG⟩, ⟨qX⟩, ⟨yI⟩⟩
   ·exact zY
def rr1_Plus.f (a0 : Int) (a1 : Int) : Option (Int) := if (wrap64 (a0 + a1)) > 65535 then (some (wrap64 ((wrap64 (a0 + a1)) - 65535))) else (some (wrap64 (a0 + a1)))
theorem rr1_Plus.calls (a0 : Int) (a1 : Int) (r : Int) (w : World) (h : rr1_Plus.f a0 a1 = some r) :
 Calls Tryz.prog 111 #[.int .i64 a0, .int .i64 a1] w fun e w' => e = .returned (.int .i64 r) ∧ Drawn0 w w' := by
 have H := h
 unfold rr1_Plus.f at H
 clear h
 by_cases c3 : (wrap64 (a0 + a1)) > 65535
 ·rw [if_pos c3] at H
  have c3b0 : decide (65535 < (wrap64 (a0 + a1))) = true := decide_eq_true c3
  clear c3
  obtain rfl := Option.some.inj H
  go_enter Tryz.func111, Tryz.ntmps111
  go_wp2
  go_ret
  exact jO
 ·rw [if_neg c3] at H
  have c3b0 : decide (65535 < (wrap64 (a0 + a1))) = false := decide_eq_false c3
  clear c3
  obtain rfl := Option.some.inj H
  go_enter Tryz.func111, Tryz.ntmps111
  go_wp2
  go_ret
  exact jO
def rr1_Add.l0 : Nat → List Int → Int → Int → Option (Int)
 | 0, _, _, _ => none
 | k + 1, x0, x3, x4 => if x4 < (x0.length : Int) then (if 0 ≤ x4 then (if (wrap64 (x4 + 1)) < (x0.length : Int) then (if 0 ≤ (wrap64 (x4 + 1)) then ((rr1_Plus.f x3 (wrap64 ((wrap64 ((wrap64 (rd x0 x4)) * 256)) + (wrap64 (rd x0 (wrap64 (x4 + 1))))))).bind fun t367 => (rr1_Add.l0 k x0 t367 (wrap64 (x4 + 2)))) else (none)) else ((rr1_Plus.f x3 (wrap64 ((wrap64 (rd x0 x4)) * 256))).bind fun t368 => (rr1_Add.l0 k x0 t368 (wrap64 (x4 + 2))))) else (none)) else (some x3)
def rr1_Add.f (k : Nat) (l0 : List Int) : Option (Int) := rr1_Add.l0 k l0 0 0
theorem rr1_Add.calls (k : Nat) (A0 : Option Addr) (c0 : Nat) (l0 : List Int) (r : Int) (w : World) (hr0 : Kd.C (Kd.int .u8) w A0 l0.length l0) (hc0 : l0.length ≤ c0) (h : rr1_Add.f k l0 = some r) :
 Calls Tryz.prog 109 #[.slice A0 l0.length c0] w fun e w' => e = .returned (.int .i64 r) ∧ Drawn0 w w' := by
 have HR0 := mA hr0
 have HC0 := mA hc0
 clear hr0 hc0
 have H := h
 unfold rr1_Add.f at H
 clear h
 have H' := mA H
 clear H
 go_enter Tryz.func109, Tryz.ntmps109
 go_wp2
 go_loopg [3, 4] k (fun kq v3 v4 w' => ∃ (x3_1 : Int) (x4_1 : Int), v3 = .int .i64 x3_1 ∧ v4 = .int .i64 x4_1 ∧ Aside0 (rr1_Add.l0 kq l0 x3_1 x4_1 = some r) ∧ Aside0 (kq ≤ k) ∧ Drawn0 w w')
 case atStart => exact ⟨(0), (0), uN, uN, H', ⟨Nat.le_refl _⟩, qK⟩
 case round =>
  clear H'
  obtain ⟨x3_1, x4_1, rfl, rfl, HA, HK1, ⟨m1, rfl⟩⟩ := hrel
  cases gk with
  | zero => exact absurd HA.out (by simp [rr1_Add.l0])
  | succ k1 =>
   have H := HA.out
   clear HA
   simp only [rr1_Add.l0] at H
   by_cases c2 : x4_1 < (l0.length : Int)
   ·rw [if_pos c2] at H
    have c2b0 := decide_eq_true c2
    clear c2
    obtain ⟨c3, H⟩ := zif H
    have c3b0 := decide_eq_true c3
    clear c3
    by_cases c4 : (wrap64 (x4_1 + 1)) < (l0.length : Int)
    ·rw [if_pos c4] at H
     have c4b0 := decide_eq_true c4
     clear c4
     obtain ⟨ji5, hji5⟩ : ∃ j_ : Int, (wrap64 (x4_1 + 1)) = j_ := ⟨_, rfl⟩
     replace H : (if 0 ≤ (ji5) then ((rr1_Plus.f x3_1 (wrap64 ((wrap64 ((wrap64 (rd l0 x4_1)) * 256)) + (wrap64 (rd l0 (ji5)))))).bind fun t367 => (rr1_Add.l0 k1 l0 t367 (wrap64 (x4_1 + 2)))) else (none)) = some r := by first | (rw [hji5] at H; exact H) | (simp only [hji5] at H ⊢; exact H)
     (try rw [hji5] at c4b0)
     have hji5w : (IntKind.i64.wrap (x4_1 + 1)) = ji5 := (i64_w _).trans hji5
     obtain ⟨c6, H⟩ := zif H
     have c6b0 := decide_eq_true c6
     clear c6
     replace H := Option.bind_eq_some_iff.mp H
     obtain ⟨t367, A70, H⟩ := H
     have A7 := mA A70
     clear A70
     have H' := mA H
     clear H
     have p365 : 0 ≤ (x4_1 : Int) := of_decide_eq_true uV
     have q365 : x4_1 < (l0.length : Int) := of_decide_eq_true uV
     obtain ⟨ad365, e365, hx365_0⟩ := Kd.at_int HR0.out x4_1 p365 q365
     cases e365
     replace p365 := eq_true p365
     replace q365 := eq_true q365
     have p366 : 0 ≤ ((ji5) : Int) := of_decide_eq_true uV
     have q366 : (ji5) < (l0.length : Int) := of_decide_eq_true uV
     obtain ⟨ad366, e366, hx366_0⟩ := Kd.at_int HR0.out (ji5) p366 q366
     obtain rfl : ad365 = ad366 := (by injection e366)
     replace p366 := eq_true p366
     replace q366 := eq_true q366
     go_wp2_with (first | ((with_reducible refine gate_callee (f := 111) rfl ?_); refine goesL_ (some 33) rfl rfl Tryz.func111 uW rfl #[.int .i64 x3_1, .int .i64 (wrap64 ((wrap64 ((wrap64 (rd l0 x4_1)) * 256)) + (wrap64 (rd l0 (ji5)))))] rfl (by (try simp only [List.map_toArray, List.map_cons, List.map_nil]); first | done | (simp only [hji5]; rfl) | rfl | (simp only [List.length_drop, List.length_take]; rfl)) ?_; (with_reducible refine (rr1_Plus.calls x3_1 (wrap64 ((wrap64 ((wrap64 (rd l0 x4_1)) * 256)) + (wrap64 (rd l0 (ji5))))) t367 _ A7.out).mono ?_); rintro e w' ⟨rfl, ⟨nd, rfl⟩⟩; refine ⟨_, rfl, ?_⟩))
     go_roundg k1
     case measure => have := HK1.out; omega
     case rel => exact ⟨(t367), (wrap64 (x4_1 + 2)), uN, uN, H', ⟨kH⟩, qK⟩
    ·rw [if_neg c4] at H
     have c4b0 := decide_eq_false c4
     clear c4
     replace H := Option.bind_eq_some_iff.mp H
     obtain ⟨t368, A80, H⟩ := H
     have A8 := mA A80
     clear A80
     have H' := mA H
     clear H
     have p365 : 0 ≤ (x4_1 : Int) := of_decide_eq_true uV
     have q365 : x4_1 < (l0.length : Int) := of_decide_eq_true uV
     obtain ⟨ad365, e365, hx365_0⟩ := Kd.at_int HR0.out x4_1 p365 q365
     cases e365
     replace p365 := eq_true p365
     replace q365 := eq_true q365
     go_wp2_with (first | ((with_reducible refine zd 33 ?_); refine zL 33 Tryz.func111 #[.int .i64 x3_1, .int .i64 (wrap64 ((wrap64 (rd l0 x4_1)) * 256))] ?_; (with_reducible refine (rr1_Plus.calls x3_1 (wrap64 ((wrap64 (rd l0 x4_1)) * 256)) t368 _ A8.out).mono ?_); rintro e w' ⟨rfl, ⟨nd, rfl⟩⟩; refine ⟨_, rfl, ?_⟩))
     go_roundg k1
     case measure => have := HK1.out; omega
     case rel => exact ⟨(t368), (wrap64 (x4_1 + 2)), uN, uN, H', ⟨kH⟩, qK⟩
   ·rw [if_neg c2] at H
    have c2b0 := decide_eq_false c2
    clear c2
    obtain rfl := Option.some.inj H
    go_wp2
    go_ret
    exact jO
def rr1_Of.f (k : Nat) (l0 : List Int) : Option (Int) := (rr1_Add.f k l0).bind fun t369 => (some (wrap64 (65535 - t369)))
theorem rr1_Of.calls (k : Nat) (A0 : Option Addr) (c0 : Nat) (l0 : List Int) (r : Int) (w : World) (hr0 : Kd.C (Kd.int .u8) w A0 l0.length l0) (hc0 : l0.length ≤ c0) (h : rr1_Of.f k l0 = some r) :
 Calls Tryz.prog 79 #[.slice A0 l0.length c0] w fun e w' => e = .returned (.int .i64 r) ∧ Drawn0 w w' := by
 have HR0 := mA hr0
 have HC0 := mA hc0
 clear hr0 hc0
 have H := h
 unfold rr1_Of.f at H
 clear h
 replace H := Option.bind_eq_some_iff.mp H
 obtain ⟨t369, A20, H⟩ := H
 have A2 := mA A20
 clear A20
 obtain rfl := Option.some.inj H
 go_enter Tryz.func79, Tryz.ntmps79
 go_wp2_with (first | ((with_reducible refine zd 4 ?_); refine zL 4 Tryz.func109 #[.slice A0 l0.length c0] ?_; (with_reducible refine (rr1_Add.calls k _ _ l0 t369 _ ?side1 ?side2 A2.out).mono ?_); (case side1 => repeat (first | exact HR0.out | (with_reducible refine Kd.C_alloc ?_ _) | (with_reducible refine Kd.C_drewN ?_ _) | (with_reducible refine Kd.C_drew ?_))); (case side2 => exact HC0.out); rintro e w' ⟨rfl, ⟨nd, rfl⟩⟩; refine ⟨_, rfl, ?_⟩))
 go_ret
 exact jO
def rr3_summed.f (l0 : List Int) : Option (List Int) := if 0 < (l0.length : Int) then ((some (([0, rd l0 0, ((wrap64 ((l0.length : Int) - 16)) / 256) % 256, (wrap64 ((l0.length : Int) - 16)) % 256] : List Int) : List Int)).bind fun y371 => (if (rd l0 0) = 3 then (if 16 ≤ (l0.length : Int) then (if y371.length + (l0.drop 16).length < 140737488355328 then (some (y371 ++ (l0.drop 16))) else (none)) else (none)) else ((some (([] : List Int) : List Int)).bind fun y379 => (if 4 ≤ 12 then (if 12 ≤ (l0.length : Int) then (if y379.length + ((l0.take 12).drop 4).length < 140737488355328 then ((some (y379 ++ ((l0.take 12).drop 4) : List Int)).bind fun y383 => (if y383.length + y371.length < 140737488355328 then ((some (y383 ++ y371 : List Int)).bind fun y386 => (if 16 ≤ (l0.length : Int) then (if y386.length + (l0.drop 16).length < 140737488355328 then (some (y386 ++ (l0.drop 16))) else (none)) else (none))) else (none))) else (none)) else (none)) else (none))))) else (none)
theorem rr3_summed.calls (A0 : Option Addr) (c0 : Nat) (l0 : List Int) (r : List Int) (w : World) (hr0 : Kd.C (Kd.int .u8) w A0 l0.length l0) (hc0 : l0.length ≤ c0) (h : rr3_summed.f l0 = some r) :
 Calls Tryz.prog 80 #[.slice A0 l0.length c0] w fun e w' => ∃ v0_ : Value, e = .returned (v0_) ∧ Kd.R (Kd.int .u8) 5 w' w.heap.size (fun _ => True) v0_ r ∧ Below w.heap.size w w' := by
 have HR0 := mA hr0
 have HC0 := mA hc0
 clear hr0 hc0
 have HB := mA (Below.refl w.heap.size w)
 have H := h
 unfold rr3_summed.f at H
 clear h
 by_cases c2 : 0 < (l0.length : Int)
 ·rw [if_pos c2] at H
  have c2b0 := decide_eq_true c2
  have c2b1 : decide (0 < l0.length) = true := decide_eq_true uY
  clear c2
  obtain ⟨y371, hy371⟩ : ∃ y_ : List Int, y_ = (([0, rd l0 0, ((wrap64 ((l0.length : Int) - 16)) / 256) % 256, (wrap64 ((l0.length : Int) - 16)) % 256] : List Int)) := ⟨_, rfl⟩
  replace H : (if (rd l0 0) = 3 then (if 16 ≤ (l0.length : Int) then (if y371.length + (l0.drop 16).length < 140737488355328 then (some (y371 ++ (l0.drop 16))) else (none)) else (none)) else ((some (([] : List Int) : List Int)).bind fun y379 => (if 4 ≤ 12 then (if 12 ≤ (l0.length : Int) then (if y379.length + ((l0.take 12).drop 4).length < 140737488355328 then ((some (y379 ++ ((l0.take 12).drop 4) : List Int)).bind fun y383 => (if y383.length + y371.length < 140737488355328 then ((some (y383 ++ y371 : List Int)).bind fun y386 => (if 16 ≤ (l0.length : Int) then (if y386.length + (l0.drop 16).length < 140737488355328 then (some (y386 ++ (l0.drop 16))) else (none)) else (none))) else (none))) else (none)) else (none)) else (none)))) = some r := zyy hy371 H
  have Ny371 := mA hy371
  clear hy371
  by_cases c3 : (rd l0 0) = 3
  ·rw [if_pos c3] at H
   have c3b0 : ((rd l0 0) == 3) = true := beq_iff_eq.mpr c3
   have c3b1 : ((rd l0 0) != 3) = false := bne_eq_false_iff_eq.mpr c3
   clear c3
   obtain ⟨c4, H⟩ := zif H
   have c4b0 := eq_true c4
   have c4b1 := decide_eq_true c4
   clear c4
   obtain ⟨c5, H⟩ := zif H
   have LMc5 := mA c5
   clear c5
   obtain ⟨y376, hy376⟩ : ∃ y_ : List Int, y_ = (y371 ++ (l0.drop 16)) := ⟨_, rfl⟩
   replace H : (some y376) = some r := zyy hy376 H
   have Ny376 := mA hy376
   clear hy376
   obtain rfl := Option.some.inj H
   have p370 : 0 ≤ (0 : Int) := uY
   have q370 : 0 < (l0.length : Int) := of_decide_eq_true uV
   obtain ⟨ad370, e370, hx370_0⟩ := Kd.at_int HR0.out 0 p370 q370
   cases e370
   have qi370 : (0 < l0.length) = True := eq_true uY
   (try rw [show ((0 : Int)).toNat = 0 from rfl] at hx370_0)
   (try rw [Addr.add_zero'] at hx370_0)
   replace p370 := eq_true p370
   replace q370 := eq_true q370
   go_enter Tryz.func80, Tryz.ntmps80
   go_wp2_with (first | ((with_reducible refine zd 16 ?_); refine zl .u8 5 16 [0, rd l0 0, ((wrap64 ((l0.length : Int) - 16)) / 256) % 256, (wrap64 ((l0.length : Int) - 16)) % 256] ?_; intro v372 w6 ho7 hb hg_ hnew_; clear hg_ hnew_; (first | rw [← Ny371.out] at ho7 | (simp only [Int.reduceToNat] at ho7; rw [← Ny371.out] at ho7)); have HO373 := mA (Kd.R_lower ho7 (below_size uQ)); replace HB := mA (below_step uQ hb); clear hb ho7; have p374 : 0 ≤ (0 : Int) := uY; have q374 : 0 < (l0.length : Int) := of_decide_eq_true uV; obtain ⟨ad374, e374, hx374_0⟩ := Kd.at_int HR0.out 0 p374 q374; obtain rfl : ad370 = ad374 := (by injection e374); have qi374 : (0 < l0.length) = True := eq_true uY; (try rw [show ((0 : Int)).toNat = 0 from rfl] at hx374_0); (try rw [Addr.add_zero'] at hx374_0); replace hx374_0 := (HB.out.cell (World.block_lt_of_cell? w _ hx374_0)).trans hx374_0; replace p374 := eq_true p374; replace q374 := eq_true q374; obtain ⟨i08, hi08, _, hsz8, _⟩ := info_parts info5; obtain ⟨A8, hcut8, hA8, hC8⟩ := print_drop_of (P := Tryz.prog) (Value.int .u8) 0 39 5 .i64 Tryz.underlying39 hi08 hsz8 (some ad370) c0 l0 16 uY (of_decide_eq_true uV) HC0.out; have HR375 := mA (Kd.C_of_reads (h1 := fun _ => rfl) (hA8 _ (Kd.reads_of_C HR0.out))); have HC375 := mA hC8; clear hA8 hC8 hi08 hsz8) | ((with_reducible refine gate_builtin (b := .append) (xs := #[.tmp 27, .tmp 29]) rfl ?_); at_builtin; refine Kd.R_append_rows (Kd.int .u8) (w0 := w) w.heap.size rfl (.tmp 27) (.tmp 29) 39 5 (.int .u8 0) 1 rfl Tryz.underlying39 info5 rfl uJ uY v372 y371 (l0.drop 16) _ _ _ (fun _ => True) (fun _ => False) rfl rfl ?aO ?aR (fun _ _ h => h) (fun _ h => h.elim) ?aF ?aB ?aS ?aL ?_; (case aR => first | (rw [← show (l0.drop 16).length = (l0.length - 16) from List.length_drop]; repeat (first | exact (Kd.C_below HR375.out HB.out) | (with_reducible refine Kd.C_alloc ?_ _) | (with_reducible refine Kd.C_drewN ?_ _) | (with_reducible refine Kd.C_drew ?_))) | (repeat (first | exact (Kd.C_below HR375.out HB.out) | (with_reducible refine Kd.C_alloc ?_ _) | (with_reducible refine Kd.C_drewN ?_ _) | (with_reducible refine Kd.C_drew ?_)))); (case aB => exact uQ); (case aF => exact (fun _ _ => trivial)); (case aO => exact (zkr HO373)); (case aS => exact (below_size uQ)); (case aL => have := LMc5.out; have hlx_ := (show (l0.drop 16).length = (l0.length - 16) from List.length_drop); omega); intro v377 w9 ho hb hg hat; rw [← Ny376.out] at ho; replace HB := mA (hb); have HO378 := mA (ho); clear HO373 ho hb hg hat))
   go_ret
   exact ⟨_, yO, by (with_reducible repeat (first | apply Kd.R_alloc | apply Kd.R_drewN | apply Kd.R_drew)); exact HO378.out, yI⟩
  ·rw [if_neg c3] at H
   have c3b0 : ((rd l0 0) == 3) = false := beq_eq_false_iff_ne.mpr c3
   have c3b1 : ((rd l0 0) != 3) = true := bne_iff_ne.mpr c3
   obtain ⟨y379, hy379⟩ : ∃ y_ : List Int, y_ = (([] : List Int)) := ⟨_, rfl⟩
   replace H : (if 4 ≤ 12 then (if 12 ≤ (l0.length : Int) then (if y379.length + ((l0.take 12).drop 4).length < 140737488355328 then ((some (y379 ++ ((l0.take 12).drop 4) : List Int)).bind fun y383 => (if y383.length + y371.length < 140737488355328 then ((some (y383 ++ y371 : List Int)).bind fun y386 => (if 16 ≤ (l0.length : Int) then (if y386.length + (l0.drop 16).length < 140737488355328 then (some (y386 ++ (l0.drop 16))) else (none)) else (none))) else (none))) else (none)) else (none)) else (none)) = some r := zyy hy379 H
   have Ny379 := mA hy379
   clear hy379
   obtain ⟨c10, H⟩ := zif H
   have c10b0 := eq_true c10
   have c10b1 := decide_eq_true c10
   clear c10
   obtain ⟨c11, H⟩ := zif H
   have c11b0 := eq_true c11
   have c11b1 := decide_eq_true c11
   clear c11
   obtain ⟨c12, H⟩ := zif H
   have LMc12 := mA c12
   clear c12
   obtain ⟨y383, hy383⟩ : ∃ y_ : List Int, y_ = (y379 ++ ((l0.take 12).drop 4)) := ⟨_, rfl⟩
   replace H : (if y383.length + y371.length < 140737488355328 then ((some (y383 ++ y371 : List Int)).bind fun y386 => (if 16 ≤ (l0.length : Int) then (if y386.length + (l0.drop 16).length < 140737488355328 then (some (y386 ++ (l0.drop 16))) else (none)) else (none))) else (none)) = some r := zyy hy383 H
   have Ny383 := mA hy383
   clear hy383
   obtain ⟨c13, H⟩ := zif H
   have LMc13 := mA c13
   clear c13
   obtain ⟨y386, hy386⟩ : ∃ y_ : List Int, y_ = (y383 ++ y371) := ⟨_, rfl⟩
   replace H : (if 16 ≤ (l0.length : Int) then (if y386.length + (l0.drop 16).length < 140737488355328 then (some (y386 ++ (l0.drop 16))) else (none)) else (none)) = some r := zyy hy386 H
   have Ny386 := mA hy386
   clear hy386
   obtain ⟨c14, H⟩ := zif H
   have c14b0 := eq_true c14
   have c14b1 := decide_eq_true c14
   clear c14
   obtain ⟨c15, H⟩ := zif H
   have LMc15 := mA c15
   clear c15
   obtain ⟨y390, hy390⟩ : ∃ y_ : List Int, y_ = (y386 ++ (l0.drop 16)) := ⟨_, rfl⟩
   replace H : (some y390) = some r := zyy hy390 H
   have Ny390 := mA hy390
   clear hy390
   obtain rfl := Option.some.inj H
   have p370 : 0 ≤ (0 : Int) := uY
   have q370 : 0 < (l0.length : Int) := of_decide_eq_true uV
   obtain ⟨ad370, e370, hx370_0⟩ := Kd.at_int HR0.out 0 p370 q370
   cases e370
   have qi370 : (0 < l0.length) = True := eq_true uY
   (try rw [show ((0 : Int)).toNat = 0 from rfl] at hx370_0)
   (try rw [Addr.add_zero'] at hx370_0)
   replace p370 := eq_true p370
   replace q370 := eq_true q370
   go_enter Tryz.func80, Tryz.ntmps80
   go_wp2_with (first | ((with_reducible refine zd 16 ?_); refine zl .u8 5 16 [0, rd l0 0, ((wrap64 ((l0.length : Int) - 16)) / 256) % 256, (wrap64 ((l0.length : Int) - 16)) % 256] ?_; intro v372 w16 ho17 hb hg_ hnew_; clear hg_ hnew_; (first | rw [← Ny371.out] at ho17 | (simp only [Int.reduceToNat] at ho17; rw [← Ny371.out] at ho17)); have HO373 := mA (Kd.R_lower ho17 (below_size uQ)); replace HB := mA (below_step uQ hb); clear hb ho17; have p374 : 0 ≤ (0 : Int) := uY; have q374 : 0 < (l0.length : Int) := of_decide_eq_true uV; obtain ⟨ad374, e374, hx374_0⟩ := Kd.at_int HR0.out 0 p374 q374; obtain rfl : ad370 = ad374 := (by injection e374); have qi374 : (0 < l0.length) = True := eq_true uY; (try rw [show ((0 : Int)).toNat = 0 from rfl] at hx374_0); (try rw [Addr.add_zero'] at hx374_0); replace hx374_0 := (HB.out.cell (World.block_lt_of_cell? w _ hx374_0)).trans hx374_0; replace p374 := eq_true p374; replace q374 := eq_true q374) | ((with_reducible refine zd 21 ?_); refine zl .u8 5 21 [] ?_; intro v380 w18 ho19 hb hg_ hnew_; clear hg_ hnew_; (first | rw [← Ny379.out] at ho19 | (simp only [Int.reduceToNat] at ho19; rw [← Ny379.out] at ho19)); have HO381 := mA (Kd.R_lower (Kd.R_new' ho19 (Kd.R_lt (zkr HO373))) (below_size uQ)); replace HO373 := mA (Kd.R_elder' (zkr HO373) (Kd.R_base ho19) hb); replace HB := mA (below_step uQ hb); clear hb ho19; obtain ⟨i020, hi020, _, hsz20, _⟩ := info_parts info5; obtain ⟨A20, hcut20, hA20, hC20⟩ := print_mid_of (P := Tryz.prog) (Value.int .u8) 0 39 5 .i64 .i64 Tryz.underlying39 hi020 hsz20 (some ad370) c0 l0 4 12 uY xS (of_decide_eq_true uV) HC0.out; have hlk_ : ((l0.take (12 : Int).toNat).drop (4 : Int).toNat).length = 8 := xI; simp only [hlk_] at hcut20; have HR382 := mA (Kd.C_of_reads (h1 := fun _ => rfl) (hA20 _ (Kd.reads_of_C HR0.out))); have HC382 := mA hC20; clear hA20 hC20 hi020 hsz20) | ((with_reducible refine gate_builtin (b := .append) (xs := #[.tmp 21, .tmp 23]) rfl ?_); at_builtin; refine Kd.R_append_rows (Kd.int .u8) (w0 := w) w.heap.size rfl (.tmp 21) (.tmp 23) 39 5 (.int .u8 0) 1 rfl Tryz.underlying39 info5 rfl uJ uY v380 y379 ((l0.take 12).drop 4) _ _ _ (fun k_ => some k_ ≠ (v372 : Value).ownBlock) (fun _ => False) rfl rfl ?aO ?aR (fun _ _ h => h) (fun _ h => h.elim) ?aF ?aB ?aS ?aL ?_; (case aR => first | (rw [← hlk_]; exact Kd.C_below HR382.out HB.out) | (rw [← show ((l0.take 12).drop 4).length = (12 - 4) from xK]; repeat (first | exact (Kd.C_below HR382.out HB.out) | (with_reducible refine Kd.C_alloc ?_ _) | (with_reducible refine Kd.C_drewN ?_ _) | (with_reducible refine Kd.C_drew ?_))) | (repeat (first | exact (Kd.C_below HR382.out HB.out) | (with_reducible refine Kd.C_alloc ?_ _) | (with_reducible refine Kd.C_drewN ?_ _) | (with_reducible refine Kd.C_drew ?_)))); (case aB => exact uQ); (case aF => exact (fun k_ hk => Kd.fresh' (Kd.R_lt (zkr HO373)) k_ hk)); (case aO => exact (by (with_reducible repeat (first | apply Kd.R_alloc | apply Kd.R_drewN | apply Kd.R_drew)); exact Kd.R_mono HO381.out (fun _ hk => hk.2))); (case aS => exact (below_size uQ)); (case aL => have := LMc12.out; have hlx_ := (show ((l0.take 12).drop 4).length = (12 - 4) from xK); omega); intro v384 w21 ho hb hg hat; rw [← Ny383.out] at ho; replace HO373 := mA (Kd.R_after (ok := (fun _ => True)) (zkr HO373) hg hat); replace HB := mA (hb); have HO385 := mA (ho); clear HO381 ho hb hg hat; obtain ⟨Ao23, co23, eo23⟩ := Kd.R_slice HO373.out; subst eo23) | ((with_reducible refine gate_builtin (b := .append) (xs := #[.tmp 24, .tmp 25]) rfl ?_); at_builtin; refine Kd.R_append_rows (Kd.int .u8) (w0 := w) w.heap.size rfl (.tmp 24) (.tmp 25) 39 5 (.int .u8 0) 1 rfl Tryz.underlying39 info5 rfl uJ uY v384 y383 y371 _ _ _ (fun k_ => some k_ ≠ (.slice Ao23 y371.length co23 : Value).ownBlock) (fun _ => False) rfl rfl ?aO ?aR (fun _ _ h => h) (fun _ h => h.elim) ?aF ?aB ?aS ?aL ?_; (case aR => repeat (first | exact (Kd.R_reads' HO373.out).2.2 | (with_reducible refine Kd.C_alloc ?_ _) | (with_reducible refine Kd.C_drewN ?_ _) | (with_reducible refine Kd.C_drew ?_))); (case aB => exact uQ); (case aF => exact (fun k_ hk => Kd.fresh' (Kd.R_lt (zkr HO373)) k_ hk)); (case aO => exact (zkr HO385)); (case aS => exact (below_size uQ)); (case aL => have := LMc13.out; omega); intro v387 w22 ho hb hg hat; rw [← Ny386.out] at ho; replace HO373 := mA (Kd.R_after (ok := (fun _ => True)) (zkr HO373) hg hat); replace HB := mA (hb); have HO388 := mA (ho); clear HO385 ho hb hg hat; obtain ⟨i024, hi024, _, hsz24, _⟩ := info_parts info5; obtain ⟨A24, hcut24, hA24, hC24⟩ := print_drop_of (P := Tryz.prog) (Value.int .u8) 0 39 5 .i64 Tryz.underlying39 hi024 hsz24 (some ad370) c0 l0 16 uY (of_decide_eq_true uV) HC0.out; have HR389 := mA (Kd.C_of_reads (h1 := fun _ => rfl) (hA24 _ (Kd.reads_of_C HR0.out))); have HC389 := mA hC24; clear hA24 hC24 hi024 hsz24) | ((with_reducible refine gate_builtin (b := .append) (xs := #[.tmp 27, .tmp 29]) rfl ?_); at_builtin; refine Kd.R_append_rows (Kd.int .u8) (w0 := w) w.heap.size rfl (.tmp 27) (.tmp 29) 39 5 (.int .u8 0) 1 rfl Tryz.underlying39 info5 rfl uJ uY v387 y386 (l0.drop 16) _ _ _ (fun k_ => some k_ ≠ (.slice Ao23 y371.length co23 : Value).ownBlock) (fun _ => False) rfl rfl ?aO ?aR (fun _ _ h => h) (fun _ h => h.elim) ?aF ?aB ?aS ?aL ?_; (case aR => first | (rw [← show (l0.drop 16).length = (l0.length - 16) from List.length_drop]; repeat (first | exact (Kd.C_below HR389.out HB.out) | (with_reducible refine Kd.C_alloc ?_ _) | (with_reducible refine Kd.C_drewN ?_ _) | (with_reducible refine Kd.C_drew ?_))) | (repeat (first | exact (Kd.C_below HR389.out HB.out) | (with_reducible refine Kd.C_alloc ?_ _) | (with_reducible refine Kd.C_drewN ?_ _) | (with_reducible refine Kd.C_drew ?_)))); (case aB => exact uQ); (case aF => exact (fun k_ hk => Kd.fresh' (Kd.R_lt (zkr HO373)) k_ hk)); (case aO => exact (zkr HO388)); (case aS => exact (below_size uQ)); (case aL => have := LMc15.out; have hlx_ := (show (l0.drop 16).length = (l0.length - 16) from List.length_drop); omega); intro v391 w25 ho hb hg hat; rw [← Ny390.out] at ho; replace HO373 := mA (Kd.R_after (ok := (fun _ => True)) (zkr HO373) hg hat); replace HB := mA (hb); have HO392 := mA (ho); clear HO388 ho hb hg hat))
   go_ret
   exact ⟨_, yO, by (with_reducible repeat (first | apply Kd.R_alloc | apply Kd.R_drewN | apply Kd.R_drew)); exact Kd.R_mono HO392.out (fun _ hk => trivial), yI⟩
 ·exact zV
def rr3_place.f (a0 : Int) : Option (Int) := if a0 = 3 then (some 18) else (some 22)
theorem rr3_place.calls (a0 : Int) (r : Int) (w : World) (h : rr3_place.f a0 = some r) :
 Calls Tryz.prog 81 #[.int .i64 a0] w fun e w' => e = .returned (.int .i64 r) ∧ Drawn0 w w' := by
 have H := h
 unfold rr3_place.f at H
 clear h
 by_cases c2 : a0 = 3
 ·rw [if_pos c2] at H
  have c2b0 : (a0 == 3) = true := beq_iff_eq.mpr c2
  have c2b1 : (a0 != 3) = false := bne_eq_false_iff_eq.mpr c2
  clear c2
  obtain rfl := Option.some.inj H
  go_enter Tryz.func81, Tryz.ntmps81
  go_wp2
  go_ret
  exact jO
 ·rw [if_neg c2] at H
  have c2b0 : (a0 == 3) = false := beq_eq_false_iff_ne.mpr c2
  have c2b1 : (a0 != 3) = true := bne_iff_ne.mpr c2
  obtain rfl := Option.some.inj H
  go_enter Tryz.func81, Tryz.ntmps81
  go_wp2
  go_ret
  exact jO
def rr3_Num.l0 : Nat → List Int → Int → Int → Int → Int → Option (Int)
 | 0, _, _, _, _, _ => none
 | k + 1, x0, x1, x2, x7, x8 => if x8 < x2 then (if 0 ≤ (wrap64 (x1 + x8)) then (if (wrap64 (x1 + x8)) < (x0.length : Int) then (rr3_Num.l0 k x0 x1 x2 (Go.bits .or .i64 (wrap64 (x7 * 256)) (wrap64 (rd x0 (wrap64 (x1 + x8))))) (wrap64 (x8 + 1))) else (none)) else (none)) else (some x7)
def rr3_Num.f (k : Nat) (l0 : List Int) (a1 : Int) (a2 : Int) : Option (Int) := rr3_Num.l0 k l0 a1 a2 0 0
theorem rr3_Num.calls (k : Nat) (A0 : Option Addr) (c0 : Nat) (l0 : List Int) (a1 : Int) (a2 : Int) (r : Int) (w : World) (hr0 : Kd.C (Kd.int .u8) w A0 l0.length l0) (hc0 : l0.length ≤ c0) (h : rr3_Num.f k l0 a1 a2 = some r) :
 Calls Tryz.prog 85 #[.slice A0 l0.length c0, .int .i64 a1, .int .i64 a2] w fun e w' => e = .returned (.int .i64 r) ∧ Drawn0 w w' := by
 have HR0 := mA hr0
 have HC0 := mA hc0
 clear hr0 hc0
 have H := h
 unfold rr3_Num.f at H
 clear h
 have H' := mA H
 clear H
 go_enter Tryz.func85, Tryz.ntmps85
 go_wp2
 go_loopg [7, 8] k (fun kq v7 v8 w' => ∃ (x7_1 : Int) (x8_1 : Int), v7 = .int .i64 x7_1 ∧ v8 = .int .i64 x8_1 ∧ Aside0 (rr3_Num.l0 kq l0 a1 a2 x7_1 x8_1 = some r) ∧ Aside0 (kq ≤ k) ∧ Drawn0 w w')
 case atStart => exact ⟨(0), (0), uN, uN, H', ⟨Nat.le_refl _⟩, qK⟩
 case round =>
  clear H'
  obtain ⟨x7_1, x8_1, rfl, rfl, HA, HK1, ⟨m1, rfl⟩⟩ := hrel
  cases gk with
  | zero => exact absurd HA.out (by simp [rr3_Num.l0])
  | succ k1 =>
   have H := HA.out
   clear HA
   simp only [rr3_Num.l0] at H
   by_cases c4 : x8_1 < a2
   ·rw [if_pos c4] at H
    have c4b0 := decide_eq_true c4
    clear c4
    obtain ⟨ji5, hji5⟩ : ∃ j_ : Int, (wrap64 (a1 + x8_1)) = j_ := ⟨_, rfl⟩
    replace H : (if 0 ≤ (ji5) then (if (ji5) < (l0.length : Int) then (rr3_Num.l0 k1 l0 a1 a2 (Go.bits .or .i64 (wrap64 (x7_1 * 256)) (wrap64 (rd l0 (ji5)))) (wrap64 (x8_1 + 1))) else (none)) else (none)) = some r := by first | (rw [hji5] at H; exact H) | (simp only [hji5] at H ⊢; exact H)
    have hji5w : (IntKind.i64.wrap (a1 + x8_1)) = ji5 := (i64_w _).trans hji5
    obtain ⟨c6, H⟩ := zif H
    have c6b0 := decide_eq_true c6
    clear c6
    obtain ⟨c7, H⟩ := zif H
    have c7b0 := decide_eq_true c7
    clear c7
    have H' := mA H
    clear H
    have p393 : 0 ≤ ((ji5) : Int) := of_decide_eq_true uV
    have q393 : (ji5) < (l0.length : Int) := of_decide_eq_true uV
    obtain ⟨ad393, e393, hx393_0⟩ := Kd.at_int HR0.out (ji5) p393 q393
    cases e393
    replace p393 := eq_true p393
    replace q393 := eq_true q393
    go_wp2
    go_roundg k1
    case measure => have := HK1.out; omega
    case rel => exact ⟨(Go.bits .or .i64 (wrap64 (x7_1 * 256)) (wrap64 (rd l0 (ji5)))), (wrap64 (x8_1 + 1)), (by first | rfl | (simp; done) | (simp only [← hji5] <;> (first | rfl | simp)) | (simp [*]; done)), uN, H', ⟨kH⟩, qK⟩
   ·rw [if_neg c4] at H
    have c4b0 := decide_eq_false c4
    clear c4
    obtain rfl := Option.some.inj H
    go_wp2
    go_ret
    exact jO
def rr1_Right.f (k : Nat) (l0 : List Int) : Option (Bool) := (rr1_Add.f k l0).bind fun t394 => (some (t394 == 65535))
theorem rr1_Right.calls (k : Nat) (A0 : Option Addr) (c0 : Nat) (l0 : List Int) (r : Bool) (w : World) (hr0 : Kd.C (Kd.int .u8) w A0 l0.length l0) (hc0 : l0.length ≤ c0) (h : rr1_Right.f k l0 = some r) :
 Calls Tryz.prog 110 #[.slice A0 l0.length c0] w fun e w' => e = .returned (.bool r) ∧ Drawn0 w w' := by
 have HR0 := mA hr0
 have HC0 := mA hc0
 clear hr0 hc0
 have H := h
 unfold rr1_Right.f at H
 clear h
 replace H := Option.bind_eq_some_iff.mp H
 obtain ⟨t394, A20, H⟩ := H
 have A2 := mA A20
 clear A20
 obtain rfl := Option.some.inj H
 go_enter Tryz.func110, Tryz.ntmps110
 go_wp2_with (first | ((with_reducible refine zd 4 ?_); refine zL 4 Tryz.func109 #[.slice A0 l0.length c0] ?_; (with_reducible refine (rr1_Add.calls k _ _ l0 t394 _ ?side1 ?side2 A2.out).mono ?_); (case side1 => repeat (first | exact HR0.out | (with_reducible refine Kd.C_alloc ?_ _) | (with_reducible refine Kd.C_drewN ?_ _) | (with_reducible refine Kd.C_drew ?_))); (case side2 => exact HC0.out); rintro e w' ⟨rfl, ⟨nd, rfl⟩⟩; refine ⟨_, rfl, ?_⟩))
 go_ret
 exact jO
def rr3_bare.f (k : Nat) (l0 : List Int) : Option (Bool) := if 0 < (l0.length : Int) then (if (rd l0 0) = 2 then ((rr3_Num.f k l0 22 2).bind fun t447 => (some (t447 == 0))) else (some false)) else (none)
theorem rr3_bare.calls (k : Nat) (A0 : Option Addr) (c0 : Nat) (l0 : List Int) (r : Bool) (w : World) (hr0 : Kd.C (Kd.int .u8) w A0 l0.length l0) (hc0 : l0.length ≤ c0) (h : rr3_bare.f k l0 = some r) :
 Calls Tryz.prog 83 #[.slice A0 l0.length c0] w fun e w' => e = .returned (.bool r) ∧ Drawn0 w w' := by
 have HR0 := mA hr0
 have HC0 := mA hc0
 clear hr0 hc0
 have H := h
 unfold rr3_bare.f at H
 clear h
 by_cases c2 : 0 < (l0.length : Int)
 ·rw [if_pos c2] at H
  have c2b0 := decide_eq_true c2
  have c2b1 : decide (0 < l0.length) = true := decide_eq_true uY
  clear c2
  by_cases c3 : (rd l0 0) = 2
  ·rw [if_pos c3] at H
   have c3b0 : ((rd l0 0) == 2) = true := beq_iff_eq.mpr c3
   have c3b1 : ((rd l0 0) != 2) = false := bne_eq_false_iff_eq.mpr c3
   clear c3
   replace H := Option.bind_eq_some_iff.mp H
   obtain ⟨t447, A40, H⟩ := H
   have A4 := mA A40
   clear A40
   obtain rfl := Option.some.inj H
   have p446 : 0 ≤ (0 : Int) := uY
   have q446 : 0 < (l0.length : Int) := of_decide_eq_true uV
   obtain ⟨ad446, e446, hx446_0⟩ := Kd.at_int HR0.out 0 p446 q446
   cases e446
   have qi446 : (0 < l0.length) = True := eq_true uY
   (try rw [show ((0 : Int)).toNat = 0 from rfl] at hx446_0)
   (try rw [Addr.add_zero'] at hx446_0)
   replace p446 := eq_true p446
   replace q446 := eq_true q446
   go_enter Tryz.func83, Tryz.ntmps83
   go_wp2_with (first | (go_at_call 85; (with_reducible refine (rr3_Num.calls k _ _ l0 22 2 t447 _ ?side1 ?side2 A4.out).mono ?_); (case side1 => repeat (first | exact HR0.out | (with_reducible refine Kd.C_alloc ?_ _) | (with_reducible refine Kd.C_drewN ?_ _) | (with_reducible refine Kd.C_drew ?_))); (case side2 => exact HC0.out); rintro e w' ⟨rfl, ⟨nd, rfl⟩⟩))
   go_ret
   exact jO
  ·rw [if_neg c3] at H
   have c3b0 : ((rd l0 0) == 2) = false := beq_eq_false_iff_ne.mpr c3
   have c3b1 : ((rd l0 0) != 2) = true := bne_iff_ne.mpr c3
   obtain rfl := Option.some.inj H
   have p446 : 0 ≤ (0 : Int) := uY
   have q446 : 0 < (l0.length : Int) := of_decide_eq_true uV
   obtain ⟨ad446, e446, hx446_0⟩ := Kd.at_int HR0.out 0 p446 q446
   cases e446
   have qi446 : (0 < l0.length) = True := eq_true uY
   (try rw [show ((0 : Int)).toNat = 0 from rfl] at hx446_0)
   (try rw [Addr.add_zero'] at hx446_0)
   replace p446 := eq_true p446
   replace q446 := eq_true q446
   go_enter Tryz.func83, Tryz.ntmps83
   go_wp2
   go_ret
   exact jO
 ·exact zV
def rr1_Turn.f (a0 : Int) (a1 : Int) (a2 : Int) : Option (Int) := (rr1_Plus.f (wrap64 (65535 - a0)) (wrap64 (65535 - a1))).bind fun t448 => ((rr1_Plus.f t448 a2).bind fun t449 => (some (wrap64 (65535 - t449))))
theorem rr1_Turn.calls (a0 : Int) (a1 : Int) (a2 : Int) (r : Int) (w : World) (h : rr1_Turn.f a0 a1 a2 = some r) :
 Calls Tryz.prog 84 #[.int .i64 a0, .int .i64 a1, .int .i64 a2] w fun e w' => e = .returned (.int .i64 r) ∧ Drawn0 w w' := by
 have H := h
 unfold rr1_Turn.f at H
 clear h
 replace H := Option.bind_eq_some_iff.mp H
 obtain ⟨t448, A40, H⟩ := H
 have A4 := mA A40
 clear A40
 replace H := Option.bind_eq_some_iff.mp H
 obtain ⟨t449, A50, H⟩ := H
 have A5 := mA A50
 clear A50
 obtain rfl := Option.some.inj H
 go_enter Tryz.func84, Tryz.ntmps84
 go_wp2_with (first | ((with_reducible refine zd 11 ?_); refine zL 11 Tryz.func111 #[.int .i64 (wrap64 (65535 - a0)), .int .i64 (wrap64 (65535 - a1))] ?_; (with_reducible refine (rr1_Plus.calls (wrap64 (65535 - a0)) (wrap64 (65535 - a1)) t448 _ A4.out).mono ?_); rintro e w' ⟨rfl, ⟨nd, rfl⟩⟩; refine ⟨_, rfl, ?_⟩) | ((with_reducible refine zd 13 ?_); refine zL 13 Tryz.func111 #[.int .i64 t448, .int .i64 a2] ?_; (with_reducible refine (rr1_Plus.calls t448 a2 t449 _ A5.out).mono ?_); rintro e w' ⟨rfl, ⟨nd, rfl⟩⟩; refine ⟨_, rfl, ?_⟩))
 go_ret
 exact jO
def rr3_end.f (k : Nat) (l0 : List Int) (a1 : Bool) : Option (List Int) := if 0 < (l0.length : Int) then (if (rd l0 0) = 2 then (if a1 = true then (some l0) else ((rr3_Num.f k l0 22 2).bind fun t451 => (if t451 = 0 then ((rr3_put.f k l0 22 2 65535).bind fun t452 => (some t452)) else (some l0)))) else (some l0)) else (none)
theorem rr3_end.calls (k : Nat) (P0_ : Nat → Prop) (u9000_ : Value) (l0 : List Int) (a1 : Bool) (r : List Int) (w0 w : World) (hB : Below w0.heap.size w0 w) (ho0 : Kd.R (Kd.int .u8) 5 w w0.heap.size P0_ u9000_ l0) (h : rr3_end.f k l0 a1 = some r) :
 Calls Tryz.prog 86 #[u9000_, .bool a1] w fun e w' => e = .returned (.tuple #[]) ∧ Kd.R (Kd.int .u8) 5 w' w0.heap.size (fun k_ => (P0_ k_ ∨ w.heap.size ≤ k_)) u9000_ r ∧ Below w0.heap.size w0 w' ∧ Kept w w' (fun k_ => P0_ k_) := by
 have HO0 := mA (show Kd.R (Kd.int .u8) 5 w w0.heap.size (fun k_ => (P0_ k_ ∨ w.heap.size ≤ k_)) u9000_ l0 from Kd.R_mono ho0 (fun k_ hk => (.inl hk)))
 have HK := mA (Kept.refl w (fun k_ => P0_ k_))
 have HW0 := mA hB.size
 have HB := mA hB
 clear hB
 have H := h
 unfold rr3_end.f at H
 clear h
 by_cases c3 : 0 < (l0.length : Int)
 ·rw [if_pos c3] at H
  have c3b0 := decide_eq_true c3
  have c3b1 : decide (0 < l0.length) = true := decide_eq_true uY
  clear c3
  by_cases c4 : (rd l0 0) = 2
  ·rw [if_pos c4] at H
   have c4b0 : ((rd l0 0) == 2) = true := beq_iff_eq.mpr c4
   have c4b1 : ((rd l0 0) != 2) = false := bne_eq_false_iff_eq.mpr c4
   clear c4
   by_cases c5 : a1 = true
   ·subst c5
    have H1 : (some l0) = some r := by rw [if_pos rfl] at H; exact H
    clear H
    have H := H1
    clear H1
    obtain rfl := Option.some.inj H
    obtain ⟨Ao6, co6, eo6⟩ := Kd.R_slice HO0.out
    subst eo6
    have p450 : 0 ≤ (0 : Int) := uY
    have q450 : 0 < (l0.length : Int) := of_decide_eq_true uV
    obtain ⟨ad450, e450, hx450_0⟩ := Kd.at_int (Kd.R_reads' HO0.out).2.2 0 p450 q450
    cases e450
    have qi450 : (0 < l0.length) = True := eq_true uY
    (try rw [show ((0 : Int)).toNat = 0 from rfl] at hx450_0)
    (try rw [Addr.add_zero'] at hx450_0)
    replace p450 := eq_true p450
    replace q450 := eq_true q450
    go_enter Tryz.func86, Tryz.ntmps86
    go_wp2
    first | go_end0 | ((try simp only [Exit.inBlock, Exit.then]); refine bodyPost_ret (results_none rfl _ _ _) rfl ?_)
    exact ⟨yO, qH, yI, qX⟩
   ·replace c5 := Bool.eq_false_iff.mpr c5
    subst c5
    have H1 : ((rr3_Num.f k l0 22 2).bind fun t451 => (if t451 = 0 then ((rr3_put.f k l0 22 2 65535).bind fun t452 => (some t452)) else (some l0))) = some r := by rw [if_neg (show ¬ (false = true) by decide)] at H; exact H
    clear H
    have H := H1
    clear H1
    replace H := Option.bind_eq_some_iff.mp H
    obtain ⟨t451, A70, H⟩ := H
    have A7 := mA A70
    clear A70
    by_cases c8 : t451 = 0
    ·rw [if_pos c8] at H
     have c8b0 : (t451 == 0) = true := beq_iff_eq.mpr c8
     have c8b1 : (t451 != 0) = false := bne_eq_false_iff_eq.mpr c8
     clear c8
     replace H := Option.bind_eq_some_iff.mp H
     obtain ⟨t452, A90, H⟩ := H
     have A9 := mA A90
     clear A90
     obtain rfl := Option.some.inj H
     obtain ⟨Ao10, co10, eo10⟩ := Kd.R_slice HO0.out
     subst eo10
     have p450 : 0 ≤ (0 : Int) := uY
     have q450 : 0 < (l0.length : Int) := of_decide_eq_true uV
     obtain ⟨ad450, e450, hx450_0⟩ := Kd.at_int (Kd.R_reads' HO0.out).2.2 0 p450 q450
     cases e450
     have qi450 : (0 < l0.length) = True := eq_true uY
     (try rw [show ((0 : Int)).toNat = 0 from rfl] at hx450_0)
     (try rw [Addr.add_zero'] at hx450_0)
     replace p450 := eq_true p450
     replace q450 := eq_true q450
     go_enter Tryz.func86, Tryz.ntmps86
     go_wp2_with (first | (go_at_call 85; (with_reducible refine (rr3_Num.calls k _ _ l0 22 2 t451 _ ?side1 ?side2 A7.out).mono ?_); (case side1 => repeat (first | exact (Kd.R_reads' HO0.out).2.2 | (with_reducible refine Kd.C_alloc ?_ _) | (with_reducible refine Kd.C_drewN ?_ _) | (with_reducible refine Kd.C_drew ?_))); (case side2 => exact (Kd.R_reads' HO0.out).2.1); rintro e w' ⟨rfl, ⟨nd, rfl⟩⟩) | ((with_reducible refine zd 18 ?_); refine zL 18 Tryz.func78 #[.slice (some ad450) l0.length co10, .int .i64 22, .int .i64 2, .int .i64 65535] ?_; (with_reducible refine (rr3_put.calls k (fun k_ => some k_ = (.slice (some ad450) l0.length co10 : Value).ownBlock) (.slice (some ad450) l0.length co10) l0 22 2 65535 t452 w0 _ ?side1 ?side2 A9.out).mono ?_); (case side1 => repeat (first | (with_reducible first | exact HB.out | apply below_alloc | apply pw_below_drewN | apply below_drew1) | exact HB.out)); (case side2 => exact Kd.R_tight rfl HO0.out); rintro e w11 ⟨rfl, hy0, hb, hkp⟩; refine ⟨_, rfl, ?_⟩; replace HK := mA (Kept.then_ (S := (fun k_ => P0_ k_)) xT hkp (fun k_ hs_ => (fun e_ => (HO0.out.1 k_ e_.symm)) hs_)); replace HO0 := mA (Kd.R_reok rfl hy0 (fun k_ e_ => HO0.out.1 k_ e_)); replace HB := mA (hb); clear hb hkp hy0))
     first | go_end0 | ((try simp only [Exit.inBlock, Exit.then]); refine bodyPost_ret (results_none rfl _ _ _) rfl ?_)
     exact ⟨yO, qH, yI, qX⟩
    ·rw [if_neg c8] at H
     have c8b0 : (t451 == 0) = false := beq_eq_false_iff_ne.mpr c8
     have c8b1 : (t451 != 0) = true := bne_iff_ne.mpr c8
     obtain rfl := Option.some.inj H
     obtain ⟨Ao12, co12, eo12⟩ := Kd.R_slice HO0.out
     subst eo12
     have p450 : 0 ≤ (0 : Int) := uY
     have q450 : 0 < (l0.length : Int) := of_decide_eq_true uV
     obtain ⟨ad450, e450, hx450_0⟩ := Kd.at_int (Kd.R_reads' HO0.out).2.2 0 p450 q450
     cases e450
     have qi450 : (0 < l0.length) = True := eq_true uY
     (try rw [show ((0 : Int)).toNat = 0 from rfl] at hx450_0)
     (try rw [Addr.add_zero'] at hx450_0)
     replace p450 := eq_true p450
     replace q450 := eq_true q450
     go_enter Tryz.func86, Tryz.ntmps86
     go_wp2_with (first | (go_at_call 85; (with_reducible refine (rr3_Num.calls k _ _ l0 22 2 t451 _ ?side1 ?side2 A7.out).mono ?_); (case side1 => repeat (first | exact (Kd.R_reads' HO0.out).2.2 | (with_reducible refine Kd.C_alloc ?_ _) | (with_reducible refine Kd.C_drewN ?_ _) | (with_reducible refine Kd.C_drew ?_))); (case side2 => exact (Kd.R_reads' HO0.out).2.1); rintro e w' ⟨rfl, ⟨nd, rfl⟩⟩))
     first | go_end0 | ((try simp only [Exit.inBlock, Exit.then]); refine bodyPost_ret (results_none rfl _ _ _) rfl ?_)
     exact ⟨yO, qH, yI, qX⟩
  ·rw [if_neg c4] at H
   have c4b0 : ((rd l0 0) == 2) = false := beq_eq_false_iff_ne.mpr c4
   have c4b1 : ((rd l0 0) != 2) = true := bne_iff_ne.mpr c4
   obtain rfl := Option.some.inj H
   obtain ⟨Ao13, co13, eo13⟩ := Kd.R_slice HO0.out
   subst eo13
   have p450 : 0 ≤ (0 : Int) := uY
   have q450 : 0 < (l0.length : Int) := of_decide_eq_true uV
   obtain ⟨ad450, e450, hx450_0⟩ := Kd.at_int (Kd.R_reads' HO0.out).2.2 0 p450 q450
   cases e450
   have qi450 : (0 < l0.length) = True := eq_true uY
   (try rw [show ((0 : Int)).toNat = 0 from rfl] at hx450_0)
   (try rw [Addr.add_zero'] at hx450_0)
   replace p450 := eq_true p450
   replace q450 := eq_true q450
   go_enter Tryz.func86, Tryz.ntmps86
   go_wp2
   first | go_end0 | ((try simp only [Exit.inBlock, Exit.then]); refine bodyPost_ret (results_none rfl _ _ _) rfl ?_)
   exact ⟨yO, qH, yI, qX⟩
 ·rw [if_neg c3] at H
  exact absurd H xU
def rl3_within.f (a0 : Int) (a1 : Int) : Option (Int) := if a1 = 0 then (none) else (if (Int.tmod a0 a1) < 0 then (some (wrap64 ((Int.tmod a0 a1) + a1))) else (some (Int.tmod a0 a1)))
theorem rl3_within.calls (a0 : Int) (a1 : Int) (r : Int) (w : World) (h : rl3_within.f a0 a1 = some r) :
 Calls Tryz.prog 87 #[.int .i64 a0, .int .i64 a1] w fun e w' => e = .returned (.int .i64 r) ∧ Drawn0 w w' := by
 have H := h
 unfold rl3_within.f at H
 clear h
 obtain ⟨c3, H⟩ := zin H
 have c3b0 : (a1 == 0) = false := beq_eq_false_iff_ne.mpr c3
 have c3b1 : (a1 != 0) = true := bne_iff_ne.mpr c3
 by_cases c4 : (Int.tmod a0 a1) < 0
 ·rw [if_pos c4] at H
  have c4b0 := decide_eq_true c4
  clear c4
  obtain rfl := Option.some.inj H
  go_enter Tryz.func87, Tryz.ntmps87
  go_wp2
  go_ret
  exact jO
 ·rw [if_neg c4] at H
  have c4b0 := decide_eq_false c4
  clear c4
  obtain rfl := Option.some.inj H
  go_enter Tryz.func87, Tryz.ntmps87
  go_wp2
  go_ret
  exact jO
end
end Go.Proofs.YtkpfojpmigchlaaGreat.Q
namespace Go.Proofs.YtkpfojpmigchlaaGreat.Own
open Go Go.RowKit Go.Proofs.YtkpfojpmigchlaaGreatW.PrintWords Go.Proofs.YtkpfojpmigchlaaGreatW.PrintMore Go.Proofs.YtkpfojpmigchlaaGreatW.PrintLast Go.Proofs.YtkpfojpmigchlaaGreat.Q
open Go.Proofs.YtkpfojpmigchlaaGreat.Zip
def BY (l : List Int) : Prop := ∀ x ∈ l, 0 ≤ x ∧ x ≤ 255
theorem rd_by {l : List Int} (h : BY l) (i : Int) : 0 ≤ rd l i ∧ rd l i ≤ 255 := by
 unfold rd
 rw [List.getD_eq_getElem?_getD]
 rcases Nat.lt_or_ge i.toNat l.length with hi | hi
 ·rw [List.getElem?_eq_getElem hi]
  exact h _ (List.getElem_mem hi)
 ·rw [List.getElem?_eq_none hi]
  decide
theorem BY.set {l : List Int} (h : BY l) (i : Nat) {x : Int} (h0 : 0 ≤ x) (h1 : x ≤ 255) : BY (l.set i x) := fun y hy => by
 rcases List.mem_or_eq_of_mem_set hy with hy | rfl
 ·exact h y hy
 ·exact ⟨h0, h1⟩
theorem BY.take {l : List Int} (h : BY l) (n : Nat) : BY (l.take n) := fun x hx => h x (List.mem_of_mem_take hx)
theorem BY.drop {l : List Int} (h : BY l) (n : Nat) : BY (l.drop n) := fun x hx => h x (List.mem_of_mem_drop hx)
theorem BY.nil : BY [] := fun x hx => by cases hx
theorem rd_set_ne {l : List Int} {i : Int} {j : Nat} {x : Int} (h : i.toNat ≠ j) : rd (l.set j x) i = rd l i := by
 unfold rd
 rw [List.getD_eq_getElem?_getD, List.getD_eq_getElem?_getD, List.getElem?_set_ne (Ne.symm h)]
theorem w64 {x : Int} (h0 : -9223372036854775808 ≤ x) (h1 : x ≤ 9223372036854775807) : wrap64 x = x := by unfold wrap64; omega
theorem get_l0_some : ∀ (k : Nat) (x : Int) (s : List Int) (i : Nat), s.length - i < k → i ≤ s.length → s.length ≤ 1000 → ∃ r, wire_get.l0 k x s (s.length : Int) (i : Int) = some r
 | 0, _, _, _, h, _, _ => by omega
 | k + 1, x, s, i, h, hi, hl => by
  by_cases hlt : i < s.length
  ·have e : wrap64 ((i : Int) + 1) = ((i + 1 : Nat) : Int) := by rw [w64 uY uY]; omega
   rw [wire_get.l0, if_pos uY, if_pos uY, if_pos uY, e]
   exact get_l0_some k _ s (i + 1) uY uY hl
  ·rw [wire_get.l0, if_neg uY]
   exact ⟨_, rfl⟩
theorem get_ex {l : List Int} {a n : Int} {k : Nat} (hk : 5 < k) (h0 : 0 ≤ a) (hn : 0 ≤ n) (hn4 : n ≤ 4) (hl : a + n ≤ l.length) (hm : a ≤ 1000000) : ∃ r, wire_get.f k l a n = some r := by
 have e : wrap64 (a + n) = a + n := w64 uY uY
 unfold wire_get.f
 rw [e, if_pos h0, if_pos uY, if_pos hl]
 have hs : ((l.take (a + n).toNat).drop a.toNat).length = n.toNat := by rw [List.length_drop, List.length_take]; omega
 exact get_l0_some k 0 _ 0 uY uY uY
def gt (l : List Int) (a n : Int) : Int := (wire_get.f 10 l a n).getD 0
theorem get_some {l : List Int} {a n : Int} (h0 : 0 ≤ a) (hn : 0 ≤ n) (hn4 : n ≤ 4) (hl : a + n ≤ l.length) (hm : a ≤ 1000000) : wire_get.f 10 l a n = some (gt l a n) := by
 obtain ⟨r, hr⟩ := get_ex (k := 10) uY h0 hn hn4 hl hm
 rw [gt, hr]
 rfl
theorem put_l0_some : ∀ (k : Nat) (l : List Int) (a v : Int) (i : Int), i + 1 < k → -1 ≤ i → 0 ≤ a → a + i < l.length → a ≤ 1000000 → i ≤ 100 →
 ∃ r, wire_put.l0 k l a v i = some r ∧ r.length = l.length ∧ (∀ j : Int, 0 ≤ j → (j < a ∨ a + i < j) → rd r j = rd l j) ∧ (BY l → BY r)
 | 0, _, _, _, _, h, _, _, _, _, _ => by omega
 | k + 1, l, a, v, i, h, hi, ha, hl, hm, h8 => by
  by_cases h0 : 0 ≤ i
  ·have e : wrap64 (a + i) = a + i := w64 uY uY
   have e1 : wrap64 (i - 1) = i - 1 := w64 uY uY
   rw [wire_put.l0, if_pos uY, e, e1, if_pos uY, if_pos uY]
   obtain ⟨r, hr, hlen, hfar, hby⟩ := put_l0_some k (l.set (a + i).toNat (v % 256)) a (v / 256) (i - 1) uY uY ha (by rw [List.length_set]; omega) hm uY
   refine ⟨r, hr, by rw [hlen, List.length_set], fun j hj0 hj => ?_, fun hb => hby (hb.set _ uY uY)⟩
   rw [hfar j hj0 uY, rd_set_ne uY]
  ·rw [wire_put.l0, if_neg uY]
   exact ⟨l, rfl, rfl, fun _ _ _ => rfl, id⟩
def pt (l : List Int) (a n v : Int) : List Int := (wire_put.f 10 l a n v).getD l
theorem put_all {l : List Int} {a n : Int} (v : Int) (h0 : 0 ≤ a) (hn : 0 ≤ n) (hn4 : n ≤ 4) (hl : a + n ≤ l.length) (hm : a ≤ 1000000) :
 wire_put.f 10 l a n v = some (pt l a n v) ∧ (pt l a n v).length = l.length ∧ (∀ j : Int, 0 ≤ j → (j < a ∨ a + n ≤ j) → rd (pt l a n v) j = rd l j) ∧ (BY l → BY (pt l a n v)) := by
 have e : wrap64 (n - 1) = n - 1 := w64 uY uY
 obtain ⟨r, hr, h1, h2, h3⟩ := put_l0_some 10 l a v (n - 1) uY uY h0 uY hm uY
 have hr2 : wire_put.f 10 l a n v = some r := by unfold wire_put.f; rw [e]; exact hr
 have hp : pt l a n v = r := by rw [pt, hr2]; rfl
 rw [hp]
 exact ⟨hr2, h1, fun j hj0 hj => h2 j hj0 uY, h3⟩
def stn (s b a : Int) : Int := (sum_Turn.f s b a).getD 0
theorem stn_some (s b a : Int) : sum_Turn.f s b a = some (stn s b a) := by
 simp only [stn, sum_Turn.f, sum_Plus.f, Option.bind_some, Option.getD_some]
def pr (l : List Int) (i : Int) : Int := (wire_pair.f 10 l i).getD 0
theorem pr_some {l : List Int} {i : Int} (h0 : 0 ≤ i) (h1 : i < l.length) (hm : i ≤ 1000000) : wire_pair.f 10 l i = some (pr l i) := by
 have e : wrap64 (i + 1) = i + 1 := w64 uY uY
 have h : ∃ r, wire_pair.f 10 l i = some r := by
  unfold wire_pair.f
  rw [e]
  by_cases hl : i + 1 = l.length
  ·rw [if_pos hl, if_pos h0, if_pos h1]
   exact ⟨_, rfl⟩
  ·rw [if_neg hl, get_some h0 uY uY uY hm]
   exact ⟨_, rfl⟩
 obtain ⟨r, hr⟩ := h
 rw [pr, hr]
 rfl
theorem sumAdd_some (l : List Int) : ∀ (k i : Nat) (s : Int), l.length + 1 - i < 2 * k → ∃ r, sumAdd l k i s = some r
 | 0, i, s, h => by omega
 | k + 1, i, s, h => by
  unfold sumAdd
  by_cases h1 : i < l.length
  ·rw [if_pos h1]
   split
   ·exact sumAdd_some l k _ _ uY
   ·exact sumAdd_some l k _ _ uY
  ·rw [if_neg h1]
   exact ⟨_, rfl⟩
theorem add_some {l : List Int} {k : Nat} (hk : l.length + 1 < 2 * k) (hm : l.length ≤ 1048576) : ∃ r, sum_Add.f k l = some r := by
 unfold sum_Add.f
 rw [if_pos hm]
 exact sumAdd_some l k 0 0 uY
theorem right_some {l : List Int} {k : Nat} (hk : l.length + 1 < 2 * k) (hm : l.length ≤ 1048576) : ∃ r, sum_Right.f k l = some r := by
 obtain ⟨r, hr⟩ := add_some hk hm
 exact ⟨_, by rw [sum_Right.f, hr, Option.bind_some]⟩
def hd (l : List Int) : Int := (wire_head.f 60 l).getD 0
theorem head_all {l : List Int} (hb : BY l) : wire_head.f 60 l = some (hd l) ∧ (hd l = 0 → 24 ≤ l.length ∧ l.length ≤ 1500 ∧ 1 ≤ rd l 0 ∧ rd l 0 ≤ 3 ∧ (rd l 0 = 3 → 44 ≤ l.length)) := by
 have h : ∃ r, wire_head.f 60 l = some r ∧ (r = 0 → 24 ≤ l.length ∧ l.length ≤ 1500 ∧ 1 ≤ rd l 0 ∧ rd l 0 ≤ 3 ∧ (rd l 0 = 3 → 44 ≤ l.length)) := by
  have h0 := rd_by hb 0
  have e0 : wrap64 (rd l 0) = rd l 0 := w64 uY uY
  unfold wire_head.f
  rw [e0]
  by_cases h1 : (l.length : Int) < 16
  ·rw [if_pos h1]; exact ⟨1, rfl, qN⟩
  rw [if_neg h1, if_pos uY]
  by_cases hk : 1 ≤ rd l 0 ∧ rd l 0 ≤ 3
  ·have hk2 : wire_known.f (rd l 0) = some true := by unfold wire_known.f; rw [if_pos uY, decide_eq_true hk.2]
   rw [hk2, Option.bind_some, if_pos rfl]
   have hj : ∀ b : Bool, (b = false → l.length ≤ 1500) → ∃ r, wire_head.j0 60 l b = some r ∧ (r = 0 → 24 ≤ l.length ∧ l.length ≤ 1500 ∧ 1 ≤ rd l 0 ∧ rd l 0 ≤ 3 ∧ (rd l 0 = 3 → 44 ≤ l.length)) := by
    intro b hbf
    rw [wire_head.j0]
    cases b with
    | true => rw [if_pos rfl]; exact ⟨3, rfl, qN⟩
    | false =>
     have hle := hbf rfl
     rw [if_neg xU, if_pos uY]
     have ht : (l.take 16).length = 16 := by rw [List.length_take]; omega
     obtain ⟨r, hr⟩ := right_some (l := l.take 16) (k := 59) uY uY
     rw [hr, Option.bind_some]
     cases r with
     | false => rw [if_neg xU]; exact ⟨4, rfl, qN⟩
     | true =>
      rw [if_pos rfl]
      by_cases h24 : (l.length : Int) < 24
      ·rw [if_pos h24]; exact ⟨1, rfl, qN⟩
      rw [if_neg h24, if_pos uY, e0]
      by_cases h3 : rd l 0 = 3
      ·rw [if_pos h3]
       by_cases h44 : (l.length : Int) < 44
       ·rw [if_pos h44]; exact ⟨1, rfl, qN⟩
       ·rw [if_neg h44]; exact ⟨0, rfl, fun _ => ⟨qN, hle, hk.1, hk.2, fun _ => by omega⟩⟩
      ·rw [if_neg h3]; exact ⟨0, rfl, fun _ => ⟨qN, hle, hk.1, hk.2, fun h => absurd h h3⟩⟩
   obtain ⟨r, hr⟩ := get_ex (l := l) (a := 2) (n := 2) (k := 60) uY uY uY uY uY uY
   rw [hr, Option.bind_some]
   split
   ·split
    ·exact hj true xU
    ·rw [if_pos uY]
     exact hj _ (fun _ => by omega)
   ·exact hj true xU
  ·have hk2 : wire_known.f (rd l 0) = some false := by
    unfold wire_known.f
    by_cases h1 : rd l 0 ≥ 1
    ·rw [if_pos h1]
     congr 1
     exact decide_eq_false uY
    ·rw [if_neg h1]
   rw [hk2, Option.bind_some, if_neg xU]
   exact ⟨2, rfl, qN⟩
 obtain ⟨r, hr, h2⟩ := h
 have e : hd l = r := by rw [hd, hr]; rfl
 rw [e]
 exact ⟨hr, h2⟩
end Go.Proofs.YtkpfojpmigchlaaGreat.Own
namespace Go.Proofs.YtkpfojpmigchlaaGreat.Own
open Go.RowKit Go.Proofs.YtkpfojpmigchlaaGreatW.PrintWords Go.Proofs.YtkpfojpmigchlaaGreatW.PrintMore Go.Proofs.YtkpfojpmigchlaaGreatW.PrintLast Go.Proofs.YtkpfojpmigchlaaGreat.Q
open Go.Proofs.YtkpfojpmigchlaaGreat.Zip
structure S25 where
 f0 : Int
 f1 : Int
 f2 : Int
 f3 : Int
 f4 : Int
def z25 : S25 := ⟨(0 : Int), (0 : Int), (0 : Int), (0 : Int), (0 : Int)⟩
def k25 : Kd S25 := Kd.iso (Kd.pair (Kd.int .i64) (Kd.pair (Kd.int .i64) (Kd.pair (Kd.int .i64) (Kd.pair (Kd.int .i64) (Kd.int .i64))))) (fun x : S25 => (x.f0, x.f1, x.f2, x.f3, x.f4))
theorem k25_open {w : World} {x : S25} {cs : List Value} (h : k25.K w x cs) : cs = [.int .i64 x.f0, .int .i64 x.f1, .int .i64 x.f2, .int .i64 x.f3, .int .i64 x.f4] := by
 obtain ⟨_, _, rfl, rfl, ⟨_, _, rfl, rfl, ⟨_, _, rfl, rfl, ⟨_, _, rfl, rfl, rfl⟩⟩⟩⟩ := h
 exact rfl
theorem k25_mk (w : World) (x : S25)  : k25.K w x [.int .i64 x.f0, .int .i64 x.f1, .int .i64 x.f2, .int .i64 x.f3, .int .i64 x.f4] := ⟨[.int .i64 x.f0], [.int .i64 x.f1, .int .i64 x.f2, .int .i64 x.f3, .int .i64 x.f4], rfl, rfl, ⟨[.int .i64 x.f1], [.int .i64 x.f2, .int .i64 x.f3, .int .i64 x.f4], rfl, rfl, ⟨[.int .i64 x.f2], [.int .i64 x.f3, .int .i64 x.f4], rfl, rfl, ⟨[.int .i64 x.f3], [.int .i64 x.f4], rfl, rfl, rfl⟩⟩⟩⟩
def rd_T25 (xs : List S25) (i : Int) : S25 := xs.getD i.toNat z25
theorem at_T25 {w : World} {A : Option Addr} {n : Nat} {xs : List S25} (h : Kd.C k25 w A n xs) (i : Int) (h0 : 0 ≤ i) (h1 : i < n) : ∃ ad , A = some ad ∧ w.cell? (ad.add (i.toNat * 5)) = some (.int .i64 (rd_T25 xs i).f0) ∧ w.cell? ⟨(ad.add (i.toNat * 5)).block, (ad.add (i.toNat * 5)).off + 1, none⟩ = some (.int .i64 (rd_T25 xs i).f1) ∧ w.cell? ⟨(ad.add (i.toNat * 5)).block, (ad.add (i.toNat * 5)).off + 2, none⟩ = some (.int .i64 (rd_T25 xs i).f2) ∧ w.cell? ⟨(ad.add (i.toNat * 5)).block, (ad.add (i.toNat * 5)).off + 3, none⟩ = some (.int .i64 (rd_T25 xs i).f3) ∧ w.cell? ⟨(ad.add (i.toNat * 5)).block, (ad.add (i.toNat * 5)).off + 4, none⟩ = some (.int .i64 (rd_T25 xs i).f4) := by
 obtain ⟨ad, c, e, _, hK, hc0⟩ := Kd.C_get h z25 i h0 h1
 have hc : ∀ j u, c[j]? = some u → w.cell? (ad.add (i.toNat * 5 + j)) = some u := hc0
 obtain rfl := k25_open hK
 exact ⟨ad, e, hc 0 _ rfl, kU, kS, by rw [← add_field _ _ 3 uY]; exact hc 3 _ rfl, by rw [← add_field _ _ 4 uY]; exact hc 4 _ rfl⟩
def sv (s : S25) : List Value := [.int .i64 s.f0, .int .i64 s.f1, .int .i64 s.f2, .int .i64 s.f3, .int .i64 s.f4]
def IsSlots (cs : Array Value) (l : List S25) : Prop := cs.size = 330 ∧ l.length = 64 ∧ ∀ (i : Nat) (s : S25), l[i]? = some s → ∀ (j : Nat) (u : Value), (sv s)[j]? = some u → cs[3 + (i * 5 + j)]? = some u
theorem add_in (g a n : Nat) : (⟨g, a, none⟩ : Addr).add n = ⟨g, a + n, none⟩ := by
 unfold Addr.add
 split
 ·rename_i h; rw [h]; rfl
 ·rfl
theorem slots_C {w : World} {g T : Nat} {fr : Nat × Nat} {cs : Array Value} {l : List S25} (hb : w.heap[g]? = some (.cells cs T fr)) (h : IsSlots cs l) : Kd.C k25 w (some ⟨g, 3, none⟩) l.length l := by
 refine ⟨rfl, by rw [h.2.1]; decide, fun _ => ⟨_, rfl, fun j p hj => ⟨sv p, rfl, k25_mk w p, fun i u hu => ?_⟩⟩⟩
 have hc := h.2.2 j p hj i u hu
 rw [add_in]
 simp only [World.cell?, hb]
 exact hc
theorem arr_R {w : World} {g T n base : Nat} (hb : w.heap[g]? = some (.cells (Array.replicate n (.int .i64 0)) T (0, 0))) (hg : base ≤ g) (hn : n ≤ maxLen) : Kd.R (Kd.int .i64) T w base (fun _ => True) (.slice (some ⟨g, 0, none⟩) n n) (List.replicate n 0) := by
 refine Kd.R_of_own (enc := Value.int .i64) ⟨by simp [encs], .inr ⟨g, n, Array.replicate n (.int .i64 0), by simp, hg, hb, by simp, hn, by simp, by simp [encs]⟩⟩ (fun _ _ => trivial)
theorem run60 (ev : Operand → Value) (o : Oper) (w : World) (ho : o.op = .alloc 114) : (execOp ev o).run Tryz.prog w = .ok (.value (.pointer (some ⟨w.heap.size, 0, none⟩))) (w.alloc (.cells (Array.replicate 127 (.int .i64 0)) 114 (0, 0))) := by
 cases o with
 | mk dst op ty pos after guard =>
  obtain rfl : op = _ := ho
  kernel_rfl
theorem pool33 : Tryz.prog.underlying 33 = some (.struct #[{ name := "Version", type := 3, offset := 0, embedded := false, tag := "", pkgPath := "", byteOffset := 0 }, { name := "Addr", type := 3, offset := 1, embedded := false, tag := "", pkgPath := "", byteOffset := 8 }, { name := "Port", type := 3, offset := 2, embedded := false, tag := "", pkgPath := "", byteOffset := 16 }, { name := "Slots", type := 26, offset := 3, embedded := false, tag := "", pkgPath := "", byteOffset := 24 }, { name := "Ring", type := 31, offset := 323, embedded := false, tag := "", pkgPath := "", byteOffset := 2584 }]) := by kernel_rfl
theorem slots26 : Tryz.prog.underlying 26 = some (.array 64 25) := by kernel_rfl
set_option maxHeartbeats 1000000
set_option maxRecDepth 100000
def outB (x lo hi : Int) : Bool := decide (x < lo ∨ hi < x)
theorem out_calls (x lo hi : Int) (b : Bool) (hb : outB x lo hi = b) (w : World) : Calls Tryz.prog 50 #[.int .i64 x, .int .i64 lo, .int .i64 hi] w fun e w' => e = .returned (.bool b) ∧ ∃ n, w' = w.drewN n := by
 refine (rr6_out.calls x lo hi b w ?_).mono ?_
 ·unfold rr6_out.f
  subst hb
  unfold outB
  by_cases h1 : x < lo <;> by_cases h2 : hi < x <;> simp [h1, h2]
 ·rintro e w1 ⟨rfl, n, rfl⟩
  exact ⟨rfl, n, rfl⟩
def WF (k s a b c x y : Int) : Prop :=
 (k = 1 ∧ outB a 0 4294967295 = false ∧ outB b 0 65535 = false ∧ outB c 1 8 = false ∧ x = 0 ∧ y = 0) ∨ (k = 2 ∧ a = 0 ∧ b = 0 ∧ c = 0 ∧ x = 0 ∧ y = 0) ∨ (k = 3 ∧ a = 0 ∧ b = 0 ∧ c = 0 ∧ x = 0 ∧ y = 0) ∨ (k = 4 ∧ a = 0 ∧ b = 0 ∧ c = 0 ∧ x = 0 ∧ y = 0) ∨ (k = 5 ∧ a = 0 ∧ b = 0 ∧ c = 0 ∧ x = 0 ∧ y = 0) ∨ (k = 6 ∧ s = 0 ∧ a = 0 ∧ b = 0 ∧ c = 0)
theorem check1f (s a b c : Int) (ha : outB a 0 4294967295 = false) (hb : outB b 0 65535 = false) (hc : outB c 1 8 = false) (hs : outB s 0 63 = false) (w : World) : Calls Tryz.prog 52 #[.agg #[.int .i64 1, .int .i64 s, .int .i64 a, .int .i64 b, .int .i64 c, .int .u64 0, .int .u64 0]] w fun e w' => e = .returned (.int .i64 0) ∧ Below w.heap.size w w' := by
 have hu49 := Tryz.underlying61
 have hu29 := Tryz.underlying29
 have HA := mA ha
 have HBB := mA hb
 have HC := mA hc
 have HS := mA hs
 clear ha hb hc hs
 go_enter Tryz.func52, Tryz.ntmps52
 go_wp2_with (first | (go_at_call 50; refine Calls.mono uO ?_; rintro e_ w_ ⟨rfl, n_, rfl⟩))
 repeat (go_quiet (first | (go_at_call 50; refine Calls.mono uO ?_; rintro e_ w_ ⟨rfl, n_, rfl⟩)); (try go_wp2_with (first | (go_at_call 50; refine Calls.mono uO ?_; rintro e_ w_ ⟨rfl, n_, rfl⟩))))
 go_ret
 exact yZ
theorem check1t (s a b c : Int) (ha : outB a 0 4294967295 = false) (hb : outB b 0 65535 = false) (hc : outB c 1 8 = false) (hs : outB s 0 63 = true) (w : World) : Calls Tryz.prog 52 #[.agg #[.int .i64 1, .int .i64 s, .int .i64 a, .int .i64 b, .int .i64 c, .int .u64 0, .int .u64 0]] w fun e w' => e = .returned (.int .i64 11) ∧ Below w.heap.size w w' := by
 have hu49 := Tryz.underlying61
 have hu29 := Tryz.underlying29
 have HA := mA ha
 have HBB := mA hb
 have HC := mA hc
 have HS := mA hs
 clear ha hb hc hs
 go_enter Tryz.func52, Tryz.ntmps52
 go_wp2_with (first | (go_at_call 50; refine Calls.mono xZ ?_; rintro e_ w_ ⟨rfl, n_, rfl⟩))
 repeat (go_quiet (first | (go_at_call 50; refine Calls.mono xZ ?_; rintro e_ w_ ⟨rfl, n_, rfl⟩)); (try go_wp2_with (first | (go_at_call 50; refine Calls.mono xZ ?_; rintro e_ w_ ⟨rfl, n_, rfl⟩))))
 go_ret
 exact yZ
theorem check2f (s : Int) (hs : outB s 0 63 = false) (w : World) : Calls Tryz.prog 52 #[.agg #[.int .i64 2, .int .i64 s, .int .i64 0, .int .i64 0, .int .i64 0, .int .u64 0, .int .u64 0]] w fun e w' => e = .returned (.int .i64 0) ∧ Below w.heap.size w w' := by
 have hu49 := Tryz.underlying61
 have hu29 := Tryz.underlying29
 have HS := mA hs
 clear hs
 go_enter Tryz.func52, Tryz.ntmps52
 go_wp2_with (first | (go_at_call 50; refine Calls.mono uP ?_; rintro e_ w_ ⟨rfl, n_, rfl⟩))
 repeat (go_quiet (first | (go_at_call 50; refine Calls.mono uP ?_; rintro e_ w_ ⟨rfl, n_, rfl⟩)); (try go_wp2_with (first | (go_at_call 50; refine Calls.mono uP ?_; rintro e_ w_ ⟨rfl, n_, rfl⟩))))
 go_ret
 exact yZ
theorem check2t (s : Int) (hs : outB s 0 63 = true) (w : World) : Calls Tryz.prog 52 #[.agg #[.int .i64 2, .int .i64 s, .int .i64 0, .int .i64 0, .int .i64 0, .int .u64 0, .int .u64 0]] w fun e w' => e = .returned (.int .i64 11) ∧ Below w.heap.size w w' := by
 have hu49 := Tryz.underlying61
 have hu29 := Tryz.underlying29
 have HS := mA hs
 clear hs
 go_enter Tryz.func52, Tryz.ntmps52
 go_wp2_with (first | (go_at_call 50; refine Calls.mono uR ?_; rintro e_ w_ ⟨rfl, n_, rfl⟩))
 repeat (go_quiet (first | (go_at_call 50; refine Calls.mono uR ?_; rintro e_ w_ ⟨rfl, n_, rfl⟩)); (try go_wp2_with (first | (go_at_call 50; refine Calls.mono uR ?_; rintro e_ w_ ⟨rfl, n_, rfl⟩))))
 go_ret
 exact yZ
theorem check3f (s : Int) (hs : outB s 0 63 = false) (w : World) : Calls Tryz.prog 52 #[.agg #[.int .i64 3, .int .i64 s, .int .i64 0, .int .i64 0, .int .i64 0, .int .u64 0, .int .u64 0]] w fun e w' => e = .returned (.int .i64 0) ∧ Below w.heap.size w w' := by
 have hu49 := Tryz.underlying61
 have hu29 := Tryz.underlying29
 have HS := mA hs
 clear hs
 go_enter Tryz.func52, Tryz.ntmps52
 go_wp2_with (first | (go_at_call 50; refine Calls.mono uP ?_; rintro e_ w_ ⟨rfl, n_, rfl⟩))
 repeat (go_quiet (first | (go_at_call 50; refine Calls.mono uP ?_; rintro e_ w_ ⟨rfl, n_, rfl⟩)); (try go_wp2_with (first | (go_at_call 50; refine Calls.mono uP ?_; rintro e_ w_ ⟨rfl, n_, rfl⟩))))
 go_ret
 exact yZ
theorem check3t (s : Int) (hs : outB s 0 63 = true) (w : World) : Calls Tryz.prog 52 #[.agg #[.int .i64 3, .int .i64 s, .int .i64 0, .int .i64 0, .int .i64 0, .int .u64 0, .int .u64 0]] w fun e w' => e = .returned (.int .i64 11) ∧ Below w.heap.size w w' := by
 have hu49 := Tryz.underlying61
 have hu29 := Tryz.underlying29
 have HS := mA hs
 clear hs
 go_enter Tryz.func52, Tryz.ntmps52
 go_wp2_with (first | (go_at_call 50; refine Calls.mono uR ?_; rintro e_ w_ ⟨rfl, n_, rfl⟩))
 repeat (go_quiet (first | (go_at_call 50; refine Calls.mono uR ?_; rintro e_ w_ ⟨rfl, n_, rfl⟩)); (try go_wp2_with (first | (go_at_call 50; refine Calls.mono uR ?_; rintro e_ w_ ⟨rfl, n_, rfl⟩))))
 go_ret
 exact yZ
theorem check4f (s : Int) (hs : outB s 0 63 = false) (w : World) : Calls Tryz.prog 52 #[.agg #[.int .i64 4, .int .i64 s, .int .i64 0, .int .i64 0, .int .i64 0, .int .u64 0, .int .u64 0]] w fun e w' => e = .returned (.int .i64 0) ∧ Below w.heap.size w w' := by
 have hu49 := Tryz.underlying61
 have hu29 := Tryz.underlying29
 have HS := mA hs
 clear hs
 go_enter Tryz.func52, Tryz.ntmps52
 go_wp2_with (first | (go_at_call 50; refine Calls.mono uP ?_; rintro e_ w_ ⟨rfl, n_, rfl⟩))
 repeat (go_quiet (first | (go_at_call 50; refine Calls.mono uP ?_; rintro e_ w_ ⟨rfl, n_, rfl⟩)); (try go_wp2_with (first | (go_at_call 50; refine Calls.mono uP ?_; rintro e_ w_ ⟨rfl, n_, rfl⟩))))
 go_ret
 exact yZ
theorem check4t (s : Int) (hs : outB s 0 63 = true) (w : World) : Calls Tryz.prog 52 #[.agg #[.int .i64 4, .int .i64 s, .int .i64 0, .int .i64 0, .int .i64 0, .int .u64 0, .int .u64 0]] w fun e w' => e = .returned (.int .i64 11) ∧ Below w.heap.size w w' := by
 have hu49 := Tryz.underlying61
 have hu29 := Tryz.underlying29
 have HS := mA hs
 clear hs
 go_enter Tryz.func52, Tryz.ntmps52
 go_wp2_with (first | (go_at_call 50; refine Calls.mono uR ?_; rintro e_ w_ ⟨rfl, n_, rfl⟩))
 repeat (go_quiet (first | (go_at_call 50; refine Calls.mono uR ?_; rintro e_ w_ ⟨rfl, n_, rfl⟩)); (try go_wp2_with (first | (go_at_call 50; refine Calls.mono uR ?_; rintro e_ w_ ⟨rfl, n_, rfl⟩))))
 go_ret
 exact yZ
theorem check5f (s : Int) (hs : outB s 0 63 = false) (w : World) : Calls Tryz.prog 52 #[.agg #[.int .i64 5, .int .i64 s, .int .i64 0, .int .i64 0, .int .i64 0, .int .u64 0, .int .u64 0]] w fun e w' => e = .returned (.int .i64 0) ∧ Below w.heap.size w w' := by
 have hu49 := Tryz.underlying61
 have hu29 := Tryz.underlying29
 have HS := mA hs
 clear hs
 go_enter Tryz.func52, Tryz.ntmps52
 go_wp2_with (first | (go_at_call 50; refine Calls.mono uP ?_; rintro e_ w_ ⟨rfl, n_, rfl⟩))
 repeat (go_quiet (first | (go_at_call 50; refine Calls.mono uP ?_; rintro e_ w_ ⟨rfl, n_, rfl⟩)); (try go_wp2_with (first | (go_at_call 50; refine Calls.mono uP ?_; rintro e_ w_ ⟨rfl, n_, rfl⟩))))
 go_ret
 exact yZ
theorem check5t (s : Int) (hs : outB s 0 63 = true) (w : World) : Calls Tryz.prog 52 #[.agg #[.int .i64 5, .int .i64 s, .int .i64 0, .int .i64 0, .int .i64 0, .int .u64 0, .int .u64 0]] w fun e w' => e = .returned (.int .i64 11) ∧ Below w.heap.size w w' := by
 have hu49 := Tryz.underlying61
 have hu29 := Tryz.underlying29
 have HS := mA hs
 clear hs
 go_enter Tryz.func52, Tryz.ntmps52
 go_wp2_with (first | (go_at_call 50; refine Calls.mono uR ?_; rintro e_ w_ ⟨rfl, n_, rfl⟩))
 repeat (go_quiet (first | (go_at_call 50; refine Calls.mono uR ?_; rintro e_ w_ ⟨rfl, n_, rfl⟩)); (try go_wp2_with (first | (go_at_call 50; refine Calls.mono uR ?_; rintro e_ w_ ⟨rfl, n_, rfl⟩))))
 go_ret
 exact yZ
theorem check6 (x y : Int) (w : World) : Calls Tryz.prog 52 #[.agg #[.int .i64 6, .int .i64 0, .int .i64 0, .int .i64 0, .int .i64 0, .int .u64 x, .int .u64 y]] w fun e w' => e = .returned (.int .i64 0) ∧ Below w.heap.size w w' := by
 have hu49 := Tryz.underlying61
 have hu29 := Tryz.underlying29
 go_enter Tryz.func52, Tryz.ntmps52
 go_wp2_with (first | (go_at_call 50; refine Calls.mono vD ?_; rintro e_ w_ ⟨rfl, n_, rfl⟩))
 repeat (go_quiet (first | (go_at_call 50; refine Calls.mono vD ?_; rintro e_ w_ ⟨rfl, n_, rfl⟩)); (try go_wp2_with (first | (go_at_call 50; refine Calls.mono vD ?_; rintro e_ w_ ⟨rfl, n_, rfl⟩))))
 go_ret
 exact yZ
set_option maxHeartbeats 4000000
def turn4 (x : Int) : Int := Go.bits .and .i64 x 3
theorem turn41 (x : Int) (w : World) : Calls Tryz.prog 105 #[.int .i64 x] w fun e w' => e = .returned (.int .i64 (turn4 x)) ∧ w = w' := by
 go_enter Tryz.func105, Tryz.ntmps105
 go_wp2
 go_ret
 exact ⟨rfl, rfl⟩
def keyAt (a b c d e f first epoch : Int) : Int × Int × Bool :=
 if turn4 (wrap64 first) = turn4 epoch then (a, b, true)
 else if turn4 (wrap64 (first + 1)) = turn4 epoch then (c, d, true)
 else if turn4 (wrap64 (first + 2)) = turn4 epoch then (e, f, true)
 else (0, 0, false)
theorem idx0 (a b c d e f : Int) (w : World) : (Instr.index 151 (.agg #[.int .u64 a, .int .u64 b, .int .u64 c, .int .u64 d, .int .u64 e, .int .u64 f]) (.int .i64 0)).run Tryz.prog w = .ok (.agg #[.int .u64 a, .int .u64 b]) w := by kernel_rfl
theorem idx1 (a b c d e f : Int) (w : World) : (Instr.index 151 (.agg #[.int .u64 a, .int .u64 b, .int .u64 c, .int .u64 d, .int .u64 e, .int .u64 f]) (.int .i64 1)).run Tryz.prog w = .ok (.agg #[.int .u64 c, .int .u64 d]) w := by kernel_rfl
theorem idx2 (a b c d e f : Int) (w : World) : (Instr.index 151 (.agg #[.int .u64 a, .int .u64 b, .int .u64 c, .int .u64 d, .int .u64 e, .int .u64 f]) (.int .i64 2)).run Tryz.prog w = .ok (.agg #[.int .u64 e, .int .u64 f]) w := by kernel_rfl
theorem at50 (a b c d e f first epoch : Int) (w : World) : Calls Tryz.prog 121 #[.agg #[.int .u64 a, .int .u64 b, .int .u64 c, .int .u64 d, .int .u64 e, .int .u64 f], .int .i64 first, .int .i64 epoch] w
 fun e' w' => e' = .returned (.tuple #[.agg #[.int .u64 (keyAt a b c d e f first epoch).1, .int .u64 (keyAt a b c d e f first epoch).2.1], .bool (keyAt a b c d e f first epoch).2.2]) ∧ Below w.heap.size w w' := by
 obtain ⟨r, hr⟩ : ∃ r, r = keyAt a b c d e f first epoch := ⟨_, rfl⟩
 rw [← hr]
 have HR := mA hr
 clear hr
 have x0 := idx0 a b c d e f
 have x1 := idx1 a b c d e f
 have x2 := idx2 a b c d e f
 go_enter Tryz.func121, Tryz.ntmps121
 go_wp2
 have HR1 := mA (show (w.alloc (.cells #[.int .u64 a, .int .u64 b, .int .u64 c, .int .u64 d, .int .u64 e, .int .u64 f] 151)).heap.size = w.heap.size + 1 from by simp)
 go_loopw [12] (fun v12 wr => ∃ k : Nat, k ≤ 3 ∧ v12 = .int .i64 k ∧ Aside0 (Below w.heap.size w wr) ∧ Aside0 (wr.heap[w.heap.size + 1]? = some (.cells #[.int .u64 0, .int .u64 0] 29 (0, 0))) ∧ Aside0 (∀ i : Nat, i < k → ¬ turn4 (wrap64 (first + i)) = turn4 epoch)) (fun v12 _ => 3 - (intOf v12).toNat)
 case atStart => exact ⟨0, qN, rfl, ⟨below_alloc (below_alloc (Below.refl _ _) _) _⟩, ⟨by rw [← HR1.out]; exact heap_alloc_new _ _⟩, ⟨fun i hi => absurd hi uY⟩⟩
 case round =>
  obtain ⟨k, hk, rfl, HB, HN, HF⟩ := hrel
  have BO : Aside0 (∀ o, (wr.alloc o).heap[w.heap.size + 1]? = some (.cells #[.int .u64 0, .int .u64 0] 29 (0, 0))) := ⟨fun o => blk_below HN.out (below_alloc (Below.refl _ _) o)⟩
  by_cases hlt : k < 3
  ·by_cases he : turn4 (wrap64 (first + k)) = turn4 epoch
   ·have he2 := mA he
    clear he
    rcases (show k = 0 ∨ k = 1 ∨ k = 2 by omega) with rfl | rfl | rfl
    ·have b0 := fun o => (blk_cell (BO.out o) 0).trans rfl; have b1 := fun o => (blk_cell (BO.out o) 1).trans rfl; have f0 := fun o => blk_frozen (BO.out o) 0; have f1 := fun o => blk_frozen (BO.out o) 1
     have he' : (turn4 (wrap64 first) == turn4 epoch) = true := by simpa using he2.out
     go_wp2_with (go_at_call 105; refine (turn41 _ _).mono ?_; rintro e' w' ⟨rfl, rfl⟩)
     refine bodyPost_ret (results_ct rfl _ _ (w.heap.size + 1) 29 #[.int .u64 a, .int .u64 b] (0, 0) _ rfl (by refine blk_put (cs := #[.int .u64 a, .int .u64 0]) ?_ 1 _ rfl; refine blk_put (cs := #[.int .u64 0, .int .u64 0]) ?_ 0 _ rfl; exact BO.out _) Tryz.underlying29 rfl uW) rfl ?_
     exact ⟨by rw [HR.out, keyAt, if_pos (by simpa using he2.out)]; rfl, qB⟩
    ·have b0 := fun o => (blk_cell (BO.out o) 0).trans rfl; have b1 := fun o => (blk_cell (BO.out o) 1).trans rfl; have f0 := fun o => blk_frozen (BO.out o) 0; have f1 := fun o => blk_frozen (BO.out o) 1
     have he' : (turn4 (wrap64 (first + 1)) == turn4 epoch) = true := by simpa using he2.out
     go_wp2_with (go_at_call 105; refine (turn41 _ _).mono ?_; rintro e' w' ⟨rfl, rfl⟩)
     refine bodyPost_ret (results_ct rfl _ _ (w.heap.size + 1) 29 #[.int .u64 c, .int .u64 d] (0, 0) _ rfl (by refine blk_put (cs := #[.int .u64 c, .int .u64 0]) ?_ 1 _ rfl; refine blk_put (cs := #[.int .u64 0, .int .u64 0]) ?_ 0 _ rfl; exact BO.out _) Tryz.underlying29 rfl uW) rfl ?_
     exact ⟨by rw [HR.out, keyAt, if_neg (by simpa using HF.out 0 uJ), if_pos (by simpa using he2.out)]; rfl, qB⟩
    ·have b0 := fun o => (blk_cell (BO.out o) 0).trans rfl; have b1 := fun o => (blk_cell (BO.out o) 1).trans rfl; have f0 := fun o => blk_frozen (BO.out o) 0; have f1 := fun o => blk_frozen (BO.out o) 1
     have he' : (turn4 (wrap64 (first + 2)) == turn4 epoch) = true := by simpa using he2.out
     go_wp2_with (go_at_call 105; refine (turn41 _ _).mono ?_; rintro e' w' ⟨rfl, rfl⟩)
     refine bodyPost_ret (results_ct rfl _ _ (w.heap.size + 1) 29 #[.int .u64 e, .int .u64 f] (0, 0) _ rfl (by refine blk_put (cs := #[.int .u64 e, .int .u64 0]) ?_ 1 _ rfl; refine blk_put (cs := #[.int .u64 0, .int .u64 0]) ?_ 0 _ rfl; exact BO.out _) Tryz.underlying29 rfl uW) rfl ?_
     exact ⟨by rw [HR.out, keyAt, if_neg (by simpa using HF.out 0 uJ), if_neg (by simpa using HF.out 1 uJ), if_pos (by simpa using he2.out)]; rfl, qB⟩
   ·have he2 := mA he
    clear he
    rcases (show k = 0 ∨ k = 1 ∨ k = 2 by omega) with rfl | rfl | rfl
    ·have he' : (turn4 (wrap64 first) == turn4 epoch) = false := by simpa using he2.out
     go_wp2_with (go_at_call 105; refine (turn41 _ _).mono ?_; rintro e' w' ⟨rfl, rfl⟩)
     go_roundw
     case rel => exact ⟨1, qN, by go_num, ⟨below_alloc HB.out _⟩, ⟨BO.out _⟩, ⟨fun i hi => (Nat.lt_or_ge i 0).elim (HF.out i) (fun h => by obtain rfl : i = 0 := uY; exact he2.out)⟩⟩
     case measure => simp [intOf]
    ·have he' : (turn4 (wrap64 (first + 1)) == turn4 epoch) = false := by simpa using he2.out
     go_wp2_with (go_at_call 105; refine (turn41 _ _).mono ?_; rintro e' w' ⟨rfl, rfl⟩)
     go_roundw
     case rel => exact ⟨2, qN, by go_num, ⟨below_alloc HB.out _⟩, ⟨BO.out _⟩, ⟨fun i hi => (Nat.lt_or_ge i 1).elim (HF.out i) (fun h => by obtain rfl : i = 1 := uY; exact he2.out)⟩⟩
     case measure => simp [intOf]
    ·have he' : (turn4 (wrap64 (first + 2)) == turn4 epoch) = false := by simpa using he2.out
     go_wp2_with (go_at_call 105; refine (turn41 _ _).mono ?_; rintro e' w' ⟨rfl, rfl⟩)
     go_roundw
     case rel => exact ⟨3, qN, by go_num, ⟨below_alloc HB.out _⟩, ⟨BO.out _⟩, ⟨fun i hi => (Nat.lt_or_ge i 2).elim (HF.out i) (fun h => by obtain rfl : i = 2 := uY; exact he2.out)⟩⟩
     case measure => simp [intOf]
  ·obtain rfl : k = 3 := by omega
   have b0 := fun o => (blk_cell (BO.out o) 0).trans rfl; have b1 := fun o => (blk_cell (BO.out o) 1).trans rfl; have f0 := fun o => blk_frozen (BO.out o) 0; have f1 := fun o => blk_frozen (BO.out o) 1
   go_wp2
   refine bodyPost_ret (results_ct rfl _ _ (w.heap.size + 1) 29 #[.int .u64 0, .int .u64 0] (0, 0) _ rfl (by refine blk_put (cs := #[.int .u64 0, .int .u64 0]) ?_ 1 _ rfl; refine blk_put (cs := #[.int .u64 0, .int .u64 0]) ?_ 0 _ rfl; exact BO.out _) Tryz.underlying29 rfl uW) rfl ?_
   exact ⟨by rw [HR.out, keyAt, if_neg (by simpa using HF.out 0 uJ), if_neg (by simpa using HF.out 1 uJ), if_neg (by simpa using HF.out 2 uJ)]; rfl, qB⟩
theorem heap2 (w : World) (o1 o2 : Obj) : ((w.alloc o1).alloc o2).heap[w.heap.size + 1]? = some o2 := by
 have h := heap_alloc_new (w.alloc o1) o2
 rwa [show (w.alloc o1).heap.size = w.heap.size + 1 from by simp] at h
theorem key29 (q a b c d e f epoch : Int) (w : World) : Calls Tryz.prog 116 #[.agg #[.int .i64 q, .int .u64 a, .int .u64 b, .int .u64 c, .int .u64 d, .int .u64 e, .int .u64 f], .int .i64 epoch] w
 fun e' w' => e' = .returned (.tuple #[.agg #[.int .u64 (keyAt a b c d e f (wrap64 (q - 1)) epoch).1, .int .u64 (keyAt a b c d e f (wrap64 (q - 1)) epoch).2.1], .bool (keyAt a b c d e f (wrap64 (q - 1)) epoch).2.2]) ∧ Below w.heap.size w w' := by
 obtain ⟨r, hr⟩ : ∃ r, r = keyAt a b c d e f (wrap64 (q - 1)) epoch := ⟨_, rfl⟩
 rw [← hr]
 have HR := mA hr
 clear hr
 go_enter Tryz.func116, Tryz.ntmps116
 go_wp2_with (go_at_call 121; refine (at50 _ _ _ _ _ _ _ _ _).mono ?_; rintro e' w' ⟨rfl, hb⟩; rw [← HR.out]; have HB := mA (below_step (below_alloc (below_alloc (Below.refl _ _) _) _) hb); have BK := mA (blk_below (heap2 _ _ _) hb); have b0 := (blk_cell BK.out 0).trans rfl; have b1 := (blk_cell BK.out 1).trans rfl; have f0 := blk_frozen BK.out 0; have f1 := blk_frozen BK.out 1; clear hb)
 refine bodyPost_ret (results_ct rfl _ _ (w.heap.size + 1) 29 #[.int .u64 r.1, .int .u64 r.2.1] (0, 0) _ rfl (by refine blk_put (cs := #[.int .u64 r.1, .int .u64 0]) ?_ 1 _ rfl; refine blk_put (cs := #[.int .u64 0, .int .u64 0]) ?_ 0 _ rfl; exact BK.out) Tryz.underlying29 rfl uW) rfl ?_
 exact ⟨rfl, qB⟩
def keyIn (l : List S29) (k j : Nat) : S29 := if j < k then l.getD j z29 else z29
def keyCells (l : List S29) (k : Nat) : Array Value := #[.int .u64 (keyIn l k 0).f0, .int .u64 (keyIn l k 0).f1, .int .u64 (keyIn l k 1).f0, .int .u64 (keyIn l k 1).f1, .int .u64 (keyIn l k 2).f0, .int .u64 (keyIn l k 2).f1]
theorem keyStep (l : List S29) (k : Nat) (x : S29) (hx : x = l.getD k z29) (h : k < 3) : (((keyCells l k).setIfInBounds (k * 2) (.int .u64 x.f0)).setIfInBounds (k * 2 + 1) (.int .u64 x.f1)) = keyCells l (k + 1) := by
 subst hx
 rcases (show k = 0 ∨ k = 1 ∨ k = 2 by omega) with rfl | rfl | rfl <;> rfl
theorem keyIn_three (l : List S29) (j : Nat) (h : j < 3) : keyIn l 3 j = l.getD j z29 := if_pos h
theorem keyIn_len (l : List S29) (j : Nat) : keyIn l l.length j = l.getD j z29 := by
 unfold keyIn
 split
 ·rfl
 ·rw [List.getD_eq_getElem?_getD, List.getElem?_eq_none uY]
  rfl
def zero6 : Array Value := #[.int .u64 0, .int .u64 0, .int .u64 0, .int .u64 0, .int .u64 0, .int .u64 0]
def full6 (l : List S29) : Array Value := #[.int .u64 (l.getD 0 z29).f0, .int .u64 (l.getD 0 z29).f1, .int .u64 (l.getD 1 z29).f0, .int .u64 (l.getD 1 z29).f1, .int .u64 (l.getD 2 z29).f0, .int .u64 (l.getD 2 z29).f1]
theorem sizeKey : (Tryz.prog.info? 29).map (·.size) = some 2 := by kernel_rfl
theorem run_copy25 (w : World) (ty : TypeId) (g dCap : Nat) (A : Option Addr) (c : Nat) (l : List S29) (cs : List Value) (hg : w.heap[g]? = some (.cells zero6 151 (0, 0))) (hn : cs.length = Nat.min l.length 3 * 2)
 (hsrc : ∀ a, A = some a → ∀ j v, cs[j]? = some v → w.cell? (a.add j) = some v) (hnil : A = none → cs = []) (h1 : ∀ v ∈ cs, v.oneCell' = true) (hfull : (cs ++ zero6.toList.drop cs.length).toArray = full6 l) :
 (Builtin.copy_ #[109, 109] ty #[.slice (some ⟨g, 0, none⟩) 3 dCap, .slice A l.length c]).run Tryz.prog w = .ok (goInt (Nat.min l.length 3)) (w.setRow g (full6 l)) := by
 have hst := run_storeCells_at Tryz.prog g 0 151 cs 0 zero6 w hg (by rw [hn]; show 0 + 0 + _ ≤ 6; have : Nat.min l.length 3 ≤ 3 := Nat.min_le_right _ _; omega) h1
 simp only [Nat.zero_add, List.take_zero, List.nil_append] at hst
 rw [hfull] at hst
 have hq := sizeKey
 cases hi : Tryz.prog.info? 29 with
 | none => simp [hi] at hq
 | some i =>
  have hsz : i.size = 2 := by simpa [hi] using hq
  cases A with
  | none =>
   obtain rfl := hnil rfl
   have hst2 : (storeCells ⟨g, 0, none⟩ [] 0).run Tryz.prog w = .ok () (w.setRow g (full6 l)) := hst
   simp [Builtin.copy_, run_underlying Tryz.underlying109, Builtin.lenOf, Builtin.firstCells, sizeOf, typeInfo, hi, hsz, hst2]
  | some a =>
   have hl := run_loadCells_list (P := Tryz.prog) w a cs (hsrc a rfl)
   rw [hn] at hl
   simp [Builtin.copy_, run_underlying Tryz.underlying109, Builtin.lenOf, Builtin.firstCells, sizeOf, typeInfo, hi, hsz, hl, hst]
theorem cell25 {w : World} {A : Option Addr} {n : Nat} {l : List S29} (h : Kd.C k29 w A n l) (i : Nat) (hi : i < n) : ∃ ad, A = some ad ∧ w.cell? (ad.add (i * 2)) = some (.int .u64 (l.getD i z29).f0) ∧ w.cell? (ad.add (i * 2 + 1)) = some (.int .u64 (l.getD i z29).f1) := by
 obtain ⟨ad, c, e, _, hK, hc0⟩ := Kd.C_get h z29 (i : Int) uY uY
 have hc : ∀ j u, c[j]? = some u → w.cell? (ad.add (i * 2 + j)) = some u := hc0
 obtain rfl := k29_open hK
 exact ⟨ad, e, hc 0 _ rfl, hc 1 _ rfl⟩
theorem copy25 (w : World) (ty : TypeId) (g dCap : Nat) (A : Option Addr) (c : Nat) (l : List S29) (hg : w.heap[g]? = some (.cells zero6 151 (0, 0))) (hr : Kd.C k29 w A l.length l) :
 (Builtin.copy_ #[109, 109] ty #[.slice (some ⟨g, 0, none⟩) 3 dCap, .slice A l.length c]).run Tryz.prog w = .ok (goInt (Nat.min l.length 3)) (w.setRow g (full6 l)) := by
 have hc := fun i hi => cell25 hr i hi
 clear hr
 match l with
 | [] =>
  exact run_copy25 w ty g dCap A c [] [] hg rfl (fun a _ j v h => absurd h xU) (fun _ => rfl) xU rfl
 | [x] =>
  obtain ⟨ad, rfl, p0, p1⟩ := hc 0 xU
  refine run_copy25 w ty g dCap _ c [x] [.int .u64 x.f0, .int .u64 x.f1] hg rfl ?_ xU vN rfl
  rintro a ha j v hv
  obtain rfl := Option.some.inj ha
  match j, hv with
  | 0, hv => cases hv; exact p0
  | 1, hv => cases hv; exact p1
 | [x, y] =>
  obtain ⟨ad, rfl, p0, p1⟩ := hc 0 xU
  obtain ⟨ad2, e2, p2, p3⟩ := hc 1 xU
  obtain rfl := Option.some.inj e2
  refine run_copy25 w ty g dCap _ c [x, y] [.int .u64 x.f0, .int .u64 x.f1, .int .u64 y.f0, .int .u64 y.f1] hg rfl ?_ xU vN rfl
  rintro a ha j v hv
  obtain rfl := Option.some.inj ha
  match j, hv with
  | 0, hv => cases hv; exact p0
  | 1, hv => cases hv; exact p1
  | 2, hv => cases hv; exact p2
  | 3, hv => cases hv; exact p3
 | x :: y :: z :: t =>
  obtain ⟨ad, rfl, p0, p1⟩ := hc 0 xU
  obtain ⟨ad2, e2, p2, p3⟩ := hc 1 xU
  obtain rfl := Option.some.inj e2
  obtain ⟨ad3, e3, p4, p5⟩ := hc 2 xU
  obtain rfl := Option.some.inj e3
  refine run_copy25 w ty g dCap _ c (x :: y :: z :: t) [.int .u64 x.f0, .int .u64 x.f1, .int .u64 y.f0, .int .u64 y.f1, .int .u64 z.f0, .int .u64 z.f1] hg (by show 6 = Nat.min (t.length + 3) 3 * 2; rw [show Nat.min (t.length + 3) 3 = 3 from Nat.min_eq_right uY]) ?_ xU vN rfl
  rintro a ha j v hv
  obtain rfl := Option.some.inj ha
  match j, hv with
  | 0, hv => cases hv; exact p0
  | 1, hv => cases hv; exact p1
  | 2, hv => cases hv; exact p2
  | 3, hv => cases hv; exact p3
  | 4, hv => cases hv; exact p4
  | 5, hv => cases hv; exact p5
theorem ring26 (q : Int) (A : Option Addr) (c : Nat) (l : List S29) (w : World) (hr : Kd.C k29 w A l.length l) (hc : l.length ≤ c) : Calls Tryz.prog 45 #[.int .i64 q, .slice A l.length c] w
 fun e' w' => e' = .returned (.agg #[.int .i64 q, .int .u64 (l.getD 0 z29).f0, .int .u64 (l.getD 0 z29).f1, .int .u64 (l.getD 1 z29).f0, .int .u64 (l.getD 1 z29).f1, .int .u64 (l.getD 2 z29).f0, .int .u64 (l.getD 2 z29).f1]) ∧ Below w.heap.size w w' := by
 have HR := mA hr
 clear hr
 obtain ⟨w2, hcp, HB, BR, BK⟩ : ∃ w2, (Builtin.copy_ #[109, 109] 3 #[.slice (some ⟨w.heap.size + 1, 0, none⟩) 3 3, .slice A l.length c]).run Tryz.prog ((w.alloc (.cells #[.int .i64 0, .int .u64 0, .int .u64 0, .int .u64 0, .int .u64 0, .int .u64 0, .int .u64 0] 31)).alloc (.cells #[.int .u64 0, .int .u64 0, .int .u64 0, .int .u64 0, .int .u64 0, .int .u64 0] 151)) = .ok (goInt (Nat.min l.length 3)) w2 ∧ Aside0 (Below w.heap.size w w2) ∧ Aside0 (w2.heap[w.heap.size]? = some (.cells #[.int .i64 0, .int .u64 0, .int .u64 0, .int .u64 0, .int .u64 0, .int .u64 0, .int .u64 0] 31 (0, 0))) ∧ Aside0 (w2.heap[w.heap.size + 1]? = some (.cells (full6 l) 151 (0, 0))) := by
  have hg := heap2 w (.cells #[.int .i64 0, .int .u64 0, .int .u64 0, .int .u64 0, .int .u64 0, .int .u64 0, .int .u64 0] 31) (.cells zero6 151)
  refine ⟨_, copy25 _ 3 (w.heap.size + 1) 3 A c l hg (Kd.C_alloc (Kd.C_alloc HR.out _) _), ⟨below_setRow (below_alloc (below_alloc (Below.refl _ _) _) _) uY _⟩, ⟨?_⟩, ⟨setRow_heap _ _ _ _ _ _ hg⟩⟩
  rw [setRow_other _ _ _ _ uY]
  exact blk_alloc (heap_alloc_new _ _) _
 obtain ⟨y0, b0, H0⟩ : ∃ y : Int, w2.cell? ⟨w.heap.size + 1, 0, none⟩ = some (.int .u64 y) ∧ Aside0 (y = (l.getD 0 z29).f0) := ⟨_, blk_cell BK.out 0, ⟨rfl⟩⟩
 obtain ⟨y1, b1, H1⟩ : ∃ y : Int, w2.cell? ⟨w.heap.size + 1, 1, none⟩ = some (.int .u64 y) ∧ Aside0 (y = (l.getD 0 z29).f1) := ⟨_, blk_cell BK.out 1, ⟨rfl⟩⟩
 obtain ⟨y2, b2, H2⟩ : ∃ y : Int, w2.cell? ⟨w.heap.size + 1, 2, none⟩ = some (.int .u64 y) ∧ Aside0 (y = (l.getD 1 z29).f0) := ⟨_, blk_cell BK.out 2, ⟨rfl⟩⟩
 obtain ⟨y3, b3, H3⟩ : ∃ y : Int, w2.cell? ⟨w.heap.size + 1, 3, none⟩ = some (.int .u64 y) ∧ Aside0 (y = (l.getD 1 z29).f1) := ⟨_, blk_cell BK.out 3, ⟨rfl⟩⟩
 obtain ⟨y4, b4, H4⟩ : ∃ y : Int, w2.cell? ⟨w.heap.size + 1, 4, none⟩ = some (.int .u64 y) ∧ Aside0 (y = (l.getD 2 z29).f0) := ⟨_, blk_cell BK.out 4, ⟨rfl⟩⟩
 obtain ⟨y5, b5, H5⟩ : ∃ y : Int, w2.cell? ⟨w.heap.size + 1, 5, none⟩ = some (.int .u64 y) ∧ Aside0 (y = (l.getD 2 z29).f1) := ⟨_, blk_cell BK.out 5, ⟨rfl⟩⟩
 have z0 := (blk_cell BR.out 0).trans rfl; have g0 := blk_frozen BR.out 0; have z1 := (blk_cell BR.out 1).trans rfl; have g1 := blk_frozen BR.out 1; have z2 := (blk_cell BR.out 2).trans rfl; have g2 := blk_frozen BR.out 2; have z3 := (blk_cell BR.out 3).trans rfl; have g3 := blk_frozen BR.out 3; have z4 := (blk_cell BR.out 4).trans rfl; have g4 := blk_frozen BR.out 4; have z5 := (blk_cell BR.out 5).trans rfl; have g5 := blk_frozen BR.out 5; have z6 := (blk_cell BR.out 6).trans rfl; have g6 := blk_frozen BR.out 6
 go_enter Tryz.func45, Tryz.ntmps45
 go_wp2
 refine bodyPost_ret (results_cell_row rfl _ _ w.heap.size 31 #[.int .i64 q, .int .u64 y0, .int .u64 y1, .int .u64 y2, .int .u64 y3, .int .u64 y4, .int .u64 y5] (0, 0) _ rfl uK Tryz.underlying31 rfl uW) rfl ?_
 exact ⟨kT, kV⟩
def ringOf (q : Int) (l : List S29) : Int × Int × Int × Int × Int × Int × Int := (q, (l.getD 0 z29).f0, (l.getD 0 z29).f1, (l.getD 1 z29).f0, (l.getD 1 z29).f1, (l.getD 2 z29).f0, (l.getD 2 z29).f1)
def cookie_Ring.f (k : Nat) (q : Int) (l : List S29) : Option (Int × Int × Int × Int × Int × Int × Int) := match k with
 | 0 => none
 | _ + 1 => some (ringOf q l)
theorem cookie_Ring.calls (k : Nat) (q : Int) (A : Option Addr) (c : Nat) (l : List S29) (r1 r2 r3 r4 r5 r6 r7 : Int) (w : World) (hr : Kd.C k29 w A l.length l) (hc : l.length ≤ c) (h : cookie_Ring.f k q l = some (r1, r2, r3, r4, r5, r6, r7)) :
 Calls Tryz.prog 45 #[.int .i64 q, .slice A l.length c] w fun e w' => e = .returned (.agg #[.int .i64 r1, .int .u64 r2, .int .u64 r3, .int .u64 r4, .int .u64 r5, .int .u64 r6, .int .u64 r7]) ∧ Below w.heap.size w w' := by
 cases k with
 | zero => exact absurd h (by simp [cookie_Ring.f])
 | succ k =>
  have h2 : ringOf q l = (r1, r2, r3, r4, r5, r6, r7) := Option.some.inj (show some (ringOf q l) = _ from h)
  injection h2 with h2 h3
  injection h3 with h3 h4
  injection h4 with h4 h5
  injection h5 with h5 h6
  injection h6 with h6 h7
  injection h7 with h7 h8
  subst h2 h3 h4 h5 h6 h7 h8
  exact ring26 q A c l w hr hc
def cookie_Key.f (k : Nat) (q a b c d e f epoch : Int) : Option (Int × Int × Bool) := match k with
 | 0 => none
 | _ + 1 => some (keyAt a b c d e f (wrap64 (q - 1)) epoch)
theorem cookie_Key.calls (k : Nat) (q a b c d e f epoch : Int) (r1 r2 : Int) (r3 : Bool) (w : World) (h : cookie_Key.f k q a b c d e f epoch = some (r1, r2, r3)) :
 Calls Tryz.prog 116 #[.agg #[.int .i64 q, .int .u64 a, .int .u64 b, .int .u64 c, .int .u64 d, .int .u64 e, .int .u64 f], .int .i64 epoch] w fun e' w' => e' = .returned (.tuple #[.agg #[.int .u64 r1, .int .u64 r2], .bool r3]) ∧ Below w.heap.size w w' := by
 cases k with
 | zero => exact absurd h (by simp [cookie_Key.f])
 | succ k =>
  have h2 : keyAt a b c d e f (wrap64 (q - 1)) epoch = (r1, r2, r3) := Option.some.inj (show some (keyAt a b c d e f (wrap64 (q - 1)) epoch) = _ from h)
  have h3 := key29 q a b c d e f epoch w
  rw [h2] at h3
  exact h3
end Go.Proofs.YtkpfojpmigchlaaGreat.Own
namespace Go.Proofs.YtkpfojpmigchlaaGreat.Own
open Go Go.RowKit Go.Proofs.YtkpfojpmigchlaaGreatW.PrintWords Go.Proofs.YtkpfojpmigchlaaGreatW.PrintMore Go.Proofs.YtkpfojpmigchlaaGreatW.PrintLast Go.Proofs.YtkpfojpmigchlaaGreat.Q
open Go.Proofs.YtkpfojpmigchlaaGreat.Zip
def flat (l : List S25) : List Value := l.flatMap sv
theorem flat_length (l : List S25) : (flat l).length = 5 * l.length := by
 unfold flat
 induction l with
 | nil => rfl
 | cons s l ih => rw [List.flatMap_cons, List.length_append, ih]; show 5 + _ = _; simp only [List.length_cons]; omega
theorem flat_drop (l : List S25) : ∀ q, (flat l).drop (5 * q) = flat (l.drop q) := by
 induction l with
 | nil => intro q; simp [flat]
 | cons s l ih =>
  intro q
  cases q with
  | zero => rfl
  | succ q =>
   rw [List.drop_succ_cons, ← ih q]
   show ((sv s) ++ flat l).drop (5 * (q + 1)) = _
   rw [List.drop_append]
   rw [List.drop_eq_nil_of_le (show (sv s).length ≤ 5 * (q + 1) from by show 5 ≤ _; omega), List.nil_append]
   congr 1
theorem flat_take (l : List S25) (q : Nat) (s : S25) (h : l[q]? = some s) : ((flat l).drop (5 * q)).take 5 = sv s := by
 rw [flat_drop]
 obtain ⟨hl, rfl⟩ := List.getElem?_eq_some_iff.1 h
 rw [List.drop_eq_getElem_cons hl]
 rfl
theorem flat_range {w : World} {g : Nat} {l : List S25} (h : Kd.C k25 w (some ⟨g, 3, none⟩) l.length l) : w.rangeAt g 3 (flat l) := by
 intro j v hj
 have hjl : j < 5 * l.length := by
  have := (List.getElem?_eq_some_iff.1 hj).1
  rwa [flat_length] at this
 obtain ⟨ad, e, hc⟩ := h.2.2 uY
 obtain rfl := Option.some.inj e
 obtain ⟨c, hcl, hk, hcell⟩ := hc (j / 5) _ (List.getElem?_eq_getElem uY)
 obtain rfl := k25_open hk
 have hs := flat_take l (j / 5) _ (List.getElem?_eq_getElem uY)
 have h5 : (sv (l[j / 5]'uY))[j % 5]? = some v := by
  rw [← hs, List.getElem?_take, if_pos uY, List.getElem?_drop, show 5 * (j / 5) + j % 5 = j from by omega]
  exact hj
 have := hcell (j % 5) v h5
 rw [add_in] at this
 rw [show 3 + j = 3 + (j / 5 * 5 + j % 5) from by omega]
 exact this
theorem isAgg25 (w : World) : (isAgg 25).run Tryz.prog w = .ok true w := by kernel_rfl
theorem size25 (w : World) : (sizeOf 25).run Tryz.prog w = .ok 5 w := by kernel_rfl
theorem part25 (l : List S25) (q : Nat) (s : S25) (h : l[q]? = some s) (w : World) : (part 25 (flat l).toArray (q * 5)).run Tryz.prog w = .ok (.agg (sv s).toArray) w := by
 unfold part
 rw [Sem.run_bind, isAgg25]
 simp only [Result.andThen_ok, if_true, Sem.run_bind, size25, Sem.run_pure]
 congr 2
 rw [← flat_take l q s h, Nat.mul_comm 5 q]
 apply Array.toList_inj.1
 simp [Array.toList_extract, List.extract_eq_take_drop]
theorem index26 (l : List S25) (hl : l.length = 64) (i : Int) (h0 : 0 ≤ i) (h1 : i < 64) (w : World) : (Instr.index 26 (.agg (flat l).toArray) (.int .i64 i)).run Tryz.prog w = .ok (.agg #[.int .i64 (rd_T25 l i).f0, .int .i64 (rd_T25 l i).f1, .int .i64 (rd_T25 l i).f2, .int .i64 (rd_T25 l i).f3, .int .i64 (rd_T25 l i).f4]) w := by
 have hu : (underlying 26).run Tryz.prog w = .ok (.array 64 25) w := by kernel_rfl
 have ha : (asIntOf (.int .i64 i)).run Tryz.prog w = .ok (.i64, i) w := rfl
 unfold Instr.index
 simp only [Sem.run_bind, ha, hu, Result.andThen_ok]
 rw [if_pos ⟨h0, by simpa using h1⟩]
 simp only [Sem.run_bind, size25, Result.andThen_ok]
 have hi : l[i.toNat]? = some (rd_T25 l i) := by
  unfold rd_T25
  rw [List.getD_eq_getElem?_getD, List.getElem?_eq_getElem uY]
  rfl
 exact part25 l i.toNat _ hi w
section
structure PL where
 ver : Int
 addr : Int
 port : Int
 sl : List S25
 ep : Int
 k1 : Int
 k2 : Int
 k3 : Int
 k4 : Int
 k5 : Int
 k6 : Int
def rcells (p : PL) : List Value := [.int .i64 p.ep, .int .u64 p.k1, .int .u64 p.k2, .int .u64 p.k3, .int .u64 p.k4, .int .u64 p.k5, .int .u64 p.k6]
def pcells (p : PL) : List Value := .int .i64 p.ver :: .int .i64 p.addr :: .int .i64 p.port :: (flat p.sl ++ rcells p)
def pcs (p : PL) : Array Value := (pcells p).toArray
def Blk (w : World) (g t : Nat) (cs : Array Value) : Prop := w.heap[g]? = some (.cells cs t (0, 0))
theorem Blk.below {w w1 : World} {g t : Nat} {cs : Array Value} (h : Blk w g t cs) (hb : Below w.heap.size w w1) : Blk w1 g t cs := blk_below h hb
theorem Blk.grown {w w1 : World} {g t : Nat} {cs : Array Value} {row : Option Nat} (h : Blk w g t cs) (hg : w.grownBy w1 row) (hne : some g ≠ row) : Blk w1 g t cs := blk_grown h hg hne
theorem Blk.lt {w : World} {g t : Nat} {cs : Array Value} (h : Blk w g t cs) : g < w.heap.size := blk_lt h
theorem pcells_length (p : PL) (h : p.sl.length = 64) : (pcells p).length = 330 := by
 simp only [pcells, rcells, List.length_cons, List.length_append, flat_length, List.length_nil, h]
theorem pcs_size (p : PL) (h : p.sl.length = 64) : (pcs p).size = 330 := by simp [pcs, pcells_length p h]
theorem flat_one (l : List S25) : ∀ v ∈ flat l, v.oneCell' = true := by
 intro v hv
 unfold flat at hv
 rw [List.mem_flatMap] at hv
 obtain ⟨s, _, hs⟩ := hv
 simp only [sv, List.mem_cons, List.not_mem_nil, or_false] at hs
 rcases hs with rfl | rfl | rfl | rfl | rfl <;> rfl
theorem pcells_one (p : PL) : ∀ v ∈ pcells p, v.oneCell' = true := by
 intro v hv
 simp only [pcells, List.mem_cons, List.mem_append, rcells, List.not_mem_nil, or_false] at hv
 rcases hv with rfl | rfl | rfl | hv | rfl | rfl | rfl | rfl | rfl | rfl | rfl <;> first | rfl | exact flat_one _ v hv
theorem pcs_one (p : PL) : (pcs p).all (·.oneCell') = true := all_oneCell_toArray (pcells_one p)
theorem pcs_slots (p : PL) (h : p.sl.length = 64) : IsSlots (pcs p) p.sl := by
 refine ⟨pcs_size p h, h, fun i s hi j u hj => ?_⟩
 have hil := (List.getElem?_eq_some_iff.1 hi).1
 have hj5 : j < 5 := (List.getElem?_eq_some_iff.1 hj).1
 have hs := flat_take p.sl i s hi
 rw [← hs, List.getElem?_take, if_pos hj5, List.getElem?_drop] at hj
 have hlt := (List.getElem?_eq_some_iff.1 hj).1
 show (pcells p).toArray[3 + (i * 5 + j)]? = some u
 rw [List.getElem?_toArray, pcells, show 3 + (i * 5 + j) = (i * 5 + j) + 1 + 1 + 1 from by omega, List.getElem?_cons_succ, List.getElem?_cons_succ, List.getElem?_cons_succ, List.getElem?_append_left (by rw [Nat.mul_comm i 5]; exact hlt), Nat.mul_comm i 5]
 exact hj
theorem pcs_ring (p : PL) (h : p.sl.length = 64) (j : Nat) : (pcs p)[323 + j]? = (rcells p)[j]? := by
 show (pcells p).toArray[323 + j]? = _
 rw [List.getElem?_toArray, pcells, show 323 + j = (320 + j) + 1 + 1 + 1 from by omega, List.getElem?_cons_succ, List.getElem?_cons_succ, List.getElem?_cons_succ, List.getElem?_append_right (by rw [flat_length, h]; omega), flat_length, h, show 320 + j - 5 * 64 = j from by omega]
def setAt (cs : List Value) (o : Nat) (vs : List Value) : List Value := cs.take o ++ (vs ++ cs.drop (o + vs.length))
def setMany : Array Value → Nat → List Value → Array Value
 | cs, _, [] => cs
 | cs, o, v :: r => setMany (cs.setIfInBounds o v) (o + 1) r
theorem setMany_eq : ∀ (vs : List Value) (cs : Array Value) (o : Nat), o + vs.length ≤ cs.size → setMany cs o vs = (setAt cs.toList o vs).toArray
 | [], cs, o, h => by simp [setMany, setAt]
 | v :: r, cs, o, h => by
  simp only [List.length_cons] at h
  rw [setMany, setMany_eq r _ _ wN]
  apply Array.toList_inj.1
  simp only [setAt, Array.toList_setIfInBounds]
  have hl : o < cs.toList.length := by simp; omega
  generalize cs.toList = l at hl
  rw [List.take_set, List.drop_set_of_lt uY]
  have h1 : (l.take (o + 1)).set o v = l.take o ++ [v] := by
   rw [List.take_add_one, List.getElem?_eq_getElem hl, List.set_append_right _ _ wN]
   simp [Nat.min_eq_left (Nat.le_of_lt hl)]
  rw [h1]
  simp only [List.length_cons, List.append_assoc, List.cons_append, List.nil_append]
  rw [show o + 1 + r.length = o + (r.length + 1) from by omega]
theorem setCells_blk : ∀ (vs : List Value) (o : Nat) {w : World} {g t : Nat} {cs : Array Value}, Blk w g t cs → Blk (w.setCells g o vs) g t (setMany cs o vs)
 | [], _, _, _, _, _, h => h
 | v :: r, o, w, g, t, cs, h => setCells_blk r (o + 1) (blk_set h o v)
theorem grown_trans {a w w' : World} {row : Option Nat} (h : a.grownBy w row) (k : w.grownBy w' row) : a.grownBy w' row :=
 ⟨k.os.trans h.os, k.tape.trans h.tape, k.output.trans h.output, Nat.le_trans h.size k.size, fun i hi hn => (k.block i (Nat.lt_of_lt_of_le hi h.size) hn).trans (h.block i hi hn)⟩
theorem grown_set (W : World) (g i : Nat) (v : Value) : W.grownBy (W.setCell ⟨g, i, none⟩ v) (some g) :=
 ⟨rfl, rfl, rfl, by simp [World.setCell], fun k _ hk => Below.heap_setCell W ⟨g, i, none⟩ v k (fun e => hk (by rw [e]))⟩
theorem setCells_grown : ∀ (vs : List Value) (o : Nat) (w : World) (g : Nat), w.grownBy (w.setCells g o vs) (some g)
 | [], _, w, g => ⟨rfl, rfl, rfl, Nat.le_refl _, fun _ _ _ => rfl⟩
 | v :: r, o, w, g => grown_trans (grown_set w g o v) (setCells_grown r (o + 1) _ g)
theorem Blk.there {w : World} {g t : Nat} {cs : Array Value} (h : Blk w g t cs) (o n : Nat) (hn : o + n ≤ cs.size) : w.there g o n := fun j hj => by
 refine ⟨?_, blk_frozen h _⟩
 rw [blk_cell h, Array.getElem?_eq_getElem uY]
 rfl
theorem Blk.range {w : World} {g t : Nat} {cs : Array Value} (h : Blk w g t cs) : w.rangeAt g 0 cs.toList := fun j v hj => by
 rw [Nat.zero_add, blk_cell h]
 simpa using hj
def zeroP : PL := ⟨0, 0, 0, List.replicate 64 z25, 0, 0, 0, 0, 0, 0, 0⟩
theorem size33 (p : PL) (h : p.sl.length = 64) : (Tryz.prog.info? 33).map (·.size) = some (pcs p).size := by rw [pcs_size p h]; kernel_rfl
theorem run33 (ev : Operand → Value) (o : Oper) (w : World) (ho : o.op = .alloc 33) : (execOp ev o).run Tryz.prog w = .ok (.value (.pointer (some ⟨w.heap.size, 0, none⟩))) (w.alloc (.cells (pcs zeroP) 33 (0, 0))) := by
 cases o with
 | mk dst op ty pos after guard =>
  obtain rfl : op = _ := ho
  kernel_rfl
theorem run_ld33 (ev : Operand → Value) (o : Oper) (w : World) (g : Nat) (p : PL) (x : Operand) (ho : o.op = .load 33 x) (hx : ev x = .pointer (some ⟨g, 0, none⟩)) (hb : Blk w g 33 (pcs p)) (hp : p.sl.length = 64) :
 (execOp ev o).run Tryz.prog w = .ok (.value (.agg (pcs p))) w := by
 have hr := run_loadVar_mid (P := Tryz.prog) w g 0 33 (pcells p) _ (by simpa [pcs] using hb.range) pool33 rfl (by rw [pcells_length p hp]; kernel_rfl)
 unfold execOp
 simp only [ho, hx, Instr.loadAt, Instr.sureAddr, Sem.run_bind, Sem.run_pure, Result.andThen_ok, hr]
 rfl
theorem run_st33 (ev : Operand → Value) (o : Oper) (w : World) (g : Nat) (old : Array Value) (p : PL) (x y : Operand) (ho : o.op = .store 33 x y) (hx : ev x = .pointer (some ⟨g, 0, none⟩)) (hy : ev y = .agg (pcs p))
 (hb : Blk w g 33 old) (hs : old.size = 330) (hp : p.sl.length = 64) : (execOp ev o).run Tryz.prog w = .ok .skip (w.setCells g 0 (pcells p)) := by
 have hr := run_storeVar_mid (P := Tryz.prog) w g 0 33 (pcs p) (hb.there 0 _ (by rw [pcs_size p hp, hs]; decide)) (size33 p hp) (pcs_one p)
 unfold execOp
 simp only [ho, hx, hy, Instr.storeAt, Instr.sureAddr, Sem.run_bind, Sem.run_pure, Result.andThen_ok, hr]
 rfl
theorem st33_blk {w : World} {g : Nat} {old : Array Value} (p : PL) (hb : Blk w g 33 old) (hs : old.size = 330) (hp : p.sl.length = 64) : Blk (w.setCells g 0 (pcells p)) g 33 (pcs p) := by
 have h := setCells_blk (pcells p) 0 hb
 rw [setMany_eq _ _ _ (by rw [pcells_length p hp, hs]; decide), setAt, List.take_zero, List.nil_append, pcells_length p hp, List.drop_eq_nil_of_le (by simp [hs]), List.append_nil] at h
 exact h
section
variable {ops : Array Oper} {rest : List Oper} {o : Oper} {a : Act} {Q : Exit → Act → World → Prop} {W : World}
theorem pl_alloc {N : Tmp} (hd : o.dst = some N) (hgd : o.guard = none) (ho : o.op = .alloc 33)
 (h : ∀ g, g = W.heap.size → ∀ w1, Blk w1 g 33 (pcs zeroP) → Below W.heap.size W w1 → wpList Tryz.prog ops Q rest (a.put o.dst (.pointer (some ⟨g, 0, none⟩))) w1) : wpList Tryz.prog ops Q (o :: rest) a W :=
 box_event hgd hd (run33 _ _ _ ho) h
theorem pl_box (hgd : o.guard = none) {x : Operand} (ho : o.op = .box 33 x) {p : PL} (hx : a.eval x = .agg (pcs p))
 (h : ∀ g, g = W.heap.size → ∀ w1, Blk w1 g 33 (pcs p) → Below W.heap.size W w1 → wpList Tryz.prog ops Q rest (a.put o.dst (.pointer (some ⟨g, 0, none⟩))) w1) : wpList Tryz.prog ops Q (o :: rest) a W := by
 have hrun : (execOp a.eval o).run Tryz.prog W = .ok (.value (.pointer (some ⟨W.heap.size, 0, none⟩))) (W.alloc (.cells (pcs p) 33 (0, 0))) := by
  unfold execOp
  simp only [ho, hx]
  rfl
 exact Kd.event_run hgd hrun (h _ rfl _ (blk_new W _) (below_alloc (Below.refl _ _) _))
theorem pl_load {N : Tmp} (hd : o.dst = some N) (hgd : o.guard = none) (x : Operand) (ho : o.op = .load 33 x) {g : Nat} {p : PL} (hx : a.eval x = .pointer (some ⟨g, 0, none⟩)) (hb : Blk W g 33 (pcs p)) (hp : p.sl.length = 64)
 (h : wpList Tryz.prog ops Q rest (a.put o.dst (.agg (pcs p))) W) : wpList Tryz.prog ops Q (o :: rest) a W :=
 Kd.event_run hgd (run_ld33 _ _ _ g p x ho hx hb hp) h
theorem pl_store (hN : o.dst = none) (hgd : o.guard = none) (x y : Operand) (ho : o.op = .store 33 x y) {g : Nat} {old : Array Value} {p : PL} (hx : a.eval x = .pointer (some ⟨g, 0, none⟩)) (hy : a.eval y = .agg (pcs p)) (hb : Blk W g 33 old) (hs : old.size = 330) (hp : p.sl.length = 64)
 (h : ∀ w', Blk w' g 33 (pcs p) → W.grownBy w' (some g) → wpList Tryz.prog ops Q rest a w') : wpList Tryz.prog ops Q (o :: rest) a W := by
 refine wpList_plain hgd fun K hK => ?_
 unfold Oper.wp
 rw [run_st33 _ _ _ g old p x y ho hx hy hb hs hp]
 show K (a.put o.dst undef) _
 rw [hN]
 exact hK _ _ (h _ (st33_blk p hb hs hp) (setCells_grown _ _ _ _))
end
section
variable {o : Oper} {a : Act} {K : Act → World → Prop} {Q : Exit → Act → World → Prop} {W : World}
theorem wp_ld33 {x : Operand} (ho : o.op = .load 33 x) {g : Nat} {p : PL} (hx : a.eval x = .pointer (some ⟨g, 0, none⟩)) (hb : Blk W g 33 (pcs p)) (hp : p.sl.length = 64)
 (h : K (a.put o.dst (.agg (pcs p))) W) : o.wp Tryz.prog a W K Q := by
 unfold Oper.wp
 rw [run_ld33 _ _ _ g p x ho hx hb hp]
 exact h
end
end
open Go.Proofs.YtkpfojpmigchlaaGreat.Zap
set_option maxHeartbeats 8000000
set_option maxRecDepth 100000
def slotIs (s : S25) (a b : Int) : Bool := s.f0 != 0 && s.f1 == a && s.f2 == b
def heldP (p : PL) (a b : Int) : Bool := p.sl.any (slotIs · a b) || (p.addr == a && p.port == b)
theorem any_of (l : List S25) (f : S25 → Bool) (i : Nat) (hi : i < l.length) (h : f (rd_T25 l (i : Int)) = true) : l.any f = true := by
 rw [List.any_eq_true]
 refine ⟨l[i], List.getElem_mem hi, ?_⟩
 have : rd_T25 l (i : Int) = l[i] := by
  unfold rd_T25
  simp [List.getD_eq_getElem?_getD, List.getElem?_eq_getElem hi]
 rwa [this] at h
theorem any_none (l : List S25) (f : S25 → Bool) (h : ∀ i : Nat, i < l.length → f (rd_T25 l (i : Int)) = false) : l.any f = false := by
 rw [List.any_eq_false]
 intro x hx
 obtain ⟨i, hi, rfl⟩ := List.getElem_of_mem hx
 have := h i hi
 unfold rd_T25 at this
 simp [List.getD_eq_getElem?_getD, List.getElem?_eq_getElem hi] at this
 simp [this]
theorem held_calls (p : PL) (hp : p.sl.length = 64) (a b : Int) (w0 : World) : Calls Tryz.prog 94 #[.agg (pcs p), .int .i64 a, .int .i64 b] w0 fun e w' => e = .returned (.bool (heldP p a b)) ∧ Below w0.heap.size w0 w' := by
 have hu25 := Tryz.underlying25
 have hu33 := pool33
 have hu26 := slots26
 have HP := mA hp
 clear hp
 go_enter Tryz.func94, Tryz.ntmps94
 go_wp2_with (first | ((with_reducible refine zd 3 ?_); refine pl_box rfl rfl rfl ?_; intro g hg w hbox hb; have HBX := mA hbox; have HB0 := mA hb; clear hbox hb hg))
 go_loopg [7] 65 (fun kq v7 w' => ∃ i : Nat, v7 = .int .i64 i ∧ Aside0 (kq + i = 65 ∧ i ≤ 64) ∧ Aside0 (∀ j : Nat, j < i → slotIs (rd_T25 p.sl j) a b = false) ∧ Aside0 (Below w.heap.size w w'))
 case atStart => exact ⟨0, rfl, ⟨rfl, qN⟩, ⟨fun j hj => absurd hj uY⟩, ⟨Below.refl _ _⟩⟩
 case round =>
  obtain ⟨i, rfl, HK, HN, HB⟩ := hrel
  cases gk with
  | zero => have := HK.out; omega
  | succ k1 =>
   have hbg := (HBX.out.below HB.out)
   have hsl := slots_C hbg (pcs_slots p HP.out)
   by_cases hi : (i : Int) < 64
   ·have hi0 : decide ((i : Int) < 64) = true := decide_eq_true hi
    have p1 : 0 ≤ (i : Int) := Int.natCast_nonneg i
    obtain ⟨ad, e1, hx0, hx1, hx2, hx3, hx4⟩ := at_T25 hsl (i : Int) p1 (by rw [HP.out]; exact hi)
    cases e1
    simp only [add_in, Int.toNat_natCast] at hx0 hx1 hx2 hx3 hx4
    replace hi := eq_true hi
    replace p1 := eq_true p1
    have HSL := mA hsl
    have HBG := mA hbg
    clear hsl hbg
    by_cases h0 : (rd_T25 p.sl i).f0 = 0
    ·have hm : Aside0 (slotIs (rd_T25 p.sl (i : Int)) a b = false) := ⟨by simp [slotIs, h0]⟩
     have h0b : ((rd_T25 p.sl i).f0 != 0) = false := by simp [h0]
     go_wp2
     go_roundg k1
     case measure => omega
     case rel => exact ⟨i + 1, qS, ⟨kP⟩, ⟨fun j hj => by
      rcases Nat.lt_succ_iff_lt_or_eq.1 hj with h_ | rfl
      ·exact HN.out j h_
      ·exact hm.out⟩, ⟨qZ⟩⟩
    have h0b : ((rd_T25 p.sl i).f0 != 0) = true := by simp [h0]
    by_cases h1 : (rd_T25 p.sl i).f1 = a
    rotate_left
    ·have hm : Aside0 (slotIs (rd_T25 p.sl (i : Int)) a b = false) := ⟨by simp [slotIs, h1]⟩
     have h1b : ((rd_T25 p.sl i).f1 == a) = false := by simp [h1]
     go_wp2
     go_roundg k1
     case measure => omega
     case rel => exact ⟨i + 1, qS, ⟨kP⟩, ⟨fun j hj => by
      rcases Nat.lt_succ_iff_lt_or_eq.1 hj with h_ | rfl
      ·exact HN.out j h_
      ·exact hm.out⟩, ⟨qZ⟩⟩
    have h1b : ((rd_T25 p.sl i).f1 == a) = true := by simp [h1]
    by_cases h2 : (rd_T25 p.sl i).f2 = b
    rotate_left
    ·have hm : Aside0 (slotIs (rd_T25 p.sl (i : Int)) a b = false) := ⟨by simp [slotIs, h2]⟩
     have h2b : ((rd_T25 p.sl i).f2 == b) = false := by simp [h2]
     go_wp2
     go_roundg k1
     case measure => omega
     case rel => exact ⟨i + 1, qS, ⟨kP⟩, ⟨fun j hj => by
      rcases Nat.lt_succ_iff_lt_or_eq.1 hj with h_ | rfl
      ·exact HN.out j h_
      ·exact hm.out⟩, ⟨qZ⟩⟩
    have h2b : ((rd_T25 p.sl i).f2 == b) = true := by simp [h2]
    have hm : Aside0 (heldP p a b = true) := ⟨by unfold heldP; rw [any_of p.sl _ i (by have h1_ := HP.out; have h2_ := of_eq_true hi; omega) (by simp [slotIs, h0, h1, h2]), Bool.true_or]⟩
    clear h0 h1 h2
    go_wp2
    go_ret
    exact ⟨by rw [hm.out]; rfl, below_step HB0.out xB⟩
   ·have hi0 : decide ((i : Int) < 64) = false := decide_eq_false hi
    have hn : Aside0 (p.sl.any (slotIs · a b) = false) := ⟨any_none _ _ fun j hj => HN.out j (by have h1_ := HP.out; have h2_ := HK.out; omega)⟩
    clear hi hsl
    have hc1 := bc hbg 1
    have hc2 := bc hbg 2
    have HBG := mA hbg
    clear hbg
    by_cases h1 : p.addr = a
    ·have h1b : (p.addr == a) = true := by simp [h1]
     have hm : Aside0 (heldP p a b = (p.port == b)) := ⟨by unfold heldP; rw [hn.out, h1b, Bool.false_or, Bool.true_and]⟩
     go_wp2
     go_ret
     exact ⟨by rw [hm.out]; rfl, below_step HB0.out xB⟩
    ·have h1b : (p.addr == a) = false := by simp [h1]
     have hm : Aside0 (heldP p a b = false) := ⟨by unfold heldP; rw [hn.out, h1b, Bool.false_or, Bool.false_and]⟩
     go_wp2
     go_ret
     exact ⟨by rw [hm.out]; rfl, below_step HB0.out xB⟩
section
section
variable {ops : Array Oper} {rest : List Oper} {o : Oper} {a : Act} {Q : Exit → Act → World → Prop} {W : World}
theorem any_box (hgd : o.guard = none) {x : Operand} {t : Nat} (ho : o.op = .box t x) {cs : Array Value} (hx : a.eval x = .agg cs)
 (h : ∀ g, g = W.heap.size → ∀ w1, Blk w1 g t cs → Below W.heap.size W w1 → wpList Tryz.prog ops Q rest (a.put o.dst (.pointer (some ⟨g, 0, none⟩))) w1) : wpList Tryz.prog ops Q (o :: rest) a W := by
 have hrun : (execOp a.eval o).run Tryz.prog W = .ok (.value (.pointer (some ⟨W.heap.size, 0, none⟩))) (W.alloc (.cells cs t (0, 0))) := by
  unfold execOp
  simp only [ho, hx]
  rfl
 exact Kd.event_run hgd hrun (h _ rfl _ (blk_new W _) (below_alloc (Below.refl _ _) _))
end
def badP (p : PL) (k s a b : Int) : Bool :=
 if k = 1 then (rd_T25 p.sl s).f0 != 0 || heldP p a b
 else if k = 2 ∨ k = 4 then (rd_T25 p.sl s).f0 != 1 && (rd_T25 p.sl s).f0 != 3
 else if k = 3 then (rd_T25 p.sl s).f0 != 2
 else if k = 5 then (rd_T25 p.sl s).f0 != 4
 else false
theorem bad1t (p : PL) (hp : p.sl.length = 64) (s a b c x y : Int) (h0 : 0 ≤ s) (h1 : s < 64) (hst : (rd_T25 p.sl s).f0 = 0) (w0 : World) : Calls Tryz.prog 53 #[.agg (pcs p), .agg #[.int .i64 1, .int .i64 s, .int .i64 a, .int .i64 b, .int .i64 c, .int .u64 x, .int .u64 y]] w0 fun e w' => e = .returned (.bool (heldP p a b)) ∧ Below w0.heap.size w0 w' := by
 have hu25 := Tryz.underlying25
 have hu33 := pool33
 have hu26 := slots26
 have hu49 := Tryz.underlying61
 have HP := mA hp
 have h1' := eq_true h1
 have h0' := eq_true h0
 have H01 := mA (And.intro h0 h1)
 clear hp h0 h1
 go_enter Tryz.func53, Tryz.ntmps53
 go_upto_region 1 with (first | ((with_reducible refine zd 2 ?_); refine pl_box rfl rfl rfl ?_; intro g hg w hbox hb; have HBX := mA hbox; have HB0 := mA hb; clear hbox hb hg) | ((with_reducible refine zd 3 ?_); refine any_box rfl rfl rfl ?_; intro q hq w1 hqb hb1; have HQX := mA hqb; have HB1 := mA hb1; have hbg := HBX.out.below hb1; clear hqb hb1 hq))
 have HB := mA (below_step HB0.out HB1.out)
 have hsl := slots_C hbg (pcs_slots p HP.out)
 obtain ⟨ad, e1, hx0, hx1, hx2, hx3, hx4⟩ := at_T25 hsl s H01.out.1 vV
 cases e1
 simp only [add_in] at hx0 hx1 hx2 hx3 hx4
 have HBG := mA hbg
 clear hbg hsl
 obtain ⟨he0, he1, he2, he3⟩ := bk4 HQX.out
 go_upto_region 2 with fail
 clear hu33 hu26 hx0 hx1 hx2 hx3 hx4 h0' h1'
 have hs1 : ((rd_T25 p.sl s).f0 != 0) = false := by simp [hst]
 clear hst
 go_wp2_with fail
 refine wp_ld33 (x := .tmp 2) rfl rfl HBG.out HP.out ?_
 go_wp2_with (first | (go_at_call 94; refine (held_calls p HP.out a b _).mono ?_; rintro e' w2 ⟨rfl, hb2⟩; replace HB := mA (below_step HB.out hb2); clear hb2 he0 he1 he2 he3))
 go_ret
 exact ⟨by rfl, qZ⟩
theorem bad1f (p : PL) (hp : p.sl.length = 64) (s a b c x y : Int) (h0 : 0 ≤ s) (h1 : s < 64) (hst : (rd_T25 p.sl s).f0 ≠ 0) (w0 : World) : Calls Tryz.prog 53 #[.agg (pcs p), .agg #[.int .i64 1, .int .i64 s, .int .i64 a, .int .i64 b, .int .i64 c, .int .u64 x, .int .u64 y]] w0 fun e w' => e = .returned (.bool (true)) ∧ Below w0.heap.size w0 w' := by
 have hu25 := Tryz.underlying25
 have hu33 := pool33
 have hu26 := slots26
 have hu49 := Tryz.underlying61
 have HP := mA hp
 have h1' := eq_true h1
 have h0' := eq_true h0
 have H01 := mA (And.intro h0 h1)
 clear hp h0 h1
 go_enter Tryz.func53, Tryz.ntmps53
 go_upto_region 1 with (first | ((with_reducible refine zd 2 ?_); refine pl_box rfl rfl rfl ?_; intro g hg w hbox hb; have HBX := mA hbox; have HB0 := mA hb; clear hbox hb hg) | ((with_reducible refine zd 3 ?_); refine any_box rfl rfl rfl ?_; intro q hq w1 hqb hb1; have HQX := mA hqb; have HB1 := mA hb1; have hbg := HBX.out.below hb1; clear hqb hb1 hq))
 have HB := mA (below_step HB0.out HB1.out)
 have hsl := slots_C hbg (pcs_slots p HP.out)
 obtain ⟨ad, e1, hx0, hx1, hx2, hx3, hx4⟩ := at_T25 hsl s H01.out.1 vV
 cases e1
 simp only [add_in] at hx0 hx1 hx2 hx3 hx4
 have HBG := mA hbg
 clear hbg hsl
 obtain ⟨he0, he1, he2, he3⟩ := bk4 HQX.out
 go_upto_region 2 with fail
 clear hu33 hu26 hx0 hx1 hx2 hx3 hx4 h0' h1'
 have hs1 : ((rd_T25 p.sl s).f0 != 0) = true := by simp [hst]
 clear hst
 go_wp2_with fail
 go_ret
 exact ⟨by rfl, qZ⟩
theorem bad2t (p : PL) (hp : p.sl.length = 64) (s a b c x y : Int) (h0 : 0 ≤ s) (h1 : s < 64) (hst : (rd_T25 p.sl s).f0 = 1) (w0 : World) : Calls Tryz.prog 53 #[.agg (pcs p), .agg #[.int .i64 2, .int .i64 s, .int .i64 a, .int .i64 b, .int .i64 c, .int .u64 x, .int .u64 y]] w0 fun e w' => e = .returned (.bool (false)) ∧ Below w0.heap.size w0 w' := by
 have hu25 := Tryz.underlying25
 have hu33 := pool33
 have hu26 := slots26
 have hu49 := Tryz.underlying61
 have HP := mA hp
 have h1' := eq_true h1
 have h0' := eq_true h0
 have H01 := mA (And.intro h0 h1)
 clear hp h0 h1
 go_enter Tryz.func53, Tryz.ntmps53
 go_upto_region 1 with (first | ((with_reducible refine zd 2 ?_); refine pl_box rfl rfl rfl ?_; intro g hg w hbox hb; have HBX := mA hbox; have HB0 := mA hb; clear hbox hb hg) | ((with_reducible refine zd 3 ?_); refine any_box rfl rfl rfl ?_; intro q hq w1 hqb hb1; have HQX := mA hqb; have HB1 := mA hb1; have hbg := HBX.out.below hb1; clear hqb hb1 hq))
 have HB := mA (below_step HB0.out HB1.out)
 have hsl := slots_C hbg (pcs_slots p HP.out)
 obtain ⟨ad, e1, hx0, hx1, hx2, hx3, hx4⟩ := at_T25 hsl s H01.out.1 vV
 cases e1
 simp only [add_in] at hx0 hx1 hx2 hx3 hx4
 have HBG := mA hbg
 clear hbg hsl
 obtain ⟨he0, he1, he2, he3⟩ := bk4 HQX.out
 go_upto_region 2 with fail
 clear hu33 hu26 hx0 hx1 hx2 hx3 hx4 h0' h1'
 have hs1 : ((rd_T25 p.sl s).f0 != 1) = false := by simp [hst]
 clear hst
 go_wp2_with fail
 go_ret
 exact ⟨by rfl, qZ⟩
theorem bad2f (p : PL) (hp : p.sl.length = 64) (s a b c x y : Int) (h0 : 0 ≤ s) (h1 : s < 64) (hst : (rd_T25 p.sl s).f0 ≠ 1) (w0 : World) : Calls Tryz.prog 53 #[.agg (pcs p), .agg #[.int .i64 2, .int .i64 s, .int .i64 a, .int .i64 b, .int .i64 c, .int .u64 x, .int .u64 y]] w0 fun e w' => e = .returned (.bool ((rd_T25 p.sl s).f0 != 3)) ∧ Below w0.heap.size w0 w' := by
 have hu25 := Tryz.underlying25
 have hu33 := pool33
 have hu26 := slots26
 have hu49 := Tryz.underlying61
 have HP := mA hp
 have h1' := eq_true h1
 have h0' := eq_true h0
 have H01 := mA (And.intro h0 h1)
 clear hp h0 h1
 go_enter Tryz.func53, Tryz.ntmps53
 go_upto_region 1 with (first | ((with_reducible refine zd 2 ?_); refine pl_box rfl rfl rfl ?_; intro g hg w hbox hb; have HBX := mA hbox; have HB0 := mA hb; clear hbox hb hg) | ((with_reducible refine zd 3 ?_); refine any_box rfl rfl rfl ?_; intro q hq w1 hqb hb1; have HQX := mA hqb; have HB1 := mA hb1; have hbg := HBX.out.below hb1; clear hqb hb1 hq))
 have HB := mA (below_step HB0.out HB1.out)
 have hsl := slots_C hbg (pcs_slots p HP.out)
 obtain ⟨ad, e1, hx0, hx1, hx2, hx3, hx4⟩ := at_T25 hsl s H01.out.1 vV
 cases e1
 simp only [add_in] at hx0 hx1 hx2 hx3 hx4
 have HBG := mA hbg
 clear hbg hsl
 obtain ⟨he0, he1, he2, he3⟩ := bk4 HQX.out
 go_upto_region 2 with fail
 clear hu33 hu26 hx0 hx1 hx2 hx3 hx4 h0' h1'
 have hs1 : ((rd_T25 p.sl s).f0 != 1) = true := by simp [hst]
 clear hst
 go_wp2_with fail
 go_ret
 exact ⟨by rfl, qZ⟩
theorem bad4t (p : PL) (hp : p.sl.length = 64) (s a b c x y : Int) (h0 : 0 ≤ s) (h1 : s < 64) (hst : (rd_T25 p.sl s).f0 = 1) (w0 : World) : Calls Tryz.prog 53 #[.agg (pcs p), .agg #[.int .i64 4, .int .i64 s, .int .i64 a, .int .i64 b, .int .i64 c, .int .u64 x, .int .u64 y]] w0 fun e w' => e = .returned (.bool (false)) ∧ Below w0.heap.size w0 w' := by
 have hu25 := Tryz.underlying25
 have hu33 := pool33
 have hu26 := slots26
 have hu49 := Tryz.underlying61
 have HP := mA hp
 have h1' := eq_true h1
 have h0' := eq_true h0
 have H01 := mA (And.intro h0 h1)
 clear hp h0 h1
 go_enter Tryz.func53, Tryz.ntmps53
 go_upto_region 1 with (first | ((with_reducible refine zd 2 ?_); refine pl_box rfl rfl rfl ?_; intro g hg w hbox hb; have HBX := mA hbox; have HB0 := mA hb; clear hbox hb hg) | ((with_reducible refine zd 3 ?_); refine any_box rfl rfl rfl ?_; intro q hq w1 hqb hb1; have HQX := mA hqb; have HB1 := mA hb1; have hbg := HBX.out.below hb1; clear hqb hb1 hq))
 have HB := mA (below_step HB0.out HB1.out)
 have hsl := slots_C hbg (pcs_slots p HP.out)
 obtain ⟨ad, e1, hx0, hx1, hx2, hx3, hx4⟩ := at_T25 hsl s H01.out.1 vV
 cases e1
 simp only [add_in] at hx0 hx1 hx2 hx3 hx4
 have HBG := mA hbg
 clear hbg hsl
 obtain ⟨he0, he1, he2, he3⟩ := bk4 HQX.out
 go_upto_region 2 with fail
 clear hu33 hu26 hx0 hx1 hx2 hx3 hx4 h0' h1'
 have hs1 : ((rd_T25 p.sl s).f0 != 1) = false := by simp [hst]
 clear hst
 go_wp2_with fail
 go_ret
 exact ⟨by rfl, qZ⟩
theorem bad4f (p : PL) (hp : p.sl.length = 64) (s a b c x y : Int) (h0 : 0 ≤ s) (h1 : s < 64) (hst : (rd_T25 p.sl s).f0 ≠ 1) (w0 : World) : Calls Tryz.prog 53 #[.agg (pcs p), .agg #[.int .i64 4, .int .i64 s, .int .i64 a, .int .i64 b, .int .i64 c, .int .u64 x, .int .u64 y]] w0 fun e w' => e = .returned (.bool ((rd_T25 p.sl s).f0 != 3)) ∧ Below w0.heap.size w0 w' := by
 have hu25 := Tryz.underlying25
 have hu33 := pool33
 have hu26 := slots26
 have hu49 := Tryz.underlying61
 have HP := mA hp
 have h1' := eq_true h1
 have h0' := eq_true h0
 have H01 := mA (And.intro h0 h1)
 clear hp h0 h1
 go_enter Tryz.func53, Tryz.ntmps53
 go_upto_region 1 with (first | ((with_reducible refine zd 2 ?_); refine pl_box rfl rfl rfl ?_; intro g hg w hbox hb; have HBX := mA hbox; have HB0 := mA hb; clear hbox hb hg) | ((with_reducible refine zd 3 ?_); refine any_box rfl rfl rfl ?_; intro q hq w1 hqb hb1; have HQX := mA hqb; have HB1 := mA hb1; have hbg := HBX.out.below hb1; clear hqb hb1 hq))
 have HB := mA (below_step HB0.out HB1.out)
 have hsl := slots_C hbg (pcs_slots p HP.out)
 obtain ⟨ad, e1, hx0, hx1, hx2, hx3, hx4⟩ := at_T25 hsl s H01.out.1 vV
 cases e1
 simp only [add_in] at hx0 hx1 hx2 hx3 hx4
 have HBG := mA hbg
 clear hbg hsl
 obtain ⟨he0, he1, he2, he3⟩ := bk4 HQX.out
 go_upto_region 2 with fail
 clear hu33 hu26 hx0 hx1 hx2 hx3 hx4 h0' h1'
 have hs1 : ((rd_T25 p.sl s).f0 != 1) = true := by simp [hst]
 clear hst
 go_wp2_with fail
 go_ret
 exact ⟨by rfl, qZ⟩
theorem bad3 (p : PL) (hp : p.sl.length = 64) (s a b c x y : Int) (h0 : 0 ≤ s) (h1 : s < 64)  (w0 : World) : Calls Tryz.prog 53 #[.agg (pcs p), .agg #[.int .i64 3, .int .i64 s, .int .i64 a, .int .i64 b, .int .i64 c, .int .u64 x, .int .u64 y]] w0 fun e w' => e = .returned (.bool ((rd_T25 p.sl s).f0 != 2)) ∧ Below w0.heap.size w0 w' := by
 have hu25 := Tryz.underlying25
 have hu33 := pool33
 have hu26 := slots26
 have hu49 := Tryz.underlying61
 have HP := mA hp
 have h1' := eq_true h1
 have h0' := eq_true h0
 have H01 := mA (And.intro h0 h1)
 clear hp h0 h1
 go_enter Tryz.func53, Tryz.ntmps53
 go_upto_region 1 with (first | ((with_reducible refine zd 2 ?_); refine pl_box rfl rfl rfl ?_; intro g hg w hbox hb; have HBX := mA hbox; have HB0 := mA hb; clear hbox hb hg) | ((with_reducible refine zd 3 ?_); refine any_box rfl rfl rfl ?_; intro q hq w1 hqb hb1; have HQX := mA hqb; have HB1 := mA hb1; have hbg := HBX.out.below hb1; clear hqb hb1 hq))
 have HB := mA (below_step HB0.out HB1.out)
 have hsl := slots_C hbg (pcs_slots p HP.out)
 obtain ⟨ad, e1, hx0, hx1, hx2, hx3, hx4⟩ := at_T25 hsl s H01.out.1 vV
 cases e1
 simp only [add_in] at hx0 hx1 hx2 hx3 hx4
 have HBG := mA hbg
 clear hbg hsl
 obtain ⟨he0, he1, he2, he3⟩ := bk4 HQX.out
 go_upto_region 2 with fail
 clear hu33 hu26 hx0 hx1 hx2 hx3 hx4 h0' h1'
 go_wp2_with fail
 go_ret
 exact ⟨by rfl, qZ⟩
theorem bad5 (p : PL) (hp : p.sl.length = 64) (s a b c x y : Int) (h0 : 0 ≤ s) (h1 : s < 64)  (w0 : World) : Calls Tryz.prog 53 #[.agg (pcs p), .agg #[.int .i64 5, .int .i64 s, .int .i64 a, .int .i64 b, .int .i64 c, .int .u64 x, .int .u64 y]] w0 fun e w' => e = .returned (.bool ((rd_T25 p.sl s).f0 != 4)) ∧ Below w0.heap.size w0 w' := by
 have hu25 := Tryz.underlying25
 have hu33 := pool33
 have hu26 := slots26
 have hu49 := Tryz.underlying61
 have HP := mA hp
 have h1' := eq_true h1
 have h0' := eq_true h0
 have H01 := mA (And.intro h0 h1)
 clear hp h0 h1
 go_enter Tryz.func53, Tryz.ntmps53
 go_upto_region 1 with (first | ((with_reducible refine zd 2 ?_); refine pl_box rfl rfl rfl ?_; intro g hg w hbox hb; have HBX := mA hbox; have HB0 := mA hb; clear hbox hb hg) | ((with_reducible refine zd 3 ?_); refine any_box rfl rfl rfl ?_; intro q hq w1 hqb hb1; have HQX := mA hqb; have HB1 := mA hb1; have hbg := HBX.out.below hb1; clear hqb hb1 hq))
 have HB := mA (below_step HB0.out HB1.out)
 have hsl := slots_C hbg (pcs_slots p HP.out)
 obtain ⟨ad, e1, hx0, hx1, hx2, hx3, hx4⟩ := at_T25 hsl s H01.out.1 vV
 cases e1
 simp only [add_in] at hx0 hx1 hx2 hx3 hx4
 have HBG := mA hbg
 clear hbg hsl
 obtain ⟨he0, he1, he2, he3⟩ := bk4 HQX.out
 go_upto_region 2 with fail
 clear hu33 hu26 hx0 hx1 hx2 hx3 hx4 h0' h1'
 go_wp2_with fail
 go_ret
 exact ⟨by rfl, qZ⟩
theorem bad6 (p : PL) (hp : p.sl.length = 64) (s a b c x y : Int) (h0 : 0 ≤ s) (h1 : s < 64)  (w0 : World) : Calls Tryz.prog 53 #[.agg (pcs p), .agg #[.int .i64 6, .int .i64 s, .int .i64 a, .int .i64 b, .int .i64 c, .int .u64 x, .int .u64 y]] w0 fun e w' => e = .returned (.bool (false)) ∧ Below w0.heap.size w0 w' := by
 have hu25 := Tryz.underlying25
 have hu33 := pool33
 have hu26 := slots26
 have hu49 := Tryz.underlying61
 have HP := mA hp
 have h1' := eq_true h1
 have h0' := eq_true h0
 have H01 := mA (And.intro h0 h1)
 clear hp h0 h1
 go_enter Tryz.func53, Tryz.ntmps53
 go_upto_region 1 with (first | ((with_reducible refine zd 2 ?_); refine pl_box rfl rfl rfl ?_; intro g hg w hbox hb; have HBX := mA hbox; have HB0 := mA hb; clear hbox hb hg) | ((with_reducible refine zd 3 ?_); refine any_box rfl rfl rfl ?_; intro q hq w1 hqb hb1; have HQX := mA hqb; have HB1 := mA hb1; have hbg := HBX.out.below hb1; clear hqb hb1 hq))
 have HB := mA (below_step HB0.out HB1.out)
 have hsl := slots_C hbg (pcs_slots p HP.out)
 obtain ⟨ad, e1, hx0, hx1, hx2, hx3, hx4⟩ := at_T25 hsl s H01.out.1 vV
 cases e1
 simp only [add_in] at hx0 hx1 hx2 hx3 hx4
 have HBG := mA hbg
 clear hbg hsl
 obtain ⟨he0, he1, he2, he3⟩ := bk4 HQX.out
 go_upto_region 2 with fail
 clear hu33 hu26 hx0 hx1 hx2 hx3 hx4 h0' h1'
 go_wp2_with fail
 go_ret
 exact ⟨by rfl, qZ⟩
theorem bad_calls (p : PL) (hp : p.sl.length = 64) (k s a b c x y : Int) (hk : 1 ≤ k ∧ k ≤ 6) (h0 : 0 ≤ s) (h1 : s < 64) (w0 : World) : Calls Tryz.prog 53 #[.agg (pcs p), .agg #[.int .i64 k, .int .i64 s, .int .i64 a, .int .i64 b, .int .i64 c, .int .u64 x, .int .u64 y]] w0 fun e w' => e = .returned (.bool (badP p k s a b)) ∧ Below w0.heap.size w0 w' := by
 have hk' : k = 1 ∨ k = 2 ∨ k = 3 ∨ k = 4 ∨ k = 5 ∨ k = 6 := by omega
 have nt : ∀ x y : Int, x ≠ y → (x != y) = true := fun x y h => bne_iff_ne.2 h
 rcases hk' with rfl | rfl | rfl | rfl | rfl | rfl
 ·by_cases hst : (rd_T25 p.sl s).f0 = 0
  ·rw [show badP p 1 s a b = heldP p a b from by simp [badP, hst]]; exact bad1t p hp s a b c x y h0 h1 hst w0
  ·rw [show badP p 1 s a b = true from by simp [badP, hst]]; exact bad1f p hp s a b c x y h0 h1 hst w0
 ·by_cases hst : (rd_T25 p.sl s).f0 = 1
  ·rw [show badP p 2 s a b = false from by simp [badP, hst]]; exact bad2t p hp s a b c x y h0 h1 hst w0
  ·rw [show badP p 2 s a b = ((rd_T25 p.sl s).f0 != 3) from by simp [badP, nt _ _ hst]]; exact bad2f p hp s a b c x y h0 h1 hst w0
 ·exact bad3 p hp s a b c x y h0 h1 w0
 ·by_cases hst : (rd_T25 p.sl s).f0 = 1
  ·rw [show badP p 4 s a b = false from by simp [badP, hst]]; exact bad4t p hp s a b c x y h0 h1 hst w0
  ·rw [show badP p 4 s a b = ((rd_T25 p.sl s).f0 != 3) from by simp [badP, nt _ _ hst]]; exact bad4f p hp s a b c x y h0 h1 hst w0
 ·exact bad5 p hp s a b c x y h0 h1 w0
 ·exact bad6 p hp s a b c x y h0 h1 w0
end
section
structure AS (w0 : World) (g q r : Nat) (P E R : Array Value) (w : World) : Prop where
 hg : Blk w g 33 P
 hq : Blk w q 61 E
 hr : Blk w r 33 R
 below : Below w0.heap.size w0 w
 ge : w0.heap.size ≤ g ∧ w0.heap.size ≤ q ∧ w0.heap.size ≤ r
 ne : g < q ∧ q < r
theorem AS.by_below {w0 : World} {g q r : Nat} {P E R : Array Value} {w w' : World} (h : AS w0 g q r P E R w) (hb : Below w.heap.size w w') : AS w0 g q r P E R w' :=
 ⟨h.hg.below hb, h.hq.below hb, h.hr.below hb, below_step h.below hb, h.ge, h.ne⟩
theorem AS.stG {w0 : World} {g q r : Nat} {P E R P' : Array Value} {w w' : World} (h : AS w0 g q r P E R w) (hb : Blk w' g 33 P') (hg : w.grownBy w' (some g)) : AS w0 g q r P' E R w' :=
 ⟨hb, h.hq.grown hg (fun e => by injection e with e; have := h.ne; omega), h.hr.grown hg (fun e => by injection e with e; have := h.ne; omega), h.below.grown hg (below_size h.below) (fun k hk => by injection hk with hk; subst hk; exact h.ge.1), h.ge, h.ne⟩
theorem AS.stR {w0 : World} {g q r : Nat} {P E R R' : Array Value} {w w' : World} (h : AS w0 g q r P E R w) (hb : Blk w' r 33 R') (hg : w.grownBy w' (some r)) : AS w0 g q r P E R' w' :=
 ⟨h.hg.grown hg (fun e => by injection e with e; have := h.ne; omega), h.hq.grown hg (fun e => by injection e with e; have := h.ne; omega), hb, h.below.grown hg (below_size h.below) (fun k hk => by injection hk with hk; subst hk; exact h.ge.2.2), h.ge, h.ne⟩
theorem AS.stS {w0 : World} {g q r s : Nat} {P E R : Array Value} {w w' : World} (h : AS w0 g q r P E R w) (hs : r < s) (hg : w.grownBy w' (some s)) : AS w0 g q r P E R w' :=
 ⟨h.hg.grown hg (fun e => by injection e with e; have := h.ne; omega), h.hq.grown hg (fun e => by injection e with e; have := h.ne; omega), h.hr.grown hg (fun e => by injection e with e; omega), h.below.grown hg (below_size h.below) (fun k hk => by injection hk with hk; subst hk; have := h.ge; omega), h.ge, h.ne⟩
section
variable {ops : Array Oper} {rest : List Oper} {o : Oper} {a : Act} {Q : Exit → Act → World → Prop} {W : World}
theorem run_st3 (ev : Operand → Value) (o : Oper) (w : World) (g t i : Nat) (cs : Array Value) (x y : Operand) (v : Int) (ho : o.op = .store 3 x y) (hx : ev x = .pointer (some ⟨g, i, none⟩)) (hy : ev y = .int .i64 v) (hb : Blk w g t cs) (hi : i < cs.size) :
 (execOp ev o).run Tryz.prog w = .ok .skip (w.setCell ⟨g, i, none⟩ (.int .i64 v)) := by
 have hc : w.cell? ⟨g, i, none⟩ = some cs[i] := by rw [blk_cell hb, Array.getElem?_eq_getElem hi]
 have hf : w.frozen? ⟨g, i, none⟩ = false := blk_frozen hb i
 cases o with
 | mk dst op ty pos after guard =>
  obtain rfl : op = _ := ho
  unfold execOp
  simp only [hx, hy]
  go_simp
theorem st3_event (hN : o.dst = none) (hgd : o.guard = none) (x y : Operand) (ho : o.op = .store 3 x y) {g t i : Nat} {cs : Array Value} {v : Int} (hx : a.eval x = .pointer (some ⟨g, i, none⟩)) (hy : a.eval y = .int .i64 v) (hb : Blk W g t cs) (hi : i < cs.size)
 (h : ∀ w', Blk w' g t (cs.setIfInBounds i (.int .i64 v)) → W.grownBy w' (some g) → wpList Tryz.prog ops Q rest a w') : wpList Tryz.prog ops Q (o :: rest) a W := by
 refine wpList_plain hgd fun K hK => ?_
 unfold Oper.wp
 rw [run_st3 _ _ _ g t i cs x y v ho hx hy hb hi]
 show K (a.put o.dst undef) _
 rw [hN]
 exact hK _ _ (h _ (blk_set hb i _) (grown_set _ _ _ _))
theorem stm_event (hN : o.dst = none) (hgd : o.guard = none) (ty : Nat) (x y : Operand) (ho : o.op = .store ty x y) {g t i : Nat} {cs cells : Array Value} (hx : a.eval x = .pointer (some ⟨g, i, none⟩)) (hy : a.eval y = .agg cells) (hb : Blk W g t cs) (hi : i + cells.size ≤ cs.size)
 (hs : (Tryz.prog.info? ty).map (·.size) = some cells.size) (h1 : cells.all (·.oneCell') = true)
 (h : ∀ w', Blk w' g t (setMany cs i cells.toList) → W.grownBy w' (some g) → wpList Tryz.prog ops Q rest a w') : wpList Tryz.prog ops Q (o :: rest) a W :=
 wpList_store_mid hgd ty x y ho g i cells hx hy (hb.there i _ hi) hs h1 (by
  have hp : a.put o.dst undef = a := by rw [hN]; rfl
  rw [hp]
  exact h _ (setCells_blk _ _ hb) (setCells_grown _ _ _ _))
end
def nextSlot (p : PL) (k s a b c : Int) : S25 :=
 if k = 1 then ⟨1, a, b, c, 0⟩
 else if k = 2 then { (rd_T25 p.sl s) with f0 := 2 }
 else if k = 3 then { (rd_T25 p.sl s) with f0 := 3 }
 else if k = 4 then { (rd_T25 p.sl s) with f0 := 4, f4 := p.ep }
 else if k = 5 then z25
 else rd_T25 p.sl s
def nextPool (p : PL) (k s a b c x y : Int) : PL :=
 if k = 6 then ⟨wrap64 (p.ver + 1), p.addr, p.port, p.sl.set s.toNat (nextSlot p k s a b c), wrap64 (p.ep + 1), p.k3, p.k4, p.k5, p.k6, x, y⟩
 else { p with ver := wrap64 (p.ver + 1), sl := p.sl.set s.toNat (nextSlot p k s a b c) }
def applyP (p : PL) (k s a b c x y : Int) : PL × Int :=
 if outB s 0 63 = true then (zeroP, 11)
 else if badP p k s a b = true then (zeroP, 12)
 else if k = 5 ∧ p.ep < wrap64 ((rd_T25 p.sl s).f4 + 3) then (zeroP, 13)
 else (nextPool p k s a b c x y, 0)
theorem zeroP_len : zeroP.sl.length = 64 := by simp [zeroP]
theorem nextPool_len (p : PL) (k s a b c x y : Int) : (nextPool p k s a b c x y).sl.length = p.sl.length := by
 unfold nextPool
 split <;> simp
theorem applyP_len (p : PL) (k s a b c x y : Int) (h : p.sl.length = 64) : (applyP p k s a b c x y).1.sl.length = 64 := by
 unfold applyP
 split
 ·exact zeroP_len
 ·split
  ·exact zeroP_len
  ·split
   ·exact zeroP_len
   ·rw [nextPool_len]; exact h
theorem pcs_ver (p : PL) (v : Int) : (pcs p).setIfInBounds 0 (.int .i64 v) = pcs { p with ver := v } := by
 apply Array.toList_inj.1
 simp [pcs, pcells, rcells]
theorem flat_set (l : List S25) : ∀ (i : Nat) (s : S25), i < l.length → flat (l.set i s) = setAt (flat l) (5 * i) (sv s) := by
 induction l with
 | nil => intro i s h; simp at h
 | cons t l ih =>
  intro i s h
  cases i with
  | zero => rfl
  | succ i =>
   have h' : i < l.length := by simpa using h
   have e := ih i s h'
   show sv t ++ flat (l.set i s) = _
   rw [e]
   show _ = setAt (sv t ++ flat l) (5 * (i + 1)) (sv s)
   unfold setAt
   have h5 : (sv t).length = 5 := rfl
   rw [show 5 * (i + 1) = (sv t).length + 5 * i from by rw [h5]; omega, List.take_length_add_append, show (sv t).length + 5 * i + (sv s).length = (sv t).length + (5 * i + (sv s).length) from by omega, List.drop_length_add_append, List.append_assoc]
theorem pcs_slot (p : PL) (h : p.sl.length = 64) (i : Nat) (hi : i < 64) (s : S25) : setMany (pcs p) (3 + i * 5) (sv s) = pcs { p with sl := p.sl.set i s } := by
 have h5 : (sv s).length = 5 := rfl
 rw [setMany_eq _ _ _ (by rw [pcs_size p h, h5]; omega)]
 show (setAt (pcells p) _ _).toArray = (pcells _).toArray
 congr 1
 show setAt (.int .i64 p.ver :: .int .i64 p.addr :: .int .i64 p.port :: (flat p.sl ++ rcells p)) _ _ = .int .i64 p.ver :: .int .i64 p.addr :: .int .i64 p.port :: (flat (p.sl.set i s) ++ rcells p)
 rw [flat_set _ _ _ uY]
 unfold setAt
 rw [show 3 + i * 5 = 5 * i + 1 + 1 + 1 from by omega, show 5 * i + 1 + 1 + 1 + (sv s).length = 5 * i + (sv s).length + 1 + 1 + 1 from by omega]
 simp only [List.take_succ_cons, List.drop_succ_cons, List.cons_append, List.nil_append]
 have hl : (flat p.sl).length = 320 := by rw [flat_length, h]
 rw [List.take_append_of_le_length uY, List.drop_append_of_le_length (by rw [h5]; omega)]
 simp only [List.append_assoc]
theorem pcs_rg (p : PL) (h : p.sl.length = 64) (e a b c d f g : Int) : setMany (pcs p) 323 [.int .i64 e, .int .u64 a, .int .u64 b, .int .u64 c, .int .u64 d, .int .u64 f, .int .u64 g] = pcs { p with ep := e, k1 := a, k2 := b, k3 := c, k4 := d, k5 := f, k6 := g } := by
 rw [setMany_eq _ _ _ (by rw [pcs_size p h]; simp)]
 show (setAt (pcells p) _ _).toArray = (pcells _).toArray
 congr 1
 show setAt (.int .i64 p.ver :: .int .i64 p.addr :: .int .i64 p.port :: (flat p.sl ++ rcells p)) _ _ = .int .i64 p.ver :: .int .i64 p.addr :: .int .i64 p.port :: (flat p.sl ++ rcells { p with ep := e, k1 := a, k2 := b, k3 := c, k4 := d, k5 := f, k6 := g })
 have hl : (flat p.sl).length = 320 := by rw [flat_length, h]
 unfold setAt
 rw [show 323 = 320 + 1 + 1 + 1 from rfl]
 simp only [List.take_succ_cons, List.cons_append, List.nil_append]
 rw [show 320 + 1 + 1 + 1 + ([Value.int .i64 e, .int .u64 a, .int .u64 b, .int .u64 c, .int .u64 d, .int .u64 f, .int .u64 g] : List Value).length = 327 + 1 + 1 + 1 from rfl]
 simp only [List.drop_succ_cons]
 rw [List.take_append_of_le_length uY, List.take_of_length_le uY, List.drop_eq_nil_of_le (by simp [rcells, hl])]
 rfl
end
section
set_option maxHeartbeats 4000000
def PLN (p : PL) (b : Bool) (nr : List Value) (ws : Value) : Array Value := (pcells p ++ (.bool b :: (nr ++ [ws]))).toArray
def nrZ : List Value := (List.replicate 64 [Value.int .u32 0, Value.bool false]).flatten
theorem nrZ_len : nrZ.length = 128 := by kernel_rfl
section
variable {p q : PL} {b b2 : Bool} {nr : List Value} {ws ws2 : Value} {w : World} {g : Nat}
theorem PLN_size (hp : p.sl.length = 64) (hn : nr.length = 128) : (PLN p b nr ws).size = 460 := by simp [PLN, pcells_length p hp, hn]
theorem PLN_low (hp : p.sl.length = 64) (j : Nat) (hj : j < 330) : (PLN p b nr ws)[j]? = (pcs p)[j]? := by
 unfold PLN pcs
 rw [List.getElem?_toArray, List.getElem?_toArray, List.getElem?_append_left (by rw [pcells_length p hp]; exact hj)]
theorem PLN_is (hp : p.sl.length = 64) : (PLN p b nr ws)[330]? = some (.bool b) := by
 unfold PLN
 rw [List.getElem?_toArray, List.getElem?_append_right (by rw [pcells_length p hp]; exact Nat.le_refl _), pcells_length p hp]
 rfl
theorem PLN_ws (hp : p.sl.length = 64) (hn : nr.length = 128) : (PLN p b nr ws)[459]? = some ws := by
 unfold PLN
 rw [List.getElem?_toArray, List.getElem?_append_right (by rw [pcells_length p hp]; decide), pcells_length p hp]
 show (Value.bool b :: (nr ++ [ws]))[128 + 1]? = some ws
 rw [List.getElem?_cons_succ, List.getElem?_append_right (by rw [hn]; exact Nat.le_refl _), hn]
 rfl
theorem PLN_setis (hp : p.sl.length = 64) : (PLN p b nr ws).setIfInBounds 330 (.bool b2) = PLN p b2 nr ws := by
 unfold PLN
 rw [List.setIfInBounds_toArray, List.set_append_right _ _ (by rw [pcells_length p hp]; exact Nat.le_refl _), pcells_length p hp]
 rfl
theorem PLN_setws (hp : p.sl.length = 64) (hn : nr.length = 128) : (PLN p b nr ws).setIfInBounds 459 ws2 = PLN p b nr ws2 := by
 unfold PLN
 rw [List.setIfInBounds_toArray, List.set_append_right _ _ (by rw [pcells_length p hp]; decide), pcells_length p hp]
 show (pcells p ++ (Value.bool b :: (nr ++ [ws])).set (128 + 1) ws2).toArray = _
 rw [List.set_cons_succ, List.set_append_right _ _ (by rw [hn]; exact Nat.le_refl _), hn]
 rfl
theorem PLN_range (hp : p.sl.length = 64) (h : Blk w g 70 (PLN p b nr ws)) : w.rangeAt g 0 (pcells p) := fun j v hj => by
 have hlt : j < 330 := by
  have := (List.getElem?_eq_some_iff.1 hj).1
  rwa [pcells_length p hp] at this
 rw [Nat.zero_add, blk_cell h, PLN_low hp j hlt]
 unfold pcs
 rw [List.getElem?_toArray]
 exact hj
theorem PLN_store (hp : p.sl.length = 64) (hq : q.sl.length = 64) (hn : nr.length = 128) (h : Blk w g 70 (PLN p b nr ws)) : Blk (w.setCells g 0 (pcells q)) g 70 (PLN q b nr ws) := by
 have h2 := setCells_blk (pcells q) 0 h
 rw [setMany_eq _ _ _ (by rw [pcells_length q hq, PLN_size hp hn]; decide), setAt, List.take_zero, List.nil_append, pcells_length q hq] at h2
 have e : (pcells q ++ (PLN p b nr ws).toList.drop (0 + 330)) = pcells q ++ (.bool b :: (nr ++ [ws])) := by
  congr 1
  show (pcells p ++ (Value.bool b :: (nr ++ [ws]))).drop 330 = _
  rw [List.drop_left' (pcells_length p hp)]
 rw [e] at h2
 exact h2
theorem run_ldu (ev : Operand → Value) (o : Oper) (w : World) (g : Nat) (x : Operand) (ho : o.op = .load 33 x) (hx : ev x = .pointer (some ⟨g, 0, none⟩)) (hb : Blk w g 70 (PLN p b nr ws)) (hp : p.sl.length = 64) :
 (execOp ev o).run Tryz.prog w = .ok (.value (.agg (pcs p))) w := by
 have hr := run_loadVar_mid (P := Tryz.prog) w g 0 33 (pcells p) _ (PLN_range hp hb) pool33 rfl (by rw [pcells_length p hp]; kernel_rfl)
 unfold execOp
 simp only [ho, hx, Instr.loadAt, Instr.sureAddr, Sem.run_bind, Sem.run_pure, Result.andThen_ok, hr]
 rfl
theorem run_stu (ev : Operand → Value) (o : Oper) (w : World) (g : Nat) (x y : Operand) (ho : o.op = .store 33 x y) (hx : ev x = .pointer (some ⟨g, 0, none⟩)) (hy : ev y = .agg (pcs q))
 (hb : Blk w g 70 (PLN p b nr ws)) (hp : p.sl.length = 64) (hq : q.sl.length = 64) (hn : nr.length = 128) : (execOp ev o).run Tryz.prog w = .ok .skip (w.setCells g 0 (pcells q)) := by
 have hr := run_storeVar_mid (P := Tryz.prog) w g 0 33 (pcs q) (hb.there 0 _ (by rw [pcs_size q hq, PLN_size hp hn]; decide)) (size33 q hq) (pcs_one q)
 unfold execOp
 simp only [ho, hx, hy, Instr.storeAt, Instr.sureAddr, Sem.run_bind, Sem.run_pure, Result.andThen_ok, hr]
 rfl
theorem grown_of_below {w w' : World} (h : Below w.heap.size w w') (row : Option Nat) : w.grownBy w' row := ⟨h.os, h.tape, h.output, h.size, fun i hi _ => h.block i hi⟩
end
section
variable {ops : Array Oper} {rest : List Oper} {o : Oper} {a : Act} {Q : Exit → Act → World → Prop} {W : World} {p q : PL} {b : Bool} {nr : List Value} {ws : Value}
theorem un_load {N : Tmp} (hd : o.dst = some N) (hgd : o.guard = none) (x : Operand) (ho : o.op = .load 33 x) {g : Nat} (hx : a.eval x = .pointer (some ⟨g, 0, none⟩)) (hb : Blk W g 70 (PLN p b nr ws)) (hp : p.sl.length = 64)
 (h : wpList Tryz.prog ops Q rest (a.put o.dst (.agg (pcs p))) W) : wpList Tryz.prog ops Q (o :: rest) a W :=
 Kd.event_run hgd (run_ldu _ _ _ g x ho hx hb hp) h
theorem un_store (hN : o.dst = none) (hgd : o.guard = none) (x y : Operand) (ho : o.op = .store 33 x y) {g : Nat} (hx : a.eval x = .pointer (some ⟨g, 0, none⟩)) (hy : a.eval y = .agg (pcs q)) (hb : Blk W g 70 (PLN p b nr ws)) (hp : p.sl.length = 64) (hq : q.sl.length = 64) (hn : nr.length = 128)
 (h : ∀ w', Blk w' g 70 (PLN q b nr ws) → W.grownBy w' (some g) → wpList Tryz.prog ops Q rest a w') : wpList Tryz.prog ops Q (o :: rest) a W := by
 refine wpList_plain hgd fun K hK => ?_
 unfold Oper.wp
 rw [run_stu _ _ _ g x y ho hx hy hb hp hq hn]
 show K (a.put o.dst undef) _
 rw [hN]
 exact hK _ _ (h _ (PLN_store hp hq hn hb) (setCells_grown _ _ _ _))
theorem un_build {N : Tmp} (hd : o.dst = some N) (hgd : o.guard = none) (ho : o.op = .build 70 #[]) (h : wpList Tryz.prog ops Q rest (a.put o.dst (.agg (PLN zeroP false nrZ (.slice none 0 0)))) W) : wpList Tryz.prog ops Q (o :: rest) a W := by
 refine Kd.event_run (w1 := W) (v := .agg (PLN zeroP false nrZ (.slice none 0 0))) hgd ?_ h
 cases o with
 | mk dst op ty pos after guard =>
  obtain rfl : op = _ := ho
  kernel_rfl
end
theorem newpl_calls (w : World) : Calls Tryz.prog 6 #[] w fun e w' => e = .returned (.pointer (some ⟨w.heap.size, 0, none⟩)) ∧ Blk w' w.heap.size 70 (PLN zeroP false nrZ (.slice none 0 0)) ∧ Below w.heap.size w w' := by
 have hsz : zeroP.sl.length = 64 := zeroP_len
 obtain ⟨z, hz⟩ : ∃ z, z = PLN zeroP false nrZ (.slice none 0 0) := ⟨_, rfl⟩
 have HZ := mA hz
 rw [← hz]
 clear hz hsz
 go_enter Tryz.func6, Tryz.ntmps6
 go_wp2_with (first
  | ((with_reducible refine zd 1 ?_); refine un_build (N := 1) rfl rfl rfl ?_; rw [← HZ.out])
  | ((with_reducible refine zd 2 ?_); refine any_box rfl rfl rfl ?_; intro g hg w1 hb hB; subst hg; have HG := mA hb; have HB := mA hB; clear hb hB))
 go_ret
 exact ⟨rfl, HG.out, HB.out⟩
theorem lay_calls (g : Nat) (p q : PL) (b : Bool) (nr : List Value) (ws : Value) (hp : p.sl.length = 64) (hq : q.sl.length = 64) (hn : nr.length = 128) (w : World) (hb : Blk w g 70 (PLN p b nr ws)) :
 Calls Tryz.prog 21 #[.pointer (some ⟨g, 0, none⟩), .agg (pcs q)] w fun e w' => e = .returned (.tuple #[]) ∧ Blk w' g 70 (PLN q true nr ws) ∧ w.grownBy w' (some g) := by
 have HG := mA hb
 have HP := mA hp
 have HQ := mA hq
 have HNR := mA hn
 clear hb hp hq hn
 go_enter Tryz.func21, Tryz.ntmps21
 go_upto_region 1 with (first
  | ((with_reducible refine zd 3 ?_); refine pl_box rfl rfl rfl ?_; intro s hs w1 hb1 hB1; have HS := mA hb1; have HSG : Aside0 (g < s) := ⟨by rw [hs]; exact HG.out.lt⟩; have HGR := mA (grown_of_below hB1 (some g)); have n_ := mA (HG.out.below hB1); clear HG hb1 hB1 hs; have HG := n_; clear n_))
 go_wp2_with (first
  | ((with_reducible refine zd 6 ?_); refine pl_load (N := 6) rfl rfl (.tmp 3) rfl rfl HS.out HQ.out ?_)
  | ((with_reducible refine zst 33 8 ?_); refine un_store rfl rfl (.tmp 8) (.tmp 6) rfl rfl rfl HG.out HP.out HQ.out HNR.out ?_; intro w2 hb2 hg2; have n_ := mA hb2; have m_ := mA (grown_trans HGR.out hg2); clear HG HGR hb2 hg2; have HG := n_; have HGR := m_; clear n_ m_; have c330 : w2.cell? ⟨g, 330, none⟩ = some (.bool b) := (blk_cell HG.out 330).trans (PLN_is HQ.out); have f330 := blk_frozen HG.out 330))
 first | go_end0 | ((try simp only [Exit.inBlock, Exit.then]); refine bodyPost_ret (results_none rfl _ _ _) rfl ?_)
 exact ⟨rfl, blk_put HG.out 330 _ (PLN_setis HQ.out), grown_trans HGR.out (grown_set _ _ _ _)⟩
theorem load_calls (g : Nat) (p q : PL) (b : Bool) (nr : List Value) (ws : Value) (x : List Int) (hp : p.sl.length = 64) (hq : q.sl.length = 64) (hn : nr.length = 128)
 (hwm : ∀ w, Calls Tryz.prog 22 #[.agg (pcs q)] w fun e w' => ∃ v, e = .returned v ∧ Kd.R (Kd.int .i64) 3 w' w.heap.size (fun _ => True) v x ∧ Below w.heap.size w w') (w : World) (hb : Blk w g 70 (PLN p b nr ws)) :
 Calls Tryz.prog 7 #[.pointer (some ⟨g, 0, none⟩), .agg (pcs q)] w fun e w' => e = .returned (.tuple #[]) ∧ ∃ v, Kd.R (Kd.int .i64) 3 w' w.heap.size (fun _ => True) v x ∧ Blk w' g 70 (PLN q true nr v) ∧ w.grownBy w' (some g) := by
 have HG := mA hb
 have HP := mA hp
 have HQ := mA hq
 have HNR := mA hn
 have HWM := mA hwm
 clear hb hp hq hn hwm
 go_enter Tryz.func7, Tryz.ntmps7
 go_upto_region 1 with (first
  | ((with_reducible refine zd 3 ?_); refine pl_box rfl rfl rfl ?_; intro s hs w1 hb1 hB1; have HS := mA hb1; have HSG : Aside0 (g < s) := ⟨by rw [hs]; exact HG.out.lt⟩; have HGR := mA (grown_of_below hB1 (some g)); have n_ := mA (HG.out.below hB1); clear HG hb1 hB1 hs; have HG := n_; clear n_))
 have hbd_ := below_drew1 (Below.refl w1.heap.size w1)
 replace HG := mA (HG.out.below hbd_)
 replace HS := mA (HS.out.below hbd_)
 replace HGR := mA (grown_trans HGR.out (grown_of_below hbd_ (some g)))
 clear hbd_
 refine zT 5 (fun w' => Blk w' s 33 (pcs q)) (HS.out) fun hHeld => ?_
 generalize w1.drew = w2 at HG HS HGR hHeld ⊢
 refine zP 0 4 (tf 1 4) ?_
 refine zP 1 5 (tf 2 3) ?_
 refine zP 2 6 (tf 3 2) ?_
 refine take_ (i := 3) (N := some 7) (v := ?_) (a' := ?_) (tf 4 1) rfl rfl uW (fun _ _ _ h => h) (Or.inl ⟨by rfl, ?_⟩) hHeld ?_ ?_
 rotate_left
 ·intro w' hs
  refine (run_ld33 _ _ w' s q (.tmp 3) ?_ ?_ hs HQ.out).trans ?_
  ·rfl
  ·rfl
  ·with_reducible rfl
 rotate_left
 ·exact zU
 refine zO 4 (tf 5 0) fun K hK => ?_
 refine goes_ Tryz.func21 uW rfl #[.pointer (some ⟨g, 0, none⟩), .agg (pcs q)] (by rfl) rfl rfl xV ?_
 refine (lay_calls g p q b nr ws HP.out HQ.out HNR.out _ HG.out).mono ?_
 rintro e_ w3 ⟨rfl, hb_, hg_⟩
 refine ⟨_, rfl, ?_⟩
 replace HG := mA hb_
 replace HS := mA (HS.out.grown hg_ (by intro e; injection e with e; have h1_ := HSG.out; omega))
 replace HGR := mA (grown_trans HGR.out hg_)
 clear hb_ hg_ hHeld
 refine hK.out _ _ (HS.out) (fun hHeld => ?_)
 clear hK K
 refine zN ?_
 refine done_ uW ?_
 clear hHeld
 go_wp2_with (first
  | ((with_reducible refine zd 10 ?_); refine pl_load (N := 10) rfl rfl (.tmp 3) rfl rfl HS.out HQ.out ?_)
  | (go_at_call 22; refine (HWM.out _).mono ?_; rintro e_ w5 ⟨v1, rfl, hR_, hb_⟩; obtain ⟨Aw_, cw_, rfl⟩ := Kd.R_slice hR_; have n0_ := mA (HG.out.below hb_); have n2_ := mA (grown_trans HGR.out (grown_of_below hb_ (some g))); have HR := mA (Kd.R_lower hR_ HGR.out.size); clear hb_ hR_ HS HG HGR; have HG := n0_; have HGR := n2_; clear n0_ n2_; have c459 : w5.cell? ⟨g, 459, none⟩ = some ws := (blk_cell HG.out 459).trans (PLN_ws HQ.out HNR.out); have f459 := blk_frozen HG.out 459))
 first | go_end0 | ((try simp only [Exit.inBlock, Exit.then]); refine bodyPost_ret (results_none rfl _ _ _) rfl ?_)
 exact ⟨rfl, _, Kd.R_set HR.out HG.out uJ 459 _, blk_put HG.out 459 _ (PLN_setws HQ.out HNR.out), grown_trans HGR.out (grown_set _ g 459 _)⟩
end
end Go.Proofs.YtkpfojpmigchlaaGreat.Own
