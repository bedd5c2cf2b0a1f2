/-
  The walk of roundhouselaw7.WheelMany.
-/
import Derived.Test.YtnffajpnffibaaaWheW
namespace Go.Proofs.Ytnffajpnffibaaa.Own
open Go Go.RowKit Go.Proofs.YtnffajpnffibaaaW.PrintWords Go.Proofs.YtnffajpnffibaaaW.PrintMore Go.Proofs.YtnffajpnffibaaaW.PrintLast Go.Proofs.Ytnffajpnffibaaa.Q
set_option linter.unusedVariables false
set_option linter.unusedSimpArgs false

set_option maxHeartbeats 8000000 in
set_option maxRecDepth 100000 in
theorem WheelMany_walk (W : World) (A : Option Addr) (c : Nat) (l : List Int) (hl : l.length ≤ 4611686018427387903) (hi : ∀ x ∈ l, -9223372036854775808 ≤ x ∧ x ≤ 9223372036854775807) (hc : l.length ≤ c) (hC : Kd.C (Kd.int .i64) W A l.length l) (n : Int) (hn : -9223372036854775808 ≤ n ∧ n ≤ 9223372036854775807) : Calls Try.prog 12 #[.slice A l.length c, .int .i64 n] W fun e w' => e = .returned (.bool true) ∧ Below W.heap.size W w' := by
  have hu22 := Try.underlying22
  have hu49 := Try.underlying49
  have hu55 := Try.underlying55
  have HI := Aside0.mk hi
  have HC := Aside0.mk hC
  have HLL := Aside0.mk hl
  obtain ⟨p0, hp0⟩ : ∃ p0, make6 [] 0 = p0 := ⟨_, rfl⟩
  have Hp := Aside0.mk hp0
  have HP0 : Aside0 (PInv p0) := ⟨by rw [← hp0]; exact PInv.make [] 0 (by simp)⟩
  have HN : Aside0 (0 ≤ n % 65 ∧ n % 65 < 65) := ⟨by omega⟩
  clear hp0 hi hC hl
  go_enter Try.func12, Try.ntmps12
  go_wp2_with (first
    | (go_at_call 13; refine (known_calls _).mono ?_; rintro e_ w1 ⟨rfl, hb_⟩; have HB := Aside0.mk hb_; clear hb_)
    | (go_at_call 14; refine (make_calls none 0 [] 0 ⟨by decide, by decide⟩ (by simp) (by simp) _ (Kd.C_nil _ _)).mono ?_; rw [Hp.out]; rintro e_ w2 ⟨rfl, hb_⟩; have n_ := Aside0.mk (below_step HB.out hb_); clear HB hb_; have HB := n_; clear n_)
    | ((with_reducible refine gate_dst (N := 5) rfl ?_); refine pl_var (N := 5) rfl rfl rfl rfl rfl (.tmp 10) rfl HP0.out.len (fun _ => rfl) (fun _ => rfl) ?_; intro g w3 hge hb2 hB2; have HG := Aside0.mk hb2; have HGE : Aside0 (W.heap.size ≤ g) := ⟨by have h1_ := HB.out.size; omega⟩; have n_ := Aside0.mk (below_step HB.out hB2); clear HB hb2 hB2 hge; have HB := n_; clear n_))
  go_loopg [6] 66 (fun kq v6 w' => ∃ (i : Nat) (q : PL), v6 = .int .i64 i ∧ Aside0 (kq + i = 66 ∧ i ≤ 65) ∧ Aside0 (PInv q) ∧ Aside0 (Blk w' g 33 (pcs q)) ∧ Aside0 (Below W.heap.size W w'))
  case atStart => exact ⟨0, p0, rfl, ⟨by omega⟩, HP0, HG, HB⟩
  case round =>
    clear HG HB
    obtain ⟨i, q, rfl, HK, HQ, HG, HB⟩ := hrel
    cases gk with
    | zero => have := HK.out; omega
    | succ k1 =>
      by_cases hin : (i : Int) < n % 65
      · have hi0 : decide ((i : Int) < n % 65) = true := decide_eq_true hin
        have HIN : Aside0 (i < 65) := ⟨by have h_ := HN.out; omega⟩
        clear hin
        by_cases hil : i < l.length
        · have hl0 : decide ((i : Int) < (l.length : Int)) = true := decide_eq_true (by omega)
          have p1 : (0 ≤ (i : Int)) = True := eq_true (Int.natCast_nonneg i)
          have p2 : ((i : Int) < (l.length : Int)) = True := eq_true (by omega)
          have p3 : (i < l.length) = True := eq_true hil
          have HIL := Aside0.mk hil
          clear hil
          obtain ⟨k, hk⟩ : ∃ k : Int, k = 1 + rd l (i : Int) % 8 := ⟨_, rfl⟩
          have HKV : Aside0 (1 ≤ k ∧ k ≤ 8) := ⟨by rw [hk]; omega⟩
          have HKE := Aside0.mk hk
          clear hk
          obtain ⟨e1, he1⟩ : ∃ e1 : EN, e1 = ⟨1, (i : Int), wrap64 (100 + (i : Int)), k, k, 0, 0⟩ := ⟨_, rfl⟩
          have HWF : Aside0 (∀ e ∈ [e1, (⟨2, (i : Int), 0, 0, 0, 0, 0⟩ : EN)], WFE e) := ⟨by
            intro e he
            simp only [List.mem_cons, List.not_mem_nil, or_false] at he
            rcases he with rfl | rfl
            · rw [he1]
              exact .inl ⟨rfl, outB_false _ _ _ (by show 0 ≤ wrap64 (100 + (i : Int)) ∧ wrap64 (100 + (i : Int)) ≤ _; have h_ := HIN.out; rw [w64 _ (by omega) (by omega)]; omega), outB_false _ _ _ (by show 0 ≤ k ∧ k ≤ _; have h_ := HKV.out; omega), outB_false _ _ _ HKV.out, rfl, rfl⟩
            · exact .inr (.inl ⟨rfl, rfl, rfl, rfl, rfl, rfl⟩)⟩
          obtain ⟨q2, hq2⟩ : ∃ q2, q2 = (allP q [e1, (⟨2, (i : Int), 0, 0, 0, 0, 0⟩ : EN)] 0).1 := ⟨_, rfl⟩
          have HQ2 : Aside0 (PInv q2) := ⟨by rw [hq2]; exact PInv.all _ _ HWF.out HQ.out⟩
          have HALL : Aside0 (∀ (b : Nat) (w : World), Blk w b 49 (ens [(⟨1, (i : Int), wrap64 (100 + (i : Int)), k, k, 0, 0⟩ : EN), (⟨2, (i : Int), 0, 0, 0, 0, 0⟩ : EN)]) → Calls Try.prog 27 #[.agg (pcs q), .slice (some ⟨b, 0, none⟩) 2 2] w fun e w' => ∃ r1 r2 : Int, e = .returned (.tuple #[.agg (pcs q2), .int .i64 r1, .int .i64 r2]) ∧ Below w.heap.size w w') := ⟨fun b w hb => by
            rw [← he1] at hb
            refine (all_calls q HQ.out.len b [e1, ⟨2, (i : Int), 0, 0, 0, 0, 0⟩] 2 HWF.out (by simp) w hb).mono ?_
            rintro e w' ⟨rfl, hb'⟩
            exact ⟨_, _, by rw [hq2], hb'⟩⟩
          clear hq2 he1
          go_upto_region 9 with (first
            | (go_at_call 22; refine (within_say n 65 (by decide) (by decide)).mono ?_; rintro e_ w4 ⟨rfl, hb_⟩; have n0_ := Aside0.mk (below_step HB.out hb_); have n1_ := Aside0.mk (HG.out.below hb_); clear HB hb_ HG; have HB := n0_; have HG := n1_; clear n0_ n1_))
          obtain ⟨ad_, e_, hx_⟩ := Kd.at_int (Kd.C_below HC.out HB.out) (i : Int) (Int.natCast_nonneg i) (by have h_ := HIL.out; omega)
          cases e_
          simp only [Int.toNat_natCast] at hx_
          have hke := HKE.out
          go_upto_region 10 with (first | (go_at_call 22; refine (within_say (rd l (i : Int)) 8 (by decide) (by decide)).mono ?_; rintro e_ w5 ⟨rfl, hb_⟩; have n0_ := Aside0.mk (below_step HB.out hb_); have n1_ := Aside0.mk (HG.out.below hb_); clear HB hb_ HG; have HB := n0_; have HG := n1_; clear n0_ n1_; clear hx_))
          rw [← hke]
          clear hke
          go_wp2_with (first
            | ((with_reducible refine gate_dst (N := 28) rfl ?_); refine pl_load (N := 28) rfl rfl (.tmp 5) rfl rfl HG.out HQ.out.len ?_)
            | (go_at_call 27; refine (HALL.out _ _ (heap_alloc_new _ _)).mono ?_; rintro e_ w6 ⟨r1_, r2_, rfl, hb_⟩; have n0_ := Aside0.mk (below_step (below_alloc HB.out _) hb_); have n1_ := Aside0.mk (Blk.below (g := g) (t := 33) (cs := pcs q) (blk_alloc HG.out _) hb_); clear HB HG hb_; have HB := n0_; have HG := n1_; clear n0_ n1_)
            | ((with_reducible refine gate_store (t := 33) (p := 5) rfl ?_); refine pl_store rfl rfl (.tmp 5) (.tmp 39) rfl rfl rfl HG.out (pcs_size _ HQ.out.len) HQ2.out.len ?_; intro w7 hb_ hg_; have n0_ := Aside0.mk (HB.out.grown hg_ (below_size HB.out) (fun k hk => by injection hk with hk; subst hk; exact HGE.out)); have n1_ := Aside0.mk hb_; clear HB HG hb_ hg_; have HB := n0_; have HG := n1_; clear n0_ n1_))
          go_roundg k1
          case measure => omega
          case rel => exact ⟨i + 1, q2, by rw [show wrap64 ((i : Int) + 1) = ((i + 1 : Nat) : Int) from by rw [w64 _ (by have h_ := HIN.out; omega) (by have h_ := HIN.out; omega)]; omega], ⟨by have h_ := HK.out; have h2_ := HIN.out; omega⟩, HQ2, HG, HB⟩
        · have hl0 : decide ((i : Int) < (l.length : Int)) = false := decide_eq_false (by omega)
          have p3 : (i < l.length) = False := eq_false hil
          clear hil
          obtain ⟨k, hk⟩ : ∃ k : Int, k = 1 := ⟨_, rfl⟩
          have HKV : Aside0 (1 ≤ k ∧ k ≤ 8) := ⟨by omega⟩
          have HKE := Aside0.mk hk
          clear hk
          obtain ⟨e1, he1⟩ : ∃ e1 : EN, e1 = ⟨1, (i : Int), wrap64 (100 + (i : Int)), k, k, 0, 0⟩ := ⟨_, rfl⟩
          have HWF : Aside0 (∀ e ∈ [e1, (⟨2, (i : Int), 0, 0, 0, 0, 0⟩ : EN)], WFE e) := ⟨by
            intro e he
            simp only [List.mem_cons, List.not_mem_nil, or_false] at he
            rcases he with rfl | rfl
            · rw [he1]
              exact .inl ⟨rfl, outB_false _ _ _ (by show 0 ≤ wrap64 (100 + (i : Int)) ∧ wrap64 (100 + (i : Int)) ≤ _; have h_ := HIN.out; rw [w64 _ (by omega) (by omega)]; omega), outB_false _ _ _ (by show 0 ≤ k ∧ k ≤ _; have h_ := HKV.out; omega), outB_false _ _ _ HKV.out, rfl, rfl⟩
            · exact .inr (.inl ⟨rfl, rfl, rfl, rfl, rfl, rfl⟩)⟩
          obtain ⟨q2, hq2⟩ : ∃ q2, q2 = (allP q [e1, (⟨2, (i : Int), 0, 0, 0, 0, 0⟩ : EN)] 0).1 := ⟨_, rfl⟩
          have HQ2 : Aside0 (PInv q2) := ⟨by rw [hq2]; exact PInv.all _ _ HWF.out HQ.out⟩
          have HALL : Aside0 (∀ (b : Nat) (w : World), Blk w b 49 (ens [(⟨1, (i : Int), wrap64 (100 + (i : Int)), k, k, 0, 0⟩ : EN), (⟨2, (i : Int), 0, 0, 0, 0, 0⟩ : EN)]) → Calls Try.prog 27 #[.agg (pcs q), .slice (some ⟨b, 0, none⟩) 2 2] w fun e w' => ∃ r1 r2 : Int, e = .returned (.tuple #[.agg (pcs q2), .int .i64 r1, .int .i64 r2]) ∧ Below w.heap.size w w') := ⟨fun b w hb => by
            rw [← he1] at hb
            refine (all_calls q HQ.out.len b [e1, ⟨2, (i : Int), 0, 0, 0, 0, 0⟩] 2 HWF.out (by simp) w hb).mono ?_
            rintro e w' ⟨rfl, hb'⟩
            exact ⟨_, _, by rw [hq2], hb'⟩⟩
          clear hq2 he1
          have hke := HKE.out
          subst hke
          go_wp2_with (first
            | (go_at_call 22; refine (within_say n 65 (by decide) (by decide)).mono ?_; rintro e_ w4 ⟨rfl, hb_⟩; have n0_ := Aside0.mk (below_step HB.out hb_); have n1_ := Aside0.mk (HG.out.below hb_); clear HB hb_ HG; have HB := n0_; have HG := n1_; clear n0_ n1_)
            | ((with_reducible refine gate_dst (N := 28) rfl ?_); refine pl_load (N := 28) rfl rfl (.tmp 5) rfl rfl HG.out HQ.out.len ?_)
            | (go_at_call 27; refine (HALL.out _ _ (heap_alloc_new _ _)).mono ?_; rintro e_ w6 ⟨r1_, r2_, rfl, hb_⟩; have n0_ := Aside0.mk (below_step (below_alloc HB.out _) hb_); have n1_ := Aside0.mk (Blk.below (g := g) (t := 33) (cs := pcs q) (blk_alloc HG.out _) hb_); clear HB HG hb_; have HB := n0_; have HG := n1_; clear n0_ n1_)
            | ((with_reducible refine gate_store (t := 33) (p := 5) rfl ?_); refine pl_store rfl rfl (.tmp 5) (.tmp 39) rfl rfl rfl HG.out (pcs_size _ HQ.out.len) HQ2.out.len ?_; intro w7 hb_ hg_; have n0_ := Aside0.mk (HB.out.grown hg_ (below_size HB.out) (fun k hk => by injection hk with hk; subst hk; exact HGE.out)); have n1_ := Aside0.mk hb_; clear HB HG hb_ hg_; have HB := n0_; have HG := n1_; clear n0_ n1_))
          go_roundg k1
          case measure => omega
          case rel => exact ⟨i + 1, q2, by rw [show wrap64 ((i : Int) + 1) = ((i + 1 : Nat) : Int) from by rw [w64 _ (by have h_ := HIN.out; omega) (by have h_ := HIN.out; omega)]; omega], ⟨by have h_ := HK.out; have h2_ := HIN.out; omega⟩, HQ2, HG, HB⟩
      · have hi0 : decide ((i : Int) < n % 65) = false := decide_eq_false hin
        clear hin
        obtain ⟨x, hx⟩ : ∃ x, x = wheelOf q.sl := ⟨_, rfl⟩
        have HXE := Aside0.mk hx
        have HXN : Aside0 (x.length = 127) := ⟨by rw [hx]; exact wheel_len HQ.out⟩
        have HXB : Aside0 (x.length < 4611686018427387904) := ⟨by rw [HXN.out]; decide⟩
        have HWS : Aside0 (∀ w, Calls Try.prog 15 #[.agg (pcs q)] w fun e w' => ∃ (A : Option Addr) (c : Nat), e = .returned (.slice A x.length c) ∧ x.length ≤ c ∧ Kd.C (Kd.int .i64) w' A x.length x ∧ Below w.heap.size w w') := ⟨fun w => by rw [hx]; exact wheel_say HQ.out⟩
        have HRS : Aside0 (∀ w, Calls Try.prog 16 #[.agg (pcs q)] w fun e w' => ∃ (A : Option Addr) (c : Nat), e = .returned (.slice A x.length c) ∧ x.length ≤ c ∧ Kd.C (Kd.int .i64) w' A x.length x ∧ Below w.heap.size w w') := ⟨fun w => by rw [hx]; exact ref_say HQ.out⟩
        clear hx
        go_upto_region 11 with (first | (go_at_call 22; refine (within_say n 65 (by decide) (by decide)).mono ?_; rintro e_ w8 ⟨rfl, hb_⟩; have n0_ := Aside0.mk (below_step HB.out hb_); have n1_ := Aside0.mk (HG.out.below hb_); clear HB hb_ HG; have HB := n0_; have HG := n1_; clear n0_ n1_))
        have hb_ := below_drew1 (Below.refl w8.heap.size w8)
        have n0_ := Aside0.mk (below_step HB.out hb_)
        have n1_ := Aside0.mk (HG.out.below hb_)
        clear HB hb_ HG
        have HB := n0_
        have HG := n1_
        clear n0_ n1_
        refine start_ (n := 6) (S := fun w' => Blk w' g 33 (pcs q)) (ds := []) #[false, false, false, false, false, false] (by kernel_rfl) rfl rfl (HG.out) (fun hHeld => ?_)
        generalize w8.drew = w9 at HG HB hHeld ⊢
        refine take_ (i := 0) (N := some 42) (v := ?_) (a' := ?_) #[true, false, false, false, false, false] rfl rfl (by kernel_rfl) (fun _ _ _ h => h) (Or.inl ⟨by rfl, ?_⟩) hHeld ?_ ?_
        rotate_left
        · intro w' hs
          refine (run_ld33 _ _ w' g q (.tmp 5) ?_ ?_ hs HQ.out.len).trans ?_
          · rfl
          · rfl
          · with_reducible rfl
        rotate_left
        · simp only [Act.put, List.setIfInBounds_toArray, List.set_cons_zero, List.set_cons_succ, i64_w, i32_w]
          rfl
        refine take_ (i := 2) (N := some 44) (v := ?_) (a' := ?_) #[true, false, true, false, false, false] rfl rfl (by kernel_rfl) (fun _ _ _ h => h) (Or.inl ⟨by rfl, ?_⟩) hHeld ?_ ?_
        rotate_left
        · intro w' hs
          refine (run_ld33 _ _ w' g q (.tmp 5) ?_ ?_ hs HQ.out.len).trans ?_
          · rfl
          · rfl
          · with_reducible rfl
        rotate_left
        · simp only [Act.put, List.setIfInBounds_toArray, List.set_cons_zero, List.set_cons_succ, i64_w, i32_w]
          rfl
        refine one_ (i := 1) (N := some 43) #[true, true, true, false, false, false] rfl rfl (by kernel_rfl) (by decide) (fun K hK => ?_)
        refine goes_ Try.func15 (by kernel_rfl) rfl #[.agg (pcs q)] (by rfl) rfl rfl (by simp only [List.map_toArray, List.map_cons, List.map_nil]; rfl) ?_
        refine (HWS.out _).mono ?_
        rintro e_ wB ⟨A1, c1, rfl, hc_, hC_, hb_⟩
        refine ⟨_, rfl, ?_⟩
        have n0_ := Aside0.mk (below_step HB.out hb_)
        have n1_ := Aside0.mk (HG.out.below hb_)
        clear HB hb_ HG
        have HB := n0_
        have HG := n1_
        clear n0_ n1_
        clear hHeld
        have HX1 := Aside0.mk hC_
        have HX1L := Aside0.mk hc_
        clear hC_ hc_
        refine hK.out _ _ (HG.out) (fun hHeld => ?_)
        clear hK K
        refine norm_ (a' := ?_) ?_ ?_
        rotate_left
        · show Act.put _ (some 43) _ = _
          simp only [Act.put, List.setIfInBounds_toArray, List.set_cons_zero, List.set_cons_succ, i64_w, i32_w]
          rfl
        refine one_ (i := 3) (N := some 45) #[true, true, true, true, false, false] rfl rfl (by kernel_rfl) (by decide) (fun K hK => ?_)
        refine goes_ Try.func16 (by kernel_rfl) rfl #[.agg (pcs q)] (by rfl) rfl rfl (by simp only [List.map_toArray, List.map_cons, List.map_nil]; rfl) ?_
        refine (HRS.out _).mono ?_
        rintro e_ wC ⟨A2, c2, rfl, hc_, hC_, hb_⟩
        refine ⟨_, rfl, ?_⟩
        have n0_ := Aside0.mk (below_step HB.out hb_)
        have n1_ := Aside0.mk (HG.out.below hb_)
        have n2_ := Aside0.mk (Kd.C_below HX1.out hb_)
        clear HB hb_ HG HX1
        have HB := n0_
        have HG := n1_
        have HX1 := n2_
        clear n0_ n1_ n2_
        clear hHeld
        have HX2 := Aside0.mk hC_
        have HX2L := Aside0.mk hc_
        clear hC_ hc_
        refine hK.out _ _ (HG.out) (fun hHeld => ?_)
        clear hK K
        refine norm_ (a' := ?_) ?_ ?_
        rotate_left
        · show Act.put _ (some 45) _ = _
          simp only [Act.put, List.setIfInBounds_toArray, List.set_cons_zero, List.set_cons_succ, i64_w, i32_w]
          rfl
        refine one_ (i := 4) (N := some 46) #[true, true, true, true, true, false] rfl rfl (by kernel_rfl) (by decide) (fun K hK => ?_)
        refine goes_ Try.func17 (by kernel_rfl) rfl #[.slice A1 x.length c1, .slice A2 x.length c2] (by rfl) rfl rfl (by simp only [List.map_toArray, List.map_cons, List.map_nil]; rfl) ?_
        refine (same_say x x HXB.out HX1.out HX1L.out HX2.out HX2L.out).mono ?_
        rw [decide_eq_true rfl]
        rintro e_ wD ⟨rfl, hb_⟩
        refine ⟨_, rfl, ?_⟩
        have n0_ := Aside0.mk (below_step HB.out hb_)
        have n1_ := Aside0.mk (HG.out.below hb_)
        have n2_ := Aside0.mk (Kd.C_below HX1.out hb_)
        have n3_ := Aside0.mk (Kd.C_below HX2.out hb_)
        clear HB hb_ HG HX1 HX2
        have HB := n0_
        have HG := n1_
        have HX1 := n2_
        have HX2 := n3_
        clear n0_ n1_ n2_ n3_
        clear hHeld
        refine hK.out _ _ (HG.out) (fun hHeld => ?_)
        clear hK K
        refine norm_ (a' := ?_) ?_ ?_
        rotate_left
        · show Act.put _ (some 46) _ = _
          simp only [Act.put, List.setIfInBounds_toArray, List.set_cons_zero, List.set_cons_succ, i64_w, i32_w]
          rfl
        refine pure_ (i := 5) (N := some 4) (v := ?_) (a' := ?_) #[true, true, true, true, true, true] rfl rfl (by kernel_rfl) (fun _ _ _ h => h) (Or.inl ⟨by rfl, ?_⟩) ?_ ?_
        rotate_left
        · intro w'
          go_simp
          with_reducible rfl
        rotate_left
        · simp only [Act.put, List.setIfInBounds_toArray, List.set_cons_zero, List.set_cons_succ, i64_w, i32_w]
          rfl
        refine done_ (by kernel_rfl) ?_
        clear hHeld
        go_wp2_with fail
        go_ret
        exact ⟨rfl, HB.out⟩
end Go.Proofs.Ytnffajpnffibaaa.Own
