/-
  The walk of roundhouselaw7.WheelFirst.
-/
import Derived.Test.YtnffajpnffibaaaWheX
namespace Go.Proofs.Ytnffajpnffibaaa.Own
open Go Go.RowKit Go.Proofs.YtnffajpnffibaaaW.PrintWords Go.Proofs.YtnffajpnffibaaaW.PrintMore Go.Proofs.YtnffajpnffibaaaW.PrintLast Go.Proofs.Ytnffajpnffibaaa.Q
set_option linter.unusedVariables false
set_option linter.unusedSimpArgs false

/-- Whole numbers in a block of their own, as a row. -/
theorem ints_C {W : World} {g T : Nat} {fr : Nat × Nat} {l : List Int} (hl : l.length ≤ 1000) (h : W.heap[g]? = some (.cells (l.map (Value.int .i64)).toArray T fr)) : Kd.C (Kd.int .i64) W (some ⟨g, 0, none⟩) l.length l := by
  refine ⟨rfl, by omega, fun _ => ⟨_, rfl, fun j p hj => ⟨[.int .i64 p], rfl, rfl, fun i u hu => ?_⟩⟩⟩
  rw [add_in]
  simp only [World.cell?, h]
  have hi : i < 1 := (List.getElem?_eq_some_iff.1 hu).1
  obtain rfl : i = 0 := by omega
  injection hu with hu
  subst hu
  simp only [Nat.mul_one, Nat.add_zero, Nat.zero_add, List.getElem?_toArray, List.getElem?_map]
  rw [show (Kd.int .i64).sz = 1 from rfl, Nat.mul_one, hj]
  rfl
section
variable {ops : Array Oper} {rest : List Oper} {o o2 : Oper} {a : Act} {Q : Exit → Act → World → Prop} {W : World}
/-- A slot's variable, made and stored into. -/
theorem sl_var {N : Tmp} (hd : o.dst = some N) (hgd : o.guard = none) (ho : o.op = .alloc 25) (hN2 : o2.dst = none) (hgd2 : o2.guard = none) (y : Operand) (ho2 : o2.op = .store 25 (.tmp N) y) {r0 r1 r2 r3 r4 : Int}
    (hx : ∀ g : Nat, (a.put o.dst (.pointer (some ⟨g, 0, none⟩))).eval (.tmp N) = .pointer (some ⟨g, 0, none⟩)) (hy : ∀ g : Nat, (a.put o.dst (.pointer (some ⟨g, 0, none⟩))).eval y = .agg #[.int .i64 r0, .int .i64 r1, .int .i64 r2, .int .i64 r3, .int .i64 r4])
    (h : ∀ g w', W.heap.size ≤ g → Blk w' g 25 #[.int .i64 r0, .int .i64 r1, .int .i64 r2, .int .i64 r3, .int .i64 r4] → Below W.heap.size W w' → wpList Try.prog ops Q rest (a.put o.dst (.pointer (some ⟨g, 0, none⟩))) w') : wpList Try.prog ops Q (o :: o2 :: rest) a W := by
  refine box_event hgd hd (run25 _ _ _ ho) (fun g hg w1 hb1 hB1 => ?_)
  refine stm_event hN2 hgd2 25 (.tmp N) y ho2 (hx g) (hy g) hb1 (Nat.le_refl _) (size25' _ _ _ _ _) (one5 _ _ _ _ _) (fun w' hb' hg' => ?_)
  exact h g w' (by omega) hb' (hB1.grown hg' hB1.size (fun k hk => by injection hk with hk; omega))
end
set_option maxHeartbeats 8000000 in
set_option maxRecDepth 100000 in
theorem WheelFirst_walk (W : World) (A : Option Addr) (c : Nat) (l : List Int) (hl : l.length ≤ 4611686018427387903) (hi : ∀ x ∈ l, -9223372036854775808 ≤ x ∧ x ≤ 9223372036854775807) (hc : l.length ≤ c) (hC : Kd.C (Kd.int .i64) W A l.length l) : Calls Try.prog 8 #[.slice A l.length c] W fun e w' => e = .returned (.bool true) ∧ Below W.heap.size W w' := by
  have hu25 := Try.underlying25
  have hu33 := pool33
  have hu26 := slots26
  have hu22 := Try.underlying22
  have hu29 := Try.underlying29
  have HL : Aside0 (l.length ≤ 4611686018427387904) := ⟨by omega⟩
  have HI := Aside0.mk hi
  have HC := Aside0.mk hC
  obtain ⟨p, hp⟩ : ∃ p, make6 l 60 = p := ⟨_, rfl⟩
  have Hp := Aside0.mk hp
  have HP : Aside0 (PInv p) := ⟨by rw [← hp]; exact PInv.make l 60 hi⟩
  obtain ⟨x, hx⟩ : ∃ x, x = wheelOf p.sl := ⟨_, rfl⟩
  have HXE := Aside0.mk hx
  have HXN : Aside0 (x.length = 127) := ⟨by rw [hx]; exact wheel_len HP.out⟩
  have HXB : Aside0 (x.length < 4611686018427387904) := ⟨by rw [HXN.out]; decide⟩
  have HWS : Aside0 (∀ w, Calls Try.prog 15 #[.agg (pcs p)] w fun e w' => ∃ (A : Option Addr) (c : Nat), e = .returned (.slice A x.length c) ∧ x.length ≤ c ∧ Kd.C (Kd.int .i64) w' A x.length x ∧ Below w.heap.size w w') := ⟨fun w => by rw [hx]; exact wheel_say HP.out⟩
  have HRS : Aside0 (∀ w, Calls Try.prog 16 #[.agg (pcs p)] w fun e w' => ∃ (A : Option Addr) (c : Nat), e = .returned (.slice A x.length c) ∧ x.length ≤ c ∧ Kd.C (Kd.int .i64) w' A x.length x ∧ Below w.heap.size w w') := ⟨fun w => by rw [hx]; exact ref_say HP.out⟩
  clear hl hi hC hp hx
  go_enter Try.func8, Try.ntmps8
  go_upto_region 5 with (first
    | (go_at_call 13; refine (known_calls _).mono ?_; rintro e_ w1 ⟨rfl, hb_⟩; have HB := Aside0.mk hb_; clear hb_)
    | (go_at_call 14; refine (make_calls A c l 60 ⟨by decide, by decide⟩ HL.out HI.out _ (Kd.C_below HC.out HB.out)).mono ?_; rw [Hp.out]; rintro e_ w2 ⟨rfl, hb_⟩; have n_ := Aside0.mk (below_step HB.out hb_); clear HB hb_; have HB := n_; clear n_)
    | ((with_reducible refine gate_dst (N := 3) rfl ?_); refine pl_var (N := 3) rfl rfl rfl rfl rfl (.tmp 11) rfl (HP.out.len) (fun _ => rfl) (fun _ => rfl) ?_; intro g w3 hge hb2 hB2; have HG := Aside0.mk hb2; have n_ := Aside0.mk (below_step HB.out hB2); clear HB hb2 hB2 hge; have HB := n_; clear n_)
    | ((with_reducible refine gate_dst (N := 12) rfl ?_); refine pl_load (N := 12) rfl rfl (.tmp 3) rfl rfl HG.out (HP.out.len) ?_)
    | (go_at_call 15; refine (HWS.out _).mono ?_; rintro e_ w4 ⟨A1, c1, rfl, hc_, hC_, hb_⟩; have n0_ := Aside0.mk (below_step HB.out hb_); have n1_ := Aside0.mk (HG.out.below hb_); clear HB hb_ HG; have HB := n0_; have HG := n1_; clear n0_ n1_; have HX1 := Aside0.mk hC_; have HX1L := Aside0.mk hc_; clear hC_ hc_))
  have hl1 : ((x.length : Int) != 127) = false := by rw [HXN.out]; rfl
  obtain ⟨ad, hA_, hx_⟩ := Kd.at_int HX1.out 0 (by decide) (by rw [HXN.out]; decide)
  cases hA_
  have HCX : Aside0 (∀ w q, 0 ≤ q → q < 127 → Kd.C (Kd.int .i64) w (some ad) x.length x → w.cell? (ad.add q.toNat) = some (.int .i64 (rd x q))) := ⟨fun w q h0 h1 h => by
    obtain ⟨ad2, hA2, h2⟩ := Kd.at_int h q h0 (by rw [HXN.out]; exact h1)
    cases hA2
    exact h2⟩
  clear hx_
  go_wp2_with fail
  clear hl1
  go_loopg [5] 65 (fun kq v5 w' => ∃ i : Nat, v5 = .int .i64 i ∧ Aside0 (kq + i = 65 ∧ i ≤ 64) ∧ Aside0 (∀ j : Nat, j < i → (rd_T25 p.sl (j : Int)).f0 ≠ 2) ∧ Aside0 (Blk w' g 33 (pcs p)) ∧ Aside0 (Kd.C (Kd.int .i64) w' (some ad) x.length x) ∧ Aside0 (Below W.heap.size W w'))
  case atStart => exact ⟨0, rfl, ⟨by omega⟩, ⟨fun j hj => by omega⟩, HG, HX1, HB⟩
  case round =>
    clear HG HX1 HB
    obtain ⟨i, rfl, HK, HNA, HG, HX1, HB⟩ := hrel
    cases gk with
    | zero => have := HK.out; omega
    | succ k1 =>
      by_cases hi : i < 64
      · have h3 : decide ((i : Int) < 64) = true := decide_eq_true (by omega)
        have h4 : ((0 : Int) ≤ (i : Int)) = True := eq_true (by omega)
        have h5 : ((i : Int) < 64) = True := eq_true (by omega)
        obtain ⟨ad_, e_, hx0, hx1, hx2, hx3, hx4⟩ := at_T25 (slots_C HG.out (pcs_slots p (HP.out.len))) (i : Int) (by omega) (by rw [HP.out.len]; omega); cases e_; simp only [add_in, Int.toNat_natCast] at hx0 hx1 hx2 hx3 hx4
        have HI64 := Aside0.mk hi
        clear hi
        by_cases ha : (rd_T25 p.sl (i : Int)).f0 = 2
        · have hb1 : ((rd_T25 p.sl (i : Int)).f0 != 2) = false := by simp [ha]
          obtain ⟨s, hs⟩ : ∃ s, s = sipWords 0 0 [1, (rd_T25 p.sl (i : Int)).f1, (rd_T25 p.sl (i : Int)).f2] := ⟨_, rfl⟩
          obtain ⟨q, hq⟩ : ∃ q, q = s % 127 := ⟨_, rfl⟩
          have HSR : Aside0 (0 ≤ s ∧ s < 18446744073709551616) := ⟨by rw [hs]; exact words_range _ _ _⟩
          have HQR : Aside0 (0 ≤ q ∧ q < 127) := ⟨by have h_ := HSR.out; omega⟩
          have hfin : (rd x q == (i : Int)) = true := by rw [HXE.out, hq, hs]; exact beq_iff_eq.2 (first_place HP.out i HI64.out ha HNA.out)
          have HWD : Aside0 (roundhouseref2_Words.f 1 0 0 [1, (rd_T25 p.sl (i : Int)).f1, (rd_T25 p.sl (i : Int)).f2] = some s) := ⟨by
            show (if ([1, (rd_T25 p.sl (i : Int)).f1, (rd_T25 p.sl (i : Int)).f2] : List Int).length ≤ 1048576 then some (sipWords 0 0 [1, (rd_T25 p.sl (i : Int)).f1, (rd_T25 p.sl (i : Int)).f2]) else none) = _
            rw [if_pos (by simp), hs]⟩
          have hm1 : Int.tmod s 127 = q := by rw [Int.tmod_eq_emod_of_nonneg HSR.out.1, hq]
          have hm2 : wrap64 q = q := w64 q HQR.out.1 (by have h_ := HQR.out; omega)
          have hq0 : ((0 : Int) ≤ q) = True := eq_true HQR.out.1
          have hq1 : (q < (x.length : Int)) = True := eq_true (by rw [HXN.out]; exact HQR.out.2)
          clear hs hq ha
          go_wp2_with (first
            | ((with_reducible refine gate_dst (N := 6) rfl ?_); refine sl_var (N := 6) rfl rfl rfl rfl rfl (.tmp 24) rfl (fun _ => rfl) (fun _ => rfl) ?_; intro gs w5 hge hb2 hB2; have HS := Aside0.mk hb2; have n0_ := Aside0.mk (below_step HB.out hB2); have n1_ := Aside0.mk (HG.out.below hB2); have n2_ := Aside0.mk (Kd.C_below HX1.out hB2); clear hx0 hx1 hx2 hx3 hx4 hb2 hB2 hge; clear HB HG HX1; have HB := n0_; have HG := n1_; have HX1 := n2_; clear n0_ n1_ n2_; have c0 : w5.cell? ⟨gs, 0, none⟩ = some (.int .i64 (rd_T25 p.sl (i : Int)).f0) := (blk_cell HS.out 0).trans rfl; have c1 : w5.cell? ⟨gs, 1, none⟩ = some (.int .i64 (rd_T25 p.sl (i : Int)).f1) := (blk_cell HS.out 1).trans rfl; have c2 : w5.cell? ⟨gs, 2, none⟩ = some (.int .i64 (rd_T25 p.sl (i : Int)).f2) := (blk_cell HS.out 2).trans rfl)
            | (go_at_call 26; refine (roundhouseref2_Words.calls 1 0 0 _ 3 [1, (rd_T25 p.sl (i : Int)).f1, (rd_T25 p.sl (i : Int)).f2] s _ (ints_C (by simp) (heap_alloc_new _ _)) (by simp) HWD.out).mono ?_; rintro e_ w6 ⟨rfl, hb_⟩; have n0_ := Aside0.mk (below_step (below_alloc HB.out _) hb_); have n2_ := Aside0.mk (Kd.C_below (Kd.C_alloc HX1.out _) hb_); clear c0 c1 c2 HG HS hb_; clear HB HX1; have HB := n0_; have HX1 := n2_; clear n0_ n2_; have hx_ := HCX.out _ q HQR.out.1 HQR.out.2 HX1.out))
          go_ret
          exact ⟨rfl, HB.out⟩
        · have hb1 : ((rd_T25 p.sl (i : Int)).f0 != 2) = true := bne_iff_ne.2 ha
          have HN2 : Aside0 (∀ j : Nat, j < i + 1 → (rd_T25 p.sl (j : Int)).f0 ≠ 2) := ⟨fun j hj => by
            by_cases e : j = i
            · rw [e]; exact ha
            · exact HNA.out j (by omega)⟩
          clear ha
          go_wp2_with (first
            | ((with_reducible refine gate_dst (N := 6) rfl ?_); refine sl_var (N := 6) rfl rfl rfl rfl rfl (.tmp 24) rfl (fun _ => rfl) (fun _ => rfl) ?_; intro gs w5 hge hb2 hB2; have HS := Aside0.mk hb2; have n0_ := Aside0.mk (below_step HB.out hB2); have n1_ := Aside0.mk (HG.out.below hB2); have n2_ := Aside0.mk (Kd.C_below HX1.out hB2); clear hx0 hx1 hx2 hx3 hx4 hb2 hB2 hge; clear HB HG HX1; have HB := n0_; have HG := n1_; have HX1 := n2_; clear n0_ n1_ n2_; have c0 : w5.cell? ⟨gs, 0, none⟩ = some (.int .i64 (rd_T25 p.sl (i : Int)).f0) := (blk_cell HS.out 0).trans rfl; have c1 : w5.cell? ⟨gs, 1, none⟩ = some (.int .i64 (rd_T25 p.sl (i : Int)).f1) := (blk_cell HS.out 1).trans rfl; have c2 : w5.cell? ⟨gs, 2, none⟩ = some (.int .i64 (rd_T25 p.sl (i : Int)).f2) := (blk_cell HS.out 2).trans rfl))
          go_roundg k1
          case measure => omega
          case rel => exact ⟨i + 1, by rw [show wrap64 ((i : Int) + 1) = ((i + 1 : Nat) : Int) from by have h_ := HI64.out; rw [w64 _ (by omega) (by omega)]; omega], ⟨by have h_ := HK.out; have h2_ := HI64.out; omega⟩, HN2, HG, HX1, HB⟩
      · have h3 : decide ((i : Int) < 64) = false := decide_eq_false (by omega)
        clear hi
        go_wp2_with fail
        go_ret
        exact ⟨rfl, HB.out⟩
end Go.Proofs.Ytnffajpnffibaaa.Own
