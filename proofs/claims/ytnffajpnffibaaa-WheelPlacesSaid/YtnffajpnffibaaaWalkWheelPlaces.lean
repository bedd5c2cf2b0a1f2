/-
  The walk of roundhouselaw7.WheelPlaces.
-/
import Derived.Test.YtnffajpnffibaaaWheW
namespace Go.Proofs.Ytnffajpnffibaaa.Own
open Go Go.RowKit Go.Proofs.YtnffajpnffibaaaW.PrintWords Go.Proofs.YtnffajpnffibaaaW.PrintMore Go.Proofs.YtnffajpnffibaaaW.PrintLast Go.Proofs.Ytnffajpnffibaaa.Q
set_option linter.unusedVariables false
set_option linter.unusedSimpArgs false

/-- Whole numbers in a block of their own, as a row. -/
theorem ints_C {W : World} {g T : Nat} {fr : Nat × Nat} {l : List Int} (hl : l.length ≤ 1000) (h : W.heap[g]? = some (.cells (l.map (Value.int .i64)).toArray T fr)) : Kd.C (Kd.int .i64) W (some ⟨g, 0, none⟩) l.length l := by
  refine ⟨rfl, by omega, fun _ => ⟨_, rfl, fun j p hj => ⟨[.int .i64 p], rfl, rfl, fun i u hu => ?_⟩⟩⟩
  rw [add_in]
  simp only [World.cell?, h]
  have hi : i < 1 := (List.getElem?_eq_some_iff.1 hu).1
  obtain rfl : i = 0 := by omega
  injection hu with hu
  subst hu
  simp only [Nat.mul_one, Nat.add_zero, Nat.zero_add, List.getElem?_toArray, List.getElem?_map]
  rw [show (Kd.int .i64).sz = 1 from rfl, Nat.mul_one, hj]
  rfl
theorem run39 (ev : Operand → Value) (o : Oper) (w : World) (ho : o.op = .alloc 39) : (execOp ev o).run Try.prog w = .ok (.value (.pointer (some ⟨w.heap.size, 0, none⟩))) (w.alloc (.cells #[.int .i64 0, .int .i64 0, .int .i64 0, .int .i64 0] 39 (0, 0))) := by
  cases o with
  | mk dst op ty pos after guard =>
    obtain rfl : op = _ := ho
    kernel_rfl
theorem one4 (a b c d : Int) : (#[.int .i64 a, .int .i64 b, .int .i64 c, .int .i64 d] : Array Value).all (·.oneCell') = true := by simp [Value.oneCell']
theorem size39 (a b c d : Value) : (Try.prog.info? 39).map (·.size) = some #[a, b, c, d].size := by kernel_rfl
section
variable {ops : Array Oper} {rest : List Oper} {o o2 : Oper} {a : Act} {Q : Exit → Act → World → Prop} {W : World}
/-- A flow's variable, made and stored into. -/
theorem fl_var {N : Tmp} (hd : o.dst = some N) (hgd : o.guard = none) (ho : o.op = .alloc 39) (hN2 : o2.dst = none) (hgd2 : o2.guard = none) (y : Operand) (ho2 : o2.op = .store 39 (.tmp N) y) {r1 r2 r3 r4 : Int}
    (hx : ∀ g : Nat, (a.put o.dst (.pointer (some ⟨g, 0, none⟩))).eval (.tmp N) = .pointer (some ⟨g, 0, none⟩)) (hy : ∀ g : Nat, (a.put o.dst (.pointer (some ⟨g, 0, none⟩))).eval y = .agg #[.int .i64 r1, .int .i64 r2, .int .i64 r3, .int .i64 r4])
    (h : ∀ g w', W.heap.size ≤ g → Blk w' g 39 #[.int .i64 r1, .int .i64 r2, .int .i64 r3, .int .i64 r4] → Below W.heap.size W w' → wpList Try.prog ops Q rest (a.put o.dst (.pointer (some ⟨g, 0, none⟩))) w') : wpList Try.prog ops Q (o :: o2 :: rest) a W := by
  refine box_event hgd hd (run39 _ _ _ ho) (fun g hg w1 hb1 hB1 => ?_)
  refine stm_event hN2 hgd2 39 (.tmp N) y ho2 (hx g) (hy g) hb1 (Nat.le_refl _) (size39 _ _ _ _) (one4 _ _ _ _) (fun w' hb' hg' => ?_)
  exact h g w' (by omega) hb' (hB1.grown hg' hB1.size (fun k hk => by injection hk with hk; omega))
end
/-- 0, 1, 2 .. up to n, noughts behind. -/
def upto (n : Nat) : List Int := (List.range n).map (fun i : Nat => (i : Int)) ++ List.replicate (127 - n) 0
theorem upto_len (n : Nat) (h : n ≤ 127) : (upto n).length = 127 := by unfold upto; simp; omega
theorem upto_set (n : Nat) (h : n < 127) : (upto n).set n (n : Int) = upto (n + 1) := by
  unfold upto
  rw [List.set_append_right _ _ (by simp), List.length_map, List.length_range, Nat.sub_self, show 127 - n = (127 - (n + 1)) + 1 from by omega, List.replicate_succ, List.set_cons_zero, List.range_succ, List.map_append]
  simp
theorem upto_rd (q : Int) (h0 : 0 ≤ q) (h1 : q < 127) : rd (upto 127) q = q := by
  obtain ⟨n, rfl⟩ := Int.eq_ofNat_of_zero_le h0
  rw [rd_place _ n (by rw [upto_len _ (Nat.le_refl _)]; omega)]
  unfold upto
  simp
set_option maxHeartbeats 8000000 in
set_option maxRecDepth 100000 in
theorem WheelPlaces_walk (W : World) (A : Option Addr) (c : Nat) (l : List Int) (hl : l.length ≤ 4611686018427387903) (hi : ∀ x ∈ l, -9223372036854775808 ≤ x ∧ x ≤ 9223372036854775807) (hc : l.length ≤ c) (hC : Kd.C (Kd.int .i64) W A l.length l) (f : Int) (hf : -9223372036854775808 ≤ f ∧ f ≤ 9223372036854775807) (g0 : Int) (hg0 : -9223372036854775808 ≤ g0 ∧ g0 ≤ 9223372036854775807) : Calls Try.prog 11 #[.slice A l.length c, .int .i64 f, .int .i64 g0] W fun e w' => e = .returned (.bool true) ∧ Below W.heap.size W w' := by
  have hu22 := Try.underlying22
  have hu29 := Try.underlying29
  have hu39 := Try.underlying39
  have HL : Aside0 (l.length ≤ 4611686018427387904) := ⟨by omega⟩
  have HI := Aside0.mk hi
  have HC := Aside0.mk hC
  obtain ⟨p, hp⟩ : ∃ p, make6 l 60 = p := ⟨_, rfl⟩
  have Hp := Aside0.mk hp
  have HP : Aside0 (PInv p) := ⟨by rw [← hp]; exact PInv.make l 60 hi⟩
  obtain ⟨x, hx⟩ : ∃ x, x = wheelOf p.sl := ⟨_, rfl⟩
  have HXE := Aside0.mk hx
  have HXN : Aside0 (x.length = 127) := ⟨by rw [hx]; exact wheel_len HP.out⟩
  have HXB : Aside0 (x.length < 4611686018427387904) := ⟨by rw [HXN.out]; decide⟩
  have HWS : Aside0 (∀ w, Calls Try.prog 15 #[.agg (pcs p)] w fun e w' => ∃ (A : Option Addr) (c : Nat), e = .returned (.slice A x.length c) ∧ x.length ≤ c ∧ Kd.C (Kd.int .i64) w' A x.length x ∧ Below w.heap.size w w') := ⟨fun w => by rw [hx]; exact wheel_say HP.out⟩
  have HRS : Aside0 (∀ w, Calls Try.prog 16 #[.agg (pcs p)] w fun e w' => ∃ (A : Option Addr) (c : Nat), e = .returned (.slice A x.length c) ∧ x.length ≤ c ∧ Kd.C (Kd.int .i64) w' A x.length x ∧ Below w.heap.size w w') := ⟨fun w => by rw [hx]; exact ref_say HP.out⟩
  clear hl hi hC hp hx
  obtain ⟨r1, r2, r3, r4, hfl⟩ := flow_ex f g0
  have HFL := Aside0.mk hfl
  clear hfl
  obtain ⟨q, hq⟩ : ∃ q, q = plcF r1 r2 r3 r4 := ⟨_, rfl⟩
  have HQE := Aside0.mk hq
  have HQR : Aside0 (0 ≤ q ∧ q < 127) := ⟨by rw [hq]; exact plcF_range r1 r2 r3 r4⟩
  clear hq
  go_enter Try.func11, Try.ntmps11
  go_upto_region 4 with (first
    | (go_at_call 13; refine (known_calls _).mono ?_; rintro e_ w1 ⟨rfl, hb_⟩; have HB := Aside0.mk hb_; clear hb_)
    | (go_at_call 19; refine (roundhouselaw5_Flow.calls f g0 r1 r2 r3 r4 _ HFL.out).mono ?_; rintro e_ w2 ⟨rfl, hb_⟩; have n_ := Aside0.mk (below_step HB.out hb_); clear HB hb_; have HB := n_; clear n_)
    | ((with_reducible refine gate_dst (N := 7) rfl ?_); refine fl_var (N := 7) rfl rfl rfl rfl rfl (.tmp 16) rfl (fun _ => rfl) (fun _ => rfl) ?_; intro gf w3 hge hb2 hB2; have HF := Aside0.mk hb2; have HFG : Aside0 (W.heap.size ≤ gf) := ⟨by have h1_ := HB.out.size; omega⟩; have n_ := Aside0.mk (below_step HB.out hB2); clear HB hb2 hB2 hge; have HB := n_; clear n_))
  go_wp2_with (first | ((with_reducible refine gate_dst (N := 17) rfl ?_); refine Kd.R_make (Kd.int .i64) _ 3 rfl (N := 17) rfl 22 _ _ rfl 127 rfl rfl Try.underlying22 (.int .i64 0) 8 info3 rfl (by decide) (by omega) 0 (ok := fun _ => True) (okp := fun _ => True) rfl (fun _ hk => hk) trivial (by omega) (by omega) (Below.refl _ _) (Nat.le_refl _) ?_; intro vm w4 ho hb hg_ hnew_; have HB0_ := HB; have HF3 := HF; have HR := Aside0.mk ho; have n_ := Aside0.mk (below_step HB.out hb); have m_ := Aside0.mk (HF.out.below hb); clear HB HF hb hg_ hnew_ ho; have HB := n_; have HF := m_; clear n_ m_))
  have HBW : Aside0 (W.heap.size ≤ w3.heap.size) := ⟨by have h1_ := HB0_.out.size; omega⟩
  obtain ⟨gm, cm, rfl, gb_, gl_, cl_, HG_⟩ := Kd.R_form HR.out (by simp)
  have HGM : Aside0 (w3.heap.size ≤ gm) := ⟨gb_⟩
  have HFM : Aside0 (gf < gm) := ⟨by have h1_ := HF3.out.lt; omega⟩
  clear gl_ cl_ HG_ gb_
  have n_ : Aside0 (Kd.R (Kd.int .i64) 3 w4 w3.heap.size (fun _ => True) (.slice (some ⟨gm, 0, none⟩) 127 cm) (upto 0)) := ⟨HR.out⟩
  clear HR
  have HR := n_
  clear n_
  go_loopg [9] 128 (fun kq v9 w' => ∃ i : Nat, v9 = .int .i64 i ∧ Aside0 (kq + i = 128 ∧ i ≤ 127) ∧ Aside0 (Kd.R (Kd.int .i64) 3 w' w3.heap.size (fun _ => True) (.slice (some ⟨gm, 0, none⟩) 127 cm) (upto i)) ∧ Aside0 (Below W.heap.size W w') ∧ Aside0 (Blk w' gf 39 #[.int .i64 r1, .int .i64 r2, .int .i64 r3, .int .i64 r4]))
  case atStart => exact ⟨0, rfl, ⟨by omega⟩, HR, HB, HF⟩
  case round =>
    clear HR HB HF HB0_ HF3
    obtain ⟨i, rfl, HK, HR, HB, HF⟩ := hrel
    cases gk with
    | zero => have := HK.out; omega
    | succ k1 =>
      by_cases hi : i < 127
      · have hi0 : decide ((i : Int) < 127) = true := decide_eq_true (by omega)
        have p1 : (0 ≤ (i : Int)) = True := eq_true (Int.natCast_nonneg i)
        have p2 : ((i : Int) < 127) = True := eq_true (by omega)
        have p3 : (i < 127) = True := eq_true hi
        have HI2 := Aside0.mk hi
        obtain ⟨hx0, hf0⟩ := Kd.R_celln 0 HR.out (i : Int) (by omega) (by omega)
        have HP := Kd.R_putg HR.out (i : Int) (i : Int)
        rw [Int.toNat_natCast, upto_set i hi] at HP
        rw [Int.toNat_natCast] at hx0 hf0
        have n_ := Aside0.mk HP.1
        have HB2 := Aside0.mk (below_set (j := i) (v := .int .i64 i) HB.out (by have h1_ := HGM.out; have h2_ := HBW.out; omega : W.heap.size ≤ gm))
        have HF2 : Aside0 (Blk (wr.setCell ⟨gm, i, none⟩ (.int .i64 i)) gf 39 #[.int .i64 r1, .int .i64 r2, .int .i64 r3, .int .i64 r4]) := ⟨blk_far HF.out (by show gf ≠ gm; have h1_ := HFM.out; omega) _⟩
        clear HP hi
        go_wp2
        go_roundg k1
        case measure => omega
        case rel => exact ⟨i + 1, by rw [show wrap64 ((i : Int) + 1) = ((i + 1 : Nat) : Int) from by have h_ := HI2.out; rw [w64 _ (by omega) (by omega)]; omega], ⟨by have h_ := HK.out; have h2_ := HI2.out; omega⟩, n_, HB2, HF2⟩
      · have hi0 : decide ((i : Int) < 127) = false := decide_eq_false (by omega)
        have p3 : (i < 127) = False := eq_false hi
        obtain rfl : i = 127 := by have h_ := HK.out; omega
        have HXM : Aside0 (Kd.C (Kd.int .i64) wr (some ⟨gm, 0, none⟩) (upto 127).length (upto 127)) := ⟨(Kd.R_reads' HR.out).2.2⟩
        have HCM : Aside0 (127 ≤ cm) := ⟨(Kd.R_reads' HR.out).2.1⟩
        have HPM : Aside0 (∀ w, Kd.C (Kd.int .i64) w (some ⟨gm, 0, none⟩) (upto 127).length (upto 127) → Calls Try.prog 18 #[.slice (some ⟨gm, 0, none⟩) 127 cm, .agg #[.int .i64 r1, .int .i64 r2, .int .i64 r3, .int .i64 r4]] w fun r w' => r = .returned (.int .i64 q) ∧ Below w.heap.size w w') := ⟨fun w h => by
          have h1 := pick_say (upto 127) r1 r2 r3 r4 (c := cm) (upto_len 127 (Nat.le_refl _)) h (by rw [upto_len 127 (Nat.le_refl _)]; exact HCM.out)
          rw [upto_len 127 (Nat.le_refl _), ← HQE.out, upto_rd q HQR.out.1 HQR.out.2] at h1
          exact h1⟩
        obtain ⟨s, hs⟩ : ∃ s, s = sipWords 0 0 [3, r1, r2, r3, r4] := ⟨_, rfl⟩
        have HSR : Aside0 (0 ≤ s ∧ s < 18446744073709551616) := ⟨by rw [hs]; exact words_range _ _ _⟩
        have HSQ : Aside0 (s % 127 = q) := ⟨by rw [hs, HQE.out]; rfl⟩
        have HWD : Aside0 (roundhouseref2_Words.f 1 0 0 [3, r1, r2, r3, r4] = some s) := ⟨by
          show (if ([3, r1, r2, r3, r4] : List Int).length ≤ 1048576 then some (sipWords 0 0 [3, r1, r2, r3, r4]) else none) = _
          rw [if_pos (by simp), hs]⟩
        clear HR HCM hs
        have c0 : wr.cell? ⟨gf, 0, none⟩ = some (.int .i64 r1) := (blk_cell HF.out 0).trans rfl
        have c1 : wr.cell? ⟨gf, 1, none⟩ = some (.int .i64 r2) := (blk_cell HF.out 1).trans rfl
        have c2 : wr.cell? ⟨gf, 2, none⟩ = some (.int .i64 r3) := (blk_cell HF.out 2).trans rfl
        have c3 : wr.cell? ⟨gf, 3, none⟩ = some (.int .i64 r4) := (blk_cell HF.out 3).trans rfl
        have hm1 : Int.tmod s 127 = q := by rw [Int.tmod_eq_emod_of_nonneg HSR.out.1]; exact HSQ.out
        have hm2 : wrap64 q = q := w64 q HQR.out.1 (by have h_ := HQR.out; omega)
        go_upto_region 10 with (first
          | (go_at_call 26; refine (roundhouseref2_Words.calls 1 0 0 _ 5 [3, r1, r2, r3, r4] s _ (ints_C (by simp) (heap_alloc_new _ _)) (by simp) HWD.out).mono ?_; rintro e_ w6 ⟨rfl, hb_⟩; have n0_ := Aside0.mk (below_step (below_alloc HB.out _) hb_); have n1_ := Aside0.mk (Blk.below (g := gf) (t := 39) (blk_alloc HF.out _) hb_); have n2_ := Aside0.mk (Kd.C_below (Kd.C_alloc HXM.out _) hb_); clear HB HF HXM hb_ c0 c1 c2 c3; have HB := n0_; have HF := n1_; have HXM := n2_; clear n0_ n1_ n2_))
        rw [hm2]
        go_upto_region 11 with (first
          | (go_at_call 14; refine (make_calls A c l 60 ⟨by decide, by decide⟩ HL.out HI.out _ (Kd.C_below HC.out HB.out)).mono ?_; rw [Hp.out]; rintro e_ w7 ⟨rfl, hb_⟩; have n0_ := Aside0.mk (below_step HB.out hb_); have n1_ := Aside0.mk (HF.out.below hb_); have n2_ := Aside0.mk (Kd.C_below HXM.out hb_); clear HB hb_ HF HXM; have HB := n0_; have HF := n1_; have HXM := n2_; clear n0_ n1_ n2_)
          | (go_at_call 15; refine (HWS.out _).mono ?_; rintro e_ w8 ⟨A1, c1, rfl, hc_, hC_, hb_⟩; have n0_ := Aside0.mk (below_step HB.out hb_); have n1_ := Aside0.mk (HF.out.below hb_); have n2_ := Aside0.mk (Kd.C_below HXM.out hb_); clear HB hb_ HF HXM; have HB := n0_; have HF := n1_; have HXM := n2_; clear n0_ n1_ n2_; have HX1 := Aside0.mk hC_; have HX1L := Aside0.mk hc_; clear hC_ hc_))
        have cf0 : w8.cell? ⟨gf, 0, none⟩ = some (.int .i64 r1) := (blk_cell HF.out 0).trans rfl
        have cf1 : w8.cell? ⟨gf, 1, none⟩ = some (.int .i64 r2) := (blk_cell HF.out 1).trans rfl
        have cf2 : w8.cell? ⟨gf, 2, none⟩ = some (.int .i64 r3) := (blk_cell HF.out 2).trans rfl
        have cf3 : w8.cell? ⟨gf, 3, none⟩ = some (.int .i64 r4) := (blk_cell HF.out 3).trans rfl
        have hl1 : ((x.length : Int) == 127) = true := by rw [HXN.out]; rfl
        have hq0 : ((0 : Int) ≤ q) = True := eq_true HQR.out.1
        have hq1 : (q < (x.length : Int)) = True := eq_true (by rw [HXN.out]; exact HQR.out.2)
        have HPX : Aside0 (∀ w, Kd.C (Kd.int .i64) w A1 x.length x → Calls Try.prog 18 #[.slice A1 x.length c1, .agg #[.int .i64 r1, .int .i64 r2, .int .i64 r3, .int .i64 r4]] w fun r w' => r = .returned (.int .i64 (rd x q)) ∧ Below w.heap.size w w') := ⟨fun w h => by
          rw [HQE.out]
          exact pick_say x r1 r2 r3 r4 HXN.out h HX1L.out⟩
        obtain ⟨ad, hA_, hx_⟩ := Kd.at_int HX1.out q HQR.out.1 (by rw [HXN.out]; exact HQR.out.2)
        cases hA_
        have HCX : Aside0 (∀ w, Kd.C (Kd.int .i64) w (some ad) x.length x → w.cell? (ad.add q.toNat) = some (.int .i64 (rd x q))) := ⟨fun w h => by
          obtain ⟨ad2, hA2, h2⟩ := Kd.at_int h q HQR.out.1 (by rw [HXN.out]; exact HQR.out.2)
          cases hA2
          exact h2⟩
        clear hx_ cf0 cf1 cf2 cf3
        have hb_ := below_drew1 (Below.refl w8.heap.size w8)
        have n0_ := Aside0.mk (below_step HB.out hb_)
        have n1_ := Aside0.mk (HF.out.below hb_)
        have n2_ := Aside0.mk (Kd.C_below HXM.out hb_)
        have n3_ := Aside0.mk (Kd.C_below HX1.out hb_)
        clear HB hb_ HF HXM HX1
        have HB := n0_
        have HF := n1_
        have HXM := n2_
        have HX1 := n3_
        clear n0_ n1_ n2_ n3_
        refine start_ (n := 21) (S := fun w' => w'.cell? ⟨gf, 0, none⟩ = some (.int .i64 r1) ∧ w'.cell? ⟨gf, 1, none⟩ = some (.int .i64 r2) ∧ w'.cell? ⟨gf, 2, none⟩ = some (.int .i64 r3) ∧ w'.cell? ⟨gf, 3, none⟩ = some (.int .i64 r4) ∧ w'.cell? (ad.add q.toNat) = some (.int .i64 (rd x q))) (ds := []) #[false, false, false, false, false, false, false, false, false, false, false, false, false, false, false, false, false, false, false, false, false] (by kernel_rfl) rfl rfl ⟨(blk_cell HF.out 0).trans rfl, (blk_cell HF.out 1).trans rfl, (blk_cell HF.out 2).trans rfl, (blk_cell HF.out 3).trans rfl, HCX.out _ HX1.out⟩ (fun hHeld => ?_)
        generalize w8.drew = w9 at HF HXM HX1 HB hHeld ⊢
        refine pure_ (i := 0) (N := some 44) (v := ?_) (a' := ?_) #[true, false, false, false, false, false, false, false, false, false, false, false, false, false, false, false, false, false, false, false, false] rfl rfl (by kernel_rfl) (fun _ _ _ h => h) (Or.inl ⟨by rfl, ?_⟩) ?_ ?_
        rotate_left
        · intro w'
          go_simp
          with_reducible rfl
        rotate_left
        · simp only [Act.put, List.setIfInBounds_toArray, List.set_cons_zero, List.set_cons_succ, i64_w, i32_w]
          rfl
        refine pure_ (i := 3) (N := some 47) (v := ?_) (a' := ?_) #[true, false, false, true, false, false, false, false, false, false, false, false, false, false, false, false, false, false, false, false, false] rfl rfl (by kernel_rfl) (fun _ _ _ h => h) (Or.inl ⟨by rfl, ?_⟩) ?_ ?_
        rotate_left
        · intro w'
          go_simp
          with_reducible rfl
        rotate_left
        · simp only [Act.put, List.setIfInBounds_toArray, List.set_cons_zero, List.set_cons_succ, i64_w, i32_w]
          rfl
        refine take_ (i := 1) (N := some 45) (v := ?_) (a' := ?_) #[true, true, false, true, false, false, false, false, false, false, false, false, false, false, false, false, false, false, false, false, false] rfl rfl (by kernel_rfl) (fun _ _ _ h => h) (Or.inl ⟨by rfl, ?_⟩) hHeld ?_ ?_
        rotate_left
        · rintro w' ⟨s0, s1, s2, s3, s4⟩
          go_simp
          with_reducible rfl
        rotate_left
        · simp only [Act.put, List.setIfInBounds_toArray, List.set_cons_zero, List.set_cons_succ, i64_w, i32_w]
          rfl
        refine one_ (i := 2) (N := some 46) #[true, true, true, true, false, false, false, false, false, false, false, false, false, false, false, false, false, false, false, false, false] rfl rfl (by kernel_rfl) (by decide) (fun K hK => ?_)
        refine goes_ Try.func18 (by kernel_rfl) rfl #[.slice (some ⟨gm, 0, none⟩) 127 cm, .agg #[.int .i64 r1, .int .i64 r2, .int .i64 r3, .int .i64 r4]] (by rfl) rfl rfl (by simp only [List.map_toArray, List.map_cons, List.map_nil]; rfl) ?_
        with_reducible refine (HPM.out _ HXM.out).mono ?_
        rintro e_ wB ⟨rfl, hb_⟩
        refine ⟨_, rfl, ?_⟩
        have n0_ := Aside0.mk (below_step HB.out hb_)
        have n1_ := Aside0.mk (HF.out.below hb_)
        have n2_ := Aside0.mk (Kd.C_below HXM.out hb_)
        have n3_ := Aside0.mk (Kd.C_below HX1.out hb_)
        clear HB hb_ HF HXM HX1
        have HB := n0_
        have HF := n1_
        have HXM := n2_
        have HX1 := n3_
        clear n0_ n1_ n2_ n3_
        clear hHeld
        refine hK.out _ _ ⟨(blk_cell HF.out 0).trans rfl, (blk_cell HF.out 1).trans rfl, (blk_cell HF.out 2).trans rfl, (blk_cell HF.out 3).trans rfl, HCX.out _ HX1.out⟩ (fun hHeld => ?_)
        clear hK K
        refine norm_ (a' := ?_) ?_ ?_
        rotate_left
        · show Act.put _ (some 46) _ = _
          simp only [Act.put, List.setIfInBounds_toArray, List.set_cons_zero, List.set_cons_succ, i64_w, i32_w]
          rfl
        refine pure_ (i := 4) (N := some 48) (v := ?_) (a' := ?_) #[true, true, true, true, true, false, false, false, false, false, false, false, false, false, false, false, false, false, false, false, false] rfl rfl (by kernel_rfl) (fun _ _ _ h => h) (Or.inl ⟨by rfl, ?_⟩) ?_ ?_
        rotate_left
        · intro w'
          go_simp
          with_reducible rfl
        rotate_left
        · simp only [Act.put, List.setIfInBounds_toArray, List.set_cons_zero, List.set_cons_succ, i64_w, i32_w]
          rfl
        refine pure_ (i := 5) (N := some 49) (v := ?_) (a' := ?_) #[true, true, true, true, true, true, false, false, false, false, false, false, false, false, false, false, false, false, false, false, false] rfl rfl (by kernel_rfl) (fun _ _ _ h => h) (Or.inl ⟨by rfl, ?_⟩) ?_ ?_
        rotate_left
        · intro w'
          go_simp
          with_reducible rfl
        rotate_left
        · simp only [Act.put, List.setIfInBounds_toArray, List.set_cons_zero, List.set_cons_succ, i64_w, i32_w]
          rfl
        refine pure_ (i := 6) (N := some 50) (v := ?_) (a' := ?_) #[true, true, true, true, true, true, true, false, false, false, false, false, false, false, false, false, false, false, false, false, false] rfl rfl (by kernel_rfl) (fun _ _ _ h => h) (Or.inl ⟨by rfl, ?_⟩) ?_ ?_
        rotate_left
        · intro w'
          go_simp
          with_reducible rfl
        rotate_left
        · simp only [Act.put, List.setIfInBounds_toArray, List.set_cons_zero, List.set_cons_succ, i64_w, i32_w]
          rfl
        refine pure_ (i := 7) (N := some 51) (v := ?_) (a' := ?_) #[true, true, true, true, true, true, true, true, false, false, false, false, false, false, false, false, false, false, false, false, false] rfl rfl (by kernel_rfl) (fun _ _ _ h => h) (Or.inl ⟨by rfl, ?_⟩) ?_ ?_
        rotate_left
        · intro w'
          go_simp
          with_reducible rfl
        rotate_left
        · simp only [Act.put, List.setIfInBounds_toArray, List.set_cons_zero, List.set_cons_succ, i64_w, i32_w]
          rfl
        refine pure_ (i := 8) (N := some 52) (v := ?_) (a' := ?_) #[true, true, true, true, true, true, true, true, true, false, false, false, false, false, false, false, false, false, false, false, false] rfl rfl (by kernel_rfl) (fun _ _ _ h => h) (Or.inl ⟨by rfl, ?_⟩) ?_ ?_
        rotate_left
        · intro w'
          go_simp
          with_reducible rfl
        rotate_left
        · simp only [Act.put, List.setIfInBounds_toArray, List.set_cons_zero, List.set_cons_succ, i64_w, i32_w]
          rfl
        refine pure_ (i := 9) (N := some 53) (v := ?_) (a' := ?_) #[true, true, true, true, true, true, true, true, true, true, false, false, false, false, false, false, false, false, false, false, false] rfl rfl (by kernel_rfl) (fun _ _ _ h => h) (Or.inl ⟨by rfl, ?_⟩) ?_ ?_
        rotate_left
        · intro w'
          go_simp
          with_reducible rfl
        rotate_left
        · simp only [Act.put, List.setIfInBounds_toArray, List.set_cons_zero, List.set_cons_succ, i64_w, i32_w]
          rfl
        refine pure_ (i := 10) (N := some 54) (v := ?_) (a' := ?_) #[true, true, true, true, true, true, true, true, true, true, true, false, false, false, false, false, false, false, false, false, false] rfl rfl (by kernel_rfl) (fun _ _ _ h => h) (Or.inl ⟨by rfl, ?_⟩) ?_ ?_
        rotate_left
        · intro w'
          go_simp
          with_reducible rfl
        rotate_left
        · simp only [Act.put, List.setIfInBounds_toArray, List.set_cons_zero, List.set_cons_succ, i64_w, i32_w]
          rfl
        refine pure_ (i := 11) (N := some 55) (v := ?_) (a' := ?_) #[true, true, true, true, true, true, true, true, true, true, true, true, false, false, false, false, false, false, false, false, false] rfl rfl (by kernel_rfl) (fun _ _ _ h => h) (Or.inl ⟨by rfl, ?_⟩) ?_ ?_
        rotate_left
        · intro w'
          go_simp
          with_reducible rfl
        rotate_left
        · simp only [Act.put, List.setIfInBounds_toArray, List.set_cons_zero, List.set_cons_succ, i64_w, i32_w]
          rfl
        refine pure_ (i := 14) (N := some 58) (v := ?_) (a' := ?_) #[true, true, true, true, true, true, true, true, true, true, true, true, false, false, true, false, false, false, false, false, false] rfl rfl (by kernel_rfl) (fun _ _ _ h => h) (Or.inl ⟨by rfl, ?_⟩) ?_ ?_
        rotate_left
        · intro w'
          go_simp
          with_reducible rfl
        rotate_left
        · simp only [Act.put, List.setIfInBounds_toArray, List.set_cons_zero, List.set_cons_succ, i64_w, i32_w]
          rfl
        refine pure_ (i := 15) (N := some 59) (v := ?_) (a' := ?_) #[true, true, true, true, true, true, true, true, true, true, true, true, false, false, true, true, false, false, false, false, false] rfl rfl (by kernel_rfl) (fun _ _ _ h => h) (Or.inl ⟨by rfl, ?_⟩) ?_ ?_
        rotate_left
        · intro w'
          go_simp
          with_reducible rfl
        rotate_left
        · simp only [Act.put, List.setIfInBounds_toArray, List.set_cons_zero, List.set_cons_succ, i64_w, i32_w]
          rfl
        refine pure_ (i := 16) (N := some 60) (v := ?_) (a' := ?_) #[true, true, true, true, true, true, true, true, true, true, true, true, false, false, true, true, true, false, false, false, false] rfl rfl (by kernel_rfl) (fun _ _ _ h => h) (Or.inl ⟨by rfl, ?_⟩) ?_ ?_
        rotate_left
        · intro w'
          go_simp
          with_reducible rfl
        rotate_left
        · simp only [Act.put, List.setIfInBounds_toArray, List.set_cons_zero, List.set_cons_succ, i64_w, i32_w]
          rfl
        refine take_ (i := 12) (N := some 56) (v := ?_) (a' := ?_) #[true, true, true, true, true, true, true, true, true, true, true, true, true, false, true, true, true, false, false, false, false] rfl rfl (by kernel_rfl) (fun _ _ _ h => h) (Or.inl ⟨by rfl, ?_⟩) hHeld ?_ ?_
        rotate_left
        · rintro w' ⟨s0, s1, s2, s3, s4⟩
          go_simp
          with_reducible rfl
        rotate_left
        · simp only [Act.put, List.setIfInBounds_toArray, List.set_cons_zero, List.set_cons_succ, i64_w, i32_w]
          rfl
        refine take_ (i := 17) (N := some 61) (v := ?_) (a' := ?_) #[true, true, true, true, true, true, true, true, true, true, true, true, true, false, true, true, true, true, false, false, false] rfl rfl (by kernel_rfl) (fun _ _ _ h => h) (Or.inl ⟨by rfl, ?_⟩) hHeld ?_ ?_
        rotate_left
        · rintro w' ⟨s0, s1, s2, s3, s4⟩
          go_simp
          with_reducible rfl
        rotate_left
        · simp only [Act.put, List.setIfInBounds_toArray, List.set_cons_zero, List.set_cons_succ, i64_w, i32_w]
          rfl
        refine one_ (i := 13) (N := some 57) #[true, true, true, true, true, true, true, true, true, true, true, true, true, true, true, true, true, true, false, false, false] rfl rfl (by kernel_rfl) (by decide) (fun K hK => ?_)
        refine goes_ Try.func18 (by kernel_rfl) rfl #[.slice (some ad) x.length c1, .agg #[.int .i64 r1, .int .i64 r2, .int .i64 r3, .int .i64 r4]] (by rfl) rfl rfl (by simp only [List.map_toArray, List.map_cons, List.map_nil]; rfl) ?_
        with_reducible refine (HPX.out _ HX1.out).mono ?_
        rintro e_ wC ⟨rfl, hb_⟩
        refine ⟨_, rfl, ?_⟩
        have n0_ := Aside0.mk (below_step HB.out hb_)
        have n1_ := Aside0.mk (HF.out.below hb_)
        have n2_ := Aside0.mk (Kd.C_below HXM.out hb_)
        have n3_ := Aside0.mk (Kd.C_below HX1.out hb_)
        clear HB hb_ HF HXM HX1
        have HB := n0_
        have HF := n1_
        have HXM := n2_
        have HX1 := n3_
        clear n0_ n1_ n2_ n3_
        clear hHeld
        refine hK.out _ _ ⟨(blk_cell HF.out 0).trans rfl, (blk_cell HF.out 1).trans rfl, (blk_cell HF.out 2).trans rfl, (blk_cell HF.out 3).trans rfl, HCX.out _ HX1.out⟩ (fun hHeld => ?_)
        clear hK K
        refine norm_ (a' := ?_) ?_ ?_
        rotate_left
        · show Act.put _ (some 57) _ = _
          simp only [Act.put, List.setIfInBounds_toArray, List.set_cons_zero, List.set_cons_succ, i64_w, i32_w]
          rfl
        refine pure_ (i := 18) (N := some 62) (v := ?_) (a' := ?_) #[true, true, true, true, true, true, true, true, true, true, true, true, true, true, true, true, true, true, true, false, false] rfl rfl (by kernel_rfl) (fun _ _ _ h => h) (Or.inl ⟨by rfl, ?_⟩) ?_ ?_
        rotate_left
        · intro w'
          go_simp
          with_reducible rfl
        rotate_left
        · simp only [Act.put, List.setIfInBounds_toArray, List.set_cons_zero, List.set_cons_succ, i64_w, i32_w]
          rfl
        refine pure_ (i := 19) (N := some 63) (v := ?_) (a' := ?_) #[true, true, true, true, true, true, true, true, true, true, true, true, true, true, true, true, true, true, true, true, false] rfl rfl (by kernel_rfl) (fun _ _ _ h => h) (Or.inl ⟨by rfl, ?_⟩) ?_ ?_
        rotate_left
        · intro w'
          go_simp
          with_reducible rfl
        rotate_left
        · simp only [Act.put, List.setIfInBounds_toArray, List.set_cons_zero, List.set_cons_succ, i64_w, i32_w]
          rfl
        refine pure_ (i := 20) (N := some 6) (v := ?_) (a' := ?_) #[true, true, true, true, true, true, true, true, true, true, true, true, true, true, true, true, true, true, true, true, true] rfl rfl (by kernel_rfl) (fun _ _ _ h => h) (Or.inl ⟨by rfl, ?_⟩) ?_ ?_
        rotate_left
        · intro w'
          go_simp
          with_reducible rfl
        rotate_left
        · simp only [Act.put, List.setIfInBounds_toArray, List.set_cons_zero, List.set_cons_succ, i64_w, i32_w]
          rfl
        refine done_ (by kernel_rfl) ?_
        clear hHeld
        go_wp2_with (fail)
        go_ret
        exact ⟨rfl, HB.out⟩
end Go.Proofs.Ytnffajpnffibaaa.Own
