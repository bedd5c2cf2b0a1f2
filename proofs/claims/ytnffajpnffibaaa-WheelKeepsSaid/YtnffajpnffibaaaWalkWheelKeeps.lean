/-
  The walk of roundhouselaw7.WheelKeeps.
-/
import Derived.Test.YtnffajpnffibaaaWheW
namespace Go.Proofs.Ytnffajpnffibaaa.Own
open Go Go.RowKit Go.Proofs.YtnffajpnffibaaaW.PrintWords Go.Proofs.YtnffajpnffibaaaW.PrintMore Go.Proofs.YtnffajpnffibaaaW.PrintLast Go.Proofs.Ytnffajpnffibaaa.Q
set_option linter.unusedVariables false
set_option linter.unusedSimpArgs false

/-- The first so many numbers changed. -/
def k99 (x : List Int) (i : Nat) : List Int := List.replicate i 99 ++ x.drop i
theorem k99_len (x : List Int) (i : Nat) (h : x.length = 127) (hi : i ≤ 127) : (k99 x i).length = 127 := by unfold k99; simp; omega
theorem k99_set (x : List Int) (i : Nat) (h : x.length = 127) (hi : i < 127) : (k99 x i).set i 99 = k99 x (i + 1) := by
  unfold k99
  rw [List.set_append_right _ _ (by simp), List.length_replicate, Nat.sub_self, List.drop_eq_getElem_cons (by omega), List.set_cons_zero, List.replicate_succ']
  simp
theorem k99_end (x : List Int) (h : x.length = 127) : k99 x 127 = List.replicate 127 99 := by
  unfold k99
  rw [List.drop_eq_nil_of_le (by omega), List.append_nil]
theorem count_take (l : List Int) (a : Int) (i : Nat) (hi : i < l.length) : (l.take (i + 1)).count a = (l.take i).count a + (if rd l (i : Int) = a then 1 else 0) := by
  rw [rd_place l i hi, List.take_add_one, List.getElem?_eq_getElem hi, List.count_append]
  congr 1
  simp only [Option.toList_some, List.count_singleton]
  by_cases h : l[i] = a <;> simp [h]
set_option maxHeartbeats 8000000 in
set_option maxRecDepth 100000 in
theorem WheelKeeps_walk (W : World) (A : Option Addr) (c : Nat) (l : List Int) (hl : l.length ≤ 4611686018427387903) (hi : ∀ x ∈ l, -9223372036854775808 ≤ x ∧ x ≤ 9223372036854775807) (hc : l.length ≤ c) (hC : Kd.C (Kd.int .i64) W A l.length l) (A9 : Option Addr) (c9 : Nat) (l9 : List Int) (hl9 : l9.length ≤ 4611686018427387903) (hi9 : ∀ x ∈ l9, -9223372036854775808 ≤ x ∧ x ≤ 9223372036854775807) (hc9 : l9.length ≤ c9) (hC9 : Kd.C (Kd.int .i64) W A9 l9.length l9) (z : Int) (hz : -9223372036854775808 ≤ z ∧ z ≤ 9223372036854775807) : Calls Try.prog 7 #[.slice A l.length c, .slice A9 l9.length c9, .int .i64 z] W fun e w' => e = .returned (.bool true) ∧ Below W.heap.size W w' := by
  have hu25 := Try.underlying25
  have hu33 := pool33
  have hu26 := slots26
  have hu22 := Try.underlying22
  have HL : Aside0 (l.length ≤ 4611686018427387904) := ⟨by omega⟩
  have HI := Aside0.mk hi
  have HC := Aside0.mk hC
  obtain ⟨p, hp⟩ : ∃ p, make6 l 60 = p := ⟨_, rfl⟩
  have Hp := Aside0.mk hp
  have HP : Aside0 (PInv p) := ⟨by rw [← hp]; exact PInv.make l 60 hi⟩
  obtain ⟨x, hx⟩ : ∃ x, x = wheelOf p.sl := ⟨_, rfl⟩
  have HXE := Aside0.mk hx
  have HXN : Aside0 (x.length = 127) := ⟨by rw [hx]; exact wheel_len HP.out⟩
  have HXB : Aside0 (x.length < 4611686018427387904) := ⟨by rw [HXN.out]; decide⟩
  have HWS : Aside0 (∀ w, Calls Try.prog 15 #[.agg (pcs p)] w fun e w' => ∃ (A : Option Addr) (c : Nat), e = .returned (.slice A x.length c) ∧ x.length ≤ c ∧ Kd.C (Kd.int .i64) w' A x.length x ∧ Below w.heap.size w w') := ⟨fun w => by rw [hx]; exact wheel_say HP.out⟩
  have HRS : Aside0 (∀ w, Calls Try.prog 16 #[.agg (pcs p)] w fun e w' => ∃ (A : Option Addr) (c : Nat), e = .returned (.slice A x.length c) ∧ x.length ≤ c ∧ Kd.C (Kd.int .i64) w' A x.length x ∧ Below w.heap.size w w') := ⟨fun w => by rw [hx]; exact ref_say HP.out⟩
  clear hl hi hC hp hx
  have HI9 := Aside0.mk hi9
  have HC9 := Aside0.mk hC9
  have HL9 := Aside0.mk hl9
  have HCC9 := Aside0.mk hc9
  clear hi9 hC9 hl9 hc9
  have HWR : Aside0 (∀ w, Calls Try.prog 15 #[.agg (pcs p)] w fun e w' => ∃ v, e = .returned v ∧ Kd.R (Kd.int .i64) 3 w' w.heap.size (fun _ => True) v x ∧ Below w.heap.size w w') := ⟨fun w => by
    obtain ⟨k, hk⟩ := wheel_ok p.sl HP.out.good
    rw [← HXE.out] at hk
    exact wheel_Make.calls k (pcs p) p.sl x w (pcs_slots p HP.out.len) hk⟩
  go_enter Try.func7, Try.ntmps7
  go_upto_region 4 with (first
    | (go_at_call 13; refine (known_calls _).mono ?_; rintro e_ w1 ⟨rfl, hb_⟩; have HB := Aside0.mk hb_; clear hb_)
    | (go_at_call 14; refine (make_calls A c l 60 ⟨by decide, by decide⟩ HL.out HI.out _ (Kd.C_below HC.out HB.out)).mono ?_; rw [Hp.out]; rintro e_ w2 ⟨rfl, hb_⟩; have n_ := Aside0.mk (below_step HB.out hb_); clear HB hb_; have HB := n_; clear n_)
    | ((with_reducible refine gate_dst (N := 7) rfl ?_); refine pl_var (N := 7) rfl rfl rfl rfl rfl (.tmp 15) rfl (HP.out.len) (fun _ => rfl) (fun _ => rfl) ?_; intro g w3 hge hb2 hB2; have HG := Aside0.mk hb2; have n_ := Aside0.mk (below_step HB.out hB2); clear HB hb2 hB2 hge; have HB := n_; clear n_))
  go_upto_region 5 with (first
    | ((with_reducible refine gate_dst (N := 16) rfl ?_); refine pl_load (N := 16) rfl rfl (.tmp 7) rfl rfl HG.out (HP.out.len) ?_)
    | (go_at_call 15; refine (HWR.out _).mono ?_; rintro e_ w4 ⟨v4, rfl, hR_, hb_⟩; have HG3 := HG; have HB3 := HB; have n0_ := Aside0.mk (below_step HB.out hb_); have n1_ := Aside0.mk (HG.out.below hb_); clear HB hb_ HG; have HB := n0_; have HG := n1_; clear n0_ n1_; have HR := Aside0.mk hR_; clear hR_))
  obtain ⟨gm, cm, rfl, gb_, gl_, cl_, HG_⟩ := Kd.R_form HR.out (by rw [HXN.out]; decide)
  have HGM : Aside0 (w3.heap.size ≤ gm) := ⟨gb_⟩
  have HGL : Aside0 (g < gm) := ⟨by have h1_ := HG3.out.lt; omega⟩
  have HBW : Aside0 (W.heap.size ≤ w3.heap.size) := ⟨HB3.out.size⟩
  clear gl_ cl_ HG_ gb_ HG3 HB3
  rw [HXN.out] at HR
  rw [HXN.out]
  go_wp2_with fail
  go_loopg [9] 128 (fun kq v9 w' => ∃ i : Nat, v9 = .int .i64 i ∧ Aside0 (kq + i = 128 ∧ i ≤ 127) ∧ Aside0 (Kd.R (Kd.int .i64) 3 w' w3.heap.size (fun _ => True) (.slice (some ⟨gm, 0, none⟩) 127 cm) (k99 x i)) ∧ Aside0 (Below W.heap.size W w') ∧ Aside0 (Blk w' g 33 (pcs p)))
  case atStart => exact ⟨0, rfl, ⟨by omega⟩, HR, HB, HG⟩
  case round =>
    clear HR HB HG
    obtain ⟨i, rfl, HK, HR, HB, HG⟩ := hrel
    cases gk with
    | zero => have := HK.out; omega
    | succ k1 =>
      by_cases hi : i < 127
      · have hi0 : decide ((i : Int) < 127) = true := decide_eq_true (by omega)
        have p1 : (0 ≤ (i : Int)) = True := eq_true (Int.natCast_nonneg i)
        have p2 : ((i : Int) < 127) = True := eq_true (by omega)
        have p3 : (i < 127) = True := eq_true hi
        have HI2 := Aside0.mk hi
        have HR0 : Aside0 (Kd.R (Kd.int .i64) 3 wr w3.heap.size (fun _ => True) (.slice (some ⟨gm, 0, none⟩) (k99 x i).length cm) (k99 x i)) := ⟨by rw [k99_len x i HXN.out (by omega)]; exact HR.out⟩
        obtain ⟨hx0, hf0⟩ := Kd.R_celln 0 HR0.out (i : Int) (by omega) (by rw [k99_len x i HXN.out (by omega)]; omega)
        have HP9 := Kd.R_putg HR.out (i : Int) 99
        rw [Int.toNat_natCast, k99_set x i HXN.out hi] at HP9
        rw [Int.toNat_natCast] at hx0 hf0
        have n_ := Aside0.mk HP9.1
        have HB2 := Aside0.mk (below_set (j := i) (v := .int .i64 99) HB.out (by have h1_ := HGM.out; have h2_ := HBW.out; omega : W.heap.size ≤ gm))
        have HG2 : Aside0 (Blk (wr.setCell ⟨gm, i, none⟩ (.int .i64 99)) g 33 (pcs p)) := ⟨blk_far HG.out (by show g ≠ gm; have h1_ := HGL.out; omega) _⟩
        clear HP9 hi HR0
        go_wp2
        go_roundg k1
        case measure => omega
        case rel => exact ⟨i + 1, by rw [show wrap64 ((i : Int) + 1) = ((i + 1 : Nat) : Int) from by have h_ := HI2.out; rw [w64 _ (by omega) (by omega)]; omega], ⟨by have h_ := HK.out; have h2_ := HI2.out; omega⟩, n_, HB2, HG2⟩
      · have hi0 : decide ((i : Int) < 127) = false := decide_eq_false (by omega)
        have p3 : (i < 127) = False := eq_false hi
        obtain rfl : i = 127 := by have h_ := HK.out; omega
        obtain ⟨y, hy⟩ : ∃ y, y = k99 x 127 := ⟨_, rfl⟩
        have HCY : Aside0 (Kd.C (Kd.int .i64) wr (some ⟨gm, 0, none⟩) y.length y) := ⟨by rw [hy]; exact (Kd.R_reads' HR.out).2.2⟩
        have HYL : Aside0 (y.length = 127) := ⟨by rw [hy]; exact k99_len x 127 HXN.out (Nat.le_refl _)⟩
        have HCM : Aside0 (127 ≤ cm) := ⟨(Kd.R_reads' HR.out).2.1⟩
        have HY9 : Aside0 (y.count 99 = 127) := ⟨by rw [hy, k99_end x HXN.out]; simp⟩
        have HS99 : Aside0 (∀ w, Kd.C (Kd.int .i64) w (some ⟨gm, 0, none⟩) y.length y → Calls Try.prog 21 #[.slice (some ⟨gm, 0, none⟩) 127 cm, .int .i64 99] w fun r w' => r = .returned (.int .i64 127) ∧ Below w.heap.size w w') := ⟨fun w h => by
          have h1 := share_say y 99 (c := cm) (by rw [HYL.out]; decide) h (by rw [HYL.out]; exact HCM.out)
          rw [HYL.out, HY9.out] at h1
          exact h1⟩
        have HSL : Aside0 (∀ w, Kd.C (Kd.int .i64) w A9 l9.length l9 → Calls Try.prog 21 #[.slice A9 l9.length c9, .int .i64 z] w fun r w' => r = .returned (.int .i64 (l9.count z : Nat)) ∧ Below w.heap.size w w') := ⟨fun w h => share_say l9 z (by have h_ := HL9.out; omega) h HCC9.out⟩
        clear HR hy hi
        go_wp2_with fail
        go_loopg [10, 11] (l9.length + 1) (fun kq v10 v11 w' => ∃ i : Nat, v10 = .int .i64 ((l9.take i).count z : Nat) ∧ v11 = .int .i64 i ∧ Aside0 (kq + i = l9.length + 1 ∧ i ≤ l9.length) ∧ Aside0 (Kd.C (Kd.int .i64) w' (some ⟨gm, 0, none⟩) y.length y) ∧ Aside0 (Below W.heap.size W w') ∧ Aside0 (Blk w' g 33 (pcs p)))
        case atStart => exact ⟨0, rfl, rfl, ⟨by omega⟩, HCY, HB, HG⟩
        case round =>
          clear HCY HB HG p3 hi0
          obtain ⟨i, rfl, rfl, HK, HCY, HB, HG⟩ := hrel
          cases gk with
          | zero => have := HK.out; omega
          | succ k2 =>
            by_cases hi : i < l9.length
            · have hi0 : decide ((i : Int) < (l9.length : Int)) = true := decide_eq_true (by omega)
              have p1 : (0 ≤ (i : Int)) = True := eq_true (Int.natCast_nonneg i)
              have p2 : ((i : Int) < (l9.length : Int)) = True := eq_true (by omega)
              have p3 : (i < l9.length) = True := eq_true hi
              have HI2 := Aside0.mk hi
              have hct := count_take l9 z i hi
              have HCB : Aside0 ((l9.take i).count z ≤ l9.length) := ⟨Nat.le_trans List.count_le_length (by rw [List.length_take]; omega)⟩
              obtain ⟨ad_, e_, hx_⟩ := Kd.at_int (Kd.C_below HC9.out HB.out) (i : Int) (Int.natCast_nonneg i) (by omega)
              rw [Int.toNat_natCast] at hx_
              cases e_
              clear hi
              by_cases hz : rd l9 (i : Int) = z
              · have hb1 : (rd l9 (i : Int) == z) = true := by simp [hz]
                rw [if_pos hz] at hct
                have HCT := Aside0.mk hct
                clear hct hz
                go_wp2_with fail
                go_roundg k2
                case measure => omega
                case rel => exact ⟨i + 1, by rw [show wrap64 ((((l9.take i).count z : Nat) : Int) + 1) = (((l9.take (i + 1)).count z : Nat) : Int) from by have h_ := HCB.out; have h2_ := HL9.out; have h3_ := HCT.out; rw [w64 _ (by omega) (by omega)]; omega], by rw [show wrap64 ((i : Int) + 1) = ((i + 1 : Nat) : Int) from by have h_ := HI2.out; have h2_ := HL9.out; rw [w64 _ (by omega) (by omega)]; omega], ⟨by have h_ := HK.out; have h2_ := HI2.out; omega⟩, HCY, HB, HG⟩
              · have hb1 : (rd l9 (i : Int) == z) = false := by simp [hz]
                rw [if_neg hz] at hct
                have HCT := Aside0.mk hct
                clear hct hz
                go_wp2_with fail
                go_roundg k2
                case measure => omega
                case rel => exact ⟨i + 1, by rw [HCT.out]; rfl, by rw [show wrap64 ((i : Int) + 1) = ((i + 1 : Nat) : Int) from by have h_ := HI2.out; have h2_ := HL9.out; rw [w64 _ (by omega) (by omega)]; omega], ⟨by have h_ := HK.out; have h2_ := HI2.out; omega⟩, HCY, HB, HG⟩
            · have hi0 : decide ((i : Int) < (l9.length : Int)) = false := decide_eq_false (by omega)
              have p3 : (i < l9.length) = False := eq_false hi
              obtain rfl : i = l9.length := by have h_ := HK.out; omega
              rw [List.take_length]
              clear hi HK
              go_upto_region 15 with fail
              have hb_ := below_drew1 (Below.refl wr.heap.size wr)
              have n0_ := Aside0.mk (below_step HB.out hb_)
              have n1_ := Aside0.mk (HG.out.below hb_)
              have n2_ := Aside0.mk (Kd.C_below HCY.out hb_)
              clear HB hb_ HG HCY
              have HB := n0_
              have HG := n1_
              have HCY := n2_
              clear n0_ n1_ n2_
              refine start_ (n := 20) (S := fun w' => Blk w' g 33 (pcs p)) (ds := []) #[false, false, false, false, false, false, false, false, false, false, false, false, false, false, false, false, false, false, false, false] (by kernel_rfl) rfl rfl (HG.out) (fun hHeld => ?_)
              generalize wr.drew = wx at HG HCY HB hHeld ⊢
              refine take_ (i := 0) (N := some 41) (v := ?_) (a' := ?_) #[true, false, false, false, false, false, false, false, false, false, false, false, false, false, false, false, false, false, false, false] rfl rfl (by kernel_rfl) (fun _ _ _ h => h) (Or.inl ⟨by rfl, ?_⟩) hHeld ?_ ?_
              rotate_left
              · intro w' hs
                refine (run_ld33 _ _ w' g p (.tmp 7) ?_ ?_ hs HP.out.len).trans ?_
                · rfl
                · rfl
                · with_reducible rfl
              rotate_left
              · simp only [Act.put, List.setIfInBounds_toArray, List.set_cons_zero, List.set_cons_succ, i64_w, i32_w]
                rfl
              refine take_ (i := 2) (N := some 43) (v := ?_) (a' := ?_) #[true, false, true, false, false, false, false, false, false, false, false, false, false, false, false, false, false, false, false, false] rfl rfl (by kernel_rfl) (fun _ _ _ h => h) (Or.inl ⟨by rfl, ?_⟩) hHeld ?_ ?_
              rotate_left
              · intro w' hs
                refine (run_ld33 _ _ w' g p (.tmp 7) ?_ ?_ hs HP.out.len).trans ?_
                · rfl
                · rfl
                · with_reducible rfl
              rotate_left
              · simp only [Act.put, List.setIfInBounds_toArray, List.set_cons_zero, List.set_cons_succ, i64_w, i32_w]
                rfl
              refine one_ (i := 1) (N := some 42) #[true, true, true, false, false, false, false, false, false, false, false, false, false, false, false, false, false, false, false, false] rfl rfl (by kernel_rfl) (by decide) (fun K hK => ?_)
              refine goes_ Try.func15 (by kernel_rfl) rfl #[.agg (pcs p)] (by rfl) rfl rfl (by simp only [List.map_toArray, List.map_cons, List.map_nil]; rfl) ?_
              with_reducible refine (HWS.out _).mono ?_
              rintro e_ w5 ⟨A1, c1, rfl, hc_, hC_, hb_⟩
              refine ⟨_, rfl, ?_⟩
              have n0_ := Aside0.mk (below_step HB.out hb_)
              have n1_ := Aside0.mk (HG.out.below hb_)
              have n2_ := Aside0.mk (Kd.C_below HCY.out hb_)
              clear HB hb_ HG HCY
              have HB := n0_
              have HG := n1_
              have HCY := n2_
              clear n0_ n1_ n2_
              clear hHeld
              have HX1 := Aside0.mk hC_
              have HX1L := Aside0.mk hc_
              clear hC_ hc_
              refine hK.out _ _ (HG.out) (fun hHeld => ?_)
              clear hK K
              refine norm_ (a' := ?_) ?_ ?_
              rotate_left
              · show Act.put _ (some 42) _ = _
                simp only [Act.put, List.setIfInBounds_toArray, List.set_cons_zero, List.set_cons_succ, i64_w, i32_w]
                rfl
              refine one_ (i := 3) (N := some 44) #[true, true, true, true, false, false, false, false, false, false, false, false, false, false, false, false, false, false, false, false] rfl rfl (by kernel_rfl) (by decide) (fun K hK => ?_)
              refine goes_ Try.func16 (by kernel_rfl) rfl #[.agg (pcs p)] (by rfl) rfl rfl (by simp only [List.map_toArray, List.map_cons, List.map_nil]; rfl) ?_
              with_reducible refine (HRS.out _).mono ?_
              rintro e_ w6 ⟨A2, c2, rfl, hc_, hC_, hb_⟩
              refine ⟨_, rfl, ?_⟩
              have n0_ := Aside0.mk (below_step HB.out hb_)
              have n1_ := Aside0.mk (HG.out.below hb_)
              have n2_ := Aside0.mk (Kd.C_below HCY.out hb_)
              have n3_ := Aside0.mk (Kd.C_below HX1.out hb_)
              clear HB hb_ HG HCY HX1
              have HB := n0_
              have HG := n1_
              have HCY := n2_
              have HX1 := n3_
              clear n0_ n1_ n2_ n3_
              clear hHeld
              have HX2 := Aside0.mk hC_
              have HX2L := Aside0.mk hc_
              clear hC_ hc_
              refine hK.out _ _ (HG.out) (fun hHeld => ?_)
              clear hK K
              refine norm_ (a' := ?_) ?_ ?_
              rotate_left
              · show Act.put _ (some 44) _ = _
                simp only [Act.put, List.setIfInBounds_toArray, List.set_cons_zero, List.set_cons_succ, i64_w, i32_w]
                rfl
              refine one_ (i := 4) (N := some 45) #[true, true, true, true, true, false, false, false, false, false, false, false, false, false, false, false, false, false, false, false] rfl rfl (by kernel_rfl) (by decide) (fun K hK => ?_)
              refine goes_ Try.func17 (by kernel_rfl) rfl #[.slice A1 x.length c1, .slice A2 x.length c2] (by rfl) rfl rfl (by simp only [List.map_toArray, List.map_cons, List.map_nil]; rfl) ?_
              with_reducible refine (same_say x x HXB.out HX1.out HX1L.out HX2.out HX2L.out).mono ?_
              rw [decide_eq_true rfl]
              rintro e_ w7 ⟨rfl, hb_⟩
              refine ⟨_, rfl, ?_⟩
              have n0_ := Aside0.mk (below_step HB.out hb_)
              have n1_ := Aside0.mk (HG.out.below hb_)
              have n2_ := Aside0.mk (Kd.C_below HCY.out hb_)
              clear HB hb_ HG HCY
              have HB := n0_
              have HG := n1_
              have HCY := n2_
              clear n0_ n1_ n2_
              clear hHeld
              refine hK.out _ _ (HG.out) (fun hHeld => ?_)
              clear hK K
              refine norm_ (a' := ?_) ?_ ?_
              rotate_left
              · show Act.put _ (some 45) _ = _
                simp only [Act.put, List.setIfInBounds_toArray, List.set_cons_zero, List.set_cons_succ, i64_w, i32_w]
                rfl
              refine pure_ (i := 5) (N := some 46) (v := ?_) (a' := ?_) #[true, true, true, true, true, true, false, false, false, false, false, false, false, false, false, false, false, false, false, false] rfl rfl (by kernel_rfl) (fun _ _ _ h => h) (Or.inl ⟨by rfl, ?_⟩) ?_ ?_
              rotate_left
              · intro w'
                go_simp
                with_reducible rfl
              rotate_left
              · simp only [Act.put, List.setIfInBounds_toArray, List.set_cons_zero, List.set_cons_succ, i64_w, i32_w]
                rfl
              refine pure_ (i := 6) (N := some 47) (v := ?_) (a' := ?_) #[true, true, true, true, true, true, true, false, false, false, false, false, false, false, false, false, false, false, false, false] rfl rfl (by kernel_rfl) (fun _ _ _ h => h) (Or.inl ⟨by rfl, ?_⟩) ?_ ?_
              rotate_left
              · intro w'
                go_simp
                with_reducible rfl
              rotate_left
              · simp only [Act.put, List.setIfInBounds_toArray, List.set_cons_zero, List.set_cons_succ, i64_w, i32_w]
                rfl
              refine pure_ (i := 8) (N := some 49) (v := ?_) (a' := ?_) #[true, true, true, true, true, true, true, false, true, false, false, false, false, false, false, false, false, false, false, false] rfl rfl (by kernel_rfl) (fun _ _ _ h => h) (Or.inl ⟨by rfl, ?_⟩) ?_ ?_
              rotate_left
              · intro w'
                go_simp
                with_reducible rfl
              rotate_left
              · simp only [Act.put, List.setIfInBounds_toArray, List.set_cons_zero, List.set_cons_succ, i64_w, i32_w]
                rfl
              refine pure_ (i := 9) (N := some 50) (v := ?_) (a' := ?_) #[true, true, true, true, true, true, true, false, true, true, false, false, false, false, false, false, false, false, false, false] rfl rfl (by kernel_rfl) (fun _ _ _ h => h) (Or.inl ⟨by rfl, ?_⟩) ?_ ?_
              rotate_left
              · intro w'
                go_simp
                with_reducible rfl
              rotate_left
              · simp only [Act.put, List.setIfInBounds_toArray, List.set_cons_zero, List.set_cons_succ, i64_w, i32_w]
                rfl
              refine one_ (i := 7) (N := some 48) #[true, true, true, true, true, true, true, true, true, true, false, false, false, false, false, false, false, false, false, false] rfl rfl (by kernel_rfl) (by decide) (fun K hK => ?_)
              refine goes_ Try.func21 (by kernel_rfl) rfl #[.slice (some ⟨gm, 0, none⟩) 127 cm, .int .i64 99] (by rfl) rfl rfl (by simp only [List.map_toArray, List.map_cons, List.map_nil]; rfl) ?_
              with_reducible refine (HS99.out _ HCY.out).mono ?_
              rintro e_ w8 ⟨rfl, hb_⟩
              refine ⟨_, rfl, ?_⟩
              have n0_ := Aside0.mk (below_step HB.out hb_)
              have n1_ := Aside0.mk (HG.out.below hb_)
              have n2_ := Aside0.mk (Kd.C_below HCY.out hb_)
              clear HB hb_ HG HCY
              have HB := n0_
              have HG := n1_
              have HCY := n2_
              clear n0_ n1_ n2_
              clear hHeld
              refine hK.out _ _ (HG.out) (fun hHeld => ?_)
              clear hK K
              refine norm_ (a' := ?_) ?_ ?_
              rotate_left
              · show Act.put _ (some 48) _ = _
                simp only [Act.put, List.setIfInBounds_toArray, List.set_cons_zero, List.set_cons_succ, i64_w, i32_w]
                rfl
              refine pure_ (i := 10) (N := some 51) (v := ?_) (a' := ?_) #[true, true, true, true, true, true, true, true, true, true, true, false, false, false, false, false, false, false, false, false] rfl rfl (by kernel_rfl) (fun _ _ _ h => h) (Or.inl ⟨by rfl, ?_⟩) ?_ ?_
              rotate_left
              · intro w'
                go_simp
                with_reducible rfl
              rotate_left
              · simp only [Act.put, List.setIfInBounds_toArray, List.set_cons_zero, List.set_cons_succ, i64_w, i32_w]
                rfl
              refine pure_ (i := 11) (N := some 52) (v := ?_) (a' := ?_) #[true, true, true, true, true, true, true, true, true, true, true, true, false, false, false, false, false, false, false, false] rfl rfl (by kernel_rfl) (fun _ _ _ h => h) (Or.inl ⟨by rfl, ?_⟩) ?_ ?_
              rotate_left
              · intro w'
                go_simp
                with_reducible rfl
              rotate_left
              · simp only [Act.put, List.setIfInBounds_toArray, List.set_cons_zero, List.set_cons_succ, i64_w, i32_w]
                rfl
              refine pure_ (i := 12) (N := some 53) (v := ?_) (a' := ?_) #[true, true, true, true, true, true, true, true, true, true, true, true, true, false, false, false, false, false, false, false] rfl rfl (by kernel_rfl) (fun _ _ _ h => h) (Or.inl ⟨by rfl, ?_⟩) ?_ ?_
              rotate_left
              · intro w'
                go_simp
                with_reducible rfl
              rotate_left
              · simp only [Act.put, List.setIfInBounds_toArray, List.set_cons_zero, List.set_cons_succ, i64_w, i32_w]
                rfl
              refine pure_ (i := 13) (N := some 54) (v := ?_) (a' := ?_) #[true, true, true, true, true, true, true, true, true, true, true, true, true, true, false, false, false, false, false, false] rfl rfl (by kernel_rfl) (fun _ _ _ h => h) (Or.inl ⟨by rfl, ?_⟩) ?_ ?_
              rotate_left
              · intro w'
                go_simp
                with_reducible rfl
              rotate_left
              · simp only [Act.put, List.setIfInBounds_toArray, List.set_cons_zero, List.set_cons_succ, i64_w, i32_w]
                rfl
              refine pure_ (i := 14) (N := some 55) (v := ?_) (a' := ?_) #[true, true, true, true, true, true, true, true, true, true, true, true, true, true, true, false, false, false, false, false] rfl rfl (by kernel_rfl) (fun _ _ _ h => h) (Or.inl ⟨by rfl, ?_⟩) ?_ ?_
              rotate_left
              · intro w'
                go_simp
                with_reducible rfl
              rotate_left
              · simp only [Act.put, List.setIfInBounds_toArray, List.set_cons_zero, List.set_cons_succ, i64_w, i32_w]
                rfl
              refine pure_ (i := 16) (N := some 57) (v := ?_) (a' := ?_) #[true, true, true, true, true, true, true, true, true, true, true, true, true, true, true, false, true, false, false, false] rfl rfl (by kernel_rfl) (fun _ _ _ h => h) (Or.inl ⟨by rfl, ?_⟩) ?_ ?_
              rotate_left
              · intro w'
                go_simp
                with_reducible rfl
              rotate_left
              · simp only [Act.put, List.setIfInBounds_toArray, List.set_cons_zero, List.set_cons_succ, i64_w, i32_w]
                rfl
              refine one_ (i := 15) (N := some 56) #[true, true, true, true, true, true, true, true, true, true, true, true, true, true, true, true, true, false, false, false] rfl rfl (by kernel_rfl) (by decide) (fun K hK => ?_)
              refine goes_ Try.func21 (by kernel_rfl) rfl #[.slice A9 l9.length c9, .int .i64 z] (by rfl) rfl rfl (by simp only [List.map_toArray, List.map_cons, List.map_nil]; rfl) ?_
              with_reducible refine (HSL.out _ (Kd.C_below HC9.out HB.out)).mono ?_
              rintro e_ w9 ⟨rfl, hb_⟩
              refine ⟨_, rfl, ?_⟩
              have n0_ := Aside0.mk (below_step HB.out hb_)
              have n1_ := Aside0.mk (HG.out.below hb_)
              have n2_ := Aside0.mk (Kd.C_below HCY.out hb_)
              clear HB hb_ HG HCY
              have HB := n0_
              have HG := n1_
              have HCY := n2_
              clear n0_ n1_ n2_
              clear hHeld
              refine hK.out _ _ (HG.out) (fun hHeld => ?_)
              clear hK K
              refine norm_ (a' := ?_) ?_ ?_
              rotate_left
              · show Act.put _ (some 56) _ = _
                simp only [Act.put, List.setIfInBounds_toArray, List.set_cons_zero, List.set_cons_succ, i64_w, i32_w]
                rfl
              refine pure_ (i := 17) (N := some 58) (v := ?_) (a' := ?_) #[true, true, true, true, true, true, true, true, true, true, true, true, true, true, true, true, true, true, false, false] rfl rfl (by kernel_rfl) (fun _ _ _ h => h) (Or.inl ⟨by rfl, ?_⟩) ?_ ?_
              rotate_left
              · intro w'
                go_simp
                with_reducible rfl
              rotate_left
              · simp only [Act.put, List.setIfInBounds_toArray, List.set_cons_zero, List.set_cons_succ, i64_w, i32_w]
                rfl
              refine pure_ (i := 18) (N := some 59) (v := ?_) (a' := ?_) #[true, true, true, true, true, true, true, true, true, true, true, true, true, true, true, true, true, true, true, false] rfl rfl (by kernel_rfl) (fun _ _ _ h => h) (Or.inl ⟨by rfl, ?_⟩) ?_ ?_
              rotate_left
              · intro w'
                go_simp
                with_reducible rfl
              rotate_left
              · simp only [Act.put, List.setIfInBounds_toArray, List.set_cons_zero, List.set_cons_succ, i64_w, i32_w]
                rfl
              refine pure_ (i := 19) (N := some 6) (v := ?_) (a' := ?_) #[true, true, true, true, true, true, true, true, true, true, true, true, true, true, true, true, true, true, true, true] rfl rfl (by kernel_rfl) (fun _ _ _ h => h) (Or.inl ⟨by rfl, ?_⟩) ?_ ?_
              rotate_left
              · intro w'
                go_simp
                with_reducible rfl
              rotate_left
              · simp only [Act.put, List.setIfInBounds_toArray, List.set_cons_zero, List.set_cons_succ, i64_w, i32_w]
                rfl
              refine done_ (by kernel_rfl) ?_
              clear hHeld
              go_wp2_with fail
              go_ret
              exact ⟨rfl, HB.out⟩
end Go.Proofs.Ytnffajpnffibaaa.Own
