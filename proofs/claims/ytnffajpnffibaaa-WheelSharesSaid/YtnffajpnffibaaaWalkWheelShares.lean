/-
  The walk of roundhouselaw7.WheelShares.
-/
import Derived.Test.YtnffajpnffibaaaWheX
namespace Go.Proofs.Ytnffajpnffibaaa.Own
open Go Go.RowKit Go.Proofs.YtnffajpnffibaaaW.PrintWords Go.Proofs.YtnffajpnffibaaaW.PrintMore Go.Proofs.YtnffajpnffibaaaW.PrintLast Go.Proofs.Ytnffajpnffibaaa.Q
set_option linter.unusedVariables false
set_option linter.unusedSimpArgs false

theorem share_nums (S F cn : Nat) (f3 : Int) (hS : 0 < S) (hF : F = 127 / S) (hf : 1 ≤ f3 ∧ f3 ≤ 8) (hlo : F * f3.toNat ≤ cn) (hhi : cn ≤ (F + 1) * f3.toNat) :
    ((S : Int) == 0) = false ∧ Int.tdiv 127 (S : Int) = (F : Int) ∧ wrap64 (F : Int) = (F : Int) ∧ wrap64 ((F : Int) + 1) = (F : Int) + 1 ∧ wrap64 ((F : Int) * f3) = (F : Int) * f3 ∧ wrap64 (((F : Int) + 1) * f3) = ((F : Int) + 1) * f3 ∧ decide ((cn : Int) < (F : Int) * f3) = false ∧ decide ((cn : Int) > ((F : Int) + 1) * f3) = false ∧ ((S : Int) = 0) = False ∧ (S = 0) = False := by
  have hFl : F ≤ 127 := by rw [hF]; exact Nat.div_le_self _ _
  have e2 : Int.tdiv 127 (S : Int) = (F : Int) := by rw [hF, Int.tdiv_eq_ediv_of_nonneg (by decide)]; rfl
  clear hF
  obtain ⟨w, rfl⟩ := Int.eq_ofNat_of_zero_le (show 0 ≤ f3 by omega)
  rw [Int.toNat_natCast] at hlo hhi
  have hw : w ≤ 8 := by omega
  have hm1 : F * w ≤ 127 * 8 := Nat.mul_le_mul hFl hw
  have hm2 : (F + 1) * w ≤ 128 * 8 := Nat.mul_le_mul (by omega) hw
  have q1 : (F : Int) * (w : Int) = ((F * w : Nat) : Int) := by rw [Int.natCast_mul]
  have q2 : ((F : Int) + 1) * (w : Int) = (((F + 1) * w : Nat) : Int) := by rw [Int.natCast_mul]; rfl
  refine ⟨by rw [beq_eq_false_iff_ne]; omega, e2, w64 _ (by omega) (by omega), w64 _ (by omega) (by omega), ?_, ?_, ?_, ?_, eq_false (by omega), eq_false (by omega)⟩
  · rw [q1, w64 _ (by omega) (by omega)]
  · rw [q2, w64 _ (by omega) (by omega)]
  · rw [q1]; exact decide_eq_false (by omega)
  · rw [q2]; exact decide_eq_false (by omega)
set_option maxHeartbeats 8000000 in
set_option maxRecDepth 100000 in
theorem WheelShares_walk (W : World) (A : Option Addr) (c : Nat) (l : List Int) (hl : l.length ≤ 4611686018427387903) (hi : ∀ x ∈ l, -9223372036854775808 ≤ x ∧ x ≤ 9223372036854775807) (hc : l.length ≤ c) (hC : Kd.C (Kd.int .i64) W A l.length l) : Calls Try.prog 4 #[.slice A l.length c] W fun e w' => e = .returned (.bool true) ∧ Below W.heap.size W w' := by
  have hu25 := Try.underlying25
  have hu33 := pool33
  have hu26 := slots26
  have hu22 := Try.underlying22
  have HL : Aside0 (l.length ≤ 4611686018427387904) := ⟨by omega⟩
  have HI := Aside0.mk hi
  have HC := Aside0.mk hC
  obtain ⟨p, hp⟩ : ∃ p, make6 l 60 = p := ⟨_, rfl⟩
  have Hp := Aside0.mk hp
  have HP : Aside0 (PInv p) := ⟨by rw [← hp]; exact PInv.make l 60 hi⟩
  obtain ⟨x, hx⟩ : ∃ x, x = wheelOf p.sl := ⟨_, rfl⟩
  have HXE := Aside0.mk hx
  have HXN : Aside0 (x.length = 127) := ⟨by rw [hx]; exact wheel_len HP.out⟩
  have HXB : Aside0 (x.length < 4611686018427387904) := ⟨by rw [HXN.out]; decide⟩
  have HWS : Aside0 (∀ w, Calls Try.prog 15 #[.agg (pcs p)] w fun e w' => ∃ (A : Option Addr) (c : Nat), e = .returned (.slice A x.length c) ∧ x.length ≤ c ∧ Kd.C (Kd.int .i64) w' A x.length x ∧ Below w.heap.size w w') := ⟨fun w => by rw [hx]; exact wheel_say HP.out⟩
  have HRS : Aside0 (∀ w, Calls Try.prog 16 #[.agg (pcs p)] w fun e w' => ∃ (A : Option Addr) (c : Nat), e = .returned (.slice A x.length c) ∧ x.length ≤ c ∧ Kd.C (Kd.int .i64) w' A x.length x ∧ Below w.heap.size w w') := ⟨fun w => by rw [hx]; exact ref_say HP.out⟩
  clear hl hi hC hp hx
  go_enter Try.func4, Try.ntmps4
  go_wp2_with (first
    | (go_at_call 13; refine (known_calls _).mono ?_; rintro e_ w1 ⟨rfl, hb_⟩; have HB := Aside0.mk hb_; clear hb_)
    | (go_at_call 14; refine (make_calls A c l 60 ⟨by decide, by decide⟩ HL.out HI.out _ (Kd.C_below HC.out HB.out)).mono ?_; rw [Hp.out]; rintro e_ w2 ⟨rfl, hb_⟩; have n_ := Aside0.mk (below_step HB.out hb_); clear HB hb_; have HB := n_; clear n_)
    | ((with_reducible refine gate_dst (N := 3) rfl ?_); refine pl_var (N := 3) rfl rfl rfl rfl rfl (.tmp 14) rfl (HP.out.len) (fun _ => rfl) (fun _ => rfl) ?_; intro g w3 hge hb2 hB2; have HG := Aside0.mk hb2; have n_ := Aside0.mk (below_step HB.out hB2); clear HB hb2 hB2 hge; have HB := n_; clear n_)
    | ((with_reducible refine gate_dst (N := 15) rfl ?_); refine pl_load (N := 15) rfl rfl (.tmp 3) rfl rfl HG.out (HP.out.len) ?_)
    | (go_at_call 15; refine (HWS.out _).mono ?_; rintro e_ w4 ⟨A1, c1, rfl, hc_, hC_, hb_⟩; have n0_ := Aside0.mk (below_step HB.out hb_); have n1_ := Aside0.mk (HG.out.below hb_); clear HB hb_ HG; have HB := n0_; have HG := n1_; clear n0_ n1_; have HX1 := Aside0.mk hC_; have HX1L := Aside0.mk hc_; clear hC_ hc_))
  go_loopg [5, 7] 65 (fun kq v5 v7 w' => ∃ i : Nat, v5 = .int .i64 (sumW p.sl i : Nat) ∧ v7 = .int .i64 i ∧ Aside0 (kq + i = 65 ∧ i ≤ 64) ∧ Aside0 (Blk w' g 33 (pcs p)) ∧ Aside0 (Kd.C (Kd.int .i64) w' A1 x.length x) ∧ Aside0 (Below W.heap.size W w'))
  case atStart => exact ⟨0, rfl, rfl, ⟨by omega⟩, HG, HX1, HB⟩
  case round =>
    clear HG HX1 HB
    obtain ⟨i, rfl, rfl, HK, HG, HX1, HB⟩ := hrel
    cases gk with
    | zero => have := HK.out; omega
    | succ k1 =>
      by_cases hi : i < 64
      · have h3 : decide ((i : Int) < 64) = true := decide_eq_true (by omega)
        have h4 : ((0 : Int) ≤ (i : Int)) = True := eq_true (by omega)
        have h5 : ((i : Int) < 64) = True := eq_true (by omega)
        obtain ⟨ad_, e_, hx0, hx1, hx2, hx3, hx4⟩ := at_T25 (slots_C HG.out (pcs_slots p (HP.out.len))) (i : Int) (by omega) (by rw [HP.out.len]; omega); cases e_; simp only [add_in, Int.toNat_natCast] at hx0 hx1 hx2 hx3 hx4
        have HI64 := Aside0.mk hi
        have HSW := Aside0.mk (sumW_le HP.out i (by omega))
        clear hi
        by_cases ha : (rd_T25 p.sl (i : Int)).f0 = 2
        · have hb1 : ((rd_T25 p.sl (i : Int)).f0 == 2) = true := by simp [ha]
          have HSN : Aside0 (wrap64 (((sumW p.sl i : Nat) : Int) + (rd_T25 p.sl (i : Int)).f3) = ((sumW p.sl (i + 1) : Nat) : Int)) := ⟨by
            have h1_ := HP.out.good.wt i HI64.out ((actS_iff p.sl i).2 ha)
            have h2_ := HSW.out
            rw [w64 _ (by omega) (by have h_ := HI64.out; omega), sumW, if_pos ((actS_iff p.sl i).2 ha)]
            unfold wtS
            omega⟩
          clear ha
          go_wp2_with fail
          go_roundg k1
          case measure => omega
          case rel => exact ⟨i + 1, by rw [HSN.out], by rw [show wrap64 ((i : Int) + 1) = ((i + 1 : Nat) : Int) from by have h_ := HI64.out; rw [w64 _ (by omega) (by omega)]; omega], ⟨by have h_ := HK.out; have h2_ := HI64.out; omega⟩, HG, HX1, HB⟩
        · have hb1 : ((rd_T25 p.sl (i : Int)).f0 == 2) = false := by simp [ha]
          have HSN : Aside0 (sumW p.sl (i + 1) = sumW p.sl i) := ⟨by rw [sumW, if_neg (fun h => ha ((actS_iff p.sl i).1 h))]; rfl⟩
          clear ha
          go_wp2_with fail
          go_roundg k1
          case measure => omega
          case rel => exact ⟨i + 1, by rw [HSN.out], by rw [show wrap64 ((i : Int) + 1) = ((i + 1 : Nat) : Int) from by have h_ := HI64.out; rw [w64 _ (by omega) (by omega)]; omega], ⟨by have h_ := HK.out; have h2_ := HI64.out; omega⟩, HG, HX1, HB⟩
      · have h3 : decide ((i : Int) < 64) = false := decide_eq_false (by omega)
        obtain rfl : i = 64 := by have h_ := HK.out; omega
        clear hi HK
        obtain ⟨S, hS⟩ : ∃ S, S = sumW p.sl 64 := ⟨_, rfl⟩
        have HS := Aside0.mk hS
        have HSL : Aside0 (S ≤ 512) := ⟨by rw [hS]; exact sumW_le HP.out 64 (Nat.le_refl _)⟩
        rw [← hS]
        clear hS
        go_wp2_with fail
        clear h3
        go_loopg [6, 8] 65 (fun kq v6 v8 w' => ∃ i : Nat, v6 = .int .i64 (sumC x i : Nat) ∧ v8 = .int .i64 i ∧ Aside0 (kq + i = 65 ∧ i ≤ 64) ∧ Aside0 (Blk w' g 33 (pcs p)) ∧ Aside0 (Kd.C (Kd.int .i64) w' A1 x.length x) ∧ Aside0 (Below W.heap.size W w'))
        case atStart => exact ⟨0, rfl, rfl, ⟨by omega⟩, HG, HX1, HB⟩
        case round =>
          clear HG HX1 HB
          obtain ⟨i, rfl, rfl, HK, HG, HX1, HB⟩ := hrel
          cases gk with
          | zero => have := HK.out; omega
          | succ k2 =>
            by_cases hi : i < 64
            · have h3 : decide ((i : Int) < 64) = true := decide_eq_true (by omega)
              have h4 : ((0 : Int) ≤ (i : Int)) = True := eq_true (by omega)
              have h5 : ((i : Int) < 64) = True := eq_true (by omega)
              have HI64 := Aside0.mk hi
              have HCN : Aside0 (wrap64 (((sumC x i : Nat) : Int) + ((x.count (i : Int) : Nat) : Int)) = ((sumC x (i + 1) : Nat) : Int)) := ⟨by
                have h1_ := sumC_le x (i + 1)
                have h3_ : 127 * (i + 1) ≤ 127 * 64 := Nat.mul_le_mul_left _ hi
                rw [HXN.out] at h1_
                rw [sumC] at h1_ ⊢
                rw [w64 _ (by omega) (by omega)]
                omega⟩
              go_upto_region 15 with (first | (go_at_call 21; refine (share_say x (i : Int) HXB.out HX1.out HX1L.out).mono ?_; rintro e_ w9 ⟨rfl, hb_⟩; have n0_ := Aside0.mk (below_step HB.out hb_); have n1_ := Aside0.mk (HG.out.below hb_); have n2_ := Aside0.mk (Kd.C_below HX1.out hb_); clear HB hb_ HG HX1; have HB := n0_; have HG := n1_; have HX1 := n2_; clear n0_ n1_ n2_))
              have hi64_ := HI64.out
              obtain ⟨ad_, e_, hx0, hx1, hx2, hx3, hx4⟩ := at_T25 (slots_C HG.out (pcs_slots p (HP.out.len))) (i : Int) (by omega) (by rw [HP.out.len]; omega); cases e_; simp only [add_in, Int.toNat_natCast] at hx0 hx1 hx2 hx3 hx4
              clear hi64_ hi
              have HIN : Aside0 (wrap64 ((i : Int) + 1) = ((i + 1 : Nat) : Int)) := ⟨by have h_ := HI64.out; rw [w64 _ (by omega) (by omega)]; omega⟩
              by_cases ha : (rd_T25 p.sl (i : Int)).f0 = 2
              · have hb1 : ((rd_T25 p.sl (i : Int)).f0 != 2) = false := by simp [ha]
                obtain ⟨hz, hlo, hhi⟩ := share_bounds HP.out i HI64.out ha
                have hw_ := HP.out.good.wt i HI64.out ((actS_iff p.sl i).2 ha)
                rw [← HS.out] at hz hlo hhi
                rw [← HXE.out] at hlo hhi
                have hcl_ : x.count (i : Int) ≤ 127 := by have h_ := List.count_le_length (a := (i : Int)) (l := x); rw [HXN.out] at h_; exact h_
                obtain ⟨f3, hf3⟩ : ∃ f3, f3 = (rd_T25 p.sl (i : Int)).f3 := ⟨_, rfl⟩
                obtain ⟨cn, hcn⟩ : ∃ cn, cn = x.count (i : Int) := ⟨_, rfl⟩
                obtain ⟨F, hF⟩ : ∃ F, F = 127 / S := ⟨_, rfl⟩
                have hwt : wtS p.sl i = f3.toNat := by unfold wtS; rw [hf3]
                rw [hwt, ← hF, ← hcn] at hlo hhi
                rw [← hf3] at hw_ hx3
                obtain ⟨e1, e2, e3, e9, e4, e5, e6, e7, e8, e10⟩ := share_nums S F cn f3 hz hF hw_ hlo hhi
                clear hz hlo hhi hw_ hcl_ hF hwt ha
                rw [← hcn] at HCN ⊢
                clear hcn hf3
                go_wp2_with fail
                go_roundg k2
                case measure => omega
                case rel => exact ⟨i + 1, by rw [HCN.out], by rw [HIN.out], ⟨by have h_ := HK.out; have h2_ := HI64.out; omega⟩, HG, HX1, HB⟩
              · have hb1 : ((rd_T25 p.sl (i : Int)).f0 != 2) = true := bne_iff_ne.2 ha
                have hcz : x.count (i : Int) = 0 := by rw [HXE.out]; exact wheel_not HP.out i (by omega) (by have h_ := HI64.out; omega) ha
                rw [hcz] at HCN ⊢
                clear ha hcz
                go_wp2_with fail
                go_roundg k2
                case measure => omega
                case rel => exact ⟨i + 1, by rw [← HCN.out]; rfl, by rw [HIN.out], ⟨by have h_ := HK.out; have h2_ := HI64.out; omega⟩, HG, HX1, HB⟩
            · have h3 : decide ((i : Int) < 64) = false := decide_eq_false (by omega)
              obtain rfl : i = 64 := by have h_ := HK.out; omega
              clear hi HK
              have hl1 : ((x.length : Int) == 127) = true := by rw [HXN.out]; rfl
              rcases all_places HP.out with ⟨hz, hall⟩ | ⟨hz, hall⟩
              · rw [← HXE.out] at hall
                rw [← HS.out] at hz
                rw [hall]
                have e1 : decide ((S : Int) > 0) = true := decide_eq_true (by omega)
                have e2 : (0 < S) = True := eq_true hz
                have e3 : ((0 : Int) < (S : Int)) = True := eq_true (by omega)
                clear hz hall
                go_wp2_with fail
                go_ret
                exact ⟨rfl, HB.out⟩
              · rw [← HXE.out] at hall
                rw [← HS.out] at hz
                have HN := Aside0.mk hall
                subst hz
                clear hall
                go_wp2_with (first | (go_at_call 21; refine (share_say x (-1) HXB.out HX1.out HX1L.out).mono ?_; rw [HN.out]; rintro e_ w9 ⟨rfl, hb_⟩; have n0_ := Aside0.mk (below_step HB.out hb_); have n1_ := Aside0.mk (HG.out.below hb_); have n2_ := Aside0.mk (Kd.C_below HX1.out hb_); clear HB hb_ HG HX1; have HB := n0_; have HG := n1_; have HX1 := n2_; clear n0_ n1_ n2_))
                go_ret
                exact ⟨rfl, HB.out⟩
end Go.Proofs.Ytnffajpnffibaaa.Own
