/-
  known() is true.
-/
import Derived.Test.YtkpfojpmigchlaaTopI
import Derived.Test.YtkpfojpmigchlaaSipG
import Derived.Test.YtkpfojpmigchlaaQA
namespace Go.Proofs.Ytkpfojpmigchlaa.Own
open Go Go.RowKit Go.Proofs.YtkpfojpmigchlaaW.PrintWords Go.Proofs.YtkpfojpmigchlaaW.PrintMore Go.Proofs.YtkpfojpmigchlaaW.PrintLast Go.Proofs.Ytkpfojpmigchlaa.Q
set_option linter.unusedVariables false
set_option linter.unusedSimpArgs false

theorem placed_k : pool_placed.f 10 80 = some true := by kernel_rfl
theorem sum_nil : sum_Of.f 10 [] = some 65535 := by kernel_rfl
theorem sipw_nil : sip_Words.f 10 0 0 [] = some (sipWords 0 0 []) := by rfl
theorem sipo_nil : sip_Of.f 10 0 0 [] = some (sipWords 0 0 []) := by kernel_rfl
theorem newP_na (a b k1 k2 k3 k4 : Int) (i : Nat) (h : i < 64) : (rd_T25 (newP a b k1 k2 k3 k4).sl (i : Int)).f0 ≠ 2 := by
  have e : rd_T25 (newP a b k1 k2 k3 k4).sl (i : Int) = z25 := by
    show (List.replicate 64 z25).getD (i : Int).toNat z25 = z25
    rw [List.getD_eq_getElem?_getD, List.getElem?_replicate]
    split <;> rfl
  rw [e]
  decide
theorem c_r8 {W : World} {A : Option Addr} {n c base : Nat} {ok : Nat → Prop} {xs : List Int} (h : Kd.R (Kd.int .u8) 5 W base ok (.slice A n c) xs) : n = xs.length ∧ xs.length ≤ c ∧ Kd.C (Kd.int .u8) W A xs.length xs := by
  have h1 := Kd.R_reads' h
  exact ⟨h1.1, by have := h1.1; have := h1.2.1; omega, h1.2.2⟩
theorem c_r64 {W : World} {A : Option Addr} {n c base : Nat} {ok : Nat → Prop} {xs : List Int} (h : Kd.R (Kd.int .i64) 3 W base ok (.slice A n c) xs) : n = xs.length ∧ xs.length ≤ c ∧ Kd.C (Kd.int .i64) W A xs.length xs := by
  have h1 := Kd.R_reads' h
  exact ⟨h1.1, by have := h1.1; have := h1.2.1; omega, h1.2.2⟩
theorem bytes0_len : bytes0.length = 24 := by kernel_rfl
/-- plane.New, with the pointer's block named. -/
theorem newpl_at (w : World) : Calls Try.prog 14 #[] w fun e w' => ∃ gu : Nat, e = .returned (.pointer (some ⟨gu, 0, none⟩)) ∧ gu = w.heap.size ∧ Blk w' gu 88 (PLN zeroP false nrZ (.slice none 0 0)) ∧ Below w.heap.size w w' :=
  (newpl_calls w).mono (fun _ _ h => ⟨_, h.1, rfl, h.2.1, h.2.2⟩)
theorem load_known (g : Nat) (q : PL) (hq : q.sl.length = 64) (hna : ∀ i : Nat, i < 64 → (rd_T25 q.sl (i : Int)).f0 ≠ 2) (w : World) (hb : Blk w g 88 (PLN zeroP false nrZ (.slice none 0 0))) :
    Calls Try.prog 15 #[.pointer (some ⟨g, 0, none⟩), .agg (pcs q)] w fun e w' => ∃ (Aw : Option Addr) (cw : Nat), e = .returned (.tuple #[]) ∧ Kd.C (Kd.int .i64) w' Aw 127 (nob 127) ∧ 127 ≤ cw ∧ Blk w' g 88 (PLN q true nrZ (.slice Aw 127 cw)) ∧ w.grownBy w' (some g) := by
  refine (load_calls g zeroP q false nrZ _ (nob 127) zeroP_len hq nrZ_len (fun w => wheel0_calls q hq hna w) w hb).mono ?_
  rintro e w' ⟨rfl, v, hR, hB, hg⟩
  obtain ⟨Aw, cw, rfl⟩ := Kd.R_slice hR
  have h := c_r64 hR
  rw [nob_len' ] at h hB
  exact ⟨Aw, cw, rfl, h.2.2, h.2.1, hB, hg⟩
theorem build_known' (w0 : World) : Calls Try.prog 16 #[.agg #[.int .i64 2, .int .i64 9, .int .i64 0, .int .i64 1, .int .i64 10, .int .i64 0, .int .i64 80, .int .i64 0, .int .i64 0, .bool false, .int .i64 0, .slice none 0 0, .slice none 0 0]] w0 fun e w' => ∃ (ad : Addr) (c : Nat), e = .returned (.tuple #[.slice (some ad) 24 c, .int .i64 0]) ∧ Kd.C (Kd.int .u8) w' (some ad) 24 bytes0 ∧ 24 ≤ c ∧ Below w0.heap.size w0 w' := by
  refine (build_known w0).mono ?_
  rintro e w' ⟨v, rfl, hR, hB⟩
  obtain ⟨gb, cb, rfl, _, _, _⟩ := Kd.R_form hR (by decide)
  have h := c_r8 hR
  rw [bytes0_len] at h
  exact ⟨_, cb, rfl, h.2.2, h.2.1, hB⟩
theorem sumn_c (w : World) : Calls Try.prog 18 #[.slice none 0 0] w fun e w' => e = .returned (.int .i64 65535) ∧ Below w.heap.size w w' := by
  refine (sum_Of.calls 10 none 0 [] 65535 w (Kd.C_nil _ _) (by decide) sum_nil).mono ?_
  rintro e w' ⟨rfl, hd⟩
  exact ⟨rfl, drawn_below hd⟩
theorem sipw_c (w : World) : Calls Try.prog 12 #[.agg #[.int .u64 0, .int .u64 0], .slice none 0 0] w fun e w' => e = .returned (.int .u64 (sipWords 0 0 [])) ∧ Below w.heap.size w w' :=
  sip_Words.calls 10 0 0 none 0 [] _ _ (Kd.C_nil _ _) (by decide) sipw_nil
theorem sipo_c (w : World) : Calls Try.prog 19 #[.agg #[.int .u64 0, .int .u64 0], .slice none 0 0] w fun e w' => e = .returned (.int .u64 (sipWords 0 0 [])) ∧ Below w.heap.size w w' :=
  sip_Of.calls 10 0 0 none 0 [] _ _ (Kd.C_nil _ _) (by decide) sipo_nil
set_option maxHeartbeats 16000000 in
set_option maxRecDepth 100000 in
theorem known_calls (W : World) : Calls Try.prog 5 #[] W fun e w' => e = .returned (.bool true) ∧ Below W.heap.size W w' := by
  have hu60 := Try.underlying60
  have hu58 := Try.underlying58
  have hu29 := Try.underlying29
  obtain ⟨p, hp⟩ : ∃ p, p = newP 10 80 1 0 2 0 := ⟨_, rfl⟩
  have HPP := Aside0.mk hp
  have HPL : Aside0 (p.sl.length = 64) := ⟨by rw [hp]; exact newP_len _ _ _ _ _ _⟩
  have HA : Aside0 (p.addr = 10) := ⟨by rw [hp]; rfl⟩
  have HPT : Aside0 (p.port = 80) := ⟨by rw [hp]; rfl⟩
  have HNA : Aside0 (∀ i : Nat, i < 64 → (rd_T25 p.sl (i : Int)).f0 ≠ 2) := ⟨fun i hi => by rw [hp]; exact newP_na _ _ _ _ _ _ i hi⟩
  clear hp
  go_enter Try.func5, Try.ntmps5
  go_wp2_with (first
    | (go_at_call 13; refine (pnew_calls 10 80 1 0 2 0 placed_k _).mono ?_; rw [← HPP.out]; rintro e_ w1 ⟨rfl, hb_⟩; have HB := Aside0.mk hb_; clear hb_)
    | ((with_reducible refine gate_dst (N := 1) rfl ?_); refine pl_alloc (N := 1) rfl rfl rfl ?_; intro tp h_ w2 hbx_ hb_; have HT := Aside0.mk hbx_; have HTE : Aside0 (W.heap.size ≤ tp) := ⟨by have h1_ := HB.out.size; omega⟩; have n0_ := Aside0.mk (below_step HB.out hb_); clear HB; have HB := n0_; clear n0_; clear h_ hbx_ hb_)
    | ((with_reducible refine gate_store (t := 33) (p := 1) rfl ?_); refine pl_store (p := p) rfl rfl (.tmp 1) (.tmp 11) rfl rfl rfl HT.out (pcs_size _ zeroP_len) HPL.out ?_; intro w3 hb_ hg_; have n0_ := Aside0.mk (HB.out.grown hg_ (below_size HB.out) (fun q hq => by injection hq with hq; have h1_ := HTE.out; omega)); have m_ := Aside0.mk hb_; clear hb_ hg_; clear HB HT; have HB := n0_; have HT := m_; clear n0_ m_)
    | (go_at_call 14; (with_reducible refine (newpl_at _).mono ?_); rintro e_ w4 ⟨gu, rfl, hgu_, hu_, hb_⟩; have HU := Aside0.mk hu_; have HUE : Aside0 (W.heap.size ≤ gu ∧ tp < gu) := ⟨by rw [hgu_]; exact ⟨HB.out.size, HT.out.lt⟩⟩; have n0_ := Aside0.mk (below_step HB.out hb_); have n1_ := Aside0.mk (HT.out.below hb_); clear HB HT; have HB := n0_; have HT := n1_; clear n0_ n1_; clear hgu_ hu_ hb_)
    | ((with_reducible refine gate_dst (N := 21) rfl ?_); refine pl_load (N := 21) rfl rfl (.tmp 1) rfl rfl HT.out HPL.out ?_)
    | (go_at_call 15; (with_reducible refine (load_known gu p HPL.out HNA.out _ HU.out).mono ?_); rintro e_ w5 ⟨Aw, cw, rfl, hc_, hcw_, hu_, hg_⟩; have HW := Aside0.mk hc_; have HCW := Aside0.mk hcw_; have n0_ := Aside0.mk (HB.out.grown hg_ (below_size HB.out) (fun q hq => by injection hq with hq; have h1_ := HUE.out; omega)); have m_ := Aside0.mk hu_; clear hc_ hcw_ hu_ hg_ HT; clear HB HU; have HB := n0_; have HU := m_; clear n0_ m_)
    | (go_at_call 16; (with_reducible refine (build_known' _).mono ?_); rintro e_ w6 ⟨ad, cc, rfl, hC_, hcc_, hb_⟩; have HC := Aside0.mk hC_; have HCC := Aside0.mk hcc_; have n0_ := Aside0.mk (below_step HB.out hb_); have n1_ := Aside0.mk (Kd.C_below HW.out hb_); have n2_ := Aside0.mk (HU.out.below hb_); clear HB HW HU; have HB := n0_; have HW := n1_; have HU := n2_; clear n0_ n1_ n2_; clear hC_ hcc_ hb_)
    | (go_at_call 17; (with_reducible refine (take_known p HPL.out HA.out HPT.out nrZ nrZ_len Aw cw HCW.out gu ad cc _ HU.out HW.out HC.out HCC.out).mono ?_); rintro e_ w7 ⟨Ad, nd, cd, rfl, hb_⟩; have n0_ := Aside0.mk (below_step HB.out hb_); clear HB; have HB := n0_; clear n0_; clear hb_ HU HW HC)
    | ((with_reducible refine gate_dst (N := 6) rfl ?_); refine box_event rfl (N := 6) rfl (cs := #[.int .i64 0, .int .i64 0, .bool false, .slice none 0 0]) (t := 60) (run_out _ _ _ rfl) ?_; intro tq h_ w8 hbx_ hb_; have HO := Aside0.mk (show Blk w8 tq 60 #[.int .i64 0, .int .i64 0, .bool false, .slice none 0 0] from hbx_); have HOE : Aside0 (W.heap.size ≤ tq) := ⟨by have h2_ := HB.out.size; omega⟩; have n0_ := Aside0.mk (below_step HB.out hb_); clear HB; have HB := n0_; clear n0_; clear h_ hbx_ hb_)
    | ((with_reducible refine gate_store (t := 60) (p := 6) rfl ?_); refine stm_event rfl rfl 60 (.tmp 6) (.tmp 30) rfl rfl rfl HO.out (Nat.le_refl _) (by kernel_rfl) (by simp [Value.oneCell']) ?_; intro w9 hb_ hg_; have HR : Aside0 (Blk w9 tq 60 #[.int .i64 9, .int .i64 (-1), .bool false, .slice Ad nd cd]) := ⟨hb_⟩; have n0_ := Aside0.mk (HB.out.grown hg_ (below_size HB.out) (fun q hq => by injection hq with hq; have h2_ := HOE.out; omega)); clear hb_ hg_ HB HO; have HB := n0_; clear n0_; have c0 : w9.cell? ⟨tq, 0, none⟩ = some (.int .i64 9) := (blk_cell HR.out 0).trans rfl)
    | (go_at_call 18; (with_reducible refine (sumn_c _).mono ?_); rintro e_ wA ⟨rfl, hb_⟩; (try clear c0); have n0_ := Aside0.mk (below_step HB.out hb_); clear HB; have HB := n0_; clear n0_; clear hb_)
    | (go_at_call 12; (with_reducible refine (sipw_c _).mono ?_); rintro e_ wB ⟨rfl, hb_⟩; (try clear c0); have n0_ := Aside0.mk (below_step HB.out hb_); clear HB; have HB := n0_; clear n0_; clear hb_)
    | (go_at_call 19; (with_reducible refine (sipo_c _).mono ?_); rintro e_ wC ⟨rfl, hb_⟩; (try clear c0); have n0_ := Aside0.mk (below_step HB.out hb_); clear HB; have HB := n0_; clear n0_; clear hb_))
  go_ret
  exact ⟨rfl, HB.out⟩
end Go.Proofs.Ytkpfojpmigchlaa.Own
