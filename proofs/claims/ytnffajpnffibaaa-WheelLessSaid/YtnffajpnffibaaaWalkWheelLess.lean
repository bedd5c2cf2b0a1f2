/-
  The walk of roundhouselaw7.WheelLess.
-/
import Derived.Test.YtnffajpnffibaaaWheW
namespace Go.Proofs.Ytnffajpnffibaaa.Own
open Go Go.RowKit Go.Proofs.YtnffajpnffibaaaW.PrintWords Go.Proofs.YtnffajpnffibaaaW.PrintMore Go.Proofs.YtnffajpnffibaaaW.PrintLast Go.Proofs.Ytnffajpnffibaaa.Q
set_option linter.unusedVariables false
set_option linter.unusedSimpArgs false

/-- A place of a wheel: nobody's, if there is nobody at all; else an active slot's. -/
theorem wheel_entry {p : PL} (h : PInv p) (q : Int) (h0 : 0 ≤ q) (h1 : q < 127) : (rd (wheelOf p.sl) q = -1 ∧ (wheelOf p.sl).count (-1) = 127) ∨ (∃ i : Nat, i < 64 ∧ rd (wheelOf p.sl) q = (i : Int) ∧ (rd_T25 p.sl (i : Int)).f0 = 2) := by
  have hl := wheel_len h
  obtain ⟨n, rfl⟩ := Int.eq_ofNat_of_zero_le h0
  rw [rd_place _ n (by omega)]
  obtain ⟨v, hv⟩ : ∃ v, v = (wheelOf p.sl)[n]'(by omega) := ⟨_, rfl⟩
  rw [← hv]
  have hm : v ∈ wheelOf p.sl := by rw [hv]; exact List.getElem_mem _
  by_cases ha : acts p.sl = []
  · left
    have e : wheelOf p.sl = List.replicate 127 (-1) := by unfold wheelOf; rw [if_pos ha]
    rw [e] at hm ⊢
    exact ⟨List.eq_of_mem_replicate hm, by simp⟩
  · right
    have hk : 0 < (acts p.sl).length := List.length_pos_iff.2 ha
    have hE := (roundE_get p.sl 0 hk 0 (acts_wt p.sl h.good 0 hk).1).1
    have hinv := winv p.sl (by omega) 127 (Nat.le_refl _)
    have e : wheelOf p.sl = (st p.sl 127).w := by unfold wheelOf; rw [if_neg ha]
    rw [e] at hm
    rcases hinv.mem _ hm with h2 | ⟨i, hi, h2⟩
    · exfalso
      have h3 := hinv.fr
      have h4 : 0 < (st p.sl 127).w.count (-1) := List.count_pos_iff.2 (by rw [← h2]; exact hm)
      omega
    · unfold roundE turnsOf at hi
      rw [List.mem_flatMap] at hi
      obtain ⟨j, hj, hij⟩ := hi
      obtain rfl := List.eq_of_mem_replicate hij
      unfold acts at hj
      rw [List.mem_filter, List.mem_range] at hj
      refine ⟨i, hj.1, h2, ?_⟩
      have := hj.2
      unfold actS at this
      simpa using this
/-- An active slot that drains is no longer active; no other one changes. -/
theorem drain_slot {p : PL} (h : PInv p) (s : Int) (h0 : 0 ≤ s) (h1 : s < 64) (ha : (rd_T25 p.sl s).f0 = 2) : (applyP p 3 s 0 0 0 0 0).2 = 0 ∧ (rd_T25 (applyP p 3 s 0 0 0 0 0).1.sl s).f0 = 3 := by
  have hs : outB s 0 63 = false := outB_false _ _ _ (by omega)
  have hb : badP p 3 s 0 0 = false := by simp [badP, ha]
  have e : applyP p 3 s 0 0 0 0 0 = (nextPool p 3 s 0 0 0 0 0, 0) := by
    unfold applyP
    rw [if_neg (by rw [hs]; decide), if_neg (by rw [hb]; decide), if_neg (fun h => absurd h.1 (by decide))]
  rw [e]
  refine ⟨rfl, ?_⟩
  have e2 : (nextPool p 3 s 0 0 0 0 0).sl = p.sl.set s.toNat { (rd_T25 p.sl s) with f0 := 3 } := by
    unfold nextPool nextSlot
    rw [if_neg (by decide), if_neg (by decide), if_neg (by decide), if_pos rfl]
  show (rd_T25 (nextPool p 3 s 0 0 0 0 0).sl s).f0 = 3
  rw [e2]
  unfold rd_T25
  rw [List.getD_eq_getElem?_getD, List.getElem?_set_self (by rw [h.len]; omega)]
  rfl
/-- A slot that is not active has no place. -/
theorem wheel_none {p : PL} (h : PInv p) (s : Int) (h0 : 0 ≤ s) (h1 : s < 64) (ha : (rd_T25 p.sl s).f0 ≠ 2) : (wheelOf p.sl).count s = 0 := by
  rw [List.count_eq_zero]
  intro hm
  obtain ⟨n, hn, he⟩ := List.getElem_of_mem hm
  have hl := wheel_len h
  have hc := wheel_entry h (n : Int) (by omega) (by omega)
  rw [rd_place _ n hn, he] at hc
  rcases hc with ⟨h2, _⟩ | ⟨i, hi, h2, h3⟩
  · omega
  · rw [h2] at ha
    exact ha h3
set_option maxHeartbeats 8000000 in
set_option maxRecDepth 100000 in
theorem WheelLess_walk (W : World) (A : Option Addr) (c : Nat) (l : List Int) (hl : l.length ≤ 4611686018427387903) (hi : ∀ x ∈ l, -9223372036854775808 ≤ x ∧ x ≤ 9223372036854775807) (hc : l.length ≤ c) (hC : Kd.C (Kd.int .i64) W A l.length l) (s0 : Int) (hs0 : -9223372036854775808 ≤ s0 ∧ s0 ≤ 9223372036854775807) (f : Int) (hf : -9223372036854775808 ≤ f ∧ f ≤ 9223372036854775807) (g0 : Int) (hg0 : -9223372036854775808 ≤ g0 ∧ g0 ≤ 9223372036854775807) : Calls Try.prog 10 #[.slice A l.length c, .int .i64 s0, .int .i64 f, .int .i64 g0] W fun e w' => e = .returned (.bool true) ∧ Below W.heap.size W w' := by
  have hu25 := Try.underlying25
  have hu33 := pool33
  have hu26 := slots26
  have hu49 := Try.underlying49
  have HL : Aside0 (l.length ≤ 4611686018427387904) := ⟨by omega⟩
  have HI := Aside0.mk hi
  have HC := Aside0.mk hC
  obtain ⟨p, hp⟩ : ∃ p, make6 l 60 = p := ⟨_, rfl⟩
  have Hp := Aside0.mk hp
  have HP : Aside0 (PInv p) := ⟨by rw [← hp]; exact PInv.make l 60 hi⟩
  clear hl hi hC hp
  obtain ⟨r1, r2, r3, r4, hfl⟩ := flow_ex f g0
  have HFL := Aside0.mk hfl
  clear hfl
  obtain ⟨s, hs⟩ : ∃ s, s = s0 % 6 := ⟨_, rfl⟩
  have HS : Aside0 (0 ≤ s ∧ s < 64) := ⟨by omega⟩
  have HSE := Aside0.mk hs
  clear hs
  go_enter Try.func10, Try.ntmps10
  go_upto_region 5 with (first
    | (go_at_call 13; refine (known_calls _).mono ?_; rintro e_ w1 ⟨rfl, hb_⟩; have HB := Aside0.mk hb_; clear hb_)
    | (go_at_call 14; refine (make_calls A c l 60 ⟨by decide, by decide⟩ HL.out HI.out _ (Kd.C_below HC.out HB.out)).mono ?_; rw [Hp.out]; rintro e_ w2 ⟨rfl, hb_⟩; have n_ := Aside0.mk (below_step HB.out hb_); clear HB hb_; have HB := n_; clear n_)
    | ((with_reducible refine gate_dst (N := 9) rfl ?_); refine pl_var (N := 9) rfl rfl rfl rfl rfl (.tmp 16) rfl HP.out.len (fun _ => rfl) (fun _ => rfl) ?_; intro g w3 hge hb2 hB2; have HG := Aside0.mk hb2; have HGE : Aside0 (W.heap.size ≤ g) := ⟨by have h1_ := HB.out.size; omega⟩; have n_ := Aside0.mk (below_step HB.out hB2); clear HB hb2 hB2 hge; have HB := n_; clear n_)
    | (go_at_call 22; refine (within_say s0 6 (by decide) (by decide)).mono ?_; rw [← HSE.out]; rintro e_ w4 ⟨rfl, hb_⟩; have n0_ := Aside0.mk (below_step HB.out hb_); have n1_ := Aside0.mk (HG.out.below hb_); clear HB hb_ HG; have HB := n0_; have HG := n1_; clear n0_ n1_))
  have hs0_ := HS.out.1
  have hs1_ := HS.out.2
  obtain ⟨ad_, e_, hx0, hx1, hx2, hx3, hx4⟩ := at_T25 (slots_C HG.out (pcs_slots p HP.out.len)) s hs0_ (by rw [HP.out.len]; omega)
  cases e_
  simp only [add_in] at hx0 hx1 hx2 hx3 hx4
  replace hs0_ := eq_true hs0_
  replace hs1_ := eq_true hs1_
  by_cases ha : (rd_T25 p.sl s).f0 = 2
  · have hb1 : ((rd_T25 p.sl s).f0 == 2) = true := by simp [ha]
    obtain ⟨q, hq⟩ : ∃ q, q = (applyP p 3 s 0 0 0 0 0).1 := ⟨_, rfl⟩
    have hwf : WF 3 s 0 0 0 0 0 := .inr (.inr (.inl ⟨rfl, rfl, rfl, rfl, rfl, rfl⟩))
    have HQ : Aside0 (PInv q) := ⟨by rw [hq]; exact PInv.apply HP.out hwf⟩
    have HNA : Aside0 ((rd_T25 q.sl s).f0 ≠ 2) := ⟨by rw [hq, (drain_slot HP.out s HS.out.1 HS.out.2 ha).2]; decide⟩
    have HAP : Aside0 (∀ w, Calls Try.prog 24 #[.agg (pcs p), .agg #[.int .i64 3, .int .i64 s, .int .i64 0, .int .i64 0, .int .i64 0, .int .u64 0, .int .u64 0]] w fun e w' => ∃ r : Int, e = .returned (.tuple #[.agg (pcs q), .int .i64 r]) ∧ Below w.heap.size w w') := ⟨fun w => by
      refine (apply_calls p HP.out.len 3 s 0 0 0 0 0 hwf w).mono ?_
      rintro e w' ⟨rfl, hb⟩
      exact ⟨_, by rw [hq], hb⟩⟩
    clear ha hwf hq
    go_upto_region 6 with fail
    clear hx0 hx1 hx2 hx3 hx4
    go_upto_region 7 with (first
      | ((with_reducible refine gate_dst (N := 26) rfl ?_); refine pl_load (N := 26) rfl rfl (.tmp 9) rfl rfl HG.out (HP.out.len) ?_)
      | (go_at_call 24; refine (HAP.out _).mono ?_; rintro e_ w6 ⟨r_, rfl, hb_⟩; have n0_ := Aside0.mk (below_step HB.out hb_); have n1_ := Aside0.mk (HG.out.below hb_); clear HB hb_ HG; have HB := n0_; have HG := n1_; clear n0_ n1_)
      | ((with_reducible refine gate_store (t := 33) (p := 9) rfl ?_); refine pl_store rfl rfl (.tmp 9) (.tmp 30) rfl rfl rfl HG.out (pcs_size _ HP.out.len) HQ.out.len ?_; intro w7 hb_ hg_; have n0_ := Aside0.mk (HB.out.grown hg_ (below_size HB.out) (fun k hk => by injection hk with hk; subst hk; exact HGE.out)); have n1_ := Aside0.mk hb_; clear HB HG hb_ hg_; have HB := n0_; have HG := n1_; clear n0_ n1_))
    obtain ⟨x, hx⟩ : ∃ x, x = wheelOf q.sl := ⟨_, rfl⟩
    have HXE := Aside0.mk hx
    have HXN : Aside0 (x.length = 127) := ⟨by rw [hx]; exact wheel_len HQ.out⟩
    have HXB : Aside0 (x.length < 4611686018427387904) := ⟨by rw [HXN.out]; decide⟩
    have HWS : Aside0 (∀ w, Calls Try.prog 15 #[.agg (pcs q)] w fun e w' => ∃ (A : Option Addr) (c : Nat), e = .returned (.slice A x.length c) ∧ x.length ≤ c ∧ Kd.C (Kd.int .i64) w' A x.length x ∧ Below w.heap.size w w') := ⟨fun w => by rw [hx]; exact wheel_say HQ.out⟩
    have HRS : Aside0 (∀ w, Calls Try.prog 16 #[.agg (pcs q)] w fun e w' => ∃ (A : Option Addr) (c : Nat), e = .returned (.slice A x.length c) ∧ x.length ≤ c ∧ Kd.C (Kd.int .i64) w' A x.length x ∧ Below w.heap.size w w') := ⟨fun w => by rw [hx]; exact ref_say HQ.out⟩
    clear hx
    obtain ⟨a, ha⟩ : ∃ a, a = rd x (plcF r1 r2 r3 r4) := ⟨_, rfl⟩
    have HA := Aside0.mk ha
    have hcase := wheel_entry HQ.out (plcF r1 r2 r3 r4) (plcF_range r1 r2 r3 r4).1 (plcF_range r1 r2 r3 r4).2
    rw [← HXE.out, ← ha] at hcase
    have HC0 : Aside0 (x.count s = 0) := ⟨by rw [HXE.out]; exact wheel_none HQ.out s HS.out.1 HS.out.2 HNA.out⟩
    clear ha
    go_upto_region 9 with (first
      | ((with_reducible refine gate_dst (N := 32) rfl ?_); refine pl_load (N := 32) rfl rfl (.tmp 9) rfl rfl HG.out (HQ.out.len) ?_)
      | (go_at_call 15; refine (HWS.out _).mono ?_; rintro e_ wA ⟨A1, c1, rfl, hc_, hC_, hb_⟩; have n0_ := Aside0.mk (below_step HB.out hb_); have n1_ := Aside0.mk (HG.out.below hb_); clear HB hb_ HG; have HB := n0_; have HG := n1_; clear n0_ n1_; have HX1 := Aside0.mk hC_; have HX1L := Aside0.mk hc_; clear hC_ hc_)
      | (go_at_call 19; refine (roundhouselaw5_Flow.calls f g0 r1 r2 r3 r4 _ HFL.out).mono ?_; rintro e_ wB ⟨rfl, hb_⟩; have n0_ := Aside0.mk (below_step HB.out hb_); have n1_ := Aside0.mk (HG.out.below hb_); have n2_ := Aside0.mk (Kd.C_below HX1.out hb_); clear HB hb_ HG HX1; have HB := n0_; have HG := n1_; have HX1 := n2_; clear n0_ n1_ n2_)
      | (go_at_call 18; refine (pick_say x r1 r2 r3 r4 HXN.out HX1.out HX1L.out).mono ?_; rw [← HA.out]; rintro e_ wC ⟨rfl, hb_⟩; have n0_ := Aside0.mk (below_step HB.out hb_); have n1_ := Aside0.mk (HG.out.below hb_); have n2_ := Aside0.mk (Kd.C_below HX1.out hb_); clear HB hb_ HG HX1; have HB := n0_; have HG := n1_; have HX1 := n2_; clear n0_ n1_ n2_))
    rcases hcase with ⟨rfl, hn⟩ | ⟨i, hi, rfl, hss⟩
    · have h1 : ((-1 : Int) != s) = true := bne_iff_ne.2 (by have h_ := HS.out; omega)
      go_wp2_with (first | (go_at_call 21; refine (share_say x s HXB.out HX1.out HX1L.out).mono ?_; rw [HC0.out]; rintro e_ wD ⟨rfl, hb_⟩; have n0_ := Aside0.mk (below_step HB.out hb_); have n1_ := Aside0.mk (HG.out.below hb_); have n2_ := Aside0.mk (Kd.C_below HX1.out hb_); clear HB hb_ HG HX1; have HB := n0_; have HG := n1_; have HX1 := n2_; clear n0_ n1_ n2_))
      go_ret
      exact ⟨rfl, HB.out⟩
    · have h1 : ((i : Int) == -1) = false := beq_eq_false_iff_ne.2 (by omega)
      have h0 : ((i : Int) != s) = true := bne_iff_ne.2 (fun e => HNA.out (by rw [← e]; exact hss))
      have h2 : decide ((i : Int) ≥ 0) = true := decide_eq_true (by omega)
      have h3 : decide ((i : Int) < 64) = true := decide_eq_true (by omega)
      have h4 : ((0 : Int) ≤ (i : Int)) = True := eq_true (by omega)
      have h5 : ((i : Int) < 64) = True := eq_true (by omega)
      have HI64 := Aside0.mk hi
      have HSS := Aside0.mk hss
      clear hi hss
      go_wp2_with (first | (go_at_call 21; refine (share_say x s HXB.out HX1.out HX1L.out).mono ?_; rw [HC0.out]; rintro e_ wD ⟨rfl, hb_⟩; have n0_ := Aside0.mk (below_step HB.out hb_); have n1_ := Aside0.mk (HG.out.below hb_); have n2_ := Aside0.mk (Kd.C_below HX1.out hb_); clear HB hb_ HG HX1; have HB := n0_; have HG := n1_; have HX1 := n2_; clear n0_ n1_ n2_; have hi64_ := HI64.out; obtain ⟨ad_, e_, hx0, hx1, hx2, hx3, hx4⟩ := at_T25 (slots_C HG.out (pcs_slots q (HQ.out.len))) (i : Int) (by omega) (by rw [HQ.out.len]; omega); cases e_; simp only [add_in, Int.toNat_natCast] at hx0 hx1 hx2 hx3 hx4; rw [HSS.out] at hx0; clear hi64_))
      go_ret
      exact ⟨rfl, HB.out⟩
  · have hb1 : ((rd_T25 p.sl s).f0 == 2) = false := by simp [ha]
    have HNA := Aside0.mk ha
    clear ha
    go_upto_region 7 with fail
    clear hx0 hx1 hx2 hx3 hx4
    obtain ⟨x, hx⟩ : ∃ x, x = wheelOf p.sl := ⟨_, rfl⟩
    have HXE := Aside0.mk hx
    have HXN : Aside0 (x.length = 127) := ⟨by rw [hx]; exact wheel_len HP.out⟩
    have HXB : Aside0 (x.length < 4611686018427387904) := ⟨by rw [HXN.out]; decide⟩
    have HWS : Aside0 (∀ w, Calls Try.prog 15 #[.agg (pcs p)] w fun e w' => ∃ (A : Option Addr) (c : Nat), e = .returned (.slice A x.length c) ∧ x.length ≤ c ∧ Kd.C (Kd.int .i64) w' A x.length x ∧ Below w.heap.size w w') := ⟨fun w => by rw [hx]; exact wheel_say HP.out⟩
    have HRS : Aside0 (∀ w, Calls Try.prog 16 #[.agg (pcs p)] w fun e w' => ∃ (A : Option Addr) (c : Nat), e = .returned (.slice A x.length c) ∧ x.length ≤ c ∧ Kd.C (Kd.int .i64) w' A x.length x ∧ Below w.heap.size w w') := ⟨fun w => by rw [hx]; exact ref_say HP.out⟩
    clear hx
    obtain ⟨a, ha⟩ : ∃ a, a = rd x (plcF r1 r2 r3 r4) := ⟨_, rfl⟩
    have HA := Aside0.mk ha
    have hcase := wheel_entry HP.out (plcF r1 r2 r3 r4) (plcF_range r1 r2 r3 r4).1 (plcF_range r1 r2 r3 r4).2
    rw [← HXE.out, ← ha] at hcase
    have HC0 : Aside0 (x.count s = 0) := ⟨by rw [HXE.out]; exact wheel_none HP.out s HS.out.1 HS.out.2 HNA.out⟩
    clear ha
    go_upto_region 9 with (first
      | ((with_reducible refine gate_dst (N := 32) rfl ?_); refine pl_load (N := 32) rfl rfl (.tmp 9) rfl rfl HG.out (HP.out.len) ?_)
      | (go_at_call 15; refine (HWS.out _).mono ?_; rintro e_ wA ⟨A1, c1, rfl, hc_, hC_, hb_⟩; have n0_ := Aside0.mk (below_step HB.out hb_); have n1_ := Aside0.mk (HG.out.below hb_); clear HB hb_ HG; have HB := n0_; have HG := n1_; clear n0_ n1_; have HX1 := Aside0.mk hC_; have HX1L := Aside0.mk hc_; clear hC_ hc_)
      | (go_at_call 19; refine (roundhouselaw5_Flow.calls f g0 r1 r2 r3 r4 _ HFL.out).mono ?_; rintro e_ wB ⟨rfl, hb_⟩; have n0_ := Aside0.mk (below_step HB.out hb_); have n1_ := Aside0.mk (HG.out.below hb_); have n2_ := Aside0.mk (Kd.C_below HX1.out hb_); clear HB hb_ HG HX1; have HB := n0_; have HG := n1_; have HX1 := n2_; clear n0_ n1_ n2_)
      | (go_at_call 18; refine (pick_say x r1 r2 r3 r4 HXN.out HX1.out HX1L.out).mono ?_; rw [← HA.out]; rintro e_ wC ⟨rfl, hb_⟩; have n0_ := Aside0.mk (below_step HB.out hb_); have n1_ := Aside0.mk (HG.out.below hb_); have n2_ := Aside0.mk (Kd.C_below HX1.out hb_); clear HB hb_ HG HX1; have HB := n0_; have HG := n1_; have HX1 := n2_; clear n0_ n1_ n2_))
    rcases hcase with ⟨rfl, hn⟩ | ⟨i, hi, rfl, hss⟩
    · have h1 : ((-1 : Int) != s) = true := bne_iff_ne.2 (by have h_ := HS.out; omega)
      go_wp2_with (first | (go_at_call 21; refine (share_say x s HXB.out HX1.out HX1L.out).mono ?_; rw [HC0.out]; rintro e_ wD ⟨rfl, hb_⟩; have n0_ := Aside0.mk (below_step HB.out hb_); have n1_ := Aside0.mk (HG.out.below hb_); have n2_ := Aside0.mk (Kd.C_below HX1.out hb_); clear HB hb_ HG HX1; have HB := n0_; have HG := n1_; have HX1 := n2_; clear n0_ n1_ n2_))
      go_ret
      exact ⟨rfl, HB.out⟩
    · have h1 : ((i : Int) == -1) = false := beq_eq_false_iff_ne.2 (by omega)
      have h0 : ((i : Int) != s) = true := bne_iff_ne.2 (fun e => HNA.out (by rw [← e]; exact hss))
      have h2 : decide ((i : Int) ≥ 0) = true := decide_eq_true (by omega)
      have h3 : decide ((i : Int) < 64) = true := decide_eq_true (by omega)
      have h4 : ((0 : Int) ≤ (i : Int)) = True := eq_true (by omega)
      have h5 : ((i : Int) < 64) = True := eq_true (by omega)
      have HI64 := Aside0.mk hi
      have HSS := Aside0.mk hss
      clear hi hss
      go_wp2_with (first | (go_at_call 21; refine (share_say x s HXB.out HX1.out HX1L.out).mono ?_; rw [HC0.out]; rintro e_ wD ⟨rfl, hb_⟩; have n0_ := Aside0.mk (below_step HB.out hb_); have n1_ := Aside0.mk (HG.out.below hb_); have n2_ := Aside0.mk (Kd.C_below HX1.out hb_); clear HB hb_ HG HX1; have HB := n0_; have HG := n1_; have HX1 := n2_; clear n0_ n1_ n2_; have hi64_ := HI64.out; obtain ⟨ad_, e_, hx0, hx1, hx2, hx3, hx4⟩ := at_T25 (slots_C HG.out (pcs_slots p (HP.out.len))) (i : Int) (by omega) (by rw [HP.out.len]; omega); cases e_; simp only [add_in, Int.toNat_natCast] at hx0 hx1 hx2 hx3 hx4; rw [HSS.out] at hx0; clear hi64_))
      go_ret
      exact ⟨rfl, HB.out⟩
end Go.Proofs.Ytnffajpnffibaaa.Own
