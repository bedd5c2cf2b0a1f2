/-
  TopTags, walked.
-/
import Derived.Test.YtkpfojpmigchlaaTopM
namespace Go.Proofs.Ytkpfojpmigchlaa.Own
open Go Go.RowKit Go.Proofs.YtkpfojpmigchlaaW.PrintWords Go.Proofs.YtkpfojpmigchlaaW.PrintMore Go.Proofs.YtkpfojpmigchlaaW.PrintLast Go.Proofs.Ytkpfojpmigchlaa.Q
set_option linter.unusedVariables false
set_option linter.unusedSimpArgs false

theorem nat_high64 (x : Nat) (h : x < 4294967296) : x &&& 18446744073709551360 = x - x % 256 := by
  have e1 : (18446744073709551360 : Nat) = (2 ^ 56 - 1) <<< 8 := by decide
  have e2 : x - x % 256 = (x >>> 8) <<< 8 := by rw [Nat.shiftLeft_eq, Nat.shiftRight_eq_div_pow]; omega
  rw [e1, e2]
  apply Nat.eq_of_testBit_eq
  intro i
  simp only [Nat.testBit_and, Nat.testBit_shiftLeft, Nat.testBit_two_pow_sub_one, Nat.testBit_shiftRight]
  by_cases hi : 8 ≤ i
  · have e3 : 8 + (i - 8) = i := by omega
    by_cases h24 : i - 8 < 56
    · simp [hi, h24, e3]
    · have : x.testBit i = false := Nat.testBit_lt_two_pow (Nat.lt_of_lt_of_le (show x < 2 ^ 32 from h) (Nat.pow_le_pow_right (by decide) (by omega)))
      simp [hi, h24, e3, this]
  · simp [hi]
theorem i64_high (n : Int) (h0 : 0 ≤ n) (h1 : n < 4294967296) : Go.bits .andNot .i64 n 255 = n - n % 256 := by
  obtain ⟨x, rfl⟩ := Int.eq_ofNat_of_zero_le h0
  show IntKind.i64.wrap ((BitVec.ofInt 64 (x : Int) &&& ~~~BitVec.ofInt 64 255).toNat : Int) = _
  rw [BitVec.toNat_and, BitVec.toNat_not, ofInt_nat64 x (by omega), show (BitVec.ofInt 64 255).toNat = 255 from by decide, show 2 ^ 64 - 1 - 255 = 18446744073709551360 from by decide, nat_high64 x (by omega), IntKind.wrap_i64]
  omega
theorem join_c (c i : Int) (hc : 0 ≤ c ∧ c < 65536) (hi : 0 ≤ i ∧ i < 256) : Go.bits .or .i64 (Go.bits .andNot .i64 c 255) i = c - c % 256 + i := by
  rw [i64_high c hc.1 (by omega), show c - c % 256 = c / 256 * 256 from by omega, or256 _ _ (by omega) (by omega) hi.1 hi.2]
theorem tags_read (q pa pb ca cb na nb f0 f1 f2 f3 s i : Int) (hq : 0 ≤ q ∧ q < 4611686018427387904) (hs : 0 ≤ s ∧ s < 64) (hi : 0 ≤ i ∧ i < 256) : readN q pa pb ca cb na nb 2 f0 f1 f2 f3 (cookN ca cb 2 f0 f1 f2 f3 s (q % 4) - cookN ca cb 2 f0 f1 f2 f3 s (q % 4) % 256 + i) = if i = cookN ca cb 2 f0 f1 f2 f3 s (q % 4) % 256 then (s, true) else (0, false) := by
  obtain ⟨h1, h2, h3, h4, h5⟩ := cook_parts ca cb 2 f0 f1 f2 f3 s (q % 4) (by omega) hs
  rw [show p2 2 = 256 from rfl] at h2 h3 h4 h5
  unfold readN
  rw [show p2 2 = 256 from rfl]
  generalize cookN ca cb 2 f0 f1 f2 f3 s (q % 4) = c at *
  rw [if_neg (by omega), show (c - c % 256 + i) / (64 * 256) = q % 4 from by omega, show (c - c % 256 + i) / 256 % 64 = c / 256 % 64 from by omega, show (c - c % 256 + i) % 256 = i from by omega, h4, key_cur q _ _ _ _ _ _ hq, if_pos rfl]
  show (if sumN ca cb 2 f0 f1 f2 f3 (xr (xr s _) _) _ % 256 = i then (xr (xr s _) _, true) else _) = _
  rw [xr_back s _ hs.1, ← h5]
  by_cases h : i = c % 256
  · rw [if_pos h.symm, if_pos h]
  · rw [if_neg (fun e => h e.symm), if_neg h]
/-- Reading it with another tag. -/
theorem tag_c (q pa pb ca cb na nb f0 f1 f2 f3 s c i : Int) (r : Int) (b : Bool) (hq : 0 ≤ q ∧ q ≤ 61) (hs : 0 ≤ s ∧ s < 64) (hi : 0 ≤ i ∧ i < 256) (hc : c = cookN ca cb 2 f0 f1 f2 f3 s (q % 4)) (hrb : (if i = c % 256 then (s, true) else ((0 : Int), false)) = (r, b)) (w : World) :
    Calls Try.prog 10 #[.agg #[.int .i64 q, .int .u64 pa, .int .u64 pb, .int .u64 ca, .int .u64 cb, .int .u64 na, .int .u64 nb], .int .i64 2, .agg #[.int .i64 f0, .int .i64 f1, .int .i64 f2, .int .i64 f3], .int .i64 (Go.bits .or .i64 (Go.bits .andNot .i64 c 255) i)] w
    fun e w' => e = .returned (.tuple #[.int .i64 r, .bool b]) ∧ Below w.heap.size w w' := by
  subst hc
  have hp := cook_parts ca cb 2 f0 f1 f2 f3 s (q % 4) (by omega) hs
  have h1 := hp.1
  have h2 : cookN ca cb 2 f0 f1 f2 f3 s (q % 4) < 65536 := hp.2.1
  rw [join_c _ i ⟨h1, h2⟩ hi]
  refine (read_c q pa pb ca cb na nb 2 f0 f1 f2 f3 _ hq (by decide) w).mono ?_
  rintro e w' ⟨s1, b1, rfl, hr, hb⟩
  rw [tags_read q pa pb ca cb na nb f0 f1 f2 f3 s i (by omega) hs hi, hrb] at hr
  obtain ⟨rfl, rfl⟩ := Prod.mk.inj hr
  exact ⟨rfl, hb⟩
/-- How many tags below one are read. -/
def hits (m : Int) (i : Nat) : Int := if m < i then 1 else 0
set_option maxHeartbeats 16000000 in
set_option maxRecDepth 100000 in
theorem toptags_calls (Aw : Option Addr) (c0 : Nat) (l : List Int) (hl : l.length ≤ 4611686018427387904) (hi : ∀ x ∈ l, -9223372036854775808 ≤ x ∧ x ≤ 9223372036854775807) (a1 a2 a3 : Int) (W : World) (hC : Kd.C (Kd.int .i64) W Aw l.length l) : Calls Try.prog 4 #[.slice Aw l.length c0, .int .i64 a1, .int .i64 a2, .int .i64 a3] W fun e w' => e = .returned (.bool true) ∧ Below W.heap.size W w' := by
  have hu29 := Try.underlying29
  have hu31 := Try.underlying31
  have hu36 := Try.underlying36
  have HL := Aside0.mk hl
  have HI := Aside0.mk hi
  have HC := Aside0.mk hC
  clear hl hi hC
  obtain ⟨p, hp⟩ : ∃ p, p = make6 l 60 := ⟨_, rfl⟩
  have HPP := Aside0.mk hp
  have HPL : Aside0 (p.sl.length = 64) := ⟨by rw [hp]; exact make6_len _ _⟩
  have HQ : Aside0 (0 ≤ p.ep ∧ p.ep ≤ 61) := ⟨by rw [hp]; exact make6_ep _⟩
  clear hp
  obtain ⟨f0, f1, f2, f3, hf⟩ := flow_ex a1 a2
  have HFL := Aside0.mk hf
  clear hf
  obtain ⟨sl, hsl, hsl0, hsl1⟩ := twithin_ok a3 64 (by decide) (by decide)
  have HSL := Aside0.mk hsl
  have HSLR := Aside0.mk (And.intro hsl0 hsl1)
  clear hsl hsl0 hsl1
  obtain ⟨c, hc⟩ : ∃ c, c = cookN p.k3 p.k4 2 f0 f1 f2 f3 sl (p.ep % 4) := ⟨_, rfl⟩
  have HCC := Aside0.mk hc
  have HCR : Aside0 (0 ≤ c ∧ c < 65536) := ⟨by have h_ := cook_parts p.k3 p.k4 2 f0 f1 f2 f3 sl (p.ep % 4) (by omega) HSLR.out; rw [hc]; exact ⟨h_.1, h_.2.1⟩⟩
  clear hc
  go_enter Try.func4, Try.ntmps4
  go_wp2_with (first
    | (go_at_call 5; (with_reducible refine (known_calls _).mono ?_); rintro e_ w1 ⟨rfl, hb_⟩; have HB := Aside0.mk hb_; clear hb_)
    | (go_at_call 6; (with_reducible refine (make_calls Aw c0 l 60 (by decide) HL.out HI.out _ (Kd.C_below HC.out HB.out)).mono ?_); rw [← HPP.out]; rintro e_ w2 ⟨rfl, hb_⟩; have n0_ := Aside0.mk (below_step HB.out hb_); clear HB; have HB := n0_; clear n0_; clear hb_)
    | ((with_reducible refine gate_dst (N := 9) rfl ?_); refine pl_alloc (N := 9) rfl rfl rfl ?_; intro tp h_ w3 hbx_ hb_; have HP := Aside0.mk hbx_; have HPE : Aside0 (W.heap.size ≤ tp) := ⟨by have h1_ := HB.out.size; omega⟩; have n0_ := Aside0.mk (below_step HB.out hb_); clear HB; have HB := n0_; clear n0_; clear h_ hbx_ hb_)
    | ((with_reducible refine gate_store (t := 33) (p := 9) rfl ?_); refine pl_store (p := p) rfl rfl (.tmp 9) (.tmp 20) rfl rfl rfl HP.out (pcs_size _ zeroP_len) HPL.out ?_; intro w4 hb_ hg_; have n0_ := Aside0.mk (HB.out.grown hg_ (below_size HB.out) (fun q hq => by injection hq with hq; have h1_ := HPE.out; omega)); have m_ := Aside0.mk hb_; clear hb_ hg_; clear HB HP; have HB := n0_; have HP := m_; clear n0_ m_)
    | (go_at_call 7; (with_reducible refine (flow_c f0 f1 f2 f3 _ _ HFL.out _).mono ?_); rintro e_ w5 ⟨rfl, hb_⟩; have n0_ := Aside0.mk (below_step HB.out hb_); have n1_ := Aside0.mk (HP.out.below hb_); clear HB HP; have HB := n0_; have HP := n1_; clear n0_ n1_; clear hb_)
    | ((with_reducible refine gate_dst (N := 10) rfl ?_); refine box_event rfl (N := 10) rfl (cs := #[.int .i64 0, .int .i64 0, .int .i64 0, .int .i64 0]) (t := 36) (run_flow _ _ _ rfl) ?_; intro tf h_ w6 hbx_ hb_; have HF : Aside0 (Blk w6 tf 36 #[.int .i64 0, .int .i64 0, .int .i64 0, .int .i64 0]) := ⟨hbx_⟩; have HFE : Aside0 (tp < tf ∧ W.heap.size ≤ tf) := ⟨by have h1_ := HP.out.lt; have h2_ := HPE.out; omega⟩; have n0_ := Aside0.mk (below_step HB.out hb_); have n1_ := Aside0.mk (HP.out.below hb_); clear HB HP; have HB := n0_; have HP := n1_; clear n0_ n1_; clear h_ hbx_ hb_)
    | ((with_reducible refine gate_store (t := 36) (p := 10) rfl ?_); refine stm_event rfl rfl 36 (.tmp 10) (.tmp 23) rfl rfl rfl HF.out (Nat.le_refl _) (by kernel_rfl) (by simp [Value.oneCell']) ?_; intro w7 hb_ hg_; have m_ : Aside0 (Blk w7 tf 36 #[.int .i64 f0, .int .i64 f1, .int .i64 f2, .int .i64 f3]) := ⟨hb_⟩; have n0_ := Aside0.mk (HB.out.grown hg_ (below_size HB.out) (fun q hq => by injection hq with hq; have h1_ := HFE.out; omega)); have n1_ := Aside0.mk (HP.out.grown hg_ (by intro e; injection e with e; have h1_ := HFE.out; omega)); clear hb_ hg_; clear HF HB HP; have HF := m_; have HB := n0_; have HP := n1_; clear m_ n0_ n1_)
    | (go_at_call 9; (with_reducible refine (twithin_c a3 64 sl HSL.out _).mono ?_); rintro e_ w8 ⟨rfl, hb_⟩; have n0_ := Aside0.mk (below_step HB.out hb_); have n1_ := Aside0.mk (HP.out.below hb_); have n2_ := Aside0.mk (HF.out.below hb_); clear HB HP HF; have HB := n0_; have HP := n1_; have HF := n2_; clear n0_ n1_ n2_; clear hb_; have r0 : w8.cell? ⟨tp, 323, none⟩ = some (.int .i64 p.ep) := (blk_cell HP.out 323).trans ((pcs_ring p HPL.out 0).trans rfl); have r1 : w8.cell? ⟨tp, 324, none⟩ = some (.int .u64 p.k1) := (blk_cell HP.out 324).trans ((pcs_ring p HPL.out 1).trans rfl); have r2 : w8.cell? ⟨tp, 325, none⟩ = some (.int .u64 p.k2) := (blk_cell HP.out 325).trans ((pcs_ring p HPL.out 2).trans rfl); have r3 : w8.cell? ⟨tp, 326, none⟩ = some (.int .u64 p.k3) := (blk_cell HP.out 326).trans ((pcs_ring p HPL.out 3).trans rfl); have r4 : w8.cell? ⟨tp, 327, none⟩ = some (.int .u64 p.k4) := (blk_cell HP.out 327).trans ((pcs_ring p HPL.out 4).trans rfl); have r5 : w8.cell? ⟨tp, 328, none⟩ = some (.int .u64 p.k5) := (blk_cell HP.out 328).trans ((pcs_ring p HPL.out 5).trans rfl); have r6 : w8.cell? ⟨tp, 329, none⟩ = some (.int .u64 p.k6) := (blk_cell HP.out 329).trans ((pcs_ring p HPL.out 6).trans rfl); have g0 : w8.cell? ⟨tf, 0, none⟩ = some (.int .i64 f0) := (blk_cell HF.out 0).trans rfl; have g1 : w8.cell? ⟨tf, 1, none⟩ = some (.int .i64 f1) := (blk_cell HF.out 1).trans rfl; have g2 : w8.cell? ⟨tf, 2, none⟩ = some (.int .i64 f2) := (blk_cell HF.out 2).trans rfl; have g3 : w8.cell? ⟨tf, 3, none⟩ = some (.int .i64 f3) := (blk_cell HF.out 3).trans rfl)
    | (go_at_call 8; (with_reducible refine (make_c p.ep p.k1 p.k2 p.k3 p.k4 p.k5 p.k6 2 f0 f1 f2 f3 sl (by decide) HSLR.out _).mono ?_); rw [← HCC.out]; rintro e_ w9 ⟨rfl, hb_⟩; clear r0 r1 r2 r3 r4 r5 r6 g0 g1 g2 g3; have n0_ := Aside0.mk (below_step HB.out hb_); have n1_ := Aside0.mk (HP.out.below hb_); have n2_ := Aside0.mk (HF.out.below hb_); clear HB HP HF; have HB := n0_; have HP := n1_; have HF := n2_; clear n0_ n1_ n2_; clear hb_))
  go_loopg [13, 14] 257 (fun kq v13 v14 w' => ∃ i : Nat, v13 = .int .i64 (hits (c % 256) i) ∧ v14 = .int .i64 i ∧ Aside0 (kq + i = 257 ∧ i ≤ 256) ∧ Aside0 (Below W.heap.size W w') ∧ Aside0 (Blk w' tp 33 (pcs p)) ∧ Aside0 (Blk w' tf 36 #[.int .i64 f0, .int .i64 f1, .int .i64 f2, .int .i64 f3]))
  case atStart => exact ⟨0, by rw [show hits (c % 256) 0 = 0 from if_neg (by have h_ := HCR.out; omega)], rfl, ⟨by omega⟩, HB, HP, HF⟩
  case round =>
    clear HB HP HF
    obtain ⟨i, rfl, rfl, HK, HB, HP, HF⟩ := hrel
    cases gk with
    | zero => have := HK.out; omega
    | succ k1 =>
      by_cases hi : i < 256
      · have hi0 : decide ((i : Int) < 256) = true := decide_eq_true (by omega)
        have HIR : Aside0 (0 ≤ (i : Int) ∧ (i : Int) < 256) := ⟨by omega⟩
        have hwi : wrap64 ((i : Int) + 1) = ((i + 1 : Nat) : Int) := by rw [w64 _ (by omega) (by omega)]; omega
        have r0 : wr.cell? ⟨tp, 323, none⟩ = some (.int .i64 p.ep) := (blk_cell HP.out 323).trans ((pcs_ring p HPL.out 0).trans rfl)
        have r1 : wr.cell? ⟨tp, 324, none⟩ = some (.int .u64 p.k1) := (blk_cell HP.out 324).trans ((pcs_ring p HPL.out 1).trans rfl)
        have r2 : wr.cell? ⟨tp, 325, none⟩ = some (.int .u64 p.k2) := (blk_cell HP.out 325).trans ((pcs_ring p HPL.out 2).trans rfl)
        have r3 : wr.cell? ⟨tp, 326, none⟩ = some (.int .u64 p.k3) := (blk_cell HP.out 326).trans ((pcs_ring p HPL.out 3).trans rfl)
        have r4 : wr.cell? ⟨tp, 327, none⟩ = some (.int .u64 p.k4) := (blk_cell HP.out 327).trans ((pcs_ring p HPL.out 4).trans rfl)
        have r5 : wr.cell? ⟨tp, 328, none⟩ = some (.int .u64 p.k5) := (blk_cell HP.out 328).trans ((pcs_ring p HPL.out 5).trans rfl)
        have r6 : wr.cell? ⟨tp, 329, none⟩ = some (.int .u64 p.k6) := (blk_cell HP.out 329).trans ((pcs_ring p HPL.out 6).trans rfl)
        have g0 : wr.cell? ⟨tf, 0, none⟩ = some (.int .i64 f0) := (blk_cell HF.out 0).trans rfl
        have g1 : wr.cell? ⟨tf, 1, none⟩ = some (.int .i64 f1) := (blk_cell HF.out 1).trans rfl
        have g2 : wr.cell? ⟨tf, 2, none⟩ = some (.int .i64 f2) := (blk_cell HF.out 2).trans rfl
        have g3 : wr.cell? ⟨tf, 3, none⟩ = some (.int .i64 f3) := (blk_cell HF.out 3).trans rfl
        clear hi
        by_cases hm : (i : Int) = c % 256
        · have HRB : Aside0 ((if (i : Int) = c % 256 then (sl, true) else ((0 : Int), false)) = (sl, true)) := ⟨if_pos hm⟩
          have hh0 : hits (c % 256) i = 0 := if_neg (by omega)
          have hh1 : hits (c % 256) (i + 1) = 1 := if_pos (by omega)
          have h255 : Go.bits .and .i64 c 255 = (i : Int) := by rw [and255]; exact hm.symm
          have hw1 : wrap64 (0 + 1) = 1 := by unfold wrap64; omega
          have hw2 : wrap64 1 = 1 := by unfold wrap64; omega
          rw [hh0]
          clear hm hh0
          go_wp2_with (first
            | (go_at_call 10; (with_reducible refine (tag_c p.ep p.k1 p.k2 p.k3 p.k4 p.k5 p.k6 f0 f1 f2 f3 sl c i sl true HQ.out HSLR.out HIR.out HCC.out HRB.out _).mono ?_); rintro e_ w11 ⟨rfl, hb_⟩; clear r0 r1 r2 r3 r4 r5 r6 g0 g1 g2 g3; have n0_ := Aside0.mk (below_step HB.out hb_); have n1_ := Aside0.mk (HP.out.below hb_); have n2_ := Aside0.mk (HF.out.below hb_); clear HB HP HF; have HB := n0_; have HP := n1_; have HF := n2_; clear n0_ n1_ n2_; clear hb_))
          go_roundg k1
          case measure => omega
          case rel => exact ⟨i + 1, by rw [hh1], by rw [hwi], ⟨by have h_ := HK.out; have h2_ := HIR.out; omega⟩, HB, HP, HF⟩
        · have HRB : Aside0 ((if (i : Int) = c % 256 then (sl, true) else ((0 : Int), false)) = (0, false)) := ⟨if_neg hm⟩
          have hh1 : hits (c % 256) (i + 1) = hits (c % 256) i := by
            unfold hits
            by_cases h1 : c % 256 < (i : Int)
            · rw [if_pos h1, if_pos (by omega)]
            · rw [if_neg h1, if_neg (by omega)]
          clear hm
          go_wp2_with (first
            | (go_at_call 10; (with_reducible refine (tag_c p.ep p.k1 p.k2 p.k3 p.k4 p.k5 p.k6 f0 f1 f2 f3 sl c i 0 false HQ.out HSLR.out HIR.out HCC.out HRB.out _).mono ?_); rintro e_ w11 ⟨rfl, hb_⟩; clear r0 r1 r2 r3 r4 r5 r6 g0 g1 g2 g3; have n0_ := Aside0.mk (below_step HB.out hb_); have n1_ := Aside0.mk (HP.out.below hb_); have n2_ := Aside0.mk (HF.out.below hb_); clear HB HP HF; have HB := n0_; have HP := n1_; have HF := n2_; clear n0_ n1_ n2_; clear hb_))
          go_roundg k1
          case measure => omega
          case rel => exact ⟨i + 1, by rw [hh1], by rw [hwi], ⟨by have h_ := HK.out; have h2_ := HIR.out; omega⟩, HB, HP, HF⟩
      · have hi0 : decide ((i : Int) < 256) = false := decide_eq_false (by omega)
        obtain rfl : i = 256 := by have h_ := HK.out; omega
        have hh : hits (c % 256) 256 = 1 := if_pos (by have h_ := HCR.out; omega)
        rw [hh]
        clear hi HK hh
        go_wp2
        go_ret
        exact ⟨rfl, HB.out⟩
theorem TopTags_walk (W : World) (Aw : Option Addr) (c0 : Nat) (l : List Int) (hl : l.length ≤ 4611686018427387904) (hi : ∀ x ∈ l, -9223372036854775808 ≤ x ∧ x ≤ 9223372036854775807) (hc : l.length ≤ c0) (hC : Kd.C (Kd.int .i64) W Aw l.length l) (a1 : Int) (h1 : -9223372036854775808 ≤ a1 ∧ a1 ≤ 9223372036854775807) (a2 : Int) (h2 : -9223372036854775808 ≤ a2 ∧ a2 ≤ 9223372036854775807) (a3 : Int) (h3 : -9223372036854775808 ≤ a3 ∧ a3 ≤ 9223372036854775807) : Calls Try.prog 4 #[.slice Aw l.length c0, .int .i64 a1, .int .i64 a2, .int .i64 a3] W fun e w' => e = .returned (.bool true) ∧ Below W.heap.size W w' := toptags_calls Aw c0 l hl hi a1 a2 a3 W hC
end Go.Proofs.Ytkpfojpmigchlaa.Own
