/-
  TopKeys, walked.
-/
import Derived.Test.YtkpfojpmigchlaaTopY
import Derived.Test.YtkpfojpmigchlaaTopL
namespace Go.Proofs.Ytkpfojpmigchlaa.Own
open Go Go.RowKit Go.Proofs.YtkpfojpmigchlaaW.PrintWords Go.Proofs.YtkpfojpmigchlaaW.PrintMore Go.Proofs.YtkpfojpmigchlaaW.PrintLast Go.Proofs.Ytkpfojpmigchlaa.Q
set_option linter.unusedVariables false
set_option linter.unusedSimpArgs false

theorem nextPool_ep (p : PL) (k s a b c x y : Int) : (nextPool p k s a b c x y).ep = p.ep ∨ (nextPool p k s a b c x y).ep = wrap64 (p.ep + 1) := by
  unfold nextPool
  split
  · exact .inr rfl
  · exact .inl rfl
theorem apE_ep (p : PL) (e : EN) (h : (apE p e).2 = 0) : (apE p e).1.ep = p.ep ∨ (apE p e).1.ep = wrap64 (p.ep + 1) := by
  revert h
  unfold apE applyP
  split
  · intro h; exact absurd h (by decide)
  · split
    · intro h; exact absurd h (by decide)
    · split
      · intro h; exact absurd h (by decide)
      · intro _; exact nextPool_ep _ _ _ _ _ _ _ _
theorem mkP_ep : ∀ (ns : List Int) (p : PL), 0 ≤ p.ep → p.ep + ns.length ≤ 1099511627776 → 0 ≤ (mkP p ns).ep ∧ (mkP p ns).ep ≤ p.ep + ns.length
  | [], p, h, _ => ⟨h, by show p.ep ≤ p.ep + 0; omega⟩
  | n :: ns, p, h, h2 => by
    rw [List.length_cons] at h2 ⊢
    have key : ∀ q : PL, 0 ≤ q.ep → q.ep ≤ p.ep + 1 → 0 ≤ (mkP q ns).ep ∧ (mkP q ns).ep ≤ p.ep + ((ns.length + 1 : Nat) : Int) := fun q a b => by
      have r := mkP_ep ns q a (by omega)
      omega
    show 0 ≤ (mkP (if (apE p (entP n)).2 = 0 then (apE p (entP n)).1 else p) ns).ep ∧ (mkP (if (apE p (entP n)).2 = 0 then (apE p (entP n)).1 else p) ns).ep ≤ _
    split
    · rename_i h3
      rcases apE_ep p (entP n) h3 with e | e
      · exact key _ (by omega) (by omega)
      · have e2 : wrap64 (p.ep + 1) = p.ep + 1 := by unfold wrap64; omega
        exact key _ (by omega) (by omega)
    · exact key _ h (by omega)
theorem make6_ep (l : List Int) : 0 ≤ (make6 l 60).ep ∧ (make6 l 60).ep ≤ 61 := by
  have h := mkP_ep (l.take (60 : Int).toNat) pool0 (by show (0 : Int) ≤ 1; decide) (by
    have h1 : (l.take (60 : Int).toNat).length ≤ 60 := by rw [List.length_take]; exact Nat.min_le_left _ _
    show (1 : Int) + _ ≤ _
    omega)
  have h1 : (l.take (60 : Int).toNat).length ≤ 60 := by rw [List.length_take]; exact Nat.min_le_left _ _
  have h2 : pool0.ep = 1 := rfl
  unfold make6
  omega
theorem twithin_ok (a n : Int) (hn : 0 < n) (hn2 : n ≤ 1099511627776) : ∃ r, roundhousetop_within.f a n = some r ∧ 0 ≤ r ∧ r < n := within_ok a n hn hn2
theorem twithin_c (a n r : Int) (h : roundhousetop_within.f a n = some r) (w : World) : Calls Try.prog 9 #[.int .i64 a, .int .i64 n] w fun e w' => e = .returned (.int .i64 r) ∧ Below w.heap.size w w' := by
  refine (roundhousetop_within.calls a n r w h).mono ?_
  rintro e w' ⟨rfl, hd⟩
  exact ⟨rfl, drawn_below hd⟩
theorem readN_false {q pa pb ca cb na nb kind f0 f1 f2 f3 c s : Int} (h : readN q pa pb ca cb na nb kind f0 f1 f2 f3 c = (s, false)) : s = 0 := by
  unfold readN at h
  split at h
  · exact (Prod.mk.inj h).1.symm
  · split at h
    · split at h
      · exact absurd (Prod.mk.inj h).2 (by decide)
      · exact (Prod.mk.inj h).1.symm
    · exact (Prod.mk.inj h).1.symm
theorem readN_true {q pa pb ca cb na nb kind f0 f1 f2 f3 c s : Int} (h : readN q pa pb ca cb na nb kind f0 f1 f2 f3 c = (s, true)) :
    (keyOf q pa pb ca cb na nb (c / (64 * p2 kind))).2.2 = true ∧ (0 ≤ s ∧ s < 64) ∧ sumN (keyOf q pa pb ca cb na nb (c / (64 * p2 kind))).1 (keyOf q pa pb ca cb na nb (c / (64 * p2 kind))).2.1 kind f0 f1 f2 f3 s (c / (64 * p2 kind)) % p2 kind = c % p2 kind := by
  unfold readN at h
  split at h
  · exact absurd (Prod.mk.inj h).2 (by decide)
  · split at h
    · rename_i h1 h2
      split at h
      · rename_i h3
        obtain rfl := (Prod.mk.inj h).1
        have h4 := mod_in (sumN (keyOf q pa pb ca cb na nb (c / (64 * p2 kind))).1 (keyOf q pa pb ca cb na nb (c / (64 * p2 kind))).2.1 kind f0 f1 f2 f3 64 (c / (64 * p2 kind))) 64 (by decide)
        exact ⟨h2, xr_lt _ _ (by omega) (by omega) h4.1 h4.2, h3⟩
      · exact absurd (Prod.mk.inj h).2 (by decide)
    · exact absurd (Prod.mk.inj h).2 (by decide)
theorem p64_1 (c : Int) : c / 262144 = c / (64 * p2 1) := by rw [show (64 : Int) * p2 1 = 262144 from by decide]
theorem p64_2 (c : Int) : c / 16384 = c / (64 * p2 2) := by rw [show (64 : Int) * p2 2 = 16384 from by decide]
theorem fin_1 {S c : Int} (hS : 0 ≤ S ∧ S < 18446744073709551616) (h : S % p2 1 = c % p2 1) : (wrap64 (Go.bits .and .u64 S 4095) == Go.bits .and .i64 c 4095) = true := by
  have h2 : S % 4096 = c % 4096 := h
  rw [u64_4095 S hS.1 hS.2, and4095, show wrap64 (S % 4096) = S % 4096 from by unfold wrap64; omega, h2]
  simp
theorem fin_2 {S c : Int} (hS : 0 ≤ S ∧ S < 18446744073709551616) (h : S % p2 2 = c % p2 2) : (wrap64 (Go.bits .and .u64 S 255) == Go.bits .and .i64 c 255) = true := by
  have h2 : S % 256 = c % 256 := h
  rw [u64_255 S hS.1 hS.2, and255, show wrap64 (S % 256) = S % 256 from by unfold wrap64; omega, h2]
  simp
theorem lit7 {W : World} {base : Nat} {ok : Nat → Prop} {v : Value} {xs : List Int} (h : Kd.R (Kd.int .i64) 3 W base ok v xs) (hl : xs.length = 7) : ∃ (Ad : Option Addr) (c : Nat), v = .slice Ad 7 c ∧ Kd.C (Kd.int .i64) W Ad 7 xs ∧ 7 ≤ c := by
  obtain ⟨Ad, c, rfl⟩ := Kd.R_slice h
  have h1 := c_r64 h
  rw [hl] at h1 ⊢
  exact ⟨Ad, c, rfl, h1.2.2, h1.2.1⟩
section
variable (q pa pb ca cb na nb kind f0 f1 f2 f3 : Int)
theorem read_c (c : Int) (hq : 0 ≤ q ∧ q ≤ 61) (hk : kind = 1 ∨ kind = 2) (w : World) : Calls Try.prog 10 #[.agg #[.int .i64 q, .int .u64 pa, .int .u64 pb, .int .u64 ca, .int .u64 cb, .int .u64 na, .int .u64 nb], .int .i64 kind, .agg #[.int .i64 f0, .int .i64 f1, .int .i64 f2, .int .i64 f3], .int .i64 c] w
    fun e w' => ∃ (s : Int) (b : Bool), e = .returned (.tuple #[.int .i64 s, .bool b]) ∧ readN q pa pb ca cb na nb kind f0 f1 f2 f3 c = (s, b) ∧ Below w.heap.size w w' := by
  refine (cookie_Read.calls 2 q pa pb ca cb na nb kind f0 f1 f2 f3 c _ _ w (read_f 0 q pa pb ca cb na nb kind f0 f1 f2 f3 c (by omega) hk)).mono ?_
  rintro e w' ⟨rfl, hb⟩
  exact ⟨_, _, rfl, rfl, hb⟩
theorem make_c (slot : Int) (hk : kind = 1 ∨ kind = 2) (hs : 0 ≤ slot ∧ slot < 64) (w : World) : Calls Try.prog 8 #[.agg #[.int .i64 q, .int .u64 pa, .int .u64 pb, .int .u64 ca, .int .u64 cb, .int .u64 na, .int .u64 nb], .int .i64 kind, .agg #[.int .i64 f0, .int .i64 f1, .int .i64 f2, .int .i64 f3], .int .i64 slot] w
    fun e w' => e = .returned (.int .i64 (cookN ca cb kind f0 f1 f2 f3 slot (q % 4))) ∧ Below w.heap.size w w' :=
  cookie_Make.calls 1 q pa pb ca cb na nb kind f0 f1 f2 f3 slot _ w (make_f 0 q pa pb ca cb na nb kind f0 f1 f2 f3 slot hk hs)
theorem key_c (x s c : Int) (hx : x = c / (64 * p2 kind)) (hq : 0 ≤ q ∧ q ≤ 61) (hr : readN q pa pb ca cb na nb kind f0 f1 f2 f3 c = (s, true)) (w : World) : Calls Try.prog 11 #[.agg #[.int .i64 q, .int .u64 pa, .int .u64 pb, .int .u64 ca, .int .u64 cb, .int .u64 na, .int .u64 nb], .int .i64 x] w
    fun e w' => ∃ a b : Int, e = .returned (.tuple #[.agg #[.int .u64 a, .int .u64 b], .bool true]) ∧ sumN a b kind f0 f1 f2 f3 s x % p2 kind = c % p2 kind ∧ Below w.heap.size w w' := by
  have h := readN_true hr
  rw [← hx] at h
  have hk : cookie_Key.f 1 q pa pb ca cb na nb x = some ((keyOf q pa pb ca cb na nb x).1, (keyOf q pa pb ca cb na nb x).2.1, (keyOf q pa pb ca cb na nb x).2.2) := by
    rw [cookie_Key.f, key_same _ _ _ _ _ _ _ _ (by omega)]
  refine (cookie_Key.calls 1 q pa pb ca cb na nb x _ _ _ w hk).mono ?_
  rintro e w' ⟨rfl, hb⟩
  rw [h.1]
  exact ⟨_, _, rfl, h.2.2, hb⟩
theorem words_c (a b s x : Int) (Ad : Option Addr) (c : Nat) (w : World) (hC : Kd.C (Kd.int .i64) w Ad 7 [kind, f0, f1, f2, f3, s, x]) (hc : 7 ≤ c) : Calls Try.prog 12 #[.agg #[.int .u64 a, .int .u64 b], .slice Ad 7 c] w fun e w' => e = .returned (.int .u64 (sumN a b kind f0 f1 f2 f3 s x)) ∧ Below w.heap.size w w' :=
  sip_Words.calls 1 a b Ad c [kind, f0, f1, f2, f3, s, x] _ w hC hc (show (if 7 ≤ 1048576 then some _ else none) = _ from if_pos (by decide))
theorem flow_c (x y : Int) (h : roundhouselaw5_Flow.f x y = some (f0, f1, f2, f3)) (w : World) : Calls Try.prog 7 #[.int .i64 x, .int .i64 y] w fun e w' => e = .returned (.agg #[.int .i64 f0, .int .i64 f1, .int .i64 f2, .int .i64 f3]) ∧ Below w.heap.size w w' :=
  roundhouselaw5_Flow.calls x y f0 f1 f2 f3 w h
end
theorem run_flow2 (ev : Operand → Value) (o : Oper) (w : World) (ho : o.op = .alloc 36) : (execOp ev o).run Try.prog w = .ok (.value (.pointer (some ⟨w.heap.size, 0, none⟩))) (w.alloc (.cells #[.int .i64 0, .int .i64 0, .int .i64 0, .int .i64 0] 36 (0, 0))) := run_flow ev o w ho
theorem run_key (ev : Operand → Value) (o : Oper) (w : World) (ho : o.op = .alloc 29) : (execOp ev o).run Try.prog w = .ok (.value (.pointer (some ⟨w.heap.size, 0, none⟩))) (w.alloc (.cells #[.int .u64 0, .int .u64 0] 29 (0, 0))) := by
  cases o with
  | mk dst op ty pos after guard =>
    obtain rfl : op = _ := ho
    kernel_rfl
set_option maxHeartbeats 16000000 in
set_option maxRecDepth 100000 in
theorem keys_true (Aw : Option Addr) (c0 : Nat) (l : List Int) (hl : l.length ≤ 4611686018427387904) (hi : ∀ x ∈ l, -9223372036854775808 ≤ x ∧ x ≤ 9223372036854775807) (a1 a2 a3 : Int) (W : World) (hC : Kd.C (Kd.int .i64) W Aw l.length l) : Calls Try.prog 3 #[.slice Aw l.length c0, .int .i64 a1, .int .i64 a2, .int .i64 a3, .bool true] W fun e w' => e = .returned (.bool true) ∧ Below W.heap.size W w' := by
  have hu29 := Try.underlying29
  have hu31 := Try.underlying31
  have hu36 := Try.underlying36
  have HL := Aside0.mk hl
  have HI := Aside0.mk hi
  have HC := Aside0.mk hC
  clear hl hi hC
  obtain ⟨p, hp⟩ : ∃ p, p = make6 l 60 := ⟨_, rfl⟩
  have HPP := Aside0.mk hp
  have HPL : Aside0 (p.sl.length = 64) := ⟨by rw [hp]; exact make6_len _ _⟩
  have HQ : Aside0 (0 ≤ p.ep ∧ p.ep ≤ 61) := ⟨by rw [hp]; exact make6_ep _⟩
  clear hp
  obtain ⟨f0, f1, f2, f3, hf⟩ := flow_ex a1 a2
  have HFL := Aside0.mk hf
  clear hf
  obtain ⟨sl, hsl, hsl0, hsl1⟩ := twithin_ok a1 64 (by decide) (by decide)
  obtain ⟨bt, hbt, hbt0, hbt1⟩ := twithin_ok a3 20 (by decide) (by decide)
  have HSL := Aside0.mk hsl
  have HSLR := Aside0.mk (And.intro hsl0 hsl1)
  have HBT := Aside0.mk hbt
  have HBTR := Aside0.mk (And.intro hbt0 hbt1)
  clear hsl hsl0 hsl1 hbt hbt0 hbt1
  have hw8 : wrap64 20 = 20 := by (unfold wrap64; omega)
  have hw6 : wrap64 18 = 18 := by (unfold wrap64; omega)
  go_enter Try.func3, Try.ntmps3
  go_upto_region 8 with (first
    | (go_at_call 5; (with_reducible refine (known_calls _).mono ?_); rintro e_ w1 ⟨rfl, hb_⟩; have HB := Aside0.mk hb_; clear hb_)
    | (go_at_call 6; (with_reducible refine (make_calls Aw c0 l 60 (by decide) HL.out HI.out _ (Kd.C_below HC.out HB.out)).mono ?_); rw [← HPP.out]; rintro e_ w2 ⟨rfl, hb_⟩; have n0_ := Aside0.mk (below_step HB.out hb_); clear HB; have HB := n0_; clear n0_; clear hb_)
    | ((with_reducible refine gate_dst (N := 11) rfl ?_); refine pl_alloc (N := 11) rfl rfl rfl ?_; intro tp h_ w3 hbx_ hb_; have HP := Aside0.mk hbx_; have HPE : Aside0 (W.heap.size ≤ tp) := ⟨by have h1_ := HB.out.size; omega⟩; have n0_ := Aside0.mk (below_step HB.out hb_); clear HB; have HB := n0_; clear n0_; clear h_ hbx_ hb_)
    | ((with_reducible refine gate_store (t := 33) (p := 11) rfl ?_); refine pl_store (p := p) rfl rfl (.tmp 11) (.tmp 24) rfl rfl rfl HP.out (pcs_size _ zeroP_len) HPL.out ?_; intro w4 hb_ hg_; have n0_ := Aside0.mk (HB.out.grown hg_ (below_size HB.out) (fun q hq => by injection hq with hq; have h1_ := HPE.out; omega)); have m_ := Aside0.mk hb_; clear hb_ hg_; clear HB HP; have HB := n0_; have HP := m_; clear n0_ m_)
    | (go_at_call 7; (with_reducible refine (flow_c f0 f1 f2 f3 _ _ HFL.out _).mono ?_); rintro e_ w5 ⟨rfl, hb_⟩; have n0_ := Aside0.mk (below_step HB.out hb_); have n1_ := Aside0.mk (HP.out.below hb_); clear HB HP; have HB := n0_; have HP := n1_; clear n0_ n1_; clear hb_)
    | ((with_reducible refine gate_dst (N := 14) rfl ?_); refine box_event rfl (N := 14) rfl (cs := #[.int .i64 0, .int .i64 0, .int .i64 0, .int .i64 0]) (t := 36) (run_flow _ _ _ rfl) ?_; intro tf h_ w6 hbx_ hb_; have HF : Aside0 (Blk w6 tf 36 #[.int .i64 0, .int .i64 0, .int .i64 0, .int .i64 0]) := ⟨hbx_⟩; have HFE : Aside0 (tp < tf ∧ W.heap.size ≤ tf) := ⟨by have h1_ := HP.out.lt; have h2_ := HPE.out; omega⟩; have n0_ := Aside0.mk (below_step HB.out hb_); have n1_ := Aside0.mk (HP.out.below hb_); clear HB HP; have HB := n0_; have HP := n1_; clear n0_ n1_; clear h_ hbx_ hb_)
    | ((with_reducible refine gate_store (t := 36) (p := 14) rfl ?_); refine stm_event rfl rfl 36 (.tmp 14) (.tmp 28) rfl rfl rfl HF.out (Nat.le_refl _) (by kernel_rfl) (by simp [Value.oneCell']) ?_; intro w7 hb_ hg_; have m_ : Aside0 (Blk w7 tf 36 #[.int .i64 f0, .int .i64 f1, .int .i64 f2, .int .i64 f3]) := ⟨hb_⟩; have n0_ := Aside0.mk (HB.out.grown hg_ (below_size HB.out) (fun q hq => by injection hq with hq; have h1_ := HFE.out; omega)); have n1_ := Aside0.mk (HP.out.grown hg_ (by intro e; injection e with e; have h1_ := HFE.out; omega)); clear hb_ hg_; clear HF HB HP; have HF := m_; have HB := n0_; have HP := n1_; clear m_ n0_ n1_))
  have hb_ := below_drew1 (Below.refl w7.heap.size w7)
  have n0_ := Aside0.mk (below_step HB.out hb_)
  have n1_ := Aside0.mk (HP.out.below hb_)
  have n2_ := Aside0.mk (HF.out.below hb_)
  clear HB HP HF
  have HB := n0_
  have HP := n1_
  have HF := n2_
  clear n0_ n1_ n2_
  clear hb_
  refine start_ (n := 15) (S := fun w' => w'.cell? ⟨tp, 323, none⟩ = some (.int .i64 p.ep) ∧ w'.cell? ⟨tp, 324, none⟩ = some (.int .u64 p.k1) ∧ w'.cell? ⟨tp, 325, none⟩ = some (.int .u64 p.k2) ∧ w'.cell? ⟨tp, 326, none⟩ = some (.int .u64 p.k3) ∧ w'.cell? ⟨tp, 327, none⟩ = some (.int .u64 p.k4) ∧ w'.cell? ⟨tp, 328, none⟩ = some (.int .u64 p.k5) ∧ w'.cell? ⟨tp, 329, none⟩ = some (.int .u64 p.k6) ∧ w'.cell? ⟨tf, 0, none⟩ = some (.int .i64 f0) ∧ w'.cell? ⟨tf, 1, none⟩ = some (.int .i64 f1) ∧ w'.cell? ⟨tf, 2, none⟩ = some (.int .i64 f2) ∧ w'.cell? ⟨tf, 3, none⟩ = some (.int .i64 f3)) (ds := []) #[false, false, false, false, false, false, false, false, false, false, false, false, false, false, false] (by kernel_rfl) rfl rfl ⟨(blk_cell HP.out 323).trans ((pcs_ring p HPL.out 0).trans rfl), (blk_cell HP.out 324).trans ((pcs_ring p HPL.out 1).trans rfl), (blk_cell HP.out 325).trans ((pcs_ring p HPL.out 2).trans rfl), (blk_cell HP.out 326).trans ((pcs_ring p HPL.out 3).trans rfl), (blk_cell HP.out 327).trans ((pcs_ring p HPL.out 4).trans rfl), (blk_cell HP.out 328).trans ((pcs_ring p HPL.out 5).trans rfl), (blk_cell HP.out 329).trans ((pcs_ring p HPL.out 6).trans rfl), (blk_cell HF.out 0).trans rfl, (blk_cell HF.out 1).trans rfl, (blk_cell HF.out 2).trans rfl, (blk_cell HF.out 3).trans rfl⟩ (fun hHeld => ?_)
  generalize w7.drew = w8 at HB HP HF hHeld ⊢
  refine pure_ (i := 0) (N := some 29) (v := ?_) (a' := ?_) #[true, false, false, false, false, false, false, false, false, false, false, false, false, false, false] rfl rfl (by kernel_rfl) (fun _ _ _ h => h) (Or.inl ⟨by rfl, ?_⟩) ?_ ?_
  rotate_left
  · intro w'
    go_simp
    with_reducible rfl
  rotate_left
  · simp only [Act.put, List.setIfInBounds_toArray, List.set_cons_zero, List.set_cons_succ, i64_w, i32_w]
    rfl
  refine pure_ (i := 2) (N := some 31) (v := ?_) (a' := ?_) #[true, false, true, false, false, false, false, false, false, false, false, false, false, false, false] rfl rfl (by kernel_rfl) (fun _ _ _ h => h) (Or.inl ⟨by rfl, ?_⟩) ?_ ?_
  rotate_left
  · intro w'
    go_simp
    with_reducible rfl
  rotate_left
  · simp only [Act.put, List.setIfInBounds_toArray, List.set_cons_zero, List.set_cons_succ, i64_w, i32_w]
    rfl
  refine pure_ (i := 4) (N := some 33) (v := ?_) (a' := ?_) #[true, false, true, false, true, false, false, false, false, false, false, false, false, false, false] rfl rfl (by kernel_rfl) (fun _ _ _ h => h) (Or.inl ⟨by rfl, ?_⟩) ?_ ?_
  rotate_left
  · intro w'
    go_simp
    with_reducible rfl
  rotate_left
  · simp only [Act.put, List.setIfInBounds_toArray, List.set_cons_zero, List.set_cons_succ, i64_w, i32_w]
    rfl
  refine pure_ (i := 7) (N := some 36) (v := ?_) (a' := ?_) #[true, false, true, false, true, false, false, true, false, false, false, false, false, false, false] rfl rfl (by kernel_rfl) (fun _ _ _ h => h) (Or.inl ⟨by rfl, ?_⟩) ?_ ?_
  rotate_left
  · intro w'
    go_simp
    with_reducible rfl
  rotate_left
  · simp only [Act.put, List.setIfInBounds_toArray, List.set_cons_zero, List.set_cons_succ, i64_w, i32_w]
    rfl
  refine pure_ (i := 8) (N := some 37) (v := ?_) (a' := ?_) #[true, false, true, false, true, false, false, true, true, false, false, false, false, false, false] rfl rfl (by kernel_rfl) (fun _ _ _ h => h) (Or.inl ⟨by rfl, ?_⟩) ?_ ?_
  rotate_left
  · intro w'
    go_simp
    with_reducible rfl
  rotate_left
  · simp only [Act.put, List.setIfInBounds_toArray, List.set_cons_zero, List.set_cons_succ, i64_w, i32_w]
    rfl
  refine pure_ (i := 9) (N := some 38) (v := ?_) (a' := ?_) #[true, false, true, false, true, false, false, true, true, true, false, false, false, false, false] rfl rfl (by kernel_rfl) (fun _ _ _ h => h) (Or.inl ⟨by rfl, ?_⟩) ?_ ?_
  rotate_left
  · intro w'
    go_simp
    with_reducible rfl
  rotate_left
  · simp only [Act.put, List.setIfInBounds_toArray, List.set_cons_zero, List.set_cons_succ, i64_w, i32_w]
    rfl
  refine take_ (i := 1) (N := some 30) (v := ?_) (a' := ?_) #[true, true, true, false, true, false, false, true, true, true, false, false, false, false, false] rfl rfl (by kernel_rfl) (fun _ _ _ h => h) (Or.inl ⟨by rfl, ?_⟩) hHeld ?_ ?_
  rotate_left
  · rintro w' ⟨s0, s1, s2, s3, s4, s5, s6, s7, s8, s9, s10⟩
    go_simp
    with_reducible rfl
  rotate_left
  · simp only [Act.put, List.setIfInBounds_toArray, List.set_cons_zero, List.set_cons_succ, i64_w, i32_w]
    rfl
  refine take_ (i := 3) (N := some 32) (v := ?_) (a' := ?_) #[true, true, true, true, true, false, false, true, true, true, false, false, false, false, false] rfl rfl (by kernel_rfl) (fun _ _ _ h => h) (Or.inl ⟨by rfl, ?_⟩) hHeld ?_ ?_
  rotate_left
  · rintro w' ⟨s0, s1, s2, s3, s4, s5, s6, s7, s8, s9, s10⟩
    go_simp
    with_reducible rfl
  rotate_left
  · simp only [Act.put, List.setIfInBounds_toArray, List.set_cons_zero, List.set_cons_succ, i64_w, i32_w]
    rfl
  refine one_ (i := 5) (N := some 34) #[true, true, true, true, true, true, false, true, true, true, false, false, false, false, false] rfl rfl (by kernel_rfl) (by decide) (fun K hK => ?_)
  refine goes_ Try.func9 (by kernel_rfl) rfl #[.int .i64 a1, .int .i64 64] (by rfl) rfl rfl (by simp only [List.map_toArray, List.map_cons, List.map_nil]; rfl) ?_
  refine (twithin_c a1 64 sl HSL.out _).mono ?_
  rintro e_ w9 ⟨rfl, hb_⟩
  refine ⟨_, rfl, ?_⟩
  have n0_ := Aside0.mk (below_step HB.out hb_)
  have n1_ := Aside0.mk (HP.out.below hb_)
  have n2_ := Aside0.mk (HF.out.below hb_)
  clear HB HP HF
  have HB := n0_
  have HP := n1_
  have HF := n2_
  clear n0_ n1_ n2_
  clear hb_ hHeld
  refine hK.out _ _ ⟨(blk_cell HP.out 323).trans ((pcs_ring p HPL.out 0).trans rfl), (blk_cell HP.out 324).trans ((pcs_ring p HPL.out 1).trans rfl), (blk_cell HP.out 325).trans ((pcs_ring p HPL.out 2).trans rfl), (blk_cell HP.out 326).trans ((pcs_ring p HPL.out 3).trans rfl), (blk_cell HP.out 327).trans ((pcs_ring p HPL.out 4).trans rfl), (blk_cell HP.out 328).trans ((pcs_ring p HPL.out 5).trans rfl), (blk_cell HP.out 329).trans ((pcs_ring p HPL.out 6).trans rfl), (blk_cell HF.out 0).trans rfl, (blk_cell HF.out 1).trans rfl, (blk_cell HF.out 2).trans rfl, (blk_cell HF.out 3).trans rfl⟩ (fun hHeld => ?_)
  clear hK K
  refine norm_ (a' := ?_) ?_ ?_
  rotate_left
  · show Act.put _ (some 34) _ = _
    simp only [Act.put, List.setIfInBounds_toArray, List.set_cons_zero, List.set_cons_succ, i64_w, i32_w]
    rfl
  refine one_ (i := 6) (N := some 35) #[true, true, true, true, true, true, true, true, true, true, false, false, false, false, false] rfl rfl (by kernel_rfl) (by decide) (fun K hK => ?_)
  refine goes_ Try.func8 (by kernel_rfl) rfl #[.agg #[.int .i64 p.ep, .int .u64 p.k1, .int .u64 p.k2, .int .u64 p.k3, .int .u64 p.k4, .int .u64 p.k5, .int .u64 p.k6], .int .i64 1, .agg #[.int .i64 f0, .int .i64 f1, .int .i64 f2, .int .i64 f3], .int .i64 sl] (by rfl) rfl rfl (by simp only [List.map_toArray, List.map_cons, List.map_nil]; rfl) ?_
  refine (make_c p.ep p.k1 p.k2 p.k3 p.k4 p.k5 p.k6 1 f0 f1 f2 f3 sl (by decide) HSLR.out _).mono ?_
  rintro e_ w10 ⟨rfl, hb_⟩
  refine ⟨_, rfl, ?_⟩
  have n0_ := Aside0.mk (below_step HB.out hb_)
  have n1_ := Aside0.mk (HP.out.below hb_)
  have n2_ := Aside0.mk (HF.out.below hb_)
  clear HB HP HF
  have HB := n0_
  have HP := n1_
  have HF := n2_
  clear n0_ n1_ n2_
  clear hb_ hHeld
  refine hK.out _ _ ⟨(blk_cell HP.out 323).trans ((pcs_ring p HPL.out 0).trans rfl), (blk_cell HP.out 324).trans ((pcs_ring p HPL.out 1).trans rfl), (blk_cell HP.out 325).trans ((pcs_ring p HPL.out 2).trans rfl), (blk_cell HP.out 326).trans ((pcs_ring p HPL.out 3).trans rfl), (blk_cell HP.out 327).trans ((pcs_ring p HPL.out 4).trans rfl), (blk_cell HP.out 328).trans ((pcs_ring p HPL.out 5).trans rfl), (blk_cell HP.out 329).trans ((pcs_ring p HPL.out 6).trans rfl), (blk_cell HF.out 0).trans rfl, (blk_cell HF.out 1).trans rfl, (blk_cell HF.out 2).trans rfl, (blk_cell HF.out 3).trans rfl⟩ (fun hHeld => ?_)
  clear hK K
  refine norm_ (a' := ?_) ?_ ?_
  rotate_left
  · show Act.put _ (some 35) _ = _
    simp only [Act.put, List.setIfInBounds_toArray, List.set_cons_zero, List.set_cons_succ, i64_w, i32_w]
    rfl
  refine one_ (i := 10) (N := some 39) #[true, true, true, true, true, true, true, true, true, true, true, false, false, false, false] rfl rfl (by kernel_rfl) (by decide) (fun K hK => ?_)
  rw [hw8]
  refine goes_ Try.func9 (by kernel_rfl) rfl #[.int .i64 a3, .int .i64 20] (by rfl) rfl rfl (by simp only [List.map_toArray, List.map_cons, List.map_nil]; rfl) ?_
  refine (twithin_c a3 20 bt HBT.out _).mono ?_
  rintro e_ w11 ⟨rfl, hb_⟩
  refine ⟨_, rfl, ?_⟩
  have n0_ := Aside0.mk (below_step HB.out hb_)
  have n1_ := Aside0.mk (HP.out.below hb_)
  have n2_ := Aside0.mk (HF.out.below hb_)
  clear HB HP HF
  have HB := n0_
  have HP := n1_
  have HF := n2_
  clear n0_ n1_ n2_
  clear hb_ hHeld
  refine hK.out _ _ ⟨(blk_cell HP.out 323).trans ((pcs_ring p HPL.out 0).trans rfl), (blk_cell HP.out 324).trans ((pcs_ring p HPL.out 1).trans rfl), (blk_cell HP.out 325).trans ((pcs_ring p HPL.out 2).trans rfl), (blk_cell HP.out 326).trans ((pcs_ring p HPL.out 3).trans rfl), (blk_cell HP.out 327).trans ((pcs_ring p HPL.out 4).trans rfl), (blk_cell HP.out 328).trans ((pcs_ring p HPL.out 5).trans rfl), (blk_cell HP.out 329).trans ((pcs_ring p HPL.out 6).trans rfl), (blk_cell HF.out 0).trans rfl, (blk_cell HF.out 1).trans rfl, (blk_cell HF.out 2).trans rfl, (blk_cell HF.out 3).trans rfl⟩ (fun hHeld => ?_)
  clear hK K
  refine norm_ (a' := ?_) ?_ ?_
  rotate_left
  · show Act.put _ (some 39) _ = _
    simp only [Act.put, List.setIfInBounds_toArray, List.set_cons_zero, List.set_cons_succ, i64_w, i32_w]
    rfl
  refine pure_ (i := 11) (N := some 40) (v := ?_) (a' := ?_) #[true, true, true, true, true, true, true, true, true, true, true, true, false, false, false] rfl rfl (by kernel_rfl) (fun _ _ _ h => h) (Or.inl ⟨by rfl, ?_⟩) ?_ ?_
  rotate_left
  · intro w'
    go_simp
    with_reducible rfl
  rotate_left
  · simp only [Act.put, List.setIfInBounds_toArray, List.set_cons_zero, List.set_cons_succ, i64_w, i32_w]
    rfl
  refine pure_ (i := 12) (N := some 41) (v := ?_) (a' := ?_) #[true, true, true, true, true, true, true, true, true, true, true, true, true, false, false] rfl rfl (by kernel_rfl) (fun _ _ _ h => h) (Or.inl ⟨by rfl, ?_⟩) ?_ ?_
  rotate_left
  · intro w'
    go_simp
    with_reducible rfl
  rotate_left
  · simp only [Act.put, List.setIfInBounds_toArray, List.set_cons_zero, List.set_cons_succ, i64_w, i32_w]
    rfl
  refine pure_ (i := 13) (N := some 42) (v := ?_) (a' := ?_) #[true, true, true, true, true, true, true, true, true, true, true, true, true, true, false] rfl rfl (by kernel_rfl) (fun _ _ _ h => h) (Or.inl ⟨by rfl, ?_⟩) ?_ ?_
  rotate_left
  · intro w'
    go_simp
    with_reducible rfl
  rotate_left
  · simp only [Act.put, List.setIfInBounds_toArray, List.set_cons_zero, List.set_cons_succ, i64_w, i32_w]
    rfl
  refine pure_ (i := 14) (N := some 15) (v := ?_) (a' := ?_) #[true, true, true, true, true, true, true, true, true, true, true, true, true, true, true] rfl rfl (by kernel_rfl) (fun _ _ _ h => h) (Or.inl ⟨by rfl, ?_⟩) ?_ ?_
  rotate_left
  · intro w'
    go_simp
    with_reducible rfl
  rotate_left
  · simp only [Act.put, List.setIfInBounds_toArray, List.set_cons_zero, List.set_cons_succ, i64_w, i32_w]
    rfl
  refine done_ (by kernel_rfl) ?_
  clear hHeld
  clear hw8
  generalize (Go.bits .xor .i64 (cookN p.k3 p.k4 1 f0 f1 f2 f3 sl (p.ep % 4)) (wrap64 (2 ^ min (IntKind.u64.wrap bt).toNat 64))) = c
  have r0 : w11.cell? ⟨tp, 323, none⟩ = some (.int .i64 p.ep) := (blk_cell HP.out 323).trans ((pcs_ring p HPL.out 0).trans rfl)
  have r1 : w11.cell? ⟨tp, 324, none⟩ = some (.int .u64 p.k1) := (blk_cell HP.out 324).trans ((pcs_ring p HPL.out 1).trans rfl)
  have r2 : w11.cell? ⟨tp, 325, none⟩ = some (.int .u64 p.k2) := (blk_cell HP.out 325).trans ((pcs_ring p HPL.out 2).trans rfl)
  have r3 : w11.cell? ⟨tp, 326, none⟩ = some (.int .u64 p.k3) := (blk_cell HP.out 326).trans ((pcs_ring p HPL.out 3).trans rfl)
  have r4 : w11.cell? ⟨tp, 327, none⟩ = some (.int .u64 p.k4) := (blk_cell HP.out 327).trans ((pcs_ring p HPL.out 4).trans rfl)
  have r5 : w11.cell? ⟨tp, 328, none⟩ = some (.int .u64 p.k5) := (blk_cell HP.out 328).trans ((pcs_ring p HPL.out 5).trans rfl)
  have r6 : w11.cell? ⟨tp, 329, none⟩ = some (.int .u64 p.k6) := (blk_cell HP.out 329).trans ((pcs_ring p HPL.out 6).trans rfl)
  have g0 : w11.cell? ⟨tf, 0, none⟩ = some (.int .i64 f0) := (blk_cell HF.out 0).trans rfl
  have g1 : w11.cell? ⟨tf, 1, none⟩ = some (.int .i64 f1) := (blk_cell HF.out 1).trans rfl
  have g2 : w11.cell? ⟨tf, 2, none⟩ = some (.int .i64 f2) := (blk_cell HF.out 2).trans rfl
  have g3 : w11.cell? ⟨tf, 3, none⟩ = some (.int .i64 f3) := (blk_cell HF.out 3).trans rfl
  go_upto_region 10 with (first
    | (go_at_call 10; (with_reducible refine (read_c p.ep p.k1 p.k2 p.k3 p.k4 p.k5 p.k6 1 f0 f1 f2 f3 c HQ.out (by decide) _).mono ?_); rintro e_ w12 ⟨s1, b1, rfl, hrd, hb_⟩; clear r0 r1 r2 r3 r4 r5 r6 g0 g1 g2 g3; have n0_ := Aside0.mk (below_step HB.out hb_); have n1_ := Aside0.mk (HP.out.below hb_); have n2_ := Aside0.mk (HF.out.below hb_); clear HB HP HF; have HB := n0_; have HP := n1_; have HF := n2_; clear n0_ n1_ n2_; clear hb_; have r0 : w12.cell? ⟨tp, 323, none⟩ = some (.int .i64 p.ep) := (blk_cell HP.out 323).trans ((pcs_ring p HPL.out 0).trans rfl); have r1 : w12.cell? ⟨tp, 324, none⟩ = some (.int .u64 p.k1) := (blk_cell HP.out 324).trans ((pcs_ring p HPL.out 1).trans rfl); have r2 : w12.cell? ⟨tp, 325, none⟩ = some (.int .u64 p.k2) := (blk_cell HP.out 325).trans ((pcs_ring p HPL.out 2).trans rfl); have r3 : w12.cell? ⟨tp, 326, none⟩ = some (.int .u64 p.k3) := (blk_cell HP.out 326).trans ((pcs_ring p HPL.out 3).trans rfl); have r4 : w12.cell? ⟨tp, 327, none⟩ = some (.int .u64 p.k4) := (blk_cell HP.out 327).trans ((pcs_ring p HPL.out 4).trans rfl); have r5 : w12.cell? ⟨tp, 328, none⟩ = some (.int .u64 p.k5) := (blk_cell HP.out 328).trans ((pcs_ring p HPL.out 5).trans rfl); have r6 : w12.cell? ⟨tp, 329, none⟩ = some (.int .u64 p.k6) := (blk_cell HP.out 329).trans ((pcs_ring p HPL.out 6).trans rfl); have g0 : w12.cell? ⟨tf, 0, none⟩ = some (.int .i64 f0) := (blk_cell HF.out 0).trans rfl; have g1 : w12.cell? ⟨tf, 1, none⟩ = some (.int .i64 f1) := (blk_cell HF.out 1).trans rfl; have g2 : w12.cell? ⟨tf, 2, none⟩ = some (.int .i64 f2) := (blk_cell HF.out 2).trans rfl; have g3 : w12.cell? ⟨tf, 3, none⟩ = some (.int .i64 f3) := (blk_cell HF.out 3).trans rfl))
  cases b1 with
  | false =>
    obtain rfl := readN_false hrd
    clear hrd
    go_wp2
    go_ret
    exact ⟨rfl, HB.out⟩
  | true =>
    have HR := Aside0.mk hrd
    have HRR := Aside0.mk (readN_true hrd).2.1
    clear hrd
    have hs0 : decide (s1 ≥ 0) = true := decide_eq_true HRR.out.1
    have hs1 : decide (s1 < 64) = true := decide_eq_true HRR.out.2
    have p0 : (0 ≤ s1) = True := eq_true HRR.out.1
    have p1 : (s1 < 64) = True := eq_true HRR.out.2
    go_wp2_with (first
      | (go_at_call 11; (with_reducible refine (key_c p.ep p.k1 p.k2 p.k3 p.k4 p.k5 p.k6 1 f0 f1 f2 f3 (c / 262144) s1 c (p64_1 c) HQ.out HR.out _).mono ?_); rintro e_ w13 ⟨ka, kb, rfl, htag, hb_⟩; have HTAG := Aside0.mk htag; clear r0 r1 r2 r3 r4 r5 r6 g0 g1 g2 g3; have n0_ := Aside0.mk (below_step HB.out hb_); have n1_ := Aside0.mk (HP.out.below hb_); have n2_ := Aside0.mk (HF.out.below hb_); clear HB HP HF; have HB := n0_; have HP := n1_; have HF := n2_; clear n0_ n1_ n2_; clear hb_ htag)
      | ((with_reducible refine gate_dst (N := 18) rfl ?_); refine box_event rfl (N := 18) rfl (cs := #[.int .u64 0, .int .u64 0]) (t := 29) (run_key _ _ _ rfl) ?_; intro tk h_ w13' hbx_ hb_; have HK : Aside0 (Blk w13' tk 29 #[.int .u64 0, .int .u64 0]) := ⟨hbx_⟩; have HKE : Aside0 (tf < tk ∧ W.heap.size ≤ tk) := ⟨by have h1_ := HF.out.lt; have h2_ := HFE.out; omega⟩; have n0_ := Aside0.mk (below_step HB.out hb_); have n1_ := Aside0.mk (HP.out.below hb_); have n2_ := Aside0.mk (HF.out.below hb_); clear HB HP HF; have HB := n0_; have HP := n1_; have HF := n2_; clear n0_ n1_ n2_; clear h_ hbx_ hb_)
      | ((with_reducible refine gate_store (t := 29) (p := 18) rfl ?_); refine stm_event rfl rfl 29 (.tmp 18) (.tmp 65) rfl rfl rfl HK.out (Nat.le_refl _) (by kernel_rfl) (by simp [Value.oneCell']) ?_; intro w14 hb_ hg_; have m_ : Aside0 (Blk w14 tk 29 #[.int .u64 ka, .int .u64 kb]) := ⟨hb_⟩; have n0_ := Aside0.mk (HB.out.grown hg_ (below_size HB.out) (fun q hq => by injection hq with hq; have h1_ := HKE.out; omega)); have n1_ := Aside0.mk (HF.out.grown hg_ (by intro e; injection e with e; have h1_ := HKE.out; have h2_ := HFE.out; omega)); clear hb_ hg_; clear HK HB HF; have HK := m_; have HB := n0_; have HF := n1_; clear m_ n0_ n1_; have k0 : w14.cell? ⟨tk, 0, none⟩ = some (.int .u64 ka) := (blk_cell HK.out 0).trans rfl; have k1 : w14.cell? ⟨tk, 1, none⟩ = some (.int .u64 kb) := (blk_cell HK.out 1).trans rfl; have g0 : w14.cell? ⟨tf, 0, none⟩ = some (.int .i64 f0) := (blk_cell HF.out 0).trans rfl; have g1 : w14.cell? ⟨tf, 1, none⟩ = some (.int .i64 f1) := (blk_cell HF.out 1).trans rfl; have g2 : w14.cell? ⟨tf, 2, none⟩ = some (.int .i64 f2) := (blk_cell HF.out 2).trans rfl; have g3 : w14.cell? ⟨tf, 3, none⟩ = some (.int .i64 f3) := (blk_cell HF.out 3).trans rfl)
      | ((with_reducible refine gate_dst (N := 83) rfl ?_); refine Kd.R_lit (Kd.int .i64) _ 3 ?hg (N := 83) ?hd (xs := ([1, f0, f1, f2, f3, s1, c / 262144] : List Int)) (inner := [.int .i64 (1), .int .i64 (f0), .int .i64 (f1), .int .i64 (f2), .int .i64 (f3), .int .i64 (s1), .int .i64 (c / 262144)]) (ok := fun _ => True) (okp := fun _ => True) ?hr ?hp (fun _ hk => hk) trivial (Below.refl _ _) (Nat.le_refl _) (by simp) ?_; (case hd => rfl); (case hg => rfl); (case hr => first | (go_simp; done) | (go_simp; rfl)); (case hp => exact (Reps.one (show Kd.M (Kd.int .i64) _ _ _ (1) [.int .i64 (1)] from rfl) (Reps.one (show Kd.M (Kd.int .i64) _ _ _ (f0) [.int .i64 (f0)] from rfl) (Reps.one (show Kd.M (Kd.int .i64) _ _ _ (f1) [.int .i64 (f1)] from rfl) (Reps.one (show Kd.M (Kd.int .i64) _ _ _ (f2) [.int .i64 (f2)] from rfl) (Reps.one (show Kd.M (Kd.int .i64) _ _ _ (f3) [.int .i64 (f3)] from rfl) (Reps.one (show Kd.M (Kd.int .i64) _ _ _ (s1) [.int .i64 (s1)] from rfl) (Reps.one (show Kd.M (Kd.int .i64) _ _ _ (c / 262144) [.int .i64 (c / 262144)] from rfl) (Reps.none _ _))))))))); intro v_ w15 ho_ hb_ hg_ hnew_; clear hg_ hnew_ k0 k1 g0 g1 g2 g3; obtain ⟨Ao, co, rfl, hc_, hco_⟩ := lit7 ho_ rfl; have HLC := Aside0.mk hc_; have HCO := Aside0.mk hco_; have n0_ := Aside0.mk (below_step HB.out hb_); clear HB; have HB := n0_; clear n0_; clear hb_ ho_ hc_ hco_)
      | (go_at_call 12; (with_reducible refine (words_c 1 f0 f1 f2 f3 ka kb s1 (c / 262144) _ _ _ HLC.out HCO.out).mono ?_); rintro e_ w16 ⟨rfl, hb_⟩; have n0_ := Aside0.mk (below_step HB.out hb_); clear HB; have HB := n0_; clear n0_; clear hb_))
    have hf_ := fin_1 (sum_range ka kb 1 f0 f1 f2 f3 s1 (c / 262144)) HTAG.out
    rw [hf_]
    go_ret
    exact ⟨rfl, HB.out⟩
set_option maxHeartbeats 16000000 in
set_option maxRecDepth 100000 in
theorem keys_false (Aw : Option Addr) (c0 : Nat) (l : List Int) (hl : l.length ≤ 4611686018427387904) (hi : ∀ x ∈ l, -9223372036854775808 ≤ x ∧ x ≤ 9223372036854775807) (a1 a2 a3 : Int) (W : World) (hC : Kd.C (Kd.int .i64) W Aw l.length l) : Calls Try.prog 3 #[.slice Aw l.length c0, .int .i64 a1, .int .i64 a2, .int .i64 a3, .bool false] W fun e w' => e = .returned (.bool true) ∧ Below W.heap.size W w' := by
  have hu29 := Try.underlying29
  have hu31 := Try.underlying31
  have hu36 := Try.underlying36
  have HL := Aside0.mk hl
  have HI := Aside0.mk hi
  have HC := Aside0.mk hC
  clear hl hi hC
  obtain ⟨p, hp⟩ : ∃ p, p = make6 l 60 := ⟨_, rfl⟩
  have HPP := Aside0.mk hp
  have HPL : Aside0 (p.sl.length = 64) := ⟨by rw [hp]; exact make6_len _ _⟩
  have HQ : Aside0 (0 ≤ p.ep ∧ p.ep ≤ 61) := ⟨by rw [hp]; exact make6_ep _⟩
  clear hp
  obtain ⟨f0, f1, f2, f3, hf⟩ := flow_ex a1 a2
  have HFL := Aside0.mk hf
  clear hf
  obtain ⟨sl, hsl, hsl0, hsl1⟩ := twithin_ok a1 64 (by decide) (by decide)
  obtain ⟨bt, hbt, hbt0, hbt1⟩ := twithin_ok a3 16 (by decide) (by decide)
  have HSL := Aside0.mk hsl
  have HSLR := Aside0.mk (And.intro hsl0 hsl1)
  have HBT := Aside0.mk hbt
  have HBTR := Aside0.mk (And.intro hbt0 hbt1)
  clear hsl hsl0 hsl1 hbt hbt0 hbt1
  have hw8 : wrap64 16 = 16 := by (unfold wrap64; omega)
  have hw6 : wrap64 14 = 14 := by (unfold wrap64; omega)
  go_enter Try.func3, Try.ntmps3
  go_upto_region 8 with (first
    | (go_at_call 5; (with_reducible refine (known_calls _).mono ?_); rintro e_ w1 ⟨rfl, hb_⟩; have HB := Aside0.mk hb_; clear hb_)
    | (go_at_call 6; (with_reducible refine (make_calls Aw c0 l 60 (by decide) HL.out HI.out _ (Kd.C_below HC.out HB.out)).mono ?_); rw [← HPP.out]; rintro e_ w2 ⟨rfl, hb_⟩; have n0_ := Aside0.mk (below_step HB.out hb_); clear HB; have HB := n0_; clear n0_; clear hb_)
    | ((with_reducible refine gate_dst (N := 11) rfl ?_); refine pl_alloc (N := 11) rfl rfl rfl ?_; intro tp h_ w3 hbx_ hb_; have HP := Aside0.mk hbx_; have HPE : Aside0 (W.heap.size ≤ tp) := ⟨by have h1_ := HB.out.size; omega⟩; have n0_ := Aside0.mk (below_step HB.out hb_); clear HB; have HB := n0_; clear n0_; clear h_ hbx_ hb_)
    | ((with_reducible refine gate_store (t := 33) (p := 11) rfl ?_); refine pl_store (p := p) rfl rfl (.tmp 11) (.tmp 24) rfl rfl rfl HP.out (pcs_size _ zeroP_len) HPL.out ?_; intro w4 hb_ hg_; have n0_ := Aside0.mk (HB.out.grown hg_ (below_size HB.out) (fun q hq => by injection hq with hq; have h1_ := HPE.out; omega)); have m_ := Aside0.mk hb_; clear hb_ hg_; clear HB HP; have HB := n0_; have HP := m_; clear n0_ m_)
    | (go_at_call 7; (with_reducible refine (flow_c f0 f1 f2 f3 _ _ HFL.out _).mono ?_); rintro e_ w5 ⟨rfl, hb_⟩; have n0_ := Aside0.mk (below_step HB.out hb_); have n1_ := Aside0.mk (HP.out.below hb_); clear HB HP; have HB := n0_; have HP := n1_; clear n0_ n1_; clear hb_)
    | ((with_reducible refine gate_dst (N := 14) rfl ?_); refine box_event rfl (N := 14) rfl (cs := #[.int .i64 0, .int .i64 0, .int .i64 0, .int .i64 0]) (t := 36) (run_flow _ _ _ rfl) ?_; intro tf h_ w6 hbx_ hb_; have HF : Aside0 (Blk w6 tf 36 #[.int .i64 0, .int .i64 0, .int .i64 0, .int .i64 0]) := ⟨hbx_⟩; have HFE : Aside0 (tp < tf ∧ W.heap.size ≤ tf) := ⟨by have h1_ := HP.out.lt; have h2_ := HPE.out; omega⟩; have n0_ := Aside0.mk (below_step HB.out hb_); have n1_ := Aside0.mk (HP.out.below hb_); clear HB HP; have HB := n0_; have HP := n1_; clear n0_ n1_; clear h_ hbx_ hb_)
    | ((with_reducible refine gate_store (t := 36) (p := 14) rfl ?_); refine stm_event rfl rfl 36 (.tmp 14) (.tmp 28) rfl rfl rfl HF.out (Nat.le_refl _) (by kernel_rfl) (by simp [Value.oneCell']) ?_; intro w7 hb_ hg_; have m_ : Aside0 (Blk w7 tf 36 #[.int .i64 f0, .int .i64 f1, .int .i64 f2, .int .i64 f3]) := ⟨hb_⟩; have n0_ := Aside0.mk (HB.out.grown hg_ (below_size HB.out) (fun q hq => by injection hq with hq; have h1_ := HFE.out; omega)); have n1_ := Aside0.mk (HP.out.grown hg_ (by intro e; injection e with e; have h1_ := HFE.out; omega)); clear hb_ hg_; clear HF HB HP; have HF := m_; have HB := n0_; have HP := n1_; clear m_ n0_ n1_))
  have hb_ := below_drew1 (Below.refl w7.heap.size w7)
  have n0_ := Aside0.mk (below_step HB.out hb_)
  have n1_ := Aside0.mk (HP.out.below hb_)
  have n2_ := Aside0.mk (HF.out.below hb_)
  clear HB HP HF
  have HB := n0_
  have HP := n1_
  have HF := n2_
  clear n0_ n1_ n2_
  clear hb_
  refine start_ (n := 15) (S := fun w' => w'.cell? ⟨tp, 323, none⟩ = some (.int .i64 p.ep) ∧ w'.cell? ⟨tp, 324, none⟩ = some (.int .u64 p.k1) ∧ w'.cell? ⟨tp, 325, none⟩ = some (.int .u64 p.k2) ∧ w'.cell? ⟨tp, 326, none⟩ = some (.int .u64 p.k3) ∧ w'.cell? ⟨tp, 327, none⟩ = some (.int .u64 p.k4) ∧ w'.cell? ⟨tp, 328, none⟩ = some (.int .u64 p.k5) ∧ w'.cell? ⟨tp, 329, none⟩ = some (.int .u64 p.k6) ∧ w'.cell? ⟨tf, 0, none⟩ = some (.int .i64 f0) ∧ w'.cell? ⟨tf, 1, none⟩ = some (.int .i64 f1) ∧ w'.cell? ⟨tf, 2, none⟩ = some (.int .i64 f2) ∧ w'.cell? ⟨tf, 3, none⟩ = some (.int .i64 f3)) (ds := []) #[false, false, false, false, false, false, false, false, false, false, false, false, false, false, false] (by kernel_rfl) rfl rfl ⟨(blk_cell HP.out 323).trans ((pcs_ring p HPL.out 0).trans rfl), (blk_cell HP.out 324).trans ((pcs_ring p HPL.out 1).trans rfl), (blk_cell HP.out 325).trans ((pcs_ring p HPL.out 2).trans rfl), (blk_cell HP.out 326).trans ((pcs_ring p HPL.out 3).trans rfl), (blk_cell HP.out 327).trans ((pcs_ring p HPL.out 4).trans rfl), (blk_cell HP.out 328).trans ((pcs_ring p HPL.out 5).trans rfl), (blk_cell HP.out 329).trans ((pcs_ring p HPL.out 6).trans rfl), (blk_cell HF.out 0).trans rfl, (blk_cell HF.out 1).trans rfl, (blk_cell HF.out 2).trans rfl, (blk_cell HF.out 3).trans rfl⟩ (fun hHeld => ?_)
  generalize w7.drew = w8 at HB HP HF hHeld ⊢
  refine pure_ (i := 0) (N := some 29) (v := ?_) (a' := ?_) #[true, false, false, false, false, false, false, false, false, false, false, false, false, false, false] rfl rfl (by kernel_rfl) (fun _ _ _ h => h) (Or.inl ⟨by rfl, ?_⟩) ?_ ?_
  rotate_left
  · intro w'
    go_simp
    with_reducible rfl
  rotate_left
  · simp only [Act.put, List.setIfInBounds_toArray, List.set_cons_zero, List.set_cons_succ, i64_w, i32_w]
    rfl
  refine pure_ (i := 2) (N := some 31) (v := ?_) (a' := ?_) #[true, false, true, false, false, false, false, false, false, false, false, false, false, false, false] rfl rfl (by kernel_rfl) (fun _ _ _ h => h) (Or.inl ⟨by rfl, ?_⟩) ?_ ?_
  rotate_left
  · intro w'
    go_simp
    with_reducible rfl
  rotate_left
  · simp only [Act.put, List.setIfInBounds_toArray, List.set_cons_zero, List.set_cons_succ, i64_w, i32_w]
    rfl
  refine pure_ (i := 4) (N := some 33) (v := ?_) (a' := ?_) #[true, false, true, false, true, false, false, false, false, false, false, false, false, false, false] rfl rfl (by kernel_rfl) (fun _ _ _ h => h) (Or.inl ⟨by rfl, ?_⟩) ?_ ?_
  rotate_left
  · intro w'
    go_simp
    with_reducible rfl
  rotate_left
  · simp only [Act.put, List.setIfInBounds_toArray, List.set_cons_zero, List.set_cons_succ, i64_w, i32_w]
    rfl
  refine pure_ (i := 7) (N := some 36) (v := ?_) (a' := ?_) #[true, false, true, false, true, false, false, true, false, false, false, false, false, false, false] rfl rfl (by kernel_rfl) (fun _ _ _ h => h) (Or.inl ⟨by rfl, ?_⟩) ?_ ?_
  rotate_left
  · intro w'
    go_simp
    with_reducible rfl
  rotate_left
  · simp only [Act.put, List.setIfInBounds_toArray, List.set_cons_zero, List.set_cons_succ, i64_w, i32_w]
    rfl
  refine pure_ (i := 8) (N := some 37) (v := ?_) (a' := ?_) #[true, false, true, false, true, false, false, true, true, false, false, false, false, false, false] rfl rfl (by kernel_rfl) (fun _ _ _ h => h) (Or.inl ⟨by rfl, ?_⟩) ?_ ?_
  rotate_left
  · intro w'
    go_simp
    with_reducible rfl
  rotate_left
  · simp only [Act.put, List.setIfInBounds_toArray, List.set_cons_zero, List.set_cons_succ, i64_w, i32_w]
    rfl
  refine pure_ (i := 9) (N := some 38) (v := ?_) (a' := ?_) #[true, false, true, false, true, false, false, true, true, true, false, false, false, false, false] rfl rfl (by kernel_rfl) (fun _ _ _ h => h) (Or.inl ⟨by rfl, ?_⟩) ?_ ?_
  rotate_left
  · intro w'
    go_simp
    with_reducible rfl
  rotate_left
  · simp only [Act.put, List.setIfInBounds_toArray, List.set_cons_zero, List.set_cons_succ, i64_w, i32_w]
    rfl
  refine take_ (i := 1) (N := some 30) (v := ?_) (a' := ?_) #[true, true, true, false, true, false, false, true, true, true, false, false, false, false, false] rfl rfl (by kernel_rfl) (fun _ _ _ h => h) (Or.inl ⟨by rfl, ?_⟩) hHeld ?_ ?_
  rotate_left
  · rintro w' ⟨s0, s1, s2, s3, s4, s5, s6, s7, s8, s9, s10⟩
    go_simp
    with_reducible rfl
  rotate_left
  · simp only [Act.put, List.setIfInBounds_toArray, List.set_cons_zero, List.set_cons_succ, i64_w, i32_w]
    rfl
  refine take_ (i := 3) (N := some 32) (v := ?_) (a' := ?_) #[true, true, true, true, true, false, false, true, true, true, false, false, false, false, false] rfl rfl (by kernel_rfl) (fun _ _ _ h => h) (Or.inl ⟨by rfl, ?_⟩) hHeld ?_ ?_
  rotate_left
  · rintro w' ⟨s0, s1, s2, s3, s4, s5, s6, s7, s8, s9, s10⟩
    go_simp
    with_reducible rfl
  rotate_left
  · simp only [Act.put, List.setIfInBounds_toArray, List.set_cons_zero, List.set_cons_succ, i64_w, i32_w]
    rfl
  refine one_ (i := 5) (N := some 34) #[true, true, true, true, true, true, false, true, true, true, false, false, false, false, false] rfl rfl (by kernel_rfl) (by decide) (fun K hK => ?_)
  refine goes_ Try.func9 (by kernel_rfl) rfl #[.int .i64 a1, .int .i64 64] (by rfl) rfl rfl (by simp only [List.map_toArray, List.map_cons, List.map_nil]; rfl) ?_
  refine (twithin_c a1 64 sl HSL.out _).mono ?_
  rintro e_ w9 ⟨rfl, hb_⟩
  refine ⟨_, rfl, ?_⟩
  have n0_ := Aside0.mk (below_step HB.out hb_)
  have n1_ := Aside0.mk (HP.out.below hb_)
  have n2_ := Aside0.mk (HF.out.below hb_)
  clear HB HP HF
  have HB := n0_
  have HP := n1_
  have HF := n2_
  clear n0_ n1_ n2_
  clear hb_ hHeld
  refine hK.out _ _ ⟨(blk_cell HP.out 323).trans ((pcs_ring p HPL.out 0).trans rfl), (blk_cell HP.out 324).trans ((pcs_ring p HPL.out 1).trans rfl), (blk_cell HP.out 325).trans ((pcs_ring p HPL.out 2).trans rfl), (blk_cell HP.out 326).trans ((pcs_ring p HPL.out 3).trans rfl), (blk_cell HP.out 327).trans ((pcs_ring p HPL.out 4).trans rfl), (blk_cell HP.out 328).trans ((pcs_ring p HPL.out 5).trans rfl), (blk_cell HP.out 329).trans ((pcs_ring p HPL.out 6).trans rfl), (blk_cell HF.out 0).trans rfl, (blk_cell HF.out 1).trans rfl, (blk_cell HF.out 2).trans rfl, (blk_cell HF.out 3).trans rfl⟩ (fun hHeld => ?_)
  clear hK K
  refine norm_ (a' := ?_) ?_ ?_
  rotate_left
  · show Act.put _ (some 34) _ = _
    simp only [Act.put, List.setIfInBounds_toArray, List.set_cons_zero, List.set_cons_succ, i64_w, i32_w]
    rfl
  refine one_ (i := 6) (N := some 35) #[true, true, true, true, true, true, true, true, true, true, false, false, false, false, false] rfl rfl (by kernel_rfl) (by decide) (fun K hK => ?_)
  refine goes_ Try.func8 (by kernel_rfl) rfl #[.agg #[.int .i64 p.ep, .int .u64 p.k1, .int .u64 p.k2, .int .u64 p.k3, .int .u64 p.k4, .int .u64 p.k5, .int .u64 p.k6], .int .i64 2, .agg #[.int .i64 f0, .int .i64 f1, .int .i64 f2, .int .i64 f3], .int .i64 sl] (by rfl) rfl rfl (by simp only [List.map_toArray, List.map_cons, List.map_nil]; rfl) ?_
  refine (make_c p.ep p.k1 p.k2 p.k3 p.k4 p.k5 p.k6 2 f0 f1 f2 f3 sl (by decide) HSLR.out _).mono ?_
  rintro e_ w10 ⟨rfl, hb_⟩
  refine ⟨_, rfl, ?_⟩
  have n0_ := Aside0.mk (below_step HB.out hb_)
  have n1_ := Aside0.mk (HP.out.below hb_)
  have n2_ := Aside0.mk (HF.out.below hb_)
  clear HB HP HF
  have HB := n0_
  have HP := n1_
  have HF := n2_
  clear n0_ n1_ n2_
  clear hb_ hHeld
  refine hK.out _ _ ⟨(blk_cell HP.out 323).trans ((pcs_ring p HPL.out 0).trans rfl), (blk_cell HP.out 324).trans ((pcs_ring p HPL.out 1).trans rfl), (blk_cell HP.out 325).trans ((pcs_ring p HPL.out 2).trans rfl), (blk_cell HP.out 326).trans ((pcs_ring p HPL.out 3).trans rfl), (blk_cell HP.out 327).trans ((pcs_ring p HPL.out 4).trans rfl), (blk_cell HP.out 328).trans ((pcs_ring p HPL.out 5).trans rfl), (blk_cell HP.out 329).trans ((pcs_ring p HPL.out 6).trans rfl), (blk_cell HF.out 0).trans rfl, (blk_cell HF.out 1).trans rfl, (blk_cell HF.out 2).trans rfl, (blk_cell HF.out 3).trans rfl⟩ (fun hHeld => ?_)
  clear hK K
  refine norm_ (a' := ?_) ?_ ?_
  rotate_left
  · show Act.put _ (some 35) _ = _
    simp only [Act.put, List.setIfInBounds_toArray, List.set_cons_zero, List.set_cons_succ, i64_w, i32_w]
    rfl
  refine one_ (i := 10) (N := some 39) #[true, true, true, true, true, true, true, true, true, true, true, false, false, false, false] rfl rfl (by kernel_rfl) (by decide) (fun K hK => ?_)
  rw [hw8]
  refine goes_ Try.func9 (by kernel_rfl) rfl #[.int .i64 a3, .int .i64 16] (by rfl) rfl rfl (by simp only [List.map_toArray, List.map_cons, List.map_nil]; rfl) ?_
  refine (twithin_c a3 16 bt HBT.out _).mono ?_
  rintro e_ w11 ⟨rfl, hb_⟩
  refine ⟨_, rfl, ?_⟩
  have n0_ := Aside0.mk (below_step HB.out hb_)
  have n1_ := Aside0.mk (HP.out.below hb_)
  have n2_ := Aside0.mk (HF.out.below hb_)
  clear HB HP HF
  have HB := n0_
  have HP := n1_
  have HF := n2_
  clear n0_ n1_ n2_
  clear hb_ hHeld
  refine hK.out _ _ ⟨(blk_cell HP.out 323).trans ((pcs_ring p HPL.out 0).trans rfl), (blk_cell HP.out 324).trans ((pcs_ring p HPL.out 1).trans rfl), (blk_cell HP.out 325).trans ((pcs_ring p HPL.out 2).trans rfl), (blk_cell HP.out 326).trans ((pcs_ring p HPL.out 3).trans rfl), (blk_cell HP.out 327).trans ((pcs_ring p HPL.out 4).trans rfl), (blk_cell HP.out 328).trans ((pcs_ring p HPL.out 5).trans rfl), (blk_cell HP.out 329).trans ((pcs_ring p HPL.out 6).trans rfl), (blk_cell HF.out 0).trans rfl, (blk_cell HF.out 1).trans rfl, (blk_cell HF.out 2).trans rfl, (blk_cell HF.out 3).trans rfl⟩ (fun hHeld => ?_)
  clear hK K
  refine norm_ (a' := ?_) ?_ ?_
  rotate_left
  · show Act.put _ (some 39) _ = _
    simp only [Act.put, List.setIfInBounds_toArray, List.set_cons_zero, List.set_cons_succ, i64_w, i32_w]
    rfl
  refine pure_ (i := 11) (N := some 40) (v := ?_) (a' := ?_) #[true, true, true, true, true, true, true, true, true, true, true, true, false, false, false] rfl rfl (by kernel_rfl) (fun _ _ _ h => h) (Or.inl ⟨by rfl, ?_⟩) ?_ ?_
  rotate_left
  · intro w'
    go_simp
    with_reducible rfl
  rotate_left
  · simp only [Act.put, List.setIfInBounds_toArray, List.set_cons_zero, List.set_cons_succ, i64_w, i32_w]
    rfl
  refine pure_ (i := 12) (N := some 41) (v := ?_) (a' := ?_) #[true, true, true, true, true, true, true, true, true, true, true, true, true, false, false] rfl rfl (by kernel_rfl) (fun _ _ _ h => h) (Or.inl ⟨by rfl, ?_⟩) ?_ ?_
  rotate_left
  · intro w'
    go_simp
    with_reducible rfl
  rotate_left
  · simp only [Act.put, List.setIfInBounds_toArray, List.set_cons_zero, List.set_cons_succ, i64_w, i32_w]
    rfl
  refine pure_ (i := 13) (N := some 42) (v := ?_) (a' := ?_) #[true, true, true, true, true, true, true, true, true, true, true, true, true, true, false] rfl rfl (by kernel_rfl) (fun _ _ _ h => h) (Or.inl ⟨by rfl, ?_⟩) ?_ ?_
  rotate_left
  · intro w'
    go_simp
    with_reducible rfl
  rotate_left
  · simp only [Act.put, List.setIfInBounds_toArray, List.set_cons_zero, List.set_cons_succ, i64_w, i32_w]
    rfl
  refine pure_ (i := 14) (N := some 15) (v := ?_) (a' := ?_) #[true, true, true, true, true, true, true, true, true, true, true, true, true, true, true] rfl rfl (by kernel_rfl) (fun _ _ _ h => h) (Or.inl ⟨by rfl, ?_⟩) ?_ ?_
  rotate_left
  · intro w'
    go_simp
    with_reducible rfl
  rotate_left
  · simp only [Act.put, List.setIfInBounds_toArray, List.set_cons_zero, List.set_cons_succ, i64_w, i32_w]
    rfl
  refine done_ (by kernel_rfl) ?_
  clear hHeld
  clear hw8
  generalize (Go.bits .xor .i64 (cookN p.k3 p.k4 2 f0 f1 f2 f3 sl (p.ep % 4)) (wrap64 (2 ^ min (IntKind.u64.wrap bt).toNat 64))) = c
  have r0 : w11.cell? ⟨tp, 323, none⟩ = some (.int .i64 p.ep) := (blk_cell HP.out 323).trans ((pcs_ring p HPL.out 0).trans rfl)
  have r1 : w11.cell? ⟨tp, 324, none⟩ = some (.int .u64 p.k1) := (blk_cell HP.out 324).trans ((pcs_ring p HPL.out 1).trans rfl)
  have r2 : w11.cell? ⟨tp, 325, none⟩ = some (.int .u64 p.k2) := (blk_cell HP.out 325).trans ((pcs_ring p HPL.out 2).trans rfl)
  have r3 : w11.cell? ⟨tp, 326, none⟩ = some (.int .u64 p.k3) := (blk_cell HP.out 326).trans ((pcs_ring p HPL.out 3).trans rfl)
  have r4 : w11.cell? ⟨tp, 327, none⟩ = some (.int .u64 p.k4) := (blk_cell HP.out 327).trans ((pcs_ring p HPL.out 4).trans rfl)
  have r5 : w11.cell? ⟨tp, 328, none⟩ = some (.int .u64 p.k5) := (blk_cell HP.out 328).trans ((pcs_ring p HPL.out 5).trans rfl)
  have r6 : w11.cell? ⟨tp, 329, none⟩ = some (.int .u64 p.k6) := (blk_cell HP.out 329).trans ((pcs_ring p HPL.out 6).trans rfl)
  have g0 : w11.cell? ⟨tf, 0, none⟩ = some (.int .i64 f0) := (blk_cell HF.out 0).trans rfl
  have g1 : w11.cell? ⟨tf, 1, none⟩ = some (.int .i64 f1) := (blk_cell HF.out 1).trans rfl
  have g2 : w11.cell? ⟨tf, 2, none⟩ = some (.int .i64 f2) := (blk_cell HF.out 2).trans rfl
  have g3 : w11.cell? ⟨tf, 3, none⟩ = some (.int .i64 f3) := (blk_cell HF.out 3).trans rfl
  go_upto_region 10 with (first
    | (go_at_call 10; (with_reducible refine (read_c p.ep p.k1 p.k2 p.k3 p.k4 p.k5 p.k6 2 f0 f1 f2 f3 c HQ.out (by decide) _).mono ?_); rintro e_ w12 ⟨s1, b1, rfl, hrd, hb_⟩; clear r0 r1 r2 r3 r4 r5 r6 g0 g1 g2 g3; have n0_ := Aside0.mk (below_step HB.out hb_); have n1_ := Aside0.mk (HP.out.below hb_); have n2_ := Aside0.mk (HF.out.below hb_); clear HB HP HF; have HB := n0_; have HP := n1_; have HF := n2_; clear n0_ n1_ n2_; clear hb_; have r0 : w12.cell? ⟨tp, 323, none⟩ = some (.int .i64 p.ep) := (blk_cell HP.out 323).trans ((pcs_ring p HPL.out 0).trans rfl); have r1 : w12.cell? ⟨tp, 324, none⟩ = some (.int .u64 p.k1) := (blk_cell HP.out 324).trans ((pcs_ring p HPL.out 1).trans rfl); have r2 : w12.cell? ⟨tp, 325, none⟩ = some (.int .u64 p.k2) := (blk_cell HP.out 325).trans ((pcs_ring p HPL.out 2).trans rfl); have r3 : w12.cell? ⟨tp, 326, none⟩ = some (.int .u64 p.k3) := (blk_cell HP.out 326).trans ((pcs_ring p HPL.out 3).trans rfl); have r4 : w12.cell? ⟨tp, 327, none⟩ = some (.int .u64 p.k4) := (blk_cell HP.out 327).trans ((pcs_ring p HPL.out 4).trans rfl); have r5 : w12.cell? ⟨tp, 328, none⟩ = some (.int .u64 p.k5) := (blk_cell HP.out 328).trans ((pcs_ring p HPL.out 5).trans rfl); have r6 : w12.cell? ⟨tp, 329, none⟩ = some (.int .u64 p.k6) := (blk_cell HP.out 329).trans ((pcs_ring p HPL.out 6).trans rfl); have g0 : w12.cell? ⟨tf, 0, none⟩ = some (.int .i64 f0) := (blk_cell HF.out 0).trans rfl; have g1 : w12.cell? ⟨tf, 1, none⟩ = some (.int .i64 f1) := (blk_cell HF.out 1).trans rfl; have g2 : w12.cell? ⟨tf, 2, none⟩ = some (.int .i64 f2) := (blk_cell HF.out 2).trans rfl; have g3 : w12.cell? ⟨tf, 3, none⟩ = some (.int .i64 f3) := (blk_cell HF.out 3).trans rfl))
  cases b1 with
  | false =>
    obtain rfl := readN_false hrd
    clear hrd
    go_wp2
    go_ret
    exact ⟨rfl, HB.out⟩
  | true =>
    have HR := Aside0.mk hrd
    have HRR := Aside0.mk (readN_true hrd).2.1
    clear hrd
    have hs0 : decide (s1 ≥ 0) = true := decide_eq_true HRR.out.1
    have hs1 : decide (s1 < 64) = true := decide_eq_true HRR.out.2
    have p0 : (0 ≤ s1) = True := eq_true HRR.out.1
    have p1 : (s1 < 64) = True := eq_true HRR.out.2
    go_wp2_with (first
      | (go_at_call 11; (with_reducible refine (key_c p.ep p.k1 p.k2 p.k3 p.k4 p.k5 p.k6 2 f0 f1 f2 f3 (c / 16384) s1 c (p64_2 c) HQ.out HR.out _).mono ?_); rintro e_ w13 ⟨ka, kb, rfl, htag, hb_⟩; have HTAG := Aside0.mk htag; clear r0 r1 r2 r3 r4 r5 r6 g0 g1 g2 g3; have n0_ := Aside0.mk (below_step HB.out hb_); have n1_ := Aside0.mk (HP.out.below hb_); have n2_ := Aside0.mk (HF.out.below hb_); clear HB HP HF; have HB := n0_; have HP := n1_; have HF := n2_; clear n0_ n1_ n2_; clear hb_ htag)
      | ((with_reducible refine gate_dst (N := 18) rfl ?_); refine box_event rfl (N := 18) rfl (cs := #[.int .u64 0, .int .u64 0]) (t := 29) (run_key _ _ _ rfl) ?_; intro tk h_ w13' hbx_ hb_; have HK : Aside0 (Blk w13' tk 29 #[.int .u64 0, .int .u64 0]) := ⟨hbx_⟩; have HKE : Aside0 (tf < tk ∧ W.heap.size ≤ tk) := ⟨by have h1_ := HF.out.lt; have h2_ := HFE.out; omega⟩; have n0_ := Aside0.mk (below_step HB.out hb_); have n1_ := Aside0.mk (HP.out.below hb_); have n2_ := Aside0.mk (HF.out.below hb_); clear HB HP HF; have HB := n0_; have HP := n1_; have HF := n2_; clear n0_ n1_ n2_; clear h_ hbx_ hb_)
      | ((with_reducible refine gate_store (t := 29) (p := 18) rfl ?_); refine stm_event rfl rfl 29 (.tmp 18) (.tmp 65) rfl rfl rfl HK.out (Nat.le_refl _) (by kernel_rfl) (by simp [Value.oneCell']) ?_; intro w14 hb_ hg_; have m_ : Aside0 (Blk w14 tk 29 #[.int .u64 ka, .int .u64 kb]) := ⟨hb_⟩; have n0_ := Aside0.mk (HB.out.grown hg_ (below_size HB.out) (fun q hq => by injection hq with hq; have h1_ := HKE.out; omega)); have n1_ := Aside0.mk (HF.out.grown hg_ (by intro e; injection e with e; have h1_ := HKE.out; have h2_ := HFE.out; omega)); clear hb_ hg_; clear HK HB HF; have HK := m_; have HB := n0_; have HF := n1_; clear m_ n0_ n1_; have k0 : w14.cell? ⟨tk, 0, none⟩ = some (.int .u64 ka) := (blk_cell HK.out 0).trans rfl; have k1 : w14.cell? ⟨tk, 1, none⟩ = some (.int .u64 kb) := (blk_cell HK.out 1).trans rfl; have g0 : w14.cell? ⟨tf, 0, none⟩ = some (.int .i64 f0) := (blk_cell HF.out 0).trans rfl; have g1 : w14.cell? ⟨tf, 1, none⟩ = some (.int .i64 f1) := (blk_cell HF.out 1).trans rfl; have g2 : w14.cell? ⟨tf, 2, none⟩ = some (.int .i64 f2) := (blk_cell HF.out 2).trans rfl; have g3 : w14.cell? ⟨tf, 3, none⟩ = some (.int .i64 f3) := (blk_cell HF.out 3).trans rfl)
      | ((with_reducible refine gate_dst (N := 83) rfl ?_); refine Kd.R_lit (Kd.int .i64) _ 3 ?hg (N := 83) ?hd (xs := ([2, f0, f1, f2, f3, s1, c / 16384] : List Int)) (inner := [.int .i64 (2), .int .i64 (f0), .int .i64 (f1), .int .i64 (f2), .int .i64 (f3), .int .i64 (s1), .int .i64 (c / 16384)]) (ok := fun _ => True) (okp := fun _ => True) ?hr ?hp (fun _ hk => hk) trivial (Below.refl _ _) (Nat.le_refl _) (by simp) ?_; (case hd => rfl); (case hg => rfl); (case hr => first | (go_simp; done) | (go_simp; rfl)); (case hp => exact (Reps.one (show Kd.M (Kd.int .i64) _ _ _ (2) [.int .i64 (2)] from rfl) (Reps.one (show Kd.M (Kd.int .i64) _ _ _ (f0) [.int .i64 (f0)] from rfl) (Reps.one (show Kd.M (Kd.int .i64) _ _ _ (f1) [.int .i64 (f1)] from rfl) (Reps.one (show Kd.M (Kd.int .i64) _ _ _ (f2) [.int .i64 (f2)] from rfl) (Reps.one (show Kd.M (Kd.int .i64) _ _ _ (f3) [.int .i64 (f3)] from rfl) (Reps.one (show Kd.M (Kd.int .i64) _ _ _ (s1) [.int .i64 (s1)] from rfl) (Reps.one (show Kd.M (Kd.int .i64) _ _ _ (c / 16384) [.int .i64 (c / 16384)] from rfl) (Reps.none _ _))))))))); intro v_ w15 ho_ hb_ hg_ hnew_; clear hg_ hnew_ k0 k1 g0 g1 g2 g3; obtain ⟨Ao, co, rfl, hc_, hco_⟩ := lit7 ho_ rfl; have HLC := Aside0.mk hc_; have HCO := Aside0.mk hco_; have n0_ := Aside0.mk (below_step HB.out hb_); clear HB; have HB := n0_; clear n0_; clear hb_ ho_ hc_ hco_)
      | (go_at_call 12; (with_reducible refine (words_c 2 f0 f1 f2 f3 ka kb s1 (c / 16384) _ _ _ HLC.out HCO.out).mono ?_); rintro e_ w16 ⟨rfl, hb_⟩; have n0_ := Aside0.mk (below_step HB.out hb_); clear HB; have HB := n0_; clear n0_; clear hb_))
    have hf_ := fin_2 (sum_range ka kb 2 f0 f1 f2 f3 s1 (c / 16384)) HTAG.out
    rw [hf_]
    go_ret
    exact ⟨rfl, HB.out⟩
theorem topkeys_calls (Aw : Option Addr) (c0 : Nat) (l : List Int) (hl : l.length ≤ 4611686018427387904) (hi : ∀ x ∈ l, -9223372036854775808 ≤ x ∧ x ≤ 9223372036854775807) (a1 a2 a3 : Int) (st : Bool) (W : World) (hC : Kd.C (Kd.int .i64) W Aw l.length l) : Calls Try.prog 3 #[.slice Aw l.length c0, .int .i64 a1, .int .i64 a2, .int .i64 a3, .bool st] W fun e w' => e = .returned (.bool true) ∧ Below W.heap.size W w' := by
  cases st with
  | true => exact keys_true Aw c0 l hl hi a1 a2 a3 W hC
  | false => exact keys_false Aw c0 l hl hi a1 a2 a3 W hC
theorem TopKeys_walk (W : World) (Aw : Option Addr) (c0 : Nat) (l : List Int) (hl : l.length ≤ 4611686018427387904) (hi : ∀ x ∈ l, -9223372036854775808 ≤ x ∧ x ≤ 9223372036854775807) (hc : l.length ≤ c0) (hC : Kd.C (Kd.int .i64) W Aw l.length l) (a1 : Int) (h1 : -9223372036854775808 ≤ a1 ∧ a1 ≤ 9223372036854775807) (a2 : Int) (h2 : -9223372036854775808 ≤ a2 ∧ a2 ≤ 9223372036854775807) (a3 : Int) (h3 : -9223372036854775808 ≤ a3 ∧ a3 ≤ 9223372036854775807) (st : Bool) : Calls Try.prog 3 #[.slice Aw l.length c0, .int .i64 a1, .int .i64 a2, .int .i64 a3, .bool st] W fun e w' => e = .returned (.bool true) ∧ Below W.heap.size W w' := topkeys_calls Aw c0 l hl hi a1 a2 a3 st W hC
end Go.Proofs.Ytkpfojpmigchlaa.Own
