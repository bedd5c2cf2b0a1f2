/-
  The walk of roundhouselaw7.known.
-/
import Derived.Test.YtnffajpnffibaaaWheO
import Derived.Test.YtnffajpnffibaaaQ3
import Derived.Test.YtnffajpnffibaaaQ4
namespace Go.Proofs.Ytnffajpnffibaaa.Own
open Go Go.RowKit Go.Proofs.YtnffajpnffibaaaW.PrintWords Go.Proofs.YtnffajpnffibaaaW.PrintMore Go.Proofs.YtnffajpnffibaaaW.PrintLast Go.Proofs.Ytnffajpnffibaaa.Q
set_option linter.unusedVariables false
set_option linter.unusedSimpArgs false

def ek1 : EN := ⟨1, 3, 5, 6, 1, 0, 0⟩
def ek2 : EN := ⟨2, 3, 0, 0, 0, 0, 0⟩
def pk : PL := newP 1 2 0 0 0 0
def qk : PL := (allP pk [ek1, ek2] 0).1
set_option maxRecDepth 100000 in
theorem known_w : wheel_Make.f 1000 pk.sl = some (List.replicate 127 (-1)) := by kernel_rfl
set_option maxRecDepth 100000 in
theorem known_x : wheel_Make.f 1200 qk.sl = some (List.replicate 127 3) := by kernel_rfl
set_option maxRecDepth 100000 in
theorem known_all : allP pk [ek1, ek2] 0 = (qk, 2, 0) := by kernel_rfl
theorem pk_len : pk.sl.length = 64 := newP_len _ _ _ _ _ _
set_option maxRecDepth 100000 in
theorem qk_len : qk.sl.length = 64 := by kernel_rfl
set_option maxRecDepth 100000 in
theorem known_s1 : wheel_Share.f 200 (List.replicate 127 (-1)) (-1) = some 127 := by kernel_rfl
set_option maxRecDepth 100000 in
theorem known_s2 : wheel_Share.f 200 (List.replicate 127 3) 3 = some 127 := by kernel_rfl
set_option maxRecDepth 100000 in
theorem known_p : wheel_Pick.f 200 (List.replicate 127 3) 0 0 0 0 = some 3 := by kernel_rfl
theorem wf_k : ∀ e ∈ [ek1, ek2], WFE e := by
  intro e he
  simp only [List.mem_cons, List.not_mem_nil, or_false] at he
  rcases he with rfl | rfl
  · exact .inl ⟨rfl, by decide, by decide, by decide, rfl, rfl⟩
  · exact .inr (.inl ⟨rfl, rfl, rfl, rfl, rfl, rfl⟩)
theorem share_row {k : Nat} {l : List Int} {a r : Int} (h : wheel_Share.f k l a = some r) {A : Option Addr} {c : Nat} {w : World} (hC : Kd.C (Kd.int .i64) w A l.length l) (hc : l.length ≤ c) : Calls Try.prog 21 #[.slice A l.length c, .int .i64 a] w fun e w' => e = .returned (.int .i64 r) ∧ Below w.heap.size w w' := by
  refine (wheel_Share.calls k A c l a r w hC hc h).mono ?_
  rintro e w' ⟨rfl, n, rfl⟩
  exact ⟨rfl, pw_below_drewN (Below.refl _ _) n⟩
/-- A wheel that was made: a row of 127 numbers. -/
theorem wheel_row {p : PL} (hp : p.sl.length = 64) {k : Nat} {r : List Int} (hf : wheel_Make.f k p.sl = some r) (w0 : World) : Calls Try.prog 15 #[.agg (pcs p)] w0 fun e w' => ∃ (A : Option Addr) (c : Nat), e = .returned (.slice A r.length c) ∧ r.length ≤ c ∧ Kd.C (Kd.int .i64) w' A r.length r ∧ Below w0.heap.size w0 w' := by
  refine (wheel_Make.calls k (pcs p) p.sl r w0 (pcs_slots p hp) hf).mono ?_
  rintro e w' ⟨v, rfl, hR, hb⟩
  obtain ⟨A, c, rfl, hc, hC⟩ := Kd.R_reads hR
  exact ⟨A, c, rfl, hc, hC, hb⟩

section
variable {ops : Array Oper} {rest : List Oper} {o o2 : Oper} {a : Act} {Q : Exit → Act → World → Prop} {W : World}
/-- A pool's variable, made and stored into. -/
theorem pl_var {N : Tmp} (hd : o.dst = some N) (hgd : o.guard = none) (ho : o.op = .alloc 33) (hN2 : o2.dst = none) (hgd2 : o2.guard = none) (y : Operand) (ho2 : o2.op = .store 33 (.tmp N) y) {p : PL} (hp : p.sl.length = 64)
    (hx : ∀ g : Nat, (a.put o.dst (.pointer (some ⟨g, 0, none⟩))).eval (.tmp N) = .pointer (some ⟨g, 0, none⟩)) (hy : ∀ g : Nat, (a.put o.dst (.pointer (some ⟨g, 0, none⟩))).eval y = .agg (pcs p))
    (h : ∀ g w', W.heap.size ≤ g → Blk w' g 33 (pcs p) → Below W.heap.size W w' → wpList Try.prog ops Q rest (a.put o.dst (.pointer (some ⟨g, 0, none⟩))) w') : wpList Try.prog ops Q (o :: o2 :: rest) a W := by
  refine pl_alloc hd hgd ho (fun g hg w1 hb1 hB1 => ?_)
  refine pl_store hN2 hgd2 (.tmp N) y ho2 (hx g) (hy g) hb1 (pcs_size _ zeroP_len) hp (fun w' hb' hg' => ?_)
  exact h g w' (by omega) hb' (hB1.grown hg' hB1.size (fun k hk => by injection hk with hk; omega))
end

set_option maxHeartbeats 8000000 in
set_option maxRecDepth 100000 in
theorem known_calls (w0 : World) : Calls Try.prog 13 #[] w0 fun e w' => e = .returned (.bool true) ∧ Below w0.heap.size w0 w' := by
  have hu29 := Try.underlying29
  have hu49 := Try.underlying49
  have hu55 := Try.underlying55
  have hu22 := Try.underlying22
  have hu39 := Try.underlying39
  obtain ⟨p, hp⟩ : ∃ p, p = pk := ⟨_, rfl⟩
  obtain ⟨q, hq⟩ : ∃ q, q = qk := ⟨_, rfl⟩
  have HP : Aside0 (p.sl.length = 64) := ⟨by rw [hp]; exact pk_len⟩
  have HQ : Aside0 (q.sl.length = 64) := ⟨by rw [hq]; exact qk_len⟩
  have HNEW : Aside0 (∀ w, Calls Try.prog 28 #[.int .i64 1, .int .i64 2, .agg #[.int .u64 0, .int .u64 0], .agg #[.int .u64 0, .int .u64 0]] w fun e w' => e = .returned (.tuple #[.agg (pcs p), .int .i64 0]) ∧ Below w.heap.size w w') := ⟨fun w => by rw [hp]; exact new_calls 1 2 0 0 0 0 (by decide) (by decide) w⟩
  have HALL : Aside0 (∀ (b c : Nat) (w : World), Blk w b 49 (ens [ek1, ek2]) → Calls Try.prog 27 #[.agg (pcs p), .slice (some ⟨b, 0, none⟩) 2 c] w fun e w' => e = .returned (.tuple #[.agg (pcs q), .int .i64 2, .int .i64 0]) ∧ Below w.heap.size w w') := ⟨fun b c w hb => by
    have h := all_calls p HP.out b [ek1, ek2] c wf_k (by simp) w hb
    rw [hp, known_all, ← hp, ← hq] at h
    exact h⟩
  obtain ⟨x, hx⟩ : ∃ x : List Int, x = List.replicate 127 (-1) := ⟨_, rfl⟩
  obtain ⟨y, hy⟩ : ∃ y : List Int, y = List.replicate 127 3 := ⟨_, rfl⟩
  have HW1 : Aside0 (wheel_Make.f 1000 p.sl = some x) := ⟨by rw [hp, hx]; exact known_w⟩
  have HW2 : Aside0 (wheel_Make.f 1200 q.sl = some y) := ⟨by rw [hq, hy]; exact known_x⟩
  have HS1 : Aside0 (wheel_Share.f 200 x (-1) = some 127) := ⟨by rw [hx]; exact known_s1⟩
  have HS2 : Aside0 (wheel_Share.f 200 y 3 = some 127) := ⟨by rw [hy]; exact known_s2⟩
  have HPK : Aside0 (wheel_Pick.f 200 y 0 0 0 0 = some 3) := ⟨by rw [hy]; exact known_p⟩
  have HX0 : Aside0 (rd x 0 = -1) := ⟨by rw [hx]; rfl⟩
  have hxl : x.length = 127 := by rw [hx]; simp
  have hyl : y.length = 127 := by rw [hy]; simp
  have HXL := Aside0.mk hxl
  clear hp hq hx hy hxl hyl
  go_enter Try.func13, Try.ntmps13
  go_upto_region 3 with (first
    | (go_at_call 28; refine (HNEW.out _).mono ?_; rintro e_ w1 ⟨rfl, hb_⟩; have HB := Aside0.mk hb_; clear hb_)
    | ((with_reducible refine gate_dst (N := 1) rfl ?_); refine pl_var (N := 1) rfl rfl rfl rfl rfl (.tmp 12) rfl HP.out (fun _ => rfl) (fun _ => rfl) ?_; intro g w2 hge hb2 hB2; have HG := Aside0.mk hb2; have n_ := Aside0.mk (below_step HB.out hB2); clear HB hb2 hB2 hge; have HB := n_; clear n_)
    | ((with_reducible refine gate_dst (N := 14) rfl ?_); refine pl_load (N := 14) rfl rfl (.tmp 1) rfl rfl HG.out HP.out ?_)
    | (go_at_call 15; refine (wheel_row HP.out HW1.out _).mono ?_; rintro e_ w4 ⟨A1, c1, rfl, hc_, hC_, hb_⟩; have HC1 := Aside0.mk hC_; have HLC1 := Aside0.mk hc_; have n_ := Aside0.mk (below_step HB.out hb_); have m_ := Aside0.mk (HG.out.below hb_); clear HB HG hb_ hC_ hc_; have HB := n_; have HG := m_; clear n_ m_))
  go_upto_region 5 with (first
    | ((with_reducible refine gate_dst (N := 17) rfl ?_); refine pl_load (N := 17) rfl rfl (.tmp 1) rfl rfl HG.out HP.out ?_)
    | (go_at_call 27; refine (HALL.out _ _ _ (heap_alloc_new _ _)).mono ?_; rintro e_ w5 ⟨rfl, hb_⟩; have n_ := Aside0.mk (below_step (below_alloc HB.out _) hb_); have m_ := Aside0.mk (Kd.C_below (Kd.C_alloc HC1.out _) hb_); clear HB HC1 HG hb_; have HB := n_; have HC1 := m_; clear n_ m_)
    | ((with_reducible refine gate_dst (N := 4) rfl ?_); refine pl_var (N := 4) rfl rfl rfl rfl rfl (.tmp 22) rfl HQ.out (fun _ => rfl) (fun _ => rfl) ?_; intro g w2 hge hb2 hB2; have HG := Aside0.mk hb2; have n_ := Aside0.mk (below_step HB.out hB2); have m_ := Aside0.mk (Kd.C_below HC1.out hB2); clear HC1; have HC1 := m_; clear m_; clear HB hb2 hB2 hge; have HB := n_; clear n_)
    | ((with_reducible refine gate_dst (N := 25) rfl ?_); refine pl_load (N := 25) rfl rfl (.tmp 4) rfl rfl HG.out HQ.out ?_)
    | (go_at_call 15; refine (wheel_row HQ.out HW2.out _).mono ?_; rintro e_ w8 ⟨A2, c2, rfl, hc_, hC_, hb_⟩; have HC2 := Aside0.mk hC_; have HLC2 := Aside0.mk hc_; have n_ := Aside0.mk (below_step HB.out hb_); have m_ := Aside0.mk (Kd.C_below HC1.out hb_); clear HB HG HC1 hb_ hC_ hc_; have HB := n_; have HC1 := m_; clear n_ m_))
  have hl1 : ((x.length : Int) == 127) = true := by rw [HXL.out]; rfl
  have hl2 : ((0 : Int) < (x.length : Int)) = True := eq_true (by rw [HXL.out]; decide)
  have hl3 : (0 < x.length) = True := eq_true (by rw [HXL.out]; decide)
  obtain ⟨ad, hA, hx0⟩ := Kd.at_int HC1.out 0 (by decide) (by rw [HXL.out]; decide)
  rw [HX0.out] at hx0
  simp only [Int.toNat_zero, go_sem] at hx0
  cases hA
  go_wp2_with (first
    | (go_at_call 21; (first
        | with_reducible refine (share_row HS1.out HC1.out HLC1.out).mono ?_
        | with_reducible refine (share_row HS2.out HC2.out HLC2.out).mono ?_); rintro e_ w9 ⟨rfl, hb_⟩; have n_ := Aside0.mk (below_step HB.out hb_); have m_ := Aside0.mk (Kd.C_below HC1.out hb_); have k_ := Aside0.mk (Kd.C_below HC2.out hb_); clear HB HC1 HC2 hb_; have HB := n_; have HC1 := m_; have HC2 := k_; clear n_ m_ k_)
    | (go_at_call 18; with_reducible refine (wheel_Pick.calls 200 _ _ y 0 0 0 0 3 _ HC2.out HLC2.out HPK.out).mono ?_; rintro e_ wA ⟨rfl, hb_⟩; have n_ := Aside0.mk (below_step HB.out hb_); clear HB hb_; have HB := n_; clear n_))
  go_ret
  exact ⟨rfl, HB.out⟩
end Go.Proofs.Ytnffajpnffibaaa.Own
