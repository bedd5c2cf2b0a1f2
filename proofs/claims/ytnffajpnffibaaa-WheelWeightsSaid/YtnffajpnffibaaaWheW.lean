/-
  What the functions that a law of the wheel calls come to, in plain words.
-/
import Derived.Test.YtnffajpnffibaaaWheP
import Derived.Test.YtnffajpnffibaaaWheU
import Derived.Test.YtnffajpnffibaaaWheV
import Derived.Test.YtnffajpnffibaaaQ8
namespace Go.Proofs.Ytnffajpnffibaaa.Own
open Go Go.RowKit Go.Proofs.YtnffajpnffibaaaW.PrintWords Go.Proofs.YtnffajpnffibaaaW.PrintMore Go.Proofs.YtnffajpnffibaaaW.PrintLast Go.Proofs.Ytnffajpnffibaaa.Q
set_option linter.unusedVariables false
set_option linter.unusedSimpArgs false

theorem rd_place (l : List Int) (i : Nat) (hi : i < l.length) : rd l (i : Int) = l[i] := by
  unfold rd
  rw [Int.toNat_natCast, List.getD_eq_getElem?_getD, List.getElem?_eq_getElem hi]
  rfl
theorem drop_count (l : List Int) (a : Int) (i : Nat) (hi : i < l.length) : (l.drop i).count a = (if l[i] = a then 1 else 0) + (l.drop (i + 1)).count a := by
  rw [List.drop_eq_getElem_cons hi, List.count_cons]
  by_cases h : l[i] = a <;> simp [h, Nat.add_comm]
theorem share_reach (l : List Int) (a : Int) (hl : l.length < 4611686018427387904) : ∀ (d i n : Nat), i + d = l.length → n ≤ i → Reach (fun f => wheel_Share.l0 f a (n : Int) l (l.length : Int) (i : Int)) ((n + (l.drop i).count a : Nat) : Int) := by
  intro d
  induction d with
  | zero =>
    intro i n hi _
    obtain rfl : i = l.length := by omega
    refine Reach.now fun f => ?_
    simp only [wheel_Share.l0]
    rw [if_neg (by omega), List.drop_length, List.count_nil]
    rfl
  | succ d ih =>
    intro i n hi hn
    have hlt : i < l.length := by omega
    have e1 : wrap64 ((i : Int) + 1) = ((i + 1 : Nat) : Int) := by rw [w64 _ (by omega) (by omega)]; omega
    have e2 : wrap64 ((n : Int) + 1) = ((n + 1 : Nat) : Int) := by rw [w64 _ (by omega) (by omega)]; omega
    rw [drop_count l a i hlt]
    by_cases h : l[i] = a
    · have h1 := ih (i + 1) (n + 1) (by omega) (by omega)
      rw [if_pos h, show n + (1 + (l.drop (i + 1)).count a) = n + 1 + (l.drop (i + 1)).count a from by omega]
      refine Reach.step 0 (fun f _ => ?_) h1
      simp only [wheel_Share.l0]
      rw [if_pos (by omega), if_pos (by omega), if_pos (by omega), rd_place l i hlt, if_pos h, e1, e2]
    · have h1 := ih (i + 1) n (by omega) (by omega)
      rw [if_neg h, Nat.zero_add]
      refine Reach.step 0 (fun f _ => ?_) h1
      simp only [wheel_Share.l0]
      rw [if_pos (by omega), if_pos (by omega), if_pos (by omega), rd_place l i hlt, if_neg h, e1]
theorem rshare_reach (l : List Int) (a : Int) (hl : l.length < 4611686018427387904) : ∀ (d i n : Nat), i + d = l.length → n ≤ i → Reach (fun f => roundhouseref7_Share.l0 f l a (n : Int) (i : Int)) ((n + (l.drop i).count a : Nat) : Int) := by
  intro d
  induction d with
  | zero =>
    intro i n hi _
    obtain rfl : i = l.length := by omega
    refine Reach.now fun f => ?_
    simp only [roundhouseref7_Share.l0]
    rw [if_neg (by omega), List.drop_length, List.count_nil]
    rfl
  | succ d ih =>
    intro i n hi hn
    have hlt : i < l.length := by omega
    have e1 : wrap64 ((i : Int) + 1) = ((i + 1 : Nat) : Int) := by rw [w64 _ (by omega) (by omega)]; omega
    have e2 : wrap64 ((n : Int) + 1) = ((n + 1 : Nat) : Int) := by rw [w64 _ (by omega) (by omega)]; omega
    rw [drop_count l a i hlt]
    by_cases h : l[i] = a
    · have h1 := ih (i + 1) (n + 1) (by omega) (by omega)
      rw [if_pos h, show n + (1 + (l.drop (i + 1)).count a) = n + 1 + (l.drop (i + 1)).count a from by omega]
      refine Reach.step 0 (fun f _ => ?_) h1
      simp only [roundhouseref7_Share.l0]
      rw [if_pos (by omega), if_pos (by omega), rd_place l i hlt, if_pos h, e1, e2]
    · have h1 := ih (i + 1) n (by omega) (by omega)
      rw [if_neg h, Nat.zero_add]
      refine Reach.step 0 (fun f _ => ?_) h1
      simp only [roundhouseref7_Share.l0]
      rw [if_pos (by omega), if_pos (by omega), rd_place l i hlt, if_neg h, e1]
theorem same_reach (l m : List Int) (hl : l.length < 4611686018427387904) (he : l.length = m.length) : ∀ (d i : Nat), i + d = l.length → Reach (fun f => roundhouseref7_Same.l0 f l m (i : Int)) (decide (l.drop i = m.drop i)) := by
  intro d
  induction d with
  | zero =>
    intro i hi
    obtain rfl : i = l.length := by omega
    refine Reach.now fun f => ?_
    simp only [roundhouseref7_Same.l0]
    rw [if_neg (by omega), List.drop_length, he, List.drop_length]
    rfl
  | succ d ih =>
    intro i hi
    have hlt : i < l.length := by omega
    have hlt2 : i < m.length := by omega
    have e1 : wrap64 ((i : Int) + 1) = ((i + 1 : Nat) : Int) := by rw [w64 _ (by omega) (by omega)]; omega
    rw [List.drop_eq_getElem_cons hlt, List.drop_eq_getElem_cons hlt2]
    by_cases h : l[i] = m[i]
    · refine Reach.step 0 (fun f _ => ?_) (show Reach _ (decide (l[i] :: l.drop (i + 1) = m[i] :: m.drop (i + 1))) from by
        have h1 := ih (i + 1) (by omega)
        rw [h]
        simp only [List.cons.injEq, true_and]
        exact h1)
      simp only [roundhouseref7_Same.l0]
      rw [if_pos (by omega), if_pos (by omega), if_pos (by omega), rd_place l i hlt, rd_place m i hlt2, if_pos h, e1]
    · rw [show decide (l[i] :: l.drop (i + 1) = m[i] :: m.drop (i + 1)) = false from decide_eq_false (fun e => h (List.cons.inj e).1)]
      refine Reach.now fun f => ?_
      simp only [roundhouseref7_Same.l0]
      rw [if_pos (by omega), if_pos (by omega), if_pos (by omega), rd_place l i hlt, rd_place m i hlt2, if_neg h]

/-! Calls -/
section
variable {A B : Option Addr} {c c' : Nat} {w : World}
theorem drawn_below {w w' : World} (h : Drawn0 w w') : Below w.heap.size w w' := by
  obtain ⟨n, rfl⟩ := h
  exact pw_below_drewN (Below.refl _ _) n
theorem share_say (l : List Int) (a : Int) (hl : l.length < 4611686018427387904) (hC : Kd.C (Kd.int .i64) w A l.length l) (hc : l.length ≤ c) : Calls Try.prog 21 #[.slice A l.length c, .int .i64 a] w fun e w' => e = .returned (.int .i64 (l.count a : Nat)) ∧ Below w.heap.size w w' := by
  obtain ⟨K, hK⟩ := share_reach l a hl l.length 0 0 (by omega) (by omega)
  refine (wheel_Share.calls K A c l a _ w hC hc (hK K (Nat.le_refl _))).mono ?_
  rintro e w' ⟨rfl, hd⟩
  exact ⟨by simp, drawn_below hd⟩
theorem rshare_say (l : List Int) (a : Int) (hl : l.length < 4611686018427387904) (hC : Kd.C (Kd.int .i64) w A l.length l) (hc : l.length ≤ c) : Calls Try.prog 23 #[.slice A l.length c, .int .i64 a] w fun e w' => e = .returned (.int .i64 (l.count a : Nat)) ∧ Below w.heap.size w w' := by
  obtain ⟨K, hK⟩ := rshare_reach l a hl l.length 0 0 (by omega) (by omega)
  refine (roundhouseref7_Share.calls K A c l a _ w hC hc (hK K (Nat.le_refl _))).mono ?_
  rintro e w' ⟨rfl, hd⟩
  exact ⟨by simp, drawn_below hd⟩
theorem same_say (l m : List Int) (hl : l.length < 4611686018427387904) (hC : Kd.C (Kd.int .i64) w A l.length l) (hc : l.length ≤ c) (hC' : Kd.C (Kd.int .i64) w B m.length m) (hc' : m.length ≤ c') : Calls Try.prog 17 #[.slice A l.length c, .slice B m.length c'] w fun e w' => e = .returned (.bool (decide (l = m))) ∧ Below w.heap.size w w' := by
  have h : ∃ k, roundhouseref7_Same.f k l m = some (decide (l = m)) := by
    by_cases he : l.length = m.length
    · obtain ⟨K, hK⟩ := same_reach l m hl he l.length 0 (by omega)
      refine ⟨K, ?_⟩
      unfold roundhouseref7_Same.f
      rw [if_pos (by omega)]
      exact hK K (Nat.le_refl _)
    · refine ⟨0, ?_⟩
      unfold roundhouseref7_Same.f
      rw [if_neg (by omega), decide_eq_false (fun e => he (by rw [e]))]
  obtain ⟨k, hk⟩ := h
  refine (roundhouseref7_Same.calls k A c l B c' m _ w hC hc hC' hc' hk).mono ?_
  rintro e w' ⟨rfl, hd⟩
  exact ⟨rfl, drawn_below hd⟩
/-- Where a flow's place is. -/
def plcF (a b c d : Int) : Int := sipWords 0 0 [3, a, b, c, d] % 127
theorem plcF_range (a b c d : Int) : 0 ≤ plcF a b c d ∧ plcF a b c d < 127 := by
  unfold plcF
  have := (words_range 0 0 [3, a, b, c, d]).1
  omega
theorem pick_say (l : List Int) (a b d e : Int) (hl : l.length = 127) (hC : Kd.C (Kd.int .i64) w A l.length l) (hc : l.length ≤ c) : Calls Try.prog 18 #[.slice A l.length c, .agg #[.int .i64 a, .int .i64 b, .int .i64 d, .int .i64 e]] w fun r w' => r = .returned (.int .i64 (rd l (plcF a b d e))) ∧ Below w.heap.size w w' := by
  refine wheel_Pick.calls 1 A c l a b d e _ w hC hc ?_
  have hr := plcF_range a b d e
  unfold wheel_Pick.f
  rw [spun_val 1 127 _ (by decide) (by decide) (by decide) (by simp), Option.bind_some]
  rw [show sipWords 0 0 [3, a, b, d, e] % 127 = plcF a b d e from rfl, if_neg (by omega), if_pos hr.1, if_pos (by omega)]
theorem rpick_say (l : List Int) (a b d e : Int) (hl : l.length = 127) (hC : Kd.C (Kd.int .i64) w A l.length l) (hc : l.length ≤ c) : Calls Try.prog 20 #[.slice A l.length c, .agg #[.int .i64 a, .int .i64 b, .int .i64 d, .int .i64 e]] w fun r w' => r = .returned (.int .i64 (rd l (plcF a b d e))) ∧ Below w.heap.size w w' := by
  refine roundhouseref7_Pick.calls 1 A c l a b d e _ w hC hc ?_
  have hr := plcF_range a b d e
  have hw := (words_range 0 0 [3, a, b, d, e]).1
  unfold roundhouseref7_Pick.f
  have e1 : roundhouseref2_Words.f 1 0 0 [3, a, b, d, e] = some (sipWords 0 0 [3, a, b, d, e]) := by
    show (if ([3, a, b, d, e] : List Int).length ≤ 1048576 then some (sipWords 0 0 [3, a, b, d, e]) else none) = _
    rw [if_pos (by simp)]
  rw [e1, Option.bind_some, Int.tmod_eq_emod_of_nonneg hw, show sipWords 0 0 [3, a, b, d, e] % 127 = plcF a b d e from rfl, if_pos hr.1, if_pos (by omega)]
theorem within_val (a m : Int) (hm : 0 < m) (hm2 : m < 4611686018427387904) : (if m = 0 then (none) else (if (Int.tmod a m) < 0 then (some (wrap64 ((Int.tmod a m) + m))) else (some (Int.tmod a m)))) = some (a % m) := by
  rw [if_neg (by omega)]
  have h1 := Int.emod_nonneg a (show m ≠ 0 by omega)
  have h2 := Int.emod_lt_of_pos a hm
  rcases Int.le_total 0 a with h | h
  · rw [Int.tmod_eq_emod_of_nonneg h, if_neg (by omega)]
  · have h3 : Int.tmod a m = if a % m = 0 then 0 else a % m - m := by
      rw [Int.tmod_eq_emod]
      by_cases h4 : m ∣ a
      · have h5 : a % m = 0 := Int.emod_eq_zero_of_dvd h4
        simp [h4, h5]
      · have h5 : a % m ≠ 0 := fun e => h4 (Int.dvd_of_emod_eq_zero e)
        have h6 : ¬ 0 ≤ a := fun e => h5 (by have : a = 0 := by omega
                                             rw [this]; simp)
        simp [h4, h5, h6]
        omega
    rw [h3]
    split
    · rename_i h5; rw [if_neg (by omega), h5]
    · rw [if_pos (by omega), w64 _ (by omega) (by omega)]
      congr 1
      omega
theorem within_say (a m : Int) (hm : 0 < m) (hm2 : m < 4611686018427387904) : Calls Try.prog 22 #[.int .i64 a, .int .i64 m] w fun r w' => r = .returned (.int .i64 (a % m)) ∧ Below w.heap.size w w' := by
  refine (roundhouselaw7_within.calls a m _ w (within_val a m hm hm2)).mono ?_
  rintro e w' ⟨rfl, hd⟩
  exact ⟨rfl, drawn_below hd⟩
theorem flow_ex (f g : Int) : ∃ a b c d, roundhouselaw5_Flow.f f g = some (a, b, c, d) := by
  unfold roundhouselaw5_Flow.f roundhouselaw5_within.f
  refine ⟨f % 4294967296, wrap64 (Int.tdiv f 7) % 65536, g % 4294967296, wrap64 (Int.tdiv g 7) % 65536, ?_⟩
  rw [within_val _ _ (by decide) (by decide), Option.bind_some, within_val _ _ (by decide) (by decide), Option.bind_some, within_val _ _ (by decide) (by decide), Option.bind_some, within_val _ _ (by decide) (by decide), Option.bind_some]
theorem wheel_len {p : PL} (h : PInv p) : (wheelOf p.sl).length = 127 := by
  unfold wheelOf
  split
  · simp
  · rename_i ha
    have h0 : 0 < (acts p.sl).length := List.length_pos_iff.2 ha
    have hE := (roundE_get p.sl 0 h0 0 (acts_wt p.sl h.good 0 h0).1).1
    exact (winv p.sl (by omega) 127 (Nat.le_refl _)).len
theorem wheel_say {p : PL} (h : PInv p) : Calls Try.prog 15 #[.agg (pcs p)] w fun e w' => ∃ (A : Option Addr) (c : Nat), e = .returned (.slice A (wheelOf p.sl).length c) ∧ (wheelOf p.sl).length ≤ c ∧ Kd.C (Kd.int .i64) w' A (wheelOf p.sl).length (wheelOf p.sl) ∧ Below w.heap.size w w' := by
  obtain ⟨k, hk⟩ := wheel_ok p.sl h.good
  exact wheel_row h.len hk w
theorem ref_say {p : PL} (h : PInv p) : Calls Try.prog 16 #[.agg (pcs p)] w fun e w' => ∃ (A : Option Addr) (c : Nat), e = .returned (.slice A (wheelOf p.sl).length c) ∧ (wheelOf p.sl).length ≤ c ∧ Kd.C (Kd.int .i64) w' A (wheelOf p.sl).length (wheelOf p.sl) ∧ Below w.heap.size w w' := by
  obtain ⟨k, hk⟩ := ref_ok p.sl h.good
  refine (roundhouseref7_Make.calls k (pcs p) p.sl _ w (pcs_slots p h.len) hk).mono ?_
  rintro e w' ⟨v, rfl, hR, hb⟩
  obtain ⟨A, c, rfl, hc, hC⟩ := Kd.R_reads hR
  exact ⟨A, c, rfl, hc, hC, hb⟩
end
end Go.Proofs.Ytnffajpnffibaaa.Own
