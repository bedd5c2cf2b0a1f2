/-
  A wheel of two slots.
-/
import Derived.Test.YtnffajpnffibaaaWheXC
namespace Go.Proofs.Ytnffajpnffibaaa.Own
open Go Go.RowKit Go.Proofs.YtnffajpnffibaaaW.PrintWords Go.Proofs.YtnffajpnffibaaaW.PrintMore Go.Proofs.YtnffajpnffibaaaW.PrintLast Go.Proofs.Ytnffajpnffibaaa.Q
set_option linter.unusedVariables false
set_option linter.unusedSimpArgs false

/-! Two slots, of two weights -/
theorem bind_ok1 {q : PL} (s a b c : Int) (h0 : 0 ≤ s) (h1 : s ≤ 63) (hf : (rd_T25 q.sl s).f0 = 0) (hh : heldP q a b = false) : apE q ⟨1, s, a, b, c, 0, 0⟩ = ({ q with ver := wrap64 (q.ver + 1), sl := q.sl.set s.toNat ⟨1, a, b, c, 0⟩ }, 0) := by
  show applyP q 1 s a b c 0 0 = _
  have hb : badP q 1 s a b = false := by unfold badP; rw [if_pos rfl, hf, hh]; rfl
  unfold applyP
  rw [if_neg (by rw [outB_false _ _ _ ⟨h0, h1⟩]; decide), if_neg (by rw [hb]; decide), if_neg (fun h => absurd h.1 (by decide))]
  unfold nextPool nextSlot
  rw [if_neg (by decide), if_pos rfl]
theorem open_ok1 {q : PL} (s : Int) (h0 : 0 ≤ s) (h1 : s ≤ 63) (hf : (rd_T25 q.sl s).f0 = 1) : apE q ⟨2, s, 0, 0, 0, 0, 0⟩ = ({ q with ver := wrap64 (q.ver + 1), sl := q.sl.set s.toNat { (rd_T25 q.sl s) with f0 := 2 } }, 0) := by
  show applyP q 2 s 0 0 0 0 0 = _
  have hb : badP q 2 s 0 0 = false := by unfold badP; rw [if_neg (by decide), if_pos (by decide), hf]; rfl
  unfold applyP
  rw [if_neg (by rw [outB_false _ _ _ ⟨h0, h1⟩]; decide), if_neg (by rw [hb]; decide), if_neg (fun h => absurd h.1 (by decide))]
  unfold nextPool nextSlot
  rw [if_neg (by decide), if_neg (by decide), if_pos rfl]
def twoSl (x u y v : Int) : List S25 := ((List.replicate 64 z25).set 4 ⟨2, x, 1, u, 0⟩).set 9 ⟨2, y, 2, v, 0⟩
theorem twoSl_len (x u y v : Int) : (twoSl x u y v).length = 64 := by simp [twoSl]
theorem two_rd (x u y v : Int) (i : Int) (h0 : 0 ≤ i) (h1 : i < 64) : rd_T25 (twoSl x u y v) i = if i = 9 then ⟨2, y, 2, v, 0⟩ else if i = 4 then ⟨2, x, 1, u, 0⟩ else z25 := by
  unfold twoSl
  rw [show (9 : Nat) = (9 : Int).toNat from rfl, rd_set _ _ _ _ (by decide) (by simp) h0, show (4 : Nat) = (4 : Int).toNat from rfl, rd_set _ _ _ _ (by decide) (by simp) h0]
  congr 2
  unfold rd_T25
  rw [List.getD_eq_getElem?_getD, List.getElem?_replicate, if_pos (by omega)]
  rfl
theorem rep_rd (i : Int) (h0 : 0 ≤ i) (h1 : i < 64) : rd_T25 (List.replicate 64 z25) i = z25 := by
  unfold rd_T25
  rw [List.getD_eq_getElem?_getD, List.getElem?_replicate, if_pos (by omega)]
  rfl
theorem two_all (x u y v : Int) : ∃ q : PL, q.sl = twoSl x u y v ∧ allP (make6 [] 0) [⟨1, 4, x, 1, u, 0, 0⟩, ⟨2, 4, 0, 0, 0, 0, 0⟩, ⟨1, 9, y, 2, v, 0, 0⟩, ⟨2, 9, 0, 0, 0, 0, 0⟩] 0 = (q, 4, 0) := by
  obtain ⟨p, hp⟩ : ∃ p, p = make6 [] 0 := ⟨_, rfl⟩
  have hs : p.sl = List.replicate 64 z25 := by rw [hp]; rfl
  have hport : p.port = 80 := by rw [hp]; rfl
  rw [← hp]
  clear hp
  have a1 := bind_ok1 (q := p) 4 x 1 u (by decide) (by decide) (by rw [hs, rep_rd _ (by decide) (by decide)]; rfl) (by
    unfold heldP
    rw [any_none, hport]
    · simp
    · intro i hi
      rw [hs, rep_rd _ (by omega) (by rw [hs, List.length_replicate] at hi; omega)]
      rfl)
  obtain ⟨p1, hp1⟩ : ∃ p1 : PL, p1 = { p with ver := wrap64 (p.ver + 1), sl := p.sl.set (4 : Int).toNat ⟨1, x, 1, u, 0⟩ } := ⟨_, rfl⟩
  rw [← hp1] at a1
  have s1 : p1.sl = (List.replicate 64 z25).set (4 : Int).toNat ⟨1, x, 1, u, 0⟩ := by rw [hp1, ← hs]
  have q1 : p1.port = 80 := by rw [hp1]; exact hport
  clear hp1
  have r1 : rd_T25 p1.sl 4 = ⟨1, x, 1, u, 0⟩ := by rw [s1, rd_set _ _ _ _ (by decide) (by simp) (by decide), if_pos rfl]
  have a2 := open_ok1 (q := p1) 4 (by decide) (by decide) (by rw [r1])
  rw [r1] at a2
  obtain ⟨p2, hp2⟩ : ∃ p2 : PL, p2 = { p1 with ver := wrap64 (p1.ver + 1), sl := p1.sl.set (4 : Int).toNat { (⟨1, x, 1, u, 0⟩ : S25) with f0 := 2 } } := ⟨_, rfl⟩
  rw [← hp2] at a2
  have s2 : p2.sl = (List.replicate 64 z25).set (4 : Int).toNat ⟨2, x, 1, u, 0⟩ := by rw [hp2]; show p1.sl.set _ _ = _; rw [s1, List.set_set]
  have q2 : p2.port = 80 := by rw [hp2]; exact q1
  clear hp2
  have l2 : p2.sl.length = 64 := by rw [s2]; simp
  have r2 : ∀ i : Int, 0 ≤ i → i < 64 → rd_T25 p2.sl i = if i = 4 then ⟨2, x, 1, u, 0⟩ else z25 := by
    intro i h0 h1
    rw [s2, rd_set _ _ _ _ (by decide) (by simp) h0, rep_rd i h0 h1]
  have a3 := bind_ok1 (q := p2) 9 y 2 v (by decide) (by decide) (by rw [r2 _ (by decide) (by decide), if_neg (by decide)]; rfl) (by
    unfold heldP
    rw [any_none, q2]
    · simp
    · intro i hi
      rw [r2 _ (by omega) (by omega)]
      split
      · simp [slotIs]
      · rfl)
  obtain ⟨p3, hp3⟩ : ∃ p3 : PL, p3 = { p2 with ver := wrap64 (p2.ver + 1), sl := p2.sl.set (9 : Int).toNat ⟨1, y, 2, v, 0⟩ } := ⟨_, rfl⟩
  rw [← hp3] at a3
  have s3 : p3.sl = p2.sl.set (9 : Int).toNat ⟨1, y, 2, v, 0⟩ := by rw [hp3]
  clear hp3
  have r3 : rd_T25 p3.sl 9 = ⟨1, y, 2, v, 0⟩ := by rw [s3, rd_set _ _ _ _ (by decide) (by rw [l2]; decide) (by decide), if_pos rfl]
  have a4 := open_ok1 (q := p3) 9 (by decide) (by decide) (by rw [r3])
  rw [r3] at a4
  refine ⟨{ p3 with ver := wrap64 (p3.ver + 1), sl := p3.sl.set (9 : Int).toNat { (⟨1, y, 2, v, 0⟩ : S25) with f0 := 2 } }, ?_, ?_⟩
  · show p3.sl.set _ _ = _
    rw [s3, List.set_set, s2]
    rfl
  · unfold allP
    rw [a1, if_pos rfl]
    unfold allP
    rw [a2, if_pos rfl]
    unfold allP
    rw [a3, if_pos rfl]
    unfold allP
    rw [a4, if_pos rfl]
    unfold allP
    rw [show wrap64 (wrap64 (wrap64 (wrap64 (0 + 1) + 1) + 1) + 1) = 4 from by unfold wrap64; omega]
theorem two_acts (x u y v : Int) : acts (twoSl x u y v) = [4, 9] := by
  unfold acts
  have e : (List.range 64).filter (actS (twoSl x u y v)) = (List.range 64).filter (fun i => i == 4 || i == 9) := by
    refine List.filter_congr fun i hi => ?_
    rw [List.mem_range] at hi
    unfold actS
    rw [two_rd _ _ _ _ _ (by omega) (by omega)]
    by_cases h9 : i = 9
    · subst h9; rfl
    · by_cases h4 : i = 4
      · subst h4; rfl
      · rw [if_neg (by omega), if_neg (by omega)]
        simp [h9, h4, z25]
  rw [e]
  decide
theorem two_counts {p : PL} (h : PInv p) (x u y v : Int) (hs : p.sl = twoSl x u y v) (hu : 1 ≤ u ∧ u ≤ 8) (hv : 1 ≤ v ∧ v ≤ 8) :
    (wheelOf p.sl).count 4 + (wheelOf p.sl).count 9 = 127 ∧ 0 < (wheelOf p.sl).count 4 ∧ 0 < (wheelOf p.sl).count 9 ∧ ((wheelOf p.sl).count 4 : Int) * v ≤ (((wheelOf p.sl).count 9 : Int) + v) * u ∧ ((wheelOf p.sl).count 9 : Int) * u ≤ ((wheelOf p.sl).count 4 : Int) * v := by
  have ha : acts p.sl = [4, 9] := by rw [hs]; exact two_acts x u y v
  have hne : acts p.sl ≠ [] := by rw [ha]; simp
  have w4 : wtS p.sl 4 = u.toNat := by
    unfold wtS
    rw [hs, two_rd _ _ _ _ _ (by decide) (by decide), if_neg (by decide), if_pos (by decide)]
  have w9 : wtS p.sl 9 = v.toNat := by
    unfold wtS
    rw [hs, two_rd _ _ _ _ _ (by decide) (by decide), if_pos (by decide)]
  have hE : roundE p.sl = List.replicate u.toNat 4 ++ List.replicate v.toNat 9 := by
    unfold roundE turnsOf
    rw [ha]
    simp [w4, w9]
  obtain ⟨U, hU⟩ := Int.eq_ofNat_of_zero_le (show 0 ≤ u by omega)
  obtain ⟨V, hV⟩ := Int.eq_ofNat_of_zero_le (show 0 ≤ v by omega)
  subst hU hV
  rw [Int.toNat_natCast, Int.toNat_natCast] at hE
  have c4 := wheel_count h hne 4
  have c9 := wheel_count h hne 9
  rw [hE] at c4 c9
  simp only [List.length_append, List.length_replicate, List.count_append, List.count_replicate, List.take_append, List.take_replicate] at c4 c9
  simp only [beq_self_eq_true, if_true] at c4 c9
  rw [show ((9 : Nat) == 4) = false from rfl] at c4
  rw [show ((4 : Nat) == 9) = false from rfl] at c9
  simp only [Bool.false_eq_true, if_false, Nat.add_zero, Nat.zero_add] at c4 c9
  have hd := Nat.div_add_mod 127 (U + V)
  have hr := Nat.mod_lt 127 (show 0 < U + V by omega)
  have hF : 0 < 127 / (U + V) := Nat.div_pos (by omega) (by omega)
  obtain ⟨F, hFe⟩ : ∃ F, F = 127 / (U + V) := ⟨_, rfl⟩
  obtain ⟨r, hre⟩ : ∃ r, r = 127 % (U + V) := ⟨_, rfl⟩
  rw [← hFe] at c4 c9 hd hF
  rw [← hre] at c4 c9 hd hr
  have g4 : (wheelOf p.sl).count (4 : Int) = F * U + min r U := by
    have e : (((4 : Nat) : Int)) = 4 := rfl
    rw [← e, c4]
  have g9 : (wheelOf p.sl).count (9 : Int) = F * V + min (r - U) V := by
    have e : (((9 : Nat) : Int)) = 9 := rfl
    rw [← e, c9]
  rw [g4, g9]
  have hFU : 1 * U ≤ F * U := Nat.mul_le_mul_right _ hF
  have hFV : 1 * V ≤ F * V := Nat.mul_le_mul_right _ hF
  have hd2 : F * U + F * V + r = 127 := by rw [← Nat.mul_add, Nat.mul_comm]; exact hd
  refine ⟨by omega, by omega, by omega, ?_, ?_⟩
  · have h1 : (F * U + min r U) * V ≤ (F * V + min (r - U) V + V) * U := by
      rcases Nat.le_total r U with h2 | h2
      · rw [Nat.min_eq_left h2, show r - U = 0 by omega, Nat.zero_min, Nat.add_mul, Nat.add_mul, Nat.add_mul, Nat.mul_right_comm, Nat.zero_mul]
        have := Nat.mul_le_mul_right V h2
        rw [Nat.mul_comm V U]
        omega
      · rw [Nat.min_eq_right h2, Nat.add_mul, Nat.add_mul, Nat.add_mul, Nat.mul_right_comm]
        have := Nat.mul_comm V U
        omega
    exact_mod_cast h1
  · have h1 : (F * V + min (r - U) V) * U ≤ (F * U + min r U) * V := by
      rcases Nat.le_total r U with h2 | h2
      · rw [show r - U = 0 by omega, Nat.zero_min, Nat.add_zero, Nat.add_mul, Nat.mul_right_comm]
        omega
      · rw [Nat.min_eq_right h2, Nat.add_mul, Nat.add_mul, Nat.mul_right_comm]
        have h3 : min (r - U) V * U ≤ V * U := Nat.mul_le_mul_right _ (Nat.min_le_right _ _)
        have := Nat.mul_comm V U
        omega
    exact_mod_cast h1
end Go.Proofs.Ytnffajpnffibaaa.Own
