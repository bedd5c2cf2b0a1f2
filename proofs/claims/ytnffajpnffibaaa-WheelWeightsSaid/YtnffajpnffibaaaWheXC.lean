/-
  How many places of a wheel are a slot's.
-/
import Derived.Test.YtnffajpnffibaaaWheX
namespace Go.Proofs.Ytnffajpnffibaaa.Own
open Go Go.RowKit Go.Proofs.YtnffajpnffibaaaW.PrintWords Go.Proofs.YtnffajpnffibaaaW.PrintMore Go.Proofs.YtnffajpnffibaaaW.PrintLast Go.Proofs.Ytnffajpnffibaaa.Q
set_option linter.unusedVariables false
set_option linter.unusedSimpArgs false

/-! How many places -/
theorem turns_count (sl : List S25) (i : Nat) : ∀ l : List Nat, l.Nodup → (turnsOf sl l).count i = if i ∈ l then wtS sl i else 0
  | [], _ => by simp [turnsOf]
  | a :: l, h => by
    rw [List.nodup_cons] at h
    rw [turnsOf_cons, List.count_append, List.count_replicate, turns_count sl i l h.2]
    by_cases e : a = i
    · subst e
      simp [h.1]
    · have e2 : ¬ i = a := fun x => e x.symm
      simp [e, e2]
def cyc (E : List Nat) (t i : Nat) : Nat := ((List.range t).map fun s => E.getD (s % E.length) 0).count i
theorem cyc_succ (E : List Nat) (t i : Nat) : cyc E (t + 1) i = cyc E t i + (if E.getD (t % E.length) 0 = i then 1 else 0) := by
  unfold cyc
  rw [List.range_succ, List.map_append, List.count_append]
  congr 1
  simp only [List.map_cons, List.map_nil, List.count_singleton]
  by_cases h : E.getD (t % E.length) 0 = i <;> simp [h]
theorem take_count (E : List Nat) (r i : Nat) (h : r < E.length) : (E.take (r + 1)).count i = (E.take r).count i + (if E.getD r 0 = i then 1 else 0) := by
  rw [List.take_add_one, List.getElem?_eq_getElem h, List.count_append, List.getD_eq_getElem?_getD, List.getElem?_eq_getElem h]
  congr 1
  simp only [Option.toList_some, List.count_singleton, Option.getD_some]
  by_cases h : E[r] = i <;> simp [h]
theorem cyc_full (E : List Nat) (hE : 0 < E.length) (i : Nat) : ∀ t, cyc E t i = t / E.length * E.count i + (E.take (t % E.length)).count i
  | 0 => by simp [cyc]
  | t + 1 => by
    rw [cyc_succ, cyc_full E hE i t]
    have hr := Nat.mod_lt t hE
    have hd := Nat.div_add_mod t E.length
    rw [Nat.add_assoc, ← take_count E _ i hr]
    by_cases h : t % E.length + 1 < E.length
    · have h1 : (t + 1) / E.length = t / E.length := by
        refine Nat.div_eq_of_lt_le ?_ ?_
        · rw [Nat.mul_comm]; omega
        · rw [Nat.add_mul, Nat.mul_comm]; omega
      have h2 : (t + 1) % E.length = t % E.length + 1 := by
        have h3 := Nat.div_add_mod (t + 1) E.length
        rw [h1] at h3
        omega
      rw [h1, h2]
    · have h0 : t % E.length + 1 = E.length := by omega
      have h1 : (t + 1) / E.length = t / E.length + 1 := by
        refine Nat.div_eq_of_lt_le ?_ ?_
        · rw [Nat.add_mul, Nat.mul_comm]; omega
        · rw [Nat.add_mul, Nat.add_mul, Nat.mul_comm]; omega
      have h2 : (t + 1) % E.length = 0 := by
        have h3 := Nat.div_add_mod (t + 1) E.length
        rw [h1, Nat.mul_add] at h3
        omega
      rw [h1, h2, h0, List.take_length, Nat.add_mul]
      simp
theorem wheel_count {p : PL} (h : PInv p) (ha : acts p.sl ≠ []) (i : Nat) : (wheelOf p.sl).count (i : Int) = 127 / (roundE p.sl).length * (roundE p.sl).count i + ((roundE p.sl).take (127 % (roundE p.sl).length)).count i := by
  have hE := roundE_pos h ha
  have e : wheelOf p.sl = (st p.sl 127).w := by unfold wheelOf; rw [if_neg ha]
  rw [e, (winv p.sl hE 127 (Nat.le_refl _)).cnt i]
  exact cyc_full _ hE i 127
/-- All active slots' weights, of the first so many slots. -/
def sumW (sl : List S25) : Nat → Nat
  | 0 => 0
  | m + 1 => sumW sl m + (if actS sl m = true then wtS sl m else 0)
theorem sumW_len (sl : List S25) : ∀ m, sumW sl m = (turnsOf sl ((List.range m).filter (actS sl))).length
  | 0 => by simp [sumW, turnsOf]
  | m + 1 => by
    rw [List.range_succ, List.filter_append, turnsOf_append, List.length_append, sumW, sumW_len sl m]
    congr 1
    by_cases h : actS sl m = true
    · rw [if_pos h, List.filter_cons, if_pos h, List.filter_nil]
      simp [turnsOf]
    · rw [if_neg h, List.filter_cons, if_neg h, List.filter_nil]
      simp [turnsOf]
theorem sumW_all (sl : List S25) : sumW sl 64 = (roundE sl).length := sumW_len sl 64
theorem sumW_le {p : PL} (h : PInv p) : ∀ m, m ≤ 64 → sumW p.sl m ≤ 8 * m
  | 0, _ => by simp [sumW]
  | m + 1, hm => by
    have h1 := sumW_le h m (by omega)
    rw [sumW]
    split
    · rename_i ha
      have h2 := h.good.wt m (by omega) ha
      unfold wtS
      omega
    · omega
theorem share_bounds {p : PL} (h : PInv p) (i : Nat) (hi : i < 64) (ha : (rd_T25 p.sl (i : Int)).f0 = 2) : 0 < sumW p.sl 64 ∧ 127 / sumW p.sl 64 * wtS p.sl i ≤ (wheelOf p.sl).count (i : Int) ∧ (wheelOf p.sl).count (i : Int) ≤ (127 / sumW p.sl 64 + 1) * wtS p.sl i := by
  have hm : i ∈ acts p.sl := (mem_acts _ _).2 ⟨hi, ha⟩
  have hne : acts p.sl ≠ [] := fun e => by rw [e] at hm; simp at hm
  have hE := roundE_pos h hne
  have hc : (roundE p.sl).count i = wtS p.sl i := by
    unfold roundE
    rw [turns_count _ _ _ (acts_nodup _), if_pos hm]
  have h2 := List.Sublist.count_le i (List.take_sublist (127 % (roundE p.sl).length) (roundE p.sl))
  rw [sumW_all, wheel_count h hne i, hc] at *
  refine ⟨hE, Nat.le_add_right _ _, ?_⟩
  rw [Nat.add_mul, Nat.one_mul]
  omega
/-- How many places the first so many slots have. -/
def sumC (w : List Int) : Nat → Nat
  | 0 => 0
  | m + 1 => sumC w m + w.count (m : Int)
theorem sumC_cons (x : Int) (w : List Int) : ∀ m : Nat, sumC (x :: w) m = sumC w m + (if 0 ≤ x ∧ x < (m : Int) then 1 else 0)
  | 0 => by
    rw [if_neg (by omega)]
    rfl
  | m + 1 => by
    rw [sumC, sumC, sumC_cons x w m, List.count_cons]
    by_cases h : x = (m : Int)
    · rw [if_neg (show ¬ (0 ≤ x ∧ x < (m : Int)) by omega), if_pos (show 0 ≤ x ∧ x < ((m + 1 : Nat) : Int) by omega), if_pos (beq_iff_eq.2 h)]
      omega
    · rw [if_neg (show ¬ (x == (m : Int)) = true by simp [h])]
      by_cases h3 : 0 ≤ x ∧ x < (m : Int)
      · rw [if_pos h3, if_pos (show 0 ≤ x ∧ x < ((m + 1 : Nat) : Int) by omega)]
        omega
      · rw [if_neg h3, if_neg (show ¬ (0 ≤ x ∧ x < ((m + 1 : Nat) : Int)) by omega)]
        omega
theorem sumC_nil : ∀ m : Nat, sumC [] m = 0
  | 0 => rfl
  | m + 1 => by rw [sumC, sumC_nil m]; rfl
theorem sumC_all (m : Nat) : ∀ w : List Int, (∀ x ∈ w, 0 ≤ x ∧ x < m) → sumC w m = w.length
  | [], _ => sumC_nil m
  | x :: w, h => by
    rw [sumC_cons, sumC_all m w (fun y hy => h y (by simp [hy])), if_pos (h x (by simp))]
    rfl
theorem sumC_le (w : List Int) : ∀ m : Nat, sumC w m ≤ w.length * m
  | 0 => by simp [sumC]
  | m + 1 => by
    have h1 := sumC_le w m
    have h2 := List.count_le_length (a := (m : Int)) (l := w)
    rw [sumC, Nat.mul_add]
    omega
theorem all_places {p : PL} (h : PInv p) : (0 < sumW p.sl 64 ∧ sumC (wheelOf p.sl) 64 = 127) ∨ (sumW p.sl 64 = 0 ∧ (wheelOf p.sl).count (-1) = 127) := by
  by_cases ha : acts p.sl = []
  · right
    have e : wheelOf p.sl = List.replicate 127 (-1) := by unfold wheelOf; rw [if_pos ha]
    rw [sumW_all, e]
    unfold roundE
    rw [ha]
    simp [turnsOf]
  · left
    have hE := roundE_pos h ha
    rw [sumW_all]
    refine ⟨hE, ?_⟩
    rw [sumC_all 64, wheel_len h]
    intro x hx
    obtain ⟨n, hn, he⟩ := List.getElem_of_mem hx
    have hl := wheel_len h
    rcases wheel_place h (n : Int) (by omega) (by omega) with ⟨_, h2⟩ | ⟨i, hi, h2, _⟩
    · exfalso
      have e : wheelOf p.sl = (st p.sl 127).w := by unfold wheelOf; rw [if_neg ha]
      have h3 := (winv p.sl hE 127 (Nat.le_refl _)).fr
      rw [← e] at h3
      omega
    · rw [rd_place _ n hn, he] at h2
      omega
end Go.Proofs.Ytnffajpnffibaaa.Own
