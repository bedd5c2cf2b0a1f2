/-
  What the places of a wheel are.
-/
import Derived.Test.YtnffajpnffibaaaWheW
namespace Go.Proofs.Ytnffajpnffibaaa.Own
open Go Go.RowKit Go.Proofs.YtnffajpnffibaaaW.PrintWords Go.Proofs.YtnffajpnffibaaaW.PrintMore Go.Proofs.YtnffajpnffibaaaW.PrintLast Go.Proofs.Ytnffajpnffibaaa.Q
set_option linter.unusedVariables false
set_option linter.unusedSimpArgs false

/-- A place of a wheel: nobody's, if there is nobody at all; else an active slot's. -/
theorem wheel_place {p : PL} (h : PInv p) (q : Int) (h0 : 0 ≤ q) (h1 : q < 127) : (rd (wheelOf p.sl) q = -1 ∧ (wheelOf p.sl).count (-1) = 127) ∨ (∃ i : Nat, i < 64 ∧ rd (wheelOf p.sl) q = (i : Int) ∧ (rd_T25 p.sl (i : Int)).f0 = 2) := by
  have hl := wheel_len h
  obtain ⟨n, rfl⟩ := Int.eq_ofNat_of_zero_le h0
  rw [rd_place _ n (by omega)]
  obtain ⟨v, hv⟩ : ∃ v, v = (wheelOf p.sl)[n]'(by omega) := ⟨_, rfl⟩
  rw [← hv]
  have hm : v ∈ wheelOf p.sl := by rw [hv]; exact List.getElem_mem _
  by_cases ha : acts p.sl = []
  · left
    have e : wheelOf p.sl = List.replicate 127 (-1) := by unfold wheelOf; rw [if_pos ha]
    rw [e] at hm ⊢
    exact ⟨List.eq_of_mem_replicate hm, by simp⟩
  · right
    have hk : 0 < (acts p.sl).length := List.length_pos_iff.2 ha
    have hE := (roundE_get p.sl 0 hk 0 (acts_wt p.sl h.good 0 hk).1).1
    have hinv := winv p.sl (by omega) 127 (Nat.le_refl _)
    have e : wheelOf p.sl = (st p.sl 127).w := by unfold wheelOf; rw [if_neg ha]
    rw [e] at hm
    rcases hinv.mem _ hm with h2 | ⟨i, hi, h2⟩
    · exfalso
      have h3 := hinv.fr
      have h4 : 0 < (st p.sl 127).w.count (-1) := List.count_pos_iff.2 (by rw [← h2]; exact hm)
      omega
    · unfold roundE turnsOf at hi
      rw [List.mem_flatMap] at hi
      obtain ⟨j, hj, hij⟩ := hi
      obtain rfl := List.eq_of_mem_replicate hij
      unfold acts at hj
      rw [List.mem_filter, List.mem_range] at hj
      refine ⟨i, hj.1, h2, ?_⟩
      have := hj.2
      unfold actS at this
      simpa using this
/-- A slot that is not active has no place. -/
theorem wheel_not {p : PL} (h : PInv p) (s : Int) (h0 : 0 ≤ s) (h1 : s < 64) (ha : (rd_T25 p.sl s).f0 ≠ 2) : (wheelOf p.sl).count s = 0 := by
  rw [List.count_eq_zero]
  intro hm
  obtain ⟨n, hn, he⟩ := List.getElem_of_mem hm
  have hl := wheel_len h
  have hc := wheel_place h (n : Int) (by omega) (by omega)
  rw [rd_place _ n hn, he] at hc
  rcases hc with ⟨h2, _⟩ | ⟨i, hi, h2, h3⟩
  · omega
  · rw [h2] at ha
    exact ha h3
theorem actS_iff (sl : List S25) (i : Nat) : actS sl i = true ↔ (rd_T25 sl (i : Int)).f0 = 2 := by
  unfold actS
  simp
theorem mem_acts (sl : List S25) (i : Nat) : i ∈ acts sl ↔ i < 64 ∧ (rd_T25 sl (i : Int)).f0 = 2 := by
  unfold acts
  rw [List.mem_filter, List.mem_range, actS_iff]
theorem roundE_pos {p : PL} (h : PInv p) (ha : acts p.sl ≠ []) : 0 < (roundE p.sl).length := by
  have hk : 0 < (acts p.sl).length := List.length_pos_iff.2 ha
  have hE := (roundE_get p.sl 0 hk 0 (acts_wt p.sl h.good 0 hk).1).1
  omega
theorem mem_roundE (sl : List S25) (i : Nat) (h : i ∈ roundE sl) : i ∈ acts sl := by
  unfold roundE turnsOf at h
  rw [List.mem_flatMap] at h
  obtain ⟨j, hj, hij⟩ := h
  obtain rfl := List.eq_of_mem_replicate hij
  exact hj

theorem rd_set (l : List S25) (i s : Int) (v : S25) (h0 : 0 ≤ s) (h1 : s < l.length) (hi : 0 ≤ i) : rd_T25 (l.set s.toNat v) i = if i = s then v else rd_T25 l i := by
  unfold rd_T25
  rw [List.getD_eq_getElem?_getD, List.getElem?_set, List.getD_eq_getElem?_getD]
  by_cases h : i = s
  · subst h
    rw [if_pos rfl, if_pos (by omega), if_pos rfl]
    rfl
  · rw [if_neg (by omega), if_neg h]
end Go.Proofs.Ytnffajpnffibaaa.Own
