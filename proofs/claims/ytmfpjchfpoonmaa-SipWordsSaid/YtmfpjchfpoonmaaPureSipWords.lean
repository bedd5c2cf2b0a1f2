/-
  SipWords: numbers are bytes, the lowest first, one number behind the other: their keyed sum is that of these bytes, and the reference's (of up to sixty numbers; more are not asked).
-/
import Derived.Test.YtmfpjchfpoonmaaQ5
import Derived.Test.YtmfpjchfpoonmaaSipL
namespace Go.Proofs.Ytmfpjchfpoonmaa.Pure
open Go.RowKit Go.Proofs.Ytmfpjchfpoonmaa.Q Go.Proofs.YtmfpjchfpoonmaaW.PrintWords Go.Proofs.YtmfpjchfpoonmaaW.PrintLast Go.Proofs.Ytmfpjchfpoonmaa.Own

theorem words_both (l : List Int) (a b : Int) (hl : l.length ≤ 60) (d : Nat) :
    (∀ (k : Nat) (i : Nat), i ≤ l.length → 20 * (l.length - i) ≤ d → d + 1 < k → roundhouselaw2_SipWords.l0 k l (wordBytes (l.take i)) i a b = some true) ∧
    (∀ (k : Nat) (i j : Nat), i < l.length → j ≤ 8 → 20 * (l.length - (i + 1)) + (8 - j) + 1 ≤ d → d + 1 < k →
      roundhouselaw2_SipWords.l1 k l (wordBytes (l.take i) ++ wordTo (l.getD i 0) j) i (IntKind.u64.wrap (l.getD i 0) / 2 ^ (8 * j)) j a b = some true) := by
  induction d using Nat.strongRecOn with
  | _ d ih =>
  refine ⟨?_, ?_⟩
  · intro k i hi hd hk
    obtain ⟨k, rfl⟩ : ∃ m, k = m + 1 + 1 := ⟨k - 2, by omega⟩
    simp only [roundhouselaw2_SipWords.l0]
    by_cases h : i < l.length
    · rw [if_pos (by omega), if_pos (by omega), rd_nat]
      have h2 := (ih (d - 1) (by omega)).2 (k + 1) i 0 h (by omega) (by omega) (by omega)
      simpa [wordTo] using h2
    · obtain rfl : i = l.length := by omega
      rw [if_neg (by omega), List.take_length]
      obtain ⟨s, e1, e2, e3⟩ := words_ref k a b l (by omega)
      refine bind_ok e1 (bind_ok e3 ?_)
      rw [if_pos rfl]
      refine bind_ok e1 (bind_ok e2 ?_)
      rw [beq_self_eq_true]
  · intro k i j hi hj hd hk
    obtain ⟨k, rfl⟩ : ∃ m, k = m + 1 := ⟨k - 1, by omega⟩
    simp only [roundhouselaw2_SipWords.l1]
    by_cases h : j < 8
    · have hlen : (wordBytes (l.take i) ++ wordTo (l.getD i 0) j).length < 140737488355328 := by
        rw [List.length_append, wordBytes_length, wordTo_length, List.length_take]; omega
      rw [if_pos (by omega), if_pos hlen]
      have e : wrap64 ((j : Int) + 1) = ((j + 1 : Nat) : Int) := by unfold wrap64; omega
      have e2 : IntKind.u64.wrap (l.getD i 0) / 2 ^ (8 * j) / 256 = IntKind.u64.wrap (l.getD i 0) / 2 ^ (8 * (j + 1)) := by
        rw [Int.ediv_ediv_of_nonneg (Int.le_of_lt (Int.pow_pos (by decide))), show 8 * (j + 1) = 8 * j + 8 from by omega, Int.pow_add]; rfl
      have h2 := (ih (d - 1) (by omega)).2 k i (j + 1) hi (by omega) (by omega) (by omega)
      rw [e, e2, List.append_assoc, show [IntKind.u64.wrap (l.getD i 0) / 2 ^ (8 * j) % 256] = [byteAt (l.getD i 0) j] from rfl, ← wordTo_succ]
      exact h2
    · obtain rfl : j = 8 := by omega
      rw [if_neg (by omega), ← wordBytes_take l i hi]
      have e : wrap64 ((i : Int) + 1) = ((i + 1 : Nat) : Int) := by unfold wrap64; omega
      rw [e]
      exact (ih (d - 1) (by omega)).1 k (i + 1) (by omega) (by omega) (by omega)
theorem SipWords : roundhouselaw2_SipWords.Pure := by
  intro a b l _ _ _ hl _
  obtain ⟨k, hk0, hk⟩ := known_ex 2000
  refine ⟨k + 1, ?_⟩
  unfold roundhouselaw2_SipWords.f
  refine bind_ok hk ?_
  rw [if_pos rfl]
  by_cases h : (l.length : Int) > 60
  · rw [if_pos h]
  · rw [if_neg h]
    have := (words_both l a b (by omega) (20 * l.length)).1 (k + 1) 0 (by omega) (by omega) (by omega)
    simpa [wordBytes] using this
end Go.Proofs.Ytmfpjchfpoonmaa.Pure
