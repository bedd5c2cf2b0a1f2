/-
  SipNumbers: numbers below 0, the greatest, the least, are their sixty-four bits: their keyed sum is the reference's, of each alone and of all together.
-/
import Derived.Test.YtmfpjchfpoonmaaQ7
import Derived.Test.YtmfpjchfpoonmaaSipL
namespace Go.Proofs.Ytmfpjchfpoonmaa.Pure
open Go.RowKit Go.Proofs.Ytmfpjchfpoonmaa.Q Go.Proofs.YtmfpjchfpoonmaaW.PrintWords Go.Proofs.YtmfpjchfpoonmaaW.PrintLast Go.Proofs.Ytmfpjchfpoonmaa.Own

theorem SipNumbers : roundhouselaw2_SipNumbers.Pure := by
  intro a b x n _ _ _ _
  obtain ⟨k, hk0, hk⟩ := known_ex 0
  refine ⟨k + 1, ?_⟩
  unfold roundhouselaw2_SipNumbers.f
  refine bind_ok hk ?_
  rw [if_pos rfl]
  obtain ⟨l, hl⟩ : ∃ l : List Int, l = [x, wrap64 (-x), -1, 9223372036854775807, -9223372036854775808, 0] := ⟨_, rfl⟩
  have h6 : l.length = 6 := by rw [hl]; rfl
  rw [← hl]
  refine bind_ok (a := l) rfl ?_
  obtain ⟨r, hr, h0, h1⟩ := within_ok n 6 (by decide) (by decide)
  refine bind_ok hr ?_
  rw [if_pos h0, if_pos (by omega)]
  obtain ⟨s, e1, e2, _⟩ := words_ref k a b [rd l r] (by simp)
  refine bind_ok e1 (bind_ok e2 ?_)
  rw [if_pos rfl]
  obtain ⟨s2, e3, e4, _⟩ := words_ref k a b l (by omega)
  refine bind_ok e3 (bind_ok e4 ?_)
  rw [beq_self_eq_true]
end Go.Proofs.Ytmfpjchfpoonmaa.Pure
