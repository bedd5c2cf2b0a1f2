/-
  SipKeeps: bytes that are summed are as they were, and their sum, made again, is the same (of up to three hundred bytes; more are not asked).
-/
import Derived.Test.YtmfpjchfpoonmaaQ3
import Derived.Test.YtmfpjchfpoonmaaSipL
namespace Go.Proofs.Ytmfpjchfpoonmaa.Pure
open Go.RowKit Go.Proofs.Ytmfpjchfpoonmaa.Q Go.Proofs.YtmfpjchfpoonmaaW.PrintWords Go.Proofs.YtmfpjchfpoonmaaW.PrintLast Go.Proofs.Ytmfpjchfpoonmaa.Own

theorem SipKeeps : roundhouselaw2_SipKeeps.Pure := by
  intro a b l _ _ _ hl _
  obtain ⟨k, _, hk⟩ := known_ex 0
  refine ⟨k + 1, ?_⟩
  unfold roundhouselaw2_SipKeeps.f
  refine bind_ok hk ?_
  rw [if_pos rfl]
  by_cases h : (l.length : Int) > 300
  · rw [if_pos h]
  · rw [if_neg h]
    refine bind_ok rfl ?_
    rw [if_pos (by simp only [List.length_nil]; omega)]
    refine bind_ok (a := l) rfl ?_
    obtain ⟨s1, e1, _⟩ := sip_ref k a b l (by omega)
    obtain ⟨s2, e2, _⟩ := sip_ref k 0 0 l (by omega)
    refine bind_ok e1 (bind_ok e2 ?_)
    rw [if_pos rfl]
    refine bind_ok e1 ?_
    rw [beq_self_eq_true]
end Go.Proofs.Ytmfpjchfpoonmaa.Pure
