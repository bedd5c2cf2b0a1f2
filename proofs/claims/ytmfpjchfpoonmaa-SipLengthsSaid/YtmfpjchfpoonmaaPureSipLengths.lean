/-
  SipLengths: noughts more behind are other bytes, whose keyed sum is the reference's; no numbers are no bytes.
-/
import Derived.Test.YtmfpjchfpoonmaaQ6
import Derived.Test.YtmfpjchfpoonmaaSipL
namespace Go.Proofs.Ytmfpjchfpoonmaa.Pure
open Go.RowKit Go.Proofs.Ytmfpjchfpoonmaa.Q Go.Proofs.YtmfpjchfpoonmaaW.PrintWords Go.Proofs.YtmfpjchfpoonmaaW.PrintLast Go.Proofs.Ytmfpjchfpoonmaa.Own

theorem SipLengths : roundhouselaw2_SipLengths.Pure := by
  intro a b l n _ _ _ _ _ _
  obtain ⟨k, hk0, hk⟩ := known_ex 0
  refine ⟨k + 1, ?_⟩
  unfold roundhouselaw2_SipLengths.f
  refine bind_ok hk ?_
  rw [if_pos rfl]
  by_cases h : (l.length : Int) > 300
  · rw [if_pos h]
  · rw [if_neg h]
    refine bind_ok rfl ?_
    rw [if_pos (by simp only [List.length_nil]; omega)]
    refine bind_ok (a := l) rfl ?_
    obtain ⟨r, hr, h0, h1⟩ := within_ok n 20 (by decide) (by decide)
    refine bind_ok hr ?_
    rw [if_pos h0, if_pos (by omega)]
    obtain ⟨s, e1, e2⟩ := sip_ref k a b (l ++ List.replicate r.toNat 0) (by rw [List.length_append, List.length_replicate]; omega)
    refine bind_ok rfl (bind_ok e1 (bind_ok e2 ?_))
    rw [if_pos rfl]
    obtain ⟨s2, e3, _, e5⟩ := words_ref k a b [] (by decide)
    refine bind_ok e3 (bind_ok e5 ?_)
    rw [beq_self_eq_true]
end Go.Proofs.Ytmfpjchfpoonmaa.Pure
