/-
  SipSums: of any key and any bytes (up to a thousand; more are not asked) the program's keyed sum is the reference's, of each front of them, too.
-/
import Derived.Test.YtmfpjchfpoonmaaQ3
import Derived.Test.YtmfpjchfpoonmaaSipL
namespace Go.Proofs.Ytmfpjchfpoonmaa.Pure
open Go.RowKit Go.Proofs.Ytmfpjchfpoonmaa.Q Go.Proofs.YtmfpjchfpoonmaaW.PrintWords Go.Proofs.YtmfpjchfpoonmaaW.PrintLast Go.Proofs.Ytmfpjchfpoonmaa.Own

theorem SipSums : roundhouselaw2_SipSums.Pure := by
  intro a b l c _ _ _ _ _ _
  obtain ⟨k, _, hk⟩ := known_ex 0
  refine ⟨k + 1, ?_⟩
  unfold roundhouselaw2_SipSums.f
  refine bind_ok hk ?_
  rw [if_pos rfl]
  by_cases h : (l.length : Int) > 1000
  · rw [if_pos h]
  · rw [if_neg h]
    have e : wrap64 ((l.length : Int) + 1) = (l.length : Int) + 1 := by unfold wrap64; omega
    obtain ⟨r, hr, h0, h1⟩ := within_ok c ((l.length : Int) + 1) (by omega) (by omega)
    rw [e]
    refine bind_ok hr ?_
    obtain ⟨s1, e1, e2⟩ := sip_ref k a b l (by omega)
    have hl : (l.take r.toNat).length ≤ 8388608 := by rw [List.length_take]; omega
    obtain ⟨s2, e3, e4⟩ := sip_ref k a b (l.take r.toNat) hl
    refine bind_ok e1 (bind_ok e2 ?_)
    rw [if_pos rfl, if_pos h0, if_pos (by omega)]
    refine bind_ok e3 (bind_ok e4 ?_)
    rw [beq_self_eq_true]
end Go.Proofs.Ytmfpjchfpoonmaa.Pure
