/-
  SipMade: a key that was made sums as its two numbers do; bytes too many or too few are no key.
-/
import Derived.Test.YtmfpjchfpoonmaaSipM
import Derived.Test.YtmfpjchfpoonmaaQ5
namespace Go.Proofs.Ytmfpjchfpoonmaa.Pure
open Go.RowKit Go.Proofs.Ytmfpjchfpoonmaa.Q Go.Proofs.YtmfpjchfpoonmaaW.PrintWords Go.Proofs.YtmfpjchfpoonmaaW.PrintLast Go.Proofs.YtmfpjchfpoonmaaW.PrintMore Go.Proofs.Ytmfpjchfpoonmaa.Own
set_option linter.unusedVariables false
set_option linter.unusedSimpArgs false

theorem sip_ref (k : Nat) (a b : Int) (l : List Int) (h : l.length ≤ 8388608) : ∃ s, sip_Of.f (k + 1) a b l = some s ∧ roundhouseref2_Of.f (k + 1) a b l = some s := ⟨_, rfl, if_pos h⟩
theorem SipMade : roundhouselaw2_SipMade.Pure := by
  intro l0 l1 _ _ _ _ _ _
  refine ⟨41 + 9, ?_⟩
  unfold roundhouselaw2_SipMade.f
  refine bind_ok (known_ok _ (by decide)) ?_
  rw [if_pos rfl]
  by_cases h : (l1.length : Int) > 200
  · rw [if_pos h]
  rw [if_neg h]
  refine bind_ok rfl ?_
  have hm : mn (l0.length : Int) 16 = ((min l0.length 16 : Nat) : Int) := by unfold mn; split <;> omega
  rw [hm, if_pos (by omega), if_pos (by omega), Int.toNat_natCast]
  have hml : (l0.take (min l0.length 16)).length ≤ 16 := by rw [List.length_take]; omega
  generalize l0.take (min l0.length 16) = m at hml
  rw [if_pos (by simp only [List.length_nil]; omega)]
  refine bind_ok (a := m) rfl ?_
  rw [if_pos (by omega)]
  refine bind_ok rfl ?_
  rw [if_pos (by rw [List.length_append, List.length_replicate]; omega)]
  refine bind_ok rfl ?_
  have hlen : ((m ++ List.replicate 16 (0 : Int)).take (16 : Int).toNat).length = 16 := by
    rw [List.length_take, List.length_append, List.length_replicate]
    show min 16 _ = 16
    omega
  generalize (m ++ List.replicate 16 (0 : Int)).take (16 : Int).toNat = x at hlen
  refine bind_ok (make_ok x hlen 41).1 (bind_ok (make_ok x hlen 41).2 ?_)
  rw [if_pos (by omega)]
  refine bind_ok (make_no _ (by simp [hlen]) _).1 ?_
  rw [if_pos (by omega)]
  refine bind_ok (make_no _ (by rw [List.length_take]; omega) _).1 ?_
  rw [if_pos rfl, if_pos rfl, if_pos (by simp)]
  obtain ⟨s, e1, e2⟩ := sip_ref 49 (keyA x) (keyB x) l1 (by omega)
  refine bind_ok e1 (bind_ok e2 ?_)
  rw [if_pos rfl, if_neg (by decide)]
  rfl
end Go.Proofs.Ytmfpjchfpoonmaa.Pure
