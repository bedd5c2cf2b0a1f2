/-
  OptsRound: round about, by all steps together one comes back; what is ahead of one by less than half the round is ahead.
-/
import Derived.Test.YtjdkifdnbfmccaaQ8
import Derived.Test.YtjdkifdnbfmccaaOptL
namespace Go.Proofs.Ytjdkifdnbfmccaa.Pure
open Go.RowKit Go.Proofs.Ytjdkifdnbfmccaa.Q Go.Proofs.YtjdkifdnbfmccaaW.PrintWords Go.Proofs.YtjdkifdnbfmccaaW.PrintLast Go.Proofs.Ytjdkifdnbfmccaa.Own

theorem OptsRound : roundhouselaw4_OptsRound.Pure := by
  intro a b c ha hb hc
  have ha := u32_of ha
  have hb := u32_of hb
  have hc := u32_of hc
  obtain ⟨k, _, hk⟩ := known_ex 0
  refine ⟨k + 1, ?_⟩
  unfold roundhouselaw4_OptsRound.f
  refine bind_ok hk ?_
  rw [if_pos rfl]
  refine bind_ok (far_f a b) (bind_ok (far_f b c) (bind_ok (far_f c a) ?_))
  have hs : wrap64 (wrap64 (far a b + far b c) + far c a) = 0 ∨ wrap64 (wrap64 (far a b + far b c) + far c a) = 4294967296 ∨ wrap64 (wrap64 (far a b + far b c) + far c a) = -4294967296 := by
    unfold wrap64 far; omega
  rw [if_pos (by rcases hs with h | h | h <;> rw [h] <;> decide)]
  refine bind_ok (far_f a a) ?_
  rw [if_pos (by unfold far; omega)]
  refine bind_ok (less_f a a) ?_
  rw [if_neg (by simp; unfold far; omega)]
  refine bind_ok (less_f a b) ?_
  rw [beq_self_eq_true, if_pos rfl, if_pos (by unfold far; omega), if_pos (by unfold far; omega)]
  congr 1
  rw [beq_iff_eq]
  unfold far; omega
end Go.Proofs.Ytjdkifdnbfmccaa.Pure
