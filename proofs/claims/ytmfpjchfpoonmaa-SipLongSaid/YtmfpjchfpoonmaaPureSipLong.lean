/-
  SipLong: of bytes more than 255 (240 to 539 of them) the keyed sum is the reference's.
-/
import Derived.Test.YtmfpjchfpoonmaaQ4
import Derived.Test.YtmfpjchfpoonmaaSipL
namespace Go.Proofs.Ytmfpjchfpoonmaa.Pure
open Go.RowKit Go.Proofs.Ytmfpjchfpoonmaa.Q Go.Proofs.YtmfpjchfpoonmaaW.PrintWords Go.Proofs.YtmfpjchfpoonmaaW.PrintLast Go.Proofs.Ytmfpjchfpoonmaa.Own

theorem long_l0 (x2 a b : Int) (n : Nat) (hn : n ≤ 100000) (d : Nat) : ∀ (k : Nat) (x10 : List Int) (i : Int), x10.length = n → 0 ≤ i → i ≤ n → (n : Int) - i = d → d + 1 < k → roundhouselaw2_SipLong.l0 k x2 x10 i a b = some true := by
  induction d with
  | zero =>
    intro k x10 i hl h0 h1 hd hk
    obtain ⟨k, rfl⟩ : ∃ m, k = m + 1 + 1 := ⟨k - 2, by omega⟩
    simp only [roundhouselaw2_SipLong.l0]
    rw [if_neg (by omega)]
    obtain ⟨s, e1, e2⟩ := sip_ref k a b x10 (by omega)
    refine bind_ok e1 (bind_ok e2 ?_)
    rw [beq_self_eq_true]
  | succ d ih =>
    intro k x10 i hl h0 h1 hd hk
    obtain ⟨k, rfl⟩ : ∃ m, k = m + 1 := ⟨k - 1, by omega⟩
    simp only [roundhouselaw2_SipLong.l0]
    rw [if_pos (by omega), if_pos h0]
    have e : wrap64 (i + 1) = i + 1 := by unfold wrap64; omega
    rw [e]
    exact ih k _ _ (by rw [List.length_set]; exact hl) (by omega) (by omega) (by omega) (by omega)
theorem SipLong : roundhouselaw2_SipLong.Pure := by
  intro a b c n _ _ _ _
  obtain ⟨k, hk0, hk⟩ := known_ex 1000
  refine ⟨k + 1, ?_⟩
  unfold roundhouselaw2_SipLong.f
  refine bind_ok hk ?_
  rw [if_pos rfl]
  obtain ⟨r, hr, h0, h1⟩ := within_ok n 300 (by decide) (by decide)
  refine bind_ok hr ?_
  have e : wrap64 (240 + r) = 240 + r := by unfold wrap64; omega
  rw [e, if_pos (by omega), if_pos (by omega)]
  exact long_l0 c a b (240 + r).toNat (by omega) (240 + r).toNat (k + 1) _ 0 (by simp) (by omega) (by omega) (by omega) (by omega)
end Go.Proofs.Ytmfpjchfpoonmaa.Pure
