/-
  SipKnown: of the key of 0 to 15, and the bytes 0, 1, 2 .., so many, just the listed number is the keyed sum.
-/
import Derived.Test.YtmfpjchfpoonmaaQ4
import Derived.Test.YtmfpjchfpoonmaaSipL
namespace Go.Proofs.Ytmfpjchfpoonmaa.Pure
open Go.RowKit Go.Proofs.Ytmfpjchfpoonmaa.Q Go.Proofs.YtmfpjchfpoonmaaW.PrintWords Go.Proofs.YtmfpjchfpoonmaaW.PrintLast Go.Proofs.Ytmfpjchfpoonmaa.Own

theorem known_l0 (a b : Int) (h : roundhouselaw2_within.f a 9 = roundhouselaw2_within.f b 9) : ∀ (k : Nat) (x : List Int) (i : Int), roundhouselaw2_SipKnown.l0 k a x i = roundhouselaw2_SipKnown.l0 k b x i
  | 0, _, _ => rfl
  | k + 1, x, i => by
    simp only [roundhouselaw2_SipKnown.l0]
    rw [known_l0 a b h k, h]
theorem known_f (a b : Int) (h : roundhouselaw2_within.f a 9 = roundhouselaw2_within.f b 9) (k : Nat) : roundhouselaw2_SipKnown.f k a = roundhouselaw2_SipKnown.f k b := by
  unfold roundhouselaw2_SipKnown.f
  rw [known_l0 a b h k]
theorem known_r (r : Int) (h0 : 0 ≤ r) (h1 : r < 9) : roundhouselaw2_SipKnown.f 60 r = some true := by
  have h : r = 0 ∨ r = 1 ∨ r = 2 ∨ r = 3 ∨ r = 4 ∨ r = 5 ∨ r = 6 ∨ r = 7 ∨ r = 8 := by omega
  rcases h with rfl | rfl | rfl | rfl | rfl | rfl | rfl | rfl | rfl <;> decide +kernel
theorem within_self (r n : Int) (h0 : 0 ≤ r) (h1 : r < n) : roundhouselaw2_within.f r n = some r := by
  unfold roundhouselaw2_within.f
  rw [if_neg (by omega), Int.tmod_eq_of_lt h0 h1, if_neg (by omega)]
theorem SipKnown : roundhouselaw2_SipKnown.Pure := by
  intro a _
  obtain ⟨r, hr, h0, h1⟩ := within_ok a 9 (by decide) (by decide)
  exact ⟨60, by rw [known_f a r (by rw [hr, within_self r 9 h0 h1]) 60]; exact known_r r h0 h1⟩
end Go.Proofs.Ytmfpjchfpoonmaa.Pure
