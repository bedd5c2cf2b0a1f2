/-
  What the laws of the keyed sum share: the chapter's example holds; a number from 0 to n - 1.
-/
import Derived.Test.YtmfpjchfpoonmaaQ2
namespace Go.Proofs.Ytmfpjchfpoonmaa.Pure
open Go.RowKit Go.Proofs.Ytmfpjchfpoonmaa.Q Go.Proofs.YtmfpjchfpoonmaaW.PrintWords Go.Proofs.YtmfpjchfpoonmaaW.PrintLast Go.Proofs.Ytmfpjchfpoonmaa.Own

theorem known40 : roundhouselaw2_known.f 40 = some true := by decide +kernel
theorem known_ok (k : Nat) (h : 40 ≤ k) : roundhouselaw2_known.f k = some true := at_rounds roundhouselaw2_known.mono h known40
theorem known_ex (m : Nat) : ∃ k, m ≤ k ∧ roundhouselaw2_known.f (k + 1) = some true := ⟨max m 40, by omega, known_ok _ (by omega)⟩
theorem within_ok (a n : Int) (hn : 0 < n) (hn2 : n ≤ 1099511627776) : ∃ r, roundhouselaw2_within.f a n = some r ∧ 0 ≤ r ∧ r < n := by
  unfold roundhouselaw2_within.f
  rw [if_neg (by omega)]
  have h1 := Int.tmod_lt_of_pos a hn
  have h2 : -n < Int.tmod a n := by
    have := Int.lt_tmod_of_pos a hn
    omega
  split
  · exact ⟨_, rfl, by unfold wrap64; omega, by unfold wrap64; omega⟩
  · exact ⟨_, rfl, by omega, h1⟩
theorem bind_ok {α β : Type} {x : Option α} {f : α → Option β} {a : α} {r : β} (hx : x = some a) (hf : f a = some r) : x.bind f = some r := by rw [hx]; exact hf
/-- The sum of bytes, as the program and as the reference make it: one number. -/
theorem sip_ref (k : Nat) (a b : Int) (l : List Int) (h : l.length ≤ 8388608) : ∃ s, sip_Of.f (k + 1) a b l = some s ∧ roundhouseref2_Of.f (k + 1) a b l = some s := ⟨_, rfl, if_pos h⟩
theorem words_ref (k : Nat) (a b : Int) (l : List Int) (h : l.length ≤ 1048576) : ∃ s, sip_Words.f (k + 1) a b l = some s ∧ roundhouseref2_Words.f (k + 1) a b l = some s ∧ sip_Of.f (k + 1) a b (wordBytes l) = some s := ⟨_, if_pos h, if_pos h, rfl⟩
end Go.Proofs.Ytmfpjchfpoonmaa.Pure
