/-
  What the laws of options share: the chapter's example holds; a number from 0 to n - 1; how far a stamp is ahead.
-/
import Derived.Test.YtjdkifdnbfmccaaQ12
import Derived.Test.YtjdkifdnbfmccaaQ13
import Derived.OpenShut
namespace Go.Proofs.Ytjdkifdnbfmccaa.Pure
open Go.RowKit Go.Proofs.Ytjdkifdnbfmccaa.Q Go.Proofs.YtjdkifdnbfmccaaW.PrintWords Go.Proofs.YtjdkifdnbfmccaaW.PrintLast Go.Proofs.Ytjdkifdnbfmccaa.Own

theorem known40 : roundhouselaw4_known.f 40 = some true := by decide +kernel
theorem known_ok (k : Nat) (h : 40 ≤ k) : roundhouselaw4_known.f k = some true := at_rounds roundhouselaw4_known.mono h known40
theorem known_ex (m : Nat) : ∃ k, m ≤ k ∧ roundhouselaw4_known.f (k + 1) = some true := ⟨max m 40, by omega, known_ok _ (by omega)⟩
theorem bind_ok {α β : Type} {x : Option α} {f : α → Option β} {a : α} {r : β} (hx : x = some a) (hf : f a = some r) : x.bind f = some r := by rw [hx]; exact hf
theorem within_ok (a n : Int) (hn : 0 < n) (hn2 : n ≤ 1099511627776) : ∃ r, roundhouselaw4_within.f a n = some r ∧ 0 ≤ r ∧ r < n := by
  unfold roundhouselaw4_within.f
  rw [if_neg (by omega)]
  have h1 := Int.tmod_lt_of_pos a hn
  have h2 : -n < Int.tmod a n := by
    have := Int.lt_tmod_of_pos a hn
    omega
  split
  · exact ⟨_, rfl, by unfold wrap64; omega, by unfold wrap64; omega⟩
  · exact ⟨_, rfl, by omega, h1⟩
theorem within_self (r n : Int) (h0 : 0 ≤ r) (h1 : r < n) : roundhouselaw4_within.f r n = some r := by
  unfold roundhouselaw4_within.f
  rw [if_neg (by omega), Int.tmod_eq_of_lt h0 h1, if_neg (by omega)]
/-- How far b is ahead of a. -/
def far (a b : Int) : Int := ((b - a) % 4294967296 + 2147483648) % 4294967296 - 2147483648
theorem far_f (a b : Int) : opts_Far.f a b = some (far a b) := by
  unfold opts_Far.f far wrap64 wrap32
  congr 1
  omega
theorem less_f (a b : Int) : opts_Less.f a b = some (decide (far a b > 0)) := by
  unfold opts_Less.f
  exact bind_ok (far_f a b) rfl
theorem u32_of {a : Int} (h : (Lit.int .u32 a).wf = true) : 0 ≤ a ∧ a < 4294967296 := by
  have := bounds_u32 h
  omega
theorem i64_of {a : Int} (h : (Lit.int .i64 a).wf = true) : -9223372036854775808 ≤ a ∧ a < 9223372036854775808 := by
  have := bounds_i64 h
  omega
theorem u8_of {a : Int} (h : (Lit.int .u8 a).wf = true) : 0 ≤ a ∧ a ≤ 255 := by
  have := bounds_u8 h
  omega
end Go.Proofs.Ytjdkifdnbfmccaa.Pure
