/-
  SipParts: the keyed sum of a row's numbers and of more is that of both, one behind the other; the row may be changed behind it.
-/
import Derived.Test.YtmfpjchfpoonmaaQ8
import Derived.Test.YtmfpjchfpoonmaaSipL
namespace Go.Proofs.Ytmfpjchfpoonmaa.Pure
open Go.RowKit Go.Proofs.Ytmfpjchfpoonmaa.Q Go.Proofs.YtmfpjchfpoonmaaW.PrintWords Go.Proofs.YtmfpjchfpoonmaaW.PrintLast Go.Proofs.Ytmfpjchfpoonmaa.Own

theorem parts_l0 (l m : List Int) (a b s : Int) (hlm : l.length + m.length ≤ 60) (n : Nat) (hn : n ≤ 60) (d : Nat) : ∀ (k : Nat) (x10 : List Int) (i : Int), x10.length = n → 0 ≤ i → i ≤ n → (n : Int) - i = d → d + 1 < k →
    (∀ k, sip_Words.f (k + 1) a b (l ++ m) = some s ∧ roundhouseref2_Words.f (k + 1) a b (l ++ m) = some s) → roundhouselaw2_SipParts.l0 k l m x10 s i a b = some true := by
  induction d with
  | zero =>
    intro k x10 i hl h0 h1 hd hk hs
    obtain ⟨k, rfl⟩ : ∃ m, k = m + 1 + 1 := ⟨k - 2, by omega⟩
    simp only [roundhouselaw2_SipParts.l0]
    rw [if_neg (by omega)]
    refine bind_ok rfl ?_
    rw [if_pos (by simp only [List.length_nil]; omega)]
    refine bind_ok (a := l) rfl ?_
    rw [if_pos (by omega)]
    refine bind_ok (hs k).2 ?_
    rw [if_pos rfl]
    refine bind_ok rfl ?_
    rw [if_pos (by simp only [List.length_nil]; omega)]
    refine bind_ok (a := l) rfl ?_
    rw [if_pos (by omega)]
    refine bind_ok (hs k).1 ?_
    rw [beq_self_eq_true]
  | succ d ih =>
    intro k x10 i hl h0 h1 hd hk hs
    obtain ⟨k, rfl⟩ : ∃ m, k = m + 1 := ⟨k - 1, by omega⟩
    simp only [roundhouselaw2_SipParts.l0]
    rw [if_pos (by omega), if_pos h0]
    have e : wrap64 (i + 1) = i + 1 := by unfold wrap64; omega
    rw [e]
    exact ih k _ _ (by rw [List.length_set]; exact hl) (by omega) (by omega) (by omega) (by omega) hs
theorem SipParts : roundhouselaw2_SipParts.Pure := by
  intro a b l m _ _ _ hl _ _ hm _
  obtain ⟨k, hk0, hk⟩ := known_ex 1000
  refine ⟨k + 1, ?_⟩
  unfold roundhouselaw2_SipParts.f
  refine bind_ok hk ?_
  rw [if_pos rfl]
  have e : wrap64 ((l.length : Int) + (m.length : Int)) = (l.length : Int) + (m.length : Int) := by unfold wrap64; omega
  rw [e]
  by_cases h : (l.length : Int) + (m.length : Int) > 60
  · rw [if_pos h]
  · rw [if_neg h]
    refine bind_ok rfl ?_
    rw [if_pos (by simp only [List.length_nil]; omega)]
    refine bind_ok (a := l) rfl ?_
    rw [if_pos (by omega)]
    refine bind_ok (a := l ++ m) rfl ?_
    obtain ⟨s, hs⟩ : ∃ s, ∀ k, sip_Words.f (k + 1) a b (l ++ m) = some s ∧ roundhouseref2_Words.f (k + 1) a b (l ++ m) = some s :=
      ⟨_, fun k => ⟨if_pos (by rw [List.length_append]; omega), if_pos (by rw [List.length_append]; omega)⟩⟩
    refine bind_ok (hs k).1 ?_
    exact parts_l0 l m a b s (by omega) (l ++ m).length (by rw [List.length_append]; omega) (l ++ m).length (k + 1) _ 0 rfl (by omega) (by omega) (by omega) (by rw [List.length_append]; omega) hs
end Go.Proofs.Ytmfpjchfpoonmaa.Pure
