/-
  OptsOwn: bytes are not changed; what was told may be.
-/
import Derived.Test.YtjdkifdnbfmccaaOptU
import Derived.Test.YtjdkifdnbfmccaaQOwn
namespace Go.Proofs.Ytjdkifdnbfmccaa.Pure
open Go.RowKit Go.Proofs.Ytjdkifdnbfmccaa.Q Go.Proofs.YtjdkifdnbfmccaaW.PrintWords Go.Proofs.YtjdkifdnbfmccaaW.PrintMore Go.Proofs.YtjdkifdnbfmccaaW.PrintLast Go.Proofs.Ytjdkifdnbfmccaa.Own
set_option linter.unusedVariables false
set_option linter.unusedSimpArgs false

theorem rmake_own (v e : Int) : roundhouseref4_Make.f v e = some (mk12 v e) := by
  unfold roundhouseref4_Make.f
  refine bind_ok rfl (bind_ok (a := be4 v) rfl ?_)
  rw [if_pos (by show 4 + 4 < _; decide)]
  refine bind_ok rfl (bind_ok (a := be4 e) rfl ?_)
  rw [if_pos (by show 8 + 4 < _; decide)]
  rfl
theorem own_l1 (v e : Int) (x : List Int) (m : Nat) (xs : List S42) (er : Int) (hx : xs.length ≤ 1048576) (h : ∀ k, m ≤ k → opts_Walk.f k x = some (xs, er) ∧ roundhouseref4_Walk.f k x = some (asRef xs, er)) : ∀ (d i k : Nat) (y : List Int), y.length = i + d → y.length ≤ 1000 → m + xs.length + 1 ≤ k → roundhouselaw4_OptsOwn.l1 (k + d + 1) v e x (strOfNums x) y i = some true
  | 0, i, k, y, hy, _, hk => by
    rw [roundhouselaw4_OptsOwn.l1, if_neg (by omega)]
    refine bind_ok (h (k + 0) (by omega)).1 (bind_ok (h (k + 0) (by omega)).2 ?_)
    rw [if_pos rfl, if_pos rfl]
    refine bind_ok (as_ok xs hx _ (by omega)) (bind_ok (same_ok (asRef xs) (by rw [asRef_len]; omega) _ (by rw [asRef_len]; omega)) ?_)
    rw [if_pos rfl]
    obtain ⟨k, rfl⟩ : ∃ k', k = k' + 1 := ⟨k - 1, by omega⟩
    refine bind_ok (a := mk12 v e) rfl (bind_ok (rmake_own v e) ?_)
    simp
  | d + 1, i, k, y, hy, hl, hk => by
    rw [show k + (d + 1) + 1 = (k + d + 1) + 1 from by omega, roundhouselaw4_OptsOwn.l1, if_pos (by omega), if_pos (by omega), show wrap64 ((i : Int) + 1) = ((i + 1 : Nat) : Int) from by unfold wrap64; omega]
    exact own_l1 v e x m xs er hx h d (i + 1) k _ (by rw [List.length_set]; omega) (by rw [List.length_set]; omega) hk
theorem own_l0 (v e : Int) (x : List Int) (m : Nat) (xs : List S42) (er : Int) (hx : xs.length ≤ 1048576) (h : ∀ k, m ≤ k → opts_Walk.f k x = some (xs, er) ∧ roundhouseref4_Walk.f k x = some (asRef xs, er)) : ∀ (d i k : Nat), xs.length = i + d → m + xs.length + 1 ≤ k → roundhouselaw4_OptsOwn.l0 (k + 13 + d + 1) v e x (strOfNums x) xs i = some true
  | 0, i, k, hi, hk => by
    rw [roundhouselaw4_OptsOwn.l0, if_neg (by omega)]
    exact bind_ok (a := mk12 v e) rfl (own_l1 v e x m xs er hx h 12 0 k (mk12 v e) rfl (by rw [mk12_len]; omega) hk)
  | d + 1, i, k, hi, hk => by
    rw [show k + 13 + (d + 1) + 1 = (k + 13 + d + 1) + 1 from by omega, roundhouselaw4_OptsOwn.l0, if_pos (by omega), if_pos (by omega), show wrap64 ((i : Int) + 1) = ((i + 1 : Nat) : Int) from by unfold wrap64; omega]
    exact own_l0 v e x m xs er hx h d (i + 1) k (by omega) hk
theorem OptsOwn : roundhouselaw4_OptsOwn.Pure := by
  intro ns v e hn _ hnw hv he
  obtain ⟨m1, b, hs, hbl, hbb⟩ := some_ok ns (by unfold maxLen at hn; omega)
  have hlen : (b ++ mk12 v e).length = b.length + 12 := by rw [List.length_append, mk12_len]
  have hby := bytes_append hbb (mk12_byte v e)
  obtain ⟨m2, xs, er, s, hx, h2⟩ := row_ok (b ++ mk12 v e) (by omega) hby
  have h := fun k hk => (⟨(h2 k hk).1, (h2 k hk).2.1⟩ : opts_Walk.f k (b ++ mk12 v e) = some (xs, er) ∧ roundhouseref4_Walk.f k (b ++ mk12 v e) = some (asRef xs, er))
  obtain ⟨k, hk0, hk⟩ := known_ex (m1 + m2 + 2 * xs.length + 20)
  refine ⟨k + 1, ?_⟩
  unfold roundhouselaw4_OptsOwn.f
  refine bind_ok hk ?_
  rw [if_pos rfl]
  refine bind_ok (hs _ (by omega)) (bind_ok (a := mk12 v e) rfl ?_)
  rw [if_pos (by rw [mk12_len]; omega)]
  refine bind_ok rfl (bind_ok (h (k + 1) (by omega)).1 ?_)
  have h0 := own_l0 v e (b ++ mk12 v e) m2 xs er hx h xs.length 0 (k - 13 - xs.length) (by omega) (by omega)
  rw [show k - 13 - xs.length + 13 + xs.length + 1 = k + 1 from by omega] at h0
  exact h0
end Go.Proofs.Ytjdkifdnbfmccaa.Pure
