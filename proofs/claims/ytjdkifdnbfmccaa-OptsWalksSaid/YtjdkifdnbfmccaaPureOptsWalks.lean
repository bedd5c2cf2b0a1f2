/-
  OptsWalks: any bytes are options, or none, as the document says; so is their stamp.
-/
import Derived.Test.YtjdkifdnbfmccaaOptU
import Derived.Test.YtjdkifdnbfmccaaQWalks
namespace Go.Proofs.Ytjdkifdnbfmccaa.Pure
open Go.RowKit Go.Proofs.Ytjdkifdnbfmccaa.Q Go.Proofs.YtjdkifdnbfmccaaW.PrintWords Go.Proofs.YtjdkifdnbfmccaaW.PrintMore Go.Proofs.YtjdkifdnbfmccaaW.PrintLast Go.Proofs.Ytjdkifdnbfmccaa.Own
set_option linter.unusedVariables false
set_option linter.unusedSimpArgs false

theorem rows_l0 (rows : List (List Int)) (hn : rows.length ≤ 1000) (hr : ∀ l ∈ rows, l.length ≤ 1048576 ∧ ∀ x ∈ l, 0 ≤ x ∧ x ≤ 255) : ∀ (d i : Nat), rows.length = i + d → ∃ m, ∀ k, m ≤ k → roundhouselaw4_OptsWalks.l0 k rows i = some true
  | 0, i, hi => ⟨1, fun k hk => by
    obtain ⟨k, rfl⟩ : ∃ k', k = k' + 1 := ⟨k - 1, by omega⟩
    rw [roundhouselaw4_OptsWalks.l0, if_neg (by omega)]⟩
  | d + 1, i, hi => by
    obtain ⟨m1, h1⟩ := rows_l0 rows hn hr d (i + 1) (by omega)
    have hmem : rd_L1 rows (i : Nat) ∈ rows := by
      show rows.getD i ([] : List Int) ∈ rows
      rw [List.getD_eq_getElem?_getD, List.getElem?_eq_getElem (by omega)]
      exact List.getElem_mem _
    obtain ⟨hl, hb⟩ := hr _ hmem
    obtain ⟨m2, xs, e, s, hx, h2⟩ := row_ok _ hl hb
    refine ⟨m1 + m2 + xs.length + 3, fun k hk => ?_⟩
    obtain ⟨k, rfl⟩ : ∃ k', k = k' + 1 := ⟨k - 1, by omega⟩
    obtain ⟨g1, g2, g3, g4⟩ := h2 k (by omega)
    rw [roundhouselaw4_OptsWalks.l0, if_pos (by omega), if_pos (by omega)]
    refine bind_ok g1 (bind_ok g2 (bind_ok g3 (bind_ok g4 ?_)))
    rw [if_pos rfl]
    refine bind_ok (as_ok xs hx k (by omega)) (bind_ok (same_ok (asRef xs) (by rw [asRef_len]; omega) k (by rw [asRef_len]; omega)) ?_)
    rw [if_pos rfl, if_pos rfl, if_pos rfl, if_pos rfl, if_neg (by simp), show wrap64 ((i : Int) + 1) = ((i + 1 : Nat) : Int) from by unfold wrap64; omega]
    exact h1 k (by omega)
theorem walks_j0 (raw b x : List Int) (at_ : Int) (hr : raw.length ≤ 60 ∧ ∀ y ∈ raw, 0 ≤ y ∧ y ≤ 255) (hb : b.length < 40 ∧ ∀ y ∈ b, 0 ≤ y ∧ y ≤ 255) (hx : x.length < 40 ∧ ∀ y ∈ x, 0 ≤ y ∧ y ≤ 255) : ∃ m, ∀ k, m ≤ k → roundhouselaw4_OptsWalks.j0 k raw at_ b x = some true := by
  obtain ⟨t, ht, t0, t1⟩ := within_ok at_ (wrap64 ((b.length : Int) + 1)) (by unfold wrap64; omega) (by unfold wrap64; omega)
  have t2 : t ≤ (b.length : Int) := by unfold wrap64 at t1; omega
  obtain ⟨m, hm⟩ := rows_l0 [b, x, raw, (([] : List Int) ++ b) ++ raw, b.take t.toNat] (by simp) (by
    intro l hl
    simp only [List.mem_cons, List.not_mem_nil, or_false] at hl
    rcases hl with rfl | rfl | rfl | rfl | rfl
    · exact ⟨by omega, hb.2⟩
    · exact ⟨by omega, hx.2⟩
    · exact ⟨by omega, hr.2⟩
    · exact ⟨by simp; omega, bytes_append (by simpa using hb.2) hr.2⟩
    · exact ⟨by rw [List.length_take]; omega, fun y hy => hb.2 y (List.mem_of_mem_take hy)⟩) 5 0 rfl
  refine ⟨m + 1, fun k hk => ?_⟩
  obtain ⟨k, rfl⟩ : ∃ k', k = k' + 1 := ⟨k - 1, by omega⟩
  rw [roundhouselaw4_OptsWalks.j0]
  refine bind_ok rfl ?_
  rw [if_pos (by show 0 + b.length < _; omega)]
  refine bind_ok rfl ?_
  rw [if_pos (by simp; omega)]
  refine bind_ok ht ?_
  rw [if_pos t0, if_pos t2]
  exact hm k (by omega)
theorem OptsWalks : roundhouselaw4_OptsWalks.Pure := by
  intro ns raw at_ by_ hn _ hnw hr _ hrw _ hbw
  have hbw := u8_of hbw
  obtain ⟨m1, b, hs, hbl, hbb⟩ := some_ok ns (by unfold maxLen at hn; omega)
  by_cases h60 : (raw.length : Int) > 60
  · obtain ⟨k, hk0, hk⟩ := known_ex 0
    refine ⟨k + 1, ?_⟩
    unfold roundhouselaw4_OptsWalks.f
    refine bind_ok hk ?_
    rw [if_pos rfl, if_pos h60]
  have hraw : raw.length ≤ 60 ∧ ∀ y ∈ raw, 0 ≤ y ∧ y ≤ 255 := ⟨by omega, fun x hx => u8_of (hrw x hx)⟩
  by_cases h0 : (b.length : Int) > 0
  · obtain ⟨t, ht, t0, t1⟩ := within_ok at_ (b.length : Int) (by omega) (by omega)
    obtain ⟨m2, hm⟩ := walks_j0 raw b (b.set t.toNat ((rd b t + by_) % 256)) at_ hraw ⟨hbl, hbb⟩ ⟨by rw [List.length_set]; omega, fun y hy => by
      rcases List.mem_or_eq_of_mem_set hy with h | h
      · exact hbb y h
      · rw [h]; omega⟩
    obtain ⟨k, hk0, hk⟩ := known_ex (m1 + m2)
    refine ⟨k + 1, ?_⟩
    unfold roundhouselaw4_OptsWalks.f
    refine bind_ok hk ?_
    rw [if_pos rfl, if_neg h60]
    refine bind_ok (hs _ (by omega)) (bind_ok rfl ?_)
    rw [if_pos (by show 0 + b.length < _; omega)]
    refine bind_ok rfl ?_
    rw [List.nil_append, if_pos h0]
    refine bind_ok ht ?_
    rw [if_pos t0, if_pos t1]
    exact hm _ (by omega)
  · obtain ⟨m2, hm⟩ := walks_j0 raw b b at_ hraw ⟨hbl, hbb⟩ ⟨hbl, hbb⟩
    obtain ⟨k, hk0, hk⟩ := known_ex (m1 + m2)
    refine ⟨k + 1, ?_⟩
    unfold roundhouselaw4_OptsWalks.f
    refine bind_ok hk ?_
    rw [if_pos rfl, if_neg h60]
    refine bind_ok (hs _ (by omega)) (bind_ok rfl ?_)
    rw [if_pos (by show 0 + b.length < _; omega)]
    refine bind_ok rfl ?_
    rw [List.nil_append, if_neg h0]
    exact hm _ (by omega)
end Go.Proofs.Ytjdkifdnbfmccaa.Pure
