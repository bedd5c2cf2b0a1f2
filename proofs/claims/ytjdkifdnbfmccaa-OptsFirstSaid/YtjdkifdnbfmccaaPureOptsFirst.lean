/-
  OptsFirst: of two stamps the first counts; one of another length is none.
-/
import Derived.Test.YtjdkifdnbfmccaaOptM
import Derived.Test.YtjdkifdnbfmccaaQ29
namespace Go.Proofs.Ytjdkifdnbfmccaa.Pure
open Go.RowKit Go.Proofs.Ytjdkifdnbfmccaa.Q Go.Proofs.YtjdkifdnbfmccaaW.PrintWords Go.Proofs.YtjdkifdnbfmccaaW.PrintLast Go.Proofs.Ytjdkifdnbfmccaa.Own

theorem stamp_two (k : Nat) (a b c d : Int) (ha : 0 ≤ a ∧ a < 4294967296) (hb : 0 ≤ b ∧ b < 4294967296) : opts_Stamp.f (k + 7) (mk12 a b ++ mk12 c d) = some (4, a, b, true) := by
  unfold opts_Stamp.f
  rw [walk_if _ _ (by rw [List.length_append, mk12_len, mk12_len]; omega) (bytes_append (mk12_byte _ _) (mk12_byte _ _))]
  refine bind_ok (a := ([⟨1, (0 : Nat), 1⟩, ⟨1, (0 + 1 : Nat), 1⟩, ⟨8, (0 + 2 : Nat), 10⟩, ⟨1, (12 : Nat), 1⟩, ⟨1, (12 + 1 : Nat), 1⟩, ⟨8, (12 + 2 : Nat), 10⟩], 0)) ?_ ?_
  · have h1 := owalk_made [] (mk12 c d) a b (k + 4) 0 [] rfl
    have h2 := owalk_made (mk12 a b) [] c d (k + 1) 12 ([] ++ [⟨1, (0 : Nat), 1⟩, ⟨1, (0 + 1 : Nat), 1⟩, ⟨8, (0 + 2 : Nat), 10⟩]) rfl
    rw [List.append_nil] at h2
    rw [List.nil_append] at h1
    rw [h1]
    exact h2.trans (owalk_end _ _ _ _ rfl)
  · exact stamp_made [] (mk12 c d) a b ha hb _ 2 rfl rfl
def shorts (m : Nat) : List Int := [8, (2 : Int) + m] ++ List.replicate m 0
theorem shorts_len (m : Nat) : (shorts m).length = m + 2 := by simp [shorts]
theorem shorts_byte (m : Nat) (h : m < 20) : ∀ x ∈ shorts m, 0 ≤ x ∧ x ≤ 255 := by
  refine bytes_append ?_ ?_
  · intro x hx
    simp only [List.mem_cons, List.not_mem_nil, or_false] at hx
    rcases hx with rfl | rfl <;> omega
  · intro x hx
    obtain ⟨_, rfl⟩ := List.mem_replicate.1 hx
    omega
theorem walk_short (k m : Nat) (h : m < 20) (c d : Int) : opts_Walk.f (k + 5) (shorts m ++ mk12 c d) = some ([⟨8, 0, (2 : Int) + m⟩, ⟨1, (m + 2 : Nat), 1⟩, ⟨1, (m + 2 + 1 : Nat), 1⟩, ⟨8, (m + 2 + 2 : Nat), 10⟩], 0) := by
  rw [walk_if _ _ (by rw [List.length_append, mk12_len, shorts_len]; omega) (bytes_append (shorts_byte m h) (mk12_byte _ _))]
  rw [owalk_more _ _ 0 [] 8 ((2 : Int) + m) rfl (by decide) rfl (by omega) (by rw [List.length_append, mk12_len, shorts_len]; omega)]
  have h2 := owalk_made (shorts m) [] c d (k + 1) (m + 2) ([] ++ [⟨8, (0 : Nat), (2 : Int) + m⟩]) (shorts_len m).symm
  rw [List.append_nil] at h2
  rw [show 0 + ((2 : Int) + m).toNat = m + 2 from by omega]
  exact h2.trans (owalk_end _ _ _ _ (by rw [List.length_append, mk12_len, shorts_len]))
theorem stamp_short (k m : Nat) (h : m < 20) (h8 : m ≠ 8) (c d : Int) (hc : 0 ≤ c ∧ c < 4294967296) (hd : 0 ≤ d ∧ d < 4294967296) : opts_Stamp.f (k + 5) (shorts m ++ mk12 c d) = some ((2 : Int) + m + 4, c, d, true) := by
  unfold opts_Stamp.f
  refine bind_ok (walk_short k m h c d) ?_
  have h3 := stamp_made (shorts m) [] c d hc hd [⟨8, 0, (2 : Int) + m⟩, ⟨1, (m + 2 : Nat), 1⟩, ⟨1, (m + 2 + 1 : Nat), 1⟩, ⟨8, (m + 2 + 2 : Nat), 10⟩] (m + 2 + 2) (by rw [shorts_len])
    (by
      have e0 : isStamp ⟨8, 0, (2 : Int) + m⟩ = false := decide_eq_false (by show ¬ ((8 : Int) = 8 ∧ (2 : Int) + m = 10); omega)
      have e : firstFrom [⟨8, 0, (2 : Int) + m⟩, ⟨1, (m + 2 : Nat), 1⟩, ⟨1, (m + 2 + 1 : Nat), 1⟩, ⟨8, (m + 2 + 2 : Nat), 10⟩] 4 0 = 3 := by
        unfold firstFrom
        rw [if_neg (by show ¬ isStamp ⟨8, 0, (2 : Int) + m⟩ = true; rw [e0]; decide)]
        rfl
      unfold found
      rw [show ([⟨8, 0, (2 : Int) + m⟩, ⟨1, (m + 2 : Nat), 1⟩, ⟨1, (m + 2 + 1 : Nat), 1⟩, ⟨8, (m + 2 + 2 : Nat), 10⟩] : List S42).length = 4 from rfl, e]
      rfl)
  rw [List.append_nil] at h3
  rw [h3, show ((m + 2 + 2 : Nat) : Int) + 2 = (2 : Int) + m + 4 from by omega]
theorem stamp_eight (k : Nat) (c d : Int) : opts_Stamp.f (k + 5) (shorts 8 ++ mk12 c d) = some (2, 0, 0, true) := by
  unfold opts_Stamp.f
  refine bind_ok (walk_short k 8 (by decide) c d) ?_
  rw [ostamp_of _ _ 0 10 rfl (by rw [List.length_append, mk12_len, shorts_len]; omega)]
  rw [show (shorts 8 ++ mk12 c d).drop (0 + 2) = be4 0 ++ (be4 0 ++ mk12 c d) from rfl, show (shorts 8 ++ mk12 c d).drop (0 + 6) = be4 0 ++ mk12 c d from rfl, num4_be4 0 (by decide), num4_be4 0 (by decide)]
  rfl
theorem OptsFirst : roundhouselaw4_OptsFirst.Pure := by
  intro a b c d n ha hb hc hd hn
  have ha := u32_of ha
  have hb := u32_of hb
  have hc := u32_of hc
  have hd := u32_of hd
  obtain ⟨k, hk0, hk⟩ := known_ex 10
  obtain ⟨r, hr, h0, h1⟩ := within_ok n 20 (by decide) (by decide)
  obtain ⟨m, rfl⟩ : ∃ m : Nat, r = m := ⟨r.toNat, by omega⟩
  obtain ⟨j, rfl⟩ : ∃ j, k = j + 6 := ⟨k - 6, by omega⟩
  have es : [8, (wrap64 (2 + (m : Int))) % 256] ++ List.replicate ((m : Int)).toNat (0 : Int) = shorts m := by
    rw [show (wrap64 (2 + (m : Int))) % 256 = (2 : Int) + m from by unfold wrap64; omega]
    rfl
  refine ⟨j + 6 + 1, ?_⟩
  unfold roundhouselaw4_OptsFirst.f
  refine bind_ok hk ?_
  rw [if_pos rfl]
  refine bind_ok hr (bind_ok rfl ?_)
  rw [if_pos h0, if_pos (by show (2 : Nat) + _ < _; omega)]
  refine bind_ok (congrArg some es) ?_
  refine bind_ok (a := mk12 a b) rfl (bind_ok (a := mk12 c d) rfl ?_)
  rw [if_pos (by rw [mk12_len, mk12_len]; omega)]
  refine bind_ok (stamp_two j a b c d ha hb) ?_
  refine bind_ok (a := mk12 c d) rfl ?_
  rw [if_pos (by rw [mk12_len, shorts_len]; omega)]
  by_cases h8 : m = 8
  · subst h8
    refine bind_ok (stamp_eight (j + 2) c d) ?_
    rw [if_pos rfl, if_pos rfl, if_pos rfl, if_pos rfl]
    rfl
  · refine bind_ok (stamp_short (j + 2) m (by omega) h8 c d hc hd) ?_
    rw [if_pos rfl, if_pos rfl, if_pos rfl, if_pos rfl]
    rw [roundhouselaw4_OptsFirst.j0, if_neg (show ¬ ((!true) = true) from by decide), if_neg (by omega), if_pos (by show (2 : Int) + m + 4 = _; unfold wrap64; omega), if_pos rfl, beq_self_eq_true]
end Go.Proofs.Ytjdkifdnbfmccaa.Pure
