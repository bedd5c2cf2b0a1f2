/-
  What the laws of options draw: law4's Some, of any numbers: so many bytes, never more than 39.
-/
import Derived.Test.YtjdkifdnbfmccaaOptM
import Derived.Test.YtjdkifdnbfmccaaQ14
namespace Go.Proofs.Ytjdkifdnbfmccaa.Pure
open Go.RowKit Go.Proofs.Ytjdkifdnbfmccaa.Q Go.Proofs.YtjdkifdnbfmccaaW.PrintWords Go.Proofs.YtjdkifdnbfmccaaW.PrintLast Go.Proofs.Ytjdkifdnbfmccaa.Own

def Goes (m : Nat) (x0 : List Int) (out : List Int) (x4 : Int) (b : List Int) : Prop := ∀ m', m ≤ m' → roundhouselaw4_Some.l0 m' x0 out x4 = some b
theorem piece (n : Int) (h0 : 0 ≤ n) (h1 : n < 1099511627776) (x0 : List Int) (out : List Int) (x4 : Int) (hout : out.length < 30) (hw : roundhouselaw4_within.f (rd x0 x4) 1099511627776 = some n) (g0 : 0 ≤ x4) (g1 : x4 < x0.length) :
    ∃ p : List Int, p.length ≤ 10 ∧ (∀ x ∈ p, 0 ≤ x ∧ x ≤ 255) ∧ ∀ m b, Goes m x0 (out ++ p) (wrap64 (x4 + 1)) b → ∀ M, m ≤ M → roundhouselaw4_Some.j1 (M + 3) x0 out x4 true = some b := by
  have ht : Int.tmod n 8 = n % 8 := Int.tmod_eq_emod_of_nonneg h0
  have hd8 : wrap64 (Int.tdiv n 8) = n / 8 := by rw [Int.tdiv_eq_ediv_of_nonneg h0]; unfold wrap64; omega
  have hq : Int.tmod (n / 8) 6 = n / 8 % 6 := Int.tmod_eq_emod_of_nonneg (by omega)
  have key : ∀ (F : Nat → Option (List Int)) b m, (∀ M, m ≤ M → (if n % 8 = 0 then roundhouselaw4_Some.j2 (M + 2) x0 out x4 n (n % 8) ((n % 8) == 0) else roundhouselaw4_Some.j2 (M + 2) x0 out x4 n (n % 8) ((n % 8) == 1)) = some b) → ∀ M, m ≤ M → roundhouselaw4_Some.j1 (M + 3) x0 out x4 true = some b := by
    intro _ b m h M hM
    rw [roundhouselaw4_Some.j1, if_pos rfl, if_pos g0, if_pos g1]
    refine bind_ok hw ?_
    rw [ht]
    exact h M hM
  have c8 : n % 8 = 0 ∨ n % 8 = 1 ∨ n % 8 = 2 ∨ n % 8 = 3 ∨ n % 8 = 4 ∨ n % 8 = 5 ∨ n % 8 = 6 ∨ n % 8 = 7 := by omega
  rcases c8 with e | e | e | e | e | e | e | e
  · refine ⟨[1], by simp, by simp, fun m b hb => key (fun _ => none) b m fun M hM => ?_⟩
    rw [e, if_pos rfl, roundhouselaw4_Some.j2, if_pos (by decide), if_pos (by omega)]
    exact hb _ (by omega)
  · refine ⟨[1], by simp, by simp, fun m b hb => key (fun _ => none) b m fun M hM => ?_⟩
    rw [e, if_neg (by decide), roundhouselaw4_Some.j2, if_pos (by decide), if_pos (by omega)]
    exact hb _ (by omega)
  · refine ⟨[8, 10, (n / 256) % 256, (n / 65536) % 256, (n / 16777216) % 256, (n / 1073741824) % 256, 1, 2, (n / 32) % 256, 4], ?_, ?_, fun m b hb => key (fun _ => none) b m fun M hM => ?_⟩
    case refine_3 =>
      rw [e, if_neg (by decide), roundhouselaw4_Some.j2, if_neg (by decide), if_pos rfl, roundhouselaw4_Some.j3, if_pos (by decide)]
      refine bind_ok rfl ?_
      rw [if_pos (by show out.length + 10 < _; omega)]
      exact hb _ hM
    · simp
    · intro x hx
      simp only [List.mem_cons, List.not_mem_nil, or_false] at hx
      rcases hx with rfl | rfl | rfl | rfl | rfl | rfl | rfl | rfl | rfl | rfl <;> omega
  · refine ⟨[8, 10, (n / 256) % 256, (n / 65536) % 256, (n / 16777216) % 256, (n / 1073741824) % 256, 1, 2, (n / 32) % 256, 4], ?_, ?_, fun m b hb => key (fun _ => none) b m fun M hM => ?_⟩
    case refine_3 =>
      rw [e, if_neg (by decide), roundhouselaw4_Some.j2, if_neg (by decide), if_neg (by decide), roundhouselaw4_Some.j3, if_pos (by decide)]
      refine bind_ok rfl ?_
      rw [if_pos (by show out.length + 10 < _; omega)]
      exact hb _ hM
    · simp
    · intro x hx
      simp only [List.mem_cons, List.not_mem_nil, or_false] at hx
      rcases hx with rfl | rfl | rfl | rfl | rfl | rfl | rfl | rfl | rfl | rfl <;> omega
  · obtain ⟨q, hq'⟩ : ∃ q : Nat, n / 8 % 6 = q := ⟨(n / 8 % 6).toNat, by omega⟩
    refine ⟨[(wrap64 (2 + (Int.tmod (wrap64 (Int.tdiv n 50)) 250))) % 256, (2 + (q : Int)) % 256] ++ List.replicate q 0, ?_, ?_, fun m b hb => key (fun _ => none) b m fun M hM => ?_⟩
    · simp; omega
    · refine bytes_append ?_ ?_
      · intro x hx
        simp only [List.mem_cons, List.not_mem_nil, or_false] at hx
        rcases hx with rfl | rfl <;> omega
      · intro x hx
        obtain ⟨_, rfl⟩ := List.mem_replicate.1 hx
        omega
    · rw [e, if_neg (by decide), roundhouselaw4_Some.j2, if_neg (by decide), if_neg (by decide), roundhouselaw4_Some.j3, if_neg (by decide), if_pos rfl, hd8, hq, hq', show wrap64 (2 + (q : Int)) = 2 + (q : Int) from by unfold wrap64; omega, show wrap64 (2 + (q : Int) - 2) = (q : Int) from by unfold wrap64; omega]
      refine bind_ok rfl ?_
      rw [if_pos (by show out.length + 2 < _; omega)]
      refine bind_ok rfl ?_
      rw [if_pos (by omega), if_pos (by rw [List.length_append]; show out.length + 2 + ((q : Int)).toNat < _; omega), List.append_assoc]
      exact hb _ hM
  · refine ⟨[8, (Int.tmod (wrap64 (Int.tdiv n 8)) 14) % 256], ?_, ?_, fun m b hb => key (fun _ => none) b m fun M hM => ?_⟩
    case refine_3 =>
      rw [e, if_neg (by decide), roundhouselaw4_Some.j2, if_neg (by decide), if_neg (by decide), roundhouselaw4_Some.j3, if_neg (by decide), if_neg (by decide), if_pos rfl]
      refine bind_ok rfl ?_
      rw [if_pos (by show out.length + 2 < _; omega)]
      exact hb _ hM
    · simp
    · intro x hx
      simp only [List.mem_cons, List.not_mem_nil, or_false] at hx
      rcases hx with rfl | rfl <;> omega
  · refine ⟨[(Int.tmod (wrap64 (Int.tdiv n 8)) 256) % 256, (Int.tmod (wrap64 (Int.tdiv n 2048)) 12) % 256], ?_, ?_, fun m b hb => key (fun _ => none) b m fun M hM => ?_⟩
    case refine_3 =>
      rw [e, if_neg (by decide), roundhouselaw4_Some.j2, if_neg (by decide), if_neg (by decide), roundhouselaw4_Some.j3, if_neg (by decide), if_neg (by decide), if_neg (by decide), if_pos rfl]
      refine bind_ok rfl ?_
      rw [if_pos (by show out.length + 2 < _; omega)]
      exact hb _ hM
    · simp
    · intro x hx
      simp only [List.mem_cons, List.not_mem_nil, or_false] at hx
      rcases hx with rfl | rfl <;> omega
  · by_cases h3 : (Int.tmod (wrap64 (Int.tdiv n 8)) 3) = 0
    · refine ⟨[0], by simp, by simp, fun m b hb => key (fun _ => none) b m fun M hM => ?_⟩
      rw [e, if_neg (by decide), roundhouselaw4_Some.j2, if_neg (by decide), if_neg (by decide), roundhouselaw4_Some.j3, if_neg (by decide), if_neg (by decide), if_neg (by decide), if_neg (by decide), if_pos rfl, if_pos h3, if_pos (by omega)]
      exact hb _ hM
    · refine ⟨[], by simp, by simp, fun m b hb => key (fun _ => none) b m fun M hM => ?_⟩
      rw [e, if_neg (by decide), roundhouselaw4_Some.j2, if_neg (by decide), if_neg (by decide), roundhouselaw4_Some.j3, if_neg (by decide), if_neg (by decide), if_neg (by decide), if_neg (by decide), if_pos rfl, if_neg h3]
      rw [List.append_nil] at hb
      exact hb _ hM
theorem some_from (x0 : List Int) (hx : x0.length ≤ 4611686018427387904) : ∀ (d i : Nat) (out : List Int), x0.length = i + d → out.length < 40 → (∀ x ∈ out, 0 ≤ x ∧ x ≤ 255) →
    ∃ m b, Goes m x0 out i b ∧ b.length < 40 ∧ ∀ x ∈ b, 0 ≤ x ∧ x ≤ 255
  | 0, i, out, hd, ho, hb => by
    refine ⟨2, out, fun m' hm => ?_, ho, hb⟩
    obtain ⟨m, rfl⟩ : ∃ m, m' = m + 2 := ⟨m' - 2, by omega⟩
    rw [roundhouselaw4_Some.l0, if_neg (by omega), roundhouselaw4_Some.j1, if_neg (by decide)]
  | d + 1, i, out, hd, ho, hb => by
    by_cases h30 : out.length < 30
    · obtain ⟨n, hn, g0, g1⟩ := within_ok (rd x0 i) 1099511627776 (by decide) (by decide)
      obtain ⟨p, hp, hpb, H⟩ := piece n g0 g1 x0 out i h30 hn (by omega) (by omega)
      obtain ⟨m, b, hm, hl, hbb⟩ := some_from x0 hx d (i + 1) (out ++ p) (by omega) (by rw [List.length_append]; omega) (bytes_append hb hpb)
      refine ⟨m + 4, b, fun m' hm' => ?_, hl, hbb⟩
      obtain ⟨M, rfl⟩ : ∃ M, m' = M + 3 + 1 := ⟨m' - 4, by omega⟩
      rw [roundhouselaw4_Some.l0, if_pos (by omega), decide_eq_true (show (out.length : Int) < 30 by omega)]
      refine H m b ?_ M (by omega)
      rw [show wrap64 ((i : Int) + 1) = ((i + 1 : Nat) : Int) from by unfold wrap64; omega]
      exact hm
    · refine ⟨2, out, fun m' hm => ?_, ho, hb⟩
      obtain ⟨m, rfl⟩ : ∃ m, m' = m + 2 := ⟨m' - 2, by omega⟩
      rw [roundhouselaw4_Some.l0, if_pos (by omega), decide_eq_false (show ¬ (out.length : Int) < 30 by omega), roundhouselaw4_Some.j1, if_neg (by decide)]
theorem some_ok (ns : List Int) (h : ns.length ≤ 4611686018427387904) : ∃ m b, (∀ k, m ≤ k → roundhouselaw4_Some.f k ns = some b) ∧ b.length < 40 ∧ ∀ x ∈ b, 0 ≤ x ∧ x ≤ 255 := by
  obtain ⟨m, b, h1, h2, h3⟩ := some_from ns h ns.length 0 [] (by omega) (by decide) (by simp)
  exact ⟨m, b, h1, h2, h3⟩
end Go.Proofs.Ytjdkifdnbfmccaa.Pure
