/-
  CookieFourth: by bits of the epoch that has no key nothing is read.
-/
import Derived.Test.YtnaplobnkmdfbaaCookS
import Derived.Test.YtnaplobnkmdfbaaQ57
namespace Go.Proofs.Ytnaplobnkmdfbaa.Pure
open Go.RowKit Go.Proofs.Ytnaplobnkmdfbaa.Q Go.Proofs.YtnaplobnkmdfbaaW.PrintWords Go.Proofs.YtnaplobnkmdfbaaW.PrintMore Go.Proofs.YtnaplobnkmdfbaaW.PrintLast Go.Proofs.Ytnaplobnkmdfbaa.Own
set_option linter.unusedVariables false
set_option linter.unusedSimpArgs false

theorem or_join' (i : Nat) (a b : Int) (ha : 0 ≤ a) (hb : 0 ≤ b) (hb2 : b < ((2 ^ i : Nat) : Int)) (h : a * ((2 ^ i : Nat) : Int) + b < 9223372036854775808) : Go.bits .or .i64 b (a * ((2 ^ i : Nat) : Int)) = a * ((2 ^ i : Nat) : Int) + b := by
  rw [← or_join i a b ha hb hb2 h]
  simp only [Go.bits, BitVec.or_comm]
theorem key_none (q a b c d e f x : Int) (hq : 0 ≤ q ∧ q < 4611686018427387904) (hx : x % 4 = (q + 2) % 4) : Own.keyOf q a b c d e f x = (0, 0, false) := by
  unfold Own.keyOf
  rw [turn_mod, turn_mod, turn_mod, turn_mod, if_neg (by unfold wrap64; omega), if_neg (by omega), if_neg (by unfold wrap64; omega)]
theorem read_none (q pa pb ca cb na nb kind f0 f1 f2 f3 c : Int) (hq : 0 ≤ q ∧ q < 4611686018427387904) (hc : c / (64 * p2 kind) % 4 = (q + 2) % 4) : readN q pa pb ca cb na nb kind f0 f1 f2 f3 c = (0, false) := by
  unfold readN
  split
  · rfl
  · rw [key_none q pa pb ca cb na nb _ hq hc, if_neg (by decide)]
theorem fourth_j (k : Nat) (b : Bool) (f g c n m q pa pb ca cb na nb : Int) (hq : 0 ≤ q ∧ q < 1073741824) (hb : b = true ∧ n = 18 ∨ b = false ∧ n = 14) : roundhouselaw5_CookieFourth.j0 (k + 3) b f g c n q pa pb ca cb na nb = some true := by
  obtain ⟨f0, f1, f2, f3, hf⟩ := flow_ex f g
  have e1 : wrap64 (q + 2) = q + 2 := by unfold wrap64; omega
  have e2 : Int.tmod (q + 2) 4 = (q + 2) % 4 := Int.tmod_eq_emod_of_nonneg (by omega)
  have hkey : cookie_Key.f (k + 2) q pa pb ca cb na nb (q + 2) = some (0, 0, false) := by
    show some (keyAt _ _ _ _ _ _ _ _) = _
    rw [key_same q pa pb ca cb na nb (q + 2) (by omega), key_none q _ _ _ _ _ _ _ (by omega) rfl]
  rcases hb with ⟨rfl, rfl⟩ | ⟨rfl, rfl⟩
  · obtain ⟨x, hx, x0, x1⟩ := within_ok c 262144 (by decide) (by decide)
    rw [roundhouselaw5_CookieFourth.j0, if_pos (by decide), e1, e2, show shl .i64 1 18 = 262144 from by decide]
    refine bind_ok hx (bind_ok (a := 1) rfl (bind_ok hf ?_))
    rw [shl18 _ (by omega) (by omega), show (q + 2) % 4 * 262144 = (q + 2) % 4 * ((2 ^ 18 : Nat) : Int) from rfl, or_join' 18 _ _ (by omega) x0 (by omega) (by omega)]
    refine bind_ok (read_f k q pa pb ca cb na nb 1 f0 f1 f2 f3 _ (by omega) (.inl rfl)) (bind_ok hkey ?_)
    rw [read_none q pa pb ca cb na nb 1 f0 f1 f2 f3 _ (by omega) (by rw [show (64 : Int) * p2 1 = 262144 from rfl]; omega)]
    rfl
  · obtain ⟨x, hx, x0, x1⟩ := within_ok c 16384 (by decide) (by decide)
    rw [roundhouselaw5_CookieFourth.j0, if_pos (by decide), e1, e2, show shl .i64 1 14 = 16384 from by decide]
    refine bind_ok hx (bind_ok (a := 2) rfl (bind_ok hf ?_))
    rw [shl14 _ (by omega) (by omega), show (q + 2) % 4 * 16384 = (q + 2) % 4 * ((2 ^ 14 : Nat) : Int) from rfl, or_join' 14 _ _ (by omega) x0 (by omega) (by omega)]
    refine bind_ok (read_f k q pa pb ca cb na nb 2 f0 f1 f2 f3 _ (by omega) (.inr rfl)) (bind_ok hkey ?_)
    rw [read_none q pa pb ca cb na nb 2 f0 f1 f2 f3 _ (by omega) (by rw [show (64 : Int) * p2 2 = 16384 from rfl]; omega)]
    rfl
theorem CookieFourth : roundhouselaw5_CookieFourth.Pure := by
  intro a0 a1 a2 a3 a4 a5 _ _ _ _ _
  obtain ⟨q, pa, pb, ca, cb, na, nb, hr, q0, q1⟩ := ring_ex a0 a1
  obtain ⟨k, hk⟩ := known_five
  refine ⟨k + 5, ?_⟩
  unfold roundhouselaw5_CookieFourth.f
  refine bind_ok hk ?_
  rw [if_pos rfl]
  refine bind_ok (hr (k + 4)) ?_
  cases a2 with
  | true => rw [if_pos rfl]; exact fourth_j (k + 2) _ _ _ _ _ 0 _ _ _ _ _ _ _ ⟨q0, q1⟩ (.inl ⟨rfl, rfl⟩)
  | false => rw [if_neg (by decide)]; exact fourth_j (k + 2) _ _ _ _ _ 0 _ _ _ _ _ _ _ ⟨q0, q1⟩ (.inr ⟨rfl, rfl⟩)
end Go.Proofs.Ytnaplobnkmdfbaa.Pure
