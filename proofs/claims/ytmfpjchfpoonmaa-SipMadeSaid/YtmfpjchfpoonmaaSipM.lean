/-
  What sip.Make and the reference's Make read out of sixteen bytes: two numbers, the lowest byte first.
-/
import Derived.Test.YtmfpjchfpoonmaaQ4
import Derived.Laws.BitsAllLaws
import Derived.OpenShut
namespace Go.Proofs.Ytmfpjchfpoonmaa.Pure
open Go.RowKit Go.Proofs.Ytmfpjchfpoonmaa.Q Go.Proofs.YtmfpjchfpoonmaaW.PrintWords Go.Proofs.YtmfpjchfpoonmaaW.PrintLast Go.Proofs.YtmfpjchfpoonmaaW.PrintMore Go.Proofs.Ytmfpjchfpoonmaa.Own
set_option linter.unusedVariables false
set_option linter.unusedSimpArgs false

theorem known40 : roundhouselaw2_known.f 40 = some true := by decide +kernel
theorem known_ok (k : Nat) (h : 40 ≤ k) : roundhouselaw2_known.f k = some true := at_rounds roundhouselaw2_known.mono h known40
theorem bind_ok {α β : Type} {x : Option α} {f : α → Option β} {a : α} {r : β} (hx : x = some a) (hf : f a = some r) : x.bind f = some r := by rw [hx]; exact hf
theorem wrap_nat (b : Nat) (h : b < 18446744073709551616) : IntKind.u64.wrap (b : Int) = (b : Int) := by
  rw [IntKind.wrap_u64]; omega
theorem join_lo (i : Nat) (hi : i ≤ 56) (a b : Nat) (ha : a < 2 ^ i) (hb : b < 256) : Go.bits .or .u64 (a : Int) (shl .u64 (IntKind.u64.wrap (b : Int)) (i : Int)) = ((a + b * 2 ^ i : Nat) : Int) := by
  have hp : 2 ^ i ≤ 2 ^ 56 := Nat.pow_le_pow_right (by decide) hi
  have h1 : b * 2 ^ i ≤ 255 * 2 ^ 56 := Nat.mul_le_mul (by omega) hp
  have e1 : shl .u64 (IntKind.u64.wrap (b : Int)) (i : Int) = ((b * 2 ^ i : Nat) : Int) := by
    rw [wrap_nat b (by omega)]
    show IntKind.u64.wrap ((b : Int) * 2 ^ min ((i : Int)).toNat 64) = _
    rw [Int.toNat_natCast, Nat.min_eq_left (by omega), ← wrap_nat (b * 2 ^ i) (by omega)]
    simp
  rw [e1, u64_or_nat _ _ (by omega) (by omega), Nat.or_comm, nat_join i _ _ (Nat.mul_mod_left _ _) ha, Nat.add_comm]
theorem join_hi (a b : Nat) (ha : a < 2 ^ 56) (hb : b < 256) : Go.bits .or .u64 (IntKind.u64.wrap ((a : Int) * 256)) (IntKind.u64.wrap (b : Int)) = ((a * 256 + b : Nat) : Int) := by
  rw [wrap_nat b (by omega), show (a : Int) * 256 = ((a * 256 : Nat) : Int) from by simp, wrap_nat (a * 256) (by omega), u64_or_nat _ _ (by omega) (by omega), nat_join 8 _ _ (by omega) (by omega)]
/-- Eight bytes as a number. -/
def le8 (a b c d e f g h : Nat) : Nat := a + b * 256 + c * 65536 + d * 16777216 + e * 4294967296 + f * 1099511627776 + g * 281474976710656 + h * 72057594037927936
def or8 (a b c d e f g h : Int) : Int :=
  let s := fun (x : Int) (b i : Int) => Go.bits .or .u64 x (shl .u64 (IntKind.u64.wrap b) i)
  s (s (s (s (s (s (s (s 0 a 0) b 8) c 16) d 24) e 32) f 40) g 48) h 56
theorem or8_le (a b c d e f g h : Nat) (ha : a < 256) (hb : b < 256) (hc : c < 256) (hd : d < 256) (he : e < 256) (hf : f < 256) (hg : g < 256) (hh : h < 256) : or8 a b c d e f g h = (le8 a b c d e f g h : Int) := by
  have j0 := join_lo 0 (by decide) 0 a (by decide) ha
  have j1 := join_lo 8 (by decide) (0 + a * 2 ^ 0) b (by omega) hb
  have j2 := join_lo 16 (by decide) (0 + a * 2 ^ 0 + b * 2 ^ 8) c (by omega) hc
  have j3 := join_lo 24 (by decide) (0 + a * 2 ^ 0 + b * 2 ^ 8 + c * 2 ^ 16) d (by omega) hd
  have j4 := join_lo 32 (by decide) (0 + a * 2 ^ 0 + b * 2 ^ 8 + c * 2 ^ 16 + d * 2 ^ 24) e (by omega) he
  have j5 := join_lo 40 (by decide) (0 + a * 2 ^ 0 + b * 2 ^ 8 + c * 2 ^ 16 + d * 2 ^ 24 + e * 2 ^ 32) f (by omega) hf
  have j6 := join_lo 48 (by decide) (0 + a * 2 ^ 0 + b * 2 ^ 8 + c * 2 ^ 16 + d * 2 ^ 24 + e * 2 ^ 32 + f * 2 ^ 40) g (by omega) hg
  have j7 := join_lo 56 (by decide) (0 + a * 2 ^ 0 + b * 2 ^ 8 + c * 2 ^ 16 + d * 2 ^ 24 + e * 2 ^ 32 + f * 2 ^ 40 + g * 2 ^ 48) h (by omega) hh
  unfold or8
  dsimp only
  erw [j0, j1, j2, j3, j4, j5, j6, j7]
  unfold le8
  omega
theorem number8 (k : Nat) (a b c d e f g h : Int) : sip_number_byte.f (k + 9) [a, b, c, d, e, f, g, h] = some (or8 a b c d e f g h) := by
  unfold sip_number_byte.f
  simp [sip_number_byte.l0, mn, wrap64, rd, or8]
theorem low8 (k : Nat) (a b c d e f g h : Int) : roundhouseref2_low.f (k + 9) [a, b, c, d, e, f, g, h] = some (or8 a b c d e f g h) := by
  unfold roundhouseref2_low.f
  simp [roundhouseref2_low.l0, mn, wrap64, rd, or8, IntKind.wrap_u64]
/-- Sixteen bytes, named. -/
theorem sixteen (l : List Int) (h : l.length = 16) : ∃ a b c d e f g i a' b' c' d' e' f' g' i' : Int, l = [a, b, c, d, e, f, g, i, a', b', c', d', e', f', g', i'] := by
  rcases l with _ | ⟨a, _ | ⟨b, _ | ⟨c, _ | ⟨d, _ | ⟨e, _ | ⟨f, _ | ⟨g, _ | ⟨i, _ | ⟨a', _ | ⟨b', _ | ⟨c', _ | ⟨d', _ | ⟨e', _ | ⟨f', _ | ⟨g', _ | ⟨i', _ | ⟨x, l⟩⟩⟩⟩⟩⟩⟩⟩⟩⟩⟩⟩⟩⟩⟩⟩⟩
  all_goals first | exact ⟨_, _, _, _, _, _, _, _, _, _, _, _, _, _, _, _, rfl⟩ | (simp only [List.length_cons, List.length_nil] at h; omega)
def keyA (l : List Int) : Int := or8 (rd l 0) (rd l 1) (rd l 2) (rd l 3) (rd l 4) (rd l 5) (rd l 6) (rd l 7)
def keyB (l : List Int) : Int := or8 (rd l 8) (rd l 9) (rd l 10) (rd l 11) (rd l 12) (rd l 13) (rd l 14) (rd l 15)
theorem make_ok (l : List Int) (h : l.length = 16) (k : Nat) : sip_Make.f (k + 9) l = some (keyA l, keyB l, true) ∧ roundhouseref2_Make.f (k + 9) l = some (keyA l, keyB l, true) := by
  obtain ⟨a, b, c, d, e, f, g, i, a', b', c', d', e', f', g', i', rfl⟩ := sixteen l h
  refine ⟨?_, ?_⟩
  · rw [sip_Make.f, if_pos (by simp), if_pos (by simp)]
    exact bind_ok (number8 k a b c d e f g i) (bind_ok (number8 k a' b' c' d' e' f' g' i') rfl)
  · rw [roundhouseref2_Make.f, if_pos (by simp), if_pos (by simp)]
    exact bind_ok (low8 k a b c d e f g i) (bind_ok (low8 k a' b' c' d' e' f' g' i') rfl)
theorem make_no (l : List Int) (h : l.length ≠ 16) (k : Nat) : sip_Make.f k l = some (0, 0, false) ∧ roundhouseref2_Make.f k l = some (0, 0, false) := by
  have h2 : ¬ (l.length : Int) = 16 := by omega
  exact ⟨by rw [sip_Make.f, if_neg h2], by rw [roundhouseref2_Make.f, if_neg h2]⟩
theorem make_any (l : List Int) (k : Nat) : ∃ a b s, sip_Make.f (k + 9) l = some (a, b, s) ∧ roundhouseref2_Make.f (k + 9) l = some (a, b, s) ∧ s = decide ((l.length : Int) = 16) := by
  by_cases h : l.length = 16
  · exact ⟨_, _, _, (make_ok l h k).1, (make_ok l h k).2, (decide_eq_true (by omega)).symm⟩
  · exact ⟨_, _, _, (make_no l h _).1, (make_no l h _).2, (decide_eq_false (by omega)).symm⟩
end Go.Proofs.Ytmfpjchfpoonmaa.Pure
