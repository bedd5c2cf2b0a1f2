/-
  SipKeys: sixteen bytes are a key, the lowest first; others are none.
-/
import Derived.Test.YtmfpjchfpoonmaaSipM
namespace Go.Proofs.Ytmfpjchfpoonmaa.Pure
open Go.RowKit Go.Proofs.Ytmfpjchfpoonmaa.Q Go.Proofs.YtmfpjchfpoonmaaW.PrintWords Go.Proofs.YtmfpjchfpoonmaaW.PrintLast Go.Proofs.YtmfpjchfpoonmaaW.PrintMore Go.Proofs.Ytmfpjchfpoonmaa.Own
set_option linter.unusedVariables false
set_option linter.unusedSimpArgs false

def hiS (x b : Int) : Int := Go.bits .or .u64 (IntKind.u64.wrap (x * 256)) (IntKind.u64.wrap b)
def hi8 (a b c d e f g h : Int) : Int := hiS (hiS (hiS (hiS (hiS (hiS (hiS (hiS 0 h) g) f) e) d) c) b) a
theorem hiS_nat (a b : Nat) (ha : a < 2 ^ 56) (hb : b < 256) : hiS (a : Int) (b : Int) = ((a * 256 + b : Nat) : Int) := join_hi a b ha hb
theorem hi8_le (a b c d e f g h : Nat) (ha : a < 256) (hb : b < 256) (hc : c < 256) (hd : d < 256) (he : e < 256) (hf : f < 256) (hg : g < 256) (hh : h < 256) : hi8 a b c d e f g h = (le8 a b c d e f g h : Int) := by
  unfold hi8
  rw [show (0 : Int) = ((0 : Nat) : Int) from rfl, hiS_nat 0 h (by decide) hh, hiS_nat _ g (by omega) hg, hiS_nat _ f (by omega) hf, hiS_nat _ e (by omega) he, hiS_nat _ d (by omega) hd, hiS_nat _ c (by omega) hc, hiS_nat _ b (by omega) hb, hiS_nat _ a (by omega) ha]
  unfold le8
  omega
def end2 (x0 : List Int) (x7 x9 x11 : Bool) (x12 x149000 x153000 x153001 x157000 x157001 : Int) : Option Bool := if x7 = true then (if x149000 = x12 then (if (x9 == ((x0.length : Int) == 16)) = true then (if (x11 == x9) = true then (some (x153000 == x157000 && (x153001 == x157001))) else (some false)) else (some false)) else (some false)) else (some false)
theorem keys_l0 (k : Nat) (x0 : List Int) (a b c d e f g i : Int) (l : List Int) (x7 x9 x11 : Bool) (p q r s t u : Int) : roundhouselaw2_SipKeys.l0 (k + 9) x0 (a :: b :: c :: d :: e :: f :: g :: i :: l) x7 x9 x11 0 7 p q r s t u = end2 x0 x7 x9 x11 (hi8 a b c d e f g i) p r s t u := by
  have n8 : ((a :: b :: c :: d :: e :: f :: g :: i :: l).length : Int) > 7 := by simp only [List.length_cons]; omega
  rw [roundhouselaw2_SipKeys.l0, if_pos (by decide), if_pos (by decide), if_pos (by omega), show wrap64 (7 - 1) = 6 from by unfold wrap64; omega, roundhouselaw2_SipKeys.l0, if_pos (by decide), if_pos (by decide), if_pos (by omega), show wrap64 (6 - 1) = 5 from by unfold wrap64; omega, roundhouselaw2_SipKeys.l0, if_pos (by decide), if_pos (by decide), if_pos (by omega), show wrap64 (5 - 1) = 4 from by unfold wrap64; omega,
    roundhouselaw2_SipKeys.l0, if_pos (by decide), if_pos (by decide), if_pos (by omega), show wrap64 (4 - 1) = 3 from by unfold wrap64; omega, roundhouselaw2_SipKeys.l0, if_pos (by decide), if_pos (by decide), if_pos (by omega), show wrap64 (3 - 1) = 2 from by unfold wrap64; omega, roundhouselaw2_SipKeys.l0, if_pos (by decide), if_pos (by decide), if_pos (by omega), show wrap64 (2 - 1) = 1 from by unfold wrap64; omega,
    roundhouselaw2_SipKeys.l0, if_pos (by decide), if_pos (by decide), if_pos (by omega), show wrap64 (1 - 1) = 0 from by unfold wrap64; omega, roundhouselaw2_SipKeys.l0, if_pos (by decide), if_pos (by decide), if_pos (by omega), show wrap64 (0 - 1) = -1 from by unfold wrap64; omega, roundhouselaw2_SipKeys.l0, if_neg (by decide)]
  rfl
theorem nat_byte {x : Int} (h : (Lit.int .u8 x).wf = true) : ∃ n : Nat, x = (n : Int) ∧ n < 256 := by
  have h2 : 0 ≤ x ∧ x < 256 := by
    simp [Lit.wf] at h
    rw [show IntKind.u8.min = 0 from rfl, show IntKind.u8.max = 255 from rfl] at h
    omega
  exact ⟨x.toNat, by omega, by omega⟩
theorem keys_j0 (l0 : List Int) (k : Nat) (hl : l0.length ≤ 40) (hw : ∀ x ∈ l0, (Lit.int .u8 x).wf = true) : roundhouselaw2_SipKeys.j0 (k + 10) l0 false = some true := by
  rw [show k + 10 = (k + 9) + 1 from rfl, roundhouselaw2_SipKeys.j0, if_neg (by decide)]
  refine bind_ok rfl ?_
  rw [if_pos (by simp only [List.length_nil]; omega)]
  refine bind_ok (a := l0) rfl ?_
  rw [if_pos (by omega)]
  refine bind_ok rfl ?_
  rw [if_pos (by rw [List.length_append, List.length_replicate]; omega)]
  refine bind_ok rfl ?_
  have hwx : ∀ x ∈ (l0 ++ List.replicate 16 (0 : Int)).take (16 : Int).toNat, (Lit.int .u8 x).wf = true := by
    intro x hx
    rcases List.mem_append.1 (List.mem_of_mem_take hx) with h | h
    · exact hw x h
    · rw [List.eq_of_mem_replicate h]; decide
  have hlen : ((l0 ++ List.replicate 16 (0 : Int)).take (16 : Int).toNat).length = 16 := by
    rw [List.length_take, List.length_append, List.length_replicate]
    show min 16 _ = 16
    omega
  generalize (l0 ++ List.replicate 16 (0 : Int)).take (16 : Int).toNat = x at hwx hlen
  refine bind_ok (make_ok x hlen k).1 ?_
  obtain ⟨A, B, s, e1, e2, e3⟩ := make_any l0 k
  refine bind_ok e1 (bind_ok e2 ?_)
  obtain ⟨a, b, c, d, e, f, g, i, a', b', c', d', e', f', g', i', rfl⟩ := sixteen x hlen
  rw [keys_l0]
  obtain ⟨a, rfl, ha⟩ := nat_byte (hwx a (by simp))
  obtain ⟨b, rfl, hb⟩ := nat_byte (hwx b (by simp))
  obtain ⟨c, rfl, hc⟩ := nat_byte (hwx c (by simp))
  obtain ⟨d, rfl, hd⟩ := nat_byte (hwx d (by simp))
  obtain ⟨e, rfl, he⟩ := nat_byte (hwx e (by simp))
  obtain ⟨f, rfl, hf⟩ := nat_byte (hwx f (by simp))
  obtain ⟨g, rfl, hg⟩ := nat_byte (hwx g (by simp))
  obtain ⟨i, rfl, hi⟩ := nat_byte (hwx i (by simp))
  rw [hi8_le a b c d e f g i ha hb hc hd he hf hg hi]
  have hk : keyA [(a : Int), b, c, d, e, f, g, i, a', b', c', d', e', f', g', i'] = (le8 a b c d e f g i : Int) := or8_le a b c d e f g i ha hb hc hd he hf hg hi
  unfold end2
  rw [if_pos rfl, if_pos hk, if_pos (by show (s == ((l0.length : Int) == 16)) = true; rw [e3, beq_iff_eq]; rfl), if_pos (by rw [beq_iff_eq])]
  simp
theorem SipKeys : roundhouselaw2_SipKeys.Pure := by
  intro l0 l1 _ _ hw _ _ _
  refine ⟨50, ?_⟩
  unfold roundhouselaw2_SipKeys.f
  refine bind_ok (known_ok 50 (by decide)) ?_
  rw [if_pos rfl]
  by_cases h : (l0.length : Int) > 40
  · rw [if_pos h]; rfl
  · rw [if_neg h]
    by_cases h1 : (l1.length : Int) > 40
    · rw [decide_eq_true h1]; rfl
    · rw [decide_eq_false h1]
      exact keys_j0 l0 40 (by omega) hw
end Go.Proofs.Ytmfpjchfpoonmaa.Pure
