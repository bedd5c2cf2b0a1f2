/-
  What does not matter for a wheel.
-/
import Derived.Test.YtnffajpnffibaaaWheX
namespace Go.Proofs.Ytnffajpnffibaaa.Own
open Go Go.RowKit Go.Proofs.YtnffajpnffibaaaW.PrintWords Go.Proofs.YtnffajpnffibaaaW.PrintMore Go.Proofs.YtnffajpnffibaaaW.PrintLast Go.Proofs.Ytnffajpnffibaaa.Q
set_option linter.unusedVariables false
set_option linter.unusedSimpArgs false

/-! What does not matter -/
theorem flatMap_same {α β : Type} (f g : α → List β) : ∀ l : List α, (∀ x ∈ l, f x = g x) → l.flatMap f = l.flatMap g
  | [], _ => rfl
  | x :: l, h => by
    rw [List.flatMap_cons, List.flatMap_cons, h x (by simp), flatMap_same f g l (fun y hy => h y (by simp [hy]))]
/-- Two rows of slots with the same ones active. -/
def Alike (a b : List S25) : Prop := ∀ i : Nat, i < 64 → ((rd_T25 a (i : Int)).f0 = 2 ↔ (rd_T25 b (i : Int)).f0 = 2) ∧ ((rd_T25 a (i : Int)).f0 = 2 → (rd_T25 a (i : Int)).f1 = (rd_T25 b (i : Int)).f1 ∧ (rd_T25 a (i : Int)).f2 = (rd_T25 b (i : Int)).f2 ∧ (rd_T25 a (i : Int)).f3 = (rd_T25 b (i : Int)).f3)
theorem Alike.refl (a : List S25) : Alike a a := fun i _ => ⟨Iff.rfl, fun _ => ⟨rfl, rfl, rfl⟩⟩
theorem Alike.acts {a b : List S25} (h : Alike a b) : acts a = acts b := by
  unfold Own.acts
  refine List.filter_congr fun i hi => ?_
  rw [List.mem_range] at hi
  have h1 := (h i hi).1
  unfold actS
  by_cases h2 : (rd_T25 a (i : Int)).f0 = 2
  · have h3 := h1.1 h2
    simp [h2, h3]
  · have h3 : ¬ (rd_T25 b (i : Int)).f0 = 2 := fun e => h2 (h1.2 e)
    rw [beq_eq_false_iff_ne.2 h2, beq_eq_false_iff_ne.2 h3]
theorem Alike.wt {a b : List S25} (h : Alike a b) (i : Nat) (hi : i ∈ Own.acts a) : wtS a i = wtS b i := by
  rw [mem_acts] at hi
  unfold wtS
  rw [((h i hi.1).2 hi.2).2.2]
theorem Alike.roundE {a b : List S25} (h : Alike a b) : roundE a = roundE b := by
  unfold Own.roundE turnsOf
  rw [← h.acts]
  exact flatMap_same _ _ _ fun i hi => by rw [h.wt i hi]
theorem Alike.turn {a b : List S25} (h : Alike a b) (s : WSt) (i : Nat) (hi : i ∈ Own.acts a) : turn a s i = turn b s i := by
  rw [mem_acts] at hi
  obtain ⟨h1, h2, h3⟩ := (h i hi.1).2 hi.2
  have e1 : pA a i = pA b i := by unfold pA; rw [h1, h2]
  have e2 : pB a i = pB b i := by unfold pB; rw [h1, h2]
  unfold Own.turn
  rw [e1, e2]
theorem Alike.st {a b : List S25} (h : Alike a b) (hE : 0 < (Own.roundE a).length) : ∀ t, st a t = st b t
  | 0 => rfl
  | t + 1 => by
    have hm : (Own.roundE a).getD (t % (Own.roundE a).length) 0 ∈ Own.acts a := by
      refine mem_roundE _ _ ?_
      rw [List.getD_eq_getElem?_getD, List.getElem?_eq_getElem (Nat.mod_lt _ hE)]
      exact List.getElem_mem _
    show Own.turn a (Own.st a t) _ = Own.turn b (Own.st b t) _
    rw [← h.st hE t, ← h.roundE, h.turn _ _ hm]
theorem Alike.wheel {p q : PL} (hp : PInv p) (h : Alike p.sl q.sl) : wheelOf p.sl = wheelOf q.sl := by
  unfold wheelOf
  rw [← h.acts]
  split
  · rfl
  · rename_i ha
    rw [h.st (roundE_pos hp ha)]
/-- New keys, and a slot that is shut, do not matter. -/
theorem rotate_alike {p q : PL} (hq : PInv q) (h : Alike p.sl q.sl) (x y : Int) : (applyP q 6 0 0 0 0 x y).2 = 0 ∧ Alike p.sl (applyP q 6 0 0 0 0 x y).1.sl := by
  have e : applyP q 6 0 0 0 0 x y = (nextPool q 6 0 0 0 0 x y, 0) := by
    unfold applyP
    rw [if_neg (by decide), if_neg (by simp [badP]), if_neg (fun h => absurd h.1 (by decide))]
  rw [e]
  refine ⟨rfl, ?_⟩
  have e2 : (nextPool q 6 0 0 0 0 x y).sl = q.sl.set (0 : Int).toNat (rd_T25 q.sl 0) := by
    unfold nextPool nextSlot
    rw [if_pos rfl, if_neg (by decide), if_neg (by decide), if_neg (by decide), if_neg (by decide), if_neg (by decide)]
  intro i hi
  show _ ∧ _
  rw [show (nextPool q 6 0 0 0 0 x y, (0 : Int)).1.sl = _ from e2, rd_set _ _ _ _ (by decide) (by rw [hq.len]; decide) (by omega)]
  by_cases h2 : (i : Int) = 0
  · rw [if_pos h2]
    have := h i hi
    rw [h2] at this ⊢
    exact this
  · rw [if_neg h2]
    exact h i hi
theorem shut_alike {p q : PL} (hq : PInv q) (h : Alike p.sl q.sl) (s : Int) (h0 : 0 ≤ s) (h1 : s < 64) (hs : (rd_T25 q.sl s).f0 = 1 ∨ (rd_T25 q.sl s).f0 = 3) : (applyP q 4 s 0 0 0 0 0).2 = 0 ∧ Alike p.sl (applyP q 4 s 0 0 0 0 0).1.sl := by
  have hb : badP q 4 s 0 0 = false := by
    rcases hs with hs | hs <;> simp [badP, hs]
  have e : applyP q 4 s 0 0 0 0 0 = (nextPool q 4 s 0 0 0 0 0, 0) := by
    unfold applyP
    rw [if_neg (by rw [outB_false _ _ _ (by omega)]; decide), if_neg (by rw [hb]; decide), if_neg (fun h => absurd h.1 (by decide))]
  rw [e]
  refine ⟨rfl, ?_⟩
  have e2 : (nextPool q 4 s 0 0 0 0 0).sl = q.sl.set s.toNat { (rd_T25 q.sl s) with f0 := 4, f4 := q.ep } := by
    unfold nextPool nextSlot
    rw [if_neg (by decide), if_neg (by decide), if_neg (by decide), if_neg (by decide), if_pos rfl]
  intro i hi
  show _ ∧ _
  rw [show (nextPool q 4 s 0 0 0 0 0, (0 : Int)).1.sl = _ from e2, rd_set _ _ _ _ h0 (by rw [hq.len]; omega) (by omega)]
  by_cases h2 : (i : Int) = s
  · rw [if_pos h2]
    have h3 := h i hi
    rw [h2] at h3 ⊢
    have h4 : ¬ (rd_T25 q.sl s).f0 = 2 := by omega
    have h5 : ¬ (rd_T25 p.sl s).f0 = 2 := fun e => h4 (h3.1.1 e)
    exact ⟨⟨fun e => absurd e h5, fun e => absurd (show (4 : Int) = 2 from e) (by decide)⟩, fun e => absurd e h5⟩
  · rw [if_neg h2]
    exact h i hi
end Go.Proofs.Ytnffajpnffibaaa.Own
