/-
  Pools that entries make are such that a wheel is made of them.
-/
import Derived.Test.YtnffajpnffibaaaWheO
import Derived.Test.YtnffajpnffibaaaWheT
namespace Go.Proofs.Ytnffajpnffibaaa.Own
open Go Go.RowKit Go.Proofs.YtnffajpnffibaaaW.PrintWords Go.Proofs.YtnffajpnffibaaaW.PrintMore Go.Proofs.YtnffajpnffibaaaW.PrintLast Go.Proofs.Ytnffajpnffibaaa.Q
set_option linter.unusedVariables false
set_option linter.unusedSimpArgs false

def SOk (s : S25) : Prop := (s.f0 = 1 ∨ s.f0 = 2 ∨ s.f0 = 3) → 1 ≤ s.f3 ∧ s.f3 ≤ 8
structure PInv (p : PL) : Prop where
  len : p.sl.length = 64
  ok : ∀ s ∈ p.sl, SOk s
theorem rd_mem (l : List S25) (i : Int) (h : 0 ≤ i) (hi : i < l.length) : rd_T25 l i ∈ l := by
  unfold rd_T25
  rw [List.getD_eq_getElem?_getD, List.getElem?_eq_getElem (by omega)]
  exact List.getElem_mem _
theorem PInv.good {p : PL} (h : PInv p) : Good p.sl := by
  refine ⟨h.len, fun i hi ha => ?_⟩
  have h2 : (rd_T25 p.sl (i : Int)).f0 = 2 := by unfold actS at ha; simpa using ha
  exact h.ok _ (rd_mem _ _ (by omega) (by rw [h.len]; omega)) (.inr (.inl h2))
theorem zero_ok : ∀ s ∈ List.replicate 64 z25, SOk s := by
  intro s hs
  rw [List.mem_replicate] at hs
  rw [hs.2]
  intro h
  exact absurd h (by decide)
theorem PInv.zero : PInv zeroP := ⟨zeroP_len, zero_ok⟩
theorem PInv.new (a b k1 k2 k3 k4 : Int) : PInv (newP a b k1 k2 k3 k4) := ⟨newP_len _ _ _ _ _ _, zero_ok⟩
theorem outB_of {x lo hi : Int} (h : outB x lo hi = false) : lo ≤ x ∧ x ≤ hi := by
  unfold outB at h
  simp only [decide_eq_false_iff_not] at h
  omega
theorem PInv.apply {p : PL} (h : PInv p) {k s a b c x y : Int} (hw : WF k s a b c x y) : PInv (applyP p k s a b c x y).1 := by
  unfold applyP
  split
  · exact .zero
  · split
    · exact .zero
    · split
      · exact .zero
      · rename_i h1 h2 h3
        have hs : 0 ≤ s ∧ s ≤ 63 := outB_of (by simpa using h1)
        have hold := h.ok _ (rd_mem p.sl s hs.1 (by rw [h.len]; omega))
        have hslot : SOk (nextSlot p k s a b c) := by
          unfold nextSlot
          rcases hw with ⟨rfl, e1, e2, e3, _⟩ | ⟨rfl, _⟩ | ⟨rfl, _⟩ | ⟨rfl, _⟩ | ⟨rfl, _⟩ | ⟨rfl, _⟩
          · simp only [if_true]
            exact fun _ => outB_of e3
          · have hb : (rd_T25 p.sl s).f0 = 1 ∨ (rd_T25 p.sl s).f0 = 3 := by
              simp [badP] at h2
              by_cases h5 : (rd_T25 p.sl s).f0 = 1
              · exact .inl h5
              · exact .inr (h2 h5)
            rw [if_neg (by decide), if_pos rfl]
            exact fun _ => hold (by rcases hb with hb | hb <;> simp [hb])
          · have hb : (rd_T25 p.sl s).f0 = 2 := by simpa [badP] using h2
            rw [if_neg (by decide), if_neg (by decide), if_pos rfl]
            exact fun _ => hold (by simp [hb])
          · rw [if_neg (by decide), if_neg (by decide), if_neg (by decide), if_pos rfl]
            intro h4
            exact absurd h4 (by simp)
          · rw [if_neg (by decide), if_neg (by decide), if_neg (by decide), if_neg (by decide), if_pos rfl]
            intro h4
            exact absurd h4 (by decide)
          · rw [if_neg (by decide), if_neg (by decide), if_neg (by decide), if_neg (by decide), if_neg (by decide)]
            exact hold
        refine ⟨by rw [nextPool_len]; exact h.len, ?_⟩
        have e : (nextPool p k s a b c x y).sl = p.sl.set s.toNat (nextSlot p k s a b c) := by
          unfold nextPool
          split <;> rfl
        show ∀ t ∈ (nextPool p k s a b c x y).sl, SOk t
        rw [e]
        intro t ht
        rcases List.mem_or_eq_of_mem_set ht with ht | rfl
        · exact h.ok t ht
        · exact hslot
theorem PInv.ap {p : PL} (h : PInv p) {e : EN} (hw : WFE e) : PInv (apE p e).1 := PInv.apply h hw
theorem PInv.mkp : ∀ (ns : List Int) {p : PL}, (∀ n ∈ ns, -9223372036854775808 ≤ n ∧ n ≤ 9223372036854775807) → PInv p → PInv (mkP p ns)
  | [], _, _, h => h
  | n :: ns, p, hn, h => by
    refine PInv.mkp ns (fun m hm => hn m (List.mem_cons_of_mem _ hm)) ?_
    split
    · exact h.ap (entP_spec n (hn n (by simp))).2
    · exact h
theorem PInv.make (ns : List Int) (most : Int) (hn : ∀ n ∈ ns, -9223372036854775808 ≤ n ∧ n ≤ 9223372036854775807) : PInv (make6 ns most) := PInv.mkp _ (fun n h => hn n (List.mem_of_mem_take h)) (PInv.new _ _ _ _ _ _)
theorem PInv.all : ∀ (l : List EN) {p : PL} (i : Int), (∀ e ∈ l, WFE e) → PInv p → PInv (allP p l i).1
  | [], _, _, _, h => h
  | e :: l, p, i, hw, h => by
    unfold allP
    split
    · exact PInv.all l _ (fun m hm => hw m (List.mem_cons_of_mem _ hm)) (h.ap (hw e (by simp)))
    · exact h
end Go.Proofs.Ytnffajpnffibaaa.Own
