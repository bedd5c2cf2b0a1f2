/-
  append onto a row of one's own that goes on in use: what it held it holds, wherever the new row lies.
-/
import Derived.Test.YtmfpjchfpoonmaaSipG
import Derived.OwnWalk
import Derived.ArgAppend
namespace Go.Proofs.Ytmfpjchfpoonmaa.Own
open Go Go.RowKit Go.Proofs.YtmfpjchfpoonmaaW.PrintWords
set_option linter.unusedVariables false
set_option linter.unusedSimpArgs false

theorem R_append_keep {P : Program} {ops : Array Oper} {rest : List Oper} {o : Oper} {a : Act} {Q : Exit → Act → World → Prop} {α : Type} {W : World} (d : Kd α) {w0 : World} (base : Nat) (hgd : o.guard = none) (s x : Operand) (t e : TypeId) (z : Value) (bytes : Nat)
    (ho : o.op = .call { callee := .builtin .append, args := #[s, x], argTypes := #[t, t] })
    (ht : P.underlying t = some (.slice e)) (hinfo : (P.info? e).map (fun i => (i.zero, i.size, i.bytes)) = some (some z, d.sz, bytes)) (hz : z.cells.size = d.sz) (hs0 : 0 < d.sz) (hb0 : 0 < bytes)
    (A : Option Addr) (n c : Nat) (xs : List α) (p : α) (cs : List Value) (ok okp : Nat → Prop) (hs : a.eval s = .slice A n c) (hx : a.eval x = .slice (some ⟨W.heap.size, 0, none⟩) 1 1) (hp : d.M W base okp p cs) (hokp : ∀ k, okp k → ok k ∧ some k ≠ (Value.slice A n c).ownBlock) (hfresh : ∀ k, W.heap.size ≤ k → ok k)
    (HO : d.R e W base ok (.slice A n c) xs) (hn : 0 < xs.length) (HB : Below base w0 W) (hbase : base ≤ W.heap.size) (hl : (xs.length + 1) * bytes ≤ 140737488355328)
    (h : ∀ v1 w1, d.R e w1 base ok v1 (xs ++ [p]) → Below base w0 w1 → W.grownBy w1 (Value.slice A n c).ownBlock → (v1.ownBlock = (Value.slice A n c).ownBlock ∨ ∃ b, v1.ownBlock = some b ∧ W.heap.size ≤ b) → d.C w1 A xs.length xs → wpList P ops Q rest (a.put o.dst v1) w1) :
    wpList P ops Q (o :: rest) a (W.alloc (.cells cs.toArray e)) := by
  have HO0 := HO
  obtain ⟨h0, inner, hown, hr⟩ := HO
  obtain ⟨hnl, hnc, hC⟩ := Kd.R_reads' HO0
  subst hnl
  obtain ⟨g, cap, he, hbg, hlt⟩ := hown.form hn
  injection he with he1 _ he2
  subst he1 he2
  obtain ⟨i0, hi, hzz⟩ := Option.map_eq_some_iff.1 hinfo
  simp only [Prod.mk.injEq] at hzz
  obtain ⟨hz0, hz1, hz2⟩ := hzz
  have hys : cs.length = d.sz := d.K_len (d.K_of_M hp)
  have h1 := d.K_one (d.K_of_M hp)
  have hlen : xs.length + 1 ≤ 140737488355328 := Nat.le_trans (Nat.le_mul_of_pos_right _ hb0) hl
  have hnews : ∀ j u, cs[j]? = some u → (W.alloc (.cells cs.toArray e)).cell? ((⟨W.heap.size, 0, none⟩ : Addr).add j) = some u := by
    simpa using World.news_of_block (cs := cs.toArray) (t := e) (fr := (0, 0)) (heap_alloc_new W (.cells cs.toArray e))
  by_cases hroom : xs.length + 1 ≤ c
  · refine wpList_append_fits (W.alloc (.cells cs.toArray e)) hgd s x t ho base e i0 d.sz ht hi hz1 g xs.length c inner hs (hown.alloc _) ⟨W.heap.size, 0, none⟩ 1 1 cs hx (by rw [hys]; simp) hnews h1 hroom ?_
    intro w1 hown1 hg1
    have hg2 : W.grownBy w1 (Value.slice (some ⟨g, 0, none⟩) xs.length c).ownBlock := World.grownBy.trans (World.grownBy_alloc W _ _) hg1
    have hat : (Value.slice (some ⟨g, 0, none⟩) (xs.length + 1) c).ownBlock = (Value.slice (some ⟨g, 0, none⟩) xs.length c).ownBlock ∨ ∃ b, (Value.slice (some ⟨g, 0, none⟩) (xs.length + 1) c).ownBlock = some b ∧ W.heap.size ≤ b := .inl rfl
    have hR := Kd.R_appended h0 hr hp hokp hfresh hown1 hg2 hat
    have hT := Kd.R_take (m := xs.length) hR (by simp)
    rw [List.take_left'  rfl] at hT
    exact h _ w1 hR ((HB.alloc hbase _).grown hg1 (by simp; omega) (fun k hk => by injection hk with hk; omega)) hg2 hat (Kd.R_reads' hT).2.2
  · refine wpList_append_grows (W.alloc (.cells cs.toArray e)) hgd s x t ho e i0 z d.sz bytes ht hi hz0 hz1 hz2 hz hs0 (some ⟨g, 0, none⟩) xs.length c inner hs (by simp) hown.1 (fun b hb j u hj => by injection hb with hb; subst hb; exact (hown.alloc _).cells (g := g) rfl _ u hj) ⟨W.heap.size, 0, none⟩ 1 1 cs hx (by rw [hys]; simp) hnews h1 (by omega) (by simp only [maxLen]; omega) hl ?_
    intro v1 w1 hown1 hg1
    have hg3 : W.grownBy w1 none := World.grownBy.trans (World.grownBy_alloc W _ _) hg1
    have hg2 : W.grownBy w1 (Value.slice (some ⟨g, 0, none⟩) xs.length c).ownBlock := ⟨hg3.os, hg3.tape, hg3.output, hg3.size, fun k hk _ => hg3.block k hk (by simp)⟩
    obtain ⟨g1, cap1, hv1, hb1, hlt1⟩ := hown1.form (by omega)
    have hat : v1.ownBlock = (Value.slice (some ⟨g, 0, none⟩) xs.length c).ownBlock ∨ ∃ b, v1.ownBlock = some b ∧ W.heap.size ≤ b := .inr ⟨g1, by rw [hv1]; rfl, by simp at hb1; omega⟩
    have hR := Kd.R_appended h0 hr hp hokp hfresh (own_weaken hown1 (by simp; omega)) hg2 hat
    exact h _ w1 hR (HB.grown hg3 hbase (fun k hk => by simp at hk)) hg2 hat (Kd.C_below hC ((Below.refl W.heap.size W).grown hg3 (Nat.le_refl _) (fun k hk => by simp at hk)))
end Go.Proofs.Ytmfpjchfpoonmaa.Own
