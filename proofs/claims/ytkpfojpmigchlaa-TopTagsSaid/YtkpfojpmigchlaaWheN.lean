/-
  The entry that a number says is in form.
-/
import Derived.Test.YtkpfojpmigchlaaWheM
import Derived.Test.YtkpfojpmigchlaaQP
namespace Go.Proofs.Ytkpfojpmigchlaa.Own
open Go Go.RowKit Go.Proofs.YtkpfojpmigchlaaW.PrintWords Go.Proofs.YtkpfojpmigchlaaW.PrintMore Go.Proofs.YtkpfojpmigchlaaW.PrintLast Go.Proofs.Ytkpfojpmigchlaa.Q
set_option linter.unusedVariables false
set_option linter.unusedSimpArgs false

theorem outB_false (x lo hi : Int) (h : lo ≤ x ∧ x ≤ hi) : outB x lo hi = false := by
  unfold outB
  simp only [decide_eq_false_iff_not]
  omega
theorem entry_j0 (kk s : Int) (h0 : 0 ≤ kk) (h1 : kk < 1125899906842624) : ∃ e : EN, roundhouselaw6_Entry.j0 2 kk s = some (e.k, e.s, e.a, e.b, e.c, e.x, e.y) ∧ WFE e := by
  have hm : Int.tmod kk 8 = kk % 8 := Int.tmod_eq_emod_of_nonneg h0
  have hd1 : Int.tdiv kk 400 = kk / 400 := Int.tdiv_eq_ediv_of_nonneg h0
  have hd2 : Int.tdiv kk 2000 = kk / 2000 := Int.tdiv_eq_ediv_of_nonneg h0
  have hd3 : Int.tdiv kk 6000 = kk / 6000 := Int.tdiv_eq_ediv_of_nonneg h0
  have hw : ∀ z : Int, 0 ≤ z → z < 1125899906842624 → wrap64 z = z := fun z a b => by unfold wrap64; omega
  have key : ∀ b : Bool, (b = true ∨ b = false) → (b = true → True) → ∃ e : EN, roundhouselaw6_Entry.j1 1 kk s (kk % 8) b = some (e.k, e.s, e.a, e.b, e.c, e.x, e.y) ∧ WFE e := by
    intro b hb _
    cases b with
    | true =>
      refine ⟨⟨1, s, Int.tmod (wrap64 (Int.tdiv kk 400)) 5, Int.tmod (wrap64 (Int.tdiv kk 2000)) 3, wrap64 (1 + (Int.tmod (wrap64 (Int.tdiv kk 6000)) 8)), 0, 0⟩, ?_, ?_⟩
      · simp only [roundhouselaw6_Entry.j1, if_true]
      · left
        rw [hd1, hd2, hd3, hw (kk / 400) (by omega) (by omega), hw (kk / 2000) (by omega) (by omega), hw (kk / 6000) (by omega) (by omega)]
        refine ⟨rfl, outB_false _ _ _ ?_, outB_false _ _ _ ?_, outB_false _ _ _ ?_, rfl, rfl⟩
        · show 0 ≤ Int.tmod (kk / 400) 5 ∧ Int.tmod (kk / 400) 5 ≤ _
          rw [Int.tmod_eq_emod_of_nonneg (by omega)]
          omega
        · show 0 ≤ Int.tmod (kk / 2000) 3 ∧ Int.tmod (kk / 2000) 3 ≤ _
          rw [Int.tmod_eq_emod_of_nonneg (by omega)]
          omega
        · show 1 ≤ wrap64 (1 + Int.tmod (kk / 6000) 8) ∧ wrap64 (1 + Int.tmod (kk / 6000) 8) ≤ 8
          rw [Int.tmod_eq_emod_of_nonneg (by omega), hw _ (by omega) (by omega)]
          omega
    | false =>
      simp only [roundhouselaw6_Entry.j1, Bool.false_eq_true, if_false]
      by_cases h2 : kk % 8 = 2
      · exact ⟨⟨2, s, 0, 0, 0, 0, 0⟩, by rw [if_pos h2], .inr (.inl ⟨rfl, rfl, rfl, rfl, rfl, rfl⟩)⟩
      · rw [if_neg h2]
        by_cases h3 : kk % 8 = 3
        · exact ⟨⟨3, s, 0, 0, 0, 0, 0⟩, by rw [if_pos h3], .inr (.inr (.inl ⟨rfl, rfl, rfl, rfl, rfl, rfl⟩))⟩
        · rw [if_neg h3]
          by_cases h4 : kk % 8 = 4
          · exact ⟨⟨4, s, 0, 0, 0, 0, 0⟩, by rw [if_pos h4], .inr (.inr (.inr (.inl ⟨rfl, rfl, rfl, rfl, rfl, rfl⟩)))⟩
          · rw [if_neg h4]
            by_cases h5 : kk % 8 = 5
            · exact ⟨⟨5, s, 0, 0, 0, 0, 0⟩, by rw [if_pos h5], .inr (.inr (.inr (.inr (.inl ⟨rfl, rfl, rfl, rfl, rfl, rfl⟩))))⟩
            · rw [if_neg h5]
              refine ⟨⟨6, 0, 0, 0, 0, _, _⟩, rfl, .inr (.inr (.inr (.inr (.inr ⟨rfl, rfl, rfl, rfl, rfl⟩))))⟩
  show ∃ e : EN, roundhouselaw6_Entry.j0 (1 + 1) kk s = _ ∧ _
  simp only [roundhouselaw6_Entry.j0]
  rw [hm]
  split
  · exact key _ (by cases (kk % 8 == 0) <;> simp) (fun _ => trivial)
  · exact key _ (by cases (kk % 8 == 1) <;> simp) (fun _ => trivial)
theorem entry_ex (n : Int) (hn : -9223372036854775808 ≤ n ∧ n ≤ 9223372036854775807) : ∃ e : EN, roundhouselaw6_Entry.f 2 n = some (e.k, e.s, e.a, e.b, e.c, e.x, e.y) ∧ WFE e := by
  have h1 : ∃ kk, roundhouselaw6_within.f n 1125899906842624 = some kk ∧ 0 ≤ kk ∧ kk < 1125899906842624 := by
    unfold roundhouselaw6_within.f
    rw [if_neg (by decide)]
    have hlt : Int.tmod n 1125899906842624 < 1125899906842624 := Int.tmod_lt_of_pos _ (by decide)
    have hgt : -1125899906842624 < Int.tmod n 1125899906842624 := by
      have h2 : Int.tmod (-n) 1125899906842624 < 1125899906842624 := Int.tmod_lt_of_pos _ (by decide)
      rw [Int.neg_tmod] at h2
      omega
    split
    · refine ⟨_, rfl, ?_⟩
      unfold wrap64
      omega
    · exact ⟨_, rfl, by omega, hlt⟩
  obtain ⟨kk, hk, h0, h2⟩ := h1
  unfold roundhouselaw6_Entry.f
  rw [hk]
  simp only [Option.bind_some]
  split
  · exact entry_j0 kk _ h0 h2
  · exact entry_j0 kk _ h0 h2
/-- The entry that a number says. -/
def entP (n : Int) : EN := match roundhouselaw6_Entry.f 2 n with
  | some (r1, r2, r3, r4, r5, r6, r7) => ⟨r1, r2, r3, r4, r5, r6, r7⟩
  | none => ⟨6, 0, 0, 0, 0, 0, 0⟩
theorem entP_spec (n : Int) (hn : -9223372036854775808 ≤ n ∧ n ≤ 9223372036854775807) : roundhouselaw6_Entry.f 2 n = some ((entP n).k, (entP n).s, (entP n).a, (entP n).b, (entP n).c, (entP n).x, (entP n).y) ∧ WFE (entP n) := by
  obtain ⟨e, h1, h2⟩ := entry_ex n hn
  have he : entP n = e := by unfold entP; rw [h1]
  rw [he]
  exact ⟨h1, h2⟩
/-- The pool that numbers make. -/
def mkP : PL → List Int → PL
  | p, [] => p
  | p, n :: ns => mkP (if (apE p (entP n)).2 = 0 then (apE p (entP n)).1 else p) ns
def pool0 : PL := newP 10 80 (IntKind.u64.wrap ((IntKind.u64.wrap 1) * 11400714819323198485)) (Go.bits .xor .u64 (IntKind.u64.wrap 1) 19088743) (IntKind.u64.wrap ((IntKind.u64.wrap 2) * 11400714819323198485)) (Go.bits .xor .u64 (IntKind.u64.wrap 2) 19088743)
def make6 (ns : List Int) (most : Int) : PL := mkP pool0 (ns.take most.toNat)
theorem mkP_len : ∀ (ns : List Int) (p : PL), p.sl.length = 64 → (mkP p ns).sl.length = 64
  | [], p, h => h
  | n :: ns, p, h => by
    refine mkP_len ns _ ?_
    split
    · exact apE_len _ _ h
    · exact h
theorem make6_len (ns : List Int) (most : Int) : (make6 ns most).sl.length = 64 := mkP_len _ _ (newP_len _ _ _ _ _ _)
end Go.Proofs.Ytkpfojpmigchlaa.Own
