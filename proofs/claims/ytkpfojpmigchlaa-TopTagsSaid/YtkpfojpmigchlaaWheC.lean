/-
  All slots of a pool as one value; one of them by its place.
-/
import Derived.Test.YtkpfojpmigchlaaWheA
import Derived.Deep.MidRow
namespace Go.Proofs.Ytkpfojpmigchlaa.Own
open Go Go.RowKit Go.Proofs.YtkpfojpmigchlaaW.PrintWords Go.Proofs.YtkpfojpmigchlaaW.PrintMore Go.Proofs.YtkpfojpmigchlaaW.PrintLast Go.Proofs.Ytkpfojpmigchlaa.Q
set_option linter.unusedVariables false
set_option linter.unusedSimpArgs false

def flat (l : List S25) : List Value := l.flatMap sv
theorem flat_length (l : List S25) : (flat l).length = 5 * l.length := by
  unfold flat
  induction l with
  | nil => rfl
  | cons s l ih => rw [List.flatMap_cons, List.length_append, ih]; show 5 + _ = _; simp only [List.length_cons]; omega
theorem flat_drop (l : List S25) : ∀ q, (flat l).drop (5 * q) = flat (l.drop q) := by
  induction l with
  | nil => intro q; simp [flat]
  | cons s l ih =>
    intro q
    cases q with
    | zero => rfl
    | succ q =>
      rw [List.drop_succ_cons, ← ih q]
      show ((sv s) ++ flat l).drop (5 * (q + 1)) = _
      rw [List.drop_append]
      rw [List.drop_eq_nil_of_le (show (sv s).length ≤ 5 * (q + 1) from by show 5 ≤ _; omega), List.nil_append]
      congr 1
theorem flat_take (l : List S25) (q : Nat) (s : S25) (h : l[q]? = some s) : ((flat l).drop (5 * q)).take 5 = sv s := by
  rw [flat_drop]
  obtain ⟨hl, rfl⟩ := List.getElem?_eq_some_iff.1 h
  rw [List.drop_eq_getElem_cons hl]
  rfl
theorem flat_range {w : World} {g : Nat} {l : List S25} (h : Kd.C k25 w (some ⟨g, 3, none⟩) l.length l) : w.rangeAt g 3 (flat l) := by
  intro j v hj
  have hjl : j < 5 * l.length := by
    have := (List.getElem?_eq_some_iff.1 hj).1
    rwa [flat_length] at this
  obtain ⟨ad, e, hc⟩ := h.2.2 (by omega)
  obtain rfl := Option.some.inj e
  obtain ⟨c, hcl, hk, hcell⟩ := hc (j / 5) _ (List.getElem?_eq_getElem (by omega))
  obtain rfl := k25_open hk
  have hs := flat_take l (j / 5) _ (List.getElem?_eq_getElem (by omega))
  have h5 : (sv (l[j / 5]'(by omega)))[j % 5]? = some v := by
    rw [← hs, List.getElem?_take, if_pos (by omega), List.getElem?_drop, show 5 * (j / 5) + j % 5 = j from by omega]
    exact hj
  have := hcell (j % 5) v h5
  rw [add_in] at this
  rw [show 3 + j = 3 + (j / 5 * 5 + j % 5) from by omega]
  exact this
theorem isAgg25 (w : World) : (isAgg 25).run Try.prog w = .ok true w := by kernel_rfl
theorem size25 (w : World) : (sizeOf 25).run Try.prog w = .ok 5 w := by kernel_rfl
theorem part25 (l : List S25) (q : Nat) (s : S25) (h : l[q]? = some s) (w : World) : (part 25 (flat l).toArray (q * 5)).run Try.prog w = .ok (.agg (sv s).toArray) w := by
  unfold part
  rw [Sem.run_bind, isAgg25]
  simp only [Result.andThen_ok, if_true, Sem.run_bind, size25, Sem.run_pure]
  congr 2
  rw [← flat_take l q s h, Nat.mul_comm 5 q]
  apply Array.toList_inj.1
  simp [Array.toList_extract, List.extract_eq_take_drop]
theorem index26 (l : List S25) (hl : l.length = 64) (i : Int) (h0 : 0 ≤ i) (h1 : i < 64) (w : World) : (Instr.index 26 (.agg (flat l).toArray) (.int .i64 i)).run Try.prog w = .ok (.agg #[.int .i64 (rd_T25 l i).f0, .int .i64 (rd_T25 l i).f1, .int .i64 (rd_T25 l i).f2, .int .i64 (rd_T25 l i).f3, .int .i64 (rd_T25 l i).f4]) w := by
  have hu : (underlying 26).run Try.prog w = .ok (.array 64 25) w := by kernel_rfl
  have ha : (asIntOf (.int .i64 i)).run Try.prog w = .ok (.i64, i) w := rfl
  unfold Instr.index
  simp only [Sem.run_bind, ha, hu, Result.andThen_ok]
  rw [if_pos ⟨h0, by simpa using h1⟩]
  simp only [Sem.run_bind, size25, Result.andThen_ok]
  have hi : l[i.toNat]? = some (rd_T25 l i) := by
    unfold rd_T25
    rw [List.getD_eq_getElem?_getD, List.getElem?_eq_getElem (by omega)]
    rfl
  exact part25 l i.toNat _ hi w
end Go.Proofs.Ytkpfojpmigchlaa.Own
