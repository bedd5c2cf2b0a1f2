/-
  OptsStamps: any two numbers, made to a stamp, are told as they were, behind other options, too.
-/
import Derived.Test.YtjdkifdnbfmccaaOptM
import Derived.Test.YtjdkifdnbfmccaaQStamps
namespace Go.Proofs.Ytjdkifdnbfmccaa.Pure
open Go.RowKit Go.Proofs.Ytjdkifdnbfmccaa.Q Go.Proofs.YtjdkifdnbfmccaaW.PrintWords Go.Proofs.YtjdkifdnbfmccaaW.PrintMore Go.Proofs.YtjdkifdnbfmccaaW.PrintLast Go.Proofs.Ytjdkifdnbfmccaa.Own
set_option linter.unusedVariables false
set_option linter.unusedSimpArgs false

theorem ones_l0 (v e : Int) (n : Nat) (hn : n ≤ 100) : ∀ (d i k : Nat), n = i + d → roundhouselaw4_OptsStamps.l0 (k + d) v e (List.replicate i 1 ++ List.replicate d 0) i = roundhouselaw4_OptsStamps.l0 k v e (List.replicate n 1) n
  | 0, i, k, h => by
    obtain rfl : n = i := h
    rw [List.replicate_zero, List.append_nil]; rfl
  | d + 1, i, k, h => by
    rw [show k + (d + 1) = (k + d) + 1 from rfl, roundhouselaw4_OptsStamps.l0, if_pos (by simp; omega), if_pos (by omega), show wrap64 ((i : Int) + 1) = ((i + 1 : Nat) : Int) from by unfold wrap64; omega]
    have hset : List.set (List.replicate i (1 : Int) ++ List.replicate (d + 1) 0) ((i : Int)).toNat 1 = List.replicate (i + 1) 1 ++ List.replicate d 0 := by
      rw [show ((i : Int)).toNat = i from rfl, List.set_append_right _ _ (by simp), List.length_replicate, Nat.sub_self, List.replicate_succ, List.set_cons_zero, List.replicate_succ' (n := i), List.append_assoc]
      rfl
    rw [hset]
    exact ones_l0 v e n hn d (i + 1) k (by omega)
/-- So many empty options. -/
def onesOpt (n : Nat) : List S42 := (List.range n).map fun i => ⟨1, (i : Nat), 1⟩
theorem onesOpt_succ (n : Nat) : onesOpt (n + 1) = onesOpt n ++ [⟨1, (n : Nat), 1⟩] := by simp [onesOpt, List.range_succ]
theorem ones_walk (l t : List Int) (n : Nat) (h : l = List.replicate n 1 ++ t) (ht : 0 < t.length) : ∀ (d i k : Nat), n = i + d → owalk l (k + d) i (onesOpt i) = owalk l k n (onesOpt n)
  | 0, i, k, hi => by obtain rfl : n = i := hi; rfl
  | d + 1, i, k, hi => by
    have hl : l.length = n + t.length := by rw [h]; simp
    have hr : rd l (i : Nat) = 1 := by
      rw [h]
      show (List.replicate n 1 ++ t).getD i 0 = 1
      rw [List.getD_eq_getElem?_getD, List.getElem?_append_left (by simp; omega), List.getElem?_replicate, if_pos (by omega)]
      rfl
    rw [show k + (d + 1) = (k + d) + 1 from rfl, owalk_one l (k + d) i _ (by omega) hr, ← onesOpt_succ]
    exact ones_walk l t n h ht d (i + 1) k (by omega)
theorem stamp_ones (v e : Int) (hv : 0 ≤ v ∧ v < 4294967296) (he : 0 ≤ e ∧ e < 4294967296) (n : Nat) (hn : n < 9) (k : Nat) : opts_Stamp.f (k + 5 + n) (List.replicate n 1 ++ (mk12 v e ++ [0])) = some ((n : Int) + 4, v, e, true) := by
  have hlen : (List.replicate n (1 : Int) ++ (mk12 v e ++ [0])).length = n + 13 := by simp [mk12_len]
  unfold opts_Stamp.f
  rw [walk_if _ _ (by omega) (bytes_append (fun x hx => by obtain ⟨_, rfl⟩ := List.mem_replicate.1 hx; omega) (bytes_append (mk12_byte v e) (by simp)))]
  have h1 := ones_walk (List.replicate n 1 ++ (mk12 v e ++ [0])) (mk12 v e ++ [0]) n rfl (by simp) n 0 (k + 5) (by omega)
  have h2 := owalk_made (List.replicate n 1) [0] v e (k + 2) n (onesOpt n) (by simp)
  have h3 : owalk (List.replicate n 1 ++ (mk12 v e ++ [0])) (k + 2) (n + 12) (onesOpt n ++ [⟨1, n, 1⟩, ⟨1, (n + 1 : Nat), 1⟩, ⟨8, (n + 2 : Nat), 10⟩]) = some (onesOpt n ++ [⟨1, n, 1⟩, ⟨1, (n + 1 : Nat), 1⟩, ⟨8, (n + 2 : Nat), 10⟩] ++ [⟨0, (n + 12 : Nat), 1⟩], 0) := by
    have hr : rd (List.replicate n 1 ++ (mk12 v e ++ [0])) ((n + 12 : Nat) : Int) = 0 := by rw [rd_at (List.replicate n 1) _ 12 (n + 12) (by simp)]; rfl
    rw [owalk, if_neg (by omega), hr, if_neg (by decide), if_pos rfl]
  refine bind_ok (h1.trans (h2.trans h3)) ?_
  have hf : found (onesOpt n ++ [⟨1, n, 1⟩, ⟨1, (n + 1 : Nat), 1⟩, ⟨8, (n + 2 : Nat), 10⟩] ++ [⟨0, (n + 12 : Nat), 1⟩]) = (⟨8, (n + 2 : Nat), 10⟩, true) := by
    rcases (show n = 0 ∨ n = 1 ∨ n = 2 ∨ n = 3 ∨ n = 4 ∨ n = 5 ∨ n = 6 ∨ n = 7 ∨ n = 8 by omega) with rfl | rfl | rfl | rfl | rfl | rfl | rfl | rfl | rfl <;> rfl
  rw [stamp_made (List.replicate n 1) [0] v e hv he _ (n + 2) (by simp) hf]
  congr 1
theorem rmake_same (v e : Int) (hv : 0 ≤ v ∧ v < 4294967296) (he : 0 ≤ e ∧ e < 4294967296) : roundhouseref4_Make.f v e = some (mk12 v e) := by
  unfold roundhouseref4_Make.f
  refine bind_ok rfl (bind_ok (a := be4 v) rfl ?_)
  rw [if_pos (by show 4 + 4 < _; decide)]
  refine bind_ok rfl (bind_ok (a := be4 e) rfl ?_)
  rw [if_pos (by show 8 + 4 < _; decide)]
  rfl
theorem OptsStamps : roundhouselaw4_OptsStamps.Pure := by
  intro v e a hv he _
  have hv := u32_of hv
  have he := u32_of he
  obtain ⟨r, hr, h0, h1⟩ := within_ok a 9 (by decide) (by decide)
  obtain ⟨n, rfl⟩ : ∃ n : Nat, r = n := ⟨r.toNat, by omega⟩
  refine ⟨60, ?_⟩
  unfold roundhouselaw4_OptsStamps.f
  refine bind_ok (known_ok 60 (by decide)) ?_
  rw [if_pos rfl]
  refine bind_ok hr ?_
  rw [if_pos h0, show ((n : Int)).toNat = n from rfl, if_pos (by omega)]
  have h := ones_l0 v e n (by omega) n 0 (60 - n) (by omega)
  rw [show 60 - n + n = 60 from by omega] at h
  refine Eq.trans h ?_
  rw [show 60 - n = (45 - n + 14) + 1 from by omega, roundhouselaw4_OptsStamps.l0, if_neg (by simp)]
  refine bind_ok rfl ?_
  rw [if_pos (by simp; omega)]
  refine bind_ok rfl (bind_ok (a := mk12 v e) rfl ?_)
  rw [if_pos (by simp [mk12_len]; omega)]
  refine bind_ok rfl ?_
  rw [if_pos (by simp [mk12_len]; omega), List.nil_append, List.append_assoc]
  have hs := stamp_ones v e hv he n (by omega) (45 - n + 9 - n)
  rw [show 45 - n + 9 - n + 5 + n = 45 - n + 14 from by omega] at hs
  refine bind_ok hs ?_
  rw [if_pos rfl, if_pos (by simp; unfold wrap64; omega), if_pos rfl, if_pos rfl]
  refine bind_ok (a := mk12 v e) rfl ?_
  rw [if_pos (show ((mk12 v e).length : Int) = 12 from rfl)]
  refine bind_ok (a := mk12 v e) rfl (bind_ok (rmake_same v e hv he) ?_)
  simp
end Go.Proofs.Ytjdkifdnbfmccaa.Pure
