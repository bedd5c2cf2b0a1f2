/-
  OptsFronts: a front of whole options has just these.
-/
import Derived.Test.YtjdkifdnbfmccaaOptT
import Derived.Test.YtjdkifdnbfmccaaQ32
namespace Go.Proofs.Ytjdkifdnbfmccaa.Pure
open Go.RowKit Go.Proofs.Ytjdkifdnbfmccaa.Q Go.Proofs.YtjdkifdnbfmccaaW.PrintWords Go.Proofs.YtjdkifdnbfmccaaW.PrintLast Go.Proofs.Ytjdkifdnbfmccaa.Own

theorem OptsFronts : roundhouselaw4_OptsFronts.Pure := by
  intro ns raw cut hn _ hnw hr _ hrw hcw
  obtain ⟨m1, b, hs, hbl, hbb⟩ := some_ok ns (by unfold maxLen at hn; omega)
  by_cases h40 : (raw.length : Int) > 40
  · obtain ⟨k, hk0, hk⟩ := known_ex 0
    refine ⟨k + 1, ?_⟩
    unfold roundhouselaw4_OptsFronts.f
    refine bind_ok hk ?_
    rw [if_pos rfl, if_pos h40]
  have hby := bytes_append hbb (fun x hx => u8_of (hrw x hx))
  have hl1 : (b ++ raw).length = b.length + raw.length := by simp
  generalize hZ : b ++ raw = Z at hby hl1
  obtain ⟨m2, r, e, hw, hc⟩ := walk_op Z (by omega) hby
  have fin : ∃ m3, ∀ k, m3 ≤ k → (if e = 0 then (roundhouselaw4_OptsFronts.j0 k cut Z r e ((r.length : Int) == 0)) else (roundhouselaw4_OptsFronts.j0 k cut Z r e true)) = some true := by
    rcases hc with ⟨rfl, rfl⟩ | ⟨rfl, j, z, t, h1, h2⟩
    · refine ⟨1, fun k hk => ?_⟩
      obtain ⟨k, rfl⟩ : ∃ k', k = k' + 1 := ⟨k - 1, by omega⟩
      rw [if_neg (by decide), roundhouselaw4_OptsFronts.j0, if_pos rfl, if_neg (by decide)]
    · have hle := op_len t (by omega)
      by_cases h0 : r.length = 0
      · refine ⟨1, fun k hk => ?_⟩
        obtain ⟨k, rfl⟩ : ∃ k', k = k' + 1 := ⟨k - 1, by omega⟩
        obtain rfl := List.length_eq_zero_iff.1 h0
        rw [if_pos rfl, roundhouselaw4_OptsFronts.j0, if_pos (by decide), if_pos rfl]
        cases t
        have := h2 rfl
        rw [← this]
        rfl
      · obtain ⟨x, hx, g0, g1⟩ := within_ok cut (r.length : Int) (by omega) (by omega)
        obtain ⟨q, rfl⟩ : ∃ q : Nat, x = q := ⟨x.toNat, by omega⟩
        obtain ⟨p, hp, hpl, tp⟩ := op_front t q (by omega)
        have hp' : (rd_T42 r (q : Nat)).f1 = p := hp
        have hw2 := fun k => op_walk tp (by omega) (Z.take p) (fun i hi => rd_take Z p i hi) (by rw [List.length_take]; omega) (fun _ => by rw [List.length_take]; omega) k []
        have hbp : ∀ x ∈ Z.take p, 0 ≤ x ∧ x ≤ 255 := fun x hx => hby x (List.mem_of_mem_take hx)
        have hlt : (r.take q).length = q := by rw [List.length_take]; omega
        refine ⟨r.length + 5, fun k hk => ?_⟩
        obtain ⟨k, rfl⟩ : ∃ k', k = k' + 2 := ⟨k - 2, by omega⟩
        have hw3 : opts_Walk.f k (Z.take p) = some (r.take q, 0) := by
          rw [walk_if _ _ (by rw [List.length_take]; omega) hbp]
          have a1 := hw2 (k - (q + 1))
          rw [hlt, show k - (q + 1) + q + 1 = k from by omega, List.nil_append] at a1
          exact a1
        rw [if_pos rfl, show ((r.length : Int) == 0) = false from by simpa using h0, roundhouselaw4_OptsFronts.j0, if_neg (by decide)]
        refine bind_ok hx ?_
        rw [if_pos g0, if_pos g1, hp', if_neg (by omega), decide_eq_false (show ¬ ((p : Int) > (Z.length : Int)) by omega), roundhouselaw4_OptsFronts.j1, if_neg (by decide), if_pos g0, if_pos g1, hp', if_pos (by omega), if_pos (by omega), show ((p : Int)).toNat = p from rfl]
        refine bind_ok hw3 ?_
        rw [if_pos rfl]
        refine bind_ok (as_ok (r.take q) (by omega) _ (by omega)) ?_
        rw [if_pos (by omega), show ((q : Int)).toNat = q from rfl]
        exact bind_ok (as_ok (r.take q) (by omega) _ (by omega)) (bind_ok (same_ok _ (by rw [asRef_len]; omega) _ (by rw [asRef_len]; omega)) rfl)
  obtain ⟨m3, hf⟩ := fin
  obtain ⟨k, hk0, hk⟩ := known_ex (m1 + m2 + m3)
  refine ⟨k + 1, ?_⟩
  unfold roundhouselaw4_OptsFronts.f
  refine bind_ok hk ?_
  rw [if_pos rfl, if_neg h40]
  refine bind_ok (hs _ (by omega)) ?_
  rw [if_pos (by omega), hZ]
  exact bind_ok rfl (bind_ok (hw _ (by omega)) (hf _ (by omega)))
end Go.Proofs.Ytjdkifdnbfmccaa.Pure
