/-
  OptsBehind: what is behind the end of options does not matter.
-/
import Derived.Test.YtjdkifdnbfmccaaOptT
import Derived.Test.YtjdkifdnbfmccaaQ30
namespace Go.Proofs.Ytjdkifdnbfmccaa.Pure
open Go.RowKit Go.Proofs.Ytjdkifdnbfmccaa.Q Go.Proofs.YtjdkifdnbfmccaaW.PrintWords Go.Proofs.YtjdkifdnbfmccaaW.PrintLast Go.Proofs.Ytjdkifdnbfmccaa.Own

theorem OptsBehind : roundhouselaw4_OptsBehind.Pure := by
  intro ns raw hn _ hnw hr _ hrw
  obtain ⟨m1, b, hs, hbl, hbb⟩ := some_ok ns (by unfold maxLen at hn; omega)
  by_cases h60 : (raw.length : Int) > 60
  · obtain ⟨k, hk0, hk⟩ := known_ex 0
    refine ⟨k + 1, ?_⟩
    unfold roundhouselaw4_OptsBehind.f
    refine bind_ok hk ?_
    rw [if_pos rfl, if_pos h60]
  have hz : ∀ x ∈ ([0] : List Int), 0 ≤ x ∧ x ≤ 255 := by simp
  have hbz := bytes_append hbb hz
  have hby := bytes_append hbz (fun x hx => u8_of (hrw x hx))
  have hl1 : (b ++ [0]).length = b.length + 1 := by simp
  have hl2 : (b ++ [0] ++ raw).length = b.length + 1 + raw.length := by rw [List.length_append, hl1]
  generalize hZ : b ++ [0] = Z at hbz hby hl1 hl2
  obtain ⟨m2, r, e, hw, hc⟩ := walk_op Z (by omega) hbz
  obtain ⟨m3, r', e', hw', _⟩ := walk_op (Z ++ raw) (by omega) hby
  obtain ⟨m4, q, hq⟩ := stamp_some Z (by omega) hbz
  obtain ⟨m5, q', hq'⟩ := stamp_some (Z ++ raw) (by omega) hby
  have fin : ∃ m6, ∀ k, m6 ≤ k → (if e = 0 then (if (r.length : Int) = 0 then (roundhouselaw4_OptsBehind.j0 k r r' e' q.2.1 q.2.2.1 q.2.2.2 q'.2.1 q'.2.2.1 q'.2.2.2 true) else (if 0 ≤ (wrap64 ((r.length : Int) - 1)) then (if (wrap64 ((r.length : Int) - 1)) < (r.length : Int) then (roundhouselaw4_OptsBehind.j0 k r r' e' q.2.1 q.2.2.1 q.2.2.2 q'.2.1 q'.2.2.1 q'.2.2.2 (((rd_T42 r (wrap64 ((r.length : Int) - 1))).f0) != 0)) else (none)) else (none))) else (roundhouselaw4_OptsBehind.j0 k r r' e' q.2.1 q.2.2.1 q.2.2.2 q'.2.1 q'.2.2.1 q'.2.2.2 true)) = some true := by
    have yes : ∀ k, 1 ≤ k → roundhouselaw4_OptsBehind.j0 k r r' e' q.2.1 q.2.2.1 q.2.2.2 q'.2.1 q'.2.2.1 q'.2.2.2 true = some true := by
      intro k hk
      obtain ⟨k, rfl⟩ : ∃ k', k = k' + 1 := ⟨k - 1, by omega⟩
      rw [roundhouselaw4_OptsBehind.j0, if_pos rfl]
    rcases hc with ⟨rfl, rfl⟩ | ⟨rfl, j, z, t, h1, h2⟩
    · exact ⟨1, fun k hk => by rw [if_neg (by decide)]; exact yes k hk⟩
    · have hle := op_len t (by omega)
      by_cases h0 : r.length = 0
      · exact ⟨1, fun k hk => by rw [if_pos rfl, if_pos (by omega)]; exact yes k hk⟩
      · have hx : wrap64 ((r.length : Int) - 1) = ((r.length - 1 : Nat) : Int) := by unfold wrap64; omega
        obtain ⟨x, hx2⟩ : ∃ x : S42, x = rd_T42 r ((r.length - 1 : Nat) : Int) := ⟨_, rfl⟩
        by_cases hk0 : x.f0 = 0
        · obtain rfl : z = true := op_end t (r.length - 1) (by omega) (by rw [← hk0, hx2]; rfl)
          have he : ∀ p : Nat, p < j → rd (Z ++ raw) p = rd Z p := fun p hp => rd_left Z raw p (by omega)
          have hw2 := fun k => op_walk t (by omega) (Z ++ raw) he (by omega) (fun h => absurd h (by decide)) k []
          have e2 : r = r' ∧ 0 = e' := by
            have a1 := hw' (m3 + r.length + 1) (by omega)
            rw [walk_if _ _ (by omega) hby, hw2 m3] at a1
            injection a1 with a1
            injection a1 with a1 a2
            exact ⟨(List.nil_append _).symm.trans a1, a2⟩
          obtain ⟨rfl, rfl⟩ := e2
          have s1 : q = stampOf Z r := by
            have a1 := hq (m2 + m4) (by omega)
            unfold opts_Stamp.f at a1
            rw [hw _ (by omega)] at a1
            rw [show (some (r, (0 : Int))).bind (ostamp Z) = ostamp Z (r, 0) from rfl, ostamp_op t h1] at a1
            exact (Option.some.inj a1).symm
          have s2 : q' = stampOf (Z ++ raw) r := by
            have a1 := hq' (m3 + m5) (by omega)
            unfold opts_Stamp.f at a1
            rw [hw' _ (by omega)] at a1
            rw [show (some (r, (0 : Int))).bind (ostamp (Z ++ raw)) = ostamp (Z ++ raw) (r, 0) from rfl] at a1
            have a2 : ostamp (Z ++ raw) (r, 0) = some (stampOf (Z ++ raw) r) := by
              unfold ostamp stampOf
              rw [if_pos rfl]
              by_cases h : (found r).2 = true
              · rw [if_pos h, if_pos h]
                obtain ⟨q, h1, h2, h3⟩ := found_in r h
                obtain ⟨p, h4, h5⟩ := op_stamp t (by omega) q h1 h3
                rw [if_pos (by rw [show (found (r, (0 : Int)).1).1 = r.getD q z42 from h2, h4]; omega)]
              · rw [if_neg h, if_neg h]
            rw [a2] at a1
            exact (Option.some.inj a1).symm
          rw [stampOf_same t (Z ++ raw) he, ← s1] at s2
          subst s2
          refine ⟨r.length + 3, fun k hk => ?_⟩
          rw [if_pos rfl, if_neg (by omega), hx, if_pos (by omega), if_pos (by omega), ← hx2, hk0]
          obtain ⟨k, rfl⟩ : ∃ k', k = k' + 1 := ⟨k - 1, by omega⟩
          rw [show ((0 : Int) != 0) = false from rfl, roundhouselaw4_OptsBehind.j0, if_neg (by decide), if_pos rfl]
          refine bind_ok (as_ok _ (by omega) _ (by omega)) (bind_ok (as_ok _ (by omega) _ (by omega)) (bind_ok (same_ok _ (by rw [asRef_len]; omega) _ (by rw [asRef_len]; omega)) ?_))
          rw [if_pos rfl, if_pos rfl, if_pos rfl]
          simp
        · refine ⟨1, fun k hk => ?_⟩
          rw [if_pos rfl, if_neg (by omega), hx, if_pos (by omega), if_pos (by omega), ← hx2, show (x.f0 != 0) = true from by simpa using hk0]
          exact yes k hk
  obtain ⟨m6, hf⟩ := fin
  obtain ⟨k, hk0, hk⟩ := known_ex (m1 + m2 + m3 + m4 + m5 + m6)
  refine ⟨k + 1, ?_⟩
  unfold roundhouselaw4_OptsBehind.f
  refine bind_ok hk ?_
  rw [if_pos rfl, if_neg h60]
  refine bind_ok (hs _ (by omega)) ?_
  rw [if_pos (by omega), hZ]
  refine bind_ok rfl (bind_ok (hw _ (by omega)) (bind_ok rfl ?_))
  rw [if_pos (by rw [hl1]; show 0 + _ < _; omega)]
  refine bind_ok rfl ?_
  rw [List.nil_append, if_pos (by rw [hl1]; omega)]
  refine bind_ok (hw' _ (by omega)) (bind_ok (hq _ (by omega)) (bind_ok rfl ?_))
  rw [if_pos (by rw [hl1]; show 0 + _ < _; omega)]
  refine bind_ok rfl ?_
  rw [List.nil_append, if_pos (by rw [hl1]; omega)]
  refine bind_ok (hq' _ (by omega)) ?_
  exact hf _ (by omega)
end Go.Proofs.Ytjdkifdnbfmccaa.Pure
