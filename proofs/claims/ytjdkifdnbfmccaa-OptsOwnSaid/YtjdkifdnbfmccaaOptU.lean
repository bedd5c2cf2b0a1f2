/-
  What a walk over options tells is what the document's walk tells; so is the stamp.
-/
import Derived.Test.YtjdkifdnbfmccaaOptT
import Derived.Test.YtjdkifdnbfmccaaQ17
namespace Go.Proofs.Ytjdkifdnbfmccaa.Pure
open Go.RowKit Go.Proofs.Ytjdkifdnbfmccaa.Q Go.Proofs.YtjdkifdnbfmccaaW.PrintWords Go.Proofs.YtjdkifdnbfmccaaW.PrintMore Go.Proofs.YtjdkifdnbfmccaaW.PrintLast Go.Proofs.Ytjdkifdnbfmccaa.Own
set_option linter.unusedVariables false
set_option linter.unusedSimpArgs false

theorem asRef_append (a b : List S42) : asRef (a ++ b) = asRef a ++ asRef b := by simp [asRef]
theorem both_walk (l : List Int) (hl : l.length ≤ 1048576) (hb : ∀ i : Nat, i < l.length → 0 ≤ rd l i ∧ rd l i ≤ 255) : ∀ (d i : Nat), l.length = i + d → ∃ (m : Nat) (r : List S42) (e : Int) (j : Nat) (z : Bool), (∀ k, m ≤ k → ∀ out : List S42, out.length ≤ i → owalk l k i out = (if e = 0 then some (out ++ r, 0) else some ([], 5)) ∧ roundhouseref4_Walk.l0 k l (asRef out) i = (if e = 0 then some (asRef (out ++ r), 0) else some ([], 5))) ∧ (e = 0 → Op l i r j z ∧ j ≤ l.length) := by
  intro d
  induction d using Nat.strongRecOn with
  | ind d ih =>
    intro i hd
    by_cases h0 : d = 0
    · refine ⟨1, [], (0 : Int), i, false, fun k hk out ho => ?_, fun _ => ⟨.nil i, by omega⟩⟩
      obtain ⟨k, rfl⟩ : ∃ k', k = k' + 1 := ⟨k - 1, by omega⟩
      rw [owalk, if_pos (by omega), if_pos rfl, List.append_nil, roundhouseref4_Walk.l0, if_neg (by omega), if_pos rfl]
      exact ⟨rfl, rfl⟩
    · have hb' := hb i (by omega)
      have w1 : wrap64 (rd l i) = rd l i := by unfold wrap64; omega
      have w2 : wrap64 ((i : Int) + 1) = ((i + 1 : Nat) : Int) := by unfold wrap64; omega
      by_cases h1 : 1 < rd l i
      · by_cases h2 : i + 1 = l.length
        · refine ⟨1, [], 5, i, false, fun k hk out ho => ?_, fun h => absurd h (by decide)⟩
          obtain ⟨k, rfl⟩ : ∃ k', k = k' + 1 := ⟨k - 1, by omega⟩
          rw [owalk, if_neg (by omega), if_pos h1, if_pos h2, if_neg (by decide), roundhouseref4_Walk.l0, if_pos (by omega), if_pos (by omega), w1, if_neg (by omega), w2, if_pos (by omega), if_neg (by decide)]
          exact ⟨rfl, rfl⟩
        · have hb2 := hb (i + 1) (by omega)
          have w3 : wrap64 (rd l ((i + 1 : Nat) : Int)) = rd l ((i + 1 : Nat) : Int) := by unfold wrap64; omega
          have w4 : wrap64 ((l.length : Int) - i) = (l.length : Int) - i := by unfold wrap64; omega
          by_cases h3 : rd l (i + 1 : Nat) < 2
          · refine ⟨1, [], 5, i, false, fun k hk out ho => ?_, fun h => absurd h (by decide)⟩
            obtain ⟨k, rfl⟩ : ∃ k', k = k' + 1 := ⟨k - 1, by omega⟩
            rw [owalk, if_neg (by omega), if_pos h1, if_neg h2, if_pos h3, if_neg (by decide), roundhouseref4_Walk.l0, if_pos (by omega), if_pos (by omega), w1, if_neg (by omega), w2, if_neg (by omega), if_pos (by omega), if_pos (by omega), if_pos h3, if_neg (by decide)]
            exact ⟨rfl, rfl⟩
          · by_cases h4 : l.length < i + (rd l (i + 1 : Nat)).toNat
            · refine ⟨1, [], 5, i, false, fun k hk out ho => ?_, fun h => absurd h (by decide)⟩
              obtain ⟨k, rfl⟩ : ∃ k', k = k' + 1 := ⟨k - 1, by omega⟩
              rw [owalk, if_neg (by omega), if_pos h1, if_neg h2, if_neg h3, if_pos h4, if_neg (by decide), roundhouseref4_Walk.l0, if_pos (by omega), if_pos (by omega), w1, if_neg (by omega), w2, if_neg (by omega), if_pos (by omega), if_pos (by omega), if_neg h3, w3, w4, if_pos (by omega), if_neg (by decide)]
              exact ⟨rfl, rfl⟩
            · obtain ⟨q, hq⟩ : ∃ q : Nat, rd l (i + 1 : Nat) = q := ⟨(rd l (i + 1 : Nat)).toNat, by omega⟩
              obtain ⟨m, r, e, j, z, hm, ht⟩ := ih (d - q) (by omega) (i + q) (by omega)
              refine ⟨m + 1, ⟨rd l i, i, q⟩ :: r, e, j, z, fun k hk out ho => ?_, fun he => ⟨.more i q j r z (by omega) h1 (by omega) hq (ht he).1, (ht he).2⟩⟩
              obtain ⟨k, rfl⟩ : ∃ k', k = k' + 1 := ⟨k - 1, by omega⟩
              have h5 := hm k (by omega) (out ++ [⟨rd l i, i, q⟩]) (by rw [List.length_append]; show out.length + 1 ≤ _; omega)
              refine ⟨?_, ?_⟩
              · rw [owalk_more l k i out (rd l i) (rd l (i + 1 : Nat)) rfl h1 rfl (by omega) (by omega), hq, show ((q : Int)).toNat = q from rfl, h5.1, List.append_assoc]; rfl
              rw [roundhouseref4_Walk.l0, if_pos (by omega), if_pos (by omega), w1, if_neg (by omega), w2, if_neg (by omega), if_pos (by omega), if_pos (by omega), if_neg h3, w3, w4, if_neg (by omega), if_pos (by rw [asRef_len]; omega), hq, show wrap64 ((i : Int) + (q : Int)) = ((i + q : Nat) : Int) from by unfold wrap64; omega]
              have h6 := h5.2
              rw [asRef_append out] at h6
              refine Eq.trans h6 ?_
              rw [List.append_assoc]; rfl
      · by_cases h2 : rd l i = 0
        · refine ⟨1, [⟨0, i, 1⟩], 0, i + 1, true, fun k hk out ho => ?_, fun _ => ⟨.last i (by omega) h2, by omega⟩⟩
          obtain ⟨k, rfl⟩ : ∃ k', k = k' + 1 := ⟨k - 1, by omega⟩
          rw [owalk, if_neg (by omega), if_neg h1, if_pos h2, if_pos rfl, h2, roundhouseref4_Walk.l0, if_pos (by omega), if_pos (by omega), w1, if_pos (by omega), if_pos (by rw [asRef_len]; omega), if_pos rfl]
          refine ⟨rfl, bind_ok rfl ?_⟩
          rw [if_pos h2, asRef_append, h2]
          rfl
        · obtain ⟨m, r, e, j, z, hm, ht⟩ := ih (d - 1) (by omega) (i + 1) (by omega)
          have h3 : rd l i = 1 := by omega
          refine ⟨m + 1, ⟨1, i, (1 : Nat)⟩ :: r, e, j, z, fun k hk out ho => ?_, fun he => ⟨.one i j r z (by omega) h3 (ht he).1, (ht he).2⟩⟩
          obtain ⟨k, rfl⟩ : ∃ k', k = k' + 1 := ⟨k - 1, by omega⟩
          have h5 := hm k (by omega) (out ++ [⟨1, i, 1⟩]) (by rw [List.length_append]; show out.length + 1 ≤ _; omega)
          refine ⟨?_, ?_⟩
          · rw [owalk_one l k i out (by omega) h3, h5.1, List.append_assoc]; rfl
          rw [roundhouseref4_Walk.l0, if_pos (by omega), if_pos (by omega), w1, if_pos (by omega), if_pos (by rw [asRef_len]; omega)]
          rw [Option.bind_some, if_neg (by omega), h3, w2]
          have h6 := h5.2
          rw [asRef_append out] at h6
          refine Eq.trans h6 ?_
          rw [List.append_assoc]; rfl
theorem T56_as (xs : List S42) (i : Nat) (h : i < xs.length) : rd_T56 (asRef xs) (i : Nat) = ⟨(xs.getD i z42).f0, (xs.getD i z42).f1, (xs.getD i z42).f2⟩ := by
  show (asRef xs).getD i z56 = _
  rw [List.getD_eq_getElem?_getD, List.getD_eq_getElem?_getD]
  simp [asRef, h]
theorem num_f (l : List Int) (n : Nat) (h : n + 4 ≤ l.length) : roundhouseref4_num.f (l.drop n) = some (num4 (l.drop n)) := by
  unfold roundhouseref4_num.f num4
  have hl : (l.drop n).length = l.length - n := List.length_drop
  rw [if_pos (by omega), if_pos (by omega), if_pos (by omega), if_pos (by omega)]
/-- The first stamp's values, from an option on. -/
def stampAt (l : List Int) (xs : List S42) (f : Int) : Int × Int × Int × Bool := if 0 ≤ f then ((xs.getD f.toNat z42).f1 + 2, num4 (l.drop ((xs.getD f.toNat z42).f1.toNat + 2)), num4 (l.drop ((xs.getD f.toNat z42).f1.toNat + 6)), true) else (0, 0, 0, false)
theorem rstamp_from (l : List Int) (hl : l.length ≤ 1048576) (xs : List S42) (j : Nat) (z : Bool) (t : Op l 0 xs j z) (hj : j ≤ l.length) (hx : xs.length ≤ 1048576) : ∀ (d i : Nat), xs.length = i + d → ∀ k, roundhouseref4_Stamp.l0 (k + 2 * d + 1) l (asRef xs) i = some (stampAt l xs (firstFrom xs d i))
  | 0, i, hd, k => by
    rw [roundhouseref4_Stamp.l0, if_neg (by rw [asRef_len]; omega)]
    rfl
  | d + 1, i, hd, k => by
    have ih := rstamp_from l hl xs j z t hj hx d (i + 1) (by omega) k
    rw [show k + 2 * (d + 1) + 1 = (k + 2 * d + 1) + 1 + 1 from by omega, roundhouseref4_Stamp.l0, if_pos (by rw [asRef_len]; omega), if_pos (by omega), T56_as xs i (by omega)]
    have hw : wrap64 ((i : Int) + 1) = ((i + 1 : Nat) : Int) := by unfold wrap64; omega
    by_cases hs : isStamp (xs.getD i z42) = true
    · obtain ⟨p, hp, hp2⟩ := op_stamp t (by omega) i (by omega) hs
      have h8 := (of_decide_eq_true hs)
      rw [firstFrom, if_pos hs]
      rw [if_pos h8.1]
      show roundhouseref4_Stamp.j1 _ l (asRef xs) i ((xs.getD i z42).f2 == 10) = _
      rw [h8.2, show ((10 : Int) == 10) = true from rfl, roundhouseref4_Stamp.j1, if_pos rfl, if_pos (by omega), if_pos (by rw [asRef_len]; omega), T56_as xs i (by omega)]
      show (if 0 ≤ wrap64 ((xs.getD i z42).f1 + 2) then _ else _) = _
      rw [hp, show wrap64 ((p : Int) + 2) = ((p + 2 : Nat) : Int) from by unfold wrap64; omega, if_pos (by omega), if_pos (by omega), show (((p + 2 : Nat) : Int)).toNat = p + 2 from rfl]
      refine bind_ok (num_f l (p + 2) (by omega)) ?_
      rw [show wrap64 (((p + 2 : Nat) : Int) + 4) = ((p + 6 : Nat) : Int) from by unfold wrap64; omega, if_pos (by omega), if_pos (by omega), show (((p + 6 : Nat) : Int)).toNat = p + 6 from rfl]
      refine bind_ok (num_f l (p + 6) (by omega)) ?_
      unfold stampAt
      rw [if_pos (by omega), show ((i : Int)).toNat = i from rfl, hp, show ((p : Int)).toNat = p from rfl]
      rfl
    · have hs2 : isStamp (xs.getD i z42) = false := by simpa using hs
      rw [firstFrom, if_neg hs]
      have hno := of_decide_eq_false hs2
      by_cases h8 : (xs.getD i z42).f0 = 8
      · rw [if_pos h8]
        show roundhouseref4_Stamp.j1 _ l (asRef xs) i ((xs.getD i z42).f2 == 10) = _
        rw [beq_false_of_ne (fun h => hno ⟨h8, h⟩), roundhouseref4_Stamp.j1, if_neg (by decide), hw]
        exact ih
      · rw [if_neg h8, roundhouseref4_Stamp.j1, if_neg (by decide), hw]
        exact ih
theorem stampAt_of (l : List Int) (xs : List S42) : stampAt l xs (firstFrom xs xs.length 0) = stampOf l xs := by
  unfold stampAt stampOf found
  by_cases h : 0 ≤ firstFrom xs xs.length 0
  · rw [if_pos h, if_pos h, if_pos rfl]
  · rw [if_neg h, if_neg h, if_neg (by decide)]
/-- Of any bytes: the options, the stamp, and both the document's. -/
theorem row_ok (l : List Int) (hl : l.length ≤ 1048576) (hb : ∀ x ∈ l, 0 ≤ x ∧ x ≤ 255) : ∃ (m : Nat) (xs : List S42) (e : Int) (s : Int × Int × Int × Bool), xs.length ≤ 1048576 ∧ ∀ k, m ≤ k → opts_Walk.f k l = some (xs, e) ∧ roundhouseref4_Walk.f k l = some (asRef xs, e) ∧ opts_Stamp.f k l = some s ∧ roundhouseref4_Stamp.f k l = some s := by
  obtain ⟨m, r, e, j, z, hm, ht⟩ := both_walk l hl (rd_byte hb) l.length 0 (by omega)
  by_cases he : e = 0
  · obtain ⟨t, hj⟩ := ht he
    have hle := op_len t (by omega)
    refine ⟨m + 2 * r.length + 1, r, 0, stampOf l r, by omega, fun k hk => ?_⟩
    have h := hm k (by omega) [] (by simp)
    rw [if_pos he, if_pos he, List.nil_append] at h
    have hw : opts_Walk.f k l = some (r, 0) := (walk_if k l hl hb).trans h.1
    have hr : roundhouseref4_Walk.f k l = some (asRef r, 0) := h.2
    refine ⟨hw, hr, bind_ok hw (ostamp_op t hj), bind_ok hr ?_⟩
    have hs := rstamp_from l hl r j z t hj (by omega) r.length 0 (by omega) (k - (2 * r.length + 1))
    rw [show k - (2 * r.length + 1) + 2 * r.length + 1 = k from by omega, stampAt_of] at hs
    exact hs
  · refine ⟨m + 1, [], 5, (0, 0, 0, false), by simp, fun k hk => ?_⟩
    have h := hm k (by omega) [] (by simp)
    rw [if_neg he, if_neg he] at h
    have hw : opts_Walk.f k l = some ([], 5) := (walk_if k l hl hb).trans h.1
    have hr : roundhouseref4_Walk.f k l = some (asRef [], 5) := h.2
    refine ⟨hw, hr, bind_ok hw rfl, bind_ok hr ?_⟩
    obtain ⟨k, rfl⟩ : ∃ k', k = k' + 1 := ⟨k - 1, by omega⟩
    rw [roundhouseref4_Stamp.l0, if_neg (by decide)]
end Go.Proofs.Ytjdkifdnbfmccaa.Pure
