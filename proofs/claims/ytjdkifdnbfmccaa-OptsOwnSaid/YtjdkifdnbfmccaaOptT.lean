/-
  What a walk over options tells, exactly: so many options, each where it lies; the same of other bytes that begin alike; a front of them.
-/
import Derived.Test.YtjdkifdnbfmccaaOptN
import Derived.Test.YtjdkifdnbfmccaaQ18
import Derived.Test.YtjdkifdnbfmccaaQ19
namespace Go.Proofs.Ytjdkifdnbfmccaa.Pure
open Go.RowKit Go.Proofs.Ytjdkifdnbfmccaa.Q Go.Proofs.YtjdkifdnbfmccaaW.PrintWords Go.Proofs.YtjdkifdnbfmccaaW.PrintLast Go.Proofs.Ytjdkifdnbfmccaa.Own

inductive Op (l : List Int) : Nat → List S42 → Nat → Bool → Prop
  | nil (i : Nat) : Op l i [] i false
  | last (i : Nat) (h : i < l.length) (hr : rd l i = 0) : Op l i [⟨0, i, 1⟩] (i + 1) true
  | one (i j : Nat) (xs : List S42) (z : Bool) (h : i < l.length) (hr : rd l i = 1) (t : Op l (i + 1) xs j z) : Op l i (⟨1, i, 1⟩ :: xs) j z
  | more (i n j : Nat) (xs : List S42) (z : Bool) (h : i + n ≤ l.length) (h1 : 1 < rd l i) (hn : 2 ≤ n) (h2 : rd l (i + 1 : Nat) = n) (t : Op l (i + n) xs j z) : Op l i (⟨rd l i, i, n⟩ :: xs) j z
theorem owalk_op (l : List Int) (hb : ∀ i : Nat, i < l.length → 0 ≤ rd l i ∧ rd l i ≤ 255) : ∀ (d i : Nat), l.length = i + d → ∃ (m : Nat) (r : List S42) (e : Int) (j : Nat) (z : Bool), (∀ k, m ≤ k → ∀ out, owalk l k i out = if e = 0 then some (out ++ r, 0) else some ([], 5)) ∧ (e = 0 → Op l i r j z ∧ j ≤ l.length ∧ (z = false → j = l.length)) := by
  intro d
  induction d using Nat.strongRecOn with
  | ind d ih =>
    intro i hd
    by_cases h0 : d = 0
    · refine ⟨1, [], (0 : Int), i, false, fun k hk out => ?_, fun _ => ⟨.nil i, by omega, fun _ => by omega⟩⟩
      obtain ⟨k, rfl⟩ : ∃ k', k = k' + 1 := ⟨k - 1, by omega⟩
      rw [owalk, if_pos (by omega), if_pos rfl, List.append_nil]
    · have hb' := hb i (by omega)
      by_cases h1 : 1 < rd l i
      · by_cases h2 : i + 1 = l.length
        · refine ⟨1, [], 5, i, false, fun k hk out => ?_, fun h => absurd h (by decide)⟩
          obtain ⟨k, rfl⟩ : ∃ k', k = k' + 1 := ⟨k - 1, by omega⟩
          rw [owalk, if_neg (by omega), if_pos h1, if_pos h2]; rfl
        · by_cases h3 : rd l (i + 1 : Nat) < 2
          · refine ⟨1, [], 5, i, false, fun k hk out => ?_, fun h => absurd h (by decide)⟩
            obtain ⟨k, rfl⟩ : ∃ k', k = k' + 1 := ⟨k - 1, by omega⟩
            rw [owalk, if_neg (by omega), if_pos h1, if_neg h2, if_pos h3]; rfl
          · by_cases h4 : l.length < i + (rd l (i + 1 : Nat)).toNat
            · refine ⟨1, [], 5, i, false, fun k hk out => ?_, fun h => absurd h (by decide)⟩
              obtain ⟨k, rfl⟩ : ∃ k', k = k' + 1 := ⟨k - 1, by omega⟩
              rw [owalk, if_neg (by omega), if_pos h1, if_neg h2, if_neg h3, if_pos h4]; rfl
            · obtain ⟨q, hq⟩ : ∃ q : Nat, rd l (i + 1 : Nat) = q := ⟨(rd l (i + 1 : Nat)).toNat, by omega⟩
              obtain ⟨m, r, e, j, z, hm, ht⟩ := ih (d - q) (by omega) (i + q) (by omega)
              refine ⟨m + 1, ⟨rd l i, i, q⟩ :: r, e, j, z, fun k hk out => ?_, fun he => ⟨.more i q j r z (by omega) h1 (by omega) hq (ht he).1, (ht he).2⟩⟩
              obtain ⟨k, rfl⟩ : ∃ k', k = k' + 1 := ⟨k - 1, by omega⟩
              rw [owalk_more l k i out (rd l i) (rd l (i + 1 : Nat)) rfl h1 rfl (by omega) (by omega), hq, show ((q : Int)).toNat = q from rfl, hm k (by omega), List.append_assoc]
              rfl
      · by_cases h2 : rd l i = 0
        · refine ⟨1, [⟨0, i, 1⟩], 0, i + 1, true, fun k hk out => ?_, fun _ => ⟨.last i (by omega) h2, by omega, fun h => absurd h (by decide)⟩⟩
          obtain ⟨k, rfl⟩ : ∃ k', k = k' + 1 := ⟨k - 1, by omega⟩
          rw [owalk, if_neg (by omega), if_neg h1, if_pos h2, if_pos rfl, h2]
        · obtain ⟨m, r, e, j, z, hm, ht⟩ := ih (d - 1) (by omega) (i + 1) (by omega)
          have h3 : rd l i = 1 := by omega
          refine ⟨m + 1, ⟨1, i, (1 : Nat)⟩ :: r, e, j, z, fun k hk out => ?_, fun he => ⟨.one i j r z (by omega) h3 (ht he).1, (ht he).2⟩⟩
          obtain ⟨k, rfl⟩ : ∃ k', k = k' + 1 := ⟨k - 1, by omega⟩
          rw [owalk_one l k i out (by omega) h3, hm k (by omega), List.append_assoc]
          rfl
theorem op_le {l : List Int} {i j : Nat} {xs : List S42} {z : Bool} (t : Op l i xs j z) (h : i ≤ l.length) : i ≤ j ∧ j ≤ l.length := by
  induction t with
  | nil i => omega
  | last i h => omega
  | one i j xs z h1 hr t ih => have := ih (by omega); omega
  | more i n j xs z h1 _ hn _ t ih => have := ih (by omega); omega
/-- Other bytes, the same as far as the options reach: the same options. -/
theorem op_walk {l : List Int} {i j : Nat} {xs : List S42} {z : Bool} (t : Op l i xs j z) (h : i ≤ l.length) (l' : List Int) (he : ∀ q : Nat, q < j → rd l' q = rd l q) (hj : j ≤ l'.length) (hz : z = false → j = l'.length) :
    ∀ k out, owalk l' (k + xs.length + 1) i out = some (out ++ xs, 0) := by
  induction t with
  | nil i => intro k out; rw [owalk, if_pos (hz rfl), List.append_nil]
  | last i h hr =>
    intro k out
    have e := he i (by omega)
    rw [hr] at e
    rw [owalk, if_neg (by omega), e, if_neg (by decide), if_pos rfl]
  | one i j xs z h1 hr t ih =>
    intro k out
    have hl := op_le t (by omega)
    have e := he i (by omega)
    rw [hr] at e
    rw [show k + (⟨1, i, 1⟩ :: xs : List S42).length + 1 = (k + xs.length + 1) + 1 from by simp; omega, owalk_one _ _ _ _ (by omega) e, ih (by omega) he hj hz, List.append_assoc]
    rfl
  | more i n j xs z h1 h0 hn h2 t ih =>
    intro k out
    have hl := op_le t (by omega)
    have e := he i (by omega)
    have e2 := he (i + 1) (by omega)
    rw [h2] at e2
    rw [show k + (⟨rd l i, i, n⟩ :: xs : List S42).length + 1 = (k + xs.length + 1) + 1 from by simp; omega, owalk_more _ _ _ _ (rd l i) n e h0 e2 (by omega) (by omega), show ((n : Int)).toNat = n from rfl, ih (by omega) he hj hz, List.append_assoc]
    rfl
theorem op_front {l : List Int} {i j : Nat} {xs : List S42} {z : Bool} (t : Op l i xs j z) : ∀ q : Nat, q < xs.length → ∃ p : Nat, (xs.getD q z42).f1 = p ∧ p < l.length ∧ Op l i (xs.take q) p false := by
  induction t with
  | nil i => intro q hq; exact absurd hq (by simp)
  | last i h hr =>
    intro q hq
    obtain rfl : q = 0 := by simp at hq; omega
    exact ⟨i, rfl, h, .nil i⟩
  | one i j xs z h1 hr t ih =>
    intro q hq
    cases q with
    | zero => exact ⟨i, rfl, h1, .nil i⟩
    | succ q =>
      obtain ⟨p, h2, h3, h4⟩ := ih q (by simp at hq; omega)
      exact ⟨p, h2, h3, .one i p _ _ h1 hr h4⟩
  | more i n j xs z h1 h0 hn h2 t ih =>
    intro q hq
    cases q with
    | zero => exact ⟨i, rfl, by omega, .nil i⟩
    | succ q =>
      obtain ⟨p, h3, h4, h5⟩ := ih q (by simp at hq; omega)
      exact ⟨p, h3, h4, .more i n p _ _ h1 h0 hn h2 h5⟩
/-- A stamp's ten bytes lie within. -/
theorem op_stamp {l : List Int} {i j : Nat} {xs : List S42} {z : Bool} (t : Op l i xs j z) (h : i ≤ l.length) : ∀ q : Nat, q < xs.length → isStamp (xs.getD q z42) = true → ∃ p : Nat, (xs.getD q z42).f1 = p ∧ p + 10 ≤ j := by
  induction t with
  | nil i => intro q hq; exact absurd hq (by simp)
  | last i h hr =>
    intro q hq hs
    obtain rfl : q = 0 := by simp at hq; omega
    exact absurd hs (by simp [isStamp])
  | one i j xs z h1 hr t ih =>
    intro q hq hs
    cases q with
    | zero => exact absurd hs (by simp [isStamp])
    | succ q => exact ih (by omega) q (by simp at hq; omega) hs
  | more i n j xs z h1 h0 hn h2 t ih =>
    intro q hq hs
    cases q with
    | zero =>
      have hl := op_le t (by omega)
      have e : ((n : Int)) = 10 := (of_decide_eq_true hs).2
      exact ⟨i, rfl, by omega⟩
    | succ q => exact ih (by omega) q (by simp at hq; omega) hs
theorem op_end {l : List Int} {i j : Nat} {xs : List S42} {z : Bool} (t : Op l i xs j z) : ∀ q : Nat, q < xs.length → (xs.getD q z42).f0 = 0 → z = true := by
  induction t with
  | nil i => intro q hq; exact absurd hq (by simp)
  | last i h hr => intro q _ _; rfl
  | one i j xs z h1 hr t ih =>
    intro q hq hs
    cases q with
    | zero => exact absurd (show (1 : Int) = 0 from hs) (by decide)
    | succ q => exact ih q (by simp at hq; omega) hs
  | more i n j xs z h1 h0 hn h2 t ih =>
    intro q hq hs
    cases q with
    | zero => exact absurd (show rd l i = 0 from hs) (by omega)
    | succ q => exact ih q (by simp at hq; omega) hs
theorem op_len {l : List Int} {i j : Nat} {xs : List S42} {z : Bool} (t : Op l i xs j z) (h : i ≤ l.length) : i + xs.length ≤ j := by
  induction t with
  | nil i => simp
  | last i h => simp
  | one i j xs z h1 hr t ih => have := ih (by omega); simp; omega
  | more i n j xs z h1 _ hn _ t ih => have := ih (by omega); simp; omega
theorem rd_byte {l : List Int} (hb : ∀ x ∈ l, 0 ≤ x ∧ x ≤ 255) : ∀ i : Nat, i < l.length → 0 ≤ rd l i ∧ rd l i ≤ 255 := fun i hi => hb _ (by rw [rd]; simp [List.getD_eq_getElem?_getD, List.getElem?_eq_getElem hi])
/-- What the walk tells of bytes. -/
theorem walk_op (l : List Int) (hl : l.length ≤ 1048576) (hb : ∀ x ∈ l, 0 ≤ x ∧ x ≤ 255) : ∃ (m : Nat) (r : List S42) (e : Int), (∀ k, m ≤ k → opts_Walk.f k l = some (r, e)) ∧ ((e = 5 ∧ r = []) ∨ e = 0 ∧ ∃ (j : Nat) (z : Bool), Op l 0 r j z ∧ j ≤ l.length ∧ (z = false → j = l.length)) := by
  obtain ⟨m, r, e, j, z, hm, ht⟩ := owalk_op l (rd_byte hb) l.length 0 (by omega)
  by_cases he : e = 0
  · refine ⟨m, r, 0, fun k hk => ?_, .inr ⟨rfl, j, z, ht he⟩⟩
    rw [walk_if k l hl hb, hm k hk, if_pos he, List.nil_append]
  · refine ⟨m, [], 5, fun k hk => ?_, .inl ⟨rfl, rfl⟩⟩
    rw [walk_if k l hl hb, hm k hk, if_neg he]
/-- The stamp that options tell. -/
def stampOf (l : List Int) (xs : List S42) : Int × Int × Int × Bool := if (found xs).2 = true then ((found xs).1.f1 + 2, num4 (l.drop ((found xs).1.f1.toNat + 2)), num4 (l.drop ((found xs).1.f1.toNat + 6)), true) else (0, 0, 0, false)
theorem found_in (xs : List S42) (h : (found xs).2 = true) : ∃ q : Nat, q < xs.length ∧ (found xs).1 = xs.getD q z42 ∧ isStamp (xs.getD q z42) = true := by
  rcases first_range xs xs.length 0 (by omega) with h1 | ⟨q, h1, _, h2, h3⟩
  · unfold found at h
    rw [h1, if_neg (by decide)] at h
    exact absurd h (by simp)
  · refine ⟨q, by omega, ?_, h3⟩
    unfold found
    rw [h1, if_pos (by omega)]
    rfl
theorem ostamp_op {l : List Int} {j : Nat} {xs : List S42} {z : Bool} (t : Op l 0 xs j z) (hj : j ≤ l.length) : ostamp l (xs, 0) = some (stampOf l xs) := by
  unfold ostamp stampOf
  rw [if_pos rfl]
  by_cases h : (found xs).2 = true
  · rw [if_pos h, if_pos h]
    obtain ⟨q, h1, h2, h3⟩ := found_in xs h
    obtain ⟨p, h4, h5⟩ := op_stamp t (by omega) q h1 h3
    rw [if_pos (by rw [show (found (xs, (0 : Int)).1).1 = xs.getD q z42 from h2, h4]; omega)]
  · rw [if_neg h, if_neg h]
theorem rd_drop (l : List Int) (a q : Nat) : rd (l.drop a) (q : Nat) = rd l (a + q : Nat) := by
  show (l.drop a).getD q 0 = l.getD (a + q) 0
  rw [List.getD_eq_getElem?_getD, List.getD_eq_getElem?_getD, List.getElem?_drop]
theorem num4_same (l l' : List Int) (a j : Nat) (he : ∀ q : Nat, q < j → rd l' q = rd l q) (h : a + 4 ≤ j) : num4 (l'.drop a) = num4 (l.drop a) := by
  have e : ∀ q : Nat, q < 4 → rd (l'.drop a) (q : Nat) = rd (l.drop a) (q : Nat) := fun q hq => by rw [rd_drop, rd_drop, he _ (by omega)]
  have e0 := e 0 (by omega)
  have e1 := e 1 (by omega)
  have e2 := e 2 (by omega)
  have e3 := e 3 (by omega)
  unfold num4
  rw [show rd (l'.drop a) 0 = _ from e0, show rd (l'.drop a) 1 = _ from e1, show rd (l'.drop a) 2 = _ from e2, show rd (l'.drop a) 3 = _ from e3]
  rfl
theorem stampOf_same {l : List Int} {j : Nat} {xs : List S42} {z : Bool} (t : Op l 0 xs j z) (l' : List Int) (he : ∀ q : Nat, q < j → rd l' q = rd l q) : stampOf l' xs = stampOf l xs := by
  unfold stampOf
  by_cases h : (found xs).2 = true
  · rw [if_pos h, if_pos h]
    obtain ⟨q, h1, h2, h3⟩ := found_in xs h
    obtain ⟨p, h4, h5⟩ := op_stamp t (by omega) q h1 h3
    have e : (found xs).1.f1.toNat = p := by rw [h2, h4]; rfl
    rw [e, num4_same l l' (p + 2) j he (by omega), num4_same l l' (p + 6) j he (by omega)]
  · rw [if_neg h, if_neg h]
/-- The stamp of bytes is told. -/
theorem stamp_some (l : List Int) (hl : l.length ≤ 1048576) (hb : ∀ x ∈ l, 0 ≤ x ∧ x ≤ 255) : ∃ (m : Nat) (q : Int × Int × Int × Bool), ∀ k, m ≤ k → opts_Stamp.f k l = some q := by
  obtain ⟨m, r, e, hm, h | ⟨rfl, j, z, t, hj, _⟩⟩ := walk_op l hl hb
  · obtain ⟨rfl, rfl⟩ := h
    exact ⟨m, (0, 0, 0, false), fun k hk => bind_ok (hm k hk) rfl⟩
  · exact ⟨m, stampOf l r, fun k hk => bind_ok (hm k hk) (ostamp_op t hj)⟩
/-- The program's options as the document's. -/
def asRef (l : List S42) : List S56 := l.map fun x => ⟨x.f0, x.f1, x.f2⟩
theorem as_from (l : List S42) (h : l.length ≤ 1048576) : ∀ (d i : Nat), l.length = i + d → ∀ k, roundhouselaw4_as.l0 (k + d + 1) l (asRef (l.take i)) i = some (asRef l)
  | 0, i, hd, k => by
    rw [roundhouselaw4_as.l0, if_neg (by omega), List.take_of_length_le (by omega)]
  | d + 1, i, hd, k => by
    have hlen : (asRef (l.take i)).length = i := by simp [asRef]; omega
    rw [show k + (d + 1) + 1 = (k + d + 1) + 1 from by omega, roundhouselaw4_as.l0, if_pos (by omega), if_pos (by omega), if_pos (by omega)]
    rw [show wrap64 ((i : Int) + 1) = ((i + 1 : Nat) : Int) from by unfold wrap64; omega]
    have e : rd_T42 l (i : Nat) = l[i]'(by omega) := by
      show l.getD i z42 = _
      rw [List.getD_eq_getElem?_getD, List.getElem?_eq_getElem (by omega)]
      rfl
    rw [show asRef (l.take i) ++ [(⟨(rd_T42 l i).f0, (rd_T42 l i).f1, (rd_T42 l i).f2⟩ : S56)] = asRef (l.take (i + 1)) from by rw [e]; unfold asRef; rw [List.take_succ_eq_append_getElem (show i < l.length by omega), List.map_append]; rfl]
    exact as_from l h d (i + 1) (by omega) k
theorem as_ok (l : List S42) (h : l.length ≤ 1048576) (k : Nat) (hk : l.length + 1 ≤ k) : roundhouselaw4_as.f k l = some (asRef l) := by
  have e := as_from l h l.length 0 (by omega) (k - (l.length + 1))
  rw [show k - (l.length + 1) + l.length + 1 = k from by omega] at e
  exact e
theorem same_from (l : List S56) (h : l.length ≤ 1048576) : ∀ (d i : Nat), l.length = i + d → ∀ k, roundhouselaw4_same.l0 (k + d + 1) l l i = some true
  | 0, i, hd, k => by rw [roundhouselaw4_same.l0, if_neg (by omega)]
  | d + 1, i, hd, k => by
    rw [show k + (d + 1) + 1 = (k + d + 1) + 1 from by omega, roundhouselaw4_same.l0, if_pos (by omega), if_pos (by omega), if_pos (by omega), if_neg (by simp)]
    rw [show wrap64 ((i : Int) + 1) = ((i + 1 : Nat) : Int) from by unfold wrap64; omega]
    exact same_from l h d (i + 1) (by omega) k
theorem same_ok (l : List S56) (h : l.length ≤ 1048576) (k : Nat) (hk : l.length + 1 ≤ k) : roundhouselaw4_same.f k l l = some true := by
  have e := same_from l h l.length 0 (by omega) (k - (l.length + 1))
  rw [show k - (l.length + 1) + l.length + 1 = k from by omega] at e
  unfold roundhouselaw4_same.f
  rw [if_pos rfl]
  exact e
theorem asRef_len (l : List S42) : (asRef l).length = l.length := by simp [asRef]
theorem rd_left (l t : List Int) (q : Nat) (h : q < l.length) : rd (l ++ t) (q : Nat) = rd l (q : Nat) := by
  show (l ++ t).getD q 0 = l.getD q 0
  rw [List.getD_eq_getElem?_getD, List.getD_eq_getElem?_getD, List.getElem?_append_left h]
theorem rd_take (l : List Int) (p q : Nat) (h : q < p) : rd (l.take p) (q : Nat) = rd l (q : Nat) := by
  show (l.take p).getD q 0 = l.getD q 0
  rw [List.getD_eq_getElem?_getD, List.getD_eq_getElem?_getD, List.getElem?_take_of_lt h]
end Go.Proofs.Ytjdkifdnbfmccaa.Pure
