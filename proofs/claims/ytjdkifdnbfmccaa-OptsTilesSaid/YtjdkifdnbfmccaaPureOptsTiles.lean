/-
  OptsTiles: options lie one behind the other, from the first byte on, to the end, or to the one that ends them.
-/
import Derived.Test.YtjdkifdnbfmccaaOptN
import Derived.Test.YtjdkifdnbfmccaaQ21
namespace Go.Proofs.Ytjdkifdnbfmccaa.Pure
open Go.RowKit Go.Proofs.Ytjdkifdnbfmccaa.Q Go.Proofs.YtjdkifdnbfmccaaW.PrintWords Go.Proofs.YtjdkifdnbfmccaaW.PrintLast Go.Proofs.Ytjdkifdnbfmccaa.Own

/-- So many options, one behind the other, from one byte to another; the last may end them. -/
inductive Tile (l : List Int) : Nat → List S42 → Nat → Bool → Prop
  | nil (i : Nat) : Tile l i [] i false
  | last (i : Nat) (h : i < l.length) (hr : rd l i = 0) : Tile l i [⟨0, i, 1⟩] (i + 1) true
  | cons (i n j : Nat) (xs : List S42) (z : Bool) (h : i < l.length) (hn : 1 ≤ n) (hr : rd l i ≠ 0) (t : Tile l (i + n) xs j z) : Tile l i (⟨rd l i, i, n⟩ :: xs) j z
/-- What the walk tells from one byte on. -/
theorem owalk_tile (l : List Int) (hb : ∀ i : Nat, i < l.length → 0 ≤ rd l i ∧ rd l i ≤ 255) : ∀ (d i : Nat), l.length = i + d → ∃ (m : Nat) (r : List S42) (e : Int) (j : Nat) (z : Bool), (∀ k, m ≤ k → ∀ out, owalk l k i out = if e = 0 then some (out ++ r, 0) else some ([], 5)) ∧ (e = 0 → Tile l i r j z ∧ j ≤ l.length ∧ (z = false → j = l.length)) := by
  intro d
  induction d using Nat.strongRecOn with
  | ind d ih =>
    intro i hd
    by_cases h0 : d = 0
    · refine ⟨1, [], (0 : Int), i, false, fun k hk out => ?_, fun _ => ⟨.nil i, by omega, fun _ => by omega⟩⟩
      obtain ⟨k, rfl⟩ : ∃ k', k = k' + 1 := ⟨k - 1, by omega⟩
      rw [owalk, if_pos (by omega), if_pos rfl, List.append_nil]
    · have hb' := hb i (by omega)
      by_cases h1 : 1 < rd l i
      · by_cases h2 : i + 1 = l.length
        · refine ⟨1, [], 5, i, false, fun k hk out => ?_, fun h => absurd h (by decide)⟩
          obtain ⟨k, rfl⟩ : ∃ k', k = k' + 1 := ⟨k - 1, by omega⟩
          rw [owalk, if_neg (by omega), if_pos h1, if_pos h2]; rfl
        · by_cases h3 : rd l (i + 1 : Nat) < 2
          · refine ⟨1, [], 5, i, false, fun k hk out => ?_, fun h => absurd h (by decide)⟩
            obtain ⟨k, rfl⟩ : ∃ k', k = k' + 1 := ⟨k - 1, by omega⟩
            rw [owalk, if_neg (by omega), if_pos h1, if_neg h2, if_pos h3]; rfl
          · by_cases h4 : l.length < i + (rd l (i + 1 : Nat)).toNat
            · refine ⟨1, [], 5, i, false, fun k hk out => ?_, fun h => absurd h (by decide)⟩
              obtain ⟨k, rfl⟩ : ∃ k', k = k' + 1 := ⟨k - 1, by omega⟩
              rw [owalk, if_neg (by omega), if_pos h1, if_neg h2, if_neg h3, if_pos h4]; rfl
            · obtain ⟨q, hq⟩ : ∃ q : Nat, rd l (i + 1 : Nat) = q := ⟨(rd l (i + 1 : Nat)).toNat, by omega⟩
              obtain ⟨m, r, e, j, z, hm, ht⟩ := ih (d - q) (by omega) (i + q) (by omega)
              refine ⟨m + 1, ⟨rd l i, i, q⟩ :: r, e, j, z, fun k hk out => ?_, fun he => ⟨.cons i q j r z (by omega) (by omega) (by omega) (ht he).1, (ht he).2⟩⟩
              obtain ⟨k, rfl⟩ : ∃ k', k = k' + 1 := ⟨k - 1, by omega⟩
              rw [owalk_more l k i out (rd l i) (rd l (i + 1 : Nat)) rfl h1 rfl (by omega) (by omega), hq, show ((q : Int)).toNat = q from rfl, hm k (by omega), List.append_assoc]
              rfl
      · by_cases h2 : rd l i = 0
        · refine ⟨1, [⟨0, i, 1⟩], 0, i + 1, true, fun k hk out => ?_, fun _ => ⟨.last i (by omega) h2, by omega, fun h => absurd h (by decide)⟩⟩
          obtain ⟨k, rfl⟩ : ∃ k', k = k' + 1 := ⟨k - 1, by omega⟩
          rw [owalk, if_neg (by omega), if_neg h1, if_pos h2, if_pos rfl, h2]
        · obtain ⟨m, r, e, j, z, hm, ht⟩ := ih (d - 1) (by omega) (i + 1) (by omega)
          have h3 : rd l i = 1 := by omega
          refine ⟨m + 1, ⟨rd l i, i, (1 : Nat)⟩ :: r, e, j, z, fun k hk out => ?_, fun he => ⟨.cons i 1 j r z (by omega) (by omega) h2 (ht he).1, (ht he).2⟩⟩
          obtain ⟨k, rfl⟩ : ∃ k', k = k' + 1 := ⟨k - 1, by omega⟩
          rw [owalk_one l k i out (by omega) h3, hm k (by omega), List.append_assoc, h3]
          rfl
theorem rd_byte {l : List Int} (hb : ∀ x ∈ l, 0 ≤ x ∧ x ≤ 255) : ∀ i : Nat, i < l.length → 0 ≤ rd l i ∧ rd l i ≤ 255 := fun i hi => hb _ (by rw [rd]; simp [List.getD_eq_getElem?_getD, List.getElem?_eq_getElem hi])
/-- What the walk tells of bytes. -/
theorem walk_tile (l : List Int) (hl : l.length ≤ 1048576) (hb : ∀ x ∈ l, 0 ≤ x ∧ x ≤ 255) : ∃ (m : Nat) (r : List S42) (e : Int), (∀ k, m ≤ k → opts_Walk.f k l = some (r, e)) ∧ ((e = 5 ∧ r = []) ∨ e = 0 ∧ ∃ (j : Nat) (z : Bool), Tile l 0 r j z ∧ j ≤ l.length ∧ (z = false → j = l.length)) := by
  obtain ⟨m, r, e, j, z, hm, ht⟩ := owalk_tile l (rd_byte hb) l.length 0 (by omega)
  by_cases he : e = 0
  · refine ⟨m, r, 0, fun k hk => ?_, .inr ⟨rfl, j, z, ht he⟩⟩
    rw [walk_if k l hl hb, hm k hk, if_pos he, List.nil_append]
  · refine ⟨m, [], 5, fun k hk => ?_, .inl ⟨rfl, rfl⟩⟩
    rw [walk_if k l hl hb, hm k hk, if_neg he]
theorem T42_at (pre : List S42) (x : S42) (t : List S42) (q : Nat) (h : q = pre.length) : rd_T42 (pre ++ x :: t) (q : Nat) = x := by
  subst h
  show (pre ++ x :: t).getD pre.length z42 = x
  rw [List.getD_eq_getElem?_getD, List.getElem?_append_right (by omega), Nat.sub_self]
  rfl
theorem tiles_loop (l : List Int) (hl : l.length ≤ 1048576) (hb : ∀ i : Nat, i < l.length → 0 ≤ rd l i ∧ rd l i ≤ 255) : ∀ (xs : List S42) (i j : Nat) (z : Bool) (pre : List S42), Tile l i xs j z → j ≤ l.length → (z = false → j = l.length) → pre.length ≤ i →
    ∃ m, ∀ k, m ≤ k → roundhouselaw4_OptsTiles.l0 k l (pre ++ xs) i (pre.length : Nat) = some true := by
  intro xs
  induction xs with
  | nil =>
    intro i j z pre t hj hz hp
    refine ⟨1, fun k hk => ?_⟩
    obtain ⟨k, rfl⟩ : ∃ k', k = k' + 1 := ⟨k - 1, by omega⟩
    cases t
    have hz := hz rfl
    rw [List.append_nil, roundhouselaw4_OptsTiles.l0, if_neg (by omega), if_pos (by omega)]
  | cons x xs ih =>
    intro i j z pre t hj hz hp
    cases t with
    | last _ h hr =>
      refine ⟨2, fun k hk => ?_⟩
      obtain ⟨k, rfl⟩ : ∃ k', k = k' + 2 := ⟨k - 2, by omega⟩
      have e := T42_at pre ⟨0, i, 1⟩ [] pre.length rfl
      have hlen : (pre ++ [(⟨0, i, 1⟩ : S42)]).length = pre.length + 1 := by simp
      rw [roundhouselaw4_OptsTiles.l0, if_pos (by omega), if_pos (by omega), e, if_pos rfl, if_neg (show ¬ ((1 : Int) < 1) by decide), if_neg (by omega), if_pos (by omega), if_pos (by omega), hr,
        if_pos (show (0 : Int) = wrap64 0 from by unfold wrap64; omega), if_pos rfl, if_neg (by rw [hlen]; unfold wrap64; omega)]
      rw [show wrap64 ((i : Int) + 1) = ((i + 1 : Nat) : Int) from by unfold wrap64; omega, show wrap64 ((pre.length : Int) + 1) = ((pre.length + 1 : Nat) : Int) from by unfold wrap64; omega]
      rw [roundhouselaw4_OptsTiles.l0, if_neg (by rw [hlen]; omega)]
      by_cases hq : i + 1 = l.length
      · rw [if_pos (by omega)]
      · rw [if_neg (by omega), if_pos (by rw [hlen]; omega), hlen, show wrap64 (((pre.length + 1 : Nat) : Int) - 1) = (pre.length : Nat) from by unfold wrap64; omega, if_pos (by omega), if_pos (by omega), e, if_pos rfl, decide_eq_true (by omega)]
    | cons _ n _ _ _ h hn hr t =>
      obtain ⟨m, hm⟩ := ih (i + n) j z (pre ++ [⟨rd l i, i, n⟩]) t hj hz (by rw [List.length_append]; show pre.length + 1 ≤ _; omega)
      refine ⟨m + 1, fun k hk => ?_⟩
      obtain ⟨k, rfl⟩ : ∃ k', k = k' + 1 := ⟨k - 1, by omega⟩
      have e := T42_at pre ⟨rd l i, i, n⟩ xs pre.length rfl
      have hb' := hb i h
      have hlen : (pre ++ ((⟨rd l i, i, n⟩ : S42) :: xs)).length = pre.length + (xs.length + 1) := by simp
      have hin : i + n ≤ j := by
        clear ih hm e hlen
        generalize i + n = q at t
        induction t with
        | nil => omega
        | last => omega
        | cons _ _ _ _ _ _ _ _ _ ih => have := ih hj hz; omega
      rw [roundhouselaw4_OptsTiles.l0, if_pos (by rw [hlen]; omega), if_pos (by omega), e, if_pos rfl, if_neg (show ¬ ((n : Int) < 1) by omega), if_neg (by omega), if_pos (by omega), if_pos (by omega),
        if_pos (show rd l i = wrap64 (rd l i) from by unfold wrap64; omega), if_neg hr]
      rw [show wrap64 ((i : Int) + (n : Int)) = ((i + n : Nat) : Int) from by unfold wrap64; omega, show wrap64 ((pre.length : Int) + 1) = (((pre ++ [(⟨rd l i, i, n⟩ : S42)]).length : Nat) : Int) from by rw [List.length_append]; show _ = ((pre.length + 1 : Nat) : Int); unfold wrap64; omega]
      have h2 := hm k (by omega)
      rw [List.append_assoc] at h2
      exact h2
theorem OptsTiles : roundhouselaw4_OptsTiles.Pure := by
  intro ns raw hn _ hnw hr _ hrw
  obtain ⟨m1, b, hs, hbl, hbb⟩ := some_ok ns (by unfold maxLen at hn; omega)
  by_cases h60 : (raw.length : Int) > 60
  · obtain ⟨k, _, hk⟩ := known_ex 0
    refine ⟨k + 1, ?_⟩
    unfold roundhouselaw4_OptsTiles.f
    refine bind_ok hk ?_
    rw [if_pos rfl, if_pos h60]
  have hlen : (b ++ raw).length ≤ 100 := by rw [List.length_append]; omega
  have hby := bytes_append hbb (fun x hx => u8_of (hrw x hx))
  obtain ⟨m2, r, e, hw, hc⟩ := walk_tile (b ++ raw) (by omega) hby
  have fin : ∃ m3, ∀ k, m3 ≤ k → (if e = 0 then (roundhouselaw4_OptsTiles.l0 k (b ++ raw) r 0 0) else (if e = 5 then (some ((r.length : Int) == 0)) else (some false))) = some true := by
    rcases hc with ⟨rfl, rfl⟩ | ⟨rfl, j, z, t, h1, h2⟩
    · exact ⟨0, fun k _ => rfl⟩
    · obtain ⟨m, hm⟩ := tiles_loop (b ++ raw) (by omega) (rd_byte hby) r 0 j z [] t h1 h2 (by simp)
      refine ⟨m, fun k hk => ?_⟩
      rw [if_pos rfl]
      exact hm k hk
  obtain ⟨m3, hf⟩ := fin
  obtain ⟨k, hk0, hk⟩ := known_ex (m1 + m2 + m3)
  refine ⟨k + 1, ?_⟩
  unfold roundhouselaw4_OptsTiles.f
  refine bind_ok hk ?_
  rw [if_pos rfl, if_neg h60]
  refine bind_ok (hs _ (by omega)) ?_
  rw [if_pos (by omega)]
  refine bind_ok rfl (bind_ok (hw _ (by omega)) ?_)
  exact hf _ (by omega)
end Go.Proofs.Ytjdkifdnbfmccaa.Pure
