/-
  roundhouseref7.Make's plain function tells the wheel.
-/
import Derived.Test.YtnffajpnffibaaaWheT
import Derived.Test.YtnffajpnffibaaaQ7
namespace Go.Proofs.Ytnffajpnffibaaa.Own
open Go.RowKit Go.Proofs.YtnffajpnffibaaaW.PrintWords Go.Proofs.YtnffajpnffibaaaW.PrintMore Go.Proofs.YtnffajpnffibaaaW.PrintLast Go.Proofs.Ytnffajpnffibaaa.Q
set_option linter.unusedVariables false
set_option linter.unusedSimpArgs false

def offI (sl : List S25) (i : Nat) : Nat := (turnsOf sl ((List.range i).filter (actS sl))).length
theorem offI_zero (sl : List S25) : offI sl 0 = 0 := rfl
theorem offI_end (sl : List S25) : offI sl 64 = (roundE sl).length := rfl
theorem offI_act (sl : List S25) (i : Nat) (h : actS sl i = true) : offI sl (i + 1) = offI sl i + wtS sl i := by
  unfold offI
  rw [List.range_succ, List.filter_append, turnsOf_append, List.length_append]
  simp [h, turnsOf]
theorem offI_not (sl : List S25) (i : Nat) (h : actS sl i = false) : offI sl (i + 1) = offI sl i := by
  unfold offI
  rw [List.range_succ, List.filter_append, turnsOf_append, List.length_append]
  simp [h, turnsOf]
theorem roundE_getI (sl : List S25) (i : Nat) (hi : i < 64) (ha : actS sl i = true) (j : Nat) (hj : j < wtS sl i) : offI sl i + j < (roundE sl).length ∧ (roundE sl).getD (offI sl i + j) 0 = i := by
  obtain ⟨rest, e0⟩ : ∃ rest, List.range 64 = List.range i ++ (i :: rest) := ⟨(List.range 64).drop (i + 1), by
    conv => lhs; rw [← List.take_append_drop i (List.range 64), List.take_range, Nat.min_eq_left (by omega), List.drop_eq_getElem_cons (by simp; exact hi)]
    simp⟩
  have e : roundE sl = turnsOf sl ((List.range i).filter (actS sl)) ++ (List.replicate (wtS sl i) i ++ turnsOf sl (rest.filter (actS sl))) := by
    unfold roundE acts
    rw [e0, List.filter_append, turnsOf_append, List.filter_cons_of_pos ha, turnsOf_cons]
  have hl : offI sl i + j < (roundE sl).length := by
    rw [e]
    simp only [List.length_append, List.length_replicate]
    unfold offI
    omega
  refine ⟨hl, ?_⟩
  rw [List.getD_eq_getElem?_getD, e, List.getElem?_append_right (by unfold offI; omega)]
  unfold offI
  rw [Nat.add_sub_cancel_left, List.getElem?_append_left (by simp; exact hj), List.getElem?_replicate, if_pos hj]
  rfl
def nxL (nx : Nat → Nat) : List Int := (List.range 64).map fun i => (nx i : Int)
theorem nxL_len (nx : Nat → Nat) : (nxL nx).length = 64 := by simp [nxL]
theorem rd_nxL (nx : Nat → Nat) (i : Nat) (hi : i < 64) : rd (nxL nx) (i : Int) = (nx i : Int) := by
  unfold rd nxL
  rw [Int.toNat_natCast, List.getD_eq_getElem?_getD, List.getElem?_map, List.getElem?_range hi]
  rfl
theorem set_nxL (nx : Nat → Nat) (i : Nat) (hi : i < 64) (n : Nat) : (nxL nx).set i (n : Int) = nxL (upd nx i n) := by
  unfold nxL
  apply List.ext_getElem
  · simp
  · intro j h1 h2
    rw [List.getElem_set]
    split
    · rename_i e; subst e; simp [upd]
    · rename_i e
      simp only [List.getElem_map, List.getElem_range, upd]
      rw [if_neg (fun h => e h.symm)]
theorem order_val (k : Nat) (hk : 1 ≤ k) (a b c d e : Int) : roundhouseref7_order.f k a b c d e = some (((sipWords 0 0 [1, b, c] % 127).toNat : Int), (((sipWords 0 0 [2, b, c] % 126).toNat + 1 : Nat) : Int)) := by
  obtain ⟨j, rfl⟩ : ∃ j, k = j + 1 := ⟨k - 1, by omega⟩
  have h1 := (words_range 0 0 [1, b, c]).1
  have h2 := (words_range 0 0 [2, b, c]).1
  unfold roundhouseref7_order.f
  have e1 : roundhouseref2_Words.f (j + 1) 0 0 [1, b, c] = some (sipWords 0 0 [1, b, c]) := by
    show (if ([1, b, c] : List Int).length ≤ 1048576 then some (sipWords 0 0 [1, b, c]) else none) = _
    rw [if_pos (by simp)]
  have e2 : roundhouseref2_Words.f (j + 1) 0 0 [2, b, c] = some (sipWords 0 0 [2, b, c]) := by
    show (if ([2, b, c] : List Int).length ≤ 1048576 then some (sipWords 0 0 [2, b, c]) else none) = _
    rw [if_pos (by simp)]
  rw [e1, Option.bind_some, e2, Option.bind_some]
  generalize sipWords 0 0 [1, b, c] = s1 at h1
  generalize sipWords 0 0 [2, b, c] = s2 at h2
  rw [Int.tmod_eq_emod_of_nonneg h1, Int.tmod_eq_emod_of_nonneg h2, w64 (s1 % 127) (by omega) (by omega), w64 (s2 % 126) (by omega) (by omega), w64 (s2 % 126 + 1) (by omega) (by omega)]
  congr 2
  · omega
  · omega
theorem order_slot (sl : List S25) (i k : Nat) (hk : 1 ≤ k) : roundhouseref7_order.f k ((rd_T25 sl (i : Int)).f0) ((rd_T25 sl (i : Int)).f1) ((rd_T25 sl (i : Int)).f2) ((rd_T25 sl (i : Int)).f3) ((rd_T25 sl (i : Int)).f4) = some ((pA sl i : Int), (pB sl i : Int)) := order_val k hk _ _ _ _ _

/-! The loops -/
theorem plc_num (a b n : Nat) (ha : a < 127) (hb : 1 ≤ b ∧ b ≤ 126) (hn : n ≤ 20000) : Int.tmod (wrap64 ((a : Int) + (wrap64 ((n : Int) * (b : Int))))) 127 = ((plc a b n : Nat) : Int) := by
  have h1 : n * b ≤ 20000 * 126 := Nat.mul_le_mul hn hb.2
  have e : (n : Int) * (b : Int) = ((n * b : Nat) : Int) := by simp
  rw [e]
  generalize n * b = z at *
  rw [w64 (z : Int) (by omega) (by omega), w64 _ (by omega) (by omega), Int.tmod_eq_emod_of_nonneg (by omega)]
  unfold plc
  omega

theorem ref_l4 (sl : List S25) (w : List Int) (hw : w.length = 127) (hm : ∀ q, q < 127 → ¬ free w q → 0 ≤ w.getD q 0) (i : Nat) (hi : i < 64) (nx : Nat → Nat) (x6 x11 : Int) (x7 : Bool) (r : List Int) (m : Nat) (hm2 : m ≤ 20000) (hf : free w (plc (pA sl i) (pB sl i) m))
    (h : Reach (fun f => roundhouseref7_Make.l3 f sl (w.set (plc (pA sl i) (pB sl i) m) (i : Int)) (nxL (upd nx i m)) (wrap64 (x6 - 1)) x7 (i : Int) (pA sl i : Int) (pB sl i : Int) (wrap64 (x11 + 1))) r) :
    ∀ (d n : Nat), n + d = m → (∀ j, n ≤ j → j < m → ¬ free w (plc (pA sl i) (pB sl i) j)) → Reach (fun f => roundhouseref7_Make.l4 f sl w (nxL (upd nx i n)) x6 x7 (i : Int) (pA sl i : Int) (pB sl i : Int) x11) r := by
  intro d
  induction d with
  | zero =>
    intro n hn hj
    obtain rfl : n = m := by omega
    refine Reach.step 0 (fun f _ => ?_) h
    have hq := plc_lt (pA sl i) (pB sl i) n
    have hun : upd nx i n i = n := by unfold upd; rw [if_pos rfl]
    simp only [roundhouseref7_Make.l4]
    rw [if_pos (by omega), if_pos (by rw [nxL_len]; omega), rd_nxL _ i hi, hun, plc_num _ _ _ (pA_lt _ _) (pB_lt _ _) hm2, if_pos (by omega), if_pos (by omega), if_neg, Int.toNat_natCast]
    unfold free at hf
    unfold rd
    rw [Int.toNat_natCast, hf]
    decide
  | succ d ih =>
    intro n hn hj
    have hnf := hj n (Nat.le_refl _) (by omega)
    refine Reach.step 0 (fun f _ => ?_) (ih (n + 1) (by omega) (fun j h1 h2 => hj j (by omega) h2))
    have hq := plc_lt (pA sl i) (pB sl i) n
    have hun : upd nx i n i = n := by unfold upd; rw [if_pos rfl]
    have hset := set_nxL (upd nx i n) i hi (n + 1)
    rw [upd_upd] at hset
    simp only [roundhouseref7_Make.l4]
    rw [if_pos (by omega), if_pos (by rw [nxL_len]; omega), rd_nxL _ i hi, hun, plc_num _ _ _ (pA_lt _ _) (pB_lt _ _) (by omega), if_pos (by omega), if_pos (by omega), if_pos (by unfold rd; rw [Int.toNat_natCast]; exact hm _ hq hnf), Int.toNat_natCast, show wrap64 ((n : Int) + 1) = ((n + 1 : Nat) : Int) from by rw [w64 _ (by omega) (by omega)]; omega, hset]
/-- What the turns have left, at each place of the round. -/
structure RefAt (sl : List S25) (t : Nat) : Prop where
  l3 : ∀ (i : Nat), i < 64 → actS sl i = true → ∀ j, j ≤ wtS sl i → t % (roundE sl).length = (offI sl i + j) % (roundE sl).length → Reach (fun f => roundhouseref7_Make.l3 f sl (st sl t).w (nxL (st sl t).nx) ((127 - t : Nat) : Int) true (i : Int) (pA sl i : Int) (pB sl i : Int) (j : Int)) (st sl 127).w
theorem wt_f3 (sl : List S25) (hG : Good sl) (i : Nat) (hi : i < 64) (ha : actS sl i = true) : ((wtS sl i : Nat) : Int) = (rd_T25 sl (i : Int)).f3 ∧ 1 ≤ wtS sl i ∧ wtS sl i ≤ 8 := by
  have h := hG.wt i hi ha
  unfold wtS
  omega
/-- Slots that are not active are passed over; at an active one the walk goes on as it says. -/
theorem ref_l2_step (sl : List S25) (hG : Good sl) (w nl : List Int) (x6 : Int) (x7 : Bool) (r : List Int) (i : Nat) (hi : i < 64) :
    (actS sl i = false → Reach (fun f => roundhouseref7_Make.l2 f sl w nl x6 x7 ((i + 1 : Nat) : Int)) r → Reach (fun f => roundhouseref7_Make.l2 f sl w nl x6 x7 (i : Int)) r) ∧
    (actS sl i = true → Reach (fun f => roundhouseref7_Make.l3 f sl w nl x6 true (i : Int) (pA sl i : Int) (pB sl i : Int) 0) r → Reach (fun f => roundhouseref7_Make.l2 f sl w nl x6 x7 (i : Int)) r) := by
  have hlen := hG.len
  have hm1 : wrap64 ((i : Int) + 1) = ((i + 1 : Nat) : Int) := by rw [w64 _ (by omega) (by omega)]; omega
  constructor
  · intro ha h
    refine Reach.step 0 (fun f _ => ?_) h
    have hf0 : ¬ ((rd_T25 sl (i : Int)).f0 = 2) := by unfold actS at ha; simpa using ha
    simp only [roundhouseref7_Make.l2]
    rw [if_pos (by omega), if_pos (by omega), if_pos (by omega), if_neg hf0, hm1]
  · intro ha h
    refine Reach.step 1 (fun f hf => ?_) h
    have hf0 : (rd_T25 sl (i : Int)).f0 = 2 := by unfold actS at ha; simpa using ha
    simp only [roundhouseref7_Make.l2]
    rw [if_pos (by omega), if_pos (by omega), if_pos (by omega), if_pos hf0, order_slot sl i f hf, Option.bind_some]
theorem ref_l3_off (sl : List S25) (hG : Good sl) (w nl : List Int) (x6 : Int) (r : List Int) (i : Nat) (hi : i < 64) (j : Int) (hx : ¬ (j < (rd_T25 sl (i : Int)).f3 ∧ x6 > 0)) (h : Reach (fun f => roundhouseref7_Make.l2 f sl w nl x6 true ((i + 1 : Nat) : Int)) r) : Reach (fun f => roundhouseref7_Make.l3 f sl w nl x6 true (i : Int) (pA sl i : Int) (pB sl i : Int) j) r := by
  have hlen := hG.len
  have hm1 : wrap64 ((i : Int) + 1) = ((i + 1 : Nat) : Int) := by rw [w64 _ (by omega) (by omega)]; omega
  refine Reach.step (h := fun f => roundhouseref7_Make.j5 f sl w nl x6 true (i : Int) (pA sl i : Int) (pB sl i : Int) j false) 0 (fun f _ => ?_) (Reach.step 0 (fun f _ => ?_) h)
  · simp only [roundhouseref7_Make.l3]
    rw [if_pos (by omega), if_pos (by omega)]
    by_cases h1 : j < (rd_T25 sl (i : Int)).f3
    · rw [if_pos h1, decide_eq_false (fun h2 => hx ⟨h1, h2⟩)]
    · rw [if_neg h1]
  · simp only [roundhouseref7_Make.j5]
    rw [if_neg (by decide), hm1]
theorem ref_l3_on (sl : List S25) (hG : Good sl) (w nl : List Int) (x6 : Int) (r : List Int) (i : Nat) (hi : i < 64) (j : Int) (h1 : j < (rd_T25 sl (i : Int)).f3) (h2 : x6 > 0) (h : Reach (fun f => roundhouseref7_Make.l4 f sl w nl x6 true (i : Int) (pA sl i : Int) (pB sl i : Int) j) r) : Reach (fun f => roundhouseref7_Make.l3 f sl w nl x6 true (i : Int) (pA sl i : Int) (pB sl i : Int) j) r := by
  have hlen := hG.len
  refine Reach.step (h := fun f => roundhouseref7_Make.j5 f sl w nl x6 true (i : Int) (pA sl i : Int) (pB sl i : Int) j true) 0 (fun f _ => ?_) (Reach.step 0 (fun f _ => ?_) h)
  · simp only [roundhouseref7_Make.l3]
    rw [if_pos (by omega), if_pos (by omega), if_pos h1, decide_eq_true h2]
  · simp only [roundhouseref7_Make.j5]
    rw [if_pos trivial]

theorem entries_nn (sl : List S25) (t : Nat) (h : WInv sl t) : ∀ q, q < 127 → ¬ free (st sl t).w q → 0 ≤ (st sl t).w.getD q 0 := by
  intro q hq hf
  have hl := h.len
  unfold free at hf
  rw [List.getD_eq_getElem?_getD, List.getElem?_eq_getElem (by omega)] at hf ⊢
  simp only [Option.getD_some] at hf ⊢
  rcases h.mem ((st sl t).w[q]'(by omega)) (List.getElem_mem _) with h1 | ⟨i, _, h1⟩
  · exact absurd h1 hf
  · rw [h1]; omega
/-- From a slot on, behind one that is active, at the end of all turns. -/
theorem ref_end2 (sl : List S25) (hG : Good sl) : ∀ (d i : Nat), i + d = 64 → Reach (fun f => roundhouseref7_Make.l2 f sl (st sl 127).w (nxL (st sl 127).nx) ((127 - 127 : Nat) : Int) true (i : Int)) (st sl 127).w := by
  intro d
  induction d with
  | zero =>
    intro i hi
    obtain rfl : i = 64 := by omega
    refine Reach.step (h := fun f => roundhouseref7_Make.l1 f sl (st sl 127).w (nxL (st sl 127).nx) ((127 - 127 : Nat) : Int) true) 0 (fun f _ => ?_) (Reach.step (h := fun f => roundhouseref7_Make.j2 f sl (st sl 127).w (nxL (st sl 127).nx) ((127 - 127 : Nat) : Int) false) 0 (fun f _ => ?_) (Reach.now fun f => ?_))
    · simp only [roundhouseref7_Make.l2]
      rw [if_neg (by omega)]
    · simp only [roundhouseref7_Make.l1]
      rw [if_pos trivial, show decide (((127 - 127 : Nat) : Int) > 0) = false from by decide]
    · simp only [roundhouseref7_Make.j2]
      rw [if_neg (by decide)]
  | succ d ih =>
    intro i hi
    have hs := ref_l2_step sl hG (st sl 127).w (nxL (st sl 127).nx) ((127 - 127 : Nat) : Int) true (st sl 127).w i (by omega)
    cases ha : actS sl i with
    | false => exact hs.1 ha (ih (i + 1) (by omega))
    | true => exact hs.2 ha (ref_l3_off sl hG _ _ _ _ i (by omega) 0 (fun h => absurd h.2 (by decide)) (ih (i + 1) (by omega)))
theorem ref_main (sl : List S25) (hG : Good sl) (hA : acts sl ≠ []) : ∀ (d t : Nat), t + d = 127 →
    (∀ (i : Nat), i < 64 → actS sl i = true → ∀ j, j ≤ wtS sl i → t % (roundE sl).length = (offI sl i + j) % (roundE sl).length → Reach (fun f => roundhouseref7_Make.l3 f sl (st sl t).w (nxL (st sl t).nx) ((127 - t : Nat) : Int) true (i : Int) (pA sl i : Int) (pB sl i : Int) (j : Int)) (st sl 127).w) ∧
    (∀ (e i : Nat), i + e = 64 → t < 127 → t % (roundE sl).length = 0 → (∀ j, j < i → actS sl j = false) → Reach (fun f => roundhouseref7_Make.l2 f sl (st sl t).w (nxL (st sl t).nx) ((127 - t : Nat) : Int) false (i : Int)) (st sl 127).w) := by
  intro d
  induction d with
  | zero =>
    intro t ht
    obtain rfl : t = 127 := by omega
    refine ⟨fun i hi ha j hj _ => ref_l3_off sl hG _ _ _ _ i hi (j : Int) (fun h => absurd h.2 (by decide)) (ref_end2 sl hG (64 - (i + 1)) (i + 1) (by omega)), fun e i _ h => by omega⟩
  | succ d ih =>
    intro t ht
    have ih3 := (ih (t + 1) (by omega)).1
    have hlt : ∀ (i : Nat), i < 64 → actS sl i = true → ∀ j, j < wtS sl i → t % (roundE sl).length = (offI sl i + j) % (roundE sl).length → Reach (fun f => roundhouseref7_Make.l3 f sl (st sl t).w (nxL (st sl t).nx) ((127 - t : Nat) : Int) true (i : Int) (pA sl i : Int) (pB sl i : Int) (j : Int)) (st sl 127).w := by
      intro i hi ha j hj hc
      obtain ⟨hE1, hE2⟩ := roundE_getI sl i hi ha j hj
      have hE0 : 0 < (roundE sl).length := by omega
      have hinv := winv sl hE0 t (by omega)
      have htS : t % (roundE sl).length = offI sl i + j := by rw [hc, Nat.mod_eq_of_lt hE1]
      have hst : st sl (t + 1) = turn sl (st sl t) i := by
        show turn sl (st sl t) ((roundE sl).getD (t % (roundE sl).length) 0) = _
        rw [htS, hE2]
      obtain ⟨f1, f2, f3, f4⟩ := find_ok (st sl t).w (pA sl i) (pB sl i) ((st sl t).nx i) (pB_lt _ _) (free_of_count _ hinv.len (by rw [hinv.fr]; omega))
      have hnx := hinv.nx i
      have hnext := ih3 i hi ha (j + 1) (by omega) (by rw [← Nat.add_assoc]; exact mod_succ hc)
      rw [hst] at hnext
      simp only [turn] at hnext
      obtain ⟨hw3, hw1, hw8⟩ := wt_f3 sl hG i hi ha
      have h4 := ref_l4 sl (st sl t).w hinv.len (entries_nn sl t hinv) i hi (st sl t).nx ((127 - t : Nat) : Int) (j : Int) true (st sl 127).w _ (by omega) f3 (Reach.same (fun f => by
        rw [show wrap64 (((127 - t : Nat) : Int) - 1) = ((127 - (t + 1) : Nat) : Int) from by rw [w64 _ (by omega) (by omega)]; omega, show wrap64 ((j : Int) + 1) = ((j + 1 : Nat) : Int) from by rw [w64 _ (by omega) (by omega)]; omega]) hnext) _ _ (Nat.add_sub_cancel' f1) f4
      rw [upd_self] at h4
      exact ref_l3_on sl hG _ _ _ _ i hi (j : Int) (by omega) (by omega) h4
    have hfalse : ∀ (e i : Nat), i + e = 64 → t % (roundE sl).length = 0 → (∀ j, j < i → actS sl j = false) → Reach (fun f => roundhouseref7_Make.l2 f sl (st sl t).w (nxL (st sl t).nx) ((127 - t : Nat) : Int) false (i : Int)) (st sl 127).w := by
      intro e
      induction e with
      | zero =>
        intro i hi _ hno
        exfalso
        obtain ⟨k, hk⟩ := List.exists_mem_of_ne_nil _ hA
        unfold acts at hk
        rw [List.mem_filter, List.mem_range] at hk
        have := hno k (by omega)
        rw [this] at hk
        exact absurd hk.2 (by decide)
      | succ e ihe =>
        intro i hi hz hno
        have hs := ref_l2_step sl hG (st sl t).w (nxL (st sl t).nx) ((127 - t : Nat) : Int) false (st sl 127).w i (by omega)
        cases ha : actS sl i with
        | false => exact hs.1 ha (ihe (i + 1) (by omega) hz (fun j hj => by
            by_cases h : j = i
            · rw [h]; exact ha
            · exact hno j (by omega)))
        | true =>
          have h0 : offI sl i = 0 := by
            unfold offI
            rw [List.filter_eq_nil_iff.2 (fun j hj => by rw [List.mem_range] at hj; rw [hno j hj]; decide)]
            rfl
          exact hs.2 ha (hlt i (by omega) ha 0 (wt_f3 sl hG i (by omega) ha).2.1 (by rw [h0, hz]; simp))
    have htrue : ∀ (e i : Nat), i + e = 64 → t % (roundE sl).length = offI sl i % (roundE sl).length → Reach (fun f => roundhouseref7_Make.l2 f sl (st sl t).w (nxL (st sl t).nx) ((127 - t : Nat) : Int) true (i : Int)) (st sl 127).w := by
      intro e
      induction e with
      | zero =>
        intro i hi hc
        obtain rfl : i = 64 := by omega
        have hz : t % (roundE sl).length = 0 := by rw [hc, offI_end, Nat.mod_self]
        refine Reach.step (h := fun f => roundhouseref7_Make.l1 f sl (st sl t).w (nxL (st sl t).nx) ((127 - t : Nat) : Int) true) 0 (fun f _ => ?_) (Reach.step (h := fun f => roundhouseref7_Make.j2 f sl (st sl t).w (nxL (st sl t).nx) ((127 - t : Nat) : Int) true) 0 (fun f _ => ?_) (Reach.step 0 (fun f _ => ?_) (hfalse 64 0 rfl hz (fun j hj => absurd hj (Nat.not_lt_zero j)))))
        · simp only [roundhouseref7_Make.l2]
          rw [if_neg (by omega)]
        · simp only [roundhouseref7_Make.l1]
          rw [if_pos trivial, show decide (((127 - t : Nat) : Int) > 0) = true from decide_eq_true (by omega)]
        · simp only [roundhouseref7_Make.j2]
          rw [if_pos trivial]
          rfl
      | succ e ihe =>
        intro i hi hc
        have hs := ref_l2_step sl hG (st sl t).w (nxL (st sl t).nx) ((127 - t : Nat) : Int) true (st sl 127).w i (by omega)
        cases ha : actS sl i with
        | false => exact hs.1 ha (ihe (i + 1) (by omega) (by rw [offI_not sl i ha]; exact hc))
        | true => exact hs.2 ha (hlt i (by omega) ha 0 (wt_f3 sl hG i (by omega) ha).2.1 hc)
    refine ⟨fun i hi ha j hj hc => ?_, fun e i hi _ hz hno => hfalse e i hi hz hno⟩
    rcases Nat.lt_or_ge j (wtS sl i) with h1 | h1
    · exact hlt i hi ha j h1 hc
    · obtain rfl : j = wtS sl i := by omega
      have hw3 := (wt_f3 sl hG i hi ha).1
      exact ref_l3_off sl hG _ _ _ _ i hi _ (fun h => by omega) (htrue (64 - (i + 1)) (i + 1) (by omega) (by rw [hc, offI_act sl i ha]))
theorem ref_none2 (sl : List S25) (hG : Good sl) (hA : acts sl = []) (w nl : List Int) : ∀ (d i : Nat), i + d = 64 → Reach (fun f => roundhouseref7_Make.l2 f sl w nl 127 false (i : Int)) w := by
  intro d
  induction d with
  | zero =>
    intro i hi
    obtain rfl : i = 64 := by omega
    refine Reach.step (h := fun f => roundhouseref7_Make.l1 f sl w nl 127 false) 0 (fun f _ => ?_) (Reach.step (h := fun f => roundhouseref7_Make.j2 f sl w nl 127 false) 0 (fun f _ => ?_) (Reach.now fun f => ?_))
    · simp only [roundhouseref7_Make.l2]
      rw [if_neg (by omega)]
    · simp only [roundhouseref7_Make.l1]
      rw [if_neg (by decide)]
    · simp only [roundhouseref7_Make.j2]
      rw [if_neg (by decide)]
  | succ d ih =>
    intro i hi
    have hs := ref_l2_step sl hG w nl 127 false w i (by omega)
    have ha : actS sl i = false := by
      cases h : actS sl i with
      | false => rfl
      | true =>
        have : i ∈ acts sl := by unfold acts; rw [List.mem_filter, List.mem_range]; exact ⟨by omega, h⟩
        rw [hA] at this
        exact absurd this (List.not_mem_nil)
    exact hs.1 ha (ih (i + 1) (by omega))
theorem ref_l0 (sl : List S25) (r : List Int) (h : Reach (fun f => roundhouseref7_Make.l1 f sl (List.replicate 127 (-1)) (List.replicate 64 0) 127 true) r) : ∀ (d n : Nat), n + d = 127 → Reach (fun f => roundhouseref7_Make.l0 f sl (List.replicate n (-1) ++ List.replicate d 0) (n : Int)) r := by
  intro d
  induction d with
  | zero =>
    intro n hn
    obtain rfl : n = 127 := by omega
    refine Reach.step 0 (fun f _ => ?_) h
    simp only [roundhouseref7_Make.l0]
    rw [if_neg (by omega), List.replicate_zero, List.append_nil, if_pos (by decide)]
  | succ d ih =>
    intro n hn
    refine Reach.step 0 (fun f _ => ?_) (ih (n + 1) (by omega))
    have e : (List.replicate n (-1 : Int) ++ List.replicate (d + 1) 0).set n (-1) = List.replicate (n + 1) (-1) ++ List.replicate d 0 := by
      rw [List.set_append_right _ _ (by simp), List.length_replicate, Nat.sub_self, List.replicate_succ, List.set_cons_zero, List.replicate_succ']
      simp
    simp only [roundhouseref7_Make.l0]
    rw [if_pos (by omega), if_pos (by omega), if_pos (by simp; omega), Int.toNat_natCast, e, w64 _ (by omega) (by omega)]
    rfl
theorem ref_ok (sl : List S25) (hG : Good sl) : ∃ k, roundhouseref7_Make.f k sl = some (wheelOf sl) := by
  have h : Reach (fun f => roundhouseref7_Make.l0 f sl (List.replicate 0 (-1) ++ List.replicate 127 0) ((0 : Nat) : Int)) (wheelOf sl) := by
    refine ref_l0 sl _ ?_ 127 0 rfl
    refine Reach.step (h := fun f => roundhouseref7_Make.j2 f sl (List.replicate 127 (-1)) (List.replicate 64 0) 127 true) 0 (fun f _ => ?_) (Reach.step (h := fun f => roundhouseref7_Make.l2 f sl (List.replicate 127 (-1)) (List.replicate 64 0) 127 false 0) 0 (fun f _ => ?_) ?_)
    · simp only [roundhouseref7_Make.l1]
      rw [if_pos trivial]
      rfl
    · simp only [roundhouseref7_Make.j2]
      rw [if_pos trivial]
    · by_cases ha : acts sl = []
      · rw [show wheelOf sl = List.replicate 127 (-1) from by unfold wheelOf; rw [if_pos ha]]
        exact ref_none2 sl hG ha _ _ 64 0 rfl
      · rw [show wheelOf sl = (st sl 127).w from by unfold wheelOf; rw [if_neg ha]]
        exact (ref_main sl hG ha 127 0 rfl).2 64 0 rfl (by decide) (Nat.zero_mod _) (fun j hj => absurd hj (Nat.not_lt_zero j))
  obtain ⟨K, hK⟩ := h
  refine ⟨K, ?_⟩
  unfold roundhouseref7_Make.f
  rw [if_pos (by decide)]
  exact hK K (Nat.le_refl _)
end Go.Proofs.Ytnffajpnffibaaa.Own
