/-
  What the places of a wheel are: each slot's turns; the first place; what does not matter.
-/
import Derived.Test.YtnffajpnffibaaaWheW
namespace Go.Proofs.Ytnffajpnffibaaa.Own
open Go Go.RowKit Go.Proofs.YtnffajpnffibaaaW.PrintWords Go.Proofs.YtnffajpnffibaaaW.PrintMore Go.Proofs.YtnffajpnffibaaaW.PrintLast Go.Proofs.Ytnffajpnffibaaa.Q
set_option linter.unusedVariables false
set_option linter.unusedSimpArgs false

/-- A place of a wheel: nobody's, if there is nobody at all; else an active slot's. -/
theorem wheel_place {p : PL} (h : PInv p) (q : Int) (h0 : 0 ≤ q) (h1 : q < 127) : (rd (wheelOf p.sl) q = -1 ∧ (wheelOf p.sl).count (-1) = 127) ∨ (∃ i : Nat, i < 64 ∧ rd (wheelOf p.sl) q = (i : Int) ∧ (rd_T25 p.sl (i : Int)).f0 = 2) := by
  have hl := wheel_len h
  obtain ⟨n, rfl⟩ := Int.eq_ofNat_of_zero_le h0
  rw [rd_place _ n (by omega)]
  obtain ⟨v, hv⟩ : ∃ v, v = (wheelOf p.sl)[n]'(by omega) := ⟨_, rfl⟩
  rw [← hv]
  have hm : v ∈ wheelOf p.sl := by rw [hv]; exact List.getElem_mem _
  by_cases ha : acts p.sl = []
  · left
    have e : wheelOf p.sl = List.replicate 127 (-1) := by unfold wheelOf; rw [if_pos ha]
    rw [e] at hm ⊢
    exact ⟨List.eq_of_mem_replicate hm, by simp⟩
  · right
    have hk : 0 < (acts p.sl).length := List.length_pos_iff.2 ha
    have hE := (roundE_get p.sl 0 hk 0 (acts_wt p.sl h.good 0 hk).1).1
    have hinv := winv p.sl (by omega) 127 (Nat.le_refl _)
    have e : wheelOf p.sl = (st p.sl 127).w := by unfold wheelOf; rw [if_neg ha]
    rw [e] at hm
    rcases hinv.mem _ hm with h2 | ⟨i, hi, h2⟩
    · exfalso
      have h3 := hinv.fr
      have h4 : 0 < (st p.sl 127).w.count (-1) := List.count_pos_iff.2 (by rw [← h2]; exact hm)
      omega
    · unfold roundE turnsOf at hi
      rw [List.mem_flatMap] at hi
      obtain ⟨j, hj, hij⟩ := hi
      obtain rfl := List.eq_of_mem_replicate hij
      unfold acts at hj
      rw [List.mem_filter, List.mem_range] at hj
      refine ⟨i, hj.1, h2, ?_⟩
      have := hj.2
      unfold actS at this
      simpa using this
/-- A slot that is not active has no place. -/
theorem wheel_not {p : PL} (h : PInv p) (s : Int) (h0 : 0 ≤ s) (h1 : s < 64) (ha : (rd_T25 p.sl s).f0 ≠ 2) : (wheelOf p.sl).count s = 0 := by
  rw [List.count_eq_zero]
  intro hm
  obtain ⟨n, hn, he⟩ := List.getElem_of_mem hm
  have hl := wheel_len h
  have hc := wheel_place h (n : Int) (by omega) (by omega)
  rw [rd_place _ n hn, he] at hc
  rcases hc with ⟨h2, _⟩ | ⟨i, hi, h2, h3⟩
  · omega
  · rw [h2] at ha
    exact ha h3
theorem actS_iff (sl : List S25) (i : Nat) : actS sl i = true ↔ (rd_T25 sl (i : Int)).f0 = 2 := by
  unfold actS
  simp
theorem mem_acts (sl : List S25) (i : Nat) : i ∈ acts sl ↔ i < 64 ∧ (rd_T25 sl (i : Int)).f0 = 2 := by
  unfold acts
  rw [List.mem_filter, List.mem_range, actS_iff]
theorem roundE_pos {p : PL} (h : PInv p) (ha : acts p.sl ≠ []) : 0 < (roundE p.sl).length := by
  have hk : 0 < (acts p.sl).length := List.length_pos_iff.2 ha
  have hE := (roundE_get p.sl 0 hk 0 (acts_wt p.sl h.good 0 hk).1).1
  omega
theorem mem_roundE (sl : List S25) (i : Nat) (h : i ∈ roundE sl) : i ∈ acts sl := by
  unfold roundE turnsOf at h
  rw [List.mem_flatMap] at h
  obtain ⟨j, hj, hij⟩ := h
  obtain rfl := List.eq_of_mem_replicate hij
  exact hj

/-! What does not matter -/
theorem flatMap_same {α β : Type} (f g : α → List β) : ∀ l : List α, (∀ x ∈ l, f x = g x) → l.flatMap f = l.flatMap g
  | [], _ => rfl
  | x :: l, h => by
    rw [List.flatMap_cons, List.flatMap_cons, h x (by simp), flatMap_same f g l (fun y hy => h y (by simp [hy]))]
/-- Two rows of slots with the same ones active. -/
def Alike (a b : List S25) : Prop := ∀ i : Nat, i < 64 → ((rd_T25 a (i : Int)).f0 = 2 ↔ (rd_T25 b (i : Int)).f0 = 2) ∧ ((rd_T25 a (i : Int)).f0 = 2 → (rd_T25 a (i : Int)).f1 = (rd_T25 b (i : Int)).f1 ∧ (rd_T25 a (i : Int)).f2 = (rd_T25 b (i : Int)).f2 ∧ (rd_T25 a (i : Int)).f3 = (rd_T25 b (i : Int)).f3)
theorem Alike.refl (a : List S25) : Alike a a := fun i _ => ⟨Iff.rfl, fun _ => ⟨rfl, rfl, rfl⟩⟩
theorem Alike.acts {a b : List S25} (h : Alike a b) : acts a = acts b := by
  unfold Own.acts
  refine List.filter_congr fun i hi => ?_
  rw [List.mem_range] at hi
  have h1 := (h i hi).1
  unfold actS
  by_cases h2 : (rd_T25 a (i : Int)).f0 = 2
  · have h3 := h1.1 h2
    simp [h2, h3]
  · have h3 : ¬ (rd_T25 b (i : Int)).f0 = 2 := fun e => h2 (h1.2 e)
    rw [beq_eq_false_iff_ne.2 h2, beq_eq_false_iff_ne.2 h3]
theorem Alike.wt {a b : List S25} (h : Alike a b) (i : Nat) (hi : i ∈ Own.acts a) : wtS a i = wtS b i := by
  rw [mem_acts] at hi
  unfold wtS
  rw [((h i hi.1).2 hi.2).2.2]
theorem Alike.roundE {a b : List S25} (h : Alike a b) : roundE a = roundE b := by
  unfold Own.roundE turnsOf
  rw [← h.acts]
  exact flatMap_same _ _ _ fun i hi => by rw [h.wt i hi]
theorem Alike.turn {a b : List S25} (h : Alike a b) (s : WSt) (i : Nat) (hi : i ∈ Own.acts a) : turn a s i = turn b s i := by
  rw [mem_acts] at hi
  obtain ⟨h1, h2, h3⟩ := (h i hi.1).2 hi.2
  have e1 : pA a i = pA b i := by unfold pA; rw [h1, h2]
  have e2 : pB a i = pB b i := by unfold pB; rw [h1, h2]
  unfold Own.turn
  rw [e1, e2]
theorem Alike.st {a b : List S25} (h : Alike a b) (hE : 0 < (Own.roundE a).length) : ∀ t, st a t = st b t
  | 0 => rfl
  | t + 1 => by
    have hm : (Own.roundE a).getD (t % (Own.roundE a).length) 0 ∈ Own.acts a := by
      refine mem_roundE _ _ ?_
      rw [List.getD_eq_getElem?_getD, List.getElem?_eq_getElem (Nat.mod_lt _ hE)]
      exact List.getElem_mem _
    show Own.turn a (Own.st a t) _ = Own.turn b (Own.st b t) _
    rw [← h.st hE t, ← h.roundE, h.turn _ _ hm]
theorem Alike.wheel {p q : PL} (hp : PInv p) (h : Alike p.sl q.sl) : wheelOf p.sl = wheelOf q.sl := by
  unfold wheelOf
  rw [← h.acts]
  split
  · rfl
  · rename_i ha
    rw [h.st (roundE_pos hp ha)]
theorem rd_set (l : List S25) (i s : Int) (v : S25) (h0 : 0 ≤ s) (h1 : s < l.length) (hi : 0 ≤ i) : rd_T25 (l.set s.toNat v) i = if i = s then v else rd_T25 l i := by
  unfold rd_T25
  rw [List.getD_eq_getElem?_getD, List.getElem?_set, List.getD_eq_getElem?_getD]
  by_cases h : i = s
  · subst h
    rw [if_pos rfl, if_pos (by omega), if_pos rfl]
    rfl
  · rw [if_neg (by omega), if_neg h]
/-- New keys, and a slot that is shut, do not matter. -/
theorem rotate_alike {p q : PL} (hq : PInv q) (h : Alike p.sl q.sl) (x y : Int) : (applyP q 6 0 0 0 0 x y).2 = 0 ∧ Alike p.sl (applyP q 6 0 0 0 0 x y).1.sl := by
  have e : applyP q 6 0 0 0 0 x y = (nextPool q 6 0 0 0 0 x y, 0) := by
    unfold applyP
    rw [if_neg (by decide), if_neg (by simp [badP]), if_neg (fun h => absurd h.1 (by decide))]
  rw [e]
  refine ⟨rfl, ?_⟩
  have e2 : (nextPool q 6 0 0 0 0 x y).sl = q.sl.set (0 : Int).toNat (rd_T25 q.sl 0) := by
    unfold nextPool nextSlot
    rw [if_pos rfl, if_neg (by decide), if_neg (by decide), if_neg (by decide), if_neg (by decide), if_neg (by decide)]
  intro i hi
  show _ ∧ _
  rw [show (nextPool q 6 0 0 0 0 x y, (0 : Int)).1.sl = _ from e2, rd_set _ _ _ _ (by decide) (by rw [hq.len]; decide) (by omega)]
  by_cases h2 : (i : Int) = 0
  · rw [if_pos h2]
    have := h i hi
    rw [h2] at this ⊢
    exact this
  · rw [if_neg h2]
    exact h i hi
theorem shut_alike {p q : PL} (hq : PInv q) (h : Alike p.sl q.sl) (s : Int) (h0 : 0 ≤ s) (h1 : s < 64) (hs : (rd_T25 q.sl s).f0 = 1 ∨ (rd_T25 q.sl s).f0 = 3) : (applyP q 4 s 0 0 0 0 0).2 = 0 ∧ Alike p.sl (applyP q 4 s 0 0 0 0 0).1.sl := by
  have hb : badP q 4 s 0 0 = false := by
    rcases hs with hs | hs <;> simp [badP, hs]
  have e : applyP q 4 s 0 0 0 0 0 = (nextPool q 4 s 0 0 0 0 0, 0) := by
    unfold applyP
    rw [if_neg (by rw [outB_false _ _ _ (by omega)]; decide), if_neg (by rw [hb]; decide), if_neg (fun h => absurd h.1 (by decide))]
  rw [e]
  refine ⟨rfl, ?_⟩
  have e2 : (nextPool q 4 s 0 0 0 0 0).sl = q.sl.set s.toNat { (rd_T25 q.sl s) with f0 := 4, f4 := q.ep } := by
    unfold nextPool nextSlot
    rw [if_neg (by decide), if_neg (by decide), if_neg (by decide), if_neg (by decide), if_pos rfl]
  intro i hi
  show _ ∧ _
  rw [show (nextPool q 4 s 0 0 0 0 0, (0 : Int)).1.sl = _ from e2, rd_set _ _ _ _ h0 (by rw [hq.len]; omega) (by omega)]
  by_cases h2 : (i : Int) = s
  · rw [if_pos h2]
    have h3 := h i hi
    rw [h2] at h3 ⊢
    have h4 : ¬ (rd_T25 q.sl s).f0 = 2 := by omega
    have h5 : ¬ (rd_T25 p.sl s).f0 = 2 := fun e => h4 (h3.1.1 e)
    exact ⟨⟨fun e => absurd e h5, fun e => absurd (show (4 : Int) = 2 from e) (by decide)⟩, fun e => absurd e h5⟩
  · rw [if_neg h2]
    exact h i hi

/-! The first place -/
theorem acts_first (sl : List S25) (i : Nat) (hi : i < 64) (ha : (rd_T25 sl (i : Int)).f0 = 2) (hb : ∀ j : Nat, j < i → (rd_T25 sl (j : Int)).f0 ≠ 2) : ∃ l, acts sl = i :: l := by
  unfold acts
  rw [show (64 : Nat) = i + ((63 - i) + 1) from by omega, List.range_add, List.filter_append, List.range_succ_eq_map, List.map_cons]
  have h1 : (List.range i).filter (actS sl) = [] := by
    rw [List.filter_eq_nil_iff]
    intro j hj
    rw [List.mem_range] at hj
    rw [actS_iff]
    exact hb j hj
  rw [h1, List.nil_append, List.filter_cons, Nat.add_zero, if_pos ((actS_iff sl i).2 ha)]
  exact ⟨_, rfl⟩
theorem findN_free (w : List Int) (a b n : Nat) (h : free w (plc a b n)) : findN w a b 127 n = n := by
  show findN w a b (126 + 1) n = n
  unfold findN
  rw [if_pos h]
theorem first_place {p : PL} (h : PInv p) (i : Nat) (hi : i < 64) (ha : (rd_T25 p.sl (i : Int)).f0 = 2) (hb : ∀ j : Nat, j < i → (rd_T25 p.sl (j : Int)).f0 ≠ 2) : rd (wheelOf p.sl) (sipWords 0 0 [1, (rd_T25 p.sl (i : Int)).f1, (rd_T25 p.sl (i : Int)).f2] % 127) = (i : Int) := by
  obtain ⟨l, hl⟩ := acts_first p.sl i hi ha hb
  have hk : 0 < (acts p.sl).length := by rw [hl]; simp
  have hE := roundE_pos h (by rw [hl]; simp)
  have hg := (roundE_get p.sl 0 hk 0 (acts_wt p.sl h.good 0 hk).1).2
  have e0 : (acts p.sl)[0] = i := by simp [hl]
  have eo : offK p.sl 0 + 0 = 0 := by simp [offK, turnsOf]
  rw [eo, e0] at hg
  have hA := pA_lt p.sl i
  have step : ∀ t, t + 1 ≤ 127 → (st p.sl (t + 1)).w[pA p.sl i]? = some (i : Int) := by
    intro t
    induction t with
    | zero =>
      intro _
      show (turn p.sl (st p.sl 0) ((roundE p.sl).getD (0 % (roundE p.sl).length) 0)).w[_]? = _
      rw [Nat.zero_mod, hg]
      have hp : plc (pA p.sl i) (pB p.sl i) 0 = pA p.sl i := by unfold plc; rw [Nat.zero_mul, Nat.add_zero, Nat.mod_eq_of_lt hA]
      have hf : findN (st p.sl 0).w (pA p.sl i) (pB p.sl i) 127 ((st p.sl 0).nx i) = 0 := by
        refine findN_free _ _ _ _ ?_
        show free (List.replicate 127 (-1)) (plc (pA p.sl i) (pB p.sl i) 0)
        rw [hp]
        unfold free
        rw [List.getD_eq_getElem?_getD, List.getElem?_replicate, if_pos hA]
        rfl
      unfold turn
      rw [hf, hp]
      show ((List.replicate 127 (-1 : Int)).set _ _)[_]? = _
      rw [List.getElem?_set, if_pos rfl, if_pos (by simp; omega)]
    | succ t ih =>
      intro ht
      have h1 := ih (by omega)
      have hw := winv p.sl hE (t + 1) (by omega)
      obtain ⟨j, hj⟩ : ∃ j, j = (roundE p.sl).getD ((t + 1) % (roundE p.sl).length) 0 := ⟨_, rfl⟩
      obtain ⟨f1, f2, f3, f4⟩ := find_ok (st p.sl (t + 1)).w (pA p.sl j) (pB p.sl j) ((st p.sl (t + 1)).nx j) (pB_lt p.sl j) (free_of_count _ hw.len (by rw [hw.fr]; omega))
      show (turn p.sl (st p.sl (t + 1)) ((roundE p.sl).getD ((t + 1) % (roundE p.sl).length) 0)).w[_]? = _
      rw [← hj]
      unfold turn
      rw [List.getElem?_set, if_neg, h1]
      intro e
      unfold free at f3
      rw [e, List.getD_eq_getElem?_getD, h1] at f3
      have : ((i : Int)) = -1 := f3
      omega
  have hw : wheelOf p.sl = (st p.sl (126 + 1)).w := by unfold wheelOf; rw [if_neg (by rw [hl]; simp)]
  have hs := step 126 (by omega)
  rw [← hw] at hs
  have h2 : (sipWords 0 0 [1, (rd_T25 p.sl (i : Int)).f1, (rd_T25 p.sl (i : Int)).f2] % 127).toNat = pA p.sl i := rfl
  unfold rd
  rw [h2, List.getD_eq_getElem?_getD, hs]
  rfl

/-! How many places -/
theorem turns_count (sl : List S25) (i : Nat) : ∀ l : List Nat, l.Nodup → (turnsOf sl l).count i = if i ∈ l then wtS sl i else 0
  | [], _ => by simp [turnsOf]
  | a :: l, h => by
    rw [List.nodup_cons] at h
    rw [turnsOf_cons, List.count_append, List.count_replicate, turns_count sl i l h.2]
    by_cases e : a = i
    · subst e
      simp [h.1]
    · have e2 : ¬ i = a := fun x => e x.symm
      simp [e, e2]
def cyc (E : List Nat) (t i : Nat) : Nat := ((List.range t).map fun s => E.getD (s % E.length) 0).count i
theorem cyc_succ (E : List Nat) (t i : Nat) : cyc E (t + 1) i = cyc E t i + (if E.getD (t % E.length) 0 = i then 1 else 0) := by
  unfold cyc
  rw [List.range_succ, List.map_append, List.count_append]
  congr 1
  simp only [List.map_cons, List.map_nil, List.count_singleton]
  by_cases h : E.getD (t % E.length) 0 = i <;> simp [h]
theorem take_count (E : List Nat) (r i : Nat) (h : r < E.length) : (E.take (r + 1)).count i = (E.take r).count i + (if E.getD r 0 = i then 1 else 0) := by
  rw [List.take_add_one, List.getElem?_eq_getElem h, List.count_append, List.getD_eq_getElem?_getD, List.getElem?_eq_getElem h]
  congr 1
  simp only [Option.toList_some, List.count_singleton, Option.getD_some]
  by_cases h : E[r] = i <;> simp [h]
theorem cyc_full (E : List Nat) (hE : 0 < E.length) (i : Nat) : ∀ t, cyc E t i = t / E.length * E.count i + (E.take (t % E.length)).count i
  | 0 => by simp [cyc]
  | t + 1 => by
    rw [cyc_succ, cyc_full E hE i t]
    have hr := Nat.mod_lt t hE
    have hd := Nat.div_add_mod t E.length
    rw [Nat.add_assoc, ← take_count E _ i hr]
    by_cases h : t % E.length + 1 < E.length
    · have h1 : (t + 1) / E.length = t / E.length := by
        refine Nat.div_eq_of_lt_le ?_ ?_
        · rw [Nat.mul_comm]; omega
        · rw [Nat.add_mul, Nat.mul_comm]; omega
      have h2 : (t + 1) % E.length = t % E.length + 1 := by
        have h3 := Nat.div_add_mod (t + 1) E.length
        rw [h1] at h3
        omega
      rw [h1, h2]
    · have h0 : t % E.length + 1 = E.length := by omega
      have h1 : (t + 1) / E.length = t / E.length + 1 := by
        refine Nat.div_eq_of_lt_le ?_ ?_
        · rw [Nat.add_mul, Nat.mul_comm]; omega
        · rw [Nat.add_mul, Nat.add_mul, Nat.mul_comm]; omega
      have h2 : (t + 1) % E.length = 0 := by
        have h3 := Nat.div_add_mod (t + 1) E.length
        rw [h1, Nat.mul_add] at h3
        omega
      rw [h1, h2, h0, List.take_length, Nat.add_mul]
      simp
theorem wheel_count {p : PL} (h : PInv p) (ha : acts p.sl ≠ []) (i : Nat) : (wheelOf p.sl).count (i : Int) = 127 / (roundE p.sl).length * (roundE p.sl).count i + ((roundE p.sl).take (127 % (roundE p.sl).length)).count i := by
  have hE := roundE_pos h ha
  have e : wheelOf p.sl = (st p.sl 127).w := by unfold wheelOf; rw [if_neg ha]
  rw [e, (winv p.sl hE 127 (Nat.le_refl _)).cnt i]
  exact cyc_full _ hE i 127
/-- All active slots' weights, of the first so many slots. -/
def sumW (sl : List S25) : Nat → Nat
  | 0 => 0
  | m + 1 => sumW sl m + (if actS sl m = true then wtS sl m else 0)
theorem sumW_len (sl : List S25) : ∀ m, sumW sl m = (turnsOf sl ((List.range m).filter (actS sl))).length
  | 0 => by simp [sumW, turnsOf]
  | m + 1 => by
    rw [List.range_succ, List.filter_append, turnsOf_append, List.length_append, sumW, sumW_len sl m]
    congr 1
    by_cases h : actS sl m = true
    · rw [if_pos h, List.filter_cons, if_pos h, List.filter_nil]
      simp [turnsOf]
    · rw [if_neg h, List.filter_cons, if_neg h, List.filter_nil]
      simp [turnsOf]
theorem sumW_all (sl : List S25) : sumW sl 64 = (roundE sl).length := sumW_len sl 64
theorem sumW_le {p : PL} (h : PInv p) : ∀ m, m ≤ 64 → sumW p.sl m ≤ 8 * m
  | 0, _ => by simp [sumW]
  | m + 1, hm => by
    have h1 := sumW_le h m (by omega)
    rw [sumW]
    split
    · rename_i ha
      have h2 := h.good.wt m (by omega) ha
      unfold wtS
      omega
    · omega
theorem share_bounds {p : PL} (h : PInv p) (i : Nat) (hi : i < 64) (ha : (rd_T25 p.sl (i : Int)).f0 = 2) : 0 < sumW p.sl 64 ∧ 127 / sumW p.sl 64 * wtS p.sl i ≤ (wheelOf p.sl).count (i : Int) ∧ (wheelOf p.sl).count (i : Int) ≤ (127 / sumW p.sl 64 + 1) * wtS p.sl i := by
  have hm : i ∈ acts p.sl := (mem_acts _ _).2 ⟨hi, ha⟩
  have hne : acts p.sl ≠ [] := fun e => by rw [e] at hm; simp at hm
  have hE := roundE_pos h hne
  have hc : (roundE p.sl).count i = wtS p.sl i := by
    unfold roundE
    rw [turns_count _ _ _ (acts_nodup _), if_pos hm]
  have h2 := List.Sublist.count_le i (List.take_sublist (127 % (roundE p.sl).length) (roundE p.sl))
  rw [sumW_all, wheel_count h hne i, hc] at *
  refine ⟨hE, Nat.le_add_right _ _, ?_⟩
  rw [Nat.add_mul, Nat.one_mul]
  omega
/-- How many places the first so many slots have. -/
def sumC (w : List Int) : Nat → Nat
  | 0 => 0
  | m + 1 => sumC w m + w.count (m : Int)
theorem sumC_cons (x : Int) (w : List Int) : ∀ m : Nat, sumC (x :: w) m = sumC w m + (if 0 ≤ x ∧ x < (m : Int) then 1 else 0)
  | 0 => by
    rw [if_neg (by omega)]
    rfl
  | m + 1 => by
    rw [sumC, sumC, sumC_cons x w m, List.count_cons]
    by_cases h : x = (m : Int)
    · rw [if_neg (show ¬ (0 ≤ x ∧ x < (m : Int)) by omega), if_pos (show 0 ≤ x ∧ x < ((m + 1 : Nat) : Int) by omega), if_pos (beq_iff_eq.2 h)]
      omega
    · rw [if_neg (show ¬ (x == (m : Int)) = true by simp [h])]
      by_cases h3 : 0 ≤ x ∧ x < (m : Int)
      · rw [if_pos h3, if_pos (show 0 ≤ x ∧ x < ((m + 1 : Nat) : Int) by omega)]
        omega
      · rw [if_neg h3, if_neg (show ¬ (0 ≤ x ∧ x < ((m + 1 : Nat) : Int)) by omega)]
        omega
theorem sumC_nil : ∀ m : Nat, sumC [] m = 0
  | 0 => rfl
  | m + 1 => by rw [sumC, sumC_nil m]; rfl
theorem sumC_all (m : Nat) : ∀ w : List Int, (∀ x ∈ w, 0 ≤ x ∧ x < m) → sumC w m = w.length
  | [], _ => sumC_nil m
  | x :: w, h => by
    rw [sumC_cons, sumC_all m w (fun y hy => h y (by simp [hy])), if_pos (h x (by simp))]
    rfl
theorem sumC_le (w : List Int) : ∀ m : Nat, sumC w m ≤ w.length * m
  | 0 => by simp [sumC]
  | m + 1 => by
    have h1 := sumC_le w m
    have h2 := List.count_le_length (a := (m : Int)) (l := w)
    rw [sumC, Nat.mul_add]
    omega
theorem all_places {p : PL} (h : PInv p) : (0 < sumW p.sl 64 ∧ sumC (wheelOf p.sl) 64 = 127) ∨ (sumW p.sl 64 = 0 ∧ (wheelOf p.sl).count (-1) = 127) := by
  by_cases ha : acts p.sl = []
  · right
    have e : wheelOf p.sl = List.replicate 127 (-1) := by unfold wheelOf; rw [if_pos ha]
    rw [sumW_all, e]
    unfold roundE
    rw [ha]
    simp [turnsOf]
  · left
    have hE := roundE_pos h ha
    rw [sumW_all]
    refine ⟨hE, ?_⟩
    rw [sumC_all 64, wheel_len h]
    intro x hx
    obtain ⟨n, hn, he⟩ := List.getElem_of_mem hx
    have hl := wheel_len h
    rcases wheel_place h (n : Int) (by omega) (by omega) with ⟨_, h2⟩ | ⟨i, hi, h2, _⟩
    · exfalso
      have e : wheelOf p.sl = (st p.sl 127).w := by unfold wheelOf; rw [if_neg ha]
      have h3 := (winv p.sl hE 127 (Nat.le_refl _)).fr
      rw [← e] at h3
      omega
    · rw [rd_place _ n hn, he] at h2
      omega

/-! Two slots, of two weights -/
theorem bind_ok1 {q : PL} (s a b c : Int) (h0 : 0 ≤ s) (h1 : s ≤ 63) (hf : (rd_T25 q.sl s).f0 = 0) (hh : heldP q a b = false) : apE q ⟨1, s, a, b, c, 0, 0⟩ = ({ q with ver := wrap64 (q.ver + 1), sl := q.sl.set s.toNat ⟨1, a, b, c, 0⟩ }, 0) := by
  show applyP q 1 s a b c 0 0 = _
  have hb : badP q 1 s a b = false := by unfold badP; rw [if_pos rfl, hf, hh]; rfl
  unfold applyP
  rw [if_neg (by rw [outB_false _ _ _ ⟨h0, h1⟩]; decide), if_neg (by rw [hb]; decide), if_neg (fun h => absurd h.1 (by decide))]
  unfold nextPool nextSlot
  rw [if_neg (by decide), if_pos rfl]
theorem open_ok1 {q : PL} (s : Int) (h0 : 0 ≤ s) (h1 : s ≤ 63) (hf : (rd_T25 q.sl s).f0 = 1) : apE q ⟨2, s, 0, 0, 0, 0, 0⟩ = ({ q with ver := wrap64 (q.ver + 1), sl := q.sl.set s.toNat { (rd_T25 q.sl s) with f0 := 2 } }, 0) := by
  show applyP q 2 s 0 0 0 0 0 = _
  have hb : badP q 2 s 0 0 = false := by unfold badP; rw [if_neg (by decide), if_pos (by decide), hf]; rfl
  unfold applyP
  rw [if_neg (by rw [outB_false _ _ _ ⟨h0, h1⟩]; decide), if_neg (by rw [hb]; decide), if_neg (fun h => absurd h.1 (by decide))]
  unfold nextPool nextSlot
  rw [if_neg (by decide), if_neg (by decide), if_pos rfl]
def twoSl (x u y v : Int) : List S25 := ((List.replicate 64 z25).set 4 ⟨2, x, 1, u, 0⟩).set 9 ⟨2, y, 2, v, 0⟩
theorem twoSl_len (x u y v : Int) : (twoSl x u y v).length = 64 := by simp [twoSl]
theorem two_rd (x u y v : Int) (i : Int) (h0 : 0 ≤ i) (h1 : i < 64) : rd_T25 (twoSl x u y v) i = if i = 9 then ⟨2, y, 2, v, 0⟩ else if i = 4 then ⟨2, x, 1, u, 0⟩ else z25 := by
  unfold twoSl
  rw [show (9 : Nat) = (9 : Int).toNat from rfl, rd_set _ _ _ _ (by decide) (by simp) h0, show (4 : Nat) = (4 : Int).toNat from rfl, rd_set _ _ _ _ (by decide) (by simp) h0]
  congr 2
  unfold rd_T25
  rw [List.getD_eq_getElem?_getD, List.getElem?_replicate, if_pos (by omega)]
  rfl
theorem rep_rd (i : Int) (h0 : 0 ≤ i) (h1 : i < 64) : rd_T25 (List.replicate 64 z25) i = z25 := by
  unfold rd_T25
  rw [List.getD_eq_getElem?_getD, List.getElem?_replicate, if_pos (by omega)]
  rfl
theorem two_all (x u y v : Int) : ∃ q : PL, q.sl = twoSl x u y v ∧ allP (make6 [] 0) [⟨1, 4, x, 1, u, 0, 0⟩, ⟨2, 4, 0, 0, 0, 0, 0⟩, ⟨1, 9, y, 2, v, 0, 0⟩, ⟨2, 9, 0, 0, 0, 0, 0⟩] 0 = (q, 4, 0) := by
  obtain ⟨p, hp⟩ : ∃ p, p = make6 [] 0 := ⟨_, rfl⟩
  have hs : p.sl = List.replicate 64 z25 := by rw [hp]; rfl
  have hport : p.port = 80 := by rw [hp]; rfl
  rw [← hp]
  clear hp
  have a1 := bind_ok1 (q := p) 4 x 1 u (by decide) (by decide) (by rw [hs, rep_rd _ (by decide) (by decide)]; rfl) (by
    unfold heldP
    rw [any_none, hport]
    · simp
    · intro i hi
      rw [hs, rep_rd _ (by omega) (by rw [hs, List.length_replicate] at hi; omega)]
      rfl)
  obtain ⟨p1, hp1⟩ : ∃ p1 : PL, p1 = { p with ver := wrap64 (p.ver + 1), sl := p.sl.set (4 : Int).toNat ⟨1, x, 1, u, 0⟩ } := ⟨_, rfl⟩
  rw [← hp1] at a1
  have s1 : p1.sl = (List.replicate 64 z25).set (4 : Int).toNat ⟨1, x, 1, u, 0⟩ := by rw [hp1, ← hs]
  have q1 : p1.port = 80 := by rw [hp1]; exact hport
  clear hp1
  have r1 : rd_T25 p1.sl 4 = ⟨1, x, 1, u, 0⟩ := by rw [s1, rd_set _ _ _ _ (by decide) (by simp) (by decide), if_pos rfl]
  have a2 := open_ok1 (q := p1) 4 (by decide) (by decide) (by rw [r1])
  rw [r1] at a2
  obtain ⟨p2, hp2⟩ : ∃ p2 : PL, p2 = { p1 with ver := wrap64 (p1.ver + 1), sl := p1.sl.set (4 : Int).toNat { (⟨1, x, 1, u, 0⟩ : S25) with f0 := 2 } } := ⟨_, rfl⟩
  rw [← hp2] at a2
  have s2 : p2.sl = (List.replicate 64 z25).set (4 : Int).toNat ⟨2, x, 1, u, 0⟩ := by rw [hp2]; show p1.sl.set _ _ = _; rw [s1, List.set_set]
  have q2 : p2.port = 80 := by rw [hp2]; exact q1
  clear hp2
  have l2 : p2.sl.length = 64 := by rw [s2]; simp
  have r2 : ∀ i : Int, 0 ≤ i → i < 64 → rd_T25 p2.sl i = if i = 4 then ⟨2, x, 1, u, 0⟩ else z25 := by
    intro i h0 h1
    rw [s2, rd_set _ _ _ _ (by decide) (by simp) h0, rep_rd i h0 h1]
  have a3 := bind_ok1 (q := p2) 9 y 2 v (by decide) (by decide) (by rw [r2 _ (by decide) (by decide), if_neg (by decide)]; rfl) (by
    unfold heldP
    rw [any_none, q2]
    · simp
    · intro i hi
      rw [r2 _ (by omega) (by omega)]
      split
      · simp [slotIs]
      · rfl)
  obtain ⟨p3, hp3⟩ : ∃ p3 : PL, p3 = { p2 with ver := wrap64 (p2.ver + 1), sl := p2.sl.set (9 : Int).toNat ⟨1, y, 2, v, 0⟩ } := ⟨_, rfl⟩
  rw [← hp3] at a3
  have s3 : p3.sl = p2.sl.set (9 : Int).toNat ⟨1, y, 2, v, 0⟩ := by rw [hp3]
  clear hp3
  have r3 : rd_T25 p3.sl 9 = ⟨1, y, 2, v, 0⟩ := by rw [s3, rd_set _ _ _ _ (by decide) (by rw [l2]; decide) (by decide), if_pos rfl]
  have a4 := open_ok1 (q := p3) 9 (by decide) (by decide) (by rw [r3])
  rw [r3] at a4
  refine ⟨{ p3 with ver := wrap64 (p3.ver + 1), sl := p3.sl.set (9 : Int).toNat { (⟨1, y, 2, v, 0⟩ : S25) with f0 := 2 } }, ?_, ?_⟩
  · show p3.sl.set _ _ = _
    rw [s3, List.set_set, s2]
    rfl
  · unfold allP
    rw [a1, if_pos rfl]
    unfold allP
    rw [a2, if_pos rfl]
    unfold allP
    rw [a3, if_pos rfl]
    unfold allP
    rw [a4, if_pos rfl]
    unfold allP
    rw [show wrap64 (wrap64 (wrap64 (wrap64 (0 + 1) + 1) + 1) + 1) = 4 from by unfold wrap64; omega]
theorem two_acts (x u y v : Int) : acts (twoSl x u y v) = [4, 9] := by
  unfold acts
  have e : (List.range 64).filter (actS (twoSl x u y v)) = (List.range 64).filter (fun i => i == 4 || i == 9) := by
    refine List.filter_congr fun i hi => ?_
    rw [List.mem_range] at hi
    unfold actS
    rw [two_rd _ _ _ _ _ (by omega) (by omega)]
    by_cases h9 : i = 9
    · subst h9; rfl
    · by_cases h4 : i = 4
      · subst h4; rfl
      · rw [if_neg (by omega), if_neg (by omega)]
        simp [h9, h4, z25]
  rw [e]
  decide
theorem two_counts {p : PL} (h : PInv p) (x u y v : Int) (hs : p.sl = twoSl x u y v) (hu : 1 ≤ u ∧ u ≤ 8) (hv : 1 ≤ v ∧ v ≤ 8) :
    (wheelOf p.sl).count 4 + (wheelOf p.sl).count 9 = 127 ∧ 0 < (wheelOf p.sl).count 4 ∧ 0 < (wheelOf p.sl).count 9 ∧ ((wheelOf p.sl).count 4 : Int) * v ≤ (((wheelOf p.sl).count 9 : Int) + v) * u ∧ ((wheelOf p.sl).count 9 : Int) * u ≤ ((wheelOf p.sl).count 4 : Int) * v := by
  have ha : acts p.sl = [4, 9] := by rw [hs]; exact two_acts x u y v
  have hne : acts p.sl ≠ [] := by rw [ha]; simp
  have w4 : wtS p.sl 4 = u.toNat := by
    unfold wtS
    rw [hs, two_rd _ _ _ _ _ (by decide) (by decide), if_neg (by decide), if_pos (by decide)]
  have w9 : wtS p.sl 9 = v.toNat := by
    unfold wtS
    rw [hs, two_rd _ _ _ _ _ (by decide) (by decide), if_pos (by decide)]
  have hE : roundE p.sl = List.replicate u.toNat 4 ++ List.replicate v.toNat 9 := by
    unfold roundE turnsOf
    rw [ha]
    simp [w4, w9]
  obtain ⟨U, hU⟩ := Int.eq_ofNat_of_zero_le (show 0 ≤ u by omega)
  obtain ⟨V, hV⟩ := Int.eq_ofNat_of_zero_le (show 0 ≤ v by omega)
  subst hU hV
  rw [Int.toNat_natCast, Int.toNat_natCast] at hE
  have c4 := wheel_count h hne 4
  have c9 := wheel_count h hne 9
  rw [hE] at c4 c9
  simp only [List.length_append, List.length_replicate, List.count_append, List.count_replicate, List.take_append, List.take_replicate] at c4 c9
  simp only [beq_self_eq_true, if_true] at c4 c9
  rw [show ((9 : Nat) == 4) = false from rfl] at c4
  rw [show ((4 : Nat) == 9) = false from rfl] at c9
  simp only [Bool.false_eq_true, if_false, Nat.add_zero, Nat.zero_add] at c4 c9
  have hd := Nat.div_add_mod 127 (U + V)
  have hr := Nat.mod_lt 127 (show 0 < U + V by omega)
  have hF : 0 < 127 / (U + V) := Nat.div_pos (by omega) (by omega)
  obtain ⟨F, hFe⟩ : ∃ F, F = 127 / (U + V) := ⟨_, rfl⟩
  obtain ⟨r, hre⟩ : ∃ r, r = 127 % (U + V) := ⟨_, rfl⟩
  rw [← hFe] at c4 c9 hd hF
  rw [← hre] at c4 c9 hd hr
  have g4 : (wheelOf p.sl).count (4 : Int) = F * U + min r U := by
    have e : (((4 : Nat) : Int)) = 4 := rfl
    rw [← e, c4]
  have g9 : (wheelOf p.sl).count (9 : Int) = F * V + min (r - U) V := by
    have e : (((9 : Nat) : Int)) = 9 := rfl
    rw [← e, c9]
  rw [g4, g9]
  have hFU : 1 * U ≤ F * U := Nat.mul_le_mul_right _ hF
  have hFV : 1 * V ≤ F * V := Nat.mul_le_mul_right _ hF
  have hd2 : F * U + F * V + r = 127 := by rw [← Nat.mul_add, Nat.mul_comm]; exact hd
  refine ⟨by omega, by omega, by omega, ?_, ?_⟩
  · have h1 : (F * U + min r U) * V ≤ (F * V + min (r - U) V + V) * U := by
      rcases Nat.le_total r U with h2 | h2
      · rw [Nat.min_eq_left h2, show r - U = 0 by omega, Nat.zero_min, Nat.add_mul, Nat.add_mul, Nat.add_mul, Nat.mul_right_comm, Nat.zero_mul]
        have := Nat.mul_le_mul_right V h2
        rw [Nat.mul_comm V U]
        omega
      · rw [Nat.min_eq_right h2, Nat.add_mul, Nat.add_mul, Nat.add_mul, Nat.mul_right_comm]
        have := Nat.mul_comm V U
        omega
    exact_mod_cast h1
  · have h1 : (F * V + min (r - U) V) * U ≤ (F * U + min r U) * V := by
      rcases Nat.le_total r U with h2 | h2
      · rw [show r - U = 0 by omega, Nat.zero_min, Nat.add_zero, Nat.add_mul, Nat.mul_right_comm]
        omega
      · rw [Nat.min_eq_right h2, Nat.add_mul, Nat.add_mul, Nat.mul_right_comm]
        have h3 : min (r - U) V * U ≤ V * U := Nat.mul_le_mul_right _ (Nat.min_le_right _ _)
        have := Nat.mul_comm V U
        omega
    exact_mod_cast h1
end Go.Proofs.Ytnffajpnffibaaa.Own
