/-
  The wheel, in plain Lean: walkers take places one behind the other; what the places are then.
-/
import Derived.Test.YtnffajpnffibaaaWheE
import Derived.Test.YtnffajpnffibaaaSipP
import Derived.Test.YtnffajpnffibaaaQ3
namespace Go.Proofs.Ytnffajpnffibaaa.Own
open Go.RowKit Go.Proofs.YtnffajpnffibaaaW.PrintWords Go.Proofs.YtnffajpnffibaaaW.PrintMore Go.Proofs.YtnffajpnffibaaaW.PrintLast Go.Proofs.Ytnffajpnffibaaa.Q
set_option linter.unusedVariables false
set_option linter.unusedSimpArgs false

def actS (sl : List S25) (i : Nat) : Bool := (rd_T25 sl i).f0 == 2
def wtS (sl : List S25) (i : Nat) : Nat := (rd_T25 sl i).f3.toNat
def pA (sl : List S25) (i : Nat) : Nat := (sipWords 0 0 [1, (rd_T25 sl i).f1, (rd_T25 sl i).f2] % 127).toNat
def pB (sl : List S25) (i : Nat) : Nat := (sipWords 0 0 [2, (rd_T25 sl i).f1, (rd_T25 sl i).f2] % 126).toNat + 1
theorem pA_lt (sl : List S25) (i : Nat) : pA sl i < 127 := by unfold pA; omega
theorem pB_lt (sl : List S25) (i : Nat) : 1 ≤ pB sl i ∧ pB sl i ≤ 126 := by unfold pB; omega
/-- A place. -/
def plc (a b n : Nat) : Nat := (a + n * b) % 127
theorem plc_lt (a b n : Nat) : plc a b n < 127 := Nat.mod_lt _ (by decide)
def free (w : List Int) (q : Nat) : Prop := w.getD q 0 = -1
instance (w : List Int) (q : Nat) : Decidable (free w q) := inferInstanceAs (Decidable (_ = _))
/-- How far to go on, to the first place that is free. -/
def findN (w : List Int) (a b : Nat) : Nat → Nat → Nat
  | 0, n => n
  | f + 1, n => if free w (plc a b n) then n else findN w a b f (n + 1)
structure WSt where
  w : List Int
  nx : Nat → Nat
def upd (nx : Nat → Nat) (i n : Nat) : Nat → Nat := fun j => if j = i then n else nx j
def turn (sl : List S25) (s : WSt) (i : Nat) : WSt :=
  ⟨s.w.set (plc (pA sl i) (pB sl i) (findN s.w (pA sl i) (pB sl i) 127 (s.nx i))) (i : Int), upd s.nx i (findN s.w (pA sl i) (pB sl i) 127 (s.nx i))⟩
def acts (sl : List S25) : List Nat := (List.range 64).filter (actS sl)
def turnsOf (sl : List S25) (l : List Nat) : List Nat := l.flatMap fun i => List.replicate (wtS sl i) i
def roundE (sl : List S25) : List Nat := turnsOf sl (acts sl)
def st (sl : List S25) : Nat → WSt
  | 0 => ⟨List.replicate 127 (-1), fun _ => 0⟩
  | t + 1 => turn sl (st sl t) ((roundE sl).getD (t % (roundE sl).length) 0)
def wheelOf (sl : List S25) : List Int := if acts sl = [] then List.replicate 127 (-1) else (st sl 127).w

/-! The steps reach all places -/
theorem inv127 : ∀ b : Fin 127, b.val ≠ 0 → ∃ c : Fin 127, b.val * c.val % 127 = 1 := by decide +kernel
theorem reach127 (b : Nat) (hb : 1 ≤ b ∧ b ≤ 126) (x q : Nat) (hq : q < 127) : ∃ d, d < 127 ∧ (x + d * b) % 127 = q := by
  obtain ⟨c, hc⟩ := inv127 ⟨b, by omega⟩ (by show b ≠ 0; omega)
  have hc : b * c.val % 127 = 1 := hc
  refine ⟨((q + 126 * x) * c.val) % 127, Nat.mod_lt _ (by decide), ?_⟩
  have h1 : ((q + 126 * x) * c.val % 127 * b) % 127 = (q + 126 * x) % 127 := by
    rw [Nat.mod_mul_mod, Nat.mul_assoc, Nat.mul_comm c.val b, Nat.mul_mod, hc, Nat.mul_one, Nat.mod_mod]
  rw [Nat.add_mod, h1, ← Nat.add_mod]
  omega
theorem findN_spec (w : List Int) (a b : Nat) : ∀ (f n m : Nat), n ≤ m → m < n + f → free w (plc a b m) → n ≤ findN w a b f n ∧ findN w a b f n ≤ m ∧ free w (plc a b (findN w a b f n)) ∧ ∀ j, n ≤ j → j < findN w a b f n → ¬ free w (plc a b j)
  | 0, n, m, h1, h2, h3 => by omega
  | f + 1, n, m, h1, h2, h3 => by
    unfold findN
    split
    · rename_i h
      exact ⟨Nat.le_refl _, h1, h, fun j h4 h5 => by omega⟩
    · rename_i h
      have hne : n ≠ m := fun e => h (by rw [e]; exact h3)
      obtain ⟨h4, h5, h6, h7⟩ := findN_spec w a b f (n + 1) m (by omega) (by omega) h3
      refine ⟨by omega, h5, h6, fun j h8 h9 => ?_⟩
      by_cases hj : j = n
      · rw [hj]; exact h
      · exact h7 j (by omega) h9
theorem find_ok (w : List Int) (a b n : Nat) (hb : 1 ≤ b ∧ b ≤ 126) (hf : ∃ q, q < 127 ∧ free w q) : n ≤ findN w a b 127 n ∧ findN w a b 127 n ≤ n + 126 ∧ free w (plc a b (findN w a b 127 n)) ∧ ∀ j, n ≤ j → j < findN w a b 127 n → ¬ free w (plc a b j) := by
  obtain ⟨q, hq, hw⟩ := hf
  obtain ⟨d, hd, he⟩ := reach127 b hb (a + n * b) q hq
  have hp : plc a b (n + d) = q := by
    unfold plc
    rw [← he]
    congr 1
    rw [Nat.add_mul]
    omega
  obtain ⟨h1, h2, h3, h4⟩ := findN_spec w a b 127 n (n + d) (by omega) (by omega) (by rw [hp]; exact hw)
  exact ⟨h1, by omega, h3, h4⟩

/-! What the places are behind t turns -/
theorem count_set_free (w : List Int) (q : Nat) (v x : Int) (hq : q < w.length) (hf : free w q) (hv : v ≠ -1) : (w.set q v).count x = w.count x + (if x = v then 1 else 0) - (if x = -1 then 1 else 0) := by
  have hg : w[q] = -1 := by
    unfold free at hf
    rw [List.getD_eq_getElem?_getD, List.getElem?_eq_getElem hq] at hf
    exact hf
  rw [List.count_set hq, hg]
  by_cases h1 : x = v
  · subst h1
    have : ((-1 : Int) == x) = false := by simp; omega
    simp [this, hv]
  · by_cases h2 : x = -1
    · subst h2
      have : (v == (-1 : Int)) = false := by simp; exact hv
      simp [this, h1]
    · have e1 : ((-1 : Int) == x) = false := by simp; omega
      have e2 : (v == x) = false := by simp; omega
      simp [e1, e2, h1, h2]
theorem free_of_count (w : List Int) (hl : w.length = 127) (hc : 0 < w.count (-1)) : ∃ q, q < 127 ∧ free w q := by
  have hm : (-1 : Int) ∈ w := List.count_pos_iff.1 hc
  obtain ⟨q, hq, he⟩ := List.getElem_of_mem hm
  refine ⟨q, by omega, ?_⟩
  unfold free
  rw [List.getD_eq_getElem?_getD, List.getElem?_eq_getElem hq, he]
  rfl
structure WInv (sl : List S25) (t : Nat) : Prop where
  len : (st sl t).w.length = 127
  fr : (st sl t).w.count (-1) = 127 - t
  cnt : ∀ i : Nat, (st sl t).w.count (i : Int) = ((List.range t).map fun s => (roundE sl).getD (s % (roundE sl).length) 0).count i
  mem : ∀ x ∈ (st sl t).w, x = -1 ∨ ∃ i : Nat, i ∈ roundE sl ∧ x = (i : Int)
  nx : ∀ i, (st sl t).nx i ≤ 126 * t
theorem winv (sl : List S25) (hE : 0 < (roundE sl).length) : ∀ t, t ≤ 127 → WInv sl t
  | 0, _ => ⟨by simp [st], by simp [st], fun i => by simp [st, List.count_replicate], fun x hx => by left; simp [st] at hx; exact hx, fun i => by simp [st]⟩
  | t + 1, ht => by
    have h := winv sl hE t (by omega)
    obtain ⟨i, hi⟩ : ∃ i, i = (roundE sl).getD (t % (roundE sl).length) 0 := ⟨_, rfl⟩
    have himem : i ∈ roundE sl := by
      rw [hi, List.getD_eq_getElem?_getD, List.getElem?_eq_getElem (Nat.mod_lt _ hE)]
      exact List.getElem_mem _
    have hst : st sl (t + 1) = turn sl (st sl t) i := by rw [hi]; rfl
    obtain ⟨h1, h2, h3, h4⟩ := find_ok (st sl t).w (pA sl i) (pB sl i) ((st sl t).nx i) (pB_lt sl i) (free_of_count _ h.len (by rw [h.fr]; omega))
    have hq := plc_lt (pA sl i) (pB sl i) (findN (st sl t).w (pA sl i) (pB sl i) 127 ((st sl t).nx i))
    have hne : (i : Int) ≠ -1 := by omega
    refine ⟨?_, ?_, ?_, ?_, ?_⟩
    · rw [hst]; simp only [turn, List.length_set]; exact h.len
    · rw [hst]
      simp only [turn]
      rw [count_set_free _ _ _ _ (by rw [h.len]; exact hq) h3 hne, if_neg (by omega), if_pos rfl, h.fr]
      omega
    · intro j
      rw [hst]
      simp only [turn]
      rw [count_set_free _ _ _ _ (by rw [h.len]; exact hq) h3 hne, if_neg (show ¬ ((j : Int) = -1) by omega), h.cnt j, List.range_succ, List.map_append, List.count_append]
      simp only [List.map_cons, List.map_nil, ← hi]
      by_cases hj : j = i
      · subst hj; simp
      · rw [if_neg (by omega), List.count_cons_of_ne (fun e => hj e.symm)]; simp
    · intro x hx
      rw [hst] at hx
      simp only [turn] at hx
      rcases List.mem_or_eq_of_mem_set hx with hx | rfl
      · exact h.mem x hx
      · exact .inr ⟨i, himem, rfl⟩
    · intro j
      rw [hst]
      simp only [turn, upd]
      split
      · have := h.nx i; omega
      · have := h.nx j; omega
end Go.Proofs.Ytnffajpnffibaaa.Own
namespace Go.Proofs.Ytnffajpnffibaaa.Own
open Go.RowKit Go.Proofs.YtnffajpnffibaaaW.PrintWords Go.Proofs.YtnffajpnffibaaaW.PrintMore Go.Proofs.YtnffajpnffibaaaW.PrintLast Go.Proofs.Ytnffajpnffibaaa.Q
set_option linter.unusedVariables false
set_option linter.unusedSimpArgs false

/-- From some number of rounds on. -/
def Reach {α : Type} (g : Nat → Option α) (r : α) : Prop := ∃ K, ∀ k, K ≤ k → g k = some r
theorem Reach.step {α : Type} {g h : Nat → Option α} {r : α} (K0 : Nat) (e : ∀ k, K0 ≤ k → g (k + 1) = h k) (hh : Reach h r) : Reach g r := by
  obtain ⟨K, hK⟩ := hh
  refine ⟨max K K0 + 1, fun k hk => ?_⟩
  obtain ⟨m, rfl⟩ : ∃ m, k = m + 1 := ⟨k - 1, by omega⟩
  rw [e m (by omega)]
  exact hK m (by omega)
theorem Reach.now {α : Type} {g : Nat → Option α} {r : α} (e : ∀ k, g (k + 1) = some r) : Reach g r := ⟨1, fun k hk => by obtain ⟨m, rfl⟩ : ∃ m, k = m + 1 := ⟨k - 1, by omega⟩; exact e m⟩
theorem Reach.same {α : Type} {g h : Nat → Option α} {r : α} (e : ∀ k, g k = h k) (hh : Reach h r) : Reach g r := by
  obtain ⟨K, hK⟩ := hh
  exact ⟨K, fun k hk => (e k).trans (hK k hk)⟩

theorem w64 (z : Int) (h : 0 ≤ z) (h2 : z < 9223372036854775808) : wrap64 z = z := by unfold wrap64; omega
theorem bind_ok {α β : Type} {x : Option α} {f : α → Option β} {a : α} {r : β} (hx : x = some a) (hf : f a = some r) : x.bind f = some r := by rw [hx]; exact hf
theorem words_range (a b : Int) (l : List Int) : 0 ≤ sipWords a b l ∧ sipWords a b l < 18446744073709551616 := by
  unfold sipWords sipOf fin xor64 Go.bits
  rw [IntKind.wrap_u64]
  omega
theorem spun_val (k : Nat) (m : Int) (l : List Int) (hk : 1 ≤ k) (hm : 0 < m) (hm2 : m < 9223372036854775808) (hl : l.length ≤ 1048576) : wheel_spun.f k m l = some (sipWords 0 0 l % m) := by
  obtain ⟨j, rfl⟩ : ∃ j, k = j + 1 := ⟨k - 1, by omega⟩
  have hr := words_range 0 0 l
  unfold wheel_spun.f
  have h1 : sip_Words.f (j + 1) 0 0 l = some (sipWords 0 0 l) := by
    show (if l.length ≤ 1048576 then some (sipWords 0 0 l) else none) = _
    rw [if_pos hl]
  rw [h1]
  simp only [Option.bind_some]
  rw [if_neg (by omega), Int.tmod_eq_emod_of_nonneg hr.1]
  have h2 := Int.emod_nonneg (sipWords 0 0 l) (show m ≠ 0 by omega)
  have h3 := Int.emod_lt_of_pos (sipWords 0 0 l) hm
  rw [w64 _ h2 (by omega)]

/-! Walkers -/
def wk (sl : List S25) (nx : Nat → Nat) (i : Nat) : S64 := ⟨(i : Int), (plc (pA sl i) (pB sl i) (nx i) : Nat), (pB sl i : Nat), (wtS sl i : Nat)⟩
def X5 (sl : List S25) (nx : Nat → Nat) : List S64 := (acts sl).map (wk sl nx)
theorem X5_len (sl : List S25) (nx : Nat → Nat) : (X5 sl nx).length = (acts sl).length := by simp [X5]
theorem acts_nodup (sl : List S25) : (acts sl).Nodup := List.Pairwise.filter _ List.nodup_range
theorem acts_inj (sl : List S25) (j k : Nat) (hj : j < (acts sl).length) (hk : k < (acts sl).length) (h : (acts sl)[j] = (acts sl)[k]) : j = k := by
  have hp := List.pairwise_iff_getElem.1 (acts_nodup sl)
  rcases Nat.lt_trichotomy j k with h1 | h1 | h1
  · exact absurd h (hp j k hj hk h1)
  · exact h1
  · exact absurd h.symm (hp k j hk hj h1)
theorem acts_len (sl : List S25) : (acts sl).length ≤ 64 := by
  have h := List.length_filter_le (actS sl) (List.range 64)
  simpa [acts] using h
theorem rdX (sl : List S25) (nx : Nat → Nat) (k : Nat) (hk : k < (acts sl).length) : rd_T64 (X5 sl nx) (k : Int) = wk sl nx (acts sl)[k] := by
  unfold rd_T64 X5
  rw [Int.toNat_natCast, List.getD_eq_getElem?_getD, List.getElem?_map, List.getElem?_eq_getElem hk]
  rfl
theorem setX (sl : List S25) (nx : Nat → Nat) (k : Nat) (hk : k < (acts sl).length) (n : Nat) : (X5 sl nx).set k (wk sl (upd nx (acts sl)[k] n) (acts sl)[k]) = X5 sl (upd nx (acts sl)[k] n) := by
  unfold X5
  apply List.ext_getElem
  · simp
  · intro j h1 h2
    simp only [List.length_map] at h2
    rw [List.getElem_set]
    split
    · rename_i e
      subst e
      simp
    · rename_i e
      have hne : (acts sl)[j] ≠ (acts sl)[k] := fun h => e (acts_inj sl j k h2 hk h).symm
      simp only [List.getElem_map, wk, upd, if_neg hne]
theorem acts_act (sl : List S25) (k : Nat) (hk : k < (acts sl).length) : actS sl (acts sl)[k] = true ∧ (acts sl)[k] < 64 := by
  have h := List.getElem_mem hk
  unfold acts at h
  rw [List.mem_filter, List.mem_range] at h
  exact ⟨h.2, h.1⟩
/-- What a wheel is asked of slots for. -/
structure Good (sl : List S25) : Prop where
  len : sl.length = 64
  wt : ∀ i : Nat, i < 64 → actS sl i = true → 1 ≤ (rd_T25 sl i).f3 ∧ (rd_T25 sl i).f3 ≤ 8

/-! Which turn is whose -/
def offK (sl : List S25) (k : Nat) : Nat := (turnsOf sl ((acts sl).take k)).length
theorem turnsOf_append (sl : List S25) (l1 l2 : List Nat) : turnsOf sl (l1 ++ l2) = turnsOf sl l1 ++ turnsOf sl l2 := by simp [turnsOf]
theorem turnsOf_cons (sl : List S25) (i : Nat) (l : List Nat) : turnsOf sl (i :: l) = List.replicate (wtS sl i) i ++ turnsOf sl l := by simp [turnsOf]
theorem offK_succ (sl : List S25) (k : Nat) (hk : k < (acts sl).length) : offK sl (k + 1) = offK sl k + wtS sl (acts sl)[k] := by
  unfold offK
  rw [List.take_add_one, List.getElem?_eq_getElem hk, turnsOf_append, List.length_append]
  simp [turnsOf]
theorem offK_end (sl : List S25) : offK sl (acts sl).length = (roundE sl).length := by
  unfold offK roundE
  rw [List.take_length]
theorem roundE_get (sl : List S25) (k : Nat) (hk : k < (acts sl).length) (j : Nat) (hj : j < wtS sl (acts sl)[k]) : offK sl k + j < (roundE sl).length ∧ (roundE sl).getD (offK sl k + j) 0 = (acts sl)[k] := by
  have e : roundE sl = turnsOf sl ((acts sl).take k) ++ (List.replicate (wtS sl (acts sl)[k]) (acts sl)[k] ++ turnsOf sl ((acts sl).drop (k + 1))) := by
    unfold roundE
    conv => lhs; rw [← List.take_append_drop k (acts sl), List.drop_eq_getElem_cons hk]
    rw [turnsOf_append, turnsOf_cons]
  have hl : offK sl k + j < (roundE sl).length := by
    rw [e]
    simp only [List.length_append, List.length_replicate]
    unfold offK
    omega
  refine ⟨hl, ?_⟩
  rw [List.getD_eq_getElem?_getD, e, List.getElem?_append_right (by unfold offK; omega)]
  unfold offK
  rw [Nat.add_sub_cancel_left, List.getElem?_append_left (by simp; exact hj), List.getElem?_replicate, if_pos hj]
  rfl
theorem mod_succ {t x S : Nat} (h : t % S = x % S) : (t + 1) % S = (x + 1) % S := by
  rw [Nat.add_mod, h, ← Nat.add_mod]

/-! The loops of wheel.Make -/
theorem upd_self (nx : Nat → Nat) (i : Nat) : upd nx i (nx i) = nx := by
  funext j
  unfold upd
  split
  · rename_i h; rw [h]
  · rfl
theorem wk_upd (sl : List S25) (nx : Nat → Nat) (i n : Nat) : wk sl (upd nx i n) i = ⟨(i : Int), (plc (pA sl i) (pB sl i) n : Nat), (pB sl i : Nat), (wtS sl i : Nat)⟩ := by
  unfold wk upd
  rw [if_pos rfl]
theorem upd_upd (nx : Nat → Nat) (i n m : Nat) : upd (upd nx i n) i m = upd nx i m := by
  funext j
  unfold upd
  split <;> rfl
theorem plc_step (a b n : Nat) (ha : a < 127) (hb : 1 ≤ b ∧ b ≤ 126) : Int.tmod (wrap64 (((plc a b n : Nat) : Int) + ((b : Nat) : Int))) 127 = ((plc a b (n + 1) : Nat) : Int) := by
  have h1 := plc_lt a b n
  rw [w64 _ (by omega) (by omega), Int.tmod_eq_emod_of_nonneg (by omega)]
  unfold plc at *
  rw [Nat.add_mul, Nat.one_mul, ← Nat.add_assoc, Nat.add_mod (a + n * b) b 127]
  omega
theorem wheel_l5 (sl : List S25) (w : List Int) (hw : w.length = 127) (k : Nat) (hk : k < (acts sl).length) (nx : Nat → Nat) (x8 x55 x56 x63 x64 : Int) (r : List Int) (m : Nat) (hf : free w (plc (pA sl (acts sl)[k]) (pB sl (acts sl)[k]) m))
    (h : Reach (fun f => wheel_Make.l4 f (w.set (plc (pA sl (acts sl)[k]) (pB sl (acts sl)[k]) m) ((acts sl)[k] : Int)) (X5 sl (upd nx (acts sl)[k] m)) (wrap64 (x8 - 1)) (k : Int) x55 x56 x63 (wrap64 (x64 + 1))) r) :
    ∀ (d n : Nat), n + d = m → (∀ j, n ≤ j → j < m → ¬ free w (plc (pA sl (acts sl)[k]) (pB sl (acts sl)[k]) j)) → Reach (fun f => wheel_Make.l5 f w (X5 sl (upd nx (acts sl)[k] n)) x8 (k : Int) w x55 x56 x63 x64) r := by
  intro d
  induction d with
  | zero =>
    intro n hn hj
    obtain rfl : n = m := by omega
    refine Reach.step 0 (fun f _ => ?_) h
    have hq := plc_lt (pA sl (acts sl)[k]) (pB sl (acts sl)[k]) n
    simp only [wheel_Make.l5]
    rw [if_pos (by omega), if_pos (by rw [X5_len]; omega), rdX sl _ k hk, wk_upd]
    dsimp only
    rw [if_pos (by omega), if_pos (by omega), if_pos (by unfold free at hf; unfold rd; rw [Int.toNat_natCast]; exact hf)]
    rw [Option.bind_some, Int.toNat_natCast, if_pos]
    rw [arrNe_pos]
    intro e
    have h1 : (w.set (plc (pA sl (acts sl)[k]) (pB sl (acts sl)[k]) n) ((acts sl)[k] : Int))[plc (pA sl (acts sl)[k]) (pB sl (acts sl)[k]) n]? = w[plc (pA sl (acts sl)[k]) (pB sl (acts sl)[k]) n]? := by rw [e]
    rw [List.getElem?_set_self (by omega), List.getElem?_eq_getElem (by omega)] at h1
    unfold free at hf
    rw [List.getD_eq_getElem?_getD, List.getElem?_eq_getElem (by omega), ← Option.some.inj h1] at hf
    simp only [Option.getD_some] at hf
    omega
  | succ d ih =>
    intro n hn hj
    have hnf := hj n (Nat.le_refl _) (by omega)
    refine Reach.step 0 (fun f _ => ?_) (ih (n + 1) (by omega) (fun j h1 h2 => hj j (by omega) h2))
    have hq := plc_lt (pA sl (acts sl)[k]) (pB sl (acts sl)[k]) n
    have hset := setX sl (upd nx (acts sl)[k] n) k hk (n + 1)
    rw [upd_upd, wk_upd] at hset
    simp only [wheel_Make.l5]
    rw [if_pos (by omega), if_pos (by rw [X5_len]; omega), rdX sl _ k hk, wk_upd]
    dsimp only
    rw [if_pos (by omega), if_pos (by omega), if_neg (by unfold free at hnf; unfold rd; rw [Int.toNat_natCast]; exact hnf), plc_step _ _ _ (pA_lt _ _) (pB_lt _ _), Int.toNat_natCast, hset]
theorem acts_wt (sl : List S25) (hG : Good sl) (k : Nat) (hk : k < (acts sl).length) : 1 ≤ wtS sl (acts sl)[k] ∧ wtS sl (acts sl)[k] ≤ 8 := by
  obtain ⟨h1, h2⟩ := acts_act sl k hk
  have h3 := hG.wt _ h2 h1
  unfold wtS
  omega
theorem wheel_l4 (sl : List S25) (hG : Good sl) : ∀ (d t : Nat), t + d = 127 → ∀ (k : Nat) (hk : k < (acts sl).length) (j : Nat), j ≤ wtS sl (acts sl)[k] → t % (roundE sl).length = (offK sl k + j) % (roundE sl).length →
    Reach (fun f => wheel_Make.l4 f (st sl t).w (X5 sl (st sl t).nx) ((127 - t : Nat) : Int) (k : Int) ((acts sl).length : Int) (k : Int) (wtS sl (acts sl)[k] : Nat) (j : Int)) (st sl 127).w := by
  intro d
  induction d with
  | zero =>
    intro t ht
    obtain rfl : t = 127 := by omega
    have hlt : ∀ (k : Nat) (hk : k < (acts sl).length) (j : Nat), j < wtS sl (acts sl)[k] → Reach (fun f => wheel_Make.l4 f (st sl 127).w (X5 sl (st sl 127).nx) ((127 - 127 : Nat) : Int) (k : Int) ((acts sl).length : Int) (k : Int) (wtS sl (acts sl)[k] : Nat) (j : Int)) (st sl 127).w := by
      intro k hk j hj
      refine Reach.now fun f => ?_
      simp only [wheel_Make.l4]
      rw [if_pos (by omega), if_pos (by rfl)]
    intro k hk j hj _
    rcases Nat.lt_or_ge j (wtS sl (acts sl)[k]) with h1 | h1
    · exact hlt k hk j h1
    · have hal := acts_len sl
      refine Reach.step (h := fun f => wheel_Make.l3 f (st sl 127).w (X5 sl (st sl 127).nx) ((127 - 127 : Nat) : Int) ((acts sl).length : Int) ((k + 1 : Nat) : Int)) 0 (fun f _ => ?_) ?_
      · simp only [wheel_Make.l4]
        rw [if_neg (by omega), show wrap64 ((k : Int) + 1) = ((k + 1 : Nat) : Int) from by rw [w64 _ (by omega) (by omega)]; omega]
      · rcases Nat.lt_or_ge (k + 1) (acts sl).length with h2 | h2
        · refine Reach.step 0 (fun f _ => ?_) (hlt (k + 1) h2 0 (acts_wt sl hG _ h2).1)
          simp only [wheel_Make.l3]
          rw [if_pos (by omega), if_pos (by omega), if_pos (by rw [X5_len]; omega), rdX sl _ _ h2]
          rfl
        · refine Reach.step (h := fun f => wheel_Make.l2 f (st sl 127).w (X5 sl (st sl 127).nx) ((127 - 127 : Nat) : Int)) 0 (fun f _ => ?_) (Reach.now fun f => ?_)
          · simp only [wheel_Make.l3]
            rw [if_neg (by omega)]
          · simp only [wheel_Make.l2]
            rw [if_neg (by simp)]
  | succ d ih =>
    intro t ht
    have hlt : ∀ (k : Nat) (hk : k < (acts sl).length) (j : Nat), j < wtS sl (acts sl)[k] → t % (roundE sl).length = (offK sl k + j) % (roundE sl).length → Reach (fun f => wheel_Make.l4 f (st sl t).w (X5 sl (st sl t).nx) ((127 - t : Nat) : Int) (k : Int) ((acts sl).length : Int) (k : Int) (wtS sl (acts sl)[k] : Nat) (j : Int)) (st sl 127).w := by
      intro k hk j hj hc
      obtain ⟨hE1, hE2⟩ := roundE_get sl k hk j hj
      have hE0 : 0 < (roundE sl).length := by omega
      have hinv := winv sl hE0 t (by omega)
      have htS : t % (roundE sl).length = offK sl k + j := by rw [hc, Nat.mod_eq_of_lt hE1]
      have hst : st sl (t + 1) = turn sl (st sl t) (acts sl)[k] := by
        show turn sl (st sl t) ((roundE sl).getD (t % (roundE sl).length) 0) = _
        rw [htS, hE2]
      obtain ⟨f1, f2, f3, f4⟩ := find_ok (st sl t).w (pA sl (acts sl)[k]) (pB sl (acts sl)[k]) ((st sl t).nx (acts sl)[k]) (pB_lt _ _) (free_of_count _ hinv.len (by rw [hinv.fr]; omega))
      have hnext := ih (t + 1) (by omega) k hk (j + 1) (by omega) (by rw [← Nat.add_assoc]; exact mod_succ hc)
      rw [hst] at hnext
      simp only [turn] at hnext
      have hw8 := (acts_wt sl hG k hk).2
      have h5 := wheel_l5 sl (st sl t).w hinv.len k hk (st sl t).nx ((127 - t : Nat) : Int) ((acts sl).length : Int) (k : Int) (wtS sl (acts sl)[k] : Nat) (j : Int) (st sl 127).w _ f3 (Reach.same (fun f => by
        rw [show wrap64 (((127 - t : Nat) : Int) - 1) = ((127 - (t + 1) : Nat) : Int) from by rw [w64 _ (by omega) (by omega)]; omega, show wrap64 ((j : Int) + 1) = ((j + 1 : Nat) : Int) from by rw [w64 _ (by omega) (by omega)]; omega]) hnext) _ _ (Nat.add_sub_cancel' f1) f4
      rw [upd_self] at h5
      refine Reach.step 0 (fun f _ => ?_) h5
      simp only [wheel_Make.l4]
      rw [if_pos (by omega), if_neg (by omega)]
      simp only [Option.bind_some, List.nil_append, List.length_nil]
      rw [if_pos (by rw [hinv.len]; decide)]
    intro k hk j hj hc
    rcases Nat.lt_or_ge j (wtS sl (acts sl)[k]) with h1 | h1
    · exact hlt k hk j h1 hc
    · have hal := acts_len sl
      obtain rfl : j = wtS sl (acts sl)[k] := by omega
      refine Reach.step (h := fun f => wheel_Make.l3 f (st sl t).w (X5 sl (st sl t).nx) ((127 - t : Nat) : Int) ((acts sl).length : Int) ((k + 1 : Nat) : Int)) 0 (fun f _ => ?_) ?_
      · simp only [wheel_Make.l4]
        rw [if_neg (by omega), show wrap64 ((k : Int) + 1) = ((k + 1 : Nat) : Int) from by rw [w64 _ (by omega) (by omega)]; omega]
      · rcases Nat.lt_or_ge (k + 1) (acts sl).length with h2 | h2
        · refine Reach.step 0 (fun f _ => ?_) (hlt (k + 1) h2 0 (acts_wt sl hG _ h2).1 (by rw [hc, offK_succ sl k hk]; rfl))
          simp only [wheel_Make.l3]
          rw [if_pos (by omega), if_pos (by omega), if_pos (by rw [X5_len]; omega), rdX sl _ _ h2]
          rfl
        · have h0 : 0 < (acts sl).length := by omega
          have hend : offK sl k + wtS sl (acts sl)[k] = (roundE sl).length := by rw [← offK_succ sl k hk, ← offK_end]; congr 1; omega
          refine Reach.step (h := fun f => wheel_Make.l2 f (st sl t).w (X5 sl (st sl t).nx) ((127 - t : Nat) : Int)) 0 (fun f _ => ?_) (Reach.step (h := fun f => wheel_Make.l3 f (st sl t).w (X5 sl (st sl t).nx) ((127 - t : Nat) : Int) ((acts sl).length : Int) 0) 0 (fun f _ => ?_) (Reach.step 0 (fun f _ => ?_) (hlt 0 h0 0 (acts_wt sl hG _ h0).1 (by rw [hc, hend, Nat.mod_self]; simp [offK, turnsOf]))))
          · simp only [wheel_Make.l3]
            rw [if_neg (by omega)]
          · simp only [wheel_Make.l2]
            rw [if_pos (by omega), X5_len]
          · simp only [wheel_Make.l3]
            have hr0 := rdX sl (st sl t).nx 0 h0
            rw [if_pos (by omega), if_pos (by omega), if_pos (by rw [X5_len]; omega)]
            rw [show ((0 : Nat) : Int) = 0 from rfl] at hr0
            rw [hr0]
            rfl

theorem wheel_l0 (sl : List S25) (r : List Int) (h : Reach (fun f => wheel_Make.l1 f (List.replicate 127 (-1)) ([] : List S64) sl 0) r) : ∀ (d n : Nat), n + d = 127 → Reach (fun f => wheel_Make.l0 f sl (List.replicate n (-1) ++ List.replicate d 0) (n : Int)) r := by
  intro d
  induction d with
  | zero =>
    intro n hn
    obtain rfl : n = 127 := by omega
    refine Reach.step 0 (fun f _ => ?_) h
    simp only [wheel_Make.l0]
    rw [if_neg (by omega), List.replicate_zero, List.append_nil]
  | succ d ih =>
    intro n hn
    refine Reach.step 0 (fun f _ => ?_) (ih (n + 1) (by omega))
    have e : (List.replicate n (-1 : Int) ++ List.replicate (d + 1) 0).set n (-1) = List.replicate (n + 1) (-1) ++ List.replicate d 0 := by
      rw [List.set_append_right _ _ (by simp), List.length_replicate, Nat.sub_self, List.replicate_succ, List.set_cons_zero, List.replicate_succ']
      simp
    simp only [wheel_Make.l0]
    rw [if_pos (by omega), if_pos (by omega), if_pos (by simp; omega), Int.toNat_natCast, e, w64 _ (by omega) (by omega)]
    rfl
def X50 (sl : List S25) (m : Nat) : List S64 := ((List.range m).filter (actS sl)).map (wk sl (fun _ => 0))
theorem X50_end (sl : List S25) : X50 sl 64 = X5 sl (fun _ => 0) := rfl
theorem num1 (a b : Nat) (s : Int) (h0 : 0 ≤ s) (h : a = (s % 127).toNat) : ((plc a b 0 : Nat) : Int) = s % 127 := by
  unfold plc
  rw [Nat.zero_mul, Nat.add_zero, Nat.mod_eq_of_lt (by omega)]
  omega
theorem num2 (b : Nat) (s : Int) (h0 : 0 ≤ s) (h : b = (s % 126).toNat + 1) : ((b : Nat) : Int) = wrap64 (1 + s % 126) := by
  rw [w64 _ (by omega) (by omega)]
  omega
theorem num3 (b : Nat) (s : Int) (h : b = s.toNat) (h1 : 1 ≤ s) (h2 : s ≤ 8) : ((b : Nat) : Int) = mn (mx s 1) 8 := by
  unfold mn mx
  rw [if_neg (by omega), if_neg (by omega)]
  omega
theorem wk_zero (sl : List S25) (m : Nat) (h1 : 1 ≤ (rd_T25 sl (m : Int)).f3) (h2 : (rd_T25 sl (m : Int)).f3 ≤ 8) : wk sl (fun _ => 0) m = ⟨(m : Int), sipWords 0 0 [1, (rd_T25 sl (m : Int)).f1, (rd_T25 sl (m : Int)).f2] % 127, wrap64 (1 + sipWords 0 0 [2, (rd_T25 sl (m : Int)).f1, (rd_T25 sl (m : Int)).f2] % 126), mn (mx ((rd_T25 sl (m : Int)).f3) 1) 8⟩ := by
  unfold wk
  rw [num1 (pA sl m) (pB sl m) _ (words_range 0 0 [1, (rd_T25 sl (m : Int)).f1, (rd_T25 sl (m : Int)).f2]).1 rfl, num2 (pB sl m) _ (words_range 0 0 [2, (rd_T25 sl (m : Int)).f1, (rd_T25 sl (m : Int)).f2]).1 rfl, num3 (wtS sl m) _ rfl h1 h2]
theorem wheel_l1 (sl : List S25) (hG : Good sl) (w r : List Int) (h : Reach (fun f => if ((X5 sl (fun _ => 0)).length : Int) = 0 then wheel_Make.j2 f w (X5 sl (fun _ => 0)) 0 else wheel_Make.j2 f w (X5 sl (fun _ => 0)) 127) r) : ∀ (d m : Nat), m + d = 64 → Reach (fun f => wheel_Make.l1 f w (X50 sl m) sl (m : Int)) r := by
  intro d
  induction d with
  | zero =>
    intro m hm
    obtain rfl : m = 64 := by omega
    refine Reach.step 0 (fun f _ => ?_) h
    simp only [wheel_Make.l1]
    rw [if_neg (by omega), X50_end]
  | succ d ih =>
    intro m hm
    refine Reach.step 1 (fun f hf => ?_) (ih (m + 1) (by omega))
    have hlen := hG.len
    have hm1 : wrap64 ((m : Int) + 1) = ((m + 1 : Nat) : Int) := by rw [w64 _ (by omega) (by omega)]; omega
    simp only [wheel_Make.l1]
    rw [if_pos (by omega), if_pos (by omega), if_pos (by omega), hm1]
    by_cases ha : (rd_T25 sl (m : Int)).f0 = 2
    · have hact : actS sl m = true := by unfold actS; simp [ha]
      have hwt := hG.wt m (by omega) hact
      have hr1 := words_range 0 0 [1, (rd_T25 sl (m : Int)).f1, (rd_T25 sl (m : Int)).f2]
      have hr2 := words_range 0 0 [2, (rd_T25 sl (m : Int)).f1, (rd_T25 sl (m : Int)).f2]
      have hl5 : (X50 sl m).length ≤ 64 := by
        unfold X50
        rw [List.length_map]
        have := List.length_filter_le (actS sl) (List.range m)
        rw [List.length_range] at this
        omega
      rw [if_pos ha, spun_val f 127 _ hf (by decide) (by decide) (by simp), Option.bind_some, spun_val f 126 _ hf (by decide) (by decide) (by simp), Option.bind_some, if_pos (by omega)]
      have e : X50 sl (m + 1) = X50 sl m ++ [wk sl (fun _ => 0) m] := by
        unfold X50
        rw [List.range_succ, List.filter_append, List.map_append]
        simp [hact]
      rw [e]
      rw [wk_zero sl m hwt.1 hwt.2]
    · have hact : actS sl m = false := by unfold actS; simp [ha]
      rw [if_neg ha]
      have e : X50 sl (m + 1) = X50 sl m := by
        unfold X50
        rw [List.range_succ, List.filter_append, List.map_append]
        simp [hact]
      rw [e]
theorem wheel_ok (sl : List S25) (hG : Good sl) : ∃ k, wheel_Make.f k sl = some (wheelOf sl) := by
  have h : Reach (fun f => wheel_Make.l0 f sl (List.replicate 0 (-1) ++ List.replicate 127 0) ((0 : Nat) : Int)) (wheelOf sl) := by
    refine wheel_l0 sl _ ?_ 127 0 rfl
    refine wheel_l1 sl hG _ _ ?_ 64 0 rfl
    by_cases ha : acts sl = []
    · have hx : X5 sl (fun _ => 0) = [] := by unfold X5; rw [ha]; rfl
      refine Reach.same (h := fun f => wheel_Make.j2 f (List.replicate 127 (-1)) (X5 sl (fun _ => 0)) 0) (fun f => by rw [if_pos (by rw [hx]; rfl)]) ?_
      refine Reach.step (h := fun f => wheel_Make.l2 f (List.replicate 127 (-1)) (X5 sl (fun _ => 0)) 0) 0 (fun f _ => by simp only [wheel_Make.j2]) (Reach.now fun f => ?_)
      simp only [wheel_Make.l2]
      rw [if_neg (by decide)]
      unfold wheelOf
      rw [if_pos ha]
    · have h0 : 0 < (acts sl).length := List.length_pos_iff.2 ha
      have hw : wheelOf sl = (st sl 127).w := by unfold wheelOf; rw [if_neg ha]
      rw [hw]
      have h4 := wheel_l4 sl hG 127 0 rfl 0 h0 0 (Nat.zero_le _) (by simp [offK, turnsOf])
      have hr0 := rdX sl (fun _ => 0) 0 h0
      rw [show ((0 : Nat) : Int) = 0 from rfl] at hr0
      refine Reach.same (h := fun f => wheel_Make.j2 f (List.replicate 127 (-1)) (X5 sl (fun _ => 0)) 127) (fun f => by rw [if_neg (by rw [X5_len]; omega)]) ?_
      refine Reach.step (h := fun f => wheel_Make.l2 f (List.replicate 127 (-1)) (X5 sl (fun _ => 0)) 127) 0 (fun f _ => by simp only [wheel_Make.j2]) ?_
      refine Reach.step (h := fun f => wheel_Make.l3 f (List.replicate 127 (-1)) (X5 sl (fun _ => 0)) 127 ((acts sl).length : Int) 0) 0 (fun f _ => ?_) (Reach.step 0 (fun f _ => ?_) h4)
      · simp only [wheel_Make.l2]
        rw [if_pos (by decide), X5_len]
      · simp only [wheel_Make.l3]
        rw [if_pos (by omega), if_pos (by omega), if_pos (by rw [X5_len]; omega), hr0]
        rfl
  obtain ⟨K, hK⟩ := h
  refine ⟨K, ?_⟩
  unfold wheel_Make.f
  rw [if_pos (by decide)]
  exact hK K (Nat.le_refl _)
end Go.Proofs.Ytnffajpnffibaaa.Own
