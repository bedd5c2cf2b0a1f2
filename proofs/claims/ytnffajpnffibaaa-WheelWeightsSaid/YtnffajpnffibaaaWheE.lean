/-
  Pools and arrays as rows: the slots of a pool that is boxed; an array variable of whole numbers.
-/
import Derived.Test.YtnffajpnffibaaaQ0
import Derived.ChangeKeysEq
import Derived.Deep.MidRow
import Derived.Laws.Tables
namespace Go.Proofs.Ytnffajpnffibaaa.Own
open Go.RowKit Go.Proofs.YtnffajpnffibaaaW.PrintWords Go.Proofs.YtnffajpnffibaaaW.PrintMore Go.Proofs.YtnffajpnffibaaaW.PrintLast Go.Proofs.Ytnffajpnffibaaa.Q
set_option linter.unusedVariables false
set_option linter.unusedSimpArgs false

/-- A slot's cells. -/
def sv (s : S25) : List Value := [.int .i64 s.f0, .int .i64 s.f1, .int .i64 s.f2, .int .i64 s.f3, .int .i64 s.f4]
/-- A pool's cells: its 64 slots lie behind three numbers. -/
def IsSlots (cs : Array Value) (l : List S25) : Prop := cs.size = 330 ∧ l.length = 64 ∧ ∀ (i : Nat) (s : S25), l[i]? = some s → ∀ (j : Nat) (u : Value), (sv s)[j]? = some u → cs[3 + (i * 5 + j)]? = some u
theorem add_in (g a n : Nat) : (⟨g, a, none⟩ : Addr).add n = ⟨g, a + n, none⟩ := by
  unfold Addr.add
  split
  · rename_i h; rw [h]; rfl
  · rfl
theorem slots_C {w : World} {g T : Nat} {fr : Nat × Nat} {cs : Array Value} {l : List S25} (hb : w.heap[g]? = some (.cells cs T fr)) (h : IsSlots cs l) : Kd.C k25 w (some ⟨g, 3, none⟩) l.length l := by
  refine ⟨rfl, by rw [h.2.1]; decide, fun _ => ⟨_, rfl, fun j p hj => ⟨sv p, rfl, k25_mk w p, fun i u hu => ?_⟩⟩⟩
  have hc := h.2.2 j p hj i u hu
  rw [add_in]
  simp only [World.cell?, hb]
  exact hc
/-- An array variable, of noughts. -/
theorem arr_R {w : World} {g T n base : Nat} (hb : w.heap[g]? = some (.cells (Array.replicate n (.int .i64 0)) T (0, 0))) (hg : base ≤ g) (hn : n ≤ maxLen) : Kd.R (Kd.int .i64) T w base (fun _ => True) (.slice (some ⟨g, 0, none⟩) n n) (List.replicate n 0) := by
  refine Kd.R_of_own (enc := Value.int .i64) ⟨by simp [encs], .inr ⟨g, n, Array.replicate n (.int .i64 0), by simp, hg, hb, by simp, hn, by simp, by simp [encs]⟩⟩ (fun _ _ => trivial)
theorem run60 (ev : Operand → Value) (o : Oper) (w : World) (ho : o.op = .alloc 60) : (execOp ev o).run Try.prog w = .ok (.value (.pointer (some ⟨w.heap.size, 0, none⟩))) (w.alloc (.cells (Array.replicate 127 (.int .i64 0)) 60 (0, 0))) := by
  cases o with
  | mk dst op ty pos after guard =>
    obtain rfl : op = _ := ho
    kernel_rfl
theorem run65 (ev : Operand → Value) (o : Oper) (w : World) (ho : o.op = .alloc 65) : (execOp ev o).run Try.prog w = .ok (.value (.pointer (some ⟨w.heap.size, 0, none⟩))) (w.alloc (.cells (Array.replicate 64 (.int .i64 0)) 65 (0, 0))) := by
  cases o with
  | mk dst op ty pos after guard =>
    obtain rfl : op = _ := ho
    kernel_rfl
theorem pool33 : Try.prog.underlying 33 = some (.struct #[{ name := "Version", type := 3, offset := 0, embedded := false, tag := "", pkgPath := "", byteOffset := 0 }, { name := "Addr", type := 3, offset := 1, embedded := false, tag := "", pkgPath := "", byteOffset := 8 }, { name := "Port", type := 3, offset := 2, embedded := false, tag := "", pkgPath := "", byteOffset := 16 }, { name := "Slots", type := 26, offset := 3, embedded := false, tag := "", pkgPath := "", byteOffset := 24 }, { name := "Ring", type := 31, offset := 323, embedded := false, tag := "", pkgPath := "", byteOffset := 2584 }]) := by kernel_rfl
theorem slots26 : Try.prog.underlying 26 = some (.array 64 25) := by kernel_rfl
end Go.Proofs.Ytnffajpnffibaaa.Own
namespace Go.Proofs.Ytnffajpnffibaaa.Own
open Go Go.RowKit Go.Proofs.YtnffajpnffibaaaW.PrintWords Go.Proofs.YtnffajpnffibaaaW.PrintMore Go.Proofs.YtnffajpnffibaaaW.PrintLast Go.Proofs.Ytnffajpnffibaaa.Q
set_option linter.unusedVariables false
set_option linter.unusedSimpArgs false

def ints (xs : List Int) : Array Value := (encs (Value.int .i64) xs).toArray
theorem ints_get (xs : List Int) (i : Nat) (h : i < xs.length) : (ints xs)[i]? = some (.int .i64 (xs.getD i 0)) := by
  unfold ints encs
  simp [List.getD_eq_getElem?_getD, h]
theorem agg3 (w : World) : (isAgg 3).run Try.prog w = .ok false w := by kernel_rfl
theorem part3 (xs : List Int) (i : Nat) (h : i < xs.length) (w : World) : (part 3 (ints xs) i).run Try.prog w = .ok (.int .i64 (xs.getD i 0)) w := by
  unfold part
  rw [Sem.run_bind, agg3]
  simp only [Result.andThen_ok, Bool.false_eq_true, if_false, ints_get xs i h, Sem.run_pure]
theorem eq3 (d : Nat) (a b : Int) (w : World) : (Op.equalIn (d + 1) 3 (.int .i64 a) (.int .i64 b)).run Try.prog w = .ok (a == b) w := by
  have hu : (underlying 3).run Try.prog w = .ok (.int .i64) w := by kernel_rfl
  simp only [Op.equalIn, Sem.run_bind, hu, Result.andThen_ok]
  simp
theorem items3 (d : Nat) (xs ys : List Int) (w : World) : ∀ is : List Nat, (∀ i ∈ is, i < xs.length ∧ i < ys.length) → (Op.eqItems (d + 1) 3 1 (ints xs) (ints ys) is).run Try.prog w = .ok (is.all fun i => xs.getD i 0 == ys.getD i 0) w
  | [], _ => by simp [Op.eqItems]
  | i :: is, h => by
    obtain ⟨h1, h2⟩ := h i (by simp)
    simp only [Op.eqItems, Sem.run_bind, Nat.mul_one, part3 xs i h1, part3 ys i h2, Result.andThen_ok, eq3]
    cases hb : (xs.getD i 0 == ys.getD i 0)
    · simp only [Bool.not_false, if_true, Sem.run_pure, List.all_cons, hb, Bool.false_and]
    · simp only [Bool.not_true, Bool.false_eq_true, if_false, List.all_cons, hb, Bool.true_and]
      exact items3 d xs ys w is (fun j hj => h j (by simp [hj]))
theorem eq60 (d : Nat) (xs ys : List Int) (w : World) (hx : xs.length = 127) (hy : ys.length = 127) : (Op.equalIn (d + 2) 60 (.agg (ints xs)) (.agg (ints ys))).run Try.prog w = .ok (decide (xs = ys)) w := by
  obtain ⟨i0, hi0⟩ : ∃ i, Try.prog.info? 3 = some i := ⟨_, rfl⟩
  have hc : Try.prog.cellsOf 3 = 1 := by kernel_rfl
  rw [run_equalIn_array w (P := Try.prog) (d + 1) (e := 3) (n := 127) (i := i0) (ints xs) (ints ys) (by kernel_rfl) hi0, hc, items3 d xs ys w _ (fun i hi => by rw [List.mem_range] at hi; omega)]
  congr 1
  rw [Bool.eq_iff_iff, List.all_eq_true, decide_eq_true_iff]
  constructor
  · intro h
    refine List.ext_getElem? fun i => ?_
    by_cases hi : i < 127
    · have := h i (List.mem_range.2 hi)
      rw [beq_iff_eq, List.getD_eq_getElem?_getD, List.getD_eq_getElem?_getD] at this
      rw [List.getElem?_eq_getElem (by omega), List.getElem?_eq_getElem (by omega)] at this ⊢
      simpa using this
    · rw [List.getElem?_eq_none (by omega), List.getElem?_eq_none (by omega)]
  · rintro rfl i _
    simp
def arrNe (a b : List Int) : Int := if a = b then 0 else 1
theorem arrNe_pos (a b : List Int) : (0 < arrNe a b) ↔ a ≠ b := by
  unfold arrNe
  split <;> simp_all
end Go.Proofs.Ytnffajpnffibaaa.Own
namespace Go.Proofs.Ytnffajpnffibaaa.Own
open Go Go.RowKit Go.Proofs.YtnffajpnffibaaaW.PrintWords Go.Proofs.YtnffajpnffibaaaW.PrintMore Go.Proofs.YtnffajpnffibaaaW.PrintLast Go.Proofs.Ytnffajpnffibaaa.Q
set_option linter.unusedVariables false
set_option linter.unusedSimpArgs false

def flat (l : List S25) : List Value := l.flatMap sv
theorem flat_length (l : List S25) : (flat l).length = 5 * l.length := by
  unfold flat
  induction l with
  | nil => rfl
  | cons s l ih => rw [List.flatMap_cons, List.length_append, ih]; show 5 + _ = _; simp only [List.length_cons]; omega
theorem flat_drop (l : List S25) : ∀ q, (flat l).drop (5 * q) = flat (l.drop q) := by
  induction l with
  | nil => intro q; simp [flat]
  | cons s l ih =>
    intro q
    cases q with
    | zero => rfl
    | succ q =>
      rw [List.drop_succ_cons, ← ih q]
      show ((sv s) ++ flat l).drop (5 * (q + 1)) = _
      rw [List.drop_append]
      rw [List.drop_eq_nil_of_le (show (sv s).length ≤ 5 * (q + 1) from by show 5 ≤ _; omega), List.nil_append]
      congr 1
theorem flat_take (l : List S25) (q : Nat) (s : S25) (h : l[q]? = some s) : ((flat l).drop (5 * q)).take 5 = sv s := by
  rw [flat_drop]
  obtain ⟨hl, rfl⟩ := List.getElem?_eq_some_iff.1 h
  rw [List.drop_eq_getElem_cons hl]
  rfl
theorem flat_range {w : World} {g : Nat} {l : List S25} (h : Kd.C k25 w (some ⟨g, 3, none⟩) l.length l) : w.rangeAt g 3 (flat l) := by
  intro j v hj
  have hjl : j < 5 * l.length := by
    have := (List.getElem?_eq_some_iff.1 hj).1
    rwa [flat_length] at this
  obtain ⟨ad, e, hc⟩ := h.2.2 (by omega)
  obtain rfl := Option.some.inj e
  obtain ⟨c, hcl, hk, hcell⟩ := hc (j / 5) _ (List.getElem?_eq_getElem (by omega))
  obtain rfl := k25_open hk
  have hs := flat_take l (j / 5) _ (List.getElem?_eq_getElem (by omega))
  have h5 : (sv (l[j / 5]'(by omega)))[j % 5]? = some v := by
    rw [← hs, List.getElem?_take, if_pos (by omega), List.getElem?_drop, show 5 * (j / 5) + j % 5 = j from by omega]
    exact hj
  have := hcell (j % 5) v h5
  rw [add_in] at this
  rw [show 3 + j = 3 + (j / 5 * 5 + j % 5) from by omega]
  exact this
theorem isAgg25 (w : World) : (isAgg 25).run Try.prog w = .ok true w := by kernel_rfl
theorem size25 (w : World) : (sizeOf 25).run Try.prog w = .ok 5 w := by kernel_rfl
theorem part25 (l : List S25) (q : Nat) (s : S25) (h : l[q]? = some s) (w : World) : (part 25 (flat l).toArray (q * 5)).run Try.prog w = .ok (.agg (sv s).toArray) w := by
  unfold part
  rw [Sem.run_bind, isAgg25]
  simp only [Result.andThen_ok, if_true, Sem.run_bind, size25, Sem.run_pure]
  congr 2
  rw [← flat_take l q s h, Nat.mul_comm 5 q]
  apply Array.toList_inj.1
  simp [Array.toList_extract, List.extract_eq_take_drop]
theorem index26 (l : List S25) (hl : l.length = 64) (i : Int) (h0 : 0 ≤ i) (h1 : i < 64) (w : World) : (Instr.index 26 (.agg (flat l).toArray) (.int .i64 i)).run Try.prog w = .ok (.agg #[.int .i64 (rd_T25 l i).f0, .int .i64 (rd_T25 l i).f1, .int .i64 (rd_T25 l i).f2, .int .i64 (rd_T25 l i).f3, .int .i64 (rd_T25 l i).f4]) w := by
  have hu : (underlying 26).run Try.prog w = .ok (.array 64 25) w := by kernel_rfl
  have ha : (asIntOf (.int .i64 i)).run Try.prog w = .ok (.i64, i) w := rfl
  unfold Instr.index
  simp only [Sem.run_bind, ha, hu, Result.andThen_ok]
  rw [if_pos ⟨h0, by simpa using h1⟩]
  simp only [Sem.run_bind, size25, Result.andThen_ok]
  have hi : l[i.toNat]? = some (rd_T25 l i) := by
    unfold rd_T25
    rw [List.getD_eq_getElem?_getD, List.getElem?_eq_getElem (by omega)]
    rfl
  exact part25 l i.toNat _ hi w
theorem load26 {w : World} {g : Nat} {l : List S25} (h : Kd.C k25 w (some ⟨g, 3, none⟩) l.length l) (hl : l.length = 64) : (Instr.loadAt 26 (.pointer (some ⟨g, 3, none⟩))).run Try.prog w = .ok (.agg (flat l).toArray) w :=
  run_loadAt_mid w g 3 26 (flat l) _ (flat_range h) slots26 rfl (by rw [flat_length, hl]; kernel_rfl)
end Go.Proofs.Ytnffajpnffibaaa.Own
namespace Go.Proofs.Ytnffajpnffibaaa.Own
open Go Go.RowKit Go.Proofs.YtnffajpnffibaaaW.PrintWords Go.Proofs.YtnffajpnffibaaaW.PrintMore Go.Proofs.YtnffajpnffibaaaW.PrintLast Go.Proofs.Ytnffajpnffibaaa.Q
set_option linter.unusedVariables false
set_option linter.unusedSimpArgs false

theorem ints_size (xs : List Int) : (ints xs).size = xs.length := by simp [ints, encs]
theorem ints_one (xs : List Int) : (ints xs).all (·.oneCell') = true := by
  refine Array.all_eq_true_iff_forall_mem.2 fun v hv => ?_
  unfold ints encs at hv
  simp at hv
  obtain ⟨x, _, rfl⟩ := hv
  rfl
/-- The block of an array variable's row. -/
theorem arr_block {W : World} {g T n base : Nat} {ok : Nat → Prop} {xs : List Int} (h : Kd.R (Kd.int .i64) T W base ok (.slice (some ⟨g, 0, none⟩) n n) xs) : base ≤ g ∧ xs.length = n ∧ ∃ cur : Array Value, W.heap[g]? = some (.cells cur T (0, 0)) ∧ cur = ints xs := by
  obtain ⟨hn, _, hC⟩ := Kd.R_reads' h
  obtain ⟨h0, inner, ho, hr⟩ := h
  have hin := Kd.reps_encs (enc := Value.int .i64) hr
  rcases ho.2 with ⟨he, _⟩ | ⟨g', cap, cur, he, hb, hh, _, _, hsz, htake⟩
  · simp at he
  · injection he with e1 _ e3
    injection e1 with e1
    injection e1 with e1
    subst e1 e3
    refine ⟨hb, hn.symm, cur, hh, ?_⟩
    have : cur.toList = inner := by
      rw [← htake, List.take_of_length_le]
      simp only [Array.length_toList]
      show cur.size ≤ _
      rw [hsz, hn]
      exact Nat.le_refl _
    apply Array.toList_inj.1
    rw [this, hin]
    rfl
theorem under60 : Try.prog.underlying 60 = some (.array 127 3) := by kernel_rfl
theorem load60 {W : World} {g T base : Nat} {ok : Nat → Prop} {xs : List Int} (h : Kd.R (Kd.int .i64) T W base ok (.slice (some ⟨g, 0, none⟩) 127 127) xs) : (Instr.loadAt 60 (.pointer (some ⟨g, 0, none⟩))).run Try.prog W = .ok (.agg (ints xs)) W := by
  obtain ⟨_, hl, cur, hb, rfl⟩ := arr_block h
  have hr : W.rangeAt g 0 (encs (Value.int .i64) xs) := by
    intro j v hj
    rw [Nat.zero_add]
    simp only [World.cell?, hb]
    simpa [ints] using hj
  exact run_loadAt_mid W g 0 60 (encs (Value.int .i64) xs) _ hr under60 rfl (by rw [encs_length, hl]; kernel_rfl)
theorem put_all {W : World} {g T n base : Nat} {ok : Nat → Prop} {old new : List Int} (h : Kd.R (Kd.int .i64) T W base ok (.slice (some ⟨g, 0, none⟩) n n) old) (hl : new.length = n) (hn : n ≤ maxLen) :
    Kd.R (Kd.int .i64) T (W.setRow g (ints new)) base ok (.slice (some ⟨g, 0, none⟩) n n) new ∧ W.grownBy (W.setRow g (ints new)) (some g) := by
  obtain ⟨hg, _, cur, hb, _⟩ := arr_block h
  have hok := h.1
  refine ⟨?_, ⟨rfl, rfl, rfl, by simp, fun k _ hk => setRow_other W g k _ (fun e => hk (by simp [e]))⟩⟩
  refine Kd.R_of_own (enc := Value.int .i64) ⟨by simp [encs], .inr ⟨g, n, ints new, by rw [hl], hg, setRow_heap W g cur _ T _ hb, by omega, hn, by rw [ints_size, hl]; simp, ?_⟩⟩ hok
  rw [Nat.mul_one, List.take_of_length_le (by simp [ints_size])]
  simp [ints]
theorem run_put60 (ev : Operand → Value) (o : Oper) (W : World) (p q : Tmp) (g base : Nat) (ok : Nat → Prop) (old new : List Int) (ho : o.op = .store 60 (.tmp p) (.tmp q)) (hp : ev (.tmp p) = .pointer (some ⟨g, 0, none⟩)) (hq : ev (.tmp q) = .agg (ints new))
    (h : Kd.R (Kd.int .i64) 60 W base ok (.slice (some ⟨g, 0, none⟩) 127 127) old) (hl : new.length = 127) : (execOp ev o).run Try.prog W = .ok .skip (W.setRow g (ints new)) := by
  obtain ⟨_, hl2, cur, hb, hc⟩ := arr_block h
  have hi : (Try.prog.info? 60).map (·.size) = some (ints new).size := by rw [ints_size, hl]; kernel_rfl
  have hsv := run_storeVar_row (P := Try.prog) W g 60 60 cur (ints new) hb hi (by rw [hc, ints_size, ints_size, hl, hl2]) (ints_one new)
  unfold execOp
  simp only [ho, hp, hq, Instr.storeAt, Instr.sureAddr, Sem.run_bind, Sem.run_pure, Result.andThen_ok, hsv]
end Go.Proofs.Ytnffajpnffibaaa.Own
namespace Go.Proofs.Ytnffajpnffibaaa.Own
open Go Go.RowKit Go.Proofs.YtnffajpnffibaaaW.PrintWords Go.Proofs.YtnffajpnffibaaaW.PrintMore Go.Proofs.YtnffajpnffibaaaW.PrintLast Go.Proofs.Ytnffajpnffibaaa.Q
set_option linter.unusedVariables false
set_option linter.unusedSimpArgs false

theorem wp_ld26 {op : Oper} {a : Act} {w : World} {K : Act → World → Prop} {Q : Exit → Act → World → Prop} {x : Operand} (ho : op.op = .load 26 x) {g : Nat} (hx : a.eval x = .pointer (some ⟨g, 3, none⟩)) {l : List S25}
    (h : Kd.C k25 w (some ⟨g, 3, none⟩) l.length l) (hl : l.length = 64) (hk : K (a.put op.dst (.agg (flat l).toArray)) w) : op.wp Try.prog a w K Q :=
  wp_load_mid 26 x ho g 3 hx (flat l) _ (flat_range h) slots26 rfl (by rw [flat_length, hl]; kernel_rfl) hk
theorem range60 {W : World} {g T base : Nat} {ok : Nat → Prop} {xs : List Int} (h : Kd.R (Kd.int .i64) T W base ok (.slice (some ⟨g, 0, none⟩) 127 127) xs) : W.rangeAt g 0 (encs (Value.int .i64) xs) := by
  obtain ⟨_, hl, cur, hb, rfl⟩ := arr_block h
  intro j v hj
  rw [Nat.zero_add]
  simp only [World.cell?, hb]
  simpa [ints] using hj
theorem wp_ld60 {op : Oper} {a : Act} {w : World} {K : Act → World → Prop} {Q : Exit → Act → World → Prop} {x : Operand} (ho : op.op = .load 60 x) {g : Nat} (hx : a.eval x = .pointer (some ⟨g, 0, none⟩)) {T base : Nat} {ok : Nat → Prop} {xs : List Int}
    (h : Kd.R (Kd.int .i64) T w base ok (.slice (some ⟨g, 0, none⟩) 127 127) xs) (hk : K (a.put op.dst (.agg (ints xs))) w) : op.wp Try.prog a w K Q :=
  wp_load_mid 60 x ho g 0 hx (encs (Value.int .i64) xs) _ (range60 h) under60 rfl (by rw [encs_length, ← (Kd.R_reads' h).1]; kernel_rfl) hk
theorem slice60 (g : Nat) (W : World) : (Instr.sliceAt 60 (.pointer (some ⟨g, 0, none⟩)) none none none).run Try.prog W = .ok (.slice (some ⟨g, 0, none⟩) 127 127) W := by kernel_rfl
theorem c127 {W : World} {A : Option Addr} {T c base : Nat} {ok : Nat → Prop} {xs : List Int} (h : Kd.R (Kd.int .i64) T W base ok (.slice A 127 c) xs) : Kd.C (Kd.int .i64) W A 127 xs := by
  have h1 := Kd.R_reads' h
  have h2 := h1.2.2
  rw [← h1.1] at h2
  exact h2
end Go.Proofs.Ytnffajpnffibaaa.Own
