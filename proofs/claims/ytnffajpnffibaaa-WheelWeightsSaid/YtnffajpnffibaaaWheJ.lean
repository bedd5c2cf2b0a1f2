/-
  Pools as values, and as variables in memory: made, loaded, stored, whole or in part.
-/
import Derived.Test.YtnffajpnffibaaaWheE
import Derived.Test.YtnffajpnffibaaaQ4
import Derived.Test.YtnffajpnffibaaaQ5
namespace Go.Proofs.Ytnffajpnffibaaa.Own
open Go Go.RowKit Go.Proofs.YtnffajpnffibaaaW.PrintWords Go.Proofs.YtnffajpnffibaaaW.PrintMore Go.Proofs.YtnffajpnffibaaaW.PrintLast Go.Proofs.Ytnffajpnffibaaa.Q
set_option linter.unusedVariables false
set_option linter.unusedSimpArgs false

/-- A pool. -/
structure PL where
  ver : Int
  addr : Int
  port : Int
  sl : List S25
  ep : Int
  k1 : Int
  k2 : Int
  k3 : Int
  k4 : Int
  k5 : Int
  k6 : Int

def rcells (p : PL) : List Value := [.int .i64 p.ep, .int .u64 p.k1, .int .u64 p.k2, .int .u64 p.k3, .int .u64 p.k4, .int .u64 p.k5, .int .u64 p.k6]
def pcells (p : PL) : List Value := .int .i64 p.ver :: .int .i64 p.addr :: .int .i64 p.port :: (flat p.sl ++ rcells p)
def pcs (p : PL) : Array Value := (pcells p).toArray
/-- A block of cells of a type. -/
def Blk (w : World) (g t : Nat) (cs : Array Value) : Prop := w.heap[g]? = some (.cells cs t (0, 0))
theorem Blk.below {w w1 : World} {g t : Nat} {cs : Array Value} (h : Blk w g t cs) (hb : Below w.heap.size w w1) : Blk w1 g t cs := blk_below h hb
theorem Blk.grown {w w1 : World} {g t : Nat} {cs : Array Value} {row : Option Nat} (h : Blk w g t cs) (hg : w.grownBy w1 row) (hne : some g ≠ row) : Blk w1 g t cs := blk_grown h hg hne
theorem Blk.lt {w : World} {g t : Nat} {cs : Array Value} (h : Blk w g t cs) : g < w.heap.size := blk_lt h

theorem pcells_length (p : PL) (h : p.sl.length = 64) : (pcells p).length = 330 := by
  simp only [pcells, rcells, List.length_cons, List.length_append, flat_length, List.length_nil, h]
theorem pcs_size (p : PL) (h : p.sl.length = 64) : (pcs p).size = 330 := by simp [pcs, pcells_length p h]
theorem flat_one (l : List S25) : ∀ v ∈ flat l, v.oneCell' = true := by
  intro v hv
  unfold flat at hv
  rw [List.mem_flatMap] at hv
  obtain ⟨s, _, hs⟩ := hv
  simp only [sv, List.mem_cons, List.not_mem_nil, or_false] at hs
  rcases hs with rfl | rfl | rfl | rfl | rfl <;> rfl
theorem pcells_one (p : PL) : ∀ v ∈ pcells p, v.oneCell' = true := by
  intro v hv
  simp only [pcells, List.mem_cons, List.mem_append, rcells, List.not_mem_nil, or_false] at hv
  rcases hv with rfl | rfl | rfl | hv | rfl | rfl | rfl | rfl | rfl | rfl | rfl <;> first | rfl | exact flat_one _ v hv
theorem pcs_one (p : PL) : (pcs p).all (·.oneCell') = true := all_oneCell_toArray (pcells_one p)

theorem pcs_slots (p : PL) (h : p.sl.length = 64) : IsSlots (pcs p) p.sl := by
  refine ⟨pcs_size p h, h, fun i s hi j u hj => ?_⟩
  have hil := (List.getElem?_eq_some_iff.1 hi).1
  have hj5 : j < 5 := (List.getElem?_eq_some_iff.1 hj).1
  have hs := flat_take p.sl i s hi
  rw [← hs, List.getElem?_take, if_pos hj5, List.getElem?_drop] at hj
  have hlt := (List.getElem?_eq_some_iff.1 hj).1
  show (pcells p).toArray[3 + (i * 5 + j)]? = some u
  rw [List.getElem?_toArray, pcells, show 3 + (i * 5 + j) = (i * 5 + j) + 1 + 1 + 1 from by omega, List.getElem?_cons_succ, List.getElem?_cons_succ, List.getElem?_cons_succ, List.getElem?_append_left (by rw [Nat.mul_comm i 5]; exact hlt), Nat.mul_comm i 5]
  exact hj
theorem pcs_ring (p : PL) (h : p.sl.length = 64) (j : Nat) : (pcs p)[323 + j]? = (rcells p)[j]? := by
  show (pcells p).toArray[323 + j]? = _
  rw [List.getElem?_toArray, pcells, show 323 + j = (320 + j) + 1 + 1 + 1 from by omega, List.getElem?_cons_succ, List.getElem?_cons_succ, List.getElem?_cons_succ, List.getElem?_append_right (by rw [flat_length, h]; omega), flat_length, h, show 320 + j - 5 * 64 = j from by omega]

/-! Cells stored from a place on -/
def setAt (cs : List Value) (o : Nat) (vs : List Value) : List Value := cs.take o ++ (vs ++ cs.drop (o + vs.length))
def setMany : Array Value → Nat → List Value → Array Value
  | cs, _, [] => cs
  | cs, o, v :: r => setMany (cs.setIfInBounds o v) (o + 1) r
theorem setMany_eq : ∀ (vs : List Value) (cs : Array Value) (o : Nat), o + vs.length ≤ cs.size → setMany cs o vs = (setAt cs.toList o vs).toArray
  | [], cs, o, h => by simp [setMany, setAt]
  | v :: r, cs, o, h => by
    simp only [List.length_cons] at h
    rw [setMany, setMany_eq r _ _ (by simp; omega)]
    apply Array.toList_inj.1
    simp only [setAt, Array.toList_setIfInBounds]
    have hl : o < cs.toList.length := by simp; omega
    generalize cs.toList = l at hl
    rw [List.take_set, List.drop_set_of_lt (by omega)]
    have h1 : (l.take (o + 1)).set o v = l.take o ++ [v] := by
      rw [List.take_add_one, List.getElem?_eq_getElem hl, List.set_append_right _ _ (by simp; omega)]
      simp [Nat.min_eq_left (Nat.le_of_lt hl)]
    rw [h1]
    simp only [List.length_cons, List.append_assoc, List.cons_append, List.nil_append]
    rw [show o + 1 + r.length = o + (r.length + 1) from by omega]
theorem setCells_blk : ∀ (vs : List Value) (o : Nat) {w : World} {g t : Nat} {cs : Array Value}, Blk w g t cs → Blk (w.setCells g o vs) g t (setMany cs o vs)
  | [], _, _, _, _, _, h => h
  | v :: r, o, w, g, t, cs, h => setCells_blk r (o + 1) (blk_set h o v)
theorem grown_trans {a w w' : World} {row : Option Nat} (h : a.grownBy w row) (k : w.grownBy w' row) : a.grownBy w' row :=
  ⟨k.os.trans h.os, k.tape.trans h.tape, k.output.trans h.output, Nat.le_trans h.size k.size, fun i hi hn => (k.block i (Nat.lt_of_lt_of_le hi h.size) hn).trans (h.block i hi hn)⟩
theorem grown_set (W : World) (g i : Nat) (v : Value) : W.grownBy (W.setCell ⟨g, i, none⟩ v) (some g) :=
  ⟨rfl, rfl, rfl, by simp [World.setCell], fun k _ hk => Below.heap_setCell W ⟨g, i, none⟩ v k (fun e => hk (by rw [e]))⟩
theorem setCells_grown : ∀ (vs : List Value) (o : Nat) (w : World) (g : Nat), w.grownBy (w.setCells g o vs) (some g)
  | [], _, w, g => ⟨rfl, rfl, rfl, Nat.le_refl _, fun _ _ _ => rfl⟩
  | v :: r, o, w, g => grown_trans (grown_set w g o v) (setCells_grown r (o + 1) _ g)
theorem Blk.there {w : World} {g t : Nat} {cs : Array Value} (h : Blk w g t cs) (o n : Nat) (hn : o + n ≤ cs.size) : w.there g o n := fun j hj => by
  refine ⟨?_, blk_frozen h _⟩
  rw [blk_cell h, Array.getElem?_eq_getElem (by omega)]
  rfl
theorem Blk.range {w : World} {g t : Nat} {cs : Array Value} (h : Blk w g t cs) : w.rangeAt g 0 cs.toList := fun j v hj => by
  rw [Nat.zero_add, blk_cell h]
  simpa using hj

/-! A pool's variable -/
def zeroP : PL := ⟨0, 0, 0, List.replicate 64 z25, 0, 0, 0, 0, 0, 0, 0⟩
theorem size33 (p : PL) (h : p.sl.length = 64) : (Try.prog.info? 33).map (·.size) = some (pcs p).size := by rw [pcs_size p h]; kernel_rfl
theorem run33 (ev : Operand → Value) (o : Oper) (w : World) (ho : o.op = .alloc 33) : (execOp ev o).run Try.prog w = .ok (.value (.pointer (some ⟨w.heap.size, 0, none⟩))) (w.alloc (.cells (pcs zeroP) 33 (0, 0))) := by
  cases o with
  | mk dst op ty pos after guard =>
    obtain rfl : op = _ := ho
    kernel_rfl
theorem run_ld33 (ev : Operand → Value) (o : Oper) (w : World) (g : Nat) (p : PL) (x : Operand) (ho : o.op = .load 33 x) (hx : ev x = .pointer (some ⟨g, 0, none⟩)) (hb : Blk w g 33 (pcs p)) (hp : p.sl.length = 64) :
    (execOp ev o).run Try.prog w = .ok (.value (.agg (pcs p))) w := by
  have hr := run_loadVar_mid (P := Try.prog) w g 0 33 (pcells p) _ (by simpa [pcs] using hb.range) pool33 rfl (by rw [pcells_length p hp]; kernel_rfl)
  unfold execOp
  simp only [ho, hx, Instr.loadAt, Instr.sureAddr, Sem.run_bind, Sem.run_pure, Result.andThen_ok, hr]
  rfl
theorem run_st33 (ev : Operand → Value) (o : Oper) (w : World) (g : Nat) (old : Array Value) (p : PL) (x y : Operand) (ho : o.op = .store 33 x y) (hx : ev x = .pointer (some ⟨g, 0, none⟩)) (hy : ev y = .agg (pcs p))
    (hb : Blk w g 33 old) (hs : old.size = 330) (hp : p.sl.length = 64) : (execOp ev o).run Try.prog w = .ok .skip (w.setCells g 0 (pcells p)) := by
  have hr := run_storeVar_mid (P := Try.prog) w g 0 33 (pcs p) (hb.there 0 _ (by rw [pcs_size p hp, hs]; decide)) (size33 p hp) (pcs_one p)
  unfold execOp
  simp only [ho, hx, hy, Instr.storeAt, Instr.sureAddr, Sem.run_bind, Sem.run_pure, Result.andThen_ok, hr]
  rfl
theorem st33_blk {w : World} {g : Nat} {old : Array Value} (p : PL) (hb : Blk w g 33 old) (hs : old.size = 330) (hp : p.sl.length = 64) : Blk (w.setCells g 0 (pcells p)) g 33 (pcs p) := by
  have h := setCells_blk (pcells p) 0 hb
  rw [setMany_eq _ _ _ (by rw [pcells_length p hp, hs]; decide), setAt, List.take_zero, List.nil_append, pcells_length p hp, List.drop_eq_nil_of_le (by simp [hs]), List.append_nil] at h
  exact h

section
variable {ops : Array Oper} {rest : List Oper} {o : Oper} {a : Act} {Q : Exit → Act → World → Prop} {W : World}
theorem pl_alloc {N : Tmp} (hd : o.dst = some N) (hgd : o.guard = none) (ho : o.op = .alloc 33)
    (h : ∀ g, g = W.heap.size → ∀ w1, Blk w1 g 33 (pcs zeroP) → Below W.heap.size W w1 → wpList Try.prog ops Q rest (a.put o.dst (.pointer (some ⟨g, 0, none⟩))) w1) : wpList Try.prog ops Q (o :: rest) a W :=
  box_event hgd hd (run33 _ _ _ ho) h
theorem pl_box (hgd : o.guard = none) {x : Operand} (ho : o.op = .box 33 x) {p : PL} (hx : a.eval x = .agg (pcs p))
    (h : ∀ g, g = W.heap.size → ∀ w1, Blk w1 g 33 (pcs p) → Below W.heap.size W w1 → wpList Try.prog ops Q rest (a.put o.dst (.pointer (some ⟨g, 0, none⟩))) w1) : wpList Try.prog ops Q (o :: rest) a W := by
  have hrun : (execOp a.eval o).run Try.prog W = .ok (.value (.pointer (some ⟨W.heap.size, 0, none⟩))) (W.alloc (.cells (pcs p) 33 (0, 0))) := by
    unfold execOp
    simp only [ho, hx]
    rfl
  exact Kd.event_run hgd hrun (h _ rfl _ (blk_new W _) (below_alloc (Below.refl _ _) _))
theorem pl_load {N : Tmp} (hd : o.dst = some N) (hgd : o.guard = none) (x : Operand) (ho : o.op = .load 33 x) {g : Nat} {p : PL} (hx : a.eval x = .pointer (some ⟨g, 0, none⟩)) (hb : Blk W g 33 (pcs p)) (hp : p.sl.length = 64)
    (h : wpList Try.prog ops Q rest (a.put o.dst (.agg (pcs p))) W) : wpList Try.prog ops Q (o :: rest) a W :=
  Kd.event_run hgd (run_ld33 _ _ _ g p x ho hx hb hp) h
theorem pl_store (hN : o.dst = none) (hgd : o.guard = none) (x y : Operand) (ho : o.op = .store 33 x y) {g : Nat} {old : Array Value} {p : PL} (hx : a.eval x = .pointer (some ⟨g, 0, none⟩)) (hy : a.eval y = .agg (pcs p)) (hb : Blk W g 33 old) (hs : old.size = 330) (hp : p.sl.length = 64)
    (h : ∀ w', Blk w' g 33 (pcs p) → W.grownBy w' (some g) → wpList Try.prog ops Q rest a w') : wpList Try.prog ops Q (o :: rest) a W := by
  refine wpList_plain hgd fun K hK => ?_
  unfold Oper.wp
  rw [run_st33 _ _ _ g old p x y ho hx hy hb hs hp]
  show K (a.put o.dst undef) _
  rw [hN]
  exact hK _ _ (h _ (st33_blk p hb hs hp) (setCells_grown _ _ _ _))
end
section
variable {o : Oper} {a : Act} {K : Act → World → Prop} {Q : Exit → Act → World → Prop} {W : World}
theorem wp_box33 {x : Operand} (ho : o.op = .box 33 x) {p : PL} (hx : a.eval x = .agg (pcs p)) (hp : p.sl.length = 64)
    (h : ∀ g, g = W.heap.size → ∀ w1, Blk w1 g 33 (pcs p) → Below W.heap.size W w1 → K (a.put o.dst (.pointer (some ⟨g, 0, none⟩))) w1) : o.wp Try.prog a W K Q := by
  have hrun : (execOp a.eval o).run Try.prog W = .ok (.value (.pointer (some ⟨W.heap.size, 0, none⟩))) (W.alloc (.cells (pcs p) 33 (0, 0))) := by
    unfold execOp
    simp only [ho, hx]
    rfl
  unfold Oper.wp
  rw [hrun]
  exact h _ rfl _ (blk_new W _) (below_alloc (Below.refl _ _) _)
theorem wp_alloc33 (ho : o.op = .alloc 33)
    (h : ∀ g, g = W.heap.size → ∀ w1, Blk w1 g 33 (pcs zeroP) → Below W.heap.size W w1 → K (a.put o.dst (.pointer (some ⟨g, 0, none⟩))) w1) : o.wp Try.prog a W K Q := by
  unfold Oper.wp
  rw [run33 _ _ _ ho]
  exact h _ rfl _ (blk_new W _) (below_alloc (Below.refl _ _) _)
theorem wp_ld33 {x : Operand} (ho : o.op = .load 33 x) {g : Nat} {p : PL} (hx : a.eval x = .pointer (some ⟨g, 0, none⟩)) (hb : Blk W g 33 (pcs p)) (hp : p.sl.length = 64)
    (h : K (a.put o.dst (.agg (pcs p))) W) : o.wp Try.prog a W K Q := by
  unfold Oper.wp
  rw [run_ld33 _ _ _ g p x ho hx hb hp]
  exact h
theorem wp_st33 {x y : Operand} (ho : o.op = .store 33 x y) {g : Nat} {old : Array Value} {p : PL} (hx : a.eval x = .pointer (some ⟨g, 0, none⟩)) (hy : a.eval y = .agg (pcs p)) (hb : Blk W g 33 old) (hs : old.size = 330) (hp : p.sl.length = 64)
    (h : ∀ w', Blk w' g 33 (pcs p) → W.grownBy w' (some g) → K (a.put o.dst undef) w') : o.wp Try.prog a W K Q := by
  unfold Oper.wp
  rw [run_st33 _ _ _ g old p x y ho hx hy hb hs hp]
  exact h _ (st33_blk p hb hs hp) (setCells_grown _ _ _ _)
end
end Go.Proofs.Ytnffajpnffibaaa.Own
namespace Go.Proofs.Ytnffajpnffibaaa.Own
open Go.RowKit Go.Proofs.YtnffajpnffibaaaW.PrintWords Go.Proofs.YtnffajpnffibaaaW.PrintMore Go.Proofs.YtnffajpnffibaaaW.PrintLast Go.Proofs.Ytnffajpnffibaaa.Q
set_option linter.unusedVariables false
set_option linter.unusedSimpArgs false

/-- Is a number not from one to another one? -/
def outB (x lo hi : Int) : Bool := decide (x < lo ∨ hi < x)
theorem out_calls (x lo hi : Int) (b : Bool) (hb : outB x lo hi = b) (w : World) : Calls Try.prog 37 #[.int .i64 x, .int .i64 lo, .int .i64 hi] w fun e w' => e = .returned (.bool b) ∧ ∃ n, w' = w.drewN n := by
  refine (roundhouseref6_out.calls x lo hi b w ?_).mono ?_
  · unfold roundhouseref6_out.f
    subst hb
    unfold outB
    by_cases h1 : x < lo <;> by_cases h2 : hi < x <;> simp [h1, h2]
  · rintro e w1 ⟨rfl, n, rfl⟩
    exact ⟨rfl, n, rfl⟩

/-- An entry in form: one of the six kinds, with nothing that is not of its kind. -/
def WF (k s a b c x y : Int) : Prop :=
  (k = 1 ∧ outB a 0 4294967295 = false ∧ outB b 0 65535 = false ∧ outB c 1 8 = false ∧ x = 0 ∧ y = 0) ∨ (k = 2 ∧ a = 0 ∧ b = 0 ∧ c = 0 ∧ x = 0 ∧ y = 0) ∨ (k = 3 ∧ a = 0 ∧ b = 0 ∧ c = 0 ∧ x = 0 ∧ y = 0) ∨ (k = 4 ∧ a = 0 ∧ b = 0 ∧ c = 0 ∧ x = 0 ∧ y = 0) ∨ (k = 5 ∧ a = 0 ∧ b = 0 ∧ c = 0 ∧ x = 0 ∧ y = 0) ∨ (k = 6 ∧ s = 0 ∧ a = 0 ∧ b = 0 ∧ c = 0)

set_option maxHeartbeats 1000000 in
set_option maxRecDepth 100000 in
theorem check1f (s a b c : Int) (ha : outB a 0 4294967295 = false) (hb : outB b 0 65535 = false) (hc : outB c 1 8 = false) (hs : outB s 0 63 = false) (w : World) : Calls Try.prog 33 #[.agg #[.int .i64 1, .int .i64 s, .int .i64 a, .int .i64 b, .int .i64 c, .int .u64 0, .int .u64 0]] w fun e w' => e = .returned (.int .i64 0) ∧ Below w.heap.size w w' := by
  have hu49 := Try.underlying49
  have hu29 := Try.underlying29
  have HA := Aside0.mk ha
  have HBB := Aside0.mk hb
  have HC := Aside0.mk hc
  have HS := Aside0.mk hs
  clear ha hb hc hs
  go_enter Try.func33, Try.ntmps33
  go_wp2_with (first | (go_at_call 37; refine Calls.mono (by first | with_reducible exact (out_calls _ _ _ false HS.out _) | with_reducible exact (out_calls _ _ _ false HA.out _) | with_reducible exact (out_calls _ _ _ false HBB.out _) | with_reducible exact (out_calls _ _ _ false HC.out _) | with_reducible exact (out_calls _ _ _ false (by decide) _)) ?_; rintro e_ w_ ⟨rfl, n_, rfl⟩))
  repeat (go_quiet (first | (go_at_call 37; refine Calls.mono (by first | with_reducible exact (out_calls _ _ _ false HS.out _) | with_reducible exact (out_calls _ _ _ false HA.out _) | with_reducible exact (out_calls _ _ _ false HBB.out _) | with_reducible exact (out_calls _ _ _ false HC.out _) | with_reducible exact (out_calls _ _ _ false (by decide) _)) ?_; rintro e_ w_ ⟨rfl, n_, rfl⟩)); (try go_wp2_with (first | (go_at_call 37; refine Calls.mono (by first | with_reducible exact (out_calls _ _ _ false HS.out _) | with_reducible exact (out_calls _ _ _ false HA.out _) | with_reducible exact (out_calls _ _ _ false HBB.out _) | with_reducible exact (out_calls _ _ _ false HC.out _) | with_reducible exact (out_calls _ _ _ false (by decide) _)) ?_; rintro e_ w_ ⟨rfl, n_, rfl⟩))))
  go_ret
  exact ⟨rfl, by repeat (first | exact Below.refl _ _ | apply below_alloc | apply pw_below_drewN | apply below_drew1)⟩

set_option maxHeartbeats 1000000 in
set_option maxRecDepth 100000 in
theorem check1t (s a b c : Int) (ha : outB a 0 4294967295 = false) (hb : outB b 0 65535 = false) (hc : outB c 1 8 = false) (hs : outB s 0 63 = true) (w : World) : Calls Try.prog 33 #[.agg #[.int .i64 1, .int .i64 s, .int .i64 a, .int .i64 b, .int .i64 c, .int .u64 0, .int .u64 0]] w fun e w' => e = .returned (.int .i64 11) ∧ Below w.heap.size w w' := by
  have hu49 := Try.underlying49
  have hu29 := Try.underlying29
  have HA := Aside0.mk ha
  have HBB := Aside0.mk hb
  have HC := Aside0.mk hc
  have HS := Aside0.mk hs
  clear ha hb hc hs
  go_enter Try.func33, Try.ntmps33
  go_wp2_with (first | (go_at_call 37; refine Calls.mono (by first | with_reducible exact (out_calls _ _ _ true HS.out _) | with_reducible exact (out_calls _ _ _ false HA.out _) | with_reducible exact (out_calls _ _ _ false HBB.out _) | with_reducible exact (out_calls _ _ _ false HC.out _) | with_reducible exact (out_calls _ _ _ false (by decide) _)) ?_; rintro e_ w_ ⟨rfl, n_, rfl⟩))
  repeat (go_quiet (first | (go_at_call 37; refine Calls.mono (by first | with_reducible exact (out_calls _ _ _ true HS.out _) | with_reducible exact (out_calls _ _ _ false HA.out _) | with_reducible exact (out_calls _ _ _ false HBB.out _) | with_reducible exact (out_calls _ _ _ false HC.out _) | with_reducible exact (out_calls _ _ _ false (by decide) _)) ?_; rintro e_ w_ ⟨rfl, n_, rfl⟩)); (try go_wp2_with (first | (go_at_call 37; refine Calls.mono (by first | with_reducible exact (out_calls _ _ _ true HS.out _) | with_reducible exact (out_calls _ _ _ false HA.out _) | with_reducible exact (out_calls _ _ _ false HBB.out _) | with_reducible exact (out_calls _ _ _ false HC.out _) | with_reducible exact (out_calls _ _ _ false (by decide) _)) ?_; rintro e_ w_ ⟨rfl, n_, rfl⟩))))
  go_ret
  exact ⟨rfl, by repeat (first | exact Below.refl _ _ | apply below_alloc | apply pw_below_drewN | apply below_drew1)⟩

set_option maxHeartbeats 1000000 in
set_option maxRecDepth 100000 in
theorem check2f (s : Int) (hs : outB s 0 63 = false) (w : World) : Calls Try.prog 33 #[.agg #[.int .i64 2, .int .i64 s, .int .i64 0, .int .i64 0, .int .i64 0, .int .u64 0, .int .u64 0]] w fun e w' => e = .returned (.int .i64 0) ∧ Below w.heap.size w w' := by
  have hu49 := Try.underlying49
  have hu29 := Try.underlying29
  have HS := Aside0.mk hs
  clear hs
  go_enter Try.func33, Try.ntmps33
  go_wp2_with (first | (go_at_call 37; refine Calls.mono (by first | with_reducible exact (out_calls _ _ _ false HS.out _) | with_reducible exact (out_calls _ _ _ false (by decide) _)) ?_; rintro e_ w_ ⟨rfl, n_, rfl⟩))
  repeat (go_quiet (first | (go_at_call 37; refine Calls.mono (by first | with_reducible exact (out_calls _ _ _ false HS.out _) | with_reducible exact (out_calls _ _ _ false (by decide) _)) ?_; rintro e_ w_ ⟨rfl, n_, rfl⟩)); (try go_wp2_with (first | (go_at_call 37; refine Calls.mono (by first | with_reducible exact (out_calls _ _ _ false HS.out _) | with_reducible exact (out_calls _ _ _ false (by decide) _)) ?_; rintro e_ w_ ⟨rfl, n_, rfl⟩))))
  go_ret
  exact ⟨rfl, by repeat (first | exact Below.refl _ _ | apply below_alloc | apply pw_below_drewN | apply below_drew1)⟩

set_option maxHeartbeats 1000000 in
set_option maxRecDepth 100000 in
theorem check2t (s : Int) (hs : outB s 0 63 = true) (w : World) : Calls Try.prog 33 #[.agg #[.int .i64 2, .int .i64 s, .int .i64 0, .int .i64 0, .int .i64 0, .int .u64 0, .int .u64 0]] w fun e w' => e = .returned (.int .i64 11) ∧ Below w.heap.size w w' := by
  have hu49 := Try.underlying49
  have hu29 := Try.underlying29
  have HS := Aside0.mk hs
  clear hs
  go_enter Try.func33, Try.ntmps33
  go_wp2_with (first | (go_at_call 37; refine Calls.mono (by first | with_reducible exact (out_calls _ _ _ true HS.out _) | with_reducible exact (out_calls _ _ _ false (by decide) _)) ?_; rintro e_ w_ ⟨rfl, n_, rfl⟩))
  repeat (go_quiet (first | (go_at_call 37; refine Calls.mono (by first | with_reducible exact (out_calls _ _ _ true HS.out _) | with_reducible exact (out_calls _ _ _ false (by decide) _)) ?_; rintro e_ w_ ⟨rfl, n_, rfl⟩)); (try go_wp2_with (first | (go_at_call 37; refine Calls.mono (by first | with_reducible exact (out_calls _ _ _ true HS.out _) | with_reducible exact (out_calls _ _ _ false (by decide) _)) ?_; rintro e_ w_ ⟨rfl, n_, rfl⟩))))
  go_ret
  exact ⟨rfl, by repeat (first | exact Below.refl _ _ | apply below_alloc | apply pw_below_drewN | apply below_drew1)⟩

set_option maxHeartbeats 1000000 in
set_option maxRecDepth 100000 in
theorem check3f (s : Int) (hs : outB s 0 63 = false) (w : World) : Calls Try.prog 33 #[.agg #[.int .i64 3, .int .i64 s, .int .i64 0, .int .i64 0, .int .i64 0, .int .u64 0, .int .u64 0]] w fun e w' => e = .returned (.int .i64 0) ∧ Below w.heap.size w w' := by
  have hu49 := Try.underlying49
  have hu29 := Try.underlying29
  have HS := Aside0.mk hs
  clear hs
  go_enter Try.func33, Try.ntmps33
  go_wp2_with (first | (go_at_call 37; refine Calls.mono (by first | with_reducible exact (out_calls _ _ _ false HS.out _) | with_reducible exact (out_calls _ _ _ false (by decide) _)) ?_; rintro e_ w_ ⟨rfl, n_, rfl⟩))
  repeat (go_quiet (first | (go_at_call 37; refine Calls.mono (by first | with_reducible exact (out_calls _ _ _ false HS.out _) | with_reducible exact (out_calls _ _ _ false (by decide) _)) ?_; rintro e_ w_ ⟨rfl, n_, rfl⟩)); (try go_wp2_with (first | (go_at_call 37; refine Calls.mono (by first | with_reducible exact (out_calls _ _ _ false HS.out _) | with_reducible exact (out_calls _ _ _ false (by decide) _)) ?_; rintro e_ w_ ⟨rfl, n_, rfl⟩))))
  go_ret
  exact ⟨rfl, by repeat (first | exact Below.refl _ _ | apply below_alloc | apply pw_below_drewN | apply below_drew1)⟩

set_option maxHeartbeats 1000000 in
set_option maxRecDepth 100000 in
theorem check3t (s : Int) (hs : outB s 0 63 = true) (w : World) : Calls Try.prog 33 #[.agg #[.int .i64 3, .int .i64 s, .int .i64 0, .int .i64 0, .int .i64 0, .int .u64 0, .int .u64 0]] w fun e w' => e = .returned (.int .i64 11) ∧ Below w.heap.size w w' := by
  have hu49 := Try.underlying49
  have hu29 := Try.underlying29
  have HS := Aside0.mk hs
  clear hs
  go_enter Try.func33, Try.ntmps33
  go_wp2_with (first | (go_at_call 37; refine Calls.mono (by first | with_reducible exact (out_calls _ _ _ true HS.out _) | with_reducible exact (out_calls _ _ _ false (by decide) _)) ?_; rintro e_ w_ ⟨rfl, n_, rfl⟩))
  repeat (go_quiet (first | (go_at_call 37; refine Calls.mono (by first | with_reducible exact (out_calls _ _ _ true HS.out _) | with_reducible exact (out_calls _ _ _ false (by decide) _)) ?_; rintro e_ w_ ⟨rfl, n_, rfl⟩)); (try go_wp2_with (first | (go_at_call 37; refine Calls.mono (by first | with_reducible exact (out_calls _ _ _ true HS.out _) | with_reducible exact (out_calls _ _ _ false (by decide) _)) ?_; rintro e_ w_ ⟨rfl, n_, rfl⟩))))
  go_ret
  exact ⟨rfl, by repeat (first | exact Below.refl _ _ | apply below_alloc | apply pw_below_drewN | apply below_drew1)⟩

set_option maxHeartbeats 1000000 in
set_option maxRecDepth 100000 in
theorem check4f (s : Int) (hs : outB s 0 63 = false) (w : World) : Calls Try.prog 33 #[.agg #[.int .i64 4, .int .i64 s, .int .i64 0, .int .i64 0, .int .i64 0, .int .u64 0, .int .u64 0]] w fun e w' => e = .returned (.int .i64 0) ∧ Below w.heap.size w w' := by
  have hu49 := Try.underlying49
  have hu29 := Try.underlying29
  have HS := Aside0.mk hs
  clear hs
  go_enter Try.func33, Try.ntmps33
  go_wp2_with (first | (go_at_call 37; refine Calls.mono (by first | with_reducible exact (out_calls _ _ _ false HS.out _) | with_reducible exact (out_calls _ _ _ false (by decide) _)) ?_; rintro e_ w_ ⟨rfl, n_, rfl⟩))
  repeat (go_quiet (first | (go_at_call 37; refine Calls.mono (by first | with_reducible exact (out_calls _ _ _ false HS.out _) | with_reducible exact (out_calls _ _ _ false (by decide) _)) ?_; rintro e_ w_ ⟨rfl, n_, rfl⟩)); (try go_wp2_with (first | (go_at_call 37; refine Calls.mono (by first | with_reducible exact (out_calls _ _ _ false HS.out _) | with_reducible exact (out_calls _ _ _ false (by decide) _)) ?_; rintro e_ w_ ⟨rfl, n_, rfl⟩))))
  go_ret
  exact ⟨rfl, by repeat (first | exact Below.refl _ _ | apply below_alloc | apply pw_below_drewN | apply below_drew1)⟩

set_option maxHeartbeats 1000000 in
set_option maxRecDepth 100000 in
theorem check4t (s : Int) (hs : outB s 0 63 = true) (w : World) : Calls Try.prog 33 #[.agg #[.int .i64 4, .int .i64 s, .int .i64 0, .int .i64 0, .int .i64 0, .int .u64 0, .int .u64 0]] w fun e w' => e = .returned (.int .i64 11) ∧ Below w.heap.size w w' := by
  have hu49 := Try.underlying49
  have hu29 := Try.underlying29
  have HS := Aside0.mk hs
  clear hs
  go_enter Try.func33, Try.ntmps33
  go_wp2_with (first | (go_at_call 37; refine Calls.mono (by first | with_reducible exact (out_calls _ _ _ true HS.out _) | with_reducible exact (out_calls _ _ _ false (by decide) _)) ?_; rintro e_ w_ ⟨rfl, n_, rfl⟩))
  repeat (go_quiet (first | (go_at_call 37; refine Calls.mono (by first | with_reducible exact (out_calls _ _ _ true HS.out _) | with_reducible exact (out_calls _ _ _ false (by decide) _)) ?_; rintro e_ w_ ⟨rfl, n_, rfl⟩)); (try go_wp2_with (first | (go_at_call 37; refine Calls.mono (by first | with_reducible exact (out_calls _ _ _ true HS.out _) | with_reducible exact (out_calls _ _ _ false (by decide) _)) ?_; rintro e_ w_ ⟨rfl, n_, rfl⟩))))
  go_ret
  exact ⟨rfl, by repeat (first | exact Below.refl _ _ | apply below_alloc | apply pw_below_drewN | apply below_drew1)⟩

set_option maxHeartbeats 1000000 in
set_option maxRecDepth 100000 in
theorem check5f (s : Int) (hs : outB s 0 63 = false) (w : World) : Calls Try.prog 33 #[.agg #[.int .i64 5, .int .i64 s, .int .i64 0, .int .i64 0, .int .i64 0, .int .u64 0, .int .u64 0]] w fun e w' => e = .returned (.int .i64 0) ∧ Below w.heap.size w w' := by
  have hu49 := Try.underlying49
  have hu29 := Try.underlying29
  have HS := Aside0.mk hs
  clear hs
  go_enter Try.func33, Try.ntmps33
  go_wp2_with (first | (go_at_call 37; refine Calls.mono (by first | with_reducible exact (out_calls _ _ _ false HS.out _) | with_reducible exact (out_calls _ _ _ false (by decide) _)) ?_; rintro e_ w_ ⟨rfl, n_, rfl⟩))
  repeat (go_quiet (first | (go_at_call 37; refine Calls.mono (by first | with_reducible exact (out_calls _ _ _ false HS.out _) | with_reducible exact (out_calls _ _ _ false (by decide) _)) ?_; rintro e_ w_ ⟨rfl, n_, rfl⟩)); (try go_wp2_with (first | (go_at_call 37; refine Calls.mono (by first | with_reducible exact (out_calls _ _ _ false HS.out _) | with_reducible exact (out_calls _ _ _ false (by decide) _)) ?_; rintro e_ w_ ⟨rfl, n_, rfl⟩))))
  go_ret
  exact ⟨rfl, by repeat (first | exact Below.refl _ _ | apply below_alloc | apply pw_below_drewN | apply below_drew1)⟩

set_option maxHeartbeats 1000000 in
set_option maxRecDepth 100000 in
theorem check5t (s : Int) (hs : outB s 0 63 = true) (w : World) : Calls Try.prog 33 #[.agg #[.int .i64 5, .int .i64 s, .int .i64 0, .int .i64 0, .int .i64 0, .int .u64 0, .int .u64 0]] w fun e w' => e = .returned (.int .i64 11) ∧ Below w.heap.size w w' := by
  have hu49 := Try.underlying49
  have hu29 := Try.underlying29
  have HS := Aside0.mk hs
  clear hs
  go_enter Try.func33, Try.ntmps33
  go_wp2_with (first | (go_at_call 37; refine Calls.mono (by first | with_reducible exact (out_calls _ _ _ true HS.out _) | with_reducible exact (out_calls _ _ _ false (by decide) _)) ?_; rintro e_ w_ ⟨rfl, n_, rfl⟩))
  repeat (go_quiet (first | (go_at_call 37; refine Calls.mono (by first | with_reducible exact (out_calls _ _ _ true HS.out _) | with_reducible exact (out_calls _ _ _ false (by decide) _)) ?_; rintro e_ w_ ⟨rfl, n_, rfl⟩)); (try go_wp2_with (first | (go_at_call 37; refine Calls.mono (by first | with_reducible exact (out_calls _ _ _ true HS.out _) | with_reducible exact (out_calls _ _ _ false (by decide) _)) ?_; rintro e_ w_ ⟨rfl, n_, rfl⟩))))
  go_ret
  exact ⟨rfl, by repeat (first | exact Below.refl _ _ | apply below_alloc | apply pw_below_drewN | apply below_drew1)⟩

set_option maxHeartbeats 1000000 in
set_option maxRecDepth 100000 in
theorem check6 (x y : Int) (w : World) : Calls Try.prog 33 #[.agg #[.int .i64 6, .int .i64 0, .int .i64 0, .int .i64 0, .int .i64 0, .int .u64 x, .int .u64 y]] w fun e w' => e = .returned (.int .i64 0) ∧ Below w.heap.size w w' := by
  have hu49 := Try.underlying49
  have hu29 := Try.underlying29
  go_enter Try.func33, Try.ntmps33
  go_wp2_with (first | (go_at_call 37; refine Calls.mono (by first | with_reducible exact (out_calls _ _ _ false (by decide) _)) ?_; rintro e_ w_ ⟨rfl, n_, rfl⟩))
  repeat (go_quiet (first | (go_at_call 37; refine Calls.mono (by first | with_reducible exact (out_calls _ _ _ false (by decide) _)) ?_; rintro e_ w_ ⟨rfl, n_, rfl⟩)); (try go_wp2_with (first | (go_at_call 37; refine Calls.mono (by first | with_reducible exact (out_calls _ _ _ false (by decide) _)) ?_; rintro e_ w_ ⟨rfl, n_, rfl⟩))))
  go_ret
  exact ⟨rfl, by repeat (first | exact Below.refl _ _ | apply below_alloc | apply pw_below_drewN | apply below_drew1)⟩
end Go.Proofs.Ytnffajpnffibaaa.Own
namespace Go.Proofs.Ytnffajpnffibaaa.Own
open Go Go.RowKit Go.Proofs.YtnffajpnffibaaaW.PrintWords Go.Proofs.YtnffajpnffibaaaW.PrintMore Go.Proofs.YtnffajpnffibaaaW.PrintLast Go.Proofs.Ytnffajpnffibaaa.Q
set_option linter.unusedVariables false
set_option linter.unusedSimpArgs false

/-- Is a slot held, and does it stand there? -/
def slotIs (s : S25) (a b : Int) : Bool := s.f0 != 0 && s.f1 == a && s.f2 == b
def heldP (p : PL) (a b : Int) : Bool := p.sl.any (slotIs · a b) || (p.addr == a && p.port == b)
theorem any_of (l : List S25) (f : S25 → Bool) (i : Nat) (hi : i < l.length) (h : f (rd_T25 l (i : Int)) = true) : l.any f = true := by
  rw [List.any_eq_true]
  refine ⟨l[i], List.getElem_mem hi, ?_⟩
  have : rd_T25 l (i : Int) = l[i] := by
    unfold rd_T25
    simp [List.getD_eq_getElem?_getD, List.getElem?_eq_getElem hi]
  rwa [this] at h
theorem any_none (l : List S25) (f : S25 → Bool) (h : ∀ i : Nat, i < l.length → f (rd_T25 l (i : Int)) = false) : l.any f = false := by
  rw [List.any_eq_false]
  intro x hx
  obtain ⟨i, hi, rfl⟩ := List.getElem_of_mem hx
  have := h i hi
  unfold rd_T25 at this
  simp [List.getD_eq_getElem?_getD, List.getElem?_eq_getElem hi] at this
  simp [this]

set_option maxHeartbeats 8000000 in
set_option maxRecDepth 100000 in
theorem held_calls (p : PL) (hp : p.sl.length = 64) (a b : Int) (w0 : World) : Calls Try.prog 41 #[.agg (pcs p), .int .i64 a, .int .i64 b] w0 fun e w' => e = .returned (.bool (heldP p a b)) ∧ Below w0.heap.size w0 w' := by
  have hu25 := Try.underlying25
  have hu33 := pool33
  have hu26 := slots26
  have HP := Aside0.mk hp
  clear hp
  go_enter Try.func41, Try.ntmps41
  go_wp2_with (first | ((with_reducible refine gate_dst (N := 3) rfl ?_); refine pl_box rfl rfl rfl ?_; intro g hg w hbox hb; have HBX := Aside0.mk hbox; have HB0 := Aside0.mk hb; clear hbox hb hg))
  go_loopg [7] 65 (fun kq v7 w' => ∃ i : Nat, v7 = .int .i64 i ∧ Aside0 (kq + i = 65 ∧ i ≤ 64) ∧ Aside0 (∀ j : Nat, j < i → slotIs (rd_T25 p.sl j) a b = false) ∧ Aside0 (Below w.heap.size w w'))
  case atStart => exact ⟨0, rfl, ⟨rfl, by omega⟩, ⟨fun j hj => absurd hj (by omega)⟩, ⟨Below.refl _ _⟩⟩
  case round =>
    obtain ⟨i, rfl, HK, HN, HB⟩ := hrel
    cases gk with
    | zero => have := HK.out; omega
    | succ k1 =>
      have hbg := (HBX.out.below HB.out)
      have hsl := slots_C hbg (pcs_slots p HP.out)
      by_cases hi : (i : Int) < 64
      · have hi0 : decide ((i : Int) < 64) = true := decide_eq_true hi
        have p1 : 0 ≤ (i : Int) := Int.natCast_nonneg i
        obtain ⟨ad, e1, hx0, hx1, hx2, hx3, hx4⟩ := at_T25 hsl (i : Int) p1 (by rw [HP.out]; exact hi)
        cases e1
        simp only [add_in, Int.toNat_natCast] at hx0 hx1 hx2 hx3 hx4
        replace hi := eq_true hi
        replace p1 := eq_true p1
        have HSL := Aside0.mk hsl
        have HBG := Aside0.mk hbg
        clear hsl hbg
        by_cases h0 : (rd_T25 p.sl i).f0 = 0
        · have hm : Aside0 (slotIs (rd_T25 p.sl (i : Int)) a b = false) := ⟨by simp [slotIs, h0]⟩
          have h0b : ((rd_T25 p.sl i).f0 != 0) = false := by simp [h0]
          go_wp2
          go_roundg k1
          case measure => omega
          case rel => exact ⟨i + 1, by rw [show wrap64 ((i : Int) + 1) = ((i + 1 : Nat) : Int) from by unfold wrap64; have h1_ := of_eq_true hi; omega], ⟨by have h1_ := HK.out; have h2_ := of_eq_true hi; omega⟩, ⟨fun j hj => by
            rcases Nat.lt_succ_iff_lt_or_eq.1 hj with h_ | rfl
            · exact HN.out j h_
            · exact hm.out⟩, ⟨by repeat (first | (with_reducible first | exact HB.out | apply below_alloc | apply pw_below_drewN | apply below_drew1 | refine below_set ?_ (below_size HB.out)) | exact HB.out)⟩⟩
        have h0b : ((rd_T25 p.sl i).f0 != 0) = true := by simp [h0]
        by_cases h1 : (rd_T25 p.sl i).f1 = a
        rotate_left
        · have hm : Aside0 (slotIs (rd_T25 p.sl (i : Int)) a b = false) := ⟨by simp [slotIs, h1]⟩
          have h1b : ((rd_T25 p.sl i).f1 == a) = false := by simp [h1]
          go_wp2
          go_roundg k1
          case measure => omega
          case rel => exact ⟨i + 1, by rw [show wrap64 ((i : Int) + 1) = ((i + 1 : Nat) : Int) from by unfold wrap64; have h1_ := of_eq_true hi; omega], ⟨by have h1_ := HK.out; have h2_ := of_eq_true hi; omega⟩, ⟨fun j hj => by
            rcases Nat.lt_succ_iff_lt_or_eq.1 hj with h_ | rfl
            · exact HN.out j h_
            · exact hm.out⟩, ⟨by repeat (first | (with_reducible first | exact HB.out | apply below_alloc | apply pw_below_drewN | apply below_drew1 | refine below_set ?_ (below_size HB.out)) | exact HB.out)⟩⟩
        have h1b : ((rd_T25 p.sl i).f1 == a) = true := by simp [h1]
        by_cases h2 : (rd_T25 p.sl i).f2 = b
        rotate_left
        · have hm : Aside0 (slotIs (rd_T25 p.sl (i : Int)) a b = false) := ⟨by simp [slotIs, h2]⟩
          have h2b : ((rd_T25 p.sl i).f2 == b) = false := by simp [h2]
          go_wp2
          go_roundg k1
          case measure => omega
          case rel => exact ⟨i + 1, by rw [show wrap64 ((i : Int) + 1) = ((i + 1 : Nat) : Int) from by unfold wrap64; have h1_ := of_eq_true hi; omega], ⟨by have h1_ := HK.out; have h2_ := of_eq_true hi; omega⟩, ⟨fun j hj => by
            rcases Nat.lt_succ_iff_lt_or_eq.1 hj with h_ | rfl
            · exact HN.out j h_
            · exact hm.out⟩, ⟨by repeat (first | (with_reducible first | exact HB.out | apply below_alloc | apply pw_below_drewN | apply below_drew1 | refine below_set ?_ (below_size HB.out)) | exact HB.out)⟩⟩
        have h2b : ((rd_T25 p.sl i).f2 == b) = true := by simp [h2]
        have hm : Aside0 (heldP p a b = true) := ⟨by unfold heldP; rw [any_of p.sl _ i (by have h1_ := HP.out; have h2_ := of_eq_true hi; omega) (by simp [slotIs, h0, h1, h2]), Bool.true_or]⟩
        clear h0 h1 h2
        go_wp2
        go_ret
        exact ⟨by rw [hm.out]; rfl, below_step HB0.out (by repeat (first | (with_reducible first | exact HB.out | apply below_alloc | apply pw_below_drewN | apply below_drew1 | refine below_set ?_ (below_size HB.out)) | exact HB.out))⟩
      · have hi0 : decide ((i : Int) < 64) = false := decide_eq_false hi
        have hn : Aside0 (p.sl.any (slotIs · a b) = false) := ⟨any_none _ _ fun j hj => HN.out j (by have h1_ := HP.out; have h2_ := HK.out; omega)⟩
        clear hi hsl
        have hc1 : wr.cell? ⟨g, 1, none⟩ = some (.int .i64 p.addr) := (blk_cell hbg 1).trans rfl
        have hc2 : wr.cell? ⟨g, 2, none⟩ = some (.int .i64 p.port) := (blk_cell hbg 2).trans rfl
        have HBG := Aside0.mk hbg
        clear hbg
        by_cases h1 : p.addr = a
        · have h1b : (p.addr == a) = true := by simp [h1]
          have hm : Aside0 (heldP p a b = (p.port == b)) := ⟨by unfold heldP; rw [hn.out, h1b, Bool.false_or, Bool.true_and]⟩
          go_wp2
          go_ret
          exact ⟨by rw [hm.out]; rfl, below_step HB0.out (by repeat (first | (with_reducible first | exact HB.out | apply below_alloc | apply pw_below_drewN | apply below_drew1 | refine below_set ?_ (below_size HB.out)) | exact HB.out))⟩
        · have h1b : (p.addr == a) = false := by simp [h1]
          have hm : Aside0 (heldP p a b = false) := ⟨by unfold heldP; rw [hn.out, h1b, Bool.false_or, Bool.false_and]⟩
          go_wp2
          go_ret
          exact ⟨by rw [hm.out]; rfl, below_step HB0.out (by repeat (first | (with_reducible first | exact HB.out | apply below_alloc | apply pw_below_drewN | apply below_drew1 | refine below_set ?_ (below_size HB.out)) | exact HB.out))⟩
end Go.Proofs.Ytnffajpnffibaaa.Own
namespace Go.Proofs.Ytnffajpnffibaaa.Own
open Go Go.RowKit Go.Proofs.YtnffajpnffibaaaW.PrintWords Go.Proofs.YtnffajpnffibaaaW.PrintMore Go.Proofs.YtnffajpnffibaaaW.PrintLast Go.Proofs.Ytnffajpnffibaaa.Q
set_option linter.unusedVariables false
set_option linter.unusedSimpArgs false

section
variable {ops : Array Oper} {rest : List Oper} {o : Oper} {a : Act} {Q : Exit → Act → World → Prop} {W : World}
theorem any_box (hgd : o.guard = none) {x : Operand} {t : Nat} (ho : o.op = .box t x) {cs : Array Value} (hx : a.eval x = .agg cs)
    (h : ∀ g, g = W.heap.size → ∀ w1, Blk w1 g t cs → Below W.heap.size W w1 → wpList Try.prog ops Q rest (a.put o.dst (.pointer (some ⟨g, 0, none⟩))) w1) : wpList Try.prog ops Q (o :: rest) a W := by
  have hrun : (execOp a.eval o).run Try.prog W = .ok (.value (.pointer (some ⟨W.heap.size, 0, none⟩))) (W.alloc (.cells cs t (0, 0))) := by
    unfold execOp
    simp only [ho, hx]
    rfl
  exact Kd.event_run hgd hrun (h _ rfl _ (blk_new W _) (below_alloc (Below.refl _ _) _))
end
/-- May an entry not be done? -/
def badP (p : PL) (k s a b : Int) : Bool :=
  if k = 1 then (rd_T25 p.sl s).f0 != 0 || heldP p a b
  else if k = 2 ∨ k = 4 then (rd_T25 p.sl s).f0 != 1 && (rd_T25 p.sl s).f0 != 3
  else if k = 3 then (rd_T25 p.sl s).f0 != 2
  else if k = 5 then (rd_T25 p.sl s).f0 != 4
  else false
/-- An entry's cells. -/
def ecs (k s a b c x y : Int) : Array Value := #[.int .i64 k, .int .i64 s, .int .i64 a, .int .i64 b, .int .i64 c, .int .u64 x, .int .u64 y]

set_option maxHeartbeats 8000000 in
set_option maxRecDepth 100000 in
theorem bad1t (p : PL) (hp : p.sl.length = 64) (s a b c x y : Int) (h0 : 0 ≤ s) (h1 : s < 64) (hst : (rd_T25 p.sl s).f0 = 0) (w0 : World) : Calls Try.prog 34 #[.agg (pcs p), .agg #[.int .i64 1, .int .i64 s, .int .i64 a, .int .i64 b, .int .i64 c, .int .u64 x, .int .u64 y]] w0 fun e w' => e = .returned (.bool (heldP p a b)) ∧ Below w0.heap.size w0 w' := by
  have hu25 := Try.underlying25
  have hu33 := pool33
  have hu26 := slots26
  have hu49 := Try.underlying49
  have HP := Aside0.mk hp
  have h1' := eq_true h1
  have h0' := eq_true h0
  have H01 := Aside0.mk (And.intro h0 h1)
  clear hp h0 h1
  go_enter Try.func34, Try.ntmps34
  go_upto_region 1 with (first | ((with_reducible refine gate_dst (N := 2) rfl ?_); refine pl_box rfl rfl rfl ?_; intro g hg w hbox hb; have HBX := Aside0.mk hbox; have HB0 := Aside0.mk hb; clear hbox hb hg) | ((with_reducible refine gate_dst (N := 3) rfl ?_); refine any_box rfl rfl rfl ?_; intro q hq w1 hqb hb1; have HQX := Aside0.mk hqb; have HB1 := Aside0.mk hb1; have hbg := HBX.out.below hb1; clear hqb hb1 hq))
  have HB := Aside0.mk (below_step HB0.out HB1.out)
  have hsl := slots_C hbg (pcs_slots p HP.out)
  obtain ⟨ad, e1, hx0, hx1, hx2, hx3, hx4⟩ := at_T25 hsl s H01.out.1 (by rw [HP.out]; exact H01.out.2)
  cases e1
  simp only [add_in] at hx0 hx1 hx2 hx3 hx4
  have HBG := Aside0.mk hbg
  clear hbg hsl
  have he0 : w1.cell? ⟨q, 0, none⟩ = some (.int .i64 1) := (blk_cell HQX.out 0).trans rfl
  have he1 : w1.cell? ⟨q, 1, none⟩ = some (.int .i64 s) := (blk_cell HQX.out 1).trans rfl
  have he2 : w1.cell? ⟨q, 2, none⟩ = some (.int .i64 a) := (blk_cell HQX.out 2).trans rfl
  have he3 : w1.cell? ⟨q, 3, none⟩ = some (.int .i64 b) := (blk_cell HQX.out 3).trans rfl
  go_upto_region 2 with fail
  clear hu33 hu26 hx0 hx1 hx2 hx3 hx4 h0' h1'
  have hs1 : ((rd_T25 p.sl s).f0 != 0) = false := by simp [hst]
  clear hst
  go_wp2_with fail
  refine wp_ld33 (x := .tmp 2) rfl rfl HBG.out HP.out ?_
  go_wp2_with (first | (go_at_call 41; refine (held_calls p HP.out a b _).mono ?_; rintro e' w2 ⟨rfl, hb2⟩; have n_ := Aside0.mk (below_step HB.out hb2); clear HB; have HB := n_; clear n_ hb2 he0 he1 he2 he3))
  go_ret
  exact ⟨by rfl, by repeat (first | (with_reducible first | exact HB.out | apply below_alloc | apply pw_below_drewN | apply below_drew1 | refine below_set ?_ (below_size HB.out)) | exact HB.out)⟩

set_option maxHeartbeats 8000000 in
set_option maxRecDepth 100000 in
theorem bad1f (p : PL) (hp : p.sl.length = 64) (s a b c x y : Int) (h0 : 0 ≤ s) (h1 : s < 64) (hst : (rd_T25 p.sl s).f0 ≠ 0) (w0 : World) : Calls Try.prog 34 #[.agg (pcs p), .agg #[.int .i64 1, .int .i64 s, .int .i64 a, .int .i64 b, .int .i64 c, .int .u64 x, .int .u64 y]] w0 fun e w' => e = .returned (.bool (true)) ∧ Below w0.heap.size w0 w' := by
  have hu25 := Try.underlying25
  have hu33 := pool33
  have hu26 := slots26
  have hu49 := Try.underlying49
  have HP := Aside0.mk hp
  have h1' := eq_true h1
  have h0' := eq_true h0
  have H01 := Aside0.mk (And.intro h0 h1)
  clear hp h0 h1
  go_enter Try.func34, Try.ntmps34
  go_upto_region 1 with (first | ((with_reducible refine gate_dst (N := 2) rfl ?_); refine pl_box rfl rfl rfl ?_; intro g hg w hbox hb; have HBX := Aside0.mk hbox; have HB0 := Aside0.mk hb; clear hbox hb hg) | ((with_reducible refine gate_dst (N := 3) rfl ?_); refine any_box rfl rfl rfl ?_; intro q hq w1 hqb hb1; have HQX := Aside0.mk hqb; have HB1 := Aside0.mk hb1; have hbg := HBX.out.below hb1; clear hqb hb1 hq))
  have HB := Aside0.mk (below_step HB0.out HB1.out)
  have hsl := slots_C hbg (pcs_slots p HP.out)
  obtain ⟨ad, e1, hx0, hx1, hx2, hx3, hx4⟩ := at_T25 hsl s H01.out.1 (by rw [HP.out]; exact H01.out.2)
  cases e1
  simp only [add_in] at hx0 hx1 hx2 hx3 hx4
  have HBG := Aside0.mk hbg
  clear hbg hsl
  have he0 : w1.cell? ⟨q, 0, none⟩ = some (.int .i64 1) := (blk_cell HQX.out 0).trans rfl
  have he1 : w1.cell? ⟨q, 1, none⟩ = some (.int .i64 s) := (blk_cell HQX.out 1).trans rfl
  have he2 : w1.cell? ⟨q, 2, none⟩ = some (.int .i64 a) := (blk_cell HQX.out 2).trans rfl
  have he3 : w1.cell? ⟨q, 3, none⟩ = some (.int .i64 b) := (blk_cell HQX.out 3).trans rfl
  go_upto_region 2 with fail
  clear hu33 hu26 hx0 hx1 hx2 hx3 hx4 h0' h1'
  have hs1 : ((rd_T25 p.sl s).f0 != 0) = true := by simp [hst]
  clear hst
  go_wp2_with fail
  go_ret
  exact ⟨by rfl, by repeat (first | (with_reducible first | exact HB.out | apply below_alloc | apply pw_below_drewN | apply below_drew1 | refine below_set ?_ (below_size HB.out)) | exact HB.out)⟩

set_option maxHeartbeats 8000000 in
set_option maxRecDepth 100000 in
theorem bad2t (p : PL) (hp : p.sl.length = 64) (s a b c x y : Int) (h0 : 0 ≤ s) (h1 : s < 64) (hst : (rd_T25 p.sl s).f0 = 1) (w0 : World) : Calls Try.prog 34 #[.agg (pcs p), .agg #[.int .i64 2, .int .i64 s, .int .i64 a, .int .i64 b, .int .i64 c, .int .u64 x, .int .u64 y]] w0 fun e w' => e = .returned (.bool (false)) ∧ Below w0.heap.size w0 w' := by
  have hu25 := Try.underlying25
  have hu33 := pool33
  have hu26 := slots26
  have hu49 := Try.underlying49
  have HP := Aside0.mk hp
  have h1' := eq_true h1
  have h0' := eq_true h0
  have H01 := Aside0.mk (And.intro h0 h1)
  clear hp h0 h1
  go_enter Try.func34, Try.ntmps34
  go_upto_region 1 with (first | ((with_reducible refine gate_dst (N := 2) rfl ?_); refine pl_box rfl rfl rfl ?_; intro g hg w hbox hb; have HBX := Aside0.mk hbox; have HB0 := Aside0.mk hb; clear hbox hb hg) | ((with_reducible refine gate_dst (N := 3) rfl ?_); refine any_box rfl rfl rfl ?_; intro q hq w1 hqb hb1; have HQX := Aside0.mk hqb; have HB1 := Aside0.mk hb1; have hbg := HBX.out.below hb1; clear hqb hb1 hq))
  have HB := Aside0.mk (below_step HB0.out HB1.out)
  have hsl := slots_C hbg (pcs_slots p HP.out)
  obtain ⟨ad, e1, hx0, hx1, hx2, hx3, hx4⟩ := at_T25 hsl s H01.out.1 (by rw [HP.out]; exact H01.out.2)
  cases e1
  simp only [add_in] at hx0 hx1 hx2 hx3 hx4
  have HBG := Aside0.mk hbg
  clear hbg hsl
  have he0 : w1.cell? ⟨q, 0, none⟩ = some (.int .i64 2) := (blk_cell HQX.out 0).trans rfl
  have he1 : w1.cell? ⟨q, 1, none⟩ = some (.int .i64 s) := (blk_cell HQX.out 1).trans rfl
  have he2 : w1.cell? ⟨q, 2, none⟩ = some (.int .i64 a) := (blk_cell HQX.out 2).trans rfl
  have he3 : w1.cell? ⟨q, 3, none⟩ = some (.int .i64 b) := (blk_cell HQX.out 3).trans rfl
  go_upto_region 2 with fail
  clear hu33 hu26 hx0 hx1 hx2 hx3 hx4 h0' h1'
  have hs1 : ((rd_T25 p.sl s).f0 != 1) = false := by simp [hst]
  clear hst
  go_wp2_with fail
  go_ret
  exact ⟨by rfl, by repeat (first | (with_reducible first | exact HB.out | apply below_alloc | apply pw_below_drewN | apply below_drew1 | refine below_set ?_ (below_size HB.out)) | exact HB.out)⟩

set_option maxHeartbeats 8000000 in
set_option maxRecDepth 100000 in
theorem bad2f (p : PL) (hp : p.sl.length = 64) (s a b c x y : Int) (h0 : 0 ≤ s) (h1 : s < 64) (hst : (rd_T25 p.sl s).f0 ≠ 1) (w0 : World) : Calls Try.prog 34 #[.agg (pcs p), .agg #[.int .i64 2, .int .i64 s, .int .i64 a, .int .i64 b, .int .i64 c, .int .u64 x, .int .u64 y]] w0 fun e w' => e = .returned (.bool ((rd_T25 p.sl s).f0 != 3)) ∧ Below w0.heap.size w0 w' := by
  have hu25 := Try.underlying25
  have hu33 := pool33
  have hu26 := slots26
  have hu49 := Try.underlying49
  have HP := Aside0.mk hp
  have h1' := eq_true h1
  have h0' := eq_true h0
  have H01 := Aside0.mk (And.intro h0 h1)
  clear hp h0 h1
  go_enter Try.func34, Try.ntmps34
  go_upto_region 1 with (first | ((with_reducible refine gate_dst (N := 2) rfl ?_); refine pl_box rfl rfl rfl ?_; intro g hg w hbox hb; have HBX := Aside0.mk hbox; have HB0 := Aside0.mk hb; clear hbox hb hg) | ((with_reducible refine gate_dst (N := 3) rfl ?_); refine any_box rfl rfl rfl ?_; intro q hq w1 hqb hb1; have HQX := Aside0.mk hqb; have HB1 := Aside0.mk hb1; have hbg := HBX.out.below hb1; clear hqb hb1 hq))
  have HB := Aside0.mk (below_step HB0.out HB1.out)
  have hsl := slots_C hbg (pcs_slots p HP.out)
  obtain ⟨ad, e1, hx0, hx1, hx2, hx3, hx4⟩ := at_T25 hsl s H01.out.1 (by rw [HP.out]; exact H01.out.2)
  cases e1
  simp only [add_in] at hx0 hx1 hx2 hx3 hx4
  have HBG := Aside0.mk hbg
  clear hbg hsl
  have he0 : w1.cell? ⟨q, 0, none⟩ = some (.int .i64 2) := (blk_cell HQX.out 0).trans rfl
  have he1 : w1.cell? ⟨q, 1, none⟩ = some (.int .i64 s) := (blk_cell HQX.out 1).trans rfl
  have he2 : w1.cell? ⟨q, 2, none⟩ = some (.int .i64 a) := (blk_cell HQX.out 2).trans rfl
  have he3 : w1.cell? ⟨q, 3, none⟩ = some (.int .i64 b) := (blk_cell HQX.out 3).trans rfl
  go_upto_region 2 with fail
  clear hu33 hu26 hx0 hx1 hx2 hx3 hx4 h0' h1'
  have hs1 : ((rd_T25 p.sl s).f0 != 1) = true := by simp [hst]
  clear hst
  go_wp2_with fail
  go_ret
  exact ⟨by rfl, by repeat (first | (with_reducible first | exact HB.out | apply below_alloc | apply pw_below_drewN | apply below_drew1 | refine below_set ?_ (below_size HB.out)) | exact HB.out)⟩

set_option maxHeartbeats 8000000 in
set_option maxRecDepth 100000 in
theorem bad4t (p : PL) (hp : p.sl.length = 64) (s a b c x y : Int) (h0 : 0 ≤ s) (h1 : s < 64) (hst : (rd_T25 p.sl s).f0 = 1) (w0 : World) : Calls Try.prog 34 #[.agg (pcs p), .agg #[.int .i64 4, .int .i64 s, .int .i64 a, .int .i64 b, .int .i64 c, .int .u64 x, .int .u64 y]] w0 fun e w' => e = .returned (.bool (false)) ∧ Below w0.heap.size w0 w' := by
  have hu25 := Try.underlying25
  have hu33 := pool33
  have hu26 := slots26
  have hu49 := Try.underlying49
  have HP := Aside0.mk hp
  have h1' := eq_true h1
  have h0' := eq_true h0
  have H01 := Aside0.mk (And.intro h0 h1)
  clear hp h0 h1
  go_enter Try.func34, Try.ntmps34
  go_upto_region 1 with (first | ((with_reducible refine gate_dst (N := 2) rfl ?_); refine pl_box rfl rfl rfl ?_; intro g hg w hbox hb; have HBX := Aside0.mk hbox; have HB0 := Aside0.mk hb; clear hbox hb hg) | ((with_reducible refine gate_dst (N := 3) rfl ?_); refine any_box rfl rfl rfl ?_; intro q hq w1 hqb hb1; have HQX := Aside0.mk hqb; have HB1 := Aside0.mk hb1; have hbg := HBX.out.below hb1; clear hqb hb1 hq))
  have HB := Aside0.mk (below_step HB0.out HB1.out)
  have hsl := slots_C hbg (pcs_slots p HP.out)
  obtain ⟨ad, e1, hx0, hx1, hx2, hx3, hx4⟩ := at_T25 hsl s H01.out.1 (by rw [HP.out]; exact H01.out.2)
  cases e1
  simp only [add_in] at hx0 hx1 hx2 hx3 hx4
  have HBG := Aside0.mk hbg
  clear hbg hsl
  have he0 : w1.cell? ⟨q, 0, none⟩ = some (.int .i64 4) := (blk_cell HQX.out 0).trans rfl
  have he1 : w1.cell? ⟨q, 1, none⟩ = some (.int .i64 s) := (blk_cell HQX.out 1).trans rfl
  have he2 : w1.cell? ⟨q, 2, none⟩ = some (.int .i64 a) := (blk_cell HQX.out 2).trans rfl
  have he3 : w1.cell? ⟨q, 3, none⟩ = some (.int .i64 b) := (blk_cell HQX.out 3).trans rfl
  go_upto_region 2 with fail
  clear hu33 hu26 hx0 hx1 hx2 hx3 hx4 h0' h1'
  have hs1 : ((rd_T25 p.sl s).f0 != 1) = false := by simp [hst]
  clear hst
  go_wp2_with fail
  go_ret
  exact ⟨by rfl, by repeat (first | (with_reducible first | exact HB.out | apply below_alloc | apply pw_below_drewN | apply below_drew1 | refine below_set ?_ (below_size HB.out)) | exact HB.out)⟩

set_option maxHeartbeats 8000000 in
set_option maxRecDepth 100000 in
theorem bad4f (p : PL) (hp : p.sl.length = 64) (s a b c x y : Int) (h0 : 0 ≤ s) (h1 : s < 64) (hst : (rd_T25 p.sl s).f0 ≠ 1) (w0 : World) : Calls Try.prog 34 #[.agg (pcs p), .agg #[.int .i64 4, .int .i64 s, .int .i64 a, .int .i64 b, .int .i64 c, .int .u64 x, .int .u64 y]] w0 fun e w' => e = .returned (.bool ((rd_T25 p.sl s).f0 != 3)) ∧ Below w0.heap.size w0 w' := by
  have hu25 := Try.underlying25
  have hu33 := pool33
  have hu26 := slots26
  have hu49 := Try.underlying49
  have HP := Aside0.mk hp
  have h1' := eq_true h1
  have h0' := eq_true h0
  have H01 := Aside0.mk (And.intro h0 h1)
  clear hp h0 h1
  go_enter Try.func34, Try.ntmps34
  go_upto_region 1 with (first | ((with_reducible refine gate_dst (N := 2) rfl ?_); refine pl_box rfl rfl rfl ?_; intro g hg w hbox hb; have HBX := Aside0.mk hbox; have HB0 := Aside0.mk hb; clear hbox hb hg) | ((with_reducible refine gate_dst (N := 3) rfl ?_); refine any_box rfl rfl rfl ?_; intro q hq w1 hqb hb1; have HQX := Aside0.mk hqb; have HB1 := Aside0.mk hb1; have hbg := HBX.out.below hb1; clear hqb hb1 hq))
  have HB := Aside0.mk (below_step HB0.out HB1.out)
  have hsl := slots_C hbg (pcs_slots p HP.out)
  obtain ⟨ad, e1, hx0, hx1, hx2, hx3, hx4⟩ := at_T25 hsl s H01.out.1 (by rw [HP.out]; exact H01.out.2)
  cases e1
  simp only [add_in] at hx0 hx1 hx2 hx3 hx4
  have HBG := Aside0.mk hbg
  clear hbg hsl
  have he0 : w1.cell? ⟨q, 0, none⟩ = some (.int .i64 4) := (blk_cell HQX.out 0).trans rfl
  have he1 : w1.cell? ⟨q, 1, none⟩ = some (.int .i64 s) := (blk_cell HQX.out 1).trans rfl
  have he2 : w1.cell? ⟨q, 2, none⟩ = some (.int .i64 a) := (blk_cell HQX.out 2).trans rfl
  have he3 : w1.cell? ⟨q, 3, none⟩ = some (.int .i64 b) := (blk_cell HQX.out 3).trans rfl
  go_upto_region 2 with fail
  clear hu33 hu26 hx0 hx1 hx2 hx3 hx4 h0' h1'
  have hs1 : ((rd_T25 p.sl s).f0 != 1) = true := by simp [hst]
  clear hst
  go_wp2_with fail
  go_ret
  exact ⟨by rfl, by repeat (first | (with_reducible first | exact HB.out | apply below_alloc | apply pw_below_drewN | apply below_drew1 | refine below_set ?_ (below_size HB.out)) | exact HB.out)⟩

set_option maxHeartbeats 8000000 in
set_option maxRecDepth 100000 in
theorem bad3 (p : PL) (hp : p.sl.length = 64) (s a b c x y : Int) (h0 : 0 ≤ s) (h1 : s < 64)  (w0 : World) : Calls Try.prog 34 #[.agg (pcs p), .agg #[.int .i64 3, .int .i64 s, .int .i64 a, .int .i64 b, .int .i64 c, .int .u64 x, .int .u64 y]] w0 fun e w' => e = .returned (.bool ((rd_T25 p.sl s).f0 != 2)) ∧ Below w0.heap.size w0 w' := by
  have hu25 := Try.underlying25
  have hu33 := pool33
  have hu26 := slots26
  have hu49 := Try.underlying49
  have HP := Aside0.mk hp
  have h1' := eq_true h1
  have h0' := eq_true h0
  have H01 := Aside0.mk (And.intro h0 h1)
  clear hp h0 h1
  go_enter Try.func34, Try.ntmps34
  go_upto_region 1 with (first | ((with_reducible refine gate_dst (N := 2) rfl ?_); refine pl_box rfl rfl rfl ?_; intro g hg w hbox hb; have HBX := Aside0.mk hbox; have HB0 := Aside0.mk hb; clear hbox hb hg) | ((with_reducible refine gate_dst (N := 3) rfl ?_); refine any_box rfl rfl rfl ?_; intro q hq w1 hqb hb1; have HQX := Aside0.mk hqb; have HB1 := Aside0.mk hb1; have hbg := HBX.out.below hb1; clear hqb hb1 hq))
  have HB := Aside0.mk (below_step HB0.out HB1.out)
  have hsl := slots_C hbg (pcs_slots p HP.out)
  obtain ⟨ad, e1, hx0, hx1, hx2, hx3, hx4⟩ := at_T25 hsl s H01.out.1 (by rw [HP.out]; exact H01.out.2)
  cases e1
  simp only [add_in] at hx0 hx1 hx2 hx3 hx4
  have HBG := Aside0.mk hbg
  clear hbg hsl
  have he0 : w1.cell? ⟨q, 0, none⟩ = some (.int .i64 3) := (blk_cell HQX.out 0).trans rfl
  have he1 : w1.cell? ⟨q, 1, none⟩ = some (.int .i64 s) := (blk_cell HQX.out 1).trans rfl
  have he2 : w1.cell? ⟨q, 2, none⟩ = some (.int .i64 a) := (blk_cell HQX.out 2).trans rfl
  have he3 : w1.cell? ⟨q, 3, none⟩ = some (.int .i64 b) := (blk_cell HQX.out 3).trans rfl
  go_upto_region 2 with fail
  clear hu33 hu26 hx0 hx1 hx2 hx3 hx4 h0' h1'
  go_wp2_with fail
  go_ret
  exact ⟨by rfl, by repeat (first | (with_reducible first | exact HB.out | apply below_alloc | apply pw_below_drewN | apply below_drew1 | refine below_set ?_ (below_size HB.out)) | exact HB.out)⟩

set_option maxHeartbeats 8000000 in
set_option maxRecDepth 100000 in
theorem bad5 (p : PL) (hp : p.sl.length = 64) (s a b c x y : Int) (h0 : 0 ≤ s) (h1 : s < 64)  (w0 : World) : Calls Try.prog 34 #[.agg (pcs p), .agg #[.int .i64 5, .int .i64 s, .int .i64 a, .int .i64 b, .int .i64 c, .int .u64 x, .int .u64 y]] w0 fun e w' => e = .returned (.bool ((rd_T25 p.sl s).f0 != 4)) ∧ Below w0.heap.size w0 w' := by
  have hu25 := Try.underlying25
  have hu33 := pool33
  have hu26 := slots26
  have hu49 := Try.underlying49
  have HP := Aside0.mk hp
  have h1' := eq_true h1
  have h0' := eq_true h0
  have H01 := Aside0.mk (And.intro h0 h1)
  clear hp h0 h1
  go_enter Try.func34, Try.ntmps34
  go_upto_region 1 with (first | ((with_reducible refine gate_dst (N := 2) rfl ?_); refine pl_box rfl rfl rfl ?_; intro g hg w hbox hb; have HBX := Aside0.mk hbox; have HB0 := Aside0.mk hb; clear hbox hb hg) | ((with_reducible refine gate_dst (N := 3) rfl ?_); refine any_box rfl rfl rfl ?_; intro q hq w1 hqb hb1; have HQX := Aside0.mk hqb; have HB1 := Aside0.mk hb1; have hbg := HBX.out.below hb1; clear hqb hb1 hq))
  have HB := Aside0.mk (below_step HB0.out HB1.out)
  have hsl := slots_C hbg (pcs_slots p HP.out)
  obtain ⟨ad, e1, hx0, hx1, hx2, hx3, hx4⟩ := at_T25 hsl s H01.out.1 (by rw [HP.out]; exact H01.out.2)
  cases e1
  simp only [add_in] at hx0 hx1 hx2 hx3 hx4
  have HBG := Aside0.mk hbg
  clear hbg hsl
  have he0 : w1.cell? ⟨q, 0, none⟩ = some (.int .i64 5) := (blk_cell HQX.out 0).trans rfl
  have he1 : w1.cell? ⟨q, 1, none⟩ = some (.int .i64 s) := (blk_cell HQX.out 1).trans rfl
  have he2 : w1.cell? ⟨q, 2, none⟩ = some (.int .i64 a) := (blk_cell HQX.out 2).trans rfl
  have he3 : w1.cell? ⟨q, 3, none⟩ = some (.int .i64 b) := (blk_cell HQX.out 3).trans rfl
  go_upto_region 2 with fail
  clear hu33 hu26 hx0 hx1 hx2 hx3 hx4 h0' h1'
  go_wp2_with fail
  go_ret
  exact ⟨by rfl, by repeat (first | (with_reducible first | exact HB.out | apply below_alloc | apply pw_below_drewN | apply below_drew1 | refine below_set ?_ (below_size HB.out)) | exact HB.out)⟩

set_option maxHeartbeats 8000000 in
set_option maxRecDepth 100000 in
theorem bad6 (p : PL) (hp : p.sl.length = 64) (s a b c x y : Int) (h0 : 0 ≤ s) (h1 : s < 64)  (w0 : World) : Calls Try.prog 34 #[.agg (pcs p), .agg #[.int .i64 6, .int .i64 s, .int .i64 a, .int .i64 b, .int .i64 c, .int .u64 x, .int .u64 y]] w0 fun e w' => e = .returned (.bool (false)) ∧ Below w0.heap.size w0 w' := by
  have hu25 := Try.underlying25
  have hu33 := pool33
  have hu26 := slots26
  have hu49 := Try.underlying49
  have HP := Aside0.mk hp
  have h1' := eq_true h1
  have h0' := eq_true h0
  have H01 := Aside0.mk (And.intro h0 h1)
  clear hp h0 h1
  go_enter Try.func34, Try.ntmps34
  go_upto_region 1 with (first | ((with_reducible refine gate_dst (N := 2) rfl ?_); refine pl_box rfl rfl rfl ?_; intro g hg w hbox hb; have HBX := Aside0.mk hbox; have HB0 := Aside0.mk hb; clear hbox hb hg) | ((with_reducible refine gate_dst (N := 3) rfl ?_); refine any_box rfl rfl rfl ?_; intro q hq w1 hqb hb1; have HQX := Aside0.mk hqb; have HB1 := Aside0.mk hb1; have hbg := HBX.out.below hb1; clear hqb hb1 hq))
  have HB := Aside0.mk (below_step HB0.out HB1.out)
  have hsl := slots_C hbg (pcs_slots p HP.out)
  obtain ⟨ad, e1, hx0, hx1, hx2, hx3, hx4⟩ := at_T25 hsl s H01.out.1 (by rw [HP.out]; exact H01.out.2)
  cases e1
  simp only [add_in] at hx0 hx1 hx2 hx3 hx4
  have HBG := Aside0.mk hbg
  clear hbg hsl
  have he0 : w1.cell? ⟨q, 0, none⟩ = some (.int .i64 6) := (blk_cell HQX.out 0).trans rfl
  have he1 : w1.cell? ⟨q, 1, none⟩ = some (.int .i64 s) := (blk_cell HQX.out 1).trans rfl
  have he2 : w1.cell? ⟨q, 2, none⟩ = some (.int .i64 a) := (blk_cell HQX.out 2).trans rfl
  have he3 : w1.cell? ⟨q, 3, none⟩ = some (.int .i64 b) := (blk_cell HQX.out 3).trans rfl
  go_upto_region 2 with fail
  clear hu33 hu26 hx0 hx1 hx2 hx3 hx4 h0' h1'
  go_wp2_with fail
  go_ret
  exact ⟨by rfl, by repeat (first | (with_reducible first | exact HB.out | apply below_alloc | apply pw_below_drewN | apply below_drew1 | refine below_set ?_ (below_size HB.out)) | exact HB.out)⟩

theorem bad_calls (p : PL) (hp : p.sl.length = 64) (k s a b c x y : Int) (hk : 1 ≤ k ∧ k ≤ 6) (h0 : 0 ≤ s) (h1 : s < 64) (w0 : World) : Calls Try.prog 34 #[.agg (pcs p), .agg #[.int .i64 k, .int .i64 s, .int .i64 a, .int .i64 b, .int .i64 c, .int .u64 x, .int .u64 y]] w0 fun e w' => e = .returned (.bool (badP p k s a b)) ∧ Below w0.heap.size w0 w' := by
  have hk' : k = 1 ∨ k = 2 ∨ k = 3 ∨ k = 4 ∨ k = 5 ∨ k = 6 := by omega
  have nt : ∀ x y : Int, x ≠ y → (x != y) = true := fun x y h => bne_iff_ne.2 h
  rcases hk' with rfl | rfl | rfl | rfl | rfl | rfl
  · by_cases hst : (rd_T25 p.sl s).f0 = 0
    · rw [show badP p 1 s a b = heldP p a b from by simp [badP, hst]]; exact bad1t p hp s a b c x y h0 h1 hst w0
    · rw [show badP p 1 s a b = true from by simp [badP, hst]]; exact bad1f p hp s a b c x y h0 h1 hst w0
  · by_cases hst : (rd_T25 p.sl s).f0 = 1
    · rw [show badP p 2 s a b = false from by simp [badP, hst]]; exact bad2t p hp s a b c x y h0 h1 hst w0
    · rw [show badP p 2 s a b = ((rd_T25 p.sl s).f0 != 3) from by simp [badP, nt _ _ hst]]; exact bad2f p hp s a b c x y h0 h1 hst w0
  · exact bad3 p hp s a b c x y h0 h1 w0
  · by_cases hst : (rd_T25 p.sl s).f0 = 1
    · rw [show badP p 4 s a b = false from by simp [badP, hst]]; exact bad4t p hp s a b c x y h0 h1 hst w0
    · rw [show badP p 4 s a b = ((rd_T25 p.sl s).f0 != 3) from by simp [badP, nt _ _ hst]]; exact bad4f p hp s a b c x y h0 h1 hst w0
  · exact bad5 p hp s a b c x y h0 h1 w0
  · exact bad6 p hp s a b c x y h0 h1 w0
end Go.Proofs.Ytnffajpnffibaaa.Own
namespace Go.Proofs.Ytnffajpnffibaaa.Own
open Go Go.RowKit Go.Proofs.YtnffajpnffibaaaW.PrintWords Go.Proofs.YtnffajpnffibaaaW.PrintMore Go.Proofs.YtnffajpnffibaaaW.PrintLast Go.Proofs.Ytnffajpnffibaaa.Q
set_option linter.unusedVariables false
set_option linter.unusedSimpArgs false

/-- The pool's block, the entry's, the answer's. -/
structure AS (w0 : World) (g q r : Nat) (P E R : Array Value) (w : World) : Prop where
  hg : Blk w g 33 P
  hq : Blk w q 49 E
  hr : Blk w r 33 R
  below : Below w0.heap.size w0 w
  ge : w0.heap.size ≤ g ∧ w0.heap.size ≤ q ∧ w0.heap.size ≤ r
  ne : g < q ∧ q < r
theorem AS.by_below {w0 : World} {g q r : Nat} {P E R : Array Value} {w w' : World} (h : AS w0 g q r P E R w) (hb : Below w.heap.size w w') : AS w0 g q r P E R w' :=
  ⟨h.hg.below hb, h.hq.below hb, h.hr.below hb, below_step h.below hb, h.ge, h.ne⟩
theorem AS.stG {w0 : World} {g q r : Nat} {P E R P' : Array Value} {w w' : World} (h : AS w0 g q r P E R w) (hb : Blk w' g 33 P') (hg : w.grownBy w' (some g)) : AS w0 g q r P' E R w' :=
  ⟨hb, h.hq.grown hg (fun e => by injection e with e; have := h.ne; omega), h.hr.grown hg (fun e => by injection e with e; have := h.ne; omega), h.below.grown hg (below_size h.below) (fun k hk => by injection hk with hk; subst hk; exact h.ge.1), h.ge, h.ne⟩
theorem AS.stR {w0 : World} {g q r : Nat} {P E R R' : Array Value} {w w' : World} (h : AS w0 g q r P E R w) (hb : Blk w' r 33 R') (hg : w.grownBy w' (some r)) : AS w0 g q r P E R' w' :=
  ⟨h.hg.grown hg (fun e => by injection e with e; have := h.ne; omega), h.hq.grown hg (fun e => by injection e with e; have := h.ne; omega), hb, h.below.grown hg (below_size h.below) (fun k hk => by injection hk with hk; subst hk; exact h.ge.2.2), h.ge, h.ne⟩
theorem AS.stS {w0 : World} {g q r s : Nat} {P E R : Array Value} {w w' : World} (h : AS w0 g q r P E R w) (hs : r < s) (hg : w.grownBy w' (some s)) : AS w0 g q r P E R w' :=
  ⟨h.hg.grown hg (fun e => by injection e with e; have := h.ne; omega), h.hq.grown hg (fun e => by injection e with e; have := h.ne; omega), h.hr.grown hg (fun e => by injection e with e; omega), h.below.grown hg (below_size h.below) (fun k hk => by injection hk with hk; subst hk; have := h.ge; omega), h.ge, h.ne⟩

/-! Parts of a block stored -/
section
variable {ops : Array Oper} {rest : List Oper} {o : Oper} {a : Act} {Q : Exit → Act → World → Prop} {W : World}
theorem run_st3 (ev : Operand → Value) (o : Oper) (w : World) (g t i : Nat) (cs : Array Value) (x y : Operand) (v : Int) (ho : o.op = .store 3 x y) (hx : ev x = .pointer (some ⟨g, i, none⟩)) (hy : ev y = .int .i64 v) (hb : Blk w g t cs) (hi : i < cs.size) :
    (execOp ev o).run Try.prog w = .ok .skip (w.setCell ⟨g, i, none⟩ (.int .i64 v)) := by
  have hc : w.cell? ⟨g, i, none⟩ = some cs[i] := by rw [blk_cell hb, Array.getElem?_eq_getElem hi]
  have hf : w.frozen? ⟨g, i, none⟩ = false := blk_frozen hb i
  cases o with
  | mk dst op ty pos after guard =>
    obtain rfl : op = _ := ho
    unfold execOp
    simp only [hx, hy]
    go_simp
theorem st3_event (hN : o.dst = none) (hgd : o.guard = none) (x y : Operand) (ho : o.op = .store 3 x y) {g t i : Nat} {cs : Array Value} {v : Int} (hx : a.eval x = .pointer (some ⟨g, i, none⟩)) (hy : a.eval y = .int .i64 v) (hb : Blk W g t cs) (hi : i < cs.size)
    (h : ∀ w', Blk w' g t (cs.setIfInBounds i (.int .i64 v)) → W.grownBy w' (some g) → wpList Try.prog ops Q rest a w') : wpList Try.prog ops Q (o :: rest) a W := by
  refine wpList_plain hgd fun K hK => ?_
  unfold Oper.wp
  rw [run_st3 _ _ _ g t i cs x y v ho hx hy hb hi]
  show K (a.put o.dst undef) _
  rw [hN]
  exact hK _ _ (h _ (blk_set hb i _) (grown_set _ _ _ _))
theorem stm_event (hN : o.dst = none) (hgd : o.guard = none) (ty : Nat) (x y : Operand) (ho : o.op = .store ty x y) {g t i : Nat} {cs cells : Array Value} (hx : a.eval x = .pointer (some ⟨g, i, none⟩)) (hy : a.eval y = .agg cells) (hb : Blk W g t cs) (hi : i + cells.size ≤ cs.size)
    (hs : (Try.prog.info? ty).map (·.size) = some cells.size) (h1 : cells.all (·.oneCell') = true)
    (h : ∀ w', Blk w' g t (setMany cs i cells.toList) → W.grownBy w' (some g) → wpList Try.prog ops Q rest a w') : wpList Try.prog ops Q (o :: rest) a W :=
  wpList_store_mid hgd ty x y ho g i cells hx hy (hb.there i _ hi) hs h1 (by
    have hp : a.put o.dst undef = a := by rw [hN]; rfl
    rw [hp]
    exact h _ (setCells_blk _ _ hb) (setCells_grown _ _ _ _))
end

/-! What Apply answers -/
def nextSlot (p : PL) (k s a b c : Int) : S25 :=
  if k = 1 then ⟨1, a, b, c, 0⟩
  else if k = 2 then { (rd_T25 p.sl s) with f0 := 2 }
  else if k = 3 then { (rd_T25 p.sl s) with f0 := 3 }
  else if k = 4 then { (rd_T25 p.sl s) with f0 := 4, f4 := p.ep }
  else if k = 5 then z25
  else rd_T25 p.sl s
def nextPool (p : PL) (k s a b c x y : Int) : PL :=
  if k = 6 then ⟨wrap64 (p.ver + 1), p.addr, p.port, p.sl.set s.toNat (nextSlot p k s a b c), wrap64 (p.ep + 1), p.k3, p.k4, p.k5, p.k6, x, y⟩
  else { p with ver := wrap64 (p.ver + 1), sl := p.sl.set s.toNat (nextSlot p k s a b c) }
def applyP (p : PL) (k s a b c x y : Int) : PL × Int :=
  if outB s 0 63 = true then (zeroP, 11)
  else if badP p k s a b = true then (zeroP, 12)
  else if k = 5 ∧ p.ep < wrap64 ((rd_T25 p.sl s).f4 + 3) then (zeroP, 13)
  else (nextPool p k s a b c x y, 0)
theorem zeroP_len : zeroP.sl.length = 64 := by simp [zeroP]
theorem nextPool_len (p : PL) (k s a b c x y : Int) : (nextPool p k s a b c x y).sl.length = p.sl.length := by
  unfold nextPool
  split <;> simp
theorem applyP_len (p : PL) (k s a b c x y : Int) (h : p.sl.length = 64) : (applyP p k s a b c x y).1.sl.length = 64 := by
  unfold applyP
  split
  · exact zeroP_len
  · split
    · exact zeroP_len
    · split
      · exact zeroP_len
      · rw [nextPool_len]; exact h
theorem pcs_ver (p : PL) (v : Int) : (pcs p).setIfInBounds 0 (.int .i64 v) = pcs { p with ver := v } := by
  apply Array.toList_inj.1
  simp [pcs, pcells, rcells]
theorem flat_set (l : List S25) : ∀ (i : Nat) (s : S25), i < l.length → flat (l.set i s) = setAt (flat l) (5 * i) (sv s) := by
  induction l with
  | nil => intro i s h; simp at h
  | cons t l ih =>
    intro i s h
    cases i with
    | zero => rfl
    | succ i =>
      have h' : i < l.length := by simpa using h
      have e := ih i s h'
      show sv t ++ flat (l.set i s) = _
      rw [e]
      show _ = setAt (sv t ++ flat l) (5 * (i + 1)) (sv s)
      unfold setAt
      have h5 : (sv t).length = 5 := rfl
      rw [show 5 * (i + 1) = (sv t).length + 5 * i from by rw [h5]; omega, List.take_length_add_append, show (sv t).length + 5 * i + (sv s).length = (sv t).length + (5 * i + (sv s).length) from by omega, List.drop_length_add_append, List.append_assoc]
theorem pcs_slot (p : PL) (h : p.sl.length = 64) (i : Nat) (hi : i < 64) (s : S25) : setMany (pcs p) (3 + i * 5) (sv s) = pcs { p with sl := p.sl.set i s } := by
  have h5 : (sv s).length = 5 := rfl
  rw [setMany_eq _ _ _ (by rw [pcs_size p h, h5]; omega)]
  show (setAt (pcells p) _ _).toArray = (pcells _).toArray
  congr 1
  show setAt (.int .i64 p.ver :: .int .i64 p.addr :: .int .i64 p.port :: (flat p.sl ++ rcells p)) _ _ = .int .i64 p.ver :: .int .i64 p.addr :: .int .i64 p.port :: (flat (p.sl.set i s) ++ rcells p)
  rw [flat_set _ _ _ (by omega)]
  unfold setAt
  rw [show 3 + i * 5 = 5 * i + 1 + 1 + 1 from by omega, show 5 * i + 1 + 1 + 1 + (sv s).length = 5 * i + (sv s).length + 1 + 1 + 1 from by omega]
  simp only [List.take_succ_cons, List.drop_succ_cons, List.cons_append, List.nil_append]
  have hl : (flat p.sl).length = 320 := by rw [flat_length, h]
  rw [List.take_append_of_le_length (by omega), List.drop_append_of_le_length (by rw [h5]; omega)]
  simp only [List.append_assoc]
theorem pcs_rg (p : PL) (h : p.sl.length = 64) (e a b c d f g : Int) : setMany (pcs p) 323 [.int .i64 e, .int .u64 a, .int .u64 b, .int .u64 c, .int .u64 d, .int .u64 f, .int .u64 g] = pcs { p with ep := e, k1 := a, k2 := b, k3 := c, k4 := d, k5 := f, k6 := g } := by
  rw [setMany_eq _ _ _ (by rw [pcs_size p h]; simp)]
  show (setAt (pcells p) _ _).toArray = (pcells _).toArray
  congr 1
  show setAt (.int .i64 p.ver :: .int .i64 p.addr :: .int .i64 p.port :: (flat p.sl ++ rcells p)) _ _ = .int .i64 p.ver :: .int .i64 p.addr :: .int .i64 p.port :: (flat p.sl ++ rcells { p with ep := e, k1 := a, k2 := b, k3 := c, k4 := d, k5 := f, k6 := g })
  have hl : (flat p.sl).length = 320 := by rw [flat_length, h]
  unfold setAt
  rw [show 323 = 320 + 1 + 1 + 1 from rfl]
  simp only [List.take_succ_cons, List.cons_append, List.nil_append]
  rw [show 320 + 1 + 1 + 1 + ([Value.int .i64 e, .int .u64 a, .int .u64 b, .int .u64 c, .int .u64 d, .int .u64 f, .int .u64 g] : List Value).length = 327 + 1 + 1 + 1 from rfl]
  simp only [List.drop_succ_cons]
  rw [List.take_append_of_le_length (by omega), List.take_of_length_le (by omega), List.drop_eq_nil_of_le (by simp [rcells, hl])]
  rfl
end Go.Proofs.Ytnffajpnffibaaa.Own
