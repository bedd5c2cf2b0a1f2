/-
  Pools as values, and as variables in memory: made, loaded, stored, whole or in part.
-/
import Derived.Test.YtkpfojpmigchlaaWheC
namespace Go.Proofs.Ytkpfojpmigchlaa.Own
open Go Go.RowKit Go.Proofs.YtkpfojpmigchlaaW.PrintWords Go.Proofs.YtkpfojpmigchlaaW.PrintMore Go.Proofs.YtkpfojpmigchlaaW.PrintLast Go.Proofs.Ytkpfojpmigchlaa.Q
set_option linter.unusedVariables false
set_option linter.unusedSimpArgs false

/-- A pool. -/
structure PL where
  ver : Int
  addr : Int
  port : Int
  sl : List S25
  ep : Int
  k1 : Int
  k2 : Int
  k3 : Int
  k4 : Int
  k5 : Int
  k6 : Int

def rcells (p : PL) : List Value := [.int .i64 p.ep, .int .u64 p.k1, .int .u64 p.k2, .int .u64 p.k3, .int .u64 p.k4, .int .u64 p.k5, .int .u64 p.k6]
def pcells (p : PL) : List Value := .int .i64 p.ver :: .int .i64 p.addr :: .int .i64 p.port :: (flat p.sl ++ rcells p)
def pcs (p : PL) : Array Value := (pcells p).toArray
/-- A block of cells of a type. -/
def Blk (w : World) (g t : Nat) (cs : Array Value) : Prop := w.heap[g]? = some (.cells cs t (0, 0))
theorem Blk.below {w w1 : World} {g t : Nat} {cs : Array Value} (h : Blk w g t cs) (hb : Below w.heap.size w w1) : Blk w1 g t cs := blk_below h hb
theorem Blk.grown {w w1 : World} {g t : Nat} {cs : Array Value} {row : Option Nat} (h : Blk w g t cs) (hg : w.grownBy w1 row) (hne : some g ≠ row) : Blk w1 g t cs := blk_grown h hg hne
theorem Blk.lt {w : World} {g t : Nat} {cs : Array Value} (h : Blk w g t cs) : g < w.heap.size := blk_lt h

theorem pcells_length (p : PL) (h : p.sl.length = 64) : (pcells p).length = 330 := by
  simp only [pcells, rcells, List.length_cons, List.length_append, flat_length, List.length_nil, h]
theorem pcs_size (p : PL) (h : p.sl.length = 64) : (pcs p).size = 330 := by simp [pcs, pcells_length p h]
theorem flat_one (l : List S25) : ∀ v ∈ flat l, v.oneCell' = true := by
  intro v hv
  unfold flat at hv
  rw [List.mem_flatMap] at hv
  obtain ⟨s, _, hs⟩ := hv
  simp only [sv, List.mem_cons, List.not_mem_nil, or_false] at hs
  rcases hs with rfl | rfl | rfl | rfl | rfl <;> rfl
theorem pcells_one (p : PL) : ∀ v ∈ pcells p, v.oneCell' = true := by
  intro v hv
  simp only [pcells, List.mem_cons, List.mem_append, rcells, List.not_mem_nil, or_false] at hv
  rcases hv with rfl | rfl | rfl | hv | rfl | rfl | rfl | rfl | rfl | rfl | rfl <;> first | rfl | exact flat_one _ v hv
theorem pcs_one (p : PL) : (pcs p).all (·.oneCell') = true := all_oneCell_toArray (pcells_one p)

theorem pcs_slots (p : PL) (h : p.sl.length = 64) : IsSlots (pcs p) p.sl := by
  refine ⟨pcs_size p h, h, fun i s hi j u hj => ?_⟩
  have hil := (List.getElem?_eq_some_iff.1 hi).1
  have hj5 : j < 5 := (List.getElem?_eq_some_iff.1 hj).1
  have hs := flat_take p.sl i s hi
  rw [← hs, List.getElem?_take, if_pos hj5, List.getElem?_drop] at hj
  have hlt := (List.getElem?_eq_some_iff.1 hj).1
  show (pcells p).toArray[3 + (i * 5 + j)]? = some u
  rw [List.getElem?_toArray, pcells, show 3 + (i * 5 + j) = (i * 5 + j) + 1 + 1 + 1 from by omega, List.getElem?_cons_succ, List.getElem?_cons_succ, List.getElem?_cons_succ, List.getElem?_append_left (by rw [Nat.mul_comm i 5]; exact hlt), Nat.mul_comm i 5]
  exact hj
theorem pcs_ring (p : PL) (h : p.sl.length = 64) (j : Nat) : (pcs p)[323 + j]? = (rcells p)[j]? := by
  show (pcells p).toArray[323 + j]? = _
  rw [List.getElem?_toArray, pcells, show 323 + j = (320 + j) + 1 + 1 + 1 from by omega, List.getElem?_cons_succ, List.getElem?_cons_succ, List.getElem?_cons_succ, List.getElem?_append_right (by rw [flat_length, h]; omega), flat_length, h, show 320 + j - 5 * 64 = j from by omega]

/-! Cells stored from a place on -/
def setAt (cs : List Value) (o : Nat) (vs : List Value) : List Value := cs.take o ++ (vs ++ cs.drop (o + vs.length))
def setMany : Array Value → Nat → List Value → Array Value
  | cs, _, [] => cs
  | cs, o, v :: r => setMany (cs.setIfInBounds o v) (o + 1) r
theorem setMany_eq : ∀ (vs : List Value) (cs : Array Value) (o : Nat), o + vs.length ≤ cs.size → setMany cs o vs = (setAt cs.toList o vs).toArray
  | [], cs, o, h => by simp [setMany, setAt]
  | v :: r, cs, o, h => by
    simp only [List.length_cons] at h
    rw [setMany, setMany_eq r _ _ (by simp; omega)]
    apply Array.toList_inj.1
    simp only [setAt, Array.toList_setIfInBounds]
    have hl : o < cs.toList.length := by simp; omega
    generalize cs.toList = l at hl
    rw [List.take_set, List.drop_set_of_lt (by omega)]
    have h1 : (l.take (o + 1)).set o v = l.take o ++ [v] := by
      rw [List.take_add_one, List.getElem?_eq_getElem hl, List.set_append_right _ _ (by simp; omega)]
      simp [Nat.min_eq_left (Nat.le_of_lt hl)]
    rw [h1]
    simp only [List.length_cons, List.append_assoc, List.cons_append, List.nil_append]
    rw [show o + 1 + r.length = o + (r.length + 1) from by omega]
theorem setCells_blk : ∀ (vs : List Value) (o : Nat) {w : World} {g t : Nat} {cs : Array Value}, Blk w g t cs → Blk (w.setCells g o vs) g t (setMany cs o vs)
  | [], _, _, _, _, _, h => h
  | v :: r, o, w, g, t, cs, h => setCells_blk r (o + 1) (blk_set h o v)
theorem grown_trans {a w w' : World} {row : Option Nat} (h : a.grownBy w row) (k : w.grownBy w' row) : a.grownBy w' row :=
  ⟨k.os.trans h.os, k.tape.trans h.tape, k.output.trans h.output, Nat.le_trans h.size k.size, fun i hi hn => (k.block i (Nat.lt_of_lt_of_le hi h.size) hn).trans (h.block i hi hn)⟩
theorem grown_set (W : World) (g i : Nat) (v : Value) : W.grownBy (W.setCell ⟨g, i, none⟩ v) (some g) :=
  ⟨rfl, rfl, rfl, by simp [World.setCell], fun k _ hk => Below.heap_setCell W ⟨g, i, none⟩ v k (fun e => hk (by rw [e]))⟩
theorem setCells_grown : ∀ (vs : List Value) (o : Nat) (w : World) (g : Nat), w.grownBy (w.setCells g o vs) (some g)
  | [], _, w, g => ⟨rfl, rfl, rfl, Nat.le_refl _, fun _ _ _ => rfl⟩
  | v :: r, o, w, g => grown_trans (grown_set w g o v) (setCells_grown r (o + 1) _ g)
theorem Blk.there {w : World} {g t : Nat} {cs : Array Value} (h : Blk w g t cs) (o n : Nat) (hn : o + n ≤ cs.size) : w.there g o n := fun j hj => by
  refine ⟨?_, blk_frozen h _⟩
  rw [blk_cell h, Array.getElem?_eq_getElem (by omega)]
  rfl
theorem Blk.range {w : World} {g t : Nat} {cs : Array Value} (h : Blk w g t cs) : w.rangeAt g 0 cs.toList := fun j v hj => by
  rw [Nat.zero_add, blk_cell h]
  simpa using hj

/-! A pool's variable -/
def zeroP : PL := ⟨0, 0, 0, List.replicate 64 z25, 0, 0, 0, 0, 0, 0, 0⟩
theorem size33 (p : PL) (h : p.sl.length = 64) : (Try.prog.info? 33).map (·.size) = some (pcs p).size := by rw [pcs_size p h]; kernel_rfl
theorem run33 (ev : Operand → Value) (o : Oper) (w : World) (ho : o.op = .alloc 33) : (execOp ev o).run Try.prog w = .ok (.value (.pointer (some ⟨w.heap.size, 0, none⟩))) (w.alloc (.cells (pcs zeroP) 33 (0, 0))) := by
  cases o with
  | mk dst op ty pos after guard =>
    obtain rfl : op = _ := ho
    kernel_rfl
theorem run_ld33 (ev : Operand → Value) (o : Oper) (w : World) (g : Nat) (p : PL) (x : Operand) (ho : o.op = .load 33 x) (hx : ev x = .pointer (some ⟨g, 0, none⟩)) (hb : Blk w g 33 (pcs p)) (hp : p.sl.length = 64) :
    (execOp ev o).run Try.prog w = .ok (.value (.agg (pcs p))) w := by
  have hr := run_loadVar_mid (P := Try.prog) w g 0 33 (pcells p) _ (by simpa [pcs] using hb.range) pool33 rfl (by rw [pcells_length p hp]; kernel_rfl)
  unfold execOp
  simp only [ho, hx, Instr.loadAt, Instr.sureAddr, Sem.run_bind, Sem.run_pure, Result.andThen_ok, hr]
  rfl
theorem run_st33 (ev : Operand → Value) (o : Oper) (w : World) (g : Nat) (old : Array Value) (p : PL) (x y : Operand) (ho : o.op = .store 33 x y) (hx : ev x = .pointer (some ⟨g, 0, none⟩)) (hy : ev y = .agg (pcs p))
    (hb : Blk w g 33 old) (hs : old.size = 330) (hp : p.sl.length = 64) : (execOp ev o).run Try.prog w = .ok .skip (w.setCells g 0 (pcells p)) := by
  have hr := run_storeVar_mid (P := Try.prog) w g 0 33 (pcs p) (hb.there 0 _ (by rw [pcs_size p hp, hs]; decide)) (size33 p hp) (pcs_one p)
  unfold execOp
  simp only [ho, hx, hy, Instr.storeAt, Instr.sureAddr, Sem.run_bind, Sem.run_pure, Result.andThen_ok, hr]
  rfl
theorem st33_blk {w : World} {g : Nat} {old : Array Value} (p : PL) (hb : Blk w g 33 old) (hs : old.size = 330) (hp : p.sl.length = 64) : Blk (w.setCells g 0 (pcells p)) g 33 (pcs p) := by
  have h := setCells_blk (pcells p) 0 hb
  rw [setMany_eq _ _ _ (by rw [pcells_length p hp, hs]; decide), setAt, List.take_zero, List.nil_append, pcells_length p hp, List.drop_eq_nil_of_le (by simp [hs]), List.append_nil] at h
  exact h

section
variable {ops : Array Oper} {rest : List Oper} {o : Oper} {a : Act} {Q : Exit → Act → World → Prop} {W : World}
theorem pl_alloc {N : Tmp} (hd : o.dst = some N) (hgd : o.guard = none) (ho : o.op = .alloc 33)
    (h : ∀ g, g = W.heap.size → ∀ w1, Blk w1 g 33 (pcs zeroP) → Below W.heap.size W w1 → wpList Try.prog ops Q rest (a.put o.dst (.pointer (some ⟨g, 0, none⟩))) w1) : wpList Try.prog ops Q (o :: rest) a W :=
  box_event hgd hd (run33 _ _ _ ho) h
theorem pl_box (hgd : o.guard = none) {x : Operand} (ho : o.op = .box 33 x) {p : PL} (hx : a.eval x = .agg (pcs p))
    (h : ∀ g, g = W.heap.size → ∀ w1, Blk w1 g 33 (pcs p) → Below W.heap.size W w1 → wpList Try.prog ops Q rest (a.put o.dst (.pointer (some ⟨g, 0, none⟩))) w1) : wpList Try.prog ops Q (o :: rest) a W := by
  have hrun : (execOp a.eval o).run Try.prog W = .ok (.value (.pointer (some ⟨W.heap.size, 0, none⟩))) (W.alloc (.cells (pcs p) 33 (0, 0))) := by
    unfold execOp
    simp only [ho, hx]
    rfl
  exact Kd.event_run hgd hrun (h _ rfl _ (blk_new W _) (below_alloc (Below.refl _ _) _))
theorem pl_load {N : Tmp} (hd : o.dst = some N) (hgd : o.guard = none) (x : Operand) (ho : o.op = .load 33 x) {g : Nat} {p : PL} (hx : a.eval x = .pointer (some ⟨g, 0, none⟩)) (hb : Blk W g 33 (pcs p)) (hp : p.sl.length = 64)
    (h : wpList Try.prog ops Q rest (a.put o.dst (.agg (pcs p))) W) : wpList Try.prog ops Q (o :: rest) a W :=
  Kd.event_run hgd (run_ld33 _ _ _ g p x ho hx hb hp) h
theorem pl_store (hN : o.dst = none) (hgd : o.guard = none) (x y : Operand) (ho : o.op = .store 33 x y) {g : Nat} {old : Array Value} {p : PL} (hx : a.eval x = .pointer (some ⟨g, 0, none⟩)) (hy : a.eval y = .agg (pcs p)) (hb : Blk W g 33 old) (hs : old.size = 330) (hp : p.sl.length = 64)
    (h : ∀ w', Blk w' g 33 (pcs p) → W.grownBy w' (some g) → wpList Try.prog ops Q rest a w') : wpList Try.prog ops Q (o :: rest) a W := by
  refine wpList_plain hgd fun K hK => ?_
  unfold Oper.wp
  rw [run_st33 _ _ _ g old p x y ho hx hy hb hs hp]
  show K (a.put o.dst undef) _
  rw [hN]
  exact hK _ _ (h _ (st33_blk p hb hs hp) (setCells_grown _ _ _ _))
end
section
variable {o : Oper} {a : Act} {K : Act → World → Prop} {Q : Exit → Act → World → Prop} {W : World}
theorem wp_ld33 {x : Operand} (ho : o.op = .load 33 x) {g : Nat} {p : PL} (hx : a.eval x = .pointer (some ⟨g, 0, none⟩)) (hb : Blk W g 33 (pcs p)) (hp : p.sl.length = 64)
    (h : K (a.put o.dst (.agg (pcs p))) W) : o.wp Try.prog a W K Q := by
  unfold Oper.wp
  rw [run_ld33 _ _ _ g p x ho hx hb hp]
  exact h
end
end Go.Proofs.Ytkpfojpmigchlaa.Own
