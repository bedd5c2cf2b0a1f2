/-
  The blocks that roundhouseref6.Apply has in memory; what it answers.
-/
import Derived.Test.YtkpfojpmigchlaaWheI
import Derived.Test.YtkpfojpmigchlaaQP
namespace Go.Proofs.Ytkpfojpmigchlaa.Own
open Go Go.RowKit Go.Proofs.YtkpfojpmigchlaaW.PrintWords Go.Proofs.YtkpfojpmigchlaaW.PrintMore Go.Proofs.YtkpfojpmigchlaaW.PrintLast Go.Proofs.Ytkpfojpmigchlaa.Q
set_option linter.unusedVariables false
set_option linter.unusedSimpArgs false

/-- The pool's block, the entry's, the answer's. -/
structure AS (w0 : World) (g q r : Nat) (P E R : Array Value) (w : World) : Prop where
  hg : Blk w g 33 P
  hq : Blk w q 69 E
  hr : Blk w r 33 R
  below : Below w0.heap.size w0 w
  ge : w0.heap.size ≤ g ∧ w0.heap.size ≤ q ∧ w0.heap.size ≤ r
  ne : g < q ∧ q < r
theorem AS.by_below {w0 : World} {g q r : Nat} {P E R : Array Value} {w w' : World} (h : AS w0 g q r P E R w) (hb : Below w.heap.size w w') : AS w0 g q r P E R w' :=
  ⟨h.hg.below hb, h.hq.below hb, h.hr.below hb, below_step h.below hb, h.ge, h.ne⟩
theorem AS.stG {w0 : World} {g q r : Nat} {P E R P' : Array Value} {w w' : World} (h : AS w0 g q r P E R w) (hb : Blk w' g 33 P') (hg : w.grownBy w' (some g)) : AS w0 g q r P' E R w' :=
  ⟨hb, h.hq.grown hg (fun e => by injection e with e; have := h.ne; omega), h.hr.grown hg (fun e => by injection e with e; have := h.ne; omega), h.below.grown hg (below_size h.below) (fun k hk => by injection hk with hk; subst hk; exact h.ge.1), h.ge, h.ne⟩
theorem AS.stR {w0 : World} {g q r : Nat} {P E R R' : Array Value} {w w' : World} (h : AS w0 g q r P E R w) (hb : Blk w' r 33 R') (hg : w.grownBy w' (some r)) : AS w0 g q r P E R' w' :=
  ⟨h.hg.grown hg (fun e => by injection e with e; have := h.ne; omega), h.hq.grown hg (fun e => by injection e with e; have := h.ne; omega), hb, h.below.grown hg (below_size h.below) (fun k hk => by injection hk with hk; subst hk; exact h.ge.2.2), h.ge, h.ne⟩
theorem AS.stS {w0 : World} {g q r s : Nat} {P E R : Array Value} {w w' : World} (h : AS w0 g q r P E R w) (hs : r < s) (hg : w.grownBy w' (some s)) : AS w0 g q r P E R w' :=
  ⟨h.hg.grown hg (fun e => by injection e with e; have := h.ne; omega), h.hq.grown hg (fun e => by injection e with e; have := h.ne; omega), h.hr.grown hg (fun e => by injection e with e; omega), h.below.grown hg (below_size h.below) (fun k hk => by injection hk with hk; subst hk; have := h.ge; omega), h.ge, h.ne⟩

/-! Parts of a block stored -/
section
variable {ops : Array Oper} {rest : List Oper} {o : Oper} {a : Act} {Q : Exit → Act → World → Prop} {W : World}
theorem run_st3 (ev : Operand → Value) (o : Oper) (w : World) (g t i : Nat) (cs : Array Value) (x y : Operand) (v : Int) (ho : o.op = .store 3 x y) (hx : ev x = .pointer (some ⟨g, i, none⟩)) (hy : ev y = .int .i64 v) (hb : Blk w g t cs) (hi : i < cs.size) :
    (execOp ev o).run Try.prog w = .ok .skip (w.setCell ⟨g, i, none⟩ (.int .i64 v)) := by
  have hc : w.cell? ⟨g, i, none⟩ = some cs[i] := by rw [blk_cell hb, Array.getElem?_eq_getElem hi]
  have hf : w.frozen? ⟨g, i, none⟩ = false := blk_frozen hb i
  cases o with
  | mk dst op ty pos after guard =>
    obtain rfl : op = _ := ho
    unfold execOp
    simp only [hx, hy]
    go_simp
theorem st3_event (hN : o.dst = none) (hgd : o.guard = none) (x y : Operand) (ho : o.op = .store 3 x y) {g t i : Nat} {cs : Array Value} {v : Int} (hx : a.eval x = .pointer (some ⟨g, i, none⟩)) (hy : a.eval y = .int .i64 v) (hb : Blk W g t cs) (hi : i < cs.size)
    (h : ∀ w', Blk w' g t (cs.setIfInBounds i (.int .i64 v)) → W.grownBy w' (some g) → wpList Try.prog ops Q rest a w') : wpList Try.prog ops Q (o :: rest) a W := by
  refine wpList_plain hgd fun K hK => ?_
  unfold Oper.wp
  rw [run_st3 _ _ _ g t i cs x y v ho hx hy hb hi]
  show K (a.put o.dst undef) _
  rw [hN]
  exact hK _ _ (h _ (blk_set hb i _) (grown_set _ _ _ _))
theorem stm_event (hN : o.dst = none) (hgd : o.guard = none) (ty : Nat) (x y : Operand) (ho : o.op = .store ty x y) {g t i : Nat} {cs cells : Array Value} (hx : a.eval x = .pointer (some ⟨g, i, none⟩)) (hy : a.eval y = .agg cells) (hb : Blk W g t cs) (hi : i + cells.size ≤ cs.size)
    (hs : (Try.prog.info? ty).map (·.size) = some cells.size) (h1 : cells.all (·.oneCell') = true)
    (h : ∀ w', Blk w' g t (setMany cs i cells.toList) → W.grownBy w' (some g) → wpList Try.prog ops Q rest a w') : wpList Try.prog ops Q (o :: rest) a W :=
  wpList_store_mid hgd ty x y ho g i cells hx hy (hb.there i _ hi) hs h1 (by
    have hp : a.put o.dst undef = a := by rw [hN]; rfl
    rw [hp]
    exact h _ (setCells_blk _ _ hb) (setCells_grown _ _ _ _))
end

/-! What Apply answers -/
def nextSlot (p : PL) (k s a b c : Int) : S25 :=
  if k = 1 then ⟨1, a, b, c, 0⟩
  else if k = 2 then { (rd_T25 p.sl s) with f0 := 2 }
  else if k = 3 then { (rd_T25 p.sl s) with f0 := 3 }
  else if k = 4 then { (rd_T25 p.sl s) with f0 := 4, f4 := p.ep }
  else if k = 5 then z25
  else rd_T25 p.sl s
def nextPool (p : PL) (k s a b c x y : Int) : PL :=
  if k = 6 then ⟨wrap64 (p.ver + 1), p.addr, p.port, p.sl.set s.toNat (nextSlot p k s a b c), wrap64 (p.ep + 1), p.k3, p.k4, p.k5, p.k6, x, y⟩
  else { p with ver := wrap64 (p.ver + 1), sl := p.sl.set s.toNat (nextSlot p k s a b c) }
def applyP (p : PL) (k s a b c x y : Int) : PL × Int :=
  if outB s 0 63 = true then (zeroP, 11)
  else if badP p k s a b = true then (zeroP, 12)
  else if k = 5 ∧ p.ep < wrap64 ((rd_T25 p.sl s).f4 + 3) then (zeroP, 13)
  else (nextPool p k s a b c x y, 0)
theorem zeroP_len : zeroP.sl.length = 64 := by simp [zeroP]
theorem nextPool_len (p : PL) (k s a b c x y : Int) : (nextPool p k s a b c x y).sl.length = p.sl.length := by
  unfold nextPool
  split <;> simp
theorem applyP_len (p : PL) (k s a b c x y : Int) (h : p.sl.length = 64) : (applyP p k s a b c x y).1.sl.length = 64 := by
  unfold applyP
  split
  · exact zeroP_len
  · split
    · exact zeroP_len
    · split
      · exact zeroP_len
      · rw [nextPool_len]; exact h
theorem pcs_ver (p : PL) (v : Int) : (pcs p).setIfInBounds 0 (.int .i64 v) = pcs { p with ver := v } := by
  apply Array.toList_inj.1
  simp [pcs, pcells, rcells]
theorem flat_set (l : List S25) : ∀ (i : Nat) (s : S25), i < l.length → flat (l.set i s) = setAt (flat l) (5 * i) (sv s) := by
  induction l with
  | nil => intro i s h; simp at h
  | cons t l ih =>
    intro i s h
    cases i with
    | zero => rfl
    | succ i =>
      have h' : i < l.length := by simpa using h
      have e := ih i s h'
      show sv t ++ flat (l.set i s) = _
      rw [e]
      show _ = setAt (sv t ++ flat l) (5 * (i + 1)) (sv s)
      unfold setAt
      have h5 : (sv t).length = 5 := rfl
      rw [show 5 * (i + 1) = (sv t).length + 5 * i from by rw [h5]; omega, List.take_length_add_append, show (sv t).length + 5 * i + (sv s).length = (sv t).length + (5 * i + (sv s).length) from by omega, List.drop_length_add_append, List.append_assoc]
theorem pcs_slot (p : PL) (h : p.sl.length = 64) (i : Nat) (hi : i < 64) (s : S25) : setMany (pcs p) (3 + i * 5) (sv s) = pcs { p with sl := p.sl.set i s } := by
  have h5 : (sv s).length = 5 := rfl
  rw [setMany_eq _ _ _ (by rw [pcs_size p h, h5]; omega)]
  show (setAt (pcells p) _ _).toArray = (pcells _).toArray
  congr 1
  show setAt (.int .i64 p.ver :: .int .i64 p.addr :: .int .i64 p.port :: (flat p.sl ++ rcells p)) _ _ = .int .i64 p.ver :: .int .i64 p.addr :: .int .i64 p.port :: (flat (p.sl.set i s) ++ rcells p)
  rw [flat_set _ _ _ (by omega)]
  unfold setAt
  rw [show 3 + i * 5 = 5 * i + 1 + 1 + 1 from by omega, show 5 * i + 1 + 1 + 1 + (sv s).length = 5 * i + (sv s).length + 1 + 1 + 1 from by omega]
  simp only [List.take_succ_cons, List.drop_succ_cons, List.cons_append, List.nil_append]
  have hl : (flat p.sl).length = 320 := by rw [flat_length, h]
  rw [List.take_append_of_le_length (by omega), List.drop_append_of_le_length (by rw [h5]; omega)]
  simp only [List.append_assoc]
theorem pcs_rg (p : PL) (h : p.sl.length = 64) (e a b c d f g : Int) : setMany (pcs p) 323 [.int .i64 e, .int .u64 a, .int .u64 b, .int .u64 c, .int .u64 d, .int .u64 f, .int .u64 g] = pcs { p with ep := e, k1 := a, k2 := b, k3 := c, k4 := d, k5 := f, k6 := g } := by
  rw [setMany_eq _ _ _ (by rw [pcs_size p h]; simp)]
  show (setAt (pcells p) _ _).toArray = (pcells _).toArray
  congr 1
  show setAt (.int .i64 p.ver :: .int .i64 p.addr :: .int .i64 p.port :: (flat p.sl ++ rcells p)) _ _ = .int .i64 p.ver :: .int .i64 p.addr :: .int .i64 p.port :: (flat p.sl ++ rcells { p with ep := e, k1 := a, k2 := b, k3 := c, k4 := d, k5 := f, k6 := g })
  have hl : (flat p.sl).length = 320 := by rw [flat_length, h]
  unfold setAt
  rw [show 323 = 320 + 1 + 1 + 1 from rfl]
  simp only [List.take_succ_cons, List.cons_append, List.nil_append]
  rw [show 320 + 1 + 1 + 1 + ([Value.int .i64 e, .int .u64 a, .int .u64 b, .int .u64 c, .int .u64 d, .int .u64 f, .int .u64 g] : List Value).length = 327 + 1 + 1 + 1 from rfl]
  simp only [List.drop_succ_cons]
  rw [List.take_append_of_le_length (by omega), List.take_of_length_le (by omega), List.drop_eq_nil_of_le (by simp [rcells, hl])]
  rfl
end Go.Proofs.Ytkpfojpmigchlaa.Own
