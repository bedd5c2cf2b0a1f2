/-
  A unit's variable: a pool, whether it is up, its slots' stamps, a wheel. plane.New, (*maybe).lay, (*Plane).Load.
-/
import Derived.Test.YtkpfojpmigchlaaWheJ
import Derived.Test.YtkpfojpmigchlaaTopG
namespace Go.Proofs.Ytkpfojpmigchlaa.Own
open Go Go.RowKit Go.Proofs.YtkpfojpmigchlaaW.PrintWords Go.Proofs.YtkpfojpmigchlaaW.PrintMore Go.Proofs.YtkpfojpmigchlaaW.PrintLast Go.Proofs.Ytkpfojpmigchlaa.Q
set_option linter.unusedVariables false
set_option linter.unusedSimpArgs false

/-- A unit's cells. -/
def PLN (p : PL) (b : Bool) (nr : List Value) (ws : Value) : Array Value := (pcells p ++ (.bool b :: (nr ++ [ws]))).toArray
def nrZ : List Value := (List.replicate 64 [Value.int .u32 0, Value.bool false]).flatten
theorem nrZ_len : nrZ.length = 128 := by kernel_rfl
section
variable {p q : PL} {b b2 : Bool} {nr : List Value} {ws ws2 : Value} {w : World} {g : Nat}
theorem PLN_size (hp : p.sl.length = 64) (hn : nr.length = 128) : (PLN p b nr ws).size = 460 := by simp [PLN, pcells_length p hp, hn]
theorem PLN_low (hp : p.sl.length = 64) (j : Nat) (hj : j < 330) : (PLN p b nr ws)[j]? = (pcs p)[j]? := by
  unfold PLN pcs
  rw [List.getElem?_toArray, List.getElem?_toArray, List.getElem?_append_left (by rw [pcells_length p hp]; exact hj)]
theorem PLN_is (hp : p.sl.length = 64) : (PLN p b nr ws)[330]? = some (.bool b) := by
  unfold PLN
  rw [List.getElem?_toArray, List.getElem?_append_right (by rw [pcells_length p hp]; exact Nat.le_refl _), pcells_length p hp]
  rfl
theorem PLN_ws (hp : p.sl.length = 64) (hn : nr.length = 128) : (PLN p b nr ws)[459]? = some ws := by
  unfold PLN
  rw [List.getElem?_toArray, List.getElem?_append_right (by rw [pcells_length p hp]; decide), pcells_length p hp]
  show (Value.bool b :: (nr ++ [ws]))[128 + 1]? = some ws
  rw [List.getElem?_cons_succ, List.getElem?_append_right (by rw [hn]; exact Nat.le_refl _), hn]
  rfl
theorem PLN_setis (hp : p.sl.length = 64) : (PLN p b nr ws).setIfInBounds 330 (.bool b2) = PLN p b2 nr ws := by
  unfold PLN
  rw [List.setIfInBounds_toArray, List.set_append_right _ _ (by rw [pcells_length p hp]; exact Nat.le_refl _), pcells_length p hp]
  rfl
theorem PLN_setws (hp : p.sl.length = 64) (hn : nr.length = 128) : (PLN p b nr ws).setIfInBounds 459 ws2 = PLN p b nr ws2 := by
  unfold PLN
  rw [List.setIfInBounds_toArray, List.set_append_right _ _ (by rw [pcells_length p hp]; decide), pcells_length p hp]
  show (pcells p ++ (Value.bool b :: (nr ++ [ws])).set (128 + 1) ws2).toArray = _
  rw [List.set_cons_succ, List.set_append_right _ _ (by rw [hn]; exact Nat.le_refl _), hn]
  rfl
theorem PLN_range (hp : p.sl.length = 64) (h : Blk w g 88 (PLN p b nr ws)) : w.rangeAt g 0 (pcells p) := fun j v hj => by
  have hlt : j < 330 := by
    have := (List.getElem?_eq_some_iff.1 hj).1
    rwa [pcells_length p hp] at this
  rw [Nat.zero_add, blk_cell h, PLN_low hp j hlt]
  unfold pcs
  rw [List.getElem?_toArray]
  exact hj
theorem PLN_store (hp : p.sl.length = 64) (hq : q.sl.length = 64) (hn : nr.length = 128) (h : Blk w g 88 (PLN p b nr ws)) : Blk (w.setCells g 0 (pcells q)) g 88 (PLN q b nr ws) := by
  have h2 := setCells_blk (pcells q) 0 h
  rw [setMany_eq _ _ _ (by rw [pcells_length q hq, PLN_size hp hn]; decide), setAt, List.take_zero, List.nil_append, pcells_length q hq] at h2
  have e : (pcells q ++ (PLN p b nr ws).toList.drop (0 + 330)) = pcells q ++ (.bool b :: (nr ++ [ws])) := by
    congr 1
    show (pcells p ++ (Value.bool b :: (nr ++ [ws]))).drop 330 = _
    rw [List.drop_left' (pcells_length p hp)]
  rw [e] at h2
  exact h2
theorem run_ldu (ev : Operand → Value) (o : Oper) (w : World) (g : Nat) (x : Operand) (ho : o.op = .load 33 x) (hx : ev x = .pointer (some ⟨g, 0, none⟩)) (hb : Blk w g 88 (PLN p b nr ws)) (hp : p.sl.length = 64) :
    (execOp ev o).run Try.prog w = .ok (.value (.agg (pcs p))) w := by
  have hr := run_loadVar_mid (P := Try.prog) w g 0 33 (pcells p) _ (PLN_range hp hb) pool33 rfl (by rw [pcells_length p hp]; kernel_rfl)
  unfold execOp
  simp only [ho, hx, Instr.loadAt, Instr.sureAddr, Sem.run_bind, Sem.run_pure, Result.andThen_ok, hr]
  rfl
theorem run_stu (ev : Operand → Value) (o : Oper) (w : World) (g : Nat) (x y : Operand) (ho : o.op = .store 33 x y) (hx : ev x = .pointer (some ⟨g, 0, none⟩)) (hy : ev y = .agg (pcs q))
    (hb : Blk w g 88 (PLN p b nr ws)) (hp : p.sl.length = 64) (hq : q.sl.length = 64) (hn : nr.length = 128) : (execOp ev o).run Try.prog w = .ok .skip (w.setCells g 0 (pcells q)) := by
  have hr := run_storeVar_mid (P := Try.prog) w g 0 33 (pcs q) (hb.there 0 _ (by rw [pcs_size q hq, PLN_size hp hn]; decide)) (size33 q hq) (pcs_one q)
  unfold execOp
  simp only [ho, hx, hy, Instr.storeAt, Instr.sureAddr, Sem.run_bind, Sem.run_pure, Result.andThen_ok, hr]
  rfl
theorem grown_of_below {w w' : World} (h : Below w.heap.size w w') (row : Option Nat) : w.grownBy w' row := ⟨h.os, h.tape, h.output, h.size, fun i hi _ => h.block i hi⟩
end
section
variable {ops : Array Oper} {rest : List Oper} {o : Oper} {a : Act} {Q : Exit → Act → World → Prop} {W : World} {p q : PL} {b : Bool} {nr : List Value} {ws : Value}
theorem un_load {N : Tmp} (hd : o.dst = some N) (hgd : o.guard = none) (x : Operand) (ho : o.op = .load 33 x) {g : Nat} (hx : a.eval x = .pointer (some ⟨g, 0, none⟩)) (hb : Blk W g 88 (PLN p b nr ws)) (hp : p.sl.length = 64)
    (h : wpList Try.prog ops Q rest (a.put o.dst (.agg (pcs p))) W) : wpList Try.prog ops Q (o :: rest) a W :=
  Kd.event_run hgd (run_ldu _ _ _ g x ho hx hb hp) h
theorem un_store (hN : o.dst = none) (hgd : o.guard = none) (x y : Operand) (ho : o.op = .store 33 x y) {g : Nat} (hx : a.eval x = .pointer (some ⟨g, 0, none⟩)) (hy : a.eval y = .agg (pcs q)) (hb : Blk W g 88 (PLN p b nr ws)) (hp : p.sl.length = 64) (hq : q.sl.length = 64) (hn : nr.length = 128)
    (h : ∀ w', Blk w' g 88 (PLN q b nr ws) → W.grownBy w' (some g) → wpList Try.prog ops Q rest a w') : wpList Try.prog ops Q (o :: rest) a W := by
  refine wpList_plain hgd fun K hK => ?_
  unfold Oper.wp
  rw [run_stu _ _ _ g x y ho hx hy hb hp hq hn]
  show K (a.put o.dst undef) _
  rw [hN]
  exact hK _ _ (h _ (PLN_store hp hq hn hb) (setCells_grown _ _ _ _))
theorem un_build {N : Tmp} (hd : o.dst = some N) (hgd : o.guard = none) (ho : o.op = .build 88 #[]) (h : wpList Try.prog ops Q rest (a.put o.dst (.agg (PLN zeroP false nrZ (.slice none 0 0)))) W) : wpList Try.prog ops Q (o :: rest) a W := by
  refine Kd.event_run (w1 := W) (v := .agg (PLN zeroP false nrZ (.slice none 0 0))) hgd ?_ h
  cases o with
  | mk dst op ty pos after guard =>
    obtain rfl : op = _ := ho
    kernel_rfl
end

/-! plane.New -/
set_option maxHeartbeats 4000000 in
set_option maxRecDepth 100000 in
theorem newpl_calls (w : World) : Calls Try.prog 14 #[] w fun e w' => e = .returned (.pointer (some ⟨w.heap.size, 0, none⟩)) ∧ Blk w' w.heap.size 88 (PLN zeroP false nrZ (.slice none 0 0)) ∧ Below w.heap.size w w' := by
  have hsz : zeroP.sl.length = 64 := zeroP_len
  obtain ⟨z, hz⟩ : ∃ z, z = PLN zeroP false nrZ (.slice none 0 0) := ⟨_, rfl⟩
  have HZ := Aside0.mk hz
  rw [← hz]
  clear hz hsz
  go_enter Try.func14, Try.ntmps14
  go_wp2_with (first
    | ((with_reducible refine gate_dst (N := 1) rfl ?_); refine un_build (N := 1) rfl rfl rfl ?_; rw [← HZ.out])
    | ((with_reducible refine gate_dst (N := 2) rfl ?_); refine any_box rfl rfl rfl ?_; intro g hg w1 hb hB; subst hg; have HG := Aside0.mk hb; have HB := Aside0.mk hB; clear hb hB))
  go_ret
  exact ⟨rfl, HG.out, HB.out⟩

/-! lay -/
set_option maxHeartbeats 4000000 in
set_option maxRecDepth 100000 in
theorem lay_calls (g : Nat) (p q : PL) (b : Bool) (nr : List Value) (ws : Value) (hp : p.sl.length = 64) (hq : q.sl.length = 64) (hn : nr.length = 128) (w : World) (hb : Blk w g 88 (PLN p b nr ws)) :
    Calls Try.prog 33 #[.pointer (some ⟨g, 0, none⟩), .agg (pcs q)] w fun e w' => e = .returned (.tuple #[]) ∧ Blk w' g 88 (PLN q true nr ws) ∧ w.grownBy w' (some g) := by
  have HG := Aside0.mk hb
  have HP := Aside0.mk hp
  have HQ := Aside0.mk hq
  have HNR := Aside0.mk hn
  clear hb hp hq hn
  go_enter Try.func33, Try.ntmps33
  go_upto_region 1 with (first
    | ((with_reducible refine gate_dst (N := 3) rfl ?_); refine pl_box rfl rfl rfl ?_; intro s hs w1 hb1 hB1; have HS := Aside0.mk hb1; have HSG : Aside0 (g < s) := ⟨by rw [hs]; exact HG.out.lt⟩; have HGR := Aside0.mk (grown_of_below hB1 (some g)); have n_ := Aside0.mk (HG.out.below hB1); clear HG hb1 hB1 hs; have HG := n_; clear n_))
  go_wp2_with (first
    | ((with_reducible refine gate_dst (N := 6) rfl ?_); refine pl_load (N := 6) rfl rfl (.tmp 3) rfl rfl HS.out HQ.out ?_)
    | ((with_reducible refine gate_store (t := 33) (p := 8) rfl ?_); refine un_store rfl rfl (.tmp 8) (.tmp 6) rfl rfl rfl HG.out HP.out HQ.out HNR.out ?_; intro w2 hb2 hg2; have n_ := Aside0.mk hb2; have m_ := Aside0.mk (grown_trans HGR.out hg2); clear HG HGR hb2 hg2; have HG := n_; have HGR := m_; clear n_ m_; have c330 : w2.cell? ⟨g, 330, none⟩ = some (.bool b) := (blk_cell HG.out 330).trans (PLN_is HQ.out); have f330 := blk_frozen HG.out 330))
  first | go_end0 | ((try simp only [Exit.inBlock, Exit.then]); refine bodyPost_ret (results_none rfl _ _ _) rfl ?_)
  exact ⟨rfl, blk_put HG.out 330 _ (PLN_setis HQ.out), grown_trans HGR.out (grown_set _ _ _ _)⟩

/-! Load -/
set_option maxHeartbeats 4000000 in
set_option maxRecDepth 100000 in
theorem load_calls (g : Nat) (p q : PL) (b : Bool) (nr : List Value) (ws : Value) (x : List Int) (hp : p.sl.length = 64) (hq : q.sl.length = 64) (hn : nr.length = 128)
    (hwm : ∀ w, Calls Try.prog 34 #[.agg (pcs q)] w fun e w' => ∃ v, e = .returned v ∧ Kd.R (Kd.int .i64) 3 w' w.heap.size (fun _ => True) v x ∧ Below w.heap.size w w') (w : World) (hb : Blk w g 88 (PLN p b nr ws)) :
    Calls Try.prog 15 #[.pointer (some ⟨g, 0, none⟩), .agg (pcs q)] w fun e w' => e = .returned (.tuple #[]) ∧ ∃ v, Kd.R (Kd.int .i64) 3 w' w.heap.size (fun _ => True) v x ∧ Blk w' g 88 (PLN q true nr v) ∧ w.grownBy w' (some g) := by
  have HG := Aside0.mk hb
  have HP := Aside0.mk hp
  have HQ := Aside0.mk hq
  have HNR := Aside0.mk hn
  have HWM := Aside0.mk hwm
  clear hb hp hq hn hwm
  go_enter Try.func15, Try.ntmps15
  go_upto_region 1 with (first
    | ((with_reducible refine gate_dst (N := 3) rfl ?_); refine pl_box rfl rfl rfl ?_; intro s hs w1 hb1 hB1; have HS := Aside0.mk hb1; have HSG : Aside0 (g < s) := ⟨by rw [hs]; exact HG.out.lt⟩; have HGR := Aside0.mk (grown_of_below hB1 (some g)); have n_ := Aside0.mk (HG.out.below hB1); clear HG hb1 hB1 hs; have HG := n_; clear n_))
  have hbd_ := below_drew1 (Below.refl w1.heap.size w1)
  have n0_ := Aside0.mk (HG.out.below hbd_)
  have n1_ := Aside0.mk (HS.out.below hbd_)
  have n2_ := Aside0.mk (grown_trans HGR.out (grown_of_below hbd_ (some g)))
  clear hbd_ HG HS HGR
  have HG := n0_
  have HS := n1_
  have HGR := n2_
  clear n0_ n1_ n2_
  refine start_ (n := 5) (S := fun w' => Blk w' s 33 (pcs q)) (ds := []) #[false, false, false, false, false] (by kernel_rfl) rfl rfl (HS.out) (fun hHeld => ?_)
  generalize w1.drew = w2 at HG HS HGR hHeld ⊢
  refine pure_ (i := 0) (N := some 4) (v := ?_) (a' := ?_) #[true, false, false, false, false] rfl rfl (by kernel_rfl) (fun _ _ _ h => h) (Or.inl ⟨by rfl, ?_⟩) ?_ ?_
  rotate_left
  · intro w'
    go_simp
    with_reducible rfl
  rotate_left
  · simp only [Act.put, List.setIfInBounds_toArray, List.set_cons_zero, List.set_cons_succ, i64_w, i32_w]
    rfl
  refine pure_ (i := 1) (N := some 5) (v := ?_) (a' := ?_) #[true, true, false, false, false] rfl rfl (by kernel_rfl) (fun _ _ _ h => h) (Or.inl ⟨by rfl, ?_⟩) ?_ ?_
  rotate_left
  · intro w'
    go_simp
    with_reducible rfl
  rotate_left
  · simp only [Act.put, List.setIfInBounds_toArray, List.set_cons_zero, List.set_cons_succ, i64_w, i32_w]
    rfl
  refine pure_ (i := 2) (N := some 6) (v := ?_) (a' := ?_) #[true, true, true, false, false] rfl rfl (by kernel_rfl) (fun _ _ _ h => h) (Or.inl ⟨by rfl, ?_⟩) ?_ ?_
  rotate_left
  · intro w'
    go_simp
    with_reducible rfl
  rotate_left
  · simp only [Act.put, List.setIfInBounds_toArray, List.set_cons_zero, List.set_cons_succ, i64_w, i32_w]
    rfl
  refine take_ (i := 3) (N := some 7) (v := ?_) (a' := ?_) #[true, true, true, true, false] rfl rfl (by kernel_rfl) (fun _ _ _ h => h) (Or.inl ⟨by rfl, ?_⟩) hHeld ?_ ?_
  rotate_left
  · intro w' hs
    refine (run_ld33 _ _ w' s q (.tmp 3) ?_ ?_ hs HQ.out).trans ?_
    · rfl
    · rfl
    · with_reducible rfl
  rotate_left
  · simp only [Act.put, List.setIfInBounds_toArray, List.set_cons_zero, List.set_cons_succ, i64_w, i32_w]
    rfl
  refine one_ (i := 4) (N := some 8) #[true, true, true, true, true] rfl rfl (by kernel_rfl) (by decide) (fun K hK => ?_)
  refine goes_ Try.func33 (by kernel_rfl) rfl #[.pointer (some ⟨g, 0, none⟩), .agg (pcs q)] (by rfl) rfl rfl (by simp only [List.map_toArray, List.map_cons, List.map_nil]; rfl) ?_
  refine (lay_calls g p q b nr ws HP.out HQ.out HNR.out _ HG.out).mono ?_
  rintro e_ w3 ⟨rfl, hb_, hg_⟩
  refine ⟨_, rfl, ?_⟩
  have n0_ := Aside0.mk hb_
  have n1_ := Aside0.mk (HS.out.grown hg_ (by intro e; injection e with e; have h1_ := HSG.out; omega))
  have n2_ := Aside0.mk (grown_trans HGR.out hg_)
  clear hb_ hg_ hHeld
  clear HG HS HGR
  have HG := n0_
  have HS := n1_
  have HGR := n2_
  clear n0_ n1_ n2_
  refine hK.out _ _ (HS.out) (fun hHeld => ?_)
  clear hK K
  refine norm_ (a' := ?_) ?_ ?_
  rotate_left
  · show Act.put _ (some 8) _ = _
    simp only [Act.put, List.setIfInBounds_toArray, List.set_cons_zero, List.set_cons_succ, i64_w, i32_w]
    rfl
  refine done_ (by kernel_rfl) ?_
  clear hHeld
  go_wp2_with (first
    | ((with_reducible refine gate_dst (N := 10) rfl ?_); refine pl_load (N := 10) rfl rfl (.tmp 3) rfl rfl HS.out HQ.out ?_)
    | (go_at_call 34; refine (HWM.out _).mono ?_; rintro e_ w5 ⟨v1, rfl, hR_, hb_⟩; obtain ⟨Aw_, cw_, rfl⟩ := Kd.R_slice hR_; have n0_ := Aside0.mk (HG.out.below hb_); have n2_ := Aside0.mk (grown_trans HGR.out (grown_of_below hb_ (some g))); have HR := Aside0.mk (Kd.R_lower hR_ HGR.out.size); clear hb_ hR_ HS; clear HG HGR; have HG := n0_; have HGR := n2_; clear n0_ n2_; have c459 : w5.cell? ⟨g, 459, none⟩ = some ws := (blk_cell HG.out 459).trans (PLN_ws HQ.out HNR.out); have f459 := blk_frozen HG.out 459))
  first | go_end0 | ((try simp only [Exit.inBlock, Exit.then]); refine bodyPost_ret (results_none rfl _ _ _) rfl ?_)
  exact ⟨rfl, _, Kd.R_set HR.out HG.out (by decide) 459 _, blk_put HG.out 459 _ (PLN_setws HQ.out HNR.out), grown_trans HGR.out (grown_set _ g 459 _)⟩
end Go.Proofs.Ytkpfojpmigchlaa.Own
