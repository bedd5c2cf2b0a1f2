/- Parts of the proof of TopSwap, laid together and made shorter by a program of this claim. -/
import Derived.Test.YtkpfojpmigchlaaGreatK09
import Derived.Test.YtkpfojpmigchlaaGreatK01
import Derived.Test.YtkpfojpmigchlaaGreatK03
import Derived.Test.YtkpfojpmigchlaaGreatK06
set_option linter.unusedVariables false
set_option linter.unusedSimpArgs false
namespace Go.Proofs.YtkpfojpmigchlaaGreat.Own
open Go Go.RowKit Go.Proofs.YtkpfojpmigchlaaGreatW.PrintWords Go.Proofs.YtkpfojpmigchlaaGreatW.PrintMore Go.Proofs.YtkpfojpmigchlaaGreatW.PrintLast Go.Proofs.YtkpfojpmigchlaaGreat.Q
open Go.Proofs.YtkpfojpmigchlaaGreat.Zip
open Go.Proofs.YtkpfojpmigchlaaGreat.Zap
section
set_option maxHeartbeats 16000000
set_option maxRecDepth 100000
def PKR (W : World) (X : Int → Int → Int → Int → Int → Int → Int → Nat → Prop) (e : Ending) (w' : World) : Prop := ∃ (kd life piece frm dst fp tp flags label code : Int) (bare : Bool) (Ao : Option Addr) (no co : Nat) (Ad : Option Addr) (nd cd : Nat) (lo ld : List Int), e = .returned (.agg #[.int .i64 kd, .int .i64 life, .int .i64 piece, .int .i64 frm, .int .i64 dst, .int .i64 fp, .int .i64 tp, .int .i64 flags, .int .i64 label, .bool bare, .int .i64 code, .slice Ao no co, .slice Ad nd cd]) ∧ no = lo.length ∧ nd = ld.length ∧ X kd piece frm dst fp tp code nd ∧ BY lo ∧ BY ld ∧ no ≤ 200 ∧ nd ≤ 200 ∧ Bytes w' W.heap.size (.slice Ao no co) lo ∧ Bytes w' W.heap.size (.slice Ad nd cd) ld ∧ (∀ k, (Value.slice Ao no co).ownBlock = some k → (Value.slice Ad nd cd).ownBlock ≠ some k) ∧ Below W.heap.size W w'
theorem qdiv {k : Int} (h : 0 ≤ k ∧ k < 1125899906842624) (d : Int) (hd : 0 < d) : ∃ q, wrap64 (Int.tdiv k d) = q ∧ 0 ≤ q ∧ q < 1125899906842624 := by
 have h1 : Int.tdiv k d = k / d := Int.tdiv_eq_ediv_of_nonneg h.1
 have h2 : 0 ≤ k / d := Int.ediv_nonneg h.1 uY
 have h3 : k / d ≤ k := Int.ediv_le_self _ h.1
 exact ⟨k / d, by rw [h1, w64 uY uY], h2, qN⟩
theorem rmod {q : Int} (h : 0 ≤ q) (r : Int) (hr : 0 < r) : ∃ x, Int.tmod q r = x ∧ 0 ≤ x ∧ x < r :=
 ⟨q % r, Int.tmod_eq_emod_of_nonneg h, Int.emod_nonneg _ uY, Int.emod_lt_of_pos _ hr⟩
theorem cutg (n j : Nat) (hj : j ≤ n) (g : Nat) (W : World) : (Instr.slice 39 (.slice (some ⟨g, 0, none⟩) n n) none (some (.int .i64 (j : Int))) none).run Tryz.prog W = .ok (.slice (some ⟨g, 0, none⟩) j n) W := by
 have h := (cutH (some ⟨g, 0, none⟩) n (List.replicate n 0) j wN xU).1 W
 rw [List.length_replicate] at h
 exact h
theorem run_ldk (ev : Operand → Value) (o : Oper) (w : World) (g off : Nat) (x y : Int) (px : Operand) (ho : o.op = .load 29 px) (hx : ev px = .pointer (some ⟨g, off, none⟩)) (h1 : w.cell? ⟨g, off, none⟩ = some (.int .u64 x)) (h2 : w.cell? ⟨g, off + 1, none⟩ = some (.int .u64 y)) :
 (execOp ev o).run Tryz.prog w = .ok (.value (.agg #[.int .u64 x, .int .u64 y])) w := by
 have hr := run_loadVar_mid (P := Tryz.prog) w g off 29 [.int .u64 x, .int .u64 y] _ (fun j v hj => by
  match j, hj with
  | 0, hj => obtain rfl := Option.some.inj hj; exact h1
  | 1, hj => obtain rfl := Option.some.inj hj; exact h2) Tryz.underlying29 rfl uW
 unfold execOp
 simp only [ho, hx, Instr.loadAt, Instr.sureAddr, Sem.run_bind, Sem.run_pure, Result.andThen_ok, hr]
section
variable {S : Nat → Prop} {W w : World} {L : List (Nat × Nat × Array Value)} {Rs : List (Value × List Int)} {ops : Array Oper} {rest : List Oper} {o : Oper} {a : Act} {Q : Exit → Act → World → Prop} {g t : Nat} {cs : Array Value}
theorem sc1_event (HS : St S W w L Rs) (i : Nat) (hi : L[i]? = some (g, t, cs)) (hgd : o.guard = none) (hN : o.dst = none) (j : Nat) {v : Value} (hrun : (execOp a.eval o).run Tryz.prog w = .ok .skip (w.setCell ⟨g, j, none⟩ v)) (h : ∀ w', St S W w' (L.set i (g, t, cs.setIfInBounds j v)) Rs → wpList Tryz.prog ops Q rest a w') : wpList Tryz.prog ops Q (o :: rest) a w := by
 refine wpList_plain hgd fun K hK => ?_
 unfold Oper.wp
 rw [hrun]
 show K (a.put o.dst undef) _
 rw [hN]
 exact hK _ _ (h _ (HS.put i hi j v rfl))
theorem sc3_event (HS : St S W w L Rs) (i : Nat) (hi : L[i]? = some (g, t, cs)) (hgd : o.guard = none) (hN : o.dst = none) (px py : Operand) (ho : o.op = .store 3 px py) (j : Nat) (hx : a.eval px = .pointer (some ⟨g, j, none⟩)) {x y : Int} (hy : a.eval py = .int .i64 x) (hc : cs[j]? = some (.int .i64 y)) (h : ∀ w', St S W w' (L.set i (g, t, cs.setIfInBounds j (.int .i64 x))) Rs → wpList Tryz.prog ops Q rest a w') : wpList Tryz.prog ops Q (o :: rest) a w :=
 sc1_event HS i hi hgd hN j (run_c3 _ _ _ g j y x px py ho hx hy ((HS.cell i hi j).trans hc) (HS.free i hi j)) h
theorem sc4_event (HS : St S W w L Rs) (i : Nat) (hi : L[i]? = some (g, t, cs)) (hgd : o.guard = none) (hN : o.dst = none) (px py : Operand) (ho : o.op = .store 4 px py) (j : Nat) (hx : a.eval px = .pointer (some ⟨g, j, none⟩)) {x y : Bool} (hy : a.eval py = .bool x) (hc : cs[j]? = some (.bool y)) (h : ∀ w', St S W w' (L.set i (g, t, cs.setIfInBounds j (.bool x))) Rs → wpList Tryz.prog ops Q rest a w') : wpList Tryz.prog ops Q (o :: rest) a w :=
 sc1_event HS i hi hgd hN j (run_c4 _ _ _ g j y x px py ho hx hy ((HS.cell i hi j).trans hc) (HS.free i hi j)) h
theorem sc39_event (HS : St S W w L Rs) (i : Nat) (hi : L[i]? = some (g, t, cs)) (hgd : o.guard = none) (hN : o.dst = none) (px py : Operand) (ho : o.op = .store 39 px py) (j : Nat) (hx : a.eval px = .pointer (some ⟨g, j, none⟩)) {A0 A1 : Option Addr} {n0 c0 n1 c1 : Nat} (hy : a.eval py = .slice A1 n1 c1) (hc : cs[j]? = some (.slice A0 n0 c0)) (h : ∀ w', St S W w' (L.set i (g, t, cs.setIfInBounds j (.slice A1 n1 c1))) Rs → wpList Tryz.prog ops Q rest a w') : wpList Tryz.prog ops Q (o :: rest) a w :=
 sc1_event HS i hi hgd hN j (run_c39 _ _ _ g j A0 n0 c0 A1 n1 c1 px py ho hx hy ((HS.cell i hi j).trans hc) (HS.free i hi j)) h
end
theorem chain4 (v1 v2 v3 : Bool) : v1 = true ∨ (v1 = false ∧ v2 = true) ∨ (v1 = false ∧ v2 = false ∧ v3 = true) ∨ (v1 = false ∧ v2 = false ∧ v3 = false) := by
 cases v1 <;> cases v2 <;> cases v3 <;> simp
theorem nil_apart (v : Value) : ∀ k, (Value.slice none 0 0).ownBlock = some k → v.ownBlock ≠ some k := fun k h => by simp [Value.ownBlock] at h
theorem in9_calls (p : PL) (hp : p.sl.length = 64) (n m : Int) (W : World) : Calls Tryz.prog 10 #[.agg (pcs p), .int .i64 n, .int .i64 m] W fun e w' => PKR W (fun kd piece frm dst fp tp code nd => (kd = 1 ∨ kd = 2) ∧ piece = 0 ∧ code = 0 ∧ 0 ≤ frm ∧ frm ≤ 4294967295 ∧ dst = p.addr ∧ tp = p.port ∧ 0 ≤ fp ∧ fp ≤ 65535 ∧ nd ≤ 2) e w' := by
 have hu45 := Tryz.underlying45
 have hu31 := Tryz.underlying31
 have hu89 := Tryz.underlying89
 have hu29 := Tryz.underlying29
 have hu33 := pool33
 have hu26 := slots26
 have HP := mA hp
 have HS : Aside0 (St (fun _ => False) W W [] []) := ⟨St.init _ _⟩
 clear hp
 go_enter Tryz.func10, Tryz.ntmps10
 go_upto_region 2 with (first
  | ((with_reducible refine zd 3 ?_); refine pl_box rfl rfl rfl ?_; intro tp_ hg_ _ hbx_ hb_; replace HS := HS.nw hg_ hbx_ hb_; clear hg_ hbx_ hb_)
  | (refine zB 6 HS (run_pk _ _ _ rfl) ?_; clear HS; intro tr _ HS z_; clear z_)
  | (go_at_call 31; refine (within9_c _ _ uJ uJ _).mono ?_; rintro e_ _ ⟨rfl, hb_⟩; replace HS := HS.bl hb_; clear hb_))
 obtain ⟨k, hk⟩ : ∃ k, k = n % 1125899906842624 := ⟨_, rfl⟩
 have HK : Aside0 (0 ≤ k ∧ k < 1125899906842624) := ⟨by rw [hk]; omega⟩
 rw [← hk]
 clear hk
 obtain ⟨q2, e2_, hq2, hq2b⟩ := qdiv HK.out 2 uJ
 have HQ2 := mA (And.intro hq2 hq2b)
 clear hq2 hq2b
 obtain ⟨q18, e18_, hq18, hq18b⟩ := qdiv HK.out 18 uJ
 have HQ18 := mA (And.intro hq18 hq18b)
 clear hq18 hq18b
 obtain ⟨q90, e90_, hq90, hq90b⟩ := qdiv HK.out 90 uJ
 have HQ90 := mA (And.intro hq90 hq90b)
 clear hq90 hq90b
 obtain ⟨q7, e7_, hq7, hq7b⟩ := qdiv HK.out 7 uJ
 have HQ7 := mA (And.intro hq7 hq7b)
 clear hq7 hq7b
 obtain ⟨q270, e270_, hq270, hq270b⟩ := qdiv HK.out 270 uJ
 have HQ270 := mA (And.intro hq270 hq270b)
 clear hq270 hq270b
 obtain ⟨q810, e810_, hq810, hq810b⟩ := qdiv HK.out 810 uJ
 have HQ810 := mA (And.intro hq810 hq810b)
 clear hq810 hq810b
 obtain ⟨q5670, e5670_, hq5670, hq5670b⟩ := qdiv HK.out 5670 uJ
 have HQ5670 := mA (And.intro hq5670 hq5670b)
 clear hq5670 hq5670b
 obtain ⟨q34020, e34020_, hq34020, hq34020b⟩ := qdiv HK.out 34020 uJ
 have HQ34020 := mA (And.intro hq34020 hq34020b)
 clear hq34020 hq34020b
 obtain ⟨r1, er1_, hr11, hr12⟩ := rmod HK.out.1 2 uJ
 have Hr1 := mA (And.intro hr11 hr12)
 clear hr11 hr12
 obtain ⟨kd0, ekd0_⟩ : ∃ y, wrap64 (1 + r1) = y := ⟨_, rfl⟩
 obtain ⟨r2, er2_, hr21, hr22⟩ := rmod HQ2.out.1 9 uJ
 have Hr2 := mA (And.intro hr21 hr22)
 clear hr21 hr22
 obtain ⟨lf, elf_⟩ : ∃ y, wrap64 (1 + r2) = y := ⟨_, rfl⟩
 obtain ⟨r3, er3_, hr31, hr32⟩ := rmod HQ18.out.1 5 uJ
 have Hr3 := mA (And.intro hr31 hr32)
 clear hr31 hr32
 obtain ⟨fr, efr_⟩ : ∃ y, wrap64 (1000 + r3) = y := ⟨_, rfl⟩
 obtain ⟨fp0, efp0_, hfp01, hfp02⟩ := rmod HQ90.out.1 3 uJ
 have Hfp0 := mA (And.intro hfp01 hfp02)
 clear hfp01 hfp02
 obtain ⟨r4, er4_, hr41, hr42⟩ := rmod HQ270.out.1 3 uJ
 have Hr4 := mA (And.intro hr41 hr42)
 clear hr41 hr42
 obtain ⟨j, hj⟩ : ∃ j : Nat, r4 = (j : Int) := ⟨r4.toNat, uZ⟩
 have Hj : Aside0 (j ≤ 2) := ⟨uZ⟩
 rw [hj] at er4_
 clear hj
 have HFR : Aside0 (0 ≤ fr ∧ fr ≤ 4294967295) := ⟨by rw [← efr_]; have h_ := Hr3.out; rw [w64 uY uY]; omega⟩
 have HKD : Aside0 (kd0 = 1 ∨ kd0 = 2) := ⟨by rw [← ekd0_]; have h_ := Hr1.out; rw [w64 uY uY]; omega⟩
 have hcutj := cutg 2 j Hj.out
 replace HS := HS.dr
 refine zT 31 (fun w' => w'.cell? ⟨tp_, 1, none⟩ = some (.int .i64 p.addr) ∧ w'.cell? ⟨tp_, 2, none⟩ = some (.int .i64 p.port)) ⟨HS.c 1 1, HS.c 1 2⟩ fun hHeld => ?_
 generalize World.drew _ = wD at HS hHeld ⊢
 refine zR [(0,14),(1,15),(2,16),(3,17),(4,18),(5,19),(6,20),(7,21),(8,22),(9,23),(10,24),(11,25),(13,27),(14,28),(15,29),(16,30),(18,32),(19,33),(20,34),(21,35),(22,36),(24,38),(25,39),(26,40),(12,26),(17,31)] 5 ?_ ?_
 refine join_ (σ := Nat × Nat) 1 (tf 30 1) (fun s_ => [(37, .slice (some ⟨s_.1, 0, none⟩) 2 2), (41, .slice (some ⟨s_.1, 0, none⟩) j 2), (42, .agg #[.int .i64 kd0, .int .i64 lf, .int .i64 0, .int .i64 fr, .int .i64 p.addr, .int .i64 fp0, .int .i64 p.port, .int .i64 0, .int .i64 0, .bool false, .int .i64 0, .slice none 0 0, .slice (some ⟨s_.1, 0, none⟩) j 2]), (8, .pointer (some ⟨s_.2, 0, none⟩))]) (fun s_ w' => (w'.cell? ⟨tp_, 1, none⟩ = some (.int .i64 p.addr) ∧ w'.cell? ⟨tp_, 2, none⟩ = some (.int .i64 p.port)) ∧ St (fun _ => False) W w' [(s_.2, 45, #[.int .i64 0, .int .i64 0, .int .i64 0, .int .i64 0, .int .i64 0, .int .i64 0, .int .i64 0, .int .i64 0, .int .i64 0, .bool false, .int .i64 0, .slice none 0 0, .slice none 0 0]), (tr, 45, #[.int .i64 0, .int .i64 0, .int .i64 0, .int .i64 0, .int .i64 0, .int .i64 0, .int .i64 0, .int .i64 0, .int .i64 0, .bool false, .int .i64 0, .slice none 0 0, .slice none 0 0]), (tp_, 33, pcs p)] [(.slice (some ⟨s_.1, 0, none⟩) 2 2, [k % 256, q7 % 256])]) ?_ ?_
 rotate_left
 ·intro hCont
  refine two_ (i := 23) (j := 29) (Ni := some 37) (Nj := some 8) (tf 27 4) (mb 31 662700031) rfl rfl rfl rfl uW uJ uJ (fun K hK => ?_) (fun K hK => ?_)
  ·skip
   refine lit_step HS.out (by rfl) (N := 37) rfl ([k % 256, q7 % 256] : List Int) 2 rfl uJ uA ?_
   intro gl _ h1_ hb_
   replace HS := mA (h1_)
   clear hb_ h1_ hHeld
   refine hK.out _ _ ⟨HS.c 1 1, HS.c 1 2⟩ (fun hHeld => ?_)
   clear hK K
   refine zN ?_
   refine zR [(27,41),(28,42)] 2 ?_ ?_
   refine zO 29 (tf 30 1) fun K hK => ?_
   refine box_step (by rfl) (N := 8) rfl (run_pk _ _ _ rfl) ?_
   intro gp hg_ _ hbx_ hb_
   replace HS := HS.nw hg_ hbx_ hb_
   clear hg_ hbx_ hb_ hHeld
   refine hK.out _ _ ⟨HS.c 2 1, HS.c 2 2⟩ (fun hHeld => ?_)
   clear hK K
   refine zN ?_
   exact yE
  ·skip
   refine box_step (by rfl) (N := 8) rfl (run_pk _ _ _ rfl) ?_
   intro gp hg_ _ hbx_ hb_
   replace HS := HS.nw hg_ hbx_ hb_
   clear hg_ hbx_ hb_ hHeld
   refine hK.out _ _ ⟨HS.c 2 1, HS.c 2 2⟩ (fun hHeld => ?_)
   clear hK K
   refine zN ?_
   refine zO 23 (mb 31 671088639) fun K hK => ?_
   refine lit_step HS.out (by rfl) (N := 37) rfl ([k % 256, q7 % 256] : List Int) 2 rfl uJ uA ?_
   intro gl _ h1_ hb_
   replace HS := mA (h1_)
   clear hb_ h1_ hHeld
   refine hK.out _ _ ⟨HS.c 2 1, HS.c 2 2⟩ (fun hHeld => ?_)
   clear hK K
   refine zN ?_
   refine zR [(27,41),(28,42)] 1 ?_ ?_
   exact yE
 rintro ⟨gl, gp⟩ wI ⟨hHeld, h1_⟩
 clear HS
 have HS := mA h1_
 clear h1_
 refine norm_ (a' := ?_) ?_ ?_
 rotate_left
 ·exact zK
 refine zo 30 (tf 31 0) fun K hK => ?_
 refine skip_ (w1 := (wI.setCells gp 0 (#[.int .i64 kd0, .int .i64 lf, .int .i64 0, .int .i64 fr, .int .i64 p.addr, .int .i64 fp0, .int .i64 p.port, .int .i64 0, .int .i64 0, .bool false, .int .i64 0, .slice none 0 0, .slice (some ⟨gl, 0, none⟩) j 2] : Array Value).toList)) (by rfl) rfl (run_stpk _ _ _ gp #[.int .i64 0, .int .i64 0, .int .i64 0, .int .i64 0, .int .i64 0, .int .i64 0, .int .i64 0, .int .i64 0, .int .i64 0, .bool false, .int .i64 0, .slice none 0 0, .slice none 0 0] #[.int .i64 kd0, .int .i64 lf, .int .i64 0, .int .i64 fr, .int .i64 p.addr, .int .i64 fp0, .int .i64 p.port, .int .i64 0, .int .i64 0, .bool false, .int .i64 0, .slice none 0 0, .slice (some ⟨gl, 0, none⟩) j 2] (.tmp 8) (.tmp 42) rfl rfl rfl HS.b0 rfl rfl vN) ?_
 have n_ := mA (HS.out.stm 0 rfl 0 [.int .i64 kd0, .int .i64 lf, .int .i64 0, .int .i64 fr, .int .i64 p.addr, .int .i64 fp0, .int .i64 p.port, .int .i64 0, .int .i64 0, .bool false, .int .i64 0, .slice none 0 0, .slice (some ⟨gl, 0, none⟩) j 2] (many13 ..))
 simp only [List.set_cons_zero] at n_
 clear HS hHeld
 generalize World.setCells _ _ _ _ = wJ at n_ ⊢
 have HS := n_
 clear n_
 refine hK.out _ _ ⟨HS.c 2 1, HS.c 2 2⟩ (fun hHeld => ?_)
 clear hK K
 refine done_ uW ?_
 clear hHeld
 obtain ⟨c0_, c1_, c2_, c3_, c4_, c5_, c6_, c7_, c8_, c9_, c10_, c11_, c12_⟩ := cells13 HS.b0
 have t1_ : World.cell? _ ⟨tp_, 1, none⟩ = some (.int .i64 p.addr) := HS.c 2 1
 have t2_ : World.cell? _ ⟨tp_, 2, none⟩ = some (.int .i64 p.port) := HS.c 2 2
 go_upto_region 4 with (first
  | (refine zB 9 HS (run_al89 _ _ _ rfl) ?_; clear HS; intro gf _ HS z_; clear z_ c0_ c1_ c2_ c3_ c4_ c5_ c6_ c7_ c8_ c9_ c10_ c11_ c12_ t1_ t2_; obtain ⟨c0_, c1_, c2_, c3_, c4_, c5_, c6_, c7_, c8_, c9_, c10_, c11_, c12_⟩ := cells13 HS.b1; have t1_ : World.cell? _ ⟨tp_, 1, none⟩ = some (.int .i64 p.addr) := HS.c 3 1; have t2_ : World.cell? _ ⟨tp_, 2, none⟩ = some (.int .i64 p.port) := HS.c 3 2)
  | (refine zS 89 9 HS 0 (cells := #[.int .i64 fr, .int .i64 fp0, .int .i64 p.addr, .int .i64 p.port]) ?_; clear HS; intro _ HS z_; clear z_ c0_ c1_ c2_ c3_ c4_ c5_ c6_ c7_ c8_ c9_ c10_ c11_ c12_ t1_ t2_; obtain ⟨c0_, c1_, c2_, c3_, c4_, c5_, c6_, c7_, c8_, c9_, c10_, c11_, c12_⟩ := cells13 HS.b1))
 obtain ⟨s1, es1_, hs11, hs12⟩ := rmod HQ810.out.1 7 uJ
 have Hs1 := mA (And.intro hs11 hs12)
 clear hs11 hs12
 go_upto_region 5 with (first
  | ((with_reducible refine zd 53 ?_); refine Kd.event_run rfl (run_ring _ _ _ tp_ 323 p (.tmp 52) rfl rfl (pcs_ringR HS.b3 HP.out)) ?_)
  | ((with_reducible refine zd 56 ?_); refine Kd.event_run rfl (run_ld89 _ _ _ _ _ (.tmp 9) rfl rfl HS.b0 rfl) ?_)
  | (go_at_call 36; refine (make5_c _ _ _ _ _ _ _ _ _ _ _ _ _ _).mono ?_; rintro e_ _ ⟨⟨cv, rfl⟩, hb_⟩; clear c0_ c1_ c2_ c3_ c4_ c5_ c6_ c7_ c8_ c9_ c10_ c11_ c12_; replace HS := HS.bl hb_; clear hb_; obtain ⟨c0_, c1_, c2_, c3_, c4_, c5_, c6_, c7_, c8_, c9_, c10_, c11_, c12_⟩ := cells13 HS.b1))
 obtain ⟨sw, esw_, hsw1, hsw2⟩ := rmod HQ5670.out.1 6 uJ
 have Hsw := mA (And.intro hsw1 hsw2)
 clear hsw1 hsw2
 obtain ⟨b3, eb3_, hb31, hb32⟩ := rmod HQ34020.out.1 3 uJ
 have Hb3 := mA (And.intro hb31 hb32)
 clear hb31 hb32
 obtain ⟨fl, efl_, hfl1, hfl2⟩ := rmod HQ34020.out.1 16 uJ
 have Hfl := mA (And.intro hfl1 hfl2)
 clear hfl1 hfl2
 obtain ⟨x5, ex5_, hx51, hx52⟩ := rmod HQ34020.out.1 5 uJ
 have Hx5 := mA (And.intro hx51 hx52)
 clear hx51 hx52
 obtain ⟨x31, ex31_, hx311, hx312⟩ := rmod HQ34020.out.1 31 uJ
 have Hx31 := mA (And.intro hx311 hx312)
 clear hx311 hx312
 have hch := chain4 (sw == 0) (sw == 1) (sw == 2)
 have ep_ : World.cell? _ ⟨tp_, 323, none⟩ = some (.int .i64 p.ep) := pcs_ringR HS.b3 HP.out 0 _ rfl
 rcases hch with ⟨s0⟩ | ⟨s0, s1_⟩ | ⟨s0, s1_, s2_⟩ | ⟨s0, s1_, s2_⟩
 ·exact jS
 ·exact jS
 ·skip
  go_upto_region 13 with (first
   | ((with_reducible refine zd 84 ?_); refine Kd.event_run rfl (run_ldk _ _ _ tp_ 324 _ _ _ rfl rfl (pcs_ringR HS.b3 HP.out 1 _ rfl) (pcs_ringR HS.b3 HP.out 2 _ rfl)) ?_)
   | ((with_reducible refine zd 87 ?_); refine Kd.event_run rfl (run_ldk _ _ _ tp_ 324 _ _ _ rfl rfl (pcs_ringR HS.b3 HP.out 1 _ rfl) (pcs_ringR HS.b3 HP.out 2 _ rfl)) ?_)
   | ((with_reducible refine zd 90 ?_); refine Kd.event_run rfl (run_ldk _ _ _ tp_ 326 _ _ _ rfl rfl (pcs_ringR HS.b3 HP.out 3 _ rfl) (pcs_ringR HS.b3 HP.out 4 _ rfl)) ?_)
   | (refine zB 11 HS (run_al31 _ _ _ rfl) ?_; clear HS; intro gr _ HS z_; clear z_ c0_ c1_ c2_ c3_ c4_ c5_ c6_ c7_ c8_ c9_ c10_ c11_ c12_; try clear ep_; obtain ⟨c0_, c1_, c2_, c3_, c4_, c5_, c6_, c7_, c8_, c9_, c10_, c11_, c12_⟩ := cells13 HS.b2)
   | (refine zS 31 11 HS 0 (cells := #[.int .i64 (wrap64 (p.ep - 1)), .int .u64 p.k1, .int .u64 p.k2, .int .u64 p.k1, .int .u64 p.k2, .int .u64 p.k3, .int .u64 p.k4]) ?_; clear HS; intro _ HS z_; clear z_ c0_ c1_ c2_ c3_ c4_ c5_ c6_ c7_ c8_ c9_ c10_ c11_ c12_; obtain ⟨c0_, c1_, c2_, c3_, c4_, c5_, c6_, c7_, c8_, c9_, c10_, c11_, c12_⟩ := cells13 HS.b2)
   | ((with_reducible refine zd 92 ?_); refine Kd.event_run rfl (run_ld31 _ _ _ _ _ (.tmp 11) rfl rfl HS.b0 rfl) ?_)
   | ((with_reducible refine zd 95 ?_); refine Kd.event_run rfl (run_ld89 _ _ _ _ _ (.tmp 9) rfl rfl HS.b1 rfl) ?_)
   | (go_at_call 36; refine (make5_c _ _ _ _ _ _ _ _ _ _ _ _ _ _).mono ?_; rintro e_ _ ⟨⟨cv2, rfl⟩, hb_⟩; clear c0_ c1_ c2_ c3_ c4_ c5_ c6_ c7_ c8_ c9_ c10_ c11_ c12_; replace HS := HS.bl hb_; clear hb_; obtain ⟨c0_, c1_, c2_, c3_, c4_, c5_, c6_, c7_, c8_, c9_, c10_, c11_, c12_⟩ := cells13 HS.b2))
  cases kb : (kd0 == 2) with
  | true =>
   go_wp2_with (first
    | ((with_reducible refine zst 3 108 ?_); refine sc3_event HS.out 2 rfl rfl rfl (.tmp 108) (.tmp 103) rfl 8 rfl rfl rfl ?_; intro _ h1_; replace HS := mA h1_; simp only [List.setIfInBounds_toArray, List.set_cons_zero, List.set_cons_succ] at HS; clear h1_)
    | ((with_reducible refine zst 4 109 ?_); refine sc4_event HS.out 2 rfl rfl rfl (.tmp 109) (.tmp 107) rfl 9 rfl rfl rfl ?_; intro _ h1_; replace HS := mA h1_; simp only [List.setIfInBounds_toArray, List.set_cons_zero, List.set_cons_succ] at HS; clear h1_)
    | ((with_reducible refine zd 110 ?_); refine Kd.event_run rfl (run_ldpk _ _ _ gp _ (.tmp 8) rfl rfl HS.b2 rfl) ?_)
    | (refine zS 45 6 HS 3 ?_; clear HS; intro _ HS z_; clear z_))
   refine bodyPost_ret (results_cell_row rfl _ _ tr 45 _ (0, 0) _ rfl HS.b3 Tryz.underlying45 rfl uW) rfl ?_
   first | exact ⟨_, _, _, _, _, _, _, _, _, _, _, _, _, _, _, _, _, [], ([k % 256, q7 % 256] : List Int).take j, rfl, rfl, qY, ⟨HKD.out, rfl, rfl, HFR.out.1, HFR.out.2, rfl, rfl, Hfp0.out.1, qR, Hj.out⟩, BY.nil, BY.take (fun x hx => by simp only [List.mem_cons, List.not_mem_nil, or_false] at hx; omega) _, kC, qD, Kd.R_nil _ _ _ _ _, Kd.R_take HS.r0 xH, nil_apart _, HS.nb⟩ | exact ⟨_, _, _, _, _, _, _, _, _, _, _, _, _, _, _, _, _, lo, ([k % 256, q7 % 256] : List Int).take j, rfl, rfl, qY, ⟨HKD.out, rfl, rfl, HFR.out.1, HFR.out.2, rfl, rfl, Hfp0.out.1, qR, Hj.out⟩, HY4.out, BY.take (fun x hx => by simp only [List.mem_cons, List.not_mem_nil, or_false] at hx; omega) _, kJ, qD, HS.out.row 0 rfl, Kd.R_take HS.r1 xH, (List.pairwise_cons.1 HS.out.E).1 _ (List.mem_of_getElem? (i := 0) rfl), HS.nb⟩ | exact ⟨_, _, _, _, _, _, _, _, _, _, _, _, _, _, _, _, _, lo, ([k % 256, q7 % 256] : List Int).take j, rfl, rfl, qY, ⟨HKD.out, rfl, rfl, HFR.out.1, HFR.out.2, rfl, rfl, Hfp0.out.1, qR, Hj.out⟩, HY4.out, BY.take (fun x hx => by simp only [List.mem_cons, List.not_mem_nil, or_false] at hx; omega) _, kJ, qD, HS.out.row 0 rfl, Kd.R_take HS.r2 xH, (List.pairwise_cons.1 HS.out.E).1 _ (List.mem_of_getElem? (i := 1) rfl), HS.nb⟩
  | false =>
   cases fa : decide (0 < x5) <;> cases fb : (x31 == 1) <;>
   (go_wp2_with (first
    | ((with_reducible refine zst 3 114 ?_); refine sc3_event HS.out 2 rfl rfl rfl (.tmp 114) (.tmp 113) rfl 7 rfl rfl rfl ?_; intro _ h1_; replace HS := mA h1_; simp only [List.setIfInBounds_toArray, List.set_cons_zero, List.set_cons_succ] at HS; clear h1_)
    | (go_at_call 38; refine (put5_c _ _ _).mono ?_; rintro e_ _ ⟨⟨pv, rfl⟩, hb_⟩; replace HS := HS.bl hb_; clear hb_)
    | (go_at_call 37; refine (make4_c _ _ _).mono ?_; rintro e_ _ ⟨Ao, co, lo, rfl, hl4_, hy4_, hr_, hb_⟩; have HL4 := mA hl4_; have HY4 := mA hy4_; clear hl4_ hy4_; replace HS := HS.rw_ hr_ hb_; clear hr_ hb_)
    | ((with_reducible refine zst 39 127 ?_); refine sc39_event HS.out 2 rfl rfl rfl (.tmp 127) (.tmp 126) rfl 11 rfl rfl rfl ?_; intro _ h1_; replace HS := mA h1_; simp only [List.setIfInBounds_toArray, List.set_cons_zero, List.set_cons_succ] at HS; clear h1_)
    | ((with_reducible refine zst 39 135 ?_); refine sc39_event HS.out 2 rfl rfl rfl (.tmp 135) (.tmp 134) rfl 11 rfl rfl rfl ?_; intro _ h1_; replace HS := mA h1_; simp only [List.setIfInBounds_toArray, List.set_cons_zero, List.set_cons_succ] at HS; clear h1_)
    | ((with_reducible refine zd 136 ?_); refine Kd.event_run rfl (run_ldpk _ _ _ gp _ (.tmp 8) rfl rfl HS.b2 rfl) ?_)
    | (refine zS 45 6 HS 3 ?_; clear HS; intro _ HS z_; clear z_))
    refine bodyPost_ret (results_cell_row rfl _ _ tr 45 _ (0, 0) _ rfl HS.b3 Tryz.underlying45 rfl uW) rfl ?_
    first | exact ⟨_, _, _, _, _, _, _, _, _, _, _, _, _, _, _, _, _, [], ([k % 256, q7 % 256] : List Int).take j, rfl, rfl, qY, ⟨HKD.out, rfl, rfl, HFR.out.1, HFR.out.2, rfl, rfl, Hfp0.out.1, qR, Hj.out⟩, BY.nil, BY.take (fun x hx => by simp only [List.mem_cons, List.not_mem_nil, or_false] at hx; omega) _, kC, qD, Kd.R_nil _ _ _ _ _, Kd.R_take HS.r0 xH, nil_apart _, HS.nb⟩ | exact ⟨_, _, _, _, _, _, _, _, _, _, _, _, _, _, _, _, _, lo, ([k % 256, q7 % 256] : List Int).take j, rfl, rfl, qY, ⟨HKD.out, rfl, rfl, HFR.out.1, HFR.out.2, rfl, rfl, Hfp0.out.1, qR, Hj.out⟩, HY4.out, BY.take (fun x hx => by simp only [List.mem_cons, List.not_mem_nil, or_false] at hx; omega) _, kJ, qD, HS.out.row 0 rfl, Kd.R_take HS.r1 xH, (List.pairwise_cons.1 HS.out.E).1 _ (List.mem_of_getElem? (i := 0) rfl), HS.nb⟩ | exact ⟨_, _, _, _, _, _, _, _, _, _, _, _, _, _, _, _, _, lo, ([k % 256, q7 % 256] : List Int).take j, rfl, rfl, qY, ⟨HKD.out, rfl, rfl, HFR.out.1, HFR.out.2, rfl, rfl, Hfp0.out.1, qR, Hj.out⟩, HY4.out, BY.take (fun x hx => by simp only [List.mem_cons, List.not_mem_nil, or_false] at hx; omega) _, kJ, qD, HS.out.row 0 rfl, Kd.R_take HS.r2 xH, (List.pairwise_cons.1 HS.out.E).1 _ (List.mem_of_getElem? (i := 1) rfl), HS.nb⟩)
 ·skip
  go_upto_region 13 with fail
  cases kb : (kd0 == 2) with
  | true =>
   go_wp2_with (first
    | ((with_reducible refine zst 3 108 ?_); refine sc3_event HS.out 1 rfl rfl rfl (.tmp 108) (.tmp 103) rfl 8 rfl rfl rfl ?_; intro _ h1_; replace HS := mA h1_; simp only [List.setIfInBounds_toArray, List.set_cons_zero, List.set_cons_succ] at HS; clear h1_)
    | ((with_reducible refine zst 4 109 ?_); refine sc4_event HS.out 1 rfl rfl rfl (.tmp 109) (.tmp 107) rfl 9 rfl rfl rfl ?_; intro _ h1_; replace HS := mA h1_; simp only [List.setIfInBounds_toArray, List.set_cons_zero, List.set_cons_succ] at HS; clear h1_)
    | ((with_reducible refine zd 110 ?_); refine Kd.event_run rfl (run_ldpk _ _ _ gp _ (.tmp 8) rfl rfl HS.b1 rfl) ?_)
    | (refine zS 45 6 HS 2 ?_; clear HS; intro _ HS z_; clear z_))
   refine bodyPost_ret (results_cell_row rfl _ _ tr 45 _ (0, 0) _ rfl HS.b2 Tryz.underlying45 rfl uW) rfl ?_
   first | exact ⟨_, _, _, _, _, _, _, _, _, _, _, _, _, _, _, _, _, [], ([k % 256, q7 % 256] : List Int).take j, rfl, rfl, qY, ⟨HKD.out, rfl, rfl, HFR.out.1, HFR.out.2, rfl, rfl, Hfp0.out.1, qR, Hj.out⟩, BY.nil, BY.take (fun x hx => by simp only [List.mem_cons, List.not_mem_nil, or_false] at hx; omega) _, kC, qD, Kd.R_nil _ _ _ _ _, Kd.R_take HS.r0 xH, nil_apart _, HS.nb⟩ | exact ⟨_, _, _, _, _, _, _, _, _, _, _, _, _, _, _, _, _, lo, ([k % 256, q7 % 256] : List Int).take j, rfl, rfl, qY, ⟨HKD.out, rfl, rfl, HFR.out.1, HFR.out.2, rfl, rfl, Hfp0.out.1, qR, Hj.out⟩, HY4.out, BY.take (fun x hx => by simp only [List.mem_cons, List.not_mem_nil, or_false] at hx; omega) _, kJ, qD, HS.out.row 0 rfl, Kd.R_take HS.r1 xH, (List.pairwise_cons.1 HS.out.E).1 _ (List.mem_of_getElem? (i := 0) rfl), HS.nb⟩ | exact ⟨_, _, _, _, _, _, _, _, _, _, _, _, _, _, _, _, _, lo, ([k % 256, q7 % 256] : List Int).take j, rfl, rfl, qY, ⟨HKD.out, rfl, rfl, HFR.out.1, HFR.out.2, rfl, rfl, Hfp0.out.1, qR, Hj.out⟩, HY4.out, BY.take (fun x hx => by simp only [List.mem_cons, List.not_mem_nil, or_false] at hx; omega) _, kJ, qD, HS.out.row 0 rfl, Kd.R_take HS.r2 xH, (List.pairwise_cons.1 HS.out.E).1 _ (List.mem_of_getElem? (i := 1) rfl), HS.nb⟩
  | false =>
   cases fa : decide (0 < x5) <;> cases fb : (x31 == 1) <;>
   (go_wp2_with (first
    | ((with_reducible refine zst 3 114 ?_); refine sc3_event HS.out 1 rfl rfl rfl (.tmp 114) (.tmp 113) rfl 7 rfl rfl rfl ?_; intro _ h1_; replace HS := mA h1_; simp only [List.setIfInBounds_toArray, List.set_cons_zero, List.set_cons_succ] at HS; clear h1_)
    | (go_at_call 38; refine (put5_c _ _ _).mono ?_; rintro e_ _ ⟨⟨pv, rfl⟩, hb_⟩; replace HS := HS.bl hb_; clear hb_)
    | (go_at_call 37; refine (make4_c _ _ _).mono ?_; rintro e_ _ ⟨Ao, co, lo, rfl, hl4_, hy4_, hr_, hb_⟩; have HL4 := mA hl4_; have HY4 := mA hy4_; clear hl4_ hy4_; replace HS := HS.rw_ hr_ hb_; clear hr_ hb_)
    | ((with_reducible refine zst 39 127 ?_); refine sc39_event HS.out 1 rfl rfl rfl (.tmp 127) (.tmp 126) rfl 11 rfl rfl rfl ?_; intro _ h1_; replace HS := mA h1_; simp only [List.setIfInBounds_toArray, List.set_cons_zero, List.set_cons_succ] at HS; clear h1_)
    | ((with_reducible refine zst 39 135 ?_); refine sc39_event HS.out 1 rfl rfl rfl (.tmp 135) (.tmp 134) rfl 11 rfl rfl rfl ?_; intro _ h1_; replace HS := mA h1_; simp only [List.setIfInBounds_toArray, List.set_cons_zero, List.set_cons_succ] at HS; clear h1_)
    | ((with_reducible refine zd 136 ?_); refine Kd.event_run rfl (run_ldpk _ _ _ gp _ (.tmp 8) rfl rfl HS.b1 rfl) ?_)
    | (refine zS 45 6 HS 2 ?_; clear HS; intro _ HS z_; clear z_))
    refine bodyPost_ret (results_cell_row rfl _ _ tr 45 _ (0, 0) _ rfl HS.b2 Tryz.underlying45 rfl uW) rfl ?_
    first | exact ⟨_, _, _, _, _, _, _, _, _, _, _, _, _, _, _, _, _, [], ([k % 256, q7 % 256] : List Int).take j, rfl, rfl, qY, ⟨HKD.out, rfl, rfl, HFR.out.1, HFR.out.2, rfl, rfl, Hfp0.out.1, qR, Hj.out⟩, BY.nil, BY.take (fun x hx => by simp only [List.mem_cons, List.not_mem_nil, or_false] at hx; omega) _, kC, qD, Kd.R_nil _ _ _ _ _, Kd.R_take HS.r0 xH, nil_apart _, HS.nb⟩ | exact ⟨_, _, _, _, _, _, _, _, _, _, _, _, _, _, _, _, _, lo, ([k % 256, q7 % 256] : List Int).take j, rfl, rfl, qY, ⟨HKD.out, rfl, rfl, HFR.out.1, HFR.out.2, rfl, rfl, Hfp0.out.1, qR, Hj.out⟩, HY4.out, BY.take (fun x hx => by simp only [List.mem_cons, List.not_mem_nil, or_false] at hx; omega) _, kJ, qD, HS.out.row 0 rfl, Kd.R_take HS.r1 xH, (List.pairwise_cons.1 HS.out.E).1 _ (List.mem_of_getElem? (i := 0) rfl), HS.nb⟩ | exact ⟨_, _, _, _, _, _, _, _, _, _, _, _, _, _, _, _, _, lo, ([k % 256, q7 % 256] : List Int).take j, rfl, rfl, qY, ⟨HKD.out, rfl, rfl, HFR.out.1, HFR.out.2, rfl, rfl, Hfp0.out.1, qR, Hj.out⟩, HY4.out, BY.take (fun x hx => by simp only [List.mem_cons, List.not_mem_nil, or_false] at hx; omega) _, kJ, qD, HS.out.row 0 rfl, Kd.R_take HS.r2 xH, (List.pairwise_cons.1 HS.out.E).1 _ (List.mem_of_getElem? (i := 1) rfl), HS.nb⟩)
theorem out9_calls (p : PL) (hp : p.sl.length = 64) (n m : Int) (W : World) : Calls Tryz.prog 32 #[.agg (pcs p), .int .i64 n, .int .i64 m] W fun e w' => PKR W (fun kd piece frm dst fp tp code nd => True) e w' := by
 have hu45 := Tryz.underlying45
 have hu25 := Tryz.underlying25
 have hu33 := pool33
 have hu26 := slots26
 have HP := mA hp
 have HS : Aside0 (St (fun _ => False) W W [] []) := ⟨St.init _ _⟩
 clear hp
 go_enter Tryz.func32, Tryz.ntmps32
 go_upto_region 2 with (first
  | ((with_reducible refine zd 3 ?_); refine pl_box rfl rfl rfl ?_; intro tp_ hg_ _ hbx_ hb_; replace HS := HS.nw hg_ hbx_ hb_; clear hg_ hbx_ hb_)
  | (refine zB 6 HS (run_pk _ _ _ rfl) ?_; clear HS; intro tr _ HS z_; clear z_)
  | (go_at_call 31; refine (within9_c _ _ uJ uJ _).mono ?_; rintro e_ _ ⟨rfl, hb_⟩; replace HS := HS.bl hb_; clear hb_))
 obtain ⟨k, hk⟩ : ∃ k, k = n % 1125899906842624 := ⟨_, rfl⟩
 have HK : Aside0 (0 ≤ k ∧ k < 1125899906842624) := ⟨by rw [hk]; omega⟩
 rw [← hk]
 clear hk
 obtain ⟨r0, er0_, hr01, hr02⟩ := rmod HK.out.1 6 uJ
 have Hr0 := mA (And.intro hr01 hr02)
 clear hr01 hr02
 obtain ⟨i, hi⟩ : ∃ j : Nat, r0 = (j : Int) := ⟨r0.toNat, by have h_ := Hr0.out; omega⟩
 have Hi : Aside0 (i ≤ 5) := ⟨by have h_ := Hr0.out; omega⟩
 rw [hi] at er0_
 clear hi
 obtain ⟨q6, e6_, hq6, hq6b⟩ := qdiv HK.out 6 uJ
 have HQ6 := mA (And.intro hq6 hq6b)
 clear hq6 hq6b
 obtain ⟨q12, e12_, hq12, hq12b⟩ := qdiv HK.out 12 uJ
 have HQ12 := mA (And.intro hq12 hq12b)
 clear hq12 hq12b
 obtain ⟨q108, e108_, hq108, hq108b⟩ := qdiv HK.out 108 uJ
 have HQ108 := mA (And.intro hq108 hq108b)
 clear hq108 hq108b
 obtain ⟨q540, e540_, hq540, hq540b⟩ := qdiv HK.out 540 uJ
 have HQ540 := mA (And.intro hq540 hq540b)
 clear hq540 hq540b
 obtain ⟨q1620, e1620_, hq1620, hq1620b⟩ := qdiv HK.out 1620 uJ
 have HQ1620 := mA (And.intro hq1620 hq1620b)
 clear hq1620 hq1620b
 obtain ⟨q3240, e3240_, hq3240, hq3240b⟩ := qdiv HK.out 3240 uJ
 have HQ3240 := mA (And.intro hq3240 hq3240b)
 clear hq3240 hq3240b
 obtain ⟨r1, er1_, hr11, hr12⟩ := rmod HQ6.out.1 2 uJ
 have Hr1 := mA (And.intro hr11 hr12)
 clear hr11 hr12
 obtain ⟨kd0, ekd0_⟩ : ∃ y, wrap64 (1 + r1) = y := ⟨_, rfl⟩
 obtain ⟨r2, er2_, hr21, hr22⟩ := rmod HQ12.out.1 9 uJ
 have Hr2 := mA (And.intro hr21 hr22)
 clear hr21 hr22
 obtain ⟨lf, elf_⟩ : ∃ y, wrap64 (1 + r2) = y := ⟨_, rfl⟩
 obtain ⟨r3, er3_, hr31, hr32⟩ := rmod HQ108.out.1 5 uJ
 have Hr3 := mA (And.intro hr31 hr32)
 clear hr31 hr32
 obtain ⟨fr, efr_⟩ : ∃ y, wrap64 (1000 + r3) = y := ⟨_, rfl⟩
 obtain ⟨tp0, etp0_, htp01, htp02⟩ := rmod HQ540.out.1 3 uJ
 have Htp0 := mA (And.intro htp01 htp02)
 clear htp01 htp02
 obtain ⟨r4, er4_, hr41, hr42⟩ := rmod HQ1620.out.1 2 uJ
 have Hr4 := mA (And.intro hr41 hr42)
 clear hr41 hr42
 obtain ⟨j, hj⟩ : ∃ j : Nat, r4 = (j : Int) := ⟨r4.toNat, uZ⟩
 have Hj : Aside0 (j ≤ 1) := ⟨uZ⟩
 rw [hj] at er4_
 clear hj
 obtain ⟨b3, eb3_, hb31, hb32⟩ := rmod HQ3240.out.1 3 uJ
 have Hb3 := mA (And.intro hb31 hb32)
 clear hb31 hb32
 obtain ⟨fl, efl_, hfl1, hfl2⟩ := rmod HQ3240.out.1 16 uJ
 have Hfl := mA (And.intro hfl1 hfl2)
 clear hfl1 hfl2
 obtain ⟨x5, ex5_, hx51, hx52⟩ := rmod HQ3240.out.1 4 uJ
 have Hx5 := mA (And.intro hx51 hx52)
 clear hx51 hx52
 have hcutj := cutg 1 j Hj.out
 obtain ⟨sv, hsv⟩ : ∃ x : S25, x = rd_T25 p.sl (i : Int) := ⟨_, rfl⟩
 have d0 : decide ((i : Int) < 0) = false := decide_eq_false uY
 have d1 : decide (64 ≤ (i : Int)) = false := decide_eq_false (by have h_ := Hi.out; omega)
 have q0 : ((i : Int) < 64) = True := eq_true (by have h_ := Hi.out; omega)
 have q1 : (0 ≤ (i : Int)) = True := eq_true uY
 obtain ⟨x0_, x1_, x2_, x3_, x4_⟩ := slot_c HS.b1 HP.out i (by have h_ := Hi.out; omega) hsv
 have HSV := mA hsv
 clear hsv
 go_upto_region 3 with (first
  | (refine zB 8 HS (run_al25 _ _ _ rfl) ?_; clear HS; intro gs _ HS z_; clear z_ x0_ x1_ x2_ x3_ x4_; obtain ⟨x0_, x1_, x2_, x3_, x4_⟩ := slot_c HS.b2 HP.out i (by have h_ := Hi.out; omega) HSV.out)
  | (refine zS 25 8 HS 0 (cells := #[.int .i64 sv.f0, .int .i64 sv.f1, .int .i64 sv.f2, .int .i64 sv.f3, .int .i64 sv.f4]) ?_; clear HS; intro _ HS z_; clear z_ x0_ x1_ x2_ x3_ x4_))
 replace HS := HS.dr
 refine zT 29 (fun w' => w'.cell? ⟨gs, 1, none⟩ = some (.int .i64 sv.f1) ∧ w'.cell? ⟨gs, 2, none⟩ = some (.int .i64 sv.f2)) ⟨HS.c 0 1, HS.c 0 2⟩ fun hHeld => ?_
 generalize World.drew _ = wD at HS hHeld ⊢
 refine zR [(0,17),(1,18),(2,19),(3,20),(4,21),(5,22),(6,23),(7,24),(8,25),(10,27),(12,29),(13,30),(14,31),(15,32),(16,33),(17,34),(18,35),(19,36),(20,37),(22,39),(23,40),(24,41),(9,26),(11,28)] 5 ?_ ?_
 refine join_ (σ := Nat × Nat) 1 (tf 28 1) (fun s_ => [(38, .slice (some ⟨s_.1, 0, none⟩) 1 1), (42, .slice (some ⟨s_.1, 0, none⟩) j 1), (43, .agg #[.int .i64 kd0, .int .i64 lf, .int .i64 0, .int .i64 sv.f1, .int .i64 fr, .int .i64 sv.f2, .int .i64 tp0, .int .i64 0, .int .i64 0, .bool false, .int .i64 0, .slice none 0 0, .slice (some ⟨s_.1, 0, none⟩) j 1]), (9, .pointer (some ⟨s_.2, 0, none⟩))]) (fun s_ w' => (w'.cell? ⟨gs, 1, none⟩ = some (.int .i64 sv.f1) ∧ w'.cell? ⟨gs, 2, none⟩ = some (.int .i64 sv.f2)) ∧ St (fun _ => False) W w' [(s_.2, 45, #[.int .i64 0, .int .i64 0, .int .i64 0, .int .i64 0, .int .i64 0, .int .i64 0, .int .i64 0, .int .i64 0, .int .i64 0, .bool false, .int .i64 0, .slice none 0 0, .slice none 0 0]), (gs, 25, #[.int .i64 sv.f0, .int .i64 sv.f1, .int .i64 sv.f2, .int .i64 sv.f3, .int .i64 sv.f4]), (tr, 45, #[.int .i64 0, .int .i64 0, .int .i64 0, .int .i64 0, .int .i64 0, .int .i64 0, .int .i64 0, .int .i64 0, .int .i64 0, .bool false, .int .i64 0, .slice none 0 0, .slice none 0 0]), (tp_, 33, pcs p)] [(.slice (some ⟨s_.1, 0, none⟩) 1 1, [k % 256])]) ?_ ?_
 rotate_left
 ·intro hCont
  refine two_ (i := 21) (j := 27) (Ni := some 38) (Nj := some 9) (tf 25 4) (mb 29 165675007) rfl rfl rfl rfl uW uJ uJ (fun K hK => ?_) (fun K hK => ?_)
  ·skip
   refine lit_step HS.out (by rfl) (N := 38) rfl ([k % 256] : List Int) 1 rfl uJ uA ?_
   intro gl _ h1_ hb_
   replace HS := mA (h1_)
   clear hb_ h1_ hHeld
   refine hK.out _ _ ⟨HS.c 0 1, HS.c 0 2⟩ (fun hHeld => ?_)
   clear hK K
   refine zN ?_
   refine zR [(25,42),(26,43)] 2 ?_ ?_
   refine zO 27 (tf 28 1) fun K hK => ?_
   refine box_step (by rfl) (N := 9) rfl (run_pk _ _ _ rfl) ?_
   intro gp hg_ _ hbx_ hb_
   replace HS := HS.nw hg_ hbx_ hb_
   clear hg_ hbx_ hb_ hHeld
   refine hK.out _ _ ⟨HS.c 1 1, HS.c 1 2⟩ (fun hHeld => ?_)
   clear hK K
   refine zN ?_
   exact yE
  ·skip
   refine box_step (by rfl) (N := 9) rfl (run_pk _ _ _ rfl) ?_
   intro gp hg_ _ hbx_ hb_
   replace HS := HS.nw hg_ hbx_ hb_
   clear hg_ hbx_ hb_ hHeld
   refine hK.out _ _ ⟨HS.c 1 1, HS.c 1 2⟩ (fun hHeld => ?_)
   clear hK K
   refine zN ?_
   refine zO 21 (mb 29 167772159) fun K hK => ?_
   refine lit_step HS.out (by rfl) (N := 38) rfl ([k % 256] : List Int) 1 rfl uJ uA ?_
   intro gl _ h1_ hb_
   replace HS := mA (h1_)
   clear hb_ h1_ hHeld
   refine hK.out _ _ ⟨HS.c 1 1, HS.c 1 2⟩ (fun hHeld => ?_)
   clear hK K
   refine zN ?_
   refine zR [(25,42),(26,43)] 1 ?_ ?_
   exact yE
 rintro ⟨gl, gp⟩ wI ⟨hHeld, h1_⟩
 clear HS
 have HS := mA h1_
 clear h1_
 refine norm_ (a' := ?_) ?_ ?_
 rotate_left
 ·exact zK
 refine zo 28 (tf 29 0) fun K hK => ?_
 refine skip_ (w1 := (wI.setCells gp 0 (#[.int .i64 kd0, .int .i64 lf, .int .i64 0, .int .i64 sv.f1, .int .i64 fr, .int .i64 sv.f2, .int .i64 tp0, .int .i64 0, .int .i64 0, .bool false, .int .i64 0, .slice none 0 0, .slice (some ⟨gl, 0, none⟩) j 1] : Array Value).toList)) (by rfl) rfl (run_stpk _ _ _ gp #[.int .i64 0, .int .i64 0, .int .i64 0, .int .i64 0, .int .i64 0, .int .i64 0, .int .i64 0, .int .i64 0, .int .i64 0, .bool false, .int .i64 0, .slice none 0 0, .slice none 0 0] #[.int .i64 kd0, .int .i64 lf, .int .i64 0, .int .i64 sv.f1, .int .i64 fr, .int .i64 sv.f2, .int .i64 tp0, .int .i64 0, .int .i64 0, .bool false, .int .i64 0, .slice none 0 0, .slice (some ⟨gl, 0, none⟩) j 1] (.tmp 9) (.tmp 43) rfl rfl rfl HS.b0 rfl rfl vN) ?_
 have n_ := mA (HS.out.stm 0 rfl 0 [.int .i64 kd0, .int .i64 lf, .int .i64 0, .int .i64 sv.f1, .int .i64 fr, .int .i64 sv.f2, .int .i64 tp0, .int .i64 0, .int .i64 0, .bool false, .int .i64 0, .slice none 0 0, .slice (some ⟨gl, 0, none⟩) j 1] (many13 ..))
 simp only [List.set_cons_zero] at n_
 clear HS hHeld
 generalize World.setCells _ _ _ _ = wJ at n_ ⊢
 have HS := n_
 clear n_
 refine hK.out _ _ ⟨HS.c 1 1, HS.c 1 2⟩ (fun hHeld => ?_)
 clear hK K
 refine done_ uW ?_
 clear hHeld
 obtain ⟨c0_, c1_, c2_, c3_, c4_, c5_, c6_, c7_, c8_, c9_, c10_, c11_, c12_⟩ := cells13 HS.b0
 cases kb : (kd0 == 2) with
 | true =>
  go_wp2_with (first
   | (go_at_call 31; refine (within9_c _ _ uJ uJ _).mono ?_; rintro e_ _ ⟨rfl, hb_⟩; replace HS := HS.bl hb_; clear hb_)
   | ((with_reducible refine zst 3 53 ?_); refine sc3_event HS.out 0 rfl rfl rfl (.tmp 53) (.tmp 48) rfl 8 rfl rfl rfl ?_; intro _ h1_; replace HS := mA h1_; simp only [List.setIfInBounds_toArray, List.set_cons_zero, List.set_cons_succ] at HS; clear h1_)
   | ((with_reducible refine zst 4 54 ?_); refine sc4_event HS.out 0 rfl rfl rfl (.tmp 54) (.tmp 52) rfl 9 rfl rfl rfl ?_; intro _ h1_; replace HS := mA h1_; simp only [List.setIfInBounds_toArray, List.set_cons_zero, List.set_cons_succ] at HS; clear h1_)
   | ((with_reducible refine zd 55 ?_); refine Kd.event_run rfl (run_ldpk _ _ _ gp _ (.tmp 9) rfl rfl HS.b0 rfl) ?_)
   | (refine zS 45 6 HS 2 ?_; clear HS; intro _ HS z_; clear z_))
  refine bodyPost_ret (results_cell_row rfl _ _ tr 45 _ (0, 0) _ rfl HS.b2 Tryz.underlying45 rfl uW) rfl ?_
  first | exact ⟨_, _, _, _, _, _, _, _, _, _, _, _, _, _, _, _, _, [], ([k % 256] : List Int).take j, rfl, rfl, qY, trivial, BY.nil, BY.take (fun x hx => by simp only [List.mem_cons, List.not_mem_nil, or_false] at hx; omega) _, kC, qD, Kd.R_nil _ _ _ _ _, Kd.R_take HS.r0 xH, nil_apart _, HS.nb⟩ | exact ⟨_, _, _, _, _, _, _, _, _, _, _, _, _, _, _, _, _, lo, ([k % 256] : List Int).take j, rfl, rfl, qY, trivial, HY4.out, BY.take (fun x hx => by simp only [List.mem_cons, List.not_mem_nil, or_false] at hx; omega) _, kJ, qD, HS.out.row 0 rfl, Kd.R_take HS.r1 xH, (List.pairwise_cons.1 HS.out.E).1 _ (List.mem_of_getElem? (i := 0) rfl), HS.nb⟩ | exact ⟨_, _, _, _, _, _, _, _, _, _, _, _, _, _, _, _, _, lo, ([k % 256] : List Int).take j, rfl, rfl, qY, trivial, HY4.out, BY.take (fun x hx => by simp only [List.mem_cons, List.not_mem_nil, or_false] at hx; omega) _, kJ, qD, HS.out.row 0 rfl, Kd.R_take HS.r2 xH, (List.pairwise_cons.1 HS.out.E).1 _ (List.mem_of_getElem? (i := 1) rfl), HS.nb⟩
 | false =>
  cases fa : decide (0 < x5) <;>
  (go_wp2_with (first
   | ((with_reducible refine zst 3 59 ?_); refine sc3_event HS.out 0 rfl rfl rfl (.tmp 59) (.tmp 58) rfl 7 rfl rfl rfl ?_; intro _ h1_; replace HS := mA h1_; simp only [List.setIfInBounds_toArray, List.set_cons_zero, List.set_cons_succ] at HS; clear h1_)
   | (go_at_call 37; refine (make4_c _ _ _).mono ?_; rintro e_ _ ⟨Ao, co, lo, rfl, hl4_, hy4_, hr_, hb_⟩; have HL4 := mA hl4_; have HY4 := mA hy4_; clear hl4_ hy4_; replace HS := HS.rw_ hr_ hb_; clear hr_ hb_)
   | ((with_reducible refine zst 39 70 ?_); refine sc39_event HS.out 0 rfl rfl rfl (.tmp 70) (.tmp 69) rfl 11 rfl rfl rfl ?_; intro _ h1_; replace HS := mA h1_; simp only [List.setIfInBounds_toArray, List.set_cons_zero, List.set_cons_succ] at HS; clear h1_)
   | ((with_reducible refine zd 71 ?_); refine Kd.event_run rfl (run_ldpk _ _ _ gp _ (.tmp 9) rfl rfl HS.b0 rfl) ?_)
   | (refine zS 45 6 HS 2 ?_; clear HS; intro _ HS z_; clear z_))
   refine bodyPost_ret (results_cell_row rfl _ _ tr 45 _ (0, 0) _ rfl HS.b2 Tryz.underlying45 rfl uW) rfl ?_
   first | exact ⟨_, _, _, _, _, _, _, _, _, _, _, _, _, _, _, _, _, [], ([k % 256] : List Int).take j, rfl, rfl, qY, trivial, BY.nil, BY.take (fun x hx => by simp only [List.mem_cons, List.not_mem_nil, or_false] at hx; omega) _, kC, qD, Kd.R_nil _ _ _ _ _, Kd.R_take HS.r0 xH, nil_apart _, HS.nb⟩ | exact ⟨_, _, _, _, _, _, _, _, _, _, _, _, _, _, _, _, _, lo, ([k % 256] : List Int).take j, rfl, rfl, qY, trivial, HY4.out, BY.take (fun x hx => by simp only [List.mem_cons, List.not_mem_nil, or_false] at hx; omega) _, kJ, qD, HS.out.row 0 rfl, Kd.R_take HS.r1 xH, (List.pairwise_cons.1 HS.out.E).1 _ (List.mem_of_getElem? (i := 0) rfl), HS.nb⟩ | exact ⟨_, _, _, _, _, _, _, _, _, _, _, _, _, _, _, _, _, lo, ([k % 256] : List Int).take j, rfl, rfl, qY, trivial, HY4.out, BY.take (fun x hx => by simp only [List.mem_cons, List.not_mem_nil, or_false] at hx; omega) _, kJ, qD, HS.out.row 0 rfl, Kd.R_take HS.r2 xH, (List.pairwise_cons.1 HS.out.E).1 _ (List.mem_of_getElem? (i := 1) rfl), HS.nb⟩)
end
end Go.Proofs.YtkpfojpmigchlaaGreat.Own
