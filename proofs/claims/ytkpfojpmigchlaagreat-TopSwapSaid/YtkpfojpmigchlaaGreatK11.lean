/- Parts of the proof of TopSwap, laid together and made shorter by a program of this claim. -/
import Derived.Test.YtkpfojpmigchlaaGreatK10
import Derived.Test.YtkpfojpmigchlaaGreatK01
import Derived.Test.YtkpfojpmigchlaaGreatK03
set_option linter.unusedVariables false
set_option linter.unusedSimpArgs false
namespace Go.Proofs.YtkpfojpmigchlaaGreat.Own
open Go Go.RowKit Go.Proofs.YtkpfojpmigchlaaGreatW.PrintWords Go.Proofs.YtkpfojpmigchlaaGreatW.PrintMore Go.Proofs.YtkpfojpmigchlaaGreatW.PrintLast Go.Proofs.YtkpfojpmigchlaaGreat.Q
open Go.Proofs.YtkpfojpmigchlaaGreat.Zip
open Go.Proofs.YtkpfojpmigchlaaGreat.Zap
set_option maxHeartbeats 16000000
set_option maxRecDepth 100000
theorem cells8 {w : World} {g t : Nat} {a0 a1 a2 a3 a4 a5 a6 a7 : Value} (h : Blk w g t #[a0, a1, a2, a3, a4, a5, a6, a7]) : w.cell? ⟨g, 0, none⟩ = some a0 ∧ w.cell? ⟨g, 1, none⟩ = some a1 ∧ w.cell? ⟨g, 2, none⟩ = some a2 ∧ w.cell? ⟨g, 3, none⟩ = some a3 ∧ w.cell? ⟨g, 4, none⟩ = some a4 ∧ w.cell? ⟨g, 5, none⟩ = some a5 ∧ w.cell? ⟨g, 6, none⟩ = some a6 ∧ w.cell? ⟨g, 7, none⟩ = some a7 :=
 ⟨(blk_cell h 0).trans rfl, (blk_cell h 1).trans rfl, (blk_cell h 2).trans rfl, (blk_cell h 3).trans rfl, (blk_cell h 4).trans rfl, (blk_cell h 5).trans rfl, (blk_cell h 6).trans rfl, (blk_cell h 7).trans rfl⟩
theorem run_al8 (ev : Operand → Value) (o : Oper) (w : World) (ho : o.op = .alloc 147) : (execOp ev o).run Tryz.prog w = .ok (.value (.pointer (some ⟨w.heap.size, 0, none⟩))) (w.alloc (.cells #[.int .i64 0, .int .i64 0, .int .i64 0, .int .i64 0, .int .i64 0, .int .i64 0, .int .i64 0, .int .i64 0] 147 (0, 0))) := by
 cases o with
 | mk dst op ty pos after guard =>
  obtain rfl : op = _ := ho
  kernel_rfl
theorem make3_calls (kind : Int) (gns : Nat) (y0 y1 y2 y3 y4 y5 y6 y7 : Int) (W : World) (hN : Blk W gns 3 #[.int .i64 y0, .int .i64 y1, .int .i64 y2, .int .i64 y3, .int .i64 y4, .int .i64 y5, .int .i64 y6, .int .i64 y7]) : Calls Tryz.prog 35 #[.int .i64 kind, .slice (some ⟨gns, 0, none⟩) 8 8, .slice none 0 0] W fun e w' => PKR W (fun _ _ _ _ _ _ _ _ => True) e w' := by
 have hu45 := Tryz.underlying45
 have hu8 := Tryz.underlying147
 have HB := mA hN
 have HS : Aside0 (St (fun _ => False) W W [] []) := ⟨St.init _ _⟩
 clear hN
 go_enter Tryz.func35, Tryz.ntmps35
 go_wp2_with (first
  | (refine zB 6 HS (run_pk _ _ _ rfl) ?_; clear HS; intro tr _ HS z_; clear z_)
  | (refine zB 7 HS (run_al8 _ _ _ rfl) ?_; clear HS; intro gn _ HS z_; clear z_))
 go_loopg [8] 9 (fun kq v8 w' => ∃ (i : Nat) (x0 x1 x2 x3 x4 x5 x6 x7 : Int), v8 = .int .i64 (i : Int) ∧ Aside0 (i + kq = 9 ∧ i ≤ 8) ∧ Aside0 (St (fun _ => False) W w' [(gn, 147, #[.int .i64 x0, .int .i64 x1, .int .i64 x2, .int .i64 x3, .int .i64 x4, .int .i64 x5, .int .i64 x6, .int .i64 x7]), (tr, 45, #[.int .i64 0, .int .i64 0, .int .i64 0, .int .i64 0, .int .i64 0, .int .i64 0, .int .i64 0, .int .i64 0, .int .i64 0, .bool false, .int .i64 0, .slice none 0 0, .slice none 0 0])] []))
 case atStart => exact ⟨0, 0, 0, 0, 0, 0, 0, 0, 0, rfl, ⟨kC⟩, HS⟩
 case round =>
  clear HS
  obtain ⟨i, x0, x1, x2, x3, x4, x5, x6, x7, rfl, HI, HS⟩ := hrel
  cases gk with
  | zero => have := HI.out; omega
  | succ k1 =>
   rcases (show i = 0 ∨ i = 1 ∨ i = 2 ∨ i = 3 ∨ i = 4 ∨ i = 5 ∨ i = 6 ∨ i = 7 ∨ i = 8 from by have h_ := HI.out; omega) with rfl | rfl | rfl | rfl | rfl | rfl | rfl | rfl | rfl
   iterate 8
    ·skip
     have hw0_ : wrap64 (0 + 1) = 1 := w64 uJ uJ
     have hw1_ : wrap64 (1 + 1) = 2 := w64 uJ uJ
     have hw2_ : wrap64 (2 + 1) = 3 := w64 uJ uJ
     have hw3_ : wrap64 (3 + 1) = 4 := w64 uJ uJ
     have hw4_ : wrap64 (4 + 1) = 5 := w64 uJ uJ
     have hw5_ : wrap64 (5 + 1) = 6 := w64 uJ uJ
     have hw6_ : wrap64 (6 + 1) = 7 := w64 uJ uJ
     have hw7_ : wrap64 (7 + 1) = 8 := w64 uJ uJ
     obtain ⟨b0_, b1_, b2_, b3_, b4_, b5_, b6_, b7_⟩ := cells8 (HB.out.below HS.nb)
     go_wp2_with (first
      | (go_at_call 87; refine (within3_c _ _ uJ uJ _).mono ?_; rintro e_ _ ⟨rfl, hb_⟩; replace HS := HS.bl hb_; clear hb_)
      | ((with_reducible refine zst 3 28 ?_); refine sc3_event HS.out 0 rfl rfl rfl (.tmp 28) (.tmp 27) rfl _ rfl rfl rfl ?_; intro _ h1_; replace HS := mA h1_; simp only [List.setIfInBounds_toArray, List.set_cons_zero, List.set_cons_succ] at HS; clear h1_))
     go_roundg k1
     case measure => omega
     case rel => first | exact ⟨1, _, _, _, _, _, _, _, _, rfl, ⟨kX⟩, HS⟩ | exact ⟨2, _, _, _, _, _, _, _, _, rfl, ⟨kX⟩, HS⟩ | exact ⟨3, _, _, _, _, _, _, _, _, rfl, ⟨kX⟩, HS⟩ | exact ⟨4, _, _, _, _, _, _, _, _, rfl, ⟨kX⟩, HS⟩ | exact ⟨5, _, _, _, _, _, _, _, _, rfl, ⟨kX⟩, HS⟩ | exact ⟨6, _, _, _, _, _, _, _, _, rfl, ⟨kX⟩, HS⟩ | exact ⟨7, _, _, _, _, _, _, _, _, rfl, ⟨kX⟩, HS⟩ | exact ⟨8, _, _, _, _, _, _, _, _, rfl, ⟨kX⟩, HS⟩
   ·skip
    clear HI
    obtain ⟨kx, hkx⟩ : ∃ y, y = kind % 3 := ⟨_, rfl⟩
    obtain ⟨kd0, hkd⟩ : ∃ y, wrap64 (1 + kx) = y := ⟨_, rfl⟩
    have HKD : Aside0 (kd0 = 1 ∨ kd0 = 2 ∨ kd0 = 3) := ⟨by rw [← hkd, w64 uY uY]; omega⟩
    have HKX := mA hkx
    clear hkx
    go_upto_region 6 with fail
    replace HS := HS.dr
    refine zT 23 (fun w' => w'.cell? ⟨gn, 0, none⟩ = some (.int .i64 x0) ∧ w'.cell? ⟨gn, 1, none⟩ = some (.int .i64 x1) ∧ w'.cell? ⟨gn, 2, none⟩ = some (.int .i64 x2)) ⟨HS.c 0 0, HS.c 0 1, HS.c 0 2⟩ fun hHeld => ?_
    generalize World.drew _ = wD at HS hHeld ⊢
    refine zR [(0,29),(3,32),(7,36),(10,39),(14,43),(15,44),(16,45),(17,46),(18,47),(4,33),(5,34),(6,35),(8,37),(9,38),(11,40),(12,41)] 7 ?_ ?_
    refine join_ (σ := (Nat × Option Addr × Nat × Nat) × Nat) 1 (tf 22 1) (fun s_ => [(30, .int .i64 kx), (31, .int .i64 (wrap64 (1 + kx))), (42, .slice (some ⟨s_.1.1, 0, none⟩) 0 0), (48, .slice s_.1.2.1 s_.1.2.2.1 s_.1.2.2.2), (49, .agg #[.int .i64 kd0, .int .i64 (wrap64 (2 + Int.tmod x0 254)), .int .i64 0, .int .i64 (Int.tmod x1 4294967296), .int .i64 (Int.tmod x2 4294967296), .int .i64 0, .int .i64 0, .int .i64 0, .int .i64 0, .bool false, .int .i64 0, .slice none 0 0, .slice s_.1.2.1 s_.1.2.2.1 s_.1.2.2.2]), (9, .pointer (some ⟨s_.2, 0, none⟩))]) (fun s_ w' => (w'.cell? ⟨gn, 0, none⟩ = some (.int .i64 x0) ∧ w'.cell? ⟨gn, 1, none⟩ = some (.int .i64 x1) ∧ w'.cell? ⟨gn, 2, none⟩ = some (.int .i64 x2)) ∧ s_.1.2.2.1 = 0 ∧ St (fun _ => False) W w' [(s_.2, 45, #[.int .i64 0, .int .i64 0, .int .i64 0, .int .i64 0, .int .i64 0, .int .i64 0, .int .i64 0, .int .i64 0, .int .i64 0, .bool false, .int .i64 0, .slice none 0 0, .slice none 0 0]), (gn, 147, #[.int .i64 x0, .int .i64 x1, .int .i64 x2, .int .i64 x3, .int .i64 x4, .int .i64 x5, .int .i64 x6, .int .i64 x7]), (tr, 45, #[.int .i64 0, .int .i64 0, .int .i64 0, .int .i64 0, .int .i64 0, .int .i64 0, .int .i64 0, .int .i64 0, .int .i64 0, .bool false, .int .i64 0, .slice none 0 0, .slice none 0 0])] [(.slice s_.1.2.1 s_.1.2.2.1 s_.1.2.2.2, [])]) ?_ ?_
    rotate_left
    ·intro hCont
     refine three_ (i := 1) (j := 13) (k := 21) (Ni := some 30) (Nj := some 42) (Nk := some 9) (mb 23 516091) (mb 23 524281) (mb 23 2613241) rfl rfl rfl rfl rfl rfl uW uJ uJ uJ (fun K hK => ?_) (fun K hK => ?_) (fun K hK => ?_)
     ·skip
      refine zG Tryz.func87 ((within3_c kind 3 uJ uJ _).mono ?_)
      rintro e_ _ ⟨rfl, hb_⟩
      rw [← HKX.out]
      refine ⟨_, rfl, ?_⟩
      replace HS := HS.bl hb_
      clear hb_ hHeld
      refine hK.out _ _ ⟨HS.c 0 0, HS.c 0 1, HS.c 0 2⟩ (fun hHeld => ?_)
      clear hK K
      refine zN ?_
      refine zP 2 31 (mb 23 516095) ?_
      refine two_ (i := 13) (j := 21) (Ni := some 42) (Nj := some 9) (tf 19 4) (mb 23 2613247) rfl rfl rfl rfl uW uJ uJ (fun K hK => ?_) (fun K hK => ?_)
      ·skip
       refine lit_step HS.out (by rfl) (N := 42) rfl ([] : List Int) 0 rfl uJ uA ?_
       intro gl _ h1_ hb_
       replace HS := mA (h1_)
       clear hb_ h1_ hHeld
       refine hK.out _ _ ⟨HS.c 0 0, HS.c 0 1, HS.c 0 2⟩ (fun hHeld => ?_)
       clear hK K
       refine zN ?_
       refine two_ (i := 19) (j := 21) (Ni := some 48) (Nj := some 9) (tf 20 3) (mb 23 2621439) rfl rfl rfl rfl uW uJ uJ (fun K hK => ?_) (fun K hK => ?_)
       ·exact jT
       ·exact jE
      ·skip
       refine box_step (by rfl) (N := 9) rfl (run_pk _ _ _ rfl) ?_
       intro gp hg_ _ hbx_ hb_
       replace HS := HS.nw hg_ hbx_ hb_
       clear hg_ hbx_ hb_ hHeld
       refine hK.out _ _ ⟨HS.c 1 0, HS.c 1 1, HS.c 1 2⟩ (fun hHeld => ?_)
       clear hK K
       refine zN ?_
       refine zO 13 (mb 23 2621439) fun K hK => ?_
       refine lit_step HS.out (by rfl) (N := 42) rfl ([] : List Int) 0 rfl uJ uA ?_
       intro gl _ h1_ hb_
       replace HS := mA (h1_)
       clear hb_ h1_ hHeld
       refine hK.out _ _ ⟨HS.c 1 0, HS.c 1 1, HS.c 1 2⟩ (fun hHeld => ?_)
       clear hK K
       refine zN ?_
       refine zO 19 (mb 23 3145727) fun K hK => ?_
       refine ap_step HS.out HS.nb (by rfl) (.tmp 42) (.tmp 47) rfl 0 rfl rfl rfl (Kd.R_reads' (Kd.R_nil (Kd.int .u8) 5 _ 0 (fun _ => True))).2.2 vE ?_
       intro A1 n1 c1 l1 _ hl_ hn_ h1_
       have HL1_ : Aside0 (l1 = [] ∧ n1 = 0) := ⟨kM⟩
       replace HS := mA (h1_)
       simp only [List.set_cons_zero, List.set_cons_succ] at HS
       clear hl_ hn_ h1_ hHeld
       refine hK.out _ _ ⟨HS.c 1 0, HS.c 1 1, HS.c 1 2⟩ (fun hHeld => ?_)
       clear hK K
       refine zN ?_
       refine zP 20 49 (tf 22 1) ?_
       exact yA
     ·skip
      refine lit_step HS.out (by rfl) (N := 42) rfl ([] : List Int) 0 rfl uJ uA ?_
      intro gl _ h1_ hb_
      replace HS := mA (h1_)
      clear hb_ h1_ hHeld
      refine hK.out _ _ ⟨HS.c 0 0, HS.c 0 1, HS.c 0 2⟩ (fun hHeld => ?_)
      clear hK K
      refine zN ?_
      refine two_ (i := 1) (j := 21) (Ni := some 30) (Nj := some 9) (mb 23 524283) (mb 23 2621433) rfl rfl rfl rfl uW uJ uJ (fun K hK => ?_) (fun K hK => ?_)
      ·skip
       refine zG Tryz.func87 ((within3_c kind 3 uJ uJ _).mono ?_)
       rintro e_ _ ⟨rfl, hb_⟩
       rw [← HKX.out]
       refine ⟨_, rfl, ?_⟩
       replace HS := HS.bl hb_
       clear hb_ hHeld
       refine hK.out _ _ ⟨HS.c 0 0, HS.c 0 1, HS.c 0 2⟩ (fun hHeld => ?_)
       clear hK K
       refine zN ?_
       refine zP 2 31 (tf 19 4) ?_
       refine two_ (i := 19) (j := 21) (Ni := some 48) (Nj := some 9) (tf 20 3) (mb 23 2621439) rfl rfl rfl rfl uW uJ uJ (fun K hK => ?_) (fun K hK => ?_)
       ·exact jT
       ·exact jE
      ·skip
       refine box_step (by rfl) (N := 9) rfl (run_pk _ _ _ rfl) ?_
       intro gp hg_ _ hbx_ hb_
       replace HS := HS.nw hg_ hbx_ hb_
       clear hg_ hbx_ hb_ hHeld
       refine hK.out _ _ ⟨HS.c 1 0, HS.c 1 1, HS.c 1 2⟩ (fun hHeld => ?_)
       clear hK K
       refine zN ?_
       refine zO 1 (mb 23 2621435) fun K hK => ?_
       refine zG Tryz.func87 ((within3_c kind 3 uJ uJ _).mono ?_)
       rintro e_ _ ⟨rfl, hb_⟩
       rw [← HKX.out]
       refine ⟨_, rfl, ?_⟩
       replace HS := HS.bl hb_
       clear hb_ hHeld
       refine hK.out _ _ ⟨HS.c 1 0, HS.c 1 1, HS.c 1 2⟩ (fun hHeld => ?_)
       clear hK K
       refine zN ?_
       refine zP 2 31 (mb 23 2621439) ?_
       refine zO 19 (mb 23 3145727) fun K hK => ?_
       refine ap_step HS.out HS.nb (by rfl) (.tmp 42) (.tmp 47) rfl 0 rfl rfl rfl (Kd.R_reads' (Kd.R_nil (Kd.int .u8) 5 _ 0 (fun _ => True))).2.2 vE ?_
       intro A1 n1 c1 l1 _ hl_ hn_ h1_
       have HL1_ : Aside0 (l1 = [] ∧ n1 = 0) := ⟨kM⟩
       replace HS := mA (h1_)
       simp only [List.set_cons_zero, List.set_cons_succ] at HS
       clear hl_ hn_ h1_ hHeld
       refine hK.out _ _ ⟨HS.c 1 0, HS.c 1 1, HS.c 1 2⟩ (fun hHeld => ?_)
       clear hK K
       refine zN ?_
       refine zP 20 49 (tf 22 1) ?_
       exact yA
     ·skip
      refine box_step (by rfl) (N := 9) rfl (run_pk _ _ _ rfl) ?_
      intro gp hg_ _ hbx_ hb_
      replace HS := HS.nw hg_ hbx_ hb_
      clear hg_ hbx_ hb_ hHeld
      refine hK.out _ _ ⟨HS.c 1 0, HS.c 1 1, HS.c 1 2⟩ (fun hHeld => ?_)
      clear hK K
      refine zN ?_
      refine two_ (i := 1) (j := 13) (Ni := some 30) (Nj := some 42) (mb 23 2613243) (mb 23 2621433) rfl rfl rfl rfl uW uJ uJ (fun K hK => ?_) (fun K hK => ?_)
      ·skip
       refine zG Tryz.func87 ((within3_c kind 3 uJ uJ _).mono ?_)
       rintro e_ _ ⟨rfl, hb_⟩
       rw [← HKX.out]
       refine ⟨_, rfl, ?_⟩
       replace HS := HS.bl hb_
       clear hb_ hHeld
       refine hK.out _ _ ⟨HS.c 1 0, HS.c 1 1, HS.c 1 2⟩ (fun hHeld => ?_)
       clear hK K
       refine zN ?_
       refine zP 2 31 (mb 23 2613247) ?_
       refine zO 13 (mb 23 2621439) fun K hK => ?_
       refine lit_step HS.out (by rfl) (N := 42) rfl ([] : List Int) 0 rfl uJ uA ?_
       intro gl _ h1_ hb_
       replace HS := mA (h1_)
       clear hb_ h1_ hHeld
       refine hK.out _ _ ⟨HS.c 1 0, HS.c 1 1, HS.c 1 2⟩ (fun hHeld => ?_)
       clear hK K
       refine zN ?_
       refine zO 19 (mb 23 3145727) fun K hK => ?_
       refine ap_step HS.out HS.nb (by rfl) (.tmp 42) (.tmp 47) rfl 0 rfl rfl rfl (Kd.R_reads' (Kd.R_nil (Kd.int .u8) 5 _ 0 (fun _ => True))).2.2 vE ?_
       intro A1 n1 c1 l1 _ hl_ hn_ h1_
       have HL1_ : Aside0 (l1 = [] ∧ n1 = 0) := ⟨kM⟩
       replace HS := mA (h1_)
       simp only [List.set_cons_zero, List.set_cons_succ] at HS
       clear hl_ hn_ h1_ hHeld
       refine hK.out _ _ ⟨HS.c 1 0, HS.c 1 1, HS.c 1 2⟩ (fun hHeld => ?_)
       clear hK K
       refine zN ?_
       refine zP 20 49 (tf 22 1) ?_
       exact yA
      ·skip
       refine lit_step HS.out (by rfl) (N := 42) rfl ([] : List Int) 0 rfl uJ uA ?_
       intro gl _ h1_ hb_
       replace HS := mA (h1_)
       clear hb_ h1_ hHeld
       refine hK.out _ _ ⟨HS.c 1 0, HS.c 1 1, HS.c 1 2⟩ (fun hHeld => ?_)
       clear hK K
       refine zN ?_
       refine zO 1 (mb 23 2621435) fun K hK => ?_
       refine zG Tryz.func87 ((within3_c kind 3 uJ uJ _).mono ?_)
       rintro e_ _ ⟨rfl, hb_⟩
       rw [← HKX.out]
       refine ⟨_, rfl, ?_⟩
       replace HS := HS.bl hb_
       clear hb_ hHeld
       refine hK.out _ _ ⟨HS.c 1 0, HS.c 1 1, HS.c 1 2⟩ (fun hHeld => ?_)
       clear hK K
       refine zN ?_
       refine zP 2 31 (mb 23 2621439) ?_
       refine zO 19 (mb 23 3145727) fun K hK => ?_
       refine ap_step HS.out HS.nb (by rfl) (.tmp 42) (.tmp 47) rfl 0 rfl rfl rfl (Kd.R_reads' (Kd.R_nil (Kd.int .u8) 5 _ 0 (fun _ => True))).2.2 vE ?_
       intro A1 n1 c1 l1 _ hl_ hn_ h1_
       have HL1_ : Aside0 (l1 = [] ∧ n1 = 0) := ⟨kM⟩
       replace HS := mA (h1_)
       simp only [List.set_cons_zero, List.set_cons_succ] at HS
       clear hl_ hn_ h1_ hHeld
       refine hK.out _ _ ⟨HS.c 1 0, HS.c 1 1, HS.c 1 2⟩ (fun hHeld => ?_)
       clear hK K
       refine zN ?_
       refine zP 20 49 (tf 22 1) ?_
       exact yA
    rintro ⟨⟨gl, A1, n1, c1⟩, gp⟩ wI ⟨hHeld, hn1_, h1_⟩
    clear HS
    have HS := mA h1_
    have HN1 : Aside0 (n1 = 0) := ⟨hn1_⟩
    clear h1_ hn1_
    refine norm_ (a' := ?_) ?_ ?_
    rotate_left
    ·exact zK
    refine zo 22 (tf 23 0) fun K hK => ?_
    refine skip_ (w1 := (wI.setCells gp 0 (#[.int .i64 kd0, .int .i64 (wrap64 (2 + Int.tmod x0 254)), .int .i64 0, .int .i64 (Int.tmod x1 4294967296), .int .i64 (Int.tmod x2 4294967296), .int .i64 0, .int .i64 0, .int .i64 0, .int .i64 0, .bool false, .int .i64 0, .slice none 0 0, .slice A1 n1 c1] : Array Value).toList)) (by rfl) rfl (run_stpk _ _ _ gp #[.int .i64 0, .int .i64 0, .int .i64 0, .int .i64 0, .int .i64 0, .int .i64 0, .int .i64 0, .int .i64 0, .int .i64 0, .bool false, .int .i64 0, .slice none 0 0, .slice none 0 0] #[.int .i64 kd0, .int .i64 (wrap64 (2 + Int.tmod x0 254)), .int .i64 0, .int .i64 (Int.tmod x1 4294967296), .int .i64 (Int.tmod x2 4294967296), .int .i64 0, .int .i64 0, .int .i64 0, .int .i64 0, .bool false, .int .i64 0, .slice none 0 0, .slice A1 n1 c1] (.tmp 9) (.tmp 49) rfl rfl rfl HS.b0 rfl rfl vN) ?_
    have n_ := mA (HS.out.stm 0 rfl 0 [.int .i64 kd0, .int .i64 (wrap64 (2 + Int.tmod x0 254)), .int .i64 0, .int .i64 (Int.tmod x1 4294967296), .int .i64 (Int.tmod x2 4294967296), .int .i64 0, .int .i64 0, .int .i64 0, .int .i64 0, .bool false, .int .i64 0, .slice none 0 0, .slice A1 n1 c1] (many13 ..))
    simp only [List.set_cons_zero] at n_
    clear HS hHeld
    generalize World.setCells _ _ _ _ = wJ at n_ ⊢
    have HS := n_
    clear n_
    refine hK.out _ _ ⟨HS.c 1 0, HS.c 1 1, HS.c 1 2⟩ (fun hHeld => ?_)
    clear hK K
    refine done_ uW ?_
    clear hHeld
    obtain ⟨n0_, n1_, n2_, n3_, n4_, n5_, n6_, n7_⟩ := cells8 HS.b1
    cases f7 : (Int.tmod x0 7 == 0) <;> cases f11 : (Int.tmod x0 11 == 0) <;>
    (go_upto_region 11 with (first
     | ((with_reducible refine zst 3 58 ?_); refine sc3_event HS.out 0 rfl rfl rfl (.tmp 58) (.tmp 57) rfl 1 rfl rfl rfl ?_; intro _ h1_; replace HS := mA h1_; simp only [List.setIfInBounds_toArray, List.set_cons_zero, List.set_cons_succ] at HS; clear h1_ n0_ n1_ n2_ n3_ n4_ n5_ n6_ n7_; obtain ⟨n0_, n1_, n2_, n3_, n4_, n5_, n6_, n7_⟩ := cells8 HS.b1)
     | ((with_reducible refine zst 3 67 ?_); refine sc3_event HS.out 0 rfl rfl rfl (.tmp 67) (.tmp 66) rfl 2 rfl rfl rfl ?_; intro _ h1_; replace HS := mA h1_; simp only [List.setIfInBounds_toArray, List.set_cons_zero, List.set_cons_succ] at HS; clear h1_ n0_ n1_ n2_ n3_ n4_ n5_ n6_ n7_; obtain ⟨n0_, n1_, n2_, n3_, n4_, n5_, n6_, n7_⟩ := cells8 HS.b1))
     have HS2 : Aside0 (∃ (lf pc : Int), St (fun _ => False) W _ [(gp, 45, #[.int .i64 kd0, .int .i64 lf, .int .i64 pc, .int .i64 (Int.tmod x1 4294967296), .int .i64 (Int.tmod x2 4294967296), .int .i64 0, .int .i64 0, .int .i64 0, .int .i64 0, .bool false, .int .i64 0, .slice none 0 0, .slice A1 n1 c1]), (gn, 147, #[.int .i64 x0, .int .i64 x1, .int .i64 x2, .int .i64 x3, .int .i64 x4, .int .i64 x5, .int .i64 x6, .int .i64 x7]), (tr, 45, #[.int .i64 0, .int .i64 0, .int .i64 0, .int .i64 0, .int .i64 0, .int .i64 0, .int .i64 0, .int .i64 0, .int .i64 0, .bool false, .int .i64 0, .slice none 0 0, .slice none 0 0])] [(.slice A1 n1 c1, [])]) := ⟨⟨_, _, HS.out⟩⟩
     obtain ⟨lf, pc, h_⟩ := HS2.out
     clear HS HS2
     have HS := mA h_
     clear h_
     have k0_ : World.cell? _ ⟨gp, 0, none⟩ = some (.int .i64 kd0) := HS.c 0 0
     rcases HKD.out with hk | hk | hk
     ·skip
      rw [hk] at hkd
      subst hk
      go_upto_region 12 with fail
      clear k0_ n0_ n1_ n2_ n3_ n4_ n5_ n6_ n7_
      replace HS := HS.dr
      refine zT 15 (fun w' => w'.cell? ⟨gn, 3, none⟩ = some (.int .i64 x3) ∧ w'.cell? ⟨gn, 4, none⟩ = some (.int .i64 x4) ∧ w'.cell? ⟨gn, 5, none⟩ = some (.int .i64 x5)) ⟨HS.c 1 3, HS.c 1 4, HS.c 1 5⟩ fun hHeld => ?_
      generalize World.drew _ = wE at HS hHeld ⊢
      refine zR [(0,70),(3,73),(6,76),(1,71),(2,72),(9,79),(4,74),(5,75),(7,77),(8,78)] 5 ?_ ?_
      refine zo 10 (tf 11 4) fun K hK => ?_
      refine zC HS 0 5 (run_c3 _ _ _ gp 5 0 (Int.tmod x3 65536) (.tmp 79) (.tmp 72) rfl rfl rfl (HS.c 0 5) (HS.f 0 5)) ?_
      clear HS hHeld
      intro wA HS
      refine hK.out _ _ ⟨HS.c 1 3, HS.c 1 4, HS.c 1 5⟩ (fun hHeld => ?_)
      clear hK K
      refine zP 11 80 (tf 12 3) ?_
      refine zo 12 (tf 13 2) fun K hK => ?_
      refine zC HS 0 6 (run_c3 _ _ _ gp 6 0 (Int.tmod x4 65536) (.tmp 80) (.tmp 75) rfl rfl rfl (HS.c 0 6) (HS.f 0 6)) ?_
      clear HS hHeld
      intro wB HS
      refine hK.out _ _ ⟨HS.c 1 3, HS.c 1 4, HS.c 1 5⟩ (fun hHeld => ?_)
      clear hK K
      refine zP 13 81 (tf 14 1) ?_
      refine zo 14 (tf 15 0) fun K hK => ?_
      refine zC HS 0 7 (run_c3 _ _ _ gp 7 0 (Int.tmod x5 16) (.tmp 81) (.tmp 78) rfl rfl rfl (HS.c 0 7) (HS.f 0 7)) ?_
      clear HS hHeld
      intro wC HS
      refine hK.out _ _ ⟨HS.c 1 3, HS.c 1 4, HS.c 1 5⟩ (fun hHeld => ?_)
      clear hK K
      refine done_ uW ?_
      clear hHeld
      obtain ⟨kk, hkk⟩ : ∃ y, Int.tmod x6 41 = y := ⟨_, rfl⟩
      have HKK : Aside0 (kk ≤ 40) := ⟨by rw [← hkk]; have h_ := Int.tmod_lt_of_pos x6 (show (0 : Int) < 41 by decide); omega⟩
      obtain ⟨n0_, n1_, n2_, n3_, n4_, n5_, n6_, n7_⟩ := cells8 HS.b1
      go_wp2_with fail
      clear n0_ n1_ n2_ n3_ n4_ n5_ n6_ n7_
      go_loopg [11] 42 (fun kq v11 w' => ∃ (i : Nat) (Ao : Option Addr) (no co : Nat) (lo : List Int), v11 = .int .i64 (i : Int) ∧ Aside0 (i + kq = 42 ∧ i ≤ 41 ∧ no = i ∧ no = lo.length) ∧ Aside0 (BY lo) ∧ Aside0 (St (fun _ => False) W w' [(gp, 45, #[.int .i64 1, .int .i64 lf, .int .i64 pc, .int .i64 (Int.tmod x1 4294967296), .int .i64 (Int.tmod x2 4294967296), .int .i64 (Int.tmod x3 65536), .int .i64 (Int.tmod x4 65536), .int .i64 (Int.tmod x5 16), .int .i64 0, .bool false, .int .i64 0, .slice Ao no co, .slice A1 n1 c1]), (gn, 147, #[.int .i64 x0, .int .i64 x1, .int .i64 x2, .int .i64 x3, .int .i64 x4, .int .i64 x5, .int .i64 x6, .int .i64 x7]), (tr, 45, #[.int .i64 0, .int .i64 0, .int .i64 0, .int .i64 0, .int .i64 0, .int .i64 0, .int .i64 0, .int .i64 0, .int .i64 0, .bool false, .int .i64 0, .slice none 0 0, .slice none 0 0])] [(.slice Ao no co, lo), (.slice A1 n1 c1, [])]))
      case atStart => exact ⟨0, none, 0, 0, [], rfl, ⟨by simp⟩, ⟨BY.nil⟩, ⟨HS.out.rown⟩⟩
      case round =>
       clear HS
       obtain ⟨i, Ao, no, co, lo, rfl, HI, HYO, HS⟩ := hrel
       cases gk with
       | zero => have := HI.out; omega
       | succ k1 =>
        cases fc : decide ((i : Int) < kk) with
        | true =>
         have hi1_ : wrap64 ((i : Int) + 1) = ((i + 1 : Nat) : Int) := by rw [w64 uY vK]; omega
         have k11_ : World.cell? _ ⟨gp, 11, none⟩ = some (.slice Ao no co) := HS.c 0 11
         obtain ⟨n0_, n1_, n2_, n3_, n4_, n5_, n6_, n7_⟩ := cells8 HS.b1
         go_wp2_with (first
          | ((with_reducible refine zd 99 ?_); refine lit_event HS.out rfl (N := 99) rfl ([_] : List Int) 1 rfl uJ uA ?_; intro gl _ h1_ hb_; replace HS := mA (h1_); clear h1_ hb_)
          | ((with_reducible refine gate_builtin (b := .append) (xs := #[.tmp 91, .tmp 99]) rfl ?_); at_builtin; refine ap_event HS.out HS.nb rfl (.tmp 91) (.tmp 99) rfl 1 rfl rfl rfl (Kd.R_reads' HS.r0).2.2 vK ?_; intro An nn cn ln _ hl_ hn_ h1_; have HNN : Aside0 (nn = no + 1 ∧ nn = ln.length) := ⟨kK⟩; have HYN : Aside0 (BY ln) := ⟨by rw [hl_]; exact BY.app HYO.out (fun x hx => by obtain rfl := List.mem_singleton.1 hx; first | exact w8 _ | omega)⟩; replace HS := mA (h1_.sub (List.Sublist.refl _) (List.Sublist.cons _ (List.Sublist.refl _))); clear hl_ hn_ h1_)
          | ((with_reducible refine zst 39 101 ?_); refine sc39_event HS.out 0 rfl rfl rfl (.tmp 101) (.tmp 100) rfl 11 rfl rfl rfl ?_; intro _ h1_; replace HS := mA h1_; simp only [List.setIfInBounds_toArray, List.set_cons_zero, List.set_cons_succ] at HS; clear h1_))
         go_roundg k1
         case measure => omega
         case rel => exact ⟨i + 1, An, nn, cn, ln, by first | rfl | (rw [hi1_]) | (simp only [hi1_]; done), ⟨by have h_ := HI.out; have h2_ := HNN.out; have h3_ := of_decide_eq_true fc; have h4_ := HKK.out; omega⟩, HYN, HS⟩
        | false =>
         go_wp2_with (first
          | ((with_reducible refine zd 145 ?_); refine Kd.event_run rfl (run_ldpk _ _ _ gp _ (.tmp 9) rfl rfl HS.b0 rfl) ?_)
          | (refine zS 45 6 HS 2 ?_; clear HS; intro _ HS z_; clear z_))
         refine bodyPost_ret (results_cell_row rfl _ _ tr 45 _ (0, 0) _ rfl HS.b2 Tryz.underlying45 rfl uW) rfl ?_
         exact ⟨_, _, _, _, _, _, _, _, _, _, _, _, _, _, _, _, _, lo, [], rfl, HI.out.2.2.2, by rw [HN1.out]; rfl, trivial, HYO.out, BY.nil, kX, by rw [HN1.out]; decide, HS.out.row 0 rfl, HS.out.row 1 rfl, (List.pairwise_cons.1 HS.out.E).1 _ (List.mem_of_getElem? (i := 0) rfl), HS.nb⟩
     ·skip
      rw [hk] at hkd
      subst hk
      go_upto_region 23 with fail
      clear k0_ n0_ n1_ n2_ n3_ n4_ n5_ n6_ n7_
      replace HS := HS.dr
      refine zT 21 (fun w' => w'.cell? ⟨gn, 3, none⟩ = some (.int .i64 x3) ∧ w'.cell? ⟨gn, 4, none⟩ = some (.int .i64 x4) ∧ w'.cell? ⟨gn, 5, none⟩ = some (.int .i64 x5) ∧ w'.cell? ⟨gn, 6, none⟩ = some (.int .i64 x6)) ⟨HS.c 1 3, HS.c 1 4, HS.c 1 5, HS.c 1 6⟩ fun hHeld => ?_
      generalize World.drew _ = wE at HS hHeld ⊢
      refine zR [(0,128),(3,131),(6,134),(9,137),(1,129),(2,130),(13,141),(4,132),(5,133),(7,135),(8,136),(10,138),(11,139),(12,140)] 7 ?_ ?_
      refine zo 14 (tf 15 6) fun K hK => ?_
      refine zC HS 0 5 (run_c3 _ _ _ gp 5 0 (Int.tmod x3 65536) (.tmp 141) (.tmp 130) rfl rfl rfl (HS.c 0 5) (HS.f 0 5)) ?_
      clear HS hHeld
      intro w14 HS
      refine hK.out _ _ ⟨HS.c 1 3, HS.c 1 4, HS.c 1 5, HS.c 1 6⟩ (fun hHeld => ?_)
      clear hK K
      refine zP 15 142 (tf 16 5) ?_
      refine zo 16 (tf 17 4) fun K hK => ?_
      refine zC HS 0 6 (run_c3 _ _ _ gp 6 0 (Int.tmod x4 65536) (.tmp 142) (.tmp 133) rfl rfl rfl (HS.c 0 6) (HS.f 0 6)) ?_
      clear HS hHeld
      intro w16 HS
      refine hK.out _ _ ⟨HS.c 1 3, HS.c 1 4, HS.c 1 5, HS.c 1 6⟩ (fun hHeld => ?_)
      clear hK K
      refine zP 17 143 (tf 18 3) ?_
      refine zo 18 (tf 19 2) fun K hK => ?_
      refine zC HS 0 8 (run_c3 _ _ _ gp 8 0 (Int.tmod x5 65536) (.tmp 143) (.tmp 136) rfl rfl rfl (HS.c 0 8) (HS.f 0 8)) ?_
      clear HS hHeld
      intro w18 HS
      refine hK.out _ _ ⟨HS.c 1 3, HS.c 1 4, HS.c 1 5, HS.c 1 6⟩ (fun hHeld => ?_)
      clear hK K
      refine zP 19 144 (tf 20 1) ?_
      refine zo 20 (tf 21 0) fun K hK => ?_
      refine zC HS 0 9 (run_c4 _ _ _ gp 9 false (Int.tmod x6 4 == 0) (.tmp 144) (.tmp 140) rfl rfl rfl (HS.c 0 9) (HS.f 0 9)) ?_
      clear HS hHeld
      intro w20 HS
      refine hK.out _ _ ⟨HS.c 1 3, HS.c 1 4, HS.c 1 5, HS.c 1 6⟩ (fun hHeld => ?_)
      clear hK K
      refine done_ uW ?_
      clear hHeld
      go_wp2_with (first
       | ((with_reducible refine zd 145 ?_); refine Kd.event_run rfl (run_ldpk _ _ _ gp _ (.tmp 9) rfl rfl HS.b0 rfl) ?_)
       | (refine zS 45 6 HS 2 ?_; clear HS; intro _ HS z_; clear z_))
      refine bodyPost_ret (results_cell_row rfl _ _ tr 45 _ (0, 0) _ rfl HS.b2 Tryz.underlying45 rfl uW) rfl ?_
      exact ⟨_, _, _, _, _, _, _, _, _, _, _, _, _, _, _, _, _, [], [], rfl, rfl, by rw [HN1.out]; rfl, trivial, BY.nil, BY.nil, kC, by rw [HN1.out]; decide, Kd.R_nil _ _ _ _ _, HS.out.row 0 rfl, nil_apart _, HS.nb⟩
     ·skip
      rw [hk] at hkd
      subst hk
      go_wp2_with (first
       | ((with_reducible refine zst 3 107 ?_); refine sc3_event HS.out 0 rfl rfl rfl (.tmp 107) (.tmp 106) rfl 10 rfl rfl rfl ?_; intro _ h1_; replace HS := mA h1_; simp only [List.setIfInBounds_toArray, List.set_cons_zero, List.set_cons_succ] at HS; clear h1_))
      clear k0_ n0_ n1_ n2_ n3_ n4_ n5_ n6_ n7_
      go_loopg [] 25 (fun kq w' => ∃ (Ad : Option Addr) (nd cd : Nat) (ld : List Int), Aside0 (nd + kq = 25 ∧ nd ≤ 24 ∧ nd = ld.length) ∧ Aside0 (BY ld) ∧ Aside0 (St (fun _ => False) W w' [(gp, 45, #[.int .i64 3, .int .i64 lf, .int .i64 pc, .int .i64 (Int.tmod x1 4294967296), .int .i64 (Int.tmod x2 4294967296), .int .i64 0, .int .i64 0, .int .i64 0, .int .i64 0, .bool false, .int .i64 (Int.tmod x3 256), .slice none 0 0, .slice Ad nd cd]), (gn, 147, #[.int .i64 x0, .int .i64 x1, .int .i64 x2, .int .i64 x3, .int .i64 x4, .int .i64 x5, .int .i64 x6, .int .i64 x7]), (tr, 45, #[.int .i64 0, .int .i64 0, .int .i64 0, .int .i64 0, .int .i64 0, .int .i64 0, .int .i64 0, .int .i64 0, .int .i64 0, .bool false, .int .i64 0, .slice none 0 0, .slice none 0 0])] [(.slice Ad nd cd, ld)]))
      case atStart => exact ⟨A1, n1, c1, [], ⟨by have h_ := HN1.out; simp; omega⟩, ⟨BY.nil⟩, HS⟩
      case round =>
       clear HS
       obtain ⟨Ad, nd, cd, ld, HI, HYD, HS⟩ := hrel
       cases gk with
       | zero => have := HI.out; omega
       | succ k1 =>
        cases fc : decide ((nd : Int) < 24) with
        | true =>
         have k12_ : World.cell? _ ⟨gp, 12, none⟩ = some (.slice Ad nd cd) := HS.c 0 12
         obtain ⟨n0_, n1_, n2_, n3_, n4_, n5_, n6_, n7_⟩ := cells8 HS.b1
         go_wp2_with (first
          | ((with_reducible refine zd 123 ?_); refine lit_event HS.out rfl (N := 123) rfl ([_] : List Int) 1 rfl uJ uA ?_; intro gl _ h1_ hb_; replace HS := mA (h1_); clear h1_ hb_)
          | ((with_reducible refine gate_builtin (b := .append) (xs := #[.tmp 113, .tmp 123]) rfl ?_); at_builtin; refine ap_event HS.out HS.nb rfl (.tmp 113) (.tmp 123) rfl 1 rfl rfl rfl (Kd.R_reads' HS.r0).2.2 vK ?_; intro An nn cn ln _ hl_ hn_ h1_; have HNN : Aside0 (nn = nd + 1 ∧ nn = ln.length) := ⟨kK⟩; have HYN : Aside0 (BY ln) := ⟨by rw [hl_]; exact BY.app HYD.out (fun x hx => by obtain rfl := List.mem_singleton.1 hx; first | exact w8 _ | omega)⟩; replace HS := mA (h1_.sub (List.Sublist.refl _) (List.Sublist.cons _ (List.Sublist.refl _))); clear hl_ hn_ h1_)
          | ((with_reducible refine zst 39 125 ?_); refine sc39_event HS.out 0 rfl rfl rfl (.tmp 125) (.tmp 124) rfl 12 rfl rfl rfl ?_; intro _ h1_; replace HS := mA h1_; simp only [List.setIfInBounds_toArray, List.set_cons_zero, List.set_cons_succ] at HS; clear h1_))
         go_roundg k1
         case measure => omega
         case rel => exact ⟨An, nn, cn, ln, ⟨by have h_ := HI.out; have h2_ := HNN.out; have h3_ := of_decide_eq_true fc; omega⟩, HYN, HS⟩
        | false =>
         have k12_ : World.cell? _ ⟨gp, 12, none⟩ = some (.slice Ad nd cd) := HS.c 0 12
         go_wp2_with (first
          | ((with_reducible refine zd 145 ?_); refine Kd.event_run rfl (run_ldpk _ _ _ gp _ (.tmp 9) rfl rfl HS.b0 rfl) ?_)
          | (refine zS 45 6 HS 2 ?_; clear HS; intro _ HS z_; clear z_))
         refine bodyPost_ret (results_cell_row rfl _ _ tr 45 _ (0, 0) _ rfl HS.b2 Tryz.underlying45 rfl uW) rfl ?_
         exact ⟨_, _, _, _, _, _, _, _, _, _, _, _, _, _, _, _, _, [], ld, rfl, rfl, HI.out.2.2, trivial, BY.nil, HYD.out, kC, kX, Kd.R_nil _ _ _ _ _, HS.out.row 0 rfl, nil_apart _, HS.nb⟩)
end Go.Proofs.YtkpfojpmigchlaaGreat.Own
