/- Parts of the proof of TopSwap, laid together and made shorter by a program of this claim. -/
import Derived.Scope
import Derived.ChangeKeysEq
import Derived.Laws.Tables
import Derived.Deep.MidRow
import Derived.Test.YtkpfojpmigchlaaGreatK02
import Derived.Test.YtkpfojpmigchlaaGreatK01
import Derived.Test.YtkpfojpmigchlaaGreatK00
set_option linter.unusedVariables false
set_option linter.unusedSimpArgs false
namespace Go.Proofs.YtkpfojpmigchlaaGreat.Own
open Go Go.RowKit Go.Proofs.YtkpfojpmigchlaaGreatW.PrintWords Go.Proofs.YtkpfojpmigchlaaGreatW.PrintMore Go.Proofs.YtkpfojpmigchlaaGreatW.PrintLast Go.Proofs.YtkpfojpmigchlaaGreat.Q
open Go.Proofs.YtkpfojpmigchlaaGreat.Zip
open Go.Proofs.YtkpfojpmigchlaaGreat.Zap
section
set_option maxHeartbeats 8000000
set_option maxRecDepth 100000
theorem AS.make {w0 w1 w2 w3 : World} {g q r : Nat} {P E R : Array Value} (hg : g = w0.heap.size) (hb1 : Blk w1 g 33 P) (hB1 : Below w0.heap.size w0 w1) (hq : q = w1.heap.size) (hb2 : Blk w2 q 61 E) (hB2 : Below w1.heap.size w1 w2) (hr : r = w2.heap.size) (hb3 : Blk w3 r 33 R) (hB3 : Below w2.heap.size w2 w3) : AS w0 g q r P E R w3 := by
 have h1 := hb1.lt
 have h2 := hb2.lt
 have h3 := hB1.size
 have h4 := hB2.size
 exact ⟨(hb1.below hB2).below hB3, hb2.below hB3, hb3, below_step (below_step hB1 hB2) hB3, ⟨qN, qN, qN⟩, qN, qN⟩
section
variable {ops : Array Oper} {rest : List Oper} {o : Oper} {a : Act} {Q : Exit → Act → World → Prop} {W : World}
theorem pl_build0 {N : Tmp} (hd : o.dst = some N) (hgd : o.guard = none) (ho : o.op = .build 33 #[]) (h : wpList Tryz.prog ops Q rest (a.put o.dst (.agg (pcs zeroP))) W) : wpList Tryz.prog ops Q (o :: rest) a W := by
 refine Kd.event_run (w1 := W) (v := .agg (pcs zeroP)) hgd ?_ h
 cases o with
 | mk dst op ty pos after guard =>
  obtain rfl : op = _ := ho
  kernel_rfl
theorem run25 (ev : Operand → Value) (o : Oper) (w : World) (ho : o.op = .alloc 25) : (execOp ev o).run Tryz.prog w = .ok (.value (.pointer (some ⟨w.heap.size, 0, none⟩))) (w.alloc (.cells #[.int .i64 0, .int .i64 0, .int .i64 0, .int .i64 0, .int .i64 0] 25 (0, 0))) := by
 cases o with
 | mk dst op ty pos after guard =>
  obtain rfl : op = _ := ho
  kernel_rfl
theorem sl_alloc {N : Tmp} (hd : o.dst = some N) (hgd : o.guard = none) (ho : o.op = .alloc 25)
 (h : ∀ s, s = W.heap.size → ∀ w1, Blk w1 s 25 #[.int .i64 0, .int .i64 0, .int .i64 0, .int .i64 0, .int .i64 0] → Below W.heap.size W w1 → wpList Tryz.prog ops Q rest (a.put o.dst (.pointer (some ⟨s, 0, none⟩))) w1) : wpList Tryz.prog ops Q (o :: rest) a W :=
 box_event hgd hd (run25 _ _ _ ho) h
theorem one5 (a b c d e : Int) : (#[.int .i64 a, .int .i64 b, .int .i64 c, .int .i64 d, .int .i64 e] : Array Value).all (·.oneCell') = true := by simp [Value.oneCell']
theorem one7 (a b c d e f g : Int) : (#[.int .i64 a, .int .u64 b, .int .u64 c, .int .u64 d, .int .u64 e, .int .u64 f, .int .u64 g] : Array Value).all (·.oneCell') = true := by simp [Value.oneCell']
theorem size25' (a b c d e : Value) : (Tryz.prog.info? 25).map (·.size) = some #[a, b, c, d, e].size := by kernel_rfl
end
theorem apply1out (p : PL) (hp : p.sl.length = 64) (s a b c : Int) (ha : outB a 0 4294967295 = false) (hb : outB b 0 65535 = false) (hc : outB c 1 8 = false) (hs : outB s 0 63 = true) (w0 : World) : Calls Tryz.prog 19 #[.agg (pcs p), .agg #[.int .i64 1, .int .i64 s, .int .i64 a, .int .i64 b, .int .i64 c, .int .u64 0, .int .u64 0]] w0 fun e w' => e = .returned (.tuple #[.agg (pcs zeroP), .int .i64 11]) ∧ Below w0.heap.size w0 w' := by
 have hu25 := Tryz.underlying25
 have hu49 := Tryz.underlying61
 have hu29 := Tryz.underlying29
 have hu31 := Tryz.underlying31
 have hu33 := pool33
 have hu26 := slots26
 have HP := mA hp
 have HA := mA ha
 have HBB := mA hb
 have HC := mA hc
 have HS := mA hs
 clear hp ha hb hc hs
 go_enter Tryz.func19, Tryz.ntmps19
 go_upto_region 1 with (first | ((with_reducible refine zd 2 ?_); refine pl_box rfl rfl rfl ?_; intro g hg w1 hb1 hB1; have G1 := mA hg; have G2 := mA hb1; have G3 := mA hB1; clear hg hb1 hB1) | ((with_reducible refine zd 3 ?_); refine any_box rfl rfl rfl ?_; intro q hq w2 hb2 hB2; have G4 := mA hq; have G5 := mA hb2; have G6 := mA hB2; clear hq hb2 hB2) | ((with_reducible refine zd 4 ?_); refine pl_alloc (N := 4) rfl rfl rfl ?_; intro r hr w3 hb3 hB3; have G7 := mA hr; have G8 := mA hb3; have G9 := mA hB3; clear hr hb3 hB3))
 have H := mA (AS.make G1.out G2.out G3.out G4.out G5.out G6.out G7.out G8.out G9.out)
 clear G1 G2 G3 G4 G5 G6 G7 G8 G9
 obtain ⟨he0, he1, he2, he3, he4, he5, he6⟩ := bk7 H.out.hq
 go_upto_region 2 with (first | (go_at_call 52; with_reducible refine (check1t s a b c HA.out HBB.out HC.out HS.out _).mono ?_; rintro e' w4 ⟨rfl, hb_⟩; replace H := mA (H.out.by_below hb_); clear hb_))
 clear he0 he1 he2 he3 he4 he5 he6
 go_wp2_with (first | ((with_reducible refine zd 12 ?_); refine pl_build0 (N := 12) rfl rfl rfl ?_) | ((with_reducible refine zst 33 4 ?_); refine pl_store rfl rfl (.tmp 4) (.tmp 12) rfl rfl rfl H.out.hr (pcs_size _ zeroP_len) zeroP_len ?_; intro w9 hb_ hg_; replace H := mA (H.out.stR hb_ hg_); clear hb_ hg_))
 refine bodyPost_ret (results_ct rfl _ _ _ _ _ (0, 0) _ rfl H.out.hr pool33 rfl (size33 _ zeroP_len)) rfl ?_
 exact ⟨rfl, H.out.below⟩
theorem apply1bad (p : PL) (hp : p.sl.length = 64) (s a b c : Int) (ha : outB a 0 4294967295 = false) (hb : outB b 0 65535 = false) (hc : outB c 1 8 = false) (hs : outB s 0 63 = false) (hbad : badP p 1 s a b = true) (w0 : World) : Calls Tryz.prog 19 #[.agg (pcs p), .agg #[.int .i64 1, .int .i64 s, .int .i64 a, .int .i64 b, .int .i64 c, .int .u64 0, .int .u64 0]] w0 fun e w' => e = .returned (.tuple #[.agg (pcs zeroP), .int .i64 12]) ∧ Below w0.heap.size w0 w' := by
 have hu25 := Tryz.underlying25
 have hu49 := Tryz.underlying61
 have hu29 := Tryz.underlying29
 have hu31 := Tryz.underlying31
 have hu33 := pool33
 have hu26 := slots26
 have HP := mA hp
 have HA := mA ha
 have HBB := mA hb
 have HC := mA hc
 have HS := mA hs
 have HBAD := mA hbad
 clear hp ha hb hc hs hbad
 have H0 : Aside0 (0 ≤ s ∧ s < 64) := ⟨qV⟩
 go_enter Tryz.func19, Tryz.ntmps19
 go_upto_region 1 with (first | ((with_reducible refine zd 2 ?_); refine pl_box rfl rfl rfl ?_; intro g hg w1 hb1 hB1; have G1 := mA hg; have G2 := mA hb1; have G3 := mA hB1; clear hg hb1 hB1) | ((with_reducible refine zd 3 ?_); refine any_box rfl rfl rfl ?_; intro q hq w2 hb2 hB2; have G4 := mA hq; have G5 := mA hb2; have G6 := mA hB2; clear hq hb2 hB2) | ((with_reducible refine zd 4 ?_); refine pl_alloc (N := 4) rfl rfl rfl ?_; intro r hr w3 hb3 hB3; have G7 := mA hr; have G8 := mA hb3; have G9 := mA hB3; clear hr hb3 hB3))
 have H := mA (AS.make G1.out G2.out G3.out G4.out G5.out G6.out G7.out G8.out G9.out)
 clear G1 G2 G3 G4 G5 G6 G7 G8 G9
 obtain ⟨he0, he1, he2, he3, he4, he5, he6⟩ := bk7 H.out.hq
 go_upto_region 2 with (first | (go_at_call 52; with_reducible refine (check1f s a b c HA.out HBB.out HC.out HS.out _).mono ?_; rintro e' w4 ⟨rfl, hb_⟩; replace H := mA (H.out.by_below hb_); clear hb_))
 clear he0 he1 he2 he3 he4 he5 he6
 go_upto_region 4 with fail
 obtain ⟨he0, he1, he2, he3, he4, he5, he6⟩ := bk7 H.out.hq
 go_upto_region 5 with (first | ((with_reducible refine zd 14 ?_); refine pl_load (N := 14) rfl rfl (.tmp 2) rfl rfl H.out.hg HP.out ?_) | (go_at_call 53; refine (bad_calls p HP.out 1 s a b c 0 0 uJ H0.out.1 H0.out.2 _).mono ?_; rw [HBAD.out]; rintro e' w5 ⟨rfl, hb_⟩; replace H := mA (H.out.by_below hb_); clear hb_))
 clear he0 he1 he2 he3 he4 he5 he6
 go_wp2_with (first | ((with_reducible refine zd 17 ?_); refine pl_build0 (N := 17) rfl rfl rfl ?_) | ((with_reducible refine zst 33 4 ?_); refine pl_store rfl rfl (.tmp 4) (.tmp 17) rfl rfl rfl H.out.hr (pcs_size _ zeroP_len) zeroP_len ?_; intro w9 hb_ hg_; replace H := mA (H.out.stR hb_ hg_); clear hb_ hg_))
 refine bodyPost_ret (results_ct rfl _ _ _ _ _ (0, 0) _ rfl H.out.hr pool33 rfl (size33 _ zeroP_len)) rfl ?_
 exact ⟨rfl, H.out.below⟩
theorem apply1ok (p : PL) (hp : p.sl.length = 64) (s a b c : Int) (ha : outB a 0 4294967295 = false) (hb : outB b 0 65535 = false) (hc : outB c 1 8 = false) (hs : outB s 0 63 = false) (hbad : badP p 1 s a b = false) (w0 : World) : Calls Tryz.prog 19 #[.agg (pcs p), .agg #[.int .i64 1, .int .i64 s, .int .i64 a, .int .i64 b, .int .i64 c, .int .u64 0, .int .u64 0]] w0 fun e w' => e = .returned (.tuple #[.agg (pcs (nextPool p 1 s a b c 0 0)), .int .i64 0]) ∧ Below w0.heap.size w0 w' := by
 have hu25 := Tryz.underlying25
 have hu49 := Tryz.underlying61
 have hu29 := Tryz.underlying29
 have hu31 := Tryz.underlying31
 have hu33 := pool33
 have hu26 := slots26
 have HP := mA hp
 have HA := mA ha
 have HBB := mA hb
 have HC := mA hc
 have HS := mA hs
 have HBAD := mA hbad
 clear hp ha hb hc hs hbad
 have H0 : Aside0 (0 ≤ s ∧ s < 64) := ⟨qV⟩
 go_enter Tryz.func19, Tryz.ntmps19
 go_upto_region 1 with (first | ((with_reducible refine zd 2 ?_); refine pl_box rfl rfl rfl ?_; intro g hg w1 hb1 hB1; have G1 := mA hg; have G2 := mA hb1; have G3 := mA hB1; clear hg hb1 hB1) | ((with_reducible refine zd 3 ?_); refine any_box rfl rfl rfl ?_; intro q hq w2 hb2 hB2; have G4 := mA hq; have G5 := mA hb2; have G6 := mA hB2; clear hq hb2 hB2) | ((with_reducible refine zd 4 ?_); refine pl_alloc (N := 4) rfl rfl rfl ?_; intro r hr w3 hb3 hB3; have G7 := mA hr; have G8 := mA hb3; have G9 := mA hB3; clear hr hb3 hB3))
 have H := mA (AS.make G1.out G2.out G3.out G4.out G5.out G6.out G7.out G8.out G9.out)
 clear G1 G2 G3 G4 G5 G6 G7 G8 G9
 obtain ⟨he0, he1, he2, he3, he4, he5, he6⟩ := bk7 H.out.hq
 go_upto_region 2 with (first | (go_at_call 52; with_reducible refine (check1f s a b c HA.out HBB.out HC.out HS.out _).mono ?_; rintro e' w4 ⟨rfl, hb_⟩; replace H := mA (H.out.by_below hb_); clear hb_))
 clear he0 he1 he2 he3 he4 he5 he6
 go_upto_region 4 with fail
 obtain ⟨he0, he1, he2, he3, he4, he5, he6⟩ := bk7 H.out.hq
 go_upto_region 6 with (first | ((with_reducible refine zd 14 ?_); refine pl_load (N := 14) rfl rfl (.tmp 2) rfl rfl H.out.hg HP.out ?_) | (go_at_call 53; refine (bad_calls p HP.out 1 s a b c 0 0 uJ H0.out.1 H0.out.2 _).mono ?_; rw [HBAD.out]; rintro e' w5 ⟨rfl, hb_⟩; replace H := mA (H.out.by_below hb_); clear hb_))
 clear he0 he1 he2 he3 he4 he5 he6
 have h0' := eq_true H0.out.1
 have h1' := eq_true H0.out.2
 obtain ⟨he0, he1⟩ := bk2 H.out.hq
 go_quiet (fail)
 replace H := mA (H.out.by_below (pw_below_drewN (Below.refl _ _) nq))
 generalize w5.drewN nq = w6 at H ⊢
 go_upto_region 8 with fail
 clear he0 he1
 have hver := bc H.out.hg 0
 have hverf : w6.frozen? ⟨g, 0, none⟩ = false := blk_frozen H.out.hg 0
 go_upto_region 9 with (first | ((with_reducible refine zst 3 38 ?_); refine st3_event rfl rfl (.tmp 38) (.tmp 37) rfl (v := wrap64 (p.ver + 1)) rfl rfl H.out.hg vC ?_; intro w7 hb_ hg_; rw [pcs_ver] at hb_; replace H := mA (H.out.stG hb_ hg_); clear hb_ hg_ hver hverf))
 have he1 := bc H.out.hq 1
 obtain ⟨ad_, e_, hx0, hx1, hx2, hx3, hx4⟩ := at_T25 (slots_C H.out.hg (pcs_slots _ HP.out) : Kd.C k25 w7 (some ⟨g, 3, none⟩) p.sl.length p.sl) s H0.out.1 vM
 cases e_
 simp only [add_in] at hx0 hx1 hx2 hx3 hx4
 go_upto_region 10 with (first | ((with_reducible refine zd 7 ?_); refine sl_alloc (N := 7) rfl rfl rfl ?_; intro s1 hs1 w8 hb_ hB_; have HLT : Aside0 (r < s1) := ⟨kF⟩; have HSB := mA hb_; replace H := mA (H.out.by_below hB_); clear hb_ hB_ hs1) | ((with_reducible refine zst 25 7 ?_); refine stm_event rfl rfl 25 (.tmp 7) (.tmp 43) rfl rfl rfl HSB.out (Nat.le_refl _) (size25' _ _ _ _ _) (one5 _ _ _ _ _) ?_; intro w9 hb_ hg_; have m_ : Aside0 (Blk w9 s1 25 #[.int .i64 (rd_T25 p.sl s).f0, .int .i64 (rd_T25 p.sl s).f1, .int .i64 (rd_T25 p.sl s).f2, .int .i64 (rd_T25 p.sl s).f3, .int .i64 (rd_T25 p.sl s).f4]) := ⟨hb_⟩; have n_ := mA (H.out.stS HLT.out hg_); clear H HSB hb_ hg_ ; have H := n_; have HSB := m_; clear n_ m_))
 clear hx0 hx1 hx2 hx3 hx4 he1
 have he0 := bc H.out.hq 0
 go_upto_region 12 with fail
 have he2 := bc H.out.hq 2
 have he3 := bc H.out.hq 3
 have he4 := bc H.out.hq 4
 go_upto_region 23 with (first | ((with_reducible refine zst 25 7 ?_); refine stm_event rfl rfl 25 (.tmp 7) (.tmp 54) rfl rfl rfl HSB.out (Nat.le_refl _) (size25' _ _ _ _ _) (one5 _ _ _ _ _) ?_; intro wA hb_ hg_; have m_ : Aside0 (Blk wA s1 25 #[.int .i64 1, .int .i64 a, .int .i64 b, .int .i64 c, .int .i64 0]) := ⟨hb_⟩; have n_ := mA (H.out.stS HLT.out hg_); clear H HSB hb_ hg_ ; have H := n_; have HSB := m_; clear n_ m_))
 clear he0 he2 he3 he4
 have he1 := bc H.out.hq 1
 obtain ⟨hv0, hv1, hv2, hv3, hv4⟩ := bk5 HSB.out
 have HL2 : Aside0 (({ p with ver := wrap64 (p.ver + 1), sl := p.sl.set s.toNat ⟨1, a, b, c, 0⟩ } : PL).sl.length = 64) := ⟨kY⟩
 have hlt_ : Aside0 (s.toNat < 64) := ⟨kE⟩
 go_upto_region 24 with (first | ((with_reducible refine zst 25 83 ?_); refine stm_event rfl rfl 25 (.tmp 83) (.tmp 81) rfl rfl rfl H.out.hg (i := 3 + s.toNat * 5) xJ (size25' _ _ _ _ _) (one5 _ _ _ _ _) ?_; intro wX hb_ hg_; have hb2_ : Blk wX g 33 (pcs { p with ver := wrap64 (p.ver + 1), sl := p.sl.set s.toNat ⟨1, a, b, c, 0⟩ }) := (pcs_slot { p with ver := wrap64 (p.ver + 1) } HP.out s.toNat hlt_.out ⟨1, a, b, c, 0⟩) ▸ hb_; replace H := mA (H.out.stG hb2_ hg_); clear hb_ hb2_ hg_))
 clear he1 hv0 hv1 hv2 hv3 hv4
 have hres : Aside0 (nextPool p 1 s a b c 0 0 = { p with ver := wrap64 (p.ver + 1), sl := p.sl.set s.toNat ⟨1, a, b, c, 0⟩ }) := ⟨kI⟩
 go_wp2_with (first | ((with_reducible refine zd 84 ?_); refine pl_load (N := 84) rfl rfl (.tmp 2) rfl rfl H.out.hg HL2.out ?_) | ((with_reducible refine zst 33 4 ?_); refine pl_store rfl rfl (.tmp 4) (.tmp 84) rfl rfl rfl H.out.hr (pcs_size _ zeroP_len) HL2.out ?_; intro wY hb_ hg_; replace H := mA (H.out.stR hb_ hg_); clear hb_ hg_))
 refine bodyPost_ret (results_ct rfl _ _ _ _ _ (0, 0) _ rfl H.out.hr pool33 rfl (size33 _ HL2.out)) rfl ?_
 exact yB
theorem apply2out (p : PL) (hp : p.sl.length = 64) (s : Int) (hs : outB s 0 63 = true) (w0 : World) : Calls Tryz.prog 19 #[.agg (pcs p), .agg #[.int .i64 2, .int .i64 s, .int .i64 0, .int .i64 0, .int .i64 0, .int .u64 0, .int .u64 0]] w0 fun e w' => e = .returned (.tuple #[.agg (pcs zeroP), .int .i64 11]) ∧ Below w0.heap.size w0 w' := by
 have hu25 := Tryz.underlying25
 have hu49 := Tryz.underlying61
 have hu29 := Tryz.underlying29
 have hu31 := Tryz.underlying31
 have hu33 := pool33
 have hu26 := slots26
 have HP := mA hp
 have HS := mA hs
 clear hp hs
 go_enter Tryz.func19, Tryz.ntmps19
 go_upto_region 1 with (first | ((with_reducible refine zd 2 ?_); refine pl_box rfl rfl rfl ?_; intro g hg w1 hb1 hB1; have G1 := mA hg; have G2 := mA hb1; have G3 := mA hB1; clear hg hb1 hB1) | ((with_reducible refine zd 3 ?_); refine any_box rfl rfl rfl ?_; intro q hq w2 hb2 hB2; have G4 := mA hq; have G5 := mA hb2; have G6 := mA hB2; clear hq hb2 hB2) | ((with_reducible refine zd 4 ?_); refine pl_alloc (N := 4) rfl rfl rfl ?_; intro r hr w3 hb3 hB3; have G7 := mA hr; have G8 := mA hb3; have G9 := mA hB3; clear hr hb3 hB3))
 have H := mA (AS.make G1.out G2.out G3.out G4.out G5.out G6.out G7.out G8.out G9.out)
 clear G1 G2 G3 G4 G5 G6 G7 G8 G9
 obtain ⟨he0, he1, he2, he3, he4, he5, he6⟩ := bk7 H.out.hq
 go_upto_region 2 with (first | (go_at_call 52; with_reducible refine (check2t s HS.out _).mono ?_; rintro e' w4 ⟨rfl, hb_⟩; replace H := mA (H.out.by_below hb_); clear hb_))
 clear he0 he1 he2 he3 he4 he5 he6
 go_wp2_with (first | ((with_reducible refine zd 12 ?_); refine pl_build0 (N := 12) rfl rfl rfl ?_) | ((with_reducible refine zst 33 4 ?_); refine pl_store rfl rfl (.tmp 4) (.tmp 12) rfl rfl rfl H.out.hr (pcs_size _ zeroP_len) zeroP_len ?_; intro w9 hb_ hg_; replace H := mA (H.out.stR hb_ hg_); clear hb_ hg_))
 refine bodyPost_ret (results_ct rfl _ _ _ _ _ (0, 0) _ rfl H.out.hr pool33 rfl (size33 _ zeroP_len)) rfl ?_
 exact ⟨rfl, H.out.below⟩
theorem apply2bad (p : PL) (hp : p.sl.length = 64) (s : Int) (hs : outB s 0 63 = false) (hbad : badP p 2 s 0 0 = true) (w0 : World) : Calls Tryz.prog 19 #[.agg (pcs p), .agg #[.int .i64 2, .int .i64 s, .int .i64 0, .int .i64 0, .int .i64 0, .int .u64 0, .int .u64 0]] w0 fun e w' => e = .returned (.tuple #[.agg (pcs zeroP), .int .i64 12]) ∧ Below w0.heap.size w0 w' := by
 have hu25 := Tryz.underlying25
 have hu49 := Tryz.underlying61
 have hu29 := Tryz.underlying29
 have hu31 := Tryz.underlying31
 have hu33 := pool33
 have hu26 := slots26
 have HP := mA hp
 have HS := mA hs
 have HBAD := mA hbad
 clear hp hs hbad
 have H0 : Aside0 (0 ≤ s ∧ s < 64) := ⟨qV⟩
 go_enter Tryz.func19, Tryz.ntmps19
 go_upto_region 1 with (first | ((with_reducible refine zd 2 ?_); refine pl_box rfl rfl rfl ?_; intro g hg w1 hb1 hB1; have G1 := mA hg; have G2 := mA hb1; have G3 := mA hB1; clear hg hb1 hB1) | ((with_reducible refine zd 3 ?_); refine any_box rfl rfl rfl ?_; intro q hq w2 hb2 hB2; have G4 := mA hq; have G5 := mA hb2; have G6 := mA hB2; clear hq hb2 hB2) | ((with_reducible refine zd 4 ?_); refine pl_alloc (N := 4) rfl rfl rfl ?_; intro r hr w3 hb3 hB3; have G7 := mA hr; have G8 := mA hb3; have G9 := mA hB3; clear hr hb3 hB3))
 have H := mA (AS.make G1.out G2.out G3.out G4.out G5.out G6.out G7.out G8.out G9.out)
 clear G1 G2 G3 G4 G5 G6 G7 G8 G9
 obtain ⟨he0, he1, he2, he3, he4, he5, he6⟩ := bk7 H.out.hq
 go_upto_region 2 with (first | (go_at_call 52; with_reducible refine (check2f s HS.out _).mono ?_; rintro e' w4 ⟨rfl, hb_⟩; replace H := mA (H.out.by_below hb_); clear hb_))
 clear he0 he1 he2 he3 he4 he5 he6
 go_upto_region 4 with fail
 obtain ⟨he0, he1, he2, he3, he4, he5, he6⟩ := bk7 H.out.hq
 go_upto_region 5 with (first | ((with_reducible refine zd 14 ?_); refine pl_load (N := 14) rfl rfl (.tmp 2) rfl rfl H.out.hg HP.out ?_) | (go_at_call 53; refine (bad_calls p HP.out 2 s 0 0 0 0 0 uJ H0.out.1 H0.out.2 _).mono ?_; rw [HBAD.out]; rintro e' w5 ⟨rfl, hb_⟩; replace H := mA (H.out.by_below hb_); clear hb_))
 clear he0 he1 he2 he3 he4 he5 he6
 go_wp2_with (first | ((with_reducible refine zd 17 ?_); refine pl_build0 (N := 17) rfl rfl rfl ?_) | ((with_reducible refine zst 33 4 ?_); refine pl_store rfl rfl (.tmp 4) (.tmp 17) rfl rfl rfl H.out.hr (pcs_size _ zeroP_len) zeroP_len ?_; intro w9 hb_ hg_; replace H := mA (H.out.stR hb_ hg_); clear hb_ hg_))
 refine bodyPost_ret (results_ct rfl _ _ _ _ _ (0, 0) _ rfl H.out.hr pool33 rfl (size33 _ zeroP_len)) rfl ?_
 exact ⟨rfl, H.out.below⟩
theorem apply2ok (p : PL) (hp : p.sl.length = 64) (s : Int) (hs : outB s 0 63 = false) (hbad : badP p 2 s 0 0 = false) (w0 : World) : Calls Tryz.prog 19 #[.agg (pcs p), .agg #[.int .i64 2, .int .i64 s, .int .i64 0, .int .i64 0, .int .i64 0, .int .u64 0, .int .u64 0]] w0 fun e w' => e = .returned (.tuple #[.agg (pcs (nextPool p 2 s 0 0 0 0 0)), .int .i64 0]) ∧ Below w0.heap.size w0 w' := by
 have hu25 := Tryz.underlying25
 have hu49 := Tryz.underlying61
 have hu29 := Tryz.underlying29
 have hu31 := Tryz.underlying31
 have hu33 := pool33
 have hu26 := slots26
 have HP := mA hp
 have HS := mA hs
 have HBAD := mA hbad
 clear hp hs hbad
 have H0 : Aside0 (0 ≤ s ∧ s < 64) := ⟨qV⟩
 go_enter Tryz.func19, Tryz.ntmps19
 go_upto_region 1 with (first | ((with_reducible refine zd 2 ?_); refine pl_box rfl rfl rfl ?_; intro g hg w1 hb1 hB1; have G1 := mA hg; have G2 := mA hb1; have G3 := mA hB1; clear hg hb1 hB1) | ((with_reducible refine zd 3 ?_); refine any_box rfl rfl rfl ?_; intro q hq w2 hb2 hB2; have G4 := mA hq; have G5 := mA hb2; have G6 := mA hB2; clear hq hb2 hB2) | ((with_reducible refine zd 4 ?_); refine pl_alloc (N := 4) rfl rfl rfl ?_; intro r hr w3 hb3 hB3; have G7 := mA hr; have G8 := mA hb3; have G9 := mA hB3; clear hr hb3 hB3))
 have H := mA (AS.make G1.out G2.out G3.out G4.out G5.out G6.out G7.out G8.out G9.out)
 clear G1 G2 G3 G4 G5 G6 G7 G8 G9
 obtain ⟨he0, he1, he2, he3, he4, he5, he6⟩ := bk7 H.out.hq
 go_upto_region 2 with (first | (go_at_call 52; with_reducible refine (check2f s HS.out _).mono ?_; rintro e' w4 ⟨rfl, hb_⟩; replace H := mA (H.out.by_below hb_); clear hb_))
 clear he0 he1 he2 he3 he4 he5 he6
 go_upto_region 4 with fail
 obtain ⟨he0, he1, he2, he3, he4, he5, he6⟩ := bk7 H.out.hq
 go_upto_region 6 with (first | ((with_reducible refine zd 14 ?_); refine pl_load (N := 14) rfl rfl (.tmp 2) rfl rfl H.out.hg HP.out ?_) | (go_at_call 53; refine (bad_calls p HP.out 2 s 0 0 0 0 0 uJ H0.out.1 H0.out.2 _).mono ?_; rw [HBAD.out]; rintro e' w5 ⟨rfl, hb_⟩; replace H := mA (H.out.by_below hb_); clear hb_))
 clear he0 he1 he2 he3 he4 he5 he6
 have h0' := eq_true H0.out.1
 have h1' := eq_true H0.out.2
 obtain ⟨he0, he1⟩ := bk2 H.out.hq
 go_quiet (fail)
 replace H := mA (H.out.by_below (pw_below_drewN (Below.refl _ _) nq))
 generalize w5.drewN nq = w6 at H ⊢
 go_upto_region 8 with fail
 clear he0 he1
 have hver := bc H.out.hg 0
 have hverf : w6.frozen? ⟨g, 0, none⟩ = false := blk_frozen H.out.hg 0
 go_upto_region 9 with (first | ((with_reducible refine zst 3 38 ?_); refine st3_event rfl rfl (.tmp 38) (.tmp 37) rfl (v := wrap64 (p.ver + 1)) rfl rfl H.out.hg vC ?_; intro w7 hb_ hg_; rw [pcs_ver] at hb_; replace H := mA (H.out.stG hb_ hg_); clear hb_ hg_ hver hverf))
 have he1 := bc H.out.hq 1
 obtain ⟨ad_, e_, hx0, hx1, hx2, hx3, hx4⟩ := at_T25 (slots_C H.out.hg (pcs_slots _ HP.out) : Kd.C k25 w7 (some ⟨g, 3, none⟩) p.sl.length p.sl) s H0.out.1 vM
 cases e_
 simp only [add_in] at hx0 hx1 hx2 hx3 hx4
 go_upto_region 10 with (first | ((with_reducible refine zd 7 ?_); refine sl_alloc (N := 7) rfl rfl rfl ?_; intro s1 hs1 w8 hb_ hB_; have HLT : Aside0 (r < s1) := ⟨kF⟩; have HSB := mA hb_; replace H := mA (H.out.by_below hB_); clear hb_ hB_ hs1) | ((with_reducible refine zst 25 7 ?_); refine stm_event rfl rfl 25 (.tmp 7) (.tmp 43) rfl rfl rfl HSB.out (Nat.le_refl _) (size25' _ _ _ _ _) (one5 _ _ _ _ _) ?_; intro w9 hb_ hg_; have m_ : Aside0 (Blk w9 s1 25 #[.int .i64 (rd_T25 p.sl s).f0, .int .i64 (rd_T25 p.sl s).f1, .int .i64 (rd_T25 p.sl s).f2, .int .i64 (rd_T25 p.sl s).f3, .int .i64 (rd_T25 p.sl s).f4]) := ⟨hb_⟩; have n_ := mA (H.out.stS HLT.out hg_); clear H HSB hb_ hg_ ; have H := n_; have HSB := m_; clear n_ m_))
 clear hx0 hx1 hx2 hx3 hx4 he1
 have he0 := bc H.out.hq 0
 go_upto_region 14 with fail
 go_upto_region 23 with (first | ((with_reducible refine zst 3 57 ?_); refine st3_event rfl rfl (.tmp 57) _ rfl (v := 2) rfl rfl HSB.out xU ?_; intro wA hb_ hg_; replace HSB : Aside0 (Blk wA s1 25 #[.int .i64 2, .int .i64 (rd_T25 p.sl s).f1, .int .i64 (rd_T25 p.sl s).f2, .int .i64 (rd_T25 p.sl s).f3, .int .i64 (rd_T25 p.sl s).f4]) := ⟨hb_⟩; replace H := mA (H.out.stS HLT.out hg_); clear hb_ hg_))
 clear he0
 have he1 := bc H.out.hq 1
 obtain ⟨hv0, hv1, hv2, hv3, hv4⟩ := bk5 HSB.out
 have HL2 : Aside0 (({ p with ver := wrap64 (p.ver + 1), sl := p.sl.set s.toNat ⟨2, (rd_T25 p.sl s).f1, (rd_T25 p.sl s).f2, (rd_T25 p.sl s).f3, (rd_T25 p.sl s).f4⟩ } : PL).sl.length = 64) := ⟨kY⟩
 have hlt_ : Aside0 (s.toNat < 64) := ⟨kE⟩
 go_upto_region 24 with (first | ((with_reducible refine zst 25 83 ?_); refine stm_event rfl rfl 25 (.tmp 83) (.tmp 81) rfl rfl rfl H.out.hg (i := 3 + s.toNat * 5) xJ (size25' _ _ _ _ _) (one5 _ _ _ _ _) ?_; intro wX hb_ hg_; have hb2_ : Blk wX g 33 (pcs { p with ver := wrap64 (p.ver + 1), sl := p.sl.set s.toNat ⟨2, (rd_T25 p.sl s).f1, (rd_T25 p.sl s).f2, (rd_T25 p.sl s).f3, (rd_T25 p.sl s).f4⟩ }) := (pcs_slot { p with ver := wrap64 (p.ver + 1) } HP.out s.toNat hlt_.out ⟨2, (rd_T25 p.sl s).f1, (rd_T25 p.sl s).f2, (rd_T25 p.sl s).f3, (rd_T25 p.sl s).f4⟩) ▸ hb_; replace H := mA (H.out.stG hb2_ hg_); clear hb_ hb2_ hg_))
 clear he1 hv0 hv1 hv2 hv3 hv4
 have hres : Aside0 (nextPool p 2 s 0 0 0 0 0 = { p with ver := wrap64 (p.ver + 1), sl := p.sl.set s.toNat ⟨2, (rd_T25 p.sl s).f1, (rd_T25 p.sl s).f2, (rd_T25 p.sl s).f3, (rd_T25 p.sl s).f4⟩ }) := ⟨kI⟩
 go_wp2_with (first | ((with_reducible refine zd 84 ?_); refine pl_load (N := 84) rfl rfl (.tmp 2) rfl rfl H.out.hg HL2.out ?_) | ((with_reducible refine zst 33 4 ?_); refine pl_store rfl rfl (.tmp 4) (.tmp 84) rfl rfl rfl H.out.hr (pcs_size _ zeroP_len) HL2.out ?_; intro wY hb_ hg_; replace H := mA (H.out.stR hb_ hg_); clear hb_ hg_))
 refine bodyPost_ret (results_ct rfl _ _ _ _ _ (0, 0) _ rfl H.out.hr pool33 rfl (size33 _ HL2.out)) rfl ?_
 exact yB
theorem apply3out (p : PL) (hp : p.sl.length = 64) (s : Int) (hs : outB s 0 63 = true) (w0 : World) : Calls Tryz.prog 19 #[.agg (pcs p), .agg #[.int .i64 3, .int .i64 s, .int .i64 0, .int .i64 0, .int .i64 0, .int .u64 0, .int .u64 0]] w0 fun e w' => e = .returned (.tuple #[.agg (pcs zeroP), .int .i64 11]) ∧ Below w0.heap.size w0 w' := by
 have hu25 := Tryz.underlying25
 have hu49 := Tryz.underlying61
 have hu29 := Tryz.underlying29
 have hu31 := Tryz.underlying31
 have hu33 := pool33
 have hu26 := slots26
 have HP := mA hp
 have HS := mA hs
 clear hp hs
 go_enter Tryz.func19, Tryz.ntmps19
 go_upto_region 1 with (first | ((with_reducible refine zd 2 ?_); refine pl_box rfl rfl rfl ?_; intro g hg w1 hb1 hB1; have G1 := mA hg; have G2 := mA hb1; have G3 := mA hB1; clear hg hb1 hB1) | ((with_reducible refine zd 3 ?_); refine any_box rfl rfl rfl ?_; intro q hq w2 hb2 hB2; have G4 := mA hq; have G5 := mA hb2; have G6 := mA hB2; clear hq hb2 hB2) | ((with_reducible refine zd 4 ?_); refine pl_alloc (N := 4) rfl rfl rfl ?_; intro r hr w3 hb3 hB3; have G7 := mA hr; have G8 := mA hb3; have G9 := mA hB3; clear hr hb3 hB3))
 have H := mA (AS.make G1.out G2.out G3.out G4.out G5.out G6.out G7.out G8.out G9.out)
 clear G1 G2 G3 G4 G5 G6 G7 G8 G9
 obtain ⟨he0, he1, he2, he3, he4, he5, he6⟩ := bk7 H.out.hq
 go_upto_region 2 with (first | (go_at_call 52; with_reducible refine (check3t s HS.out _).mono ?_; rintro e' w4 ⟨rfl, hb_⟩; replace H := mA (H.out.by_below hb_); clear hb_))
 clear he0 he1 he2 he3 he4 he5 he6
 go_wp2_with (first | ((with_reducible refine zd 12 ?_); refine pl_build0 (N := 12) rfl rfl rfl ?_) | ((with_reducible refine zst 33 4 ?_); refine pl_store rfl rfl (.tmp 4) (.tmp 12) rfl rfl rfl H.out.hr (pcs_size _ zeroP_len) zeroP_len ?_; intro w9 hb_ hg_; replace H := mA (H.out.stR hb_ hg_); clear hb_ hg_))
 refine bodyPost_ret (results_ct rfl _ _ _ _ _ (0, 0) _ rfl H.out.hr pool33 rfl (size33 _ zeroP_len)) rfl ?_
 exact ⟨rfl, H.out.below⟩
theorem apply3bad (p : PL) (hp : p.sl.length = 64) (s : Int) (hs : outB s 0 63 = false) (hbad : badP p 3 s 0 0 = true) (w0 : World) : Calls Tryz.prog 19 #[.agg (pcs p), .agg #[.int .i64 3, .int .i64 s, .int .i64 0, .int .i64 0, .int .i64 0, .int .u64 0, .int .u64 0]] w0 fun e w' => e = .returned (.tuple #[.agg (pcs zeroP), .int .i64 12]) ∧ Below w0.heap.size w0 w' := by
 have hu25 := Tryz.underlying25
 have hu49 := Tryz.underlying61
 have hu29 := Tryz.underlying29
 have hu31 := Tryz.underlying31
 have hu33 := pool33
 have hu26 := slots26
 have HP := mA hp
 have HS := mA hs
 have HBAD := mA hbad
 clear hp hs hbad
 have H0 : Aside0 (0 ≤ s ∧ s < 64) := ⟨qV⟩
 go_enter Tryz.func19, Tryz.ntmps19
 go_upto_region 1 with (first | ((with_reducible refine zd 2 ?_); refine pl_box rfl rfl rfl ?_; intro g hg w1 hb1 hB1; have G1 := mA hg; have G2 := mA hb1; have G3 := mA hB1; clear hg hb1 hB1) | ((with_reducible refine zd 3 ?_); refine any_box rfl rfl rfl ?_; intro q hq w2 hb2 hB2; have G4 := mA hq; have G5 := mA hb2; have G6 := mA hB2; clear hq hb2 hB2) | ((with_reducible refine zd 4 ?_); refine pl_alloc (N := 4) rfl rfl rfl ?_; intro r hr w3 hb3 hB3; have G7 := mA hr; have G8 := mA hb3; have G9 := mA hB3; clear hr hb3 hB3))
 have H := mA (AS.make G1.out G2.out G3.out G4.out G5.out G6.out G7.out G8.out G9.out)
 clear G1 G2 G3 G4 G5 G6 G7 G8 G9
 obtain ⟨he0, he1, he2, he3, he4, he5, he6⟩ := bk7 H.out.hq
 go_upto_region 2 with (first | (go_at_call 52; with_reducible refine (check3f s HS.out _).mono ?_; rintro e' w4 ⟨rfl, hb_⟩; replace H := mA (H.out.by_below hb_); clear hb_))
 clear he0 he1 he2 he3 he4 he5 he6
 go_upto_region 4 with fail
 obtain ⟨he0, he1, he2, he3, he4, he5, he6⟩ := bk7 H.out.hq
 go_upto_region 5 with (first | ((with_reducible refine zd 14 ?_); refine pl_load (N := 14) rfl rfl (.tmp 2) rfl rfl H.out.hg HP.out ?_) | (go_at_call 53; refine (bad_calls p HP.out 3 s 0 0 0 0 0 uJ H0.out.1 H0.out.2 _).mono ?_; rw [HBAD.out]; rintro e' w5 ⟨rfl, hb_⟩; replace H := mA (H.out.by_below hb_); clear hb_))
 clear he0 he1 he2 he3 he4 he5 he6
 go_wp2_with (first | ((with_reducible refine zd 17 ?_); refine pl_build0 (N := 17) rfl rfl rfl ?_) | ((with_reducible refine zst 33 4 ?_); refine pl_store rfl rfl (.tmp 4) (.tmp 17) rfl rfl rfl H.out.hr (pcs_size _ zeroP_len) zeroP_len ?_; intro w9 hb_ hg_; replace H := mA (H.out.stR hb_ hg_); clear hb_ hg_))
 refine bodyPost_ret (results_ct rfl _ _ _ _ _ (0, 0) _ rfl H.out.hr pool33 rfl (size33 _ zeroP_len)) rfl ?_
 exact ⟨rfl, H.out.below⟩
theorem apply3ok (p : PL) (hp : p.sl.length = 64) (s : Int) (hs : outB s 0 63 = false) (hbad : badP p 3 s 0 0 = false) (w0 : World) : Calls Tryz.prog 19 #[.agg (pcs p), .agg #[.int .i64 3, .int .i64 s, .int .i64 0, .int .i64 0, .int .i64 0, .int .u64 0, .int .u64 0]] w0 fun e w' => e = .returned (.tuple #[.agg (pcs (nextPool p 3 s 0 0 0 0 0)), .int .i64 0]) ∧ Below w0.heap.size w0 w' := by
 have hu25 := Tryz.underlying25
 have hu49 := Tryz.underlying61
 have hu29 := Tryz.underlying29
 have hu31 := Tryz.underlying31
 have hu33 := pool33
 have hu26 := slots26
 have HP := mA hp
 have HS := mA hs
 have HBAD := mA hbad
 clear hp hs hbad
 have H0 : Aside0 (0 ≤ s ∧ s < 64) := ⟨qV⟩
 go_enter Tryz.func19, Tryz.ntmps19
 go_upto_region 1 with (first | ((with_reducible refine zd 2 ?_); refine pl_box rfl rfl rfl ?_; intro g hg w1 hb1 hB1; have G1 := mA hg; have G2 := mA hb1; have G3 := mA hB1; clear hg hb1 hB1) | ((with_reducible refine zd 3 ?_); refine any_box rfl rfl rfl ?_; intro q hq w2 hb2 hB2; have G4 := mA hq; have G5 := mA hb2; have G6 := mA hB2; clear hq hb2 hB2) | ((with_reducible refine zd 4 ?_); refine pl_alloc (N := 4) rfl rfl rfl ?_; intro r hr w3 hb3 hB3; have G7 := mA hr; have G8 := mA hb3; have G9 := mA hB3; clear hr hb3 hB3))
 have H := mA (AS.make G1.out G2.out G3.out G4.out G5.out G6.out G7.out G8.out G9.out)
 clear G1 G2 G3 G4 G5 G6 G7 G8 G9
 obtain ⟨he0, he1, he2, he3, he4, he5, he6⟩ := bk7 H.out.hq
 go_upto_region 2 with (first | (go_at_call 52; with_reducible refine (check3f s HS.out _).mono ?_; rintro e' w4 ⟨rfl, hb_⟩; replace H := mA (H.out.by_below hb_); clear hb_))
 clear he0 he1 he2 he3 he4 he5 he6
 go_upto_region 4 with fail
 obtain ⟨he0, he1, he2, he3, he4, he5, he6⟩ := bk7 H.out.hq
 go_upto_region 6 with (first | ((with_reducible refine zd 14 ?_); refine pl_load (N := 14) rfl rfl (.tmp 2) rfl rfl H.out.hg HP.out ?_) | (go_at_call 53; refine (bad_calls p HP.out 3 s 0 0 0 0 0 uJ H0.out.1 H0.out.2 _).mono ?_; rw [HBAD.out]; rintro e' w5 ⟨rfl, hb_⟩; replace H := mA (H.out.by_below hb_); clear hb_))
 clear he0 he1 he2 he3 he4 he5 he6
 have h0' := eq_true H0.out.1
 have h1' := eq_true H0.out.2
 obtain ⟨he0, he1⟩ := bk2 H.out.hq
 go_quiet (fail)
 replace H := mA (H.out.by_below (pw_below_drewN (Below.refl _ _) nq))
 generalize w5.drewN nq = w6 at H ⊢
 go_upto_region 8 with fail
 clear he0 he1
 have hver := bc H.out.hg 0
 have hverf : w6.frozen? ⟨g, 0, none⟩ = false := blk_frozen H.out.hg 0
 go_upto_region 9 with (first | ((with_reducible refine zst 3 38 ?_); refine st3_event rfl rfl (.tmp 38) (.tmp 37) rfl (v := wrap64 (p.ver + 1)) rfl rfl H.out.hg vC ?_; intro w7 hb_ hg_; rw [pcs_ver] at hb_; replace H := mA (H.out.stG hb_ hg_); clear hb_ hg_ hver hverf))
 have he1 := bc H.out.hq 1
 obtain ⟨ad_, e_, hx0, hx1, hx2, hx3, hx4⟩ := at_T25 (slots_C H.out.hg (pcs_slots _ HP.out) : Kd.C k25 w7 (some ⟨g, 3, none⟩) p.sl.length p.sl) s H0.out.1 vM
 cases e_
 simp only [add_in] at hx0 hx1 hx2 hx3 hx4
 go_upto_region 10 with (first | ((with_reducible refine zd 7 ?_); refine sl_alloc (N := 7) rfl rfl rfl ?_; intro s1 hs1 w8 hb_ hB_; have HLT : Aside0 (r < s1) := ⟨kF⟩; have HSB := mA hb_; replace H := mA (H.out.by_below hB_); clear hb_ hB_ hs1) | ((with_reducible refine zst 25 7 ?_); refine stm_event rfl rfl 25 (.tmp 7) (.tmp 43) rfl rfl rfl HSB.out (Nat.le_refl _) (size25' _ _ _ _ _) (one5 _ _ _ _ _) ?_; intro w9 hb_ hg_; have m_ : Aside0 (Blk w9 s1 25 #[.int .i64 (rd_T25 p.sl s).f0, .int .i64 (rd_T25 p.sl s).f1, .int .i64 (rd_T25 p.sl s).f2, .int .i64 (rd_T25 p.sl s).f3, .int .i64 (rd_T25 p.sl s).f4]) := ⟨hb_⟩; have n_ := mA (H.out.stS HLT.out hg_); clear H HSB hb_ hg_ ; have H := n_; have HSB := m_; clear n_ m_))
 clear hx0 hx1 hx2 hx3 hx4 he1
 have he0 := bc H.out.hq 0
 go_upto_region 16 with fail
 go_upto_region 23 with (first | ((with_reducible refine zst 3 60 ?_); refine st3_event rfl rfl (.tmp 60) _ rfl (v := 3) rfl rfl HSB.out xU ?_; intro wA hb_ hg_; replace HSB : Aside0 (Blk wA s1 25 #[.int .i64 3, .int .i64 (rd_T25 p.sl s).f1, .int .i64 (rd_T25 p.sl s).f2, .int .i64 (rd_T25 p.sl s).f3, .int .i64 (rd_T25 p.sl s).f4]) := ⟨hb_⟩; replace H := mA (H.out.stS HLT.out hg_); clear hb_ hg_))
 clear he0
 have he1 := bc H.out.hq 1
 obtain ⟨hv0, hv1, hv2, hv3, hv4⟩ := bk5 HSB.out
 have HL2 : Aside0 (({ p with ver := wrap64 (p.ver + 1), sl := p.sl.set s.toNat ⟨3, (rd_T25 p.sl s).f1, (rd_T25 p.sl s).f2, (rd_T25 p.sl s).f3, (rd_T25 p.sl s).f4⟩ } : PL).sl.length = 64) := ⟨kY⟩
 have hlt_ : Aside0 (s.toNat < 64) := ⟨kE⟩
 go_upto_region 24 with (first | ((with_reducible refine zst 25 83 ?_); refine stm_event rfl rfl 25 (.tmp 83) (.tmp 81) rfl rfl rfl H.out.hg (i := 3 + s.toNat * 5) xJ (size25' _ _ _ _ _) (one5 _ _ _ _ _) ?_; intro wX hb_ hg_; have hb2_ : Blk wX g 33 (pcs { p with ver := wrap64 (p.ver + 1), sl := p.sl.set s.toNat ⟨3, (rd_T25 p.sl s).f1, (rd_T25 p.sl s).f2, (rd_T25 p.sl s).f3, (rd_T25 p.sl s).f4⟩ }) := (pcs_slot { p with ver := wrap64 (p.ver + 1) } HP.out s.toNat hlt_.out ⟨3, (rd_T25 p.sl s).f1, (rd_T25 p.sl s).f2, (rd_T25 p.sl s).f3, (rd_T25 p.sl s).f4⟩) ▸ hb_; replace H := mA (H.out.stG hb2_ hg_); clear hb_ hb2_ hg_))
 clear he1 hv0 hv1 hv2 hv3 hv4
 have hres : Aside0 (nextPool p 3 s 0 0 0 0 0 = { p with ver := wrap64 (p.ver + 1), sl := p.sl.set s.toNat ⟨3, (rd_T25 p.sl s).f1, (rd_T25 p.sl s).f2, (rd_T25 p.sl s).f3, (rd_T25 p.sl s).f4⟩ }) := ⟨kI⟩
 go_wp2_with (first | ((with_reducible refine zd 84 ?_); refine pl_load (N := 84) rfl rfl (.tmp 2) rfl rfl H.out.hg HL2.out ?_) | ((with_reducible refine zst 33 4 ?_); refine pl_store rfl rfl (.tmp 4) (.tmp 84) rfl rfl rfl H.out.hr (pcs_size _ zeroP_len) HL2.out ?_; intro wY hb_ hg_; replace H := mA (H.out.stR hb_ hg_); clear hb_ hg_))
 refine bodyPost_ret (results_ct rfl _ _ _ _ _ (0, 0) _ rfl H.out.hr pool33 rfl (size33 _ HL2.out)) rfl ?_
 exact yB
theorem apply4out (p : PL) (hp : p.sl.length = 64) (s : Int) (hs : outB s 0 63 = true) (w0 : World) : Calls Tryz.prog 19 #[.agg (pcs p), .agg #[.int .i64 4, .int .i64 s, .int .i64 0, .int .i64 0, .int .i64 0, .int .u64 0, .int .u64 0]] w0 fun e w' => e = .returned (.tuple #[.agg (pcs zeroP), .int .i64 11]) ∧ Below w0.heap.size w0 w' := by
 have hu25 := Tryz.underlying25
 have hu49 := Tryz.underlying61
 have hu29 := Tryz.underlying29
 have hu31 := Tryz.underlying31
 have hu33 := pool33
 have hu26 := slots26
 have HP := mA hp
 have HS := mA hs
 clear hp hs
 go_enter Tryz.func19, Tryz.ntmps19
 go_upto_region 1 with (first | ((with_reducible refine zd 2 ?_); refine pl_box rfl rfl rfl ?_; intro g hg w1 hb1 hB1; have G1 := mA hg; have G2 := mA hb1; have G3 := mA hB1; clear hg hb1 hB1) | ((with_reducible refine zd 3 ?_); refine any_box rfl rfl rfl ?_; intro q hq w2 hb2 hB2; have G4 := mA hq; have G5 := mA hb2; have G6 := mA hB2; clear hq hb2 hB2) | ((with_reducible refine zd 4 ?_); refine pl_alloc (N := 4) rfl rfl rfl ?_; intro r hr w3 hb3 hB3; have G7 := mA hr; have G8 := mA hb3; have G9 := mA hB3; clear hr hb3 hB3))
 have H := mA (AS.make G1.out G2.out G3.out G4.out G5.out G6.out G7.out G8.out G9.out)
 clear G1 G2 G3 G4 G5 G6 G7 G8 G9
 obtain ⟨he0, he1, he2, he3, he4, he5, he6⟩ := bk7 H.out.hq
 go_upto_region 2 with (first | (go_at_call 52; with_reducible refine (check4t s HS.out _).mono ?_; rintro e' w4 ⟨rfl, hb_⟩; replace H := mA (H.out.by_below hb_); clear hb_))
 clear he0 he1 he2 he3 he4 he5 he6
 go_wp2_with (first | ((with_reducible refine zd 12 ?_); refine pl_build0 (N := 12) rfl rfl rfl ?_) | ((with_reducible refine zst 33 4 ?_); refine pl_store rfl rfl (.tmp 4) (.tmp 12) rfl rfl rfl H.out.hr (pcs_size _ zeroP_len) zeroP_len ?_; intro w9 hb_ hg_; replace H := mA (H.out.stR hb_ hg_); clear hb_ hg_))
 refine bodyPost_ret (results_ct rfl _ _ _ _ _ (0, 0) _ rfl H.out.hr pool33 rfl (size33 _ zeroP_len)) rfl ?_
 exact ⟨rfl, H.out.below⟩
theorem apply4bad (p : PL) (hp : p.sl.length = 64) (s : Int) (hs : outB s 0 63 = false) (hbad : badP p 4 s 0 0 = true) (w0 : World) : Calls Tryz.prog 19 #[.agg (pcs p), .agg #[.int .i64 4, .int .i64 s, .int .i64 0, .int .i64 0, .int .i64 0, .int .u64 0, .int .u64 0]] w0 fun e w' => e = .returned (.tuple #[.agg (pcs zeroP), .int .i64 12]) ∧ Below w0.heap.size w0 w' := by
 have hu25 := Tryz.underlying25
 have hu49 := Tryz.underlying61
 have hu29 := Tryz.underlying29
 have hu31 := Tryz.underlying31
 have hu33 := pool33
 have hu26 := slots26
 have HP := mA hp
 have HS := mA hs
 have HBAD := mA hbad
 clear hp hs hbad
 have H0 : Aside0 (0 ≤ s ∧ s < 64) := ⟨qV⟩
 go_enter Tryz.func19, Tryz.ntmps19
 go_upto_region 1 with (first | ((with_reducible refine zd 2 ?_); refine pl_box rfl rfl rfl ?_; intro g hg w1 hb1 hB1; have G1 := mA hg; have G2 := mA hb1; have G3 := mA hB1; clear hg hb1 hB1) | ((with_reducible refine zd 3 ?_); refine any_box rfl rfl rfl ?_; intro q hq w2 hb2 hB2; have G4 := mA hq; have G5 := mA hb2; have G6 := mA hB2; clear hq hb2 hB2) | ((with_reducible refine zd 4 ?_); refine pl_alloc (N := 4) rfl rfl rfl ?_; intro r hr w3 hb3 hB3; have G7 := mA hr; have G8 := mA hb3; have G9 := mA hB3; clear hr hb3 hB3))
 have H := mA (AS.make G1.out G2.out G3.out G4.out G5.out G6.out G7.out G8.out G9.out)
 clear G1 G2 G3 G4 G5 G6 G7 G8 G9
 obtain ⟨he0, he1, he2, he3, he4, he5, he6⟩ := bk7 H.out.hq
 go_upto_region 2 with (first | (go_at_call 52; with_reducible refine (check4f s HS.out _).mono ?_; rintro e' w4 ⟨rfl, hb_⟩; replace H := mA (H.out.by_below hb_); clear hb_))
 clear he0 he1 he2 he3 he4 he5 he6
 go_upto_region 4 with fail
 obtain ⟨he0, he1, he2, he3, he4, he5, he6⟩ := bk7 H.out.hq
 go_upto_region 5 with (first | ((with_reducible refine zd 14 ?_); refine pl_load (N := 14) rfl rfl (.tmp 2) rfl rfl H.out.hg HP.out ?_) | (go_at_call 53; refine (bad_calls p HP.out 4 s 0 0 0 0 0 uJ H0.out.1 H0.out.2 _).mono ?_; rw [HBAD.out]; rintro e' w5 ⟨rfl, hb_⟩; replace H := mA (H.out.by_below hb_); clear hb_))
 clear he0 he1 he2 he3 he4 he5 he6
 go_wp2_with (first | ((with_reducible refine zd 17 ?_); refine pl_build0 (N := 17) rfl rfl rfl ?_) | ((with_reducible refine zst 33 4 ?_); refine pl_store rfl rfl (.tmp 4) (.tmp 17) rfl rfl rfl H.out.hr (pcs_size _ zeroP_len) zeroP_len ?_; intro w9 hb_ hg_; replace H := mA (H.out.stR hb_ hg_); clear hb_ hg_))
 refine bodyPost_ret (results_ct rfl _ _ _ _ _ (0, 0) _ rfl H.out.hr pool33 rfl (size33 _ zeroP_len)) rfl ?_
 exact ⟨rfl, H.out.below⟩
theorem apply4ok (p : PL) (hp : p.sl.length = 64) (s : Int) (hs : outB s 0 63 = false) (hbad : badP p 4 s 0 0 = false) (w0 : World) : Calls Tryz.prog 19 #[.agg (pcs p), .agg #[.int .i64 4, .int .i64 s, .int .i64 0, .int .i64 0, .int .i64 0, .int .u64 0, .int .u64 0]] w0 fun e w' => e = .returned (.tuple #[.agg (pcs (nextPool p 4 s 0 0 0 0 0)), .int .i64 0]) ∧ Below w0.heap.size w0 w' := by
 have hu25 := Tryz.underlying25
 have hu49 := Tryz.underlying61
 have hu29 := Tryz.underlying29
 have hu31 := Tryz.underlying31
 have hu33 := pool33
 have hu26 := slots26
 have HP := mA hp
 have HS := mA hs
 have HBAD := mA hbad
 clear hp hs hbad
 have H0 : Aside0 (0 ≤ s ∧ s < 64) := ⟨qV⟩
 go_enter Tryz.func19, Tryz.ntmps19
 go_upto_region 1 with (first | ((with_reducible refine zd 2 ?_); refine pl_box rfl rfl rfl ?_; intro g hg w1 hb1 hB1; have G1 := mA hg; have G2 := mA hb1; have G3 := mA hB1; clear hg hb1 hB1) | ((with_reducible refine zd 3 ?_); refine any_box rfl rfl rfl ?_; intro q hq w2 hb2 hB2; have G4 := mA hq; have G5 := mA hb2; have G6 := mA hB2; clear hq hb2 hB2) | ((with_reducible refine zd 4 ?_); refine pl_alloc (N := 4) rfl rfl rfl ?_; intro r hr w3 hb3 hB3; have G7 := mA hr; have G8 := mA hb3; have G9 := mA hB3; clear hr hb3 hB3))
 have H := mA (AS.make G1.out G2.out G3.out G4.out G5.out G6.out G7.out G8.out G9.out)
 clear G1 G2 G3 G4 G5 G6 G7 G8 G9
 obtain ⟨he0, he1, he2, he3, he4, he5, he6⟩ := bk7 H.out.hq
 go_upto_region 2 with (first | (go_at_call 52; with_reducible refine (check4f s HS.out _).mono ?_; rintro e' w4 ⟨rfl, hb_⟩; replace H := mA (H.out.by_below hb_); clear hb_))
 clear he0 he1 he2 he3 he4 he5 he6
 go_upto_region 4 with fail
 obtain ⟨he0, he1, he2, he3, he4, he5, he6⟩ := bk7 H.out.hq
 go_upto_region 6 with (first | ((with_reducible refine zd 14 ?_); refine pl_load (N := 14) rfl rfl (.tmp 2) rfl rfl H.out.hg HP.out ?_) | (go_at_call 53; refine (bad_calls p HP.out 4 s 0 0 0 0 0 uJ H0.out.1 H0.out.2 _).mono ?_; rw [HBAD.out]; rintro e' w5 ⟨rfl, hb_⟩; replace H := mA (H.out.by_below hb_); clear hb_))
 clear he0 he1 he2 he3 he4 he5 he6
 have h0' := eq_true H0.out.1
 have h1' := eq_true H0.out.2
 obtain ⟨he0, he1⟩ := bk2 H.out.hq
 go_quiet (fail)
 replace H := mA (H.out.by_below (pw_below_drewN (Below.refl _ _) nq))
 generalize w5.drewN nq = w6 at H ⊢
 go_upto_region 8 with fail
 clear he0 he1
 have hver := bc H.out.hg 0
 have hverf : w6.frozen? ⟨g, 0, none⟩ = false := blk_frozen H.out.hg 0
 go_upto_region 9 with (first | ((with_reducible refine zst 3 38 ?_); refine st3_event rfl rfl (.tmp 38) (.tmp 37) rfl (v := wrap64 (p.ver + 1)) rfl rfl H.out.hg vC ?_; intro w7 hb_ hg_; rw [pcs_ver] at hb_; replace H := mA (H.out.stG hb_ hg_); clear hb_ hg_ hver hverf))
 have he1 := bc H.out.hq 1
 obtain ⟨ad_, e_, hx0, hx1, hx2, hx3, hx4⟩ := at_T25 (slots_C H.out.hg (pcs_slots _ HP.out) : Kd.C k25 w7 (some ⟨g, 3, none⟩) p.sl.length p.sl) s H0.out.1 vM
 cases e_
 simp only [add_in] at hx0 hx1 hx2 hx3 hx4
 go_upto_region 10 with (first | ((with_reducible refine zd 7 ?_); refine sl_alloc (N := 7) rfl rfl rfl ?_; intro s1 hs1 w8 hb_ hB_; have HLT : Aside0 (r < s1) := ⟨kF⟩; have HSB := mA hb_; replace H := mA (H.out.by_below hB_); clear hb_ hB_ hs1) | ((with_reducible refine zst 25 7 ?_); refine stm_event rfl rfl 25 (.tmp 7) (.tmp 43) rfl rfl rfl HSB.out (Nat.le_refl _) (size25' _ _ _ _ _) (one5 _ _ _ _ _) ?_; intro w9 hb_ hg_; have m_ : Aside0 (Blk w9 s1 25 #[.int .i64 (rd_T25 p.sl s).f0, .int .i64 (rd_T25 p.sl s).f1, .int .i64 (rd_T25 p.sl s).f2, .int .i64 (rd_T25 p.sl s).f3, .int .i64 (rd_T25 p.sl s).f4]) := ⟨hb_⟩; have n_ := mA (H.out.stS HLT.out hg_); clear H HSB hb_ hg_ ; have H := n_; have HSB := m_; clear n_ m_))
 clear hx0 hx1 hx2 hx3 hx4 he1
 have he0 := bc H.out.hq 0
 go_upto_region 18 with fail
 clear he0
 replace H : Aside0 (AS w0 g q r _ _ _ w9.drew) := ⟨H.out.by_below (below_drew1 (Below.refl _ _))⟩
 replace HSB : Aside0 (Blk w9.drew s1 25 #[.int .i64 (rd_T25 p.sl s).f0, .int .i64 (rd_T25 p.sl s).f1, .int .i64 (rd_T25 p.sl s).f2, .int .i64 (rd_T25 p.sl s).f3, .int .i64 (rd_T25 p.sl s).f4]) := ⟨HSB.out.below (below_drew1 (Below.refl _ _))⟩
 refine zT 7 (fun w' => w'.cell? ⟨g, 323, none⟩ = some (.int .i64 p.ep)) ((blk_cell H.out.hg 323).trans (pcs_ring { p with ver := wrap64 (p.ver + 1) } HP.out 0)) fun hHeld => ?_
 generalize w9.drew = wD at H HSB hHeld ⊢
 refine zP 0 63 (tf 1 6) ?_
 refine zP 1 64 (tf 2 5) ?_
 refine zP 3 66 (mb 7 11) ?_
 refine take_ (i := 2) (N := some 65) (v := ?_) (a' := ?_) (tf 4 3) rfl rfl uW (fun _ _ _ h => h) (Or.inl ⟨by rfl, ?_⟩) hHeld ?_ ?_
 rotate_left
 ·exact jK
 rotate_left
 ·exact zU
 refine zo 4 (tf 5 2) fun K hK => ?_
 refine skip_ (w1 := wD.setCell ⟨s1, 0, none⟩ (.int .i64 4)) (by rfl) rfl (run_st3 _ _ _ s1 25 0 _ (.tmp 66) _ 4 rfl rfl rfl HSB.out xU) ?_
 have m_ : Aside0 (Blk (wD.setCell ⟨s1, 0, none⟩ (.int .i64 4)) s1 25 #[.int .i64 4, .int .i64 (rd_T25 p.sl s).f1, .int .i64 (rd_T25 p.sl s).f2, .int .i64 (rd_T25 p.sl s).f3, .int .i64 (rd_T25 p.sl s).f4]) := ⟨blk_set HSB.out 0 (.int .i64 4)⟩
 have n_ := mA (H.out.stS HLT.out (grown_set wD s1 0 (.int .i64 4)))
 clear H HSB hHeld
 generalize wD.setCell ⟨s1, 0, none⟩ (.int .i64 4) = wE at n_ m_ ⊢
 have H := n_
 have HSB := m_
 clear n_ m_
 refine hK.out _ _ ((blk_cell H.out.hg 323).trans (pcs_ring { p with ver := wrap64 (p.ver + 1) } HP.out 0)) (fun hHeld => ?_)
 clear hK K
 refine zP 5 67 (tf 6 1) ?_
 refine zo 6 (tf 7 0) fun K hK => ?_
 refine skip_ (w1 := wE.setCell ⟨s1, 4, none⟩ (.int .i64 p.ep)) (by rfl) rfl (run_st3 _ _ _ s1 25 4 _ (.tmp 67) (.tmp 65) p.ep rfl rfl rfl HSB.out xU) ?_
 have m_ : Aside0 (Blk (wE.setCell ⟨s1, 4, none⟩ (.int .i64 p.ep)) s1 25 #[.int .i64 4, .int .i64 (rd_T25 p.sl s).f1, .int .i64 (rd_T25 p.sl s).f2, .int .i64 (rd_T25 p.sl s).f3, .int .i64 (p.ep)]) := ⟨blk_set HSB.out 4 (.int .i64 p.ep)⟩
 have n_ := mA (H.out.stS HLT.out (grown_set wE s1 4 (.int .i64 p.ep)))
 clear H HSB hHeld
 generalize wE.setCell ⟨s1, 4, none⟩ (.int .i64 p.ep) = wF at n_ m_ ⊢
 have H := n_
 have HSB := m_
 clear n_ m_
 refine hK.out _ _ ((blk_cell H.out.hg 323).trans (pcs_ring { p with ver := wrap64 (p.ver + 1) } HP.out 0)) (fun hHeld => ?_)
 clear hK K
 refine done_ uW ?_
 clear hHeld
 go_upto_region 23 with fail
 have he1 := bc H.out.hq 1
 obtain ⟨hv0, hv1, hv2, hv3, hv4⟩ := bk5 HSB.out
 have HL2 : Aside0 (({ p with ver := wrap64 (p.ver + 1), sl := p.sl.set s.toNat ⟨4, (rd_T25 p.sl s).f1, (rd_T25 p.sl s).f2, (rd_T25 p.sl s).f3, p.ep⟩ } : PL).sl.length = 64) := ⟨kY⟩
 have hlt_ : Aside0 (s.toNat < 64) := ⟨kE⟩
 go_upto_region 24 with (first | ((with_reducible refine zst 25 83 ?_); refine stm_event rfl rfl 25 (.tmp 83) (.tmp 81) rfl rfl rfl H.out.hg (i := 3 + s.toNat * 5) xJ (size25' _ _ _ _ _) (one5 _ _ _ _ _) ?_; intro wX hb_ hg_; have hb2_ : Blk wX g 33 (pcs { p with ver := wrap64 (p.ver + 1), sl := p.sl.set s.toNat ⟨4, (rd_T25 p.sl s).f1, (rd_T25 p.sl s).f2, (rd_T25 p.sl s).f3, p.ep⟩ }) := (pcs_slot { p with ver := wrap64 (p.ver + 1) } HP.out s.toNat hlt_.out ⟨4, (rd_T25 p.sl s).f1, (rd_T25 p.sl s).f2, (rd_T25 p.sl s).f3, p.ep⟩) ▸ hb_; replace H := mA (H.out.stG hb2_ hg_); clear hb_ hb2_ hg_))
 clear he1 hv0 hv1 hv2 hv3 hv4
 have hres : Aside0 (nextPool p 4 s 0 0 0 0 0 = { p with ver := wrap64 (p.ver + 1), sl := p.sl.set s.toNat ⟨4, (rd_T25 p.sl s).f1, (rd_T25 p.sl s).f2, (rd_T25 p.sl s).f3, p.ep⟩ }) := ⟨kI⟩
 go_wp2_with (first | ((with_reducible refine zd 84 ?_); refine pl_load (N := 84) rfl rfl (.tmp 2) rfl rfl H.out.hg HL2.out ?_) | ((with_reducible refine zst 33 4 ?_); refine pl_store rfl rfl (.tmp 4) (.tmp 84) rfl rfl rfl H.out.hr (pcs_size _ zeroP_len) HL2.out ?_; intro wY hb_ hg_; replace H := mA (H.out.stR hb_ hg_); clear hb_ hg_))
 refine bodyPost_ret (results_ct rfl _ _ _ _ _ (0, 0) _ rfl H.out.hr pool33 rfl (size33 _ HL2.out)) rfl ?_
 exact yB
theorem apply5out (p : PL) (hp : p.sl.length = 64) (s : Int) (hs : outB s 0 63 = true) (w0 : World) : Calls Tryz.prog 19 #[.agg (pcs p), .agg #[.int .i64 5, .int .i64 s, .int .i64 0, .int .i64 0, .int .i64 0, .int .u64 0, .int .u64 0]] w0 fun e w' => e = .returned (.tuple #[.agg (pcs zeroP), .int .i64 11]) ∧ Below w0.heap.size w0 w' := by
 have hu25 := Tryz.underlying25
 have hu49 := Tryz.underlying61
 have hu29 := Tryz.underlying29
 have hu31 := Tryz.underlying31
 have hu33 := pool33
 have hu26 := slots26
 have HP := mA hp
 have HS := mA hs
 clear hp hs
 go_enter Tryz.func19, Tryz.ntmps19
 go_upto_region 1 with (first | ((with_reducible refine zd 2 ?_); refine pl_box rfl rfl rfl ?_; intro g hg w1 hb1 hB1; have G1 := mA hg; have G2 := mA hb1; have G3 := mA hB1; clear hg hb1 hB1) | ((with_reducible refine zd 3 ?_); refine any_box rfl rfl rfl ?_; intro q hq w2 hb2 hB2; have G4 := mA hq; have G5 := mA hb2; have G6 := mA hB2; clear hq hb2 hB2) | ((with_reducible refine zd 4 ?_); refine pl_alloc (N := 4) rfl rfl rfl ?_; intro r hr w3 hb3 hB3; have G7 := mA hr; have G8 := mA hb3; have G9 := mA hB3; clear hr hb3 hB3))
 have H := mA (AS.make G1.out G2.out G3.out G4.out G5.out G6.out G7.out G8.out G9.out)
 clear G1 G2 G3 G4 G5 G6 G7 G8 G9
 obtain ⟨he0, he1, he2, he3, he4, he5, he6⟩ := bk7 H.out.hq
 go_upto_region 2 with (first | (go_at_call 52; with_reducible refine (check5t s HS.out _).mono ?_; rintro e' w4 ⟨rfl, hb_⟩; replace H := mA (H.out.by_below hb_); clear hb_))
 clear he0 he1 he2 he3 he4 he5 he6
 go_wp2_with (first | ((with_reducible refine zd 12 ?_); refine pl_build0 (N := 12) rfl rfl rfl ?_) | ((with_reducible refine zst 33 4 ?_); refine pl_store rfl rfl (.tmp 4) (.tmp 12) rfl rfl rfl H.out.hr (pcs_size _ zeroP_len) zeroP_len ?_; intro w9 hb_ hg_; replace H := mA (H.out.stR hb_ hg_); clear hb_ hg_))
 refine bodyPost_ret (results_ct rfl _ _ _ _ _ (0, 0) _ rfl H.out.hr pool33 rfl (size33 _ zeroP_len)) rfl ?_
 exact ⟨rfl, H.out.below⟩
theorem apply5bad (p : PL) (hp : p.sl.length = 64) (s : Int) (hs : outB s 0 63 = false) (hbad : badP p 5 s 0 0 = true) (w0 : World) : Calls Tryz.prog 19 #[.agg (pcs p), .agg #[.int .i64 5, .int .i64 s, .int .i64 0, .int .i64 0, .int .i64 0, .int .u64 0, .int .u64 0]] w0 fun e w' => e = .returned (.tuple #[.agg (pcs zeroP), .int .i64 12]) ∧ Below w0.heap.size w0 w' := by
 have hu25 := Tryz.underlying25
 have hu49 := Tryz.underlying61
 have hu29 := Tryz.underlying29
 have hu31 := Tryz.underlying31
 have hu33 := pool33
 have hu26 := slots26
 have HP := mA hp
 have HS := mA hs
 have HBAD := mA hbad
 clear hp hs hbad
 have H0 : Aside0 (0 ≤ s ∧ s < 64) := ⟨qV⟩
 go_enter Tryz.func19, Tryz.ntmps19
 go_upto_region 1 with (first | ((with_reducible refine zd 2 ?_); refine pl_box rfl rfl rfl ?_; intro g hg w1 hb1 hB1; have G1 := mA hg; have G2 := mA hb1; have G3 := mA hB1; clear hg hb1 hB1) | ((with_reducible refine zd 3 ?_); refine any_box rfl rfl rfl ?_; intro q hq w2 hb2 hB2; have G4 := mA hq; have G5 := mA hb2; have G6 := mA hB2; clear hq hb2 hB2) | ((with_reducible refine zd 4 ?_); refine pl_alloc (N := 4) rfl rfl rfl ?_; intro r hr w3 hb3 hB3; have G7 := mA hr; have G8 := mA hb3; have G9 := mA hB3; clear hr hb3 hB3))
 have H := mA (AS.make G1.out G2.out G3.out G4.out G5.out G6.out G7.out G8.out G9.out)
 clear G1 G2 G3 G4 G5 G6 G7 G8 G9
 obtain ⟨he0, he1, he2, he3, he4, he5, he6⟩ := bk7 H.out.hq
 go_upto_region 2 with (first | (go_at_call 52; with_reducible refine (check5f s HS.out _).mono ?_; rintro e' w4 ⟨rfl, hb_⟩; replace H := mA (H.out.by_below hb_); clear hb_))
 clear he0 he1 he2 he3 he4 he5 he6
 go_upto_region 4 with fail
 obtain ⟨he0, he1, he2, he3, he4, he5, he6⟩ := bk7 H.out.hq
 go_upto_region 5 with (first | ((with_reducible refine zd 14 ?_); refine pl_load (N := 14) rfl rfl (.tmp 2) rfl rfl H.out.hg HP.out ?_) | (go_at_call 53; refine (bad_calls p HP.out 5 s 0 0 0 0 0 uJ H0.out.1 H0.out.2 _).mono ?_; rw [HBAD.out]; rintro e' w5 ⟨rfl, hb_⟩; replace H := mA (H.out.by_below hb_); clear hb_))
 clear he0 he1 he2 he3 he4 he5 he6
 go_wp2_with (first | ((with_reducible refine zd 17 ?_); refine pl_build0 (N := 17) rfl rfl rfl ?_) | ((with_reducible refine zst 33 4 ?_); refine pl_store rfl rfl (.tmp 4) (.tmp 17) rfl rfl rfl H.out.hr (pcs_size _ zeroP_len) zeroP_len ?_; intro w9 hb_ hg_; replace H := mA (H.out.stR hb_ hg_); clear hb_ hg_))
 refine bodyPost_ret (results_ct rfl _ _ _ _ _ (0, 0) _ rfl H.out.hr pool33 rfl (size33 _ zeroP_len)) rfl ?_
 exact ⟨rfl, H.out.below⟩
theorem apply5soon (p : PL) (hp : p.sl.length = 64) (s : Int) (hs : outB s 0 63 = false) (hbad : badP p 5 s 0 0 = false) (hsoon : decide (p.ep < wrap64 ((rd_T25 p.sl s).f4 + 3)) = true) (w0 : World) : Calls Tryz.prog 19 #[.agg (pcs p), .agg #[.int .i64 5, .int .i64 s, .int .i64 0, .int .i64 0, .int .i64 0, .int .u64 0, .int .u64 0]] w0 fun e w' => e = .returned (.tuple #[.agg (pcs zeroP), .int .i64 13]) ∧ Below w0.heap.size w0 w' := by
 have hu25 := Tryz.underlying25
 have hu49 := Tryz.underlying61
 have hu29 := Tryz.underlying29
 have hu31 := Tryz.underlying31
 have hu33 := pool33
 have hu26 := slots26
 have HP := mA hp
 have HS := mA hs
 have HBAD := mA hbad
 have HSOON := mA hsoon
 clear hp hs hbad hsoon
 have H0 : Aside0 (0 ≤ s ∧ s < 64) := ⟨qV⟩
 go_enter Tryz.func19, Tryz.ntmps19
 go_upto_region 1 with (first | ((with_reducible refine zd 2 ?_); refine pl_box rfl rfl rfl ?_; intro g hg w1 hb1 hB1; have G1 := mA hg; have G2 := mA hb1; have G3 := mA hB1; clear hg hb1 hB1) | ((with_reducible refine zd 3 ?_); refine any_box rfl rfl rfl ?_; intro q hq w2 hb2 hB2; have G4 := mA hq; have G5 := mA hb2; have G6 := mA hB2; clear hq hb2 hB2) | ((with_reducible refine zd 4 ?_); refine pl_alloc (N := 4) rfl rfl rfl ?_; intro r hr w3 hb3 hB3; have G7 := mA hr; have G8 := mA hb3; have G9 := mA hB3; clear hr hb3 hB3))
 have H := mA (AS.make G1.out G2.out G3.out G4.out G5.out G6.out G7.out G8.out G9.out)
 clear G1 G2 G3 G4 G5 G6 G7 G8 G9
 obtain ⟨he0, he1, he2, he3, he4, he5, he6⟩ := bk7 H.out.hq
 go_upto_region 2 with (first | (go_at_call 52; with_reducible refine (check5f s HS.out _).mono ?_; rintro e' w4 ⟨rfl, hb_⟩; replace H := mA (H.out.by_below hb_); clear hb_))
 clear he0 he1 he2 he3 he4 he5 he6
 go_upto_region 4 with fail
 obtain ⟨he0, he1, he2, he3, he4, he5, he6⟩ := bk7 H.out.hq
 go_upto_region 6 with (first | ((with_reducible refine zd 14 ?_); refine pl_load (N := 14) rfl rfl (.tmp 2) rfl rfl H.out.hg HP.out ?_) | (go_at_call 53; refine (bad_calls p HP.out 5 s 0 0 0 0 0 uJ H0.out.1 H0.out.2 _).mono ?_; rw [HBAD.out]; rintro e' w5 ⟨rfl, hb_⟩; replace H := mA (H.out.by_below hb_); clear hb_))
 clear he0 he1 he2 he3 he4 he5 he6
 have h0' := eq_true H0.out.1
 have h1' := eq_true H0.out.2
 obtain ⟨he0, he1⟩ := bk2 H.out.hq
 obtain ⟨ad_, e_, hx0, hx1, hx2, hx3, hx4⟩ := at_T25 (slots_C H.out.hg (pcs_slots _ HP.out)) s H0.out.1 (by rw [show _ = 64 from HP.out]; exact H0.out.2)
 cases e_
 simp only [add_in] at hx0 hx1 hx2 hx3 hx4
 have hring : w5.cell? ⟨g, 323, none⟩ = some (.int .i64 p.ep) := (blk_cell H.out.hg 323).trans (pcs_ring p HP.out 0)
 have hso := HSOON.out
 go_quiet (fail)
 replace H := mA (H.out.by_below (pw_below_drewN (Below.refl _ _) nq))
 generalize w5.drewN nq = w6 at H ⊢
 clear hx0 hx1 hx2 hx3 hx4 hring
 go_wp2_with (first | ((with_reducible refine zd 34 ?_); refine pl_build0 (N := 34) rfl rfl rfl ?_) | ((with_reducible refine zst 33 4 ?_); refine pl_store rfl rfl (.tmp 4) (.tmp 34) rfl rfl rfl H.out.hr (pcs_size _ zeroP_len) zeroP_len ?_; intro w9 hb_ hg_; replace H := mA (H.out.stR hb_ hg_); clear hb_ hg_))
 refine bodyPost_ret (results_ct rfl _ _ _ _ _ (0, 0) _ rfl H.out.hr pool33 rfl (size33 _ zeroP_len)) rfl ?_
 exact ⟨rfl, H.out.below⟩
theorem apply5ok (p : PL) (hp : p.sl.length = 64) (s : Int) (hs : outB s 0 63 = false) (hbad : badP p 5 s 0 0 = false) (hsoon : decide (p.ep < wrap64 ((rd_T25 p.sl s).f4 + 3)) = false) (w0 : World) : Calls Tryz.prog 19 #[.agg (pcs p), .agg #[.int .i64 5, .int .i64 s, .int .i64 0, .int .i64 0, .int .i64 0, .int .u64 0, .int .u64 0]] w0 fun e w' => e = .returned (.tuple #[.agg (pcs (nextPool p 5 s 0 0 0 0 0)), .int .i64 0]) ∧ Below w0.heap.size w0 w' := by
 have hu25 := Tryz.underlying25
 have hu49 := Tryz.underlying61
 have hu29 := Tryz.underlying29
 have hu31 := Tryz.underlying31
 have hu33 := pool33
 have hu26 := slots26
 have HP := mA hp
 have HS := mA hs
 have HBAD := mA hbad
 have HSOON := mA hsoon
 clear hp hs hbad hsoon
 have H0 : Aside0 (0 ≤ s ∧ s < 64) := ⟨qV⟩
 go_enter Tryz.func19, Tryz.ntmps19
 go_upto_region 1 with (first | ((with_reducible refine zd 2 ?_); refine pl_box rfl rfl rfl ?_; intro g hg w1 hb1 hB1; have G1 := mA hg; have G2 := mA hb1; have G3 := mA hB1; clear hg hb1 hB1) | ((with_reducible refine zd 3 ?_); refine any_box rfl rfl rfl ?_; intro q hq w2 hb2 hB2; have G4 := mA hq; have G5 := mA hb2; have G6 := mA hB2; clear hq hb2 hB2) | ((with_reducible refine zd 4 ?_); refine pl_alloc (N := 4) rfl rfl rfl ?_; intro r hr w3 hb3 hB3; have G7 := mA hr; have G8 := mA hb3; have G9 := mA hB3; clear hr hb3 hB3))
 have H := mA (AS.make G1.out G2.out G3.out G4.out G5.out G6.out G7.out G8.out G9.out)
 clear G1 G2 G3 G4 G5 G6 G7 G8 G9
 obtain ⟨he0, he1, he2, he3, he4, he5, he6⟩ := bk7 H.out.hq
 go_upto_region 2 with (first | (go_at_call 52; with_reducible refine (check5f s HS.out _).mono ?_; rintro e' w4 ⟨rfl, hb_⟩; replace H := mA (H.out.by_below hb_); clear hb_))
 clear he0 he1 he2 he3 he4 he5 he6
 go_upto_region 4 with fail
 obtain ⟨he0, he1, he2, he3, he4, he5, he6⟩ := bk7 H.out.hq
 go_upto_region 6 with (first | ((with_reducible refine zd 14 ?_); refine pl_load (N := 14) rfl rfl (.tmp 2) rfl rfl H.out.hg HP.out ?_) | (go_at_call 53; refine (bad_calls p HP.out 5 s 0 0 0 0 0 uJ H0.out.1 H0.out.2 _).mono ?_; rw [HBAD.out]; rintro e' w5 ⟨rfl, hb_⟩; replace H := mA (H.out.by_below hb_); clear hb_))
 clear he0 he1 he2 he3 he4 he5 he6
 have h0' := eq_true H0.out.1
 have h1' := eq_true H0.out.2
 obtain ⟨he0, he1⟩ := bk2 H.out.hq
 obtain ⟨ad_, e_, hx0, hx1, hx2, hx3, hx4⟩ := at_T25 (slots_C H.out.hg (pcs_slots _ HP.out)) s H0.out.1 (by rw [show _ = 64 from HP.out]; exact H0.out.2)
 cases e_
 simp only [add_in] at hx0 hx1 hx2 hx3 hx4
 have hring : w5.cell? ⟨g, 323, none⟩ = some (.int .i64 p.ep) := (blk_cell H.out.hg 323).trans (pcs_ring p HP.out 0)
 have hso := HSOON.out
 go_quiet (fail)
 replace H := mA (H.out.by_below (pw_below_drewN (Below.refl _ _) nq))
 generalize w5.drewN nq = w6 at H ⊢
 clear hx0 hx1 hx2 hx3 hx4 hring hso
 go_upto_region 8 with fail
 clear he0 he1
 have hver := bc H.out.hg 0
 have hverf : w6.frozen? ⟨g, 0, none⟩ = false := blk_frozen H.out.hg 0
 go_upto_region 9 with (first | ((with_reducible refine zst 3 38 ?_); refine st3_event rfl rfl (.tmp 38) (.tmp 37) rfl (v := wrap64 (p.ver + 1)) rfl rfl H.out.hg vC ?_; intro w7 hb_ hg_; rw [pcs_ver] at hb_; replace H := mA (H.out.stG hb_ hg_); clear hb_ hg_ hver hverf))
 have he1 := bc H.out.hq 1
 obtain ⟨ad_, e_, hx0, hx1, hx2, hx3, hx4⟩ := at_T25 (slots_C H.out.hg (pcs_slots _ HP.out) : Kd.C k25 w7 (some ⟨g, 3, none⟩) p.sl.length p.sl) s H0.out.1 vM
 cases e_
 simp only [add_in] at hx0 hx1 hx2 hx3 hx4
 go_upto_region 10 with (first | ((with_reducible refine zd 7 ?_); refine sl_alloc (N := 7) rfl rfl rfl ?_; intro s1 hs1 w8 hb_ hB_; have HLT : Aside0 (r < s1) := ⟨kF⟩; have HSB := mA hb_; replace H := mA (H.out.by_below hB_); clear hb_ hB_ hs1) | ((with_reducible refine zst 25 7 ?_); refine stm_event rfl rfl 25 (.tmp 7) (.tmp 43) rfl rfl rfl HSB.out (Nat.le_refl _) (size25' _ _ _ _ _) (one5 _ _ _ _ _) ?_; intro w9 hb_ hg_; have m_ : Aside0 (Blk w9 s1 25 #[.int .i64 (rd_T25 p.sl s).f0, .int .i64 (rd_T25 p.sl s).f1, .int .i64 (rd_T25 p.sl s).f2, .int .i64 (rd_T25 p.sl s).f3, .int .i64 (rd_T25 p.sl s).f4]) := ⟨hb_⟩; have n_ := mA (H.out.stS HLT.out hg_); clear H HSB hb_ hg_ ; have H := n_; have HSB := m_; clear n_ m_))
 clear hx0 hx1 hx2 hx3 hx4 he1
 have he0 := bc H.out.hq 0
 go_upto_region 20 with fail
 go_upto_region 23 with (first | ((with_reducible refine zst 25 7 ?_); refine stm_event rfl rfl 25 (.tmp 7) (.tmp 70) rfl rfl rfl HSB.out (Nat.le_refl _) (size25' _ _ _ _ _) (one5 _ _ _ _ _) ?_; intro wA hb_ hg_; have m_ : Aside0 (Blk wA s1 25 #[.int .i64 0, .int .i64 0, .int .i64 0, .int .i64 0, .int .i64 0]) := ⟨hb_⟩; have n_ := mA (H.out.stS HLT.out hg_); clear H HSB hb_ hg_ ; have H := n_; have HSB := m_; clear n_ m_))
 clear he0
 have he1 := bc H.out.hq 1
 obtain ⟨hv0, hv1, hv2, hv3, hv4⟩ := bk5 HSB.out
 have HL2 : Aside0 (({ p with ver := wrap64 (p.ver + 1), sl := p.sl.set s.toNat ⟨0, 0, 0, 0, 0⟩ } : PL).sl.length = 64) := ⟨kY⟩
 have hlt_ : Aside0 (s.toNat < 64) := ⟨kE⟩
 go_upto_region 24 with (first | ((with_reducible refine zst 25 83 ?_); refine stm_event rfl rfl 25 (.tmp 83) (.tmp 81) rfl rfl rfl H.out.hg (i := 3 + s.toNat * 5) xJ (size25' _ _ _ _ _) (one5 _ _ _ _ _) ?_; intro wX hb_ hg_; have hb2_ : Blk wX g 33 (pcs { p with ver := wrap64 (p.ver + 1), sl := p.sl.set s.toNat ⟨0, 0, 0, 0, 0⟩ }) := (pcs_slot { p with ver := wrap64 (p.ver + 1) } HP.out s.toNat hlt_.out ⟨0, 0, 0, 0, 0⟩) ▸ hb_; replace H := mA (H.out.stG hb2_ hg_); clear hb_ hb2_ hg_))
 clear he1 hv0 hv1 hv2 hv3 hv4
 have hres : Aside0 (nextPool p 5 s 0 0 0 0 0 = { p with ver := wrap64 (p.ver + 1), sl := p.sl.set s.toNat ⟨0, 0, 0, 0, 0⟩ }) := ⟨by simp [nextPool, nextSlot, z25]⟩
 go_wp2_with (first | ((with_reducible refine zd 84 ?_); refine pl_load (N := 84) rfl rfl (.tmp 2) rfl rfl H.out.hg HL2.out ?_) | ((with_reducible refine zst 33 4 ?_); refine pl_store rfl rfl (.tmp 4) (.tmp 84) rfl rfl rfl H.out.hr (pcs_size _ zeroP_len) HL2.out ?_; intro wY hb_ hg_; replace H := mA (H.out.stR hb_ hg_); clear hb_ hg_))
 refine bodyPost_ret (results_ct rfl _ _ _ _ _ (0, 0) _ rfl H.out.hr pool33 rfl (size33 _ HL2.out)) rfl ?_
 exact yB
theorem apply6ok (p : PL) (hp : p.sl.length = 64) (x y : Int) (hbad : badP p 6 0 0 0 = false) (w0 : World) : Calls Tryz.prog 19 #[.agg (pcs p), .agg #[.int .i64 6, .int .i64 0, .int .i64 0, .int .i64 0, .int .i64 0, .int .u64 x, .int .u64 y]] w0 fun e w' => e = .returned (.tuple #[.agg (pcs (nextPool p 6 0 0 0 0 x y)), .int .i64 0]) ∧ Below w0.heap.size w0 w' := by
 have hu25 := Tryz.underlying25
 have hu49 := Tryz.underlying61
 have hu29 := Tryz.underlying29
 have hu31 := Tryz.underlying31
 have hu33 := pool33
 have hu26 := slots26
 have HP := mA hp
 have HBAD := mA hbad
 clear hp hbad
 have H0 : Aside0 ((0 : Int) ≤ 0 ∧ (0 : Int) < 64) := ⟨kC, kC⟩
 go_enter Tryz.func19, Tryz.ntmps19
 go_upto_region 1 with (first | ((with_reducible refine zd 2 ?_); refine pl_box rfl rfl rfl ?_; intro g hg w1 hb1 hB1; have G1 := mA hg; have G2 := mA hb1; have G3 := mA hB1; clear hg hb1 hB1) | ((with_reducible refine zd 3 ?_); refine any_box rfl rfl rfl ?_; intro q hq w2 hb2 hB2; have G4 := mA hq; have G5 := mA hb2; have G6 := mA hB2; clear hq hb2 hB2) | ((with_reducible refine zd 4 ?_); refine pl_alloc (N := 4) rfl rfl rfl ?_; intro r hr w3 hb3 hB3; have G7 := mA hr; have G8 := mA hb3; have G9 := mA hB3; clear hr hb3 hB3))
 have H := mA (AS.make G1.out G2.out G3.out G4.out G5.out G6.out G7.out G8.out G9.out)
 clear G1 G2 G3 G4 G5 G6 G7 G8 G9
 obtain ⟨he0, he1, he2, he3, he4, he5, he6⟩ := bk7 H.out.hq
 go_upto_region 2 with (first | (go_at_call 52; with_reducible refine (check6 x y _).mono ?_; rintro e' w4 ⟨rfl, hb_⟩; replace H := mA (H.out.by_below hb_); clear hb_))
 clear he0 he1 he2 he3 he4 he5 he6
 go_upto_region 4 with fail
 obtain ⟨he0, he1, he2, he3, he4, he5, he6⟩ := bk7 H.out.hq
 go_upto_region 6 with (first | ((with_reducible refine zd 14 ?_); refine pl_load (N := 14) rfl rfl (.tmp 2) rfl rfl H.out.hg HP.out ?_) | (go_at_call 53; refine (bad_calls p HP.out 6 0 0 0 0 x y uJ H0.out.1 H0.out.2 _).mono ?_; rw [HBAD.out]; rintro e' w5 ⟨rfl, hb_⟩; replace H := mA (H.out.by_below hb_); clear hb_))
 clear he0 he1 he2 he3 he4 he5 he6
 have h0' := eq_true H0.out.1
 have h1' := eq_true H0.out.2
 obtain ⟨he0, he1⟩ := bk2 H.out.hq
 go_quiet (fail)
 replace H := mA (H.out.by_below (pw_below_drewN (Below.refl _ _) nq))
 generalize w5.drewN nq = w6 at H ⊢
 go_upto_region 8 with fail
 clear he0 he1
 have hver := bc H.out.hg 0
 have hverf : w6.frozen? ⟨g, 0, none⟩ = false := blk_frozen H.out.hg 0
 go_upto_region 9 with (first | ((with_reducible refine zst 3 38 ?_); refine st3_event rfl rfl (.tmp 38) (.tmp 37) rfl (v := wrap64 (p.ver + 1)) rfl rfl H.out.hg vC ?_; intro w7 hb_ hg_; rw [pcs_ver] at hb_; replace H := mA (H.out.stG hb_ hg_); clear hb_ hg_ hver hverf))
 have he1 := bc H.out.hq 1
 obtain ⟨ad_, e_, hx0, hx1, hx2, hx3, hx4⟩ := at_T25 (slots_C H.out.hg (pcs_slots _ HP.out) : Kd.C k25 w7 (some ⟨g, 3, none⟩) p.sl.length p.sl) 0 H0.out.1 vM
 cases e_
 simp only [add_in, Int.toNat_zero, Nat.zero_mul, Nat.add_zero, Nat.reduceAdd] at hx0 hx1 hx2 hx3 hx4
 go_upto_region 10 with (first | ((with_reducible refine zd 7 ?_); refine sl_alloc (N := 7) rfl rfl rfl ?_; intro s1 hs1 w8 hb_ hB_; have HLT : Aside0 (r < s1) := ⟨kF⟩; have HSB := mA hb_; replace H := mA (H.out.by_below hB_); clear hb_ hB_ hs1) | ((with_reducible refine zst 25 7 ?_); refine stm_event rfl rfl 25 (.tmp 7) (.tmp 43) rfl rfl rfl HSB.out (Nat.le_refl _) (size25' _ _ _ _ _) (one5 _ _ _ _ _) ?_; intro w9 hb_ hg_; have m_ : Aside0 (Blk w9 s1 25 #[.int .i64 (rd_T25 p.sl 0).f0, .int .i64 (rd_T25 p.sl 0).f1, .int .i64 (rd_T25 p.sl 0).f2, .int .i64 (rd_T25 p.sl 0).f3, .int .i64 (rd_T25 p.sl 0).f4]) := ⟨hb_⟩; have n_ := mA (H.out.stS HLT.out hg_); clear H HSB hb_ hg_ ; have H := n_; have HSB := m_; clear n_ m_))
 clear hx0 hx1 hx2 hx3 hx4 he1
 have he0 := bc H.out.hq 0
 go_upto_region 22 with fail
 have hr0 : w9.cell? ⟨g, 323, none⟩ = some (.int .i64 p.ep) := (blk_cell H.out.hg 323).trans (pcs_ring { p with ver := wrap64 (p.ver + 1) } HP.out 0)
 have hr1 : w9.cell? ⟨g, 324, none⟩ = some (.int .u64 p.k1) := (blk_cell H.out.hg 324).trans (pcs_ring { p with ver := wrap64 (p.ver + 1) } HP.out 1)
 have hr2 : w9.cell? ⟨g, 325, none⟩ = some (.int .u64 p.k2) := (blk_cell H.out.hg 325).trans (pcs_ring { p with ver := wrap64 (p.ver + 1) } HP.out 2)
 have hr3 : w9.cell? ⟨g, 326, none⟩ = some (.int .u64 p.k3) := (blk_cell H.out.hg 326).trans (pcs_ring { p with ver := wrap64 (p.ver + 1) } HP.out 3)
 have hr4 : w9.cell? ⟨g, 327, none⟩ = some (.int .u64 p.k4) := (blk_cell H.out.hg 327).trans (pcs_ring { p with ver := wrap64 (p.ver + 1) } HP.out 4)
 have hr5 : w9.cell? ⟨g, 328, none⟩ = some (.int .u64 p.k5) := (blk_cell H.out.hg 328).trans (pcs_ring { p with ver := wrap64 (p.ver + 1) } HP.out 5)
 have hr6 : w9.cell? ⟨g, 329, none⟩ = some (.int .u64 p.k6) := (blk_cell H.out.hg 329).trans (pcs_ring { p with ver := wrap64 (p.ver + 1) } HP.out 6)
 have he5 := bc H.out.hq 5
 have he6 := bc H.out.hq 6
 go_upto_region 23 with (first | (go_at_call 54; refine (rr5_Next.calls p.ep p.k1 p.k2 p.k3 p.k4 p.k5 p.k6 x y _ _ _ _ _ _ _ _ rfl).mono ?_; rintro e' wA ⟨rfl, hb_⟩; replace H := mA (H.out.by_below hb_); replace HSB := mA (HSB.out.below hb_); clear hb_ hr0 hr1 hr2 hr3 hr4 hr5 hr6 he0 he5 he6) | ((with_reducible refine zst 31 78 ?_); refine stm_event rfl rfl 31 (.tmp 78) (.tmp 77) rfl rfl rfl H.out.hg (by rw [pcs_size ({ p with ver := wrap64 (p.ver + 1) } : PL) HP.out]; simp) uW (one7 _ _ _ _ _ _ _) ?_; intro wB hb_ hg_; have hb2_ : Blk wB g 33 (pcs ⟨wrap64 (p.ver + 1), p.addr, p.port, p.sl, wrap64 (p.ep + 1), p.k3, p.k4, p.k5, p.k6, x, y⟩) := (pcs_rg { p with ver := wrap64 (p.ver + 1) } HP.out (wrap64 (p.ep + 1)) p.k3 p.k4 p.k5 p.k6 x y) ▸ hb_; have n_ := mA (H.out.stG hb2_ hg_); replace HSB := mA (HSB.out.grown hg_ (fun e => by injection e with e; have h1_ := H.out.ne; have h2_ := HLT.out; omega)); clear H hb_ hb2_ hg_; have H := n_; clear n_))
 have he1 := bc H.out.hq 1
 obtain ⟨hv0, hv1, hv2, hv3, hv4⟩ := bk5 HSB.out
 have HL2 : Aside0 ((⟨wrap64 (p.ver + 1), p.addr, p.port, p.sl.set 0 ⟨(rd_T25 p.sl 0).f0, (rd_T25 p.sl 0).f1, (rd_T25 p.sl 0).f2, (rd_T25 p.sl 0).f3, (rd_T25 p.sl 0).f4⟩, wrap64 (p.ep + 1), p.k3, p.k4, p.k5, p.k6, x, y⟩ : PL).sl.length = 64) := ⟨kY⟩
 have hlt_ : Aside0 (0 < 64) := ⟨kE⟩
 go_upto_region 24 with (first | ((with_reducible refine zst 25 83 ?_); refine stm_event rfl rfl 25 (.tmp 83) (.tmp 81) rfl rfl rfl H.out.hg (i := 3 + 0 * 5) (by rw [pcs_size (⟨wrap64 (p.ver + 1), p.addr, p.port, p.sl, wrap64 (p.ep + 1), p.k3, p.k4, p.k5, p.k6, x, y⟩ : PL) HP.out]; have h_ := hlt_.out; simp only [List.size_toArray, List.length_cons, List.length_nil]; omega) (size25' _ _ _ _ _) (one5 _ _ _ _ _) ?_; intro wX hb_ hg_; have hb2_ : Blk wX g 33 (pcs ⟨wrap64 (p.ver + 1), p.addr, p.port, p.sl.set 0 ⟨(rd_T25 p.sl 0).f0, (rd_T25 p.sl 0).f1, (rd_T25 p.sl 0).f2, (rd_T25 p.sl 0).f3, (rd_T25 p.sl 0).f4⟩, wrap64 (p.ep + 1), p.k3, p.k4, p.k5, p.k6, x, y⟩) := (pcs_slot ⟨wrap64 (p.ver + 1), p.addr, p.port, p.sl, wrap64 (p.ep + 1), p.k3, p.k4, p.k5, p.k6, x, y⟩ HP.out 0 hlt_.out ⟨(rd_T25 p.sl 0).f0, (rd_T25 p.sl 0).f1, (rd_T25 p.sl 0).f2, (rd_T25 p.sl 0).f3, (rd_T25 p.sl 0).f4⟩) ▸ hb_; replace H := mA (H.out.stG hb2_ hg_); clear hb_ hb2_ hg_))
 clear he1 hv0 hv1 hv2 hv3 hv4
 have hres : Aside0 (nextPool p 6 0 0 0 0 x y = ⟨wrap64 (p.ver + 1), p.addr, p.port, p.sl.set 0 ⟨(rd_T25 p.sl 0).f0, (rd_T25 p.sl 0).f1, (rd_T25 p.sl 0).f2, (rd_T25 p.sl 0).f3, (rd_T25 p.sl 0).f4⟩, wrap64 (p.ep + 1), p.k3, p.k4, p.k5, p.k6, x, y⟩) := ⟨kI⟩
 go_wp2_with (first | ((with_reducible refine zd 84 ?_); refine pl_load (N := 84) rfl rfl (.tmp 2) rfl rfl H.out.hg HL2.out ?_) | ((with_reducible refine zst 33 4 ?_); refine pl_store rfl rfl (.tmp 4) (.tmp 84) rfl rfl rfl H.out.hr (pcs_size _ zeroP_len) HL2.out ?_; intro wY hb_ hg_; replace H := mA (H.out.stR hb_ hg_); clear hb_ hg_))
 refine bodyPost_ret (results_ct rfl _ _ _ _ _ (0, 0) _ rfl H.out.hr pool33 rfl (size33 _ HL2.out)) rfl ?_
 exact yB
theorem apply_calls (p : PL) (hp : p.sl.length = 64) (k s a b c x y : Int) (hwf : WF k s a b c x y) (w0 : World) : Calls Tryz.prog 19 #[.agg (pcs p), .agg #[.int .i64 k, .int .i64 s, .int .i64 a, .int .i64 b, .int .i64 c, .int .u64 x, .int .u64 y]] w0 fun e w' => e = .returned (.tuple #[.agg (pcs (applyP p k s a b c x y).1), .int .i64 (applyP p k s a b c x y).2]) ∧ Below w0.heap.size w0 w' := by
 have ht : ∀ b : Bool, b = false → ¬ (b = true) := fun b h => by rw [h]; decide
 rcases hwf with ⟨rfl, h1, h2, h3, rfl, rfl⟩ | ⟨rfl, rfl, rfl, rfl, rfl, rfl⟩ | ⟨rfl, rfl, rfl, rfl, rfl, rfl⟩ | ⟨rfl, rfl, rfl, rfl, rfl, rfl⟩ | ⟨rfl, rfl, rfl, rfl, rfl, rfl⟩ | ⟨rfl, rfl, rfl, rfl, rfl⟩
 ·cases hs : outB s 0 63 with
  | true =>
   rw [show applyP p 1 s a b c 0 0 = (zeroP, 11) from by unfold applyP; rw [if_pos hs]]
   exact apply1out p hp s a b c h1 h2 h3 hs w0
  | false =>
   cases hb : badP p 1 s a b with
   | true =>
    rw [show applyP p 1 s a b c 0 0 = (zeroP, 12) from by unfold applyP; rw [if_neg (ht _ hs), if_pos hb]]
    exact apply1bad p hp s a b c h1 h2 h3 hs hb w0
   | false =>
    rw [show applyP p 1 s a b c 0 0 = (nextPool p 1 s a b c 0 0, 0) from by unfold applyP; rw [if_neg (ht _ hs), if_neg (ht _ hb), if_neg (fun h => absurd h.1 uJ)]]
    exact apply1ok p hp s a b c h1 h2 h3 hs hb w0
 ·cases hs : outB s 0 63 with
  | true =>
   rw [show applyP p 2 s 0 0 0 0 0 = (zeroP, 11) from by unfold applyP; rw [if_pos hs]]
   exact apply2out p hp s hs w0
  | false =>
   cases hb : badP p 2 s 0 0 with
   | true =>
    rw [show applyP p 2 s 0 0 0 0 0 = (zeroP, 12) from by unfold applyP; rw [if_neg (ht _ hs), if_pos hb]]
    exact apply2bad p hp s hs hb w0
   | false =>
    rw [show applyP p 2 s 0 0 0 0 0 = (nextPool p 2 s 0 0 0 0 0, 0) from by unfold applyP; rw [if_neg (ht _ hs), if_neg (ht _ hb), if_neg (fun h => absurd h.1 uJ)]]
    exact apply2ok p hp s hs hb w0
 ·cases hs : outB s 0 63 with
  | true =>
   rw [show applyP p 3 s 0 0 0 0 0 = (zeroP, 11) from by unfold applyP; rw [if_pos hs]]
   exact apply3out p hp s hs w0
  | false =>
   cases hb : badP p 3 s 0 0 with
   | true =>
    rw [show applyP p 3 s 0 0 0 0 0 = (zeroP, 12) from by unfold applyP; rw [if_neg (ht _ hs), if_pos hb]]
    exact apply3bad p hp s hs hb w0
   | false =>
    rw [show applyP p 3 s 0 0 0 0 0 = (nextPool p 3 s 0 0 0 0 0, 0) from by unfold applyP; rw [if_neg (ht _ hs), if_neg (ht _ hb), if_neg (fun h => absurd h.1 uJ)]]
    exact apply3ok p hp s hs hb w0
 ·cases hs : outB s 0 63 with
  | true =>
   rw [show applyP p 4 s 0 0 0 0 0 = (zeroP, 11) from by unfold applyP; rw [if_pos hs]]
   exact apply4out p hp s hs w0
  | false =>
   cases hb : badP p 4 s 0 0 with
   | true =>
    rw [show applyP p 4 s 0 0 0 0 0 = (zeroP, 12) from by unfold applyP; rw [if_neg (ht _ hs), if_pos hb]]
    exact apply4bad p hp s hs hb w0
   | false =>
    rw [show applyP p 4 s 0 0 0 0 0 = (nextPool p 4 s 0 0 0 0 0, 0) from by unfold applyP; rw [if_neg (ht _ hs), if_neg (ht _ hb), if_neg (fun h => absurd h.1 uJ)]]
    exact apply4ok p hp s hs hb w0
 ·cases hs : outB s 0 63 with
  | true =>
   rw [show applyP p 5 s 0 0 0 0 0 = (zeroP, 11) from by unfold applyP; rw [if_pos hs]]
   exact apply5out p hp s hs w0
  | false =>
   cases hb : badP p 5 s 0 0 with
   | true =>
    rw [show applyP p 5 s 0 0 0 0 0 = (zeroP, 12) from by unfold applyP; rw [if_neg (ht _ hs), if_pos hb]]
    exact apply5bad p hp s hs hb w0
   | false =>
    by_cases hq : p.ep < wrap64 ((rd_T25 p.sl s).f4 + 3)
    ·rw [show applyP p 5 s 0 0 0 0 0 = (zeroP, 13) from by unfold applyP; rw [if_neg (ht _ hs), if_neg (ht _ hb), if_pos ⟨rfl, hq⟩]]
     exact apply5soon p hp s hs hb (decide_eq_true hq) w0
    ·rw [show applyP p 5 s 0 0 0 0 0 = (nextPool p 5 s 0 0 0 0 0, 0) from by unfold applyP; rw [if_neg (ht _ hs), if_neg (ht _ hb), if_neg (fun h => hq h.2)]]
     exact apply5ok p hp s hs hb (decide_eq_false hq) w0
 ·have hs : outB 0 0 63 = false := by decide
  have hb : badP p 6 0 0 0 = false := by simp [badP]
  rw [show applyP p 6 0 0 0 0 x y = (nextPool p 6 0 0 0 0 x y, 0) from by unfold applyP; rw [if_neg (ht _ hs), if_neg (ht _ hb), if_neg (fun h => absurd h.1 uJ)]]
  exact apply6ok p hp x y hb w0
end
set_option maxHeartbeats 8000000
set_option maxRecDepth 100000
theorem ring_calls (q : Int) (A : Option Addr) (c : Nat) (l : List S29) (w : World) (hr : Kd.C k29 w A l.length l) (hc : l.length ≤ c) : Calls Tryz.prog 51 #[.int .i64 q, .slice A l.length c] w
 fun e' w' => e' = .returned (.agg #[.int .i64 q, .int .u64 (l.getD 0 z29).f0, .int .u64 (l.getD 0 z29).f1, .int .u64 (l.getD 1 z29).f0, .int .u64 (l.getD 1 z29).f1, .int .u64 (l.getD 2 z29).f0, .int .u64 (l.getD 2 z29).f1]) ∧ Below w.heap.size w w' := by
 have HR := mA hr
 have HM := mA hr.2.1
 clear hr
 go_enter Tryz.func51, Tryz.ntmps51
 go_wp2
 go_loopw [6] (fun v6 wr => ∃ k : Nat, k ≤ 3 ∧ k ≤ l.length ∧ v6 = .int .i64 k ∧ Aside0 (Below w.heap.size w wr) ∧ Aside0 (wr.heap[w.heap.size]? = some (.cells #[.int .i64 0, .int .u64 0, .int .u64 0, .int .u64 0, .int .u64 0, .int .u64 0, .int .u64 0] 31 (0, 0))) ∧ Aside0 (wr.heap[w.heap.size + 1]? = some (.cells (keyCells l k) 150 (0, 0)))) (fun v6 _ => 3 - (intOf v6).toNat)
 case atStart => exact ⟨0, qN, qN, rfl, ⟨below_alloc (below_alloc (Below.refl _ _) _) _⟩, ⟨blk_alloc (heap_alloc_new _ _) _⟩, ⟨heap2 _ _ _⟩⟩
 case round =>
  obtain ⟨k, hk3, hkl, rfl, HB, BR, BK⟩ := hrel
  have hm := HM.out
  by_cases hlt : k < l.length
  ·by_cases h3 : k < 3
   ·obtain ⟨ad, rfl, h0, h1⟩ := at_T29 (Kd.C_below HR.out HB.out) k uY uY
    rw [Int.toNat_natCast] at h0 h1
    obtain ⟨x, hx⟩ : ∃ x : S29, x = l.getD k z29 := ⟨_, rfl⟩
    have e : rd_T29 l k = x := by rw [hx]; simp [rd_T29]
    rw [e] at h0 h1
    have HX := mA hx
    clear hx e
    have c0 : wr.cell? ⟨w.heap.size + 1, k * 2, none⟩ = some (.int .u64 0) := (blk_cell BK.out _).trans (by rcases (show k = 0 ∨ k = 1 ∨ k = 2 by omega) with rfl | rfl | rfl <;> rfl)
    have c1 : wr.cell? ⟨w.heap.size + 1, k * 2 + 1, none⟩ = some (.int .u64 0) := (blk_cell BK.out _).trans (by rcases (show k = 0 ∨ k = 1 ∨ k = 2 by omega) with rfl | rfl | rfl <;> rfl)
    have f0 := blk_frozen BK.out (k * 2)
    have f1 := blk_frozen BK.out (k * 2 + 1)
    go_wp2
    go_roundw
    case rel => exact ⟨k + 1, qN, qN, by go_num, ⟨by repeat (first | exact HB.out | (refine below_set ?_ (Nat.le_add_right _ _)))⟩, ⟨blk_far (blk_far BR.out xU _) xU _⟩, ⟨blk_put (blk_put BK.out (k * 2) _ rfl) (k * 2 + 1) _ (keyStep l k x HX.out h3)⟩⟩
    case measure => simp [intOf]; omega
   ·obtain rfl : k = 3 := by omega
    obtain ⟨y0, b0, H0⟩ : ∃ y : Int, wr.cell? ⟨w.heap.size + 1, 0, none⟩ = some (.int .u64 y) ∧ Aside0 (y = (l.getD 0 z29).f0) := ⟨_, blk_cell BK.out 0, ⟨congrArg S29.f0 (keyIn_three l 0 uJ)⟩⟩
    obtain ⟨y1, b1, H1⟩ : ∃ y : Int, wr.cell? ⟨w.heap.size + 1, 1, none⟩ = some (.int .u64 y) ∧ Aside0 (y = (l.getD 0 z29).f1) := ⟨_, blk_cell BK.out 1, ⟨congrArg S29.f1 (keyIn_three l 0 uJ)⟩⟩
    obtain ⟨y2, b2, H2⟩ : ∃ y : Int, wr.cell? ⟨w.heap.size + 1, 2, none⟩ = some (.int .u64 y) ∧ Aside0 (y = (l.getD 1 z29).f0) := ⟨_, blk_cell BK.out 2, ⟨congrArg S29.f0 (keyIn_three l 1 uJ)⟩⟩
    obtain ⟨y3, b3, H3⟩ : ∃ y : Int, wr.cell? ⟨w.heap.size + 1, 3, none⟩ = some (.int .u64 y) ∧ Aside0 (y = (l.getD 1 z29).f1) := ⟨_, blk_cell BK.out 3, ⟨congrArg S29.f1 (keyIn_three l 1 uJ)⟩⟩
    obtain ⟨y4, b4, H4⟩ : ∃ y : Int, wr.cell? ⟨w.heap.size + 1, 4, none⟩ = some (.int .u64 y) ∧ Aside0 (y = (l.getD 2 z29).f0) := ⟨_, blk_cell BK.out 4, ⟨congrArg S29.f0 (keyIn_three l 2 uJ)⟩⟩
    obtain ⟨y5, b5, H5⟩ : ∃ y : Int, wr.cell? ⟨w.heap.size + 1, 5, none⟩ = some (.int .u64 y) ∧ Aside0 (y = (l.getD 2 z29).f1) := ⟨_, blk_cell BK.out 5, ⟨congrArg S29.f1 (keyIn_three l 2 uJ)⟩⟩
    have z0 := (blk_cell BR.out 0).trans rfl; have g0 := blk_frozen BR.out 0; have z1 := (blk_cell BR.out 1).trans rfl; have g1 := blk_frozen BR.out 1; have z2 := (blk_cell BR.out 2).trans rfl; have g2 := blk_frozen BR.out 2; have z3 := (blk_cell BR.out 3).trans rfl; have g3 := blk_frozen BR.out 3; have z4 := (blk_cell BR.out 4).trans rfl; have g4 := blk_frozen BR.out 4; have z5 := (blk_cell BR.out 5).trans rfl; have g5 := blk_frozen BR.out 5; have z6 := (blk_cell BR.out 6).trans rfl; have g6 := blk_frozen BR.out 6
    go_wp2
    refine bodyPost_ret (results_cell_row rfl _ _ w.heap.size 31 #[.int .i64 q, .int .u64 y0, .int .u64 y1, .int .u64 y2, .int .u64 y3, .int .u64 y4, .int .u64 y5] (0, 0) _ rfl uK Tryz.underlying31 rfl uW) rfl ?_
    exact ⟨kT, kV⟩
  ·obtain rfl : k = l.length := by omega
   obtain ⟨y0, b0, H0⟩ : ∃ y : Int, wr.cell? ⟨w.heap.size + 1, 0, none⟩ = some (.int .u64 y) ∧ Aside0 (y = (l.getD 0 z29).f0) := ⟨_, blk_cell BK.out 0, ⟨congrArg S29.f0 (keyIn_len l 0)⟩⟩
   obtain ⟨y1, b1, H1⟩ : ∃ y : Int, wr.cell? ⟨w.heap.size + 1, 1, none⟩ = some (.int .u64 y) ∧ Aside0 (y = (l.getD 0 z29).f1) := ⟨_, blk_cell BK.out 1, ⟨congrArg S29.f1 (keyIn_len l 0)⟩⟩
   obtain ⟨y2, b2, H2⟩ : ∃ y : Int, wr.cell? ⟨w.heap.size + 1, 2, none⟩ = some (.int .u64 y) ∧ Aside0 (y = (l.getD 1 z29).f0) := ⟨_, blk_cell BK.out 2, ⟨congrArg S29.f0 (keyIn_len l 1)⟩⟩
   obtain ⟨y3, b3, H3⟩ : ∃ y : Int, wr.cell? ⟨w.heap.size + 1, 3, none⟩ = some (.int .u64 y) ∧ Aside0 (y = (l.getD 1 z29).f1) := ⟨_, blk_cell BK.out 3, ⟨congrArg S29.f1 (keyIn_len l 1)⟩⟩
   obtain ⟨y4, b4, H4⟩ : ∃ y : Int, wr.cell? ⟨w.heap.size + 1, 4, none⟩ = some (.int .u64 y) ∧ Aside0 (y = (l.getD 2 z29).f0) := ⟨_, blk_cell BK.out 4, ⟨congrArg S29.f0 (keyIn_len l 2)⟩⟩
   obtain ⟨y5, b5, H5⟩ : ∃ y : Int, wr.cell? ⟨w.heap.size + 1, 5, none⟩ = some (.int .u64 y) ∧ Aside0 (y = (l.getD 2 z29).f1) := ⟨_, blk_cell BK.out 5, ⟨congrArg S29.f1 (keyIn_len l 2)⟩⟩
   have z0 := (blk_cell BR.out 0).trans rfl; have g0 := blk_frozen BR.out 0; have z1 := (blk_cell BR.out 1).trans rfl; have g1 := blk_frozen BR.out 1; have z2 := (blk_cell BR.out 2).trans rfl; have g2 := blk_frozen BR.out 2; have z3 := (blk_cell BR.out 3).trans rfl; have g3 := blk_frozen BR.out 3; have z4 := (blk_cell BR.out 4).trans rfl; have g4 := blk_frozen BR.out 4; have z5 := (blk_cell BR.out 5).trans rfl; have g5 := blk_frozen BR.out 5; have z6 := (blk_cell BR.out 6).trans rfl; have g6 := blk_frozen BR.out 6
   go_wp2
   refine bodyPost_ret (results_cell_row rfl _ _ w.heap.size 31 #[.int .i64 q, .int .u64 y0, .int .u64 y1, .int .u64 y2, .int .u64 y3, .int .u64 y4, .int .u64 y5] (0, 0) _ rfl uK Tryz.underlying31 rfl uW) rfl ?_
   exact ⟨kT, kV⟩
theorem keys_C {W : World} {g T : Nat} {fr : Nat × Nat} {a b c d e f : Int} (h : W.heap[g]? = some (.cells #[.int .u64 a, .int .u64 b, .int .u64 c, .int .u64 d, .int .u64 e, .int .u64 f] T fr)) : Kd.C k29 W (some ⟨g, 0, none⟩) [(⟨a, b⟩ : S29), ⟨c, d⟩, ⟨e, f⟩].length [(⟨a, b⟩ : S29), ⟨c, d⟩, ⟨e, f⟩] := by
 refine ⟨rfl, by simp, fun _ => ⟨_, rfl, fun j p hj => ⟨[.int .u64 p.f0, .int .u64 p.f1], rfl, k29_mk W p, fun i u hu => ?_⟩⟩⟩
 rw [add_in]
 simp only [World.cell?, h]
 have hi : i < 2 := (List.getElem?_eq_some_iff.1 hu).1
 have hj3 : j < 3 := (List.getElem?_eq_some_iff.1 hj).1
 rcases (show j = 0 ∨ j = 1 ∨ j = 2 by omega) with rfl | rfl | rfl <;> rcases (show i = 0 ∨ i = 1 by omega) with rfl | rfl <;> (injection hj with hj; subst hj; exact hu)
def newP (a b k1 k2 k3 k4 : Int) : PL := ⟨0, a, b, List.replicate 64 z25, 1, 0, 0, k1, k2, k3, k4⟩
theorem newP_len (a b k1 k2 k3 k4 : Int) : (newP a b k1 k2 k3 k4).sl.length = 64 := by simp [newP]
theorem run_new (ev : Operand → Value) (o : Oper) (w : World) (a b q x1 x2 x3 x4 x5 x6 : Int) (ho : o.op = .build 33 #[(1, .tmp 17), (2, .tmp 18), (4, .tmp 23)]) (h1 : ev (.tmp 17) = .int .i64 a) (h2 : ev (.tmp 18) = .int .i64 b) (h3 : ev (.tmp 23) = .agg #[.int .i64 q, .int .u64 x1, .int .u64 x2, .int .u64 x3, .int .u64 x4, .int .u64 x5, .int .u64 x6]) :
 (execOp ev o).run Tryz.prog w = .ok (.value (.agg (pcs ⟨0, a, b, List.replicate 64 z25, q, x1, x2, x3, x4, x5, x6⟩))) w := by
 cases o with
 | mk dst op ty pos after guard =>
  obtain rfl : op = _ := ho
  have e : (#[(1, Operand.tmp 17), (2, Operand.tmp 18), (4, Operand.tmp 23)].map fun (i, x) => (i, ev x)) = #[(1, .int .i64 a), (2, .int .i64 b), (4, .agg #[.int .i64 q, .int .u64 x1, .int .u64 x2, .int .u64 x3, .int .u64 x4, .int .u64 x5, .int .u64 x6])] := by
   simp [h1, h2, h3]
  have key : (Instr.build 33 #[(1, .int .i64 a), (2, .int .i64 b), (4, .agg #[.int .i64 q, .int .u64 x1, .int .u64 x2, .int .u64 x3, .int .u64 x4, .int .u64 x5, .int .u64 x6])]).run Tryz.prog w = .ok (.agg (pcs ⟨0, a, b, List.replicate 64 z25, q, x1, x2, x3, x4, x5, x6⟩)) w := by kernel_rfl
  unfold execOp
  simp only [e, Sem.run_bind, Sem.run_pure, Result.andThen_ok, key]
structure NS (w0 : World) (g q r : Nat) (P E R : Array Value) (w : World) : Prop where
 hg : Blk w g 29 P
 hq : Blk w q 29 E
 hr : Blk w r 33 R
 below : Below w0.heap.size w0 w
 ge : w0.heap.size ≤ r
theorem NS.by_below {w0 : World} {g q r : Nat} {P E R : Array Value} {w w' : World} (h : NS w0 g q r P E R w) (hb : Below w.heap.size w w') : NS w0 g q r P E R w' :=
 ⟨h.hg.below hb, h.hq.below hb, h.hr.below hb, below_step h.below hb, h.ge⟩
theorem NS.make {w0 w1 w2 w3 : World} {g q r : Nat} {P E R : Array Value} (hb1 : Blk w1 g 29 P) (hB1 : Below w0.heap.size w0 w1) (hb2 : Blk w2 q 29 E) (hB2 : Below w1.heap.size w1 w2) (hr : r = w2.heap.size) (hb3 : Blk w3 r 33 R) (hB3 : Below w2.heap.size w2 w3) : NS w0 g q r P E R w3 := by
 have h3 := hB1.size
 have h4 := hB2.size
 exact ⟨(hb1.below hB2).below hB3, hb2.below hB3, hb3, below_step (below_step hB1 hB2) hB3, qN⟩
theorem new_calls (a b k1 k2 k3 k4 : Int) (ha : outB a 0 4294967295 = false) (hb : outB b 0 65535 = false) (w0 : World) : Calls Tryz.prog 17 #[.int .i64 a, .int .i64 b, .agg #[.int .u64 k1, .int .u64 k2], .agg #[.int .u64 k3, .int .u64 k4]] w0 fun e w' => e = .returned (.tuple #[.agg (pcs (newP a b k1 k2 k3 k4)), .int .i64 0]) ∧ Below w0.heap.size w0 w' := by
 have hu29 := Tryz.underlying29
 have hu31 := Tryz.underlying31
 have hu76 := Tryz.underlying109
 have HA := mA ha
 have HBB := mA hb
 clear ha hb
 go_enter Tryz.func17, Tryz.ntmps17
 go_upto_region 1 with (first | ((with_reducible refine zd 6 ?_); refine any_box rfl rfl rfl ?_; intro g hg w1 hb1 hB1; have G2 := mA hb1; have G3 := mA hB1; clear hg hb1 hB1) | ((with_reducible refine zd 7 ?_); refine any_box rfl rfl rfl ?_; intro q hq w2 hb2 hB2; have G5 := mA hb2; have G6 := mA hB2; clear hq hb2 hB2) | ((with_reducible refine zd 8 ?_); refine pl_alloc (N := 8) rfl rfl rfl ?_; intro r hr w3 hb3 hB3; have G7 := mA hr; have G8 := mA hb3; have G9 := mA hB3; clear hr hb3 hB3))
 have H := mA (NS.make G2.out G3.out G5.out G6.out G7.out G8.out G9.out)
 clear G2 G3 G5 G6 G7 G8 G9
 go_upto_region 3 with (first | (go_at_call 50; refine Calls.mono (by first | with_reducible exact (out_calls _ _ _ false HA.out _) | with_reducible exact (out_calls _ _ _ false HBB.out _)) ?_; rintro e_ w4 ⟨rfl, hd⟩; replace H := mA (H.out.by_below (w' := w4) (by obtain ⟨n_, rfl⟩ := hd; exact pw_below_drewN (Below.refl _ _) n_)); clear hd))
 obtain ⟨c0, c1⟩ := bk2 H.out.hg
 obtain ⟨c2, c3⟩ := bk2 H.out.hq
 go_wp2_with (first
  | (go_at_call 51; refine (ring_calls 1 _ 3 [(⟨0, 0⟩ : S29), ⟨k1, k2⟩, ⟨k3, k4⟩] _ (keys_C (heap_alloc_new _ _)) xU).mono ?_; rintro e_ w5 ⟨rfl, hb_⟩; replace H := mA ((H.out.by_below (below_alloc (Below.refl _ _) _)).by_below hb_); clear hb_ c0 c1 c2 c3)
  | ((with_reducible refine zd 24 ?_); refine Kd.event_run rfl (run_new _ _ _ a b 1 0 0 k1 k2 k3 k4 rfl rfl rfl rfl) ?_)
  | ((with_reducible refine zst 33 8 ?_); refine pl_store (p := newP a b k1 k2 k3 k4) rfl rfl (.tmp 8) (.tmp 24) rfl rfl rfl H.out.hr (pcs_size _ zeroP_len) (newP_len _ _ _ _ _ _) ?_; intro w9 hb_ hg_; have HR := mA hb_; have n_ := mA (H.out.below.grown hg_ (below_size H.out.below) (fun k hk => by injection hk with hk; subst hk; exact H.out.ge)); clear H hb_ hg_; have HB := n_; clear n_))
 refine bodyPost_ret (results_ct rfl _ _ _ _ _ (0, 0) _ rfl HR.out pool33 rfl (size33 _ (newP_len _ _ _ _ _ _))) rfl ?_
 exact ⟨rfl, HB.out⟩
structure EN where
 k : Int
 s : Int
 a : Int
 b : Int
 c : Int
 x : Int
 y : Int
def WFE (e : EN) : Prop := WF e.k e.s e.a e.b e.c e.x e.y
def apE (p : PL) (e : EN) : PL × Int := applyP p e.k e.s e.a e.b e.c e.x e.y
theorem apE_len (p : PL) (e : EN) (h : p.sl.length = 64) : (apE p e).1.sl.length = 64 := applyP_len _ _ _ _ _ _ _ _ h
theorem apE_calls (p : PL) (hp : p.sl.length = 64) (e : EN) (hwf : WFE e) (w0 : World) : Calls Tryz.prog 19 #[.agg (pcs p), .agg #[.int .i64 e.k, .int .i64 e.s, .int .i64 e.a, .int .i64 e.b, .int .i64 e.c, .int .u64 e.x, .int .u64 e.y]] w0 fun r w' => r = .returned (.tuple #[.agg (pcs (apE p e).1), .int .i64 (apE p e).2]) ∧ Below w0.heap.size w0 w' :=
 apply_calls p hp _ _ _ _ _ _ _ hwf w0
theorem outB_false (x lo hi : Int) (h : lo ≤ x ∧ x ≤ hi) : outB x lo hi = false := by
 unfold outB
 simp only [decide_eq_false_iff_not]
 omega
theorem entry_j0 (kk s : Int) (h0 : 0 ≤ kk) (h1 : kk < 1125899906842624) : ∃ e : EN, rl6_Entry.j0 2 kk s = some (e.k, e.s, e.a, e.b, e.c, e.x, e.y) ∧ WFE e := by
 have hm : Int.tmod kk 8 = kk % 8 := Int.tmod_eq_emod_of_nonneg h0
 have hd1 : Int.tdiv kk 400 = kk / 400 := Int.tdiv_eq_ediv_of_nonneg h0
 have hd2 : Int.tdiv kk 2000 = kk / 2000 := Int.tdiv_eq_ediv_of_nonneg h0
 have hd3 : Int.tdiv kk 6000 = kk / 6000 := Int.tdiv_eq_ediv_of_nonneg h0
 have hw : ∀ z : Int, 0 ≤ z → z < 1125899906842624 → wrap64 z = z := fun z a b => by unfold wrap64; omega
 have key : ∀ b : Bool, (b = true ∨ b = false) → (b = true → True) → ∃ e : EN, rl6_Entry.j1 1 kk s (kk % 8) b = some (e.k, e.s, e.a, e.b, e.c, e.x, e.y) ∧ WFE e := by
  intro b hb _
  cases b with
  | true =>
   refine ⟨⟨1, s, Int.tmod (wrap64 (Int.tdiv kk 400)) 5, Int.tmod (wrap64 (Int.tdiv kk 2000)) 3, wrap64 (1 + (Int.tmod (wrap64 (Int.tdiv kk 6000)) 8)), 0, 0⟩, ?_, ?_⟩
   ·simp only [rl6_Entry.j1, if_true]
   ·left
    rw [hd1, hd2, hd3, hw (kk / 400) uY uY, hw (kk / 2000) uY uY, hw (kk / 6000) uY uY]
    refine ⟨rfl, outB_false _ _ _ ?_, outB_false _ _ _ ?_, outB_false _ _ _ ?_, rfl, rfl⟩
    ·show 0 ≤ Int.tmod (kk / 400) 5 ∧ Int.tmod (kk / 400) 5 ≤ _
     rw [Int.tmod_eq_emod_of_nonneg uY]
     omega
    ·show 0 ≤ Int.tmod (kk / 2000) 3 ∧ Int.tmod (kk / 2000) 3 ≤ _
     rw [Int.tmod_eq_emod_of_nonneg uY]
     omega
    ·show 1 ≤ wrap64 (1 + Int.tmod (kk / 6000) 8) ∧ wrap64 (1 + Int.tmod (kk / 6000) 8) ≤ 8
     rw [Int.tmod_eq_emod_of_nonneg uY, hw _ uY uY]
     omega
  | false =>
   simp only [rl6_Entry.j1, Bool.false_eq_true, if_false]
   by_cases h2 : kk % 8 = 2
   ·exact ⟨⟨2, s, 0, 0, 0, 0, 0⟩, by rw [if_pos h2], .inr (.inl ⟨rfl, rfl, rfl, rfl, rfl, rfl⟩)⟩
   ·rw [if_neg h2]
    by_cases h3 : kk % 8 = 3
    ·exact ⟨⟨3, s, 0, 0, 0, 0, 0⟩, by rw [if_pos h3], .inr (.inr (.inl ⟨rfl, rfl, rfl, rfl, rfl, rfl⟩))⟩
    ·rw [if_neg h3]
     by_cases h4 : kk % 8 = 4
     ·exact ⟨⟨4, s, 0, 0, 0, 0, 0⟩, by rw [if_pos h4], .inr (.inr (.inr (.inl ⟨rfl, rfl, rfl, rfl, rfl, rfl⟩)))⟩
     ·rw [if_neg h4]
      by_cases h5 : kk % 8 = 5
      ·exact ⟨⟨5, s, 0, 0, 0, 0, 0⟩, by rw [if_pos h5], .inr (.inr (.inr (.inr (.inl ⟨rfl, rfl, rfl, rfl, rfl, rfl⟩))))⟩
      ·rw [if_neg h5]
       refine ⟨⟨6, 0, 0, 0, 0, _, _⟩, rfl, .inr (.inr (.inr (.inr (.inr ⟨rfl, rfl, rfl, rfl, rfl⟩))))⟩
 show ∃ e : EN, rl6_Entry.j0 (1 + 1) kk s = _ ∧ _
 simp only [rl6_Entry.j0]
 rw [hm]
 split
 ·exact key _ (by cases (kk % 8 == 0) <;> simp) (fun _ => trivial)
 ·exact key _ (by cases (kk % 8 == 1) <;> simp) (fun _ => trivial)
theorem entry_ex (n : Int) (hn : -9223372036854775808 ≤ n ∧ n ≤ 9223372036854775807) : ∃ e : EN, rl6_Entry.f 2 n = some (e.k, e.s, e.a, e.b, e.c, e.x, e.y) ∧ WFE e := by
 have h1 : ∃ kk, rl6_within.f n 1125899906842624 = some kk ∧ 0 ≤ kk ∧ kk < 1125899906842624 := by
  unfold rl6_within.f
  rw [if_neg uJ]
  have hlt : Int.tmod n 1125899906842624 < 1125899906842624 := Int.tmod_lt_of_pos _ uJ
  have hgt : -1125899906842624 < Int.tmod n 1125899906842624 := by
   have h2 : Int.tmod (-n) 1125899906842624 < 1125899906842624 := Int.tmod_lt_of_pos _ uJ
   rw [Int.neg_tmod] at h2
   omega
  split
  ·refine ⟨_, rfl, ?_⟩
   unfold wrap64
   omega
  ·exact ⟨_, rfl, qN, hlt⟩
 obtain ⟨kk, hk, h0, h2⟩ := h1
 unfold rl6_Entry.f
 rw [hk]
 simp only [Option.bind_some]
 split
 ·exact entry_j0 kk _ h0 h2
 ·exact entry_j0 kk _ h0 h2
def entP (n : Int) : EN := match rl6_Entry.f 2 n with
 | some (r1, r2, r3, r4, r5, r6, r7) => ⟨r1, r2, r3, r4, r5, r6, r7⟩
 | none => ⟨6, 0, 0, 0, 0, 0, 0⟩
theorem entP_spec (n : Int) (hn : -9223372036854775808 ≤ n ∧ n ≤ 9223372036854775807) : rl6_Entry.f 2 n = some ((entP n).k, (entP n).s, (entP n).a, (entP n).b, (entP n).c, (entP n).x, (entP n).y) ∧ WFE (entP n) := by
 obtain ⟨e, h1, h2⟩ := entry_ex n hn
 have he : entP n = e := by unfold entP; rw [h1]
 rw [he]
 exact ⟨h1, h2⟩
def mkP : PL → List Int → PL
 | p, [] => p
 | p, n :: ns => mkP (if (apE p (entP n)).2 = 0 then (apE p (entP n)).1 else p) ns
def pool0 : PL := newP 10 80 (IntKind.u64.wrap ((IntKind.u64.wrap 1) * 11400714819323198485)) (Go.bits .xor .u64 (IntKind.u64.wrap 1) 19088743) (IntKind.u64.wrap ((IntKind.u64.wrap 2) * 11400714819323198485)) (Go.bits .xor .u64 (IntKind.u64.wrap 2) 19088743)
def make6 (ns : List Int) (most : Int) : PL := mkP pool0 (ns.take most.toNat)
structure MS (w0 : World) (r g : Nat) (R P : Array Value) (w : World) : Prop where
 hr : Blk w r 33 R
 hg : Blk w g 33 P
 below : Below w0.heap.size w0 w
 ge : w0.heap.size ≤ r ∧ w0.heap.size ≤ g
 ne : r < g
theorem MS.by_below {w0 : World} {r g : Nat} {R P : Array Value} {w w' : World} (h : MS w0 r g R P w) (hb : Below w.heap.size w w') : MS w0 r g R P w' :=
 ⟨h.hr.below hb, h.hg.below hb, below_step h.below hb, h.ge, h.ne⟩
theorem MS.stG {w0 : World} {r g : Nat} {R P P' : Array Value} {w w' : World} (h : MS w0 r g R P w) (hb : Blk w' g 33 P') (hg : w.grownBy w' (some g)) : MS w0 r g R P' w' :=
 ⟨h.hr.grown hg (fun e => by injection e with e; have := h.ne; omega), hb, h.below.grown hg (below_size h.below) (fun k hk => by injection hk with hk; subst hk; exact h.ge.2), h.ge, h.ne⟩
theorem MS.stR {w0 : World} {r g : Nat} {R P R' : Array Value} {w w' : World} (h : MS w0 r g R P w) (hb : Blk w' r 33 R') (hg : w.grownBy w' (some r)) : MS w0 r g R' P w' :=
 ⟨hb, h.hg.grown hg (fun e => by injection e with e; have := h.ne; omega), h.below.grown hg (below_size h.below) (fun k hk => by injection hk with hk; subst hk; exact h.ge.1), h.ge, h.ne⟩
theorem MS.stS {w0 : World} {r g s : Nat} {R P : Array Value} {w w' : World} (h : MS w0 r g R P w) (hs : g < s) (hg : w.grownBy w' (some s)) : MS w0 r g R P w' :=
 ⟨h.hr.grown hg (fun e => by injection e with e; have := h.ne; omega), h.hg.grown hg (fun e => by injection e with e; omega), h.below.grown hg (below_size h.below) (fun k hk => by injection hk with hk; subst hk; have := h.ge; omega), h.ge, h.ne⟩
theorem key1_calls (w0 : World) : Calls Tryz.prog 18 #[.int .i64 1] w0 fun e w' => e = .returned (.agg #[.int .u64 (IntKind.u64.wrap ((IntKind.u64.wrap 1) * 11400714819323198485)), .int .u64 (Go.bits .xor .u64 (IntKind.u64.wrap 1) 19088743)]) ∧ Below w0.heap.size w0 w' := rl5_Key.calls 1 _ _ w0 rfl
theorem key2_calls (w0 : World) : Calls Tryz.prog 18 #[.int .i64 2] w0 fun e w' => e = .returned (.agg #[.int .u64 (IntKind.u64.wrap ((IntKind.u64.wrap 2) * 11400714819323198485)), .int .u64 (Go.bits .xor .u64 (IntKind.u64.wrap 2) 19088743)]) ∧ Below w0.heap.size w0 w' := rl5_Key.calls 2 _ _ w0 rfl
theorem new0_calls (w0 : World) : Calls Tryz.prog 17 #[.int .i64 10, .int .i64 80, .agg #[.int .u64 (IntKind.u64.wrap ((IntKind.u64.wrap 1) * 11400714819323198485)), .int .u64 (Go.bits .xor .u64 (IntKind.u64.wrap 1) 19088743)], .agg #[.int .u64 (IntKind.u64.wrap ((IntKind.u64.wrap 2) * 11400714819323198485)), .int .u64 (Go.bits .xor .u64 (IntKind.u64.wrap 2) 19088743)]] w0
 fun e w' => e = .returned (.tuple #[.agg (pcs pool0), .int .i64 0]) ∧ Below w0.heap.size w0 w' :=
 new_calls 10 80 _ _ _ _ uJ uJ w0
theorem make_calls (A : Option Addr) (c : Nat) (l : List Int) (m : Int) (hm : 0 ≤ m ∧ m ≤ 1000) (hl : l.length ≤ 4611686018427387904) (hi : ∀ x ∈ l, -9223372036854775808 ≤ x ∧ x ≤ 9223372036854775807) (w0 : World) (hC : Kd.C (Kd.int .i64) w0 A l.length l) : Calls Tryz.prog 5 #[.slice A l.length c, .int .i64 m] w0
 fun e w' => e = .returned (.agg (pcs (make6 l m))) ∧ Below w0.heap.size w0 w' := by
 have hu22 := Tryz.underlying22
 have HM := mA hm
 have HL := mA hl
 have HI := mA hi
 have HC := mA hC
 clear hm hl hi hC
 obtain ⟨p0, hp0⟩ : ∃ p0, p0 = pool0 := ⟨_, rfl⟩
 have HP0 : Aside0 (p0.sl.length = 64) := ⟨by rw [hp0]; exact newP_len _ _ _ _ _ _⟩
 have HPP := mA hp0
 clear hp0
 go_enter Tryz.func5, Tryz.ntmps5
 go_wp2_with (first
  | ((with_reducible refine zd 4 ?_); refine pl_alloc (N := 4) rfl rfl rfl ?_; intro r hr w1 hb1 hB1; have G1 := mA hr; have G2 := mA hb1; have G3 := mA hB1; clear hr hb1 hB1)
  | (go_at_call 18; (first | with_reducible refine (key1_calls _).mono ?_; rintro e_ wk1 ⟨rfl, hb_⟩; have G4 := mA hb_; clear hb_ | with_reducible refine (key2_calls _).mono ?_; rintro e_ wk2 ⟨rfl, hb_⟩; have G5 := mA hb_; clear hb_))
  | (go_at_call 17; refine (new0_calls _).mono ?_; rw [← HPP.out]; rintro e_ wk3 ⟨rfl, hb_⟩; have G6 := mA hb_; clear hb_)
  | ((with_reducible refine zd 5 ?_); refine pl_alloc (N := 5) rfl rfl rfl ?_; intro g hg w2 hb2 hB2; have G7 := mA hg; have G8 := mA hb2; have G9 := mA hB2; clear hg hb2 hB2; have H : Aside0 (MS w0 r g (pcs zeroP) (pcs zeroP) w2) := ⟨⟨((((G2.out.below G4.out).below G5.out).below G6.out).below G9.out), G8.out, below_step (below_step (below_step (below_step (below_step G3.out G4.out) G5.out) G6.out) G9.out) (Below.refl _ _), by have h1 := G1.out; have h2 := G7.out; have h3 := G3.out.size; have h4 := G4.out.size; have h5 := G5.out.size; have h6 := G6.out.size; omega, by have h1 := G2.out.lt; have h2 := G7.out; have h4 := G4.out.size; have h5 := G5.out.size; have h6 := G6.out.size; omega⟩⟩; clear G1 G2 G3 G4 G5 G6 G7 G8 G9)
  | ((with_reducible refine zst 33 5 ?_); refine pl_store rfl rfl (.tmp 5) (.tmp 14) rfl rfl rfl H.out.hg (pcs_size _ zeroP_len) HP0.out ?_; intro w3 hb_ hg_; replace H := mA (H.out.stG hb_ hg_); clear hb_ hg_))
 go_loopg [7] (l.length + 1) (fun kq v7 w' => ∃ (i : Nat) (q : PL), v7 = .int .i64 i ∧ Aside0 (kq + i = l.length + 1 ∧ i ≤ l.length ∧ i ≤ m.toNat) ∧ Aside0 (q.sl.length = 64) ∧ Aside0 (mkP q ((l.take m.toNat).drop i) = make6 l m) ∧ Aside0 (MS w0 r g (pcs zeroP) (pcs q) w'))
 case atStart => exact ⟨0, p0, rfl, ⟨qN⟩, HP0, ⟨by rw [HPP.out]; rfl⟩, H⟩
 case round =>
  clear H
  obtain ⟨i, q, rfl, HK, HQ, HA, H⟩ := hrel
  cases gk with
  | zero => have := HK.out; omega
  | succ k1 =>
   by_cases hi : i < l.length
   ·have hi0 : decide ((i : Int) < (l.length : Int)) = true := decide_eq_true uY
    have p1 : (0 ≤ (i : Int)) = True := eq_true (Int.natCast_nonneg i)
    have p2 : ((i : Int) < (l.length : Int)) = True := eq_true uY
    have p3 : (i < l.length) = True := eq_true hi
    have HI2 := mA hi
    clear hi
    by_cases him : (i : Int) < m
    ·have him0 : decide ((i : Int) < m) = true := decide_eq_true him
     have him1 : ((i : Int) < m) = True := eq_true him
     have HI3 := mA him
     clear him
     obtain ⟨e, he⟩ : ∃ e, e = entP (rd l (i : Int)) := ⟨_, rfl⟩
     have HRG : Aside0 (-9223372036854775808 ≤ rd l (i : Int) ∧ rd l (i : Int) ≤ 9223372036854775807) := ⟨HI.out _ (by
      rw [rd]
      simp only [Int.toNat_natCast, List.getD_eq_getElem?_getD, List.getElem?_eq_getElem HI2.out, Option.getD_some]
      exact List.getElem_mem _)⟩
     have HEF : Aside0 (rl6_Entry.f 2 (rd l (i : Int)) = some (e.k, e.s, e.a, e.b, e.c, e.x, e.y)) := ⟨by rw [he]; exact (entP_spec _ HRG.out).1⟩
     have HWE : Aside0 (WFE e) := ⟨by rw [he]; exact (entP_spec _ HRG.out).2⟩
     have HD : Aside0 ((l.take m.toNat).drop i = rd l (i : Int) :: (l.take m.toNat).drop (i + 1)) := ⟨by
      have h1 : i < (l.take m.toNat).length := by rw [List.length_take]; have h_ := HI2.out; have h2_ := HI3.out; omega
      rw [List.drop_eq_getElem_cons h1, List.getElem_take]
      congr 1
      rw [rd]
      simp only [Int.toNat_natCast, List.getD_eq_getElem?_getD, List.getElem?_eq_getElem HI2.out, Option.getD_some]⟩
     have HE := mA he
     clear he
     obtain ⟨q1, hq1⟩ : ∃ q1, q1 = (apE q e).1 := ⟨_, rfl⟩
     obtain ⟨er, her⟩ : ∃ er, er = (apE q e).2 := ⟨_, rfl⟩
     have HQ1 : Aside0 (q1.sl.length = 64) := ⟨by rw [hq1]; exact apE_len q e HQ.out⟩
     have Hq1 := mA hq1
     have Her := mA her
     clear hq1 her
     obtain ⟨ad, hA, hx⟩ := Kd.at_int (Kd.C_below HC.out H.out.below) (i : Int) (Int.natCast_nonneg i) (by have h_ := HI2.out; omega)
     cases hA
     have HCX : Aside0 (∀ W, Below w0.heap.size w0 W → W.cell? (ad.add i) = some (.int .i64 (rd l (i : Int)))) := ⟨fun W hW => by
      obtain ⟨ad', hA', hx'⟩ := Kd.at_int (Kd.C_below HC.out hW) (i : Int) (Int.natCast_nonneg i) (by have h_ := HI2.out; omega)
      cases hA'
      rw [Int.toNat_natCast] at hx'
      exact hx'⟩
     clear hx
     go_upto_region 5 with fail
     replace H : Aside0 (MS w0 r g _ _ wr.drew) := ⟨H.out.by_below (below_drew1 (Below.refl _ _))⟩
     refine zT 13 (fun w' => Blk w' g 33 (pcs q) ∧ w'.cell? (ad.add i) = some (.int .i64 (rd l (i : Int)))) ⟨H.out.hg, HCX.out _ H.out.below⟩ fun hHeld => ?_
     generalize wr.drew = wB at H hHeld ⊢
     refine zP 1 29 (mb 13 2) ?_
     refine zP 2 30 (mb 13 6) ?_
     refine zP 3 31 (mb 13 14) ?_
     refine take_ (i := 0) (N := some 28) (v := ?_) (a' := ?_) (tf 4 9) rfl rfl uW (fun _ _ _ h => h) (Or.inl ⟨by rfl, ?_⟩) hHeld ?_ ?_
     rotate_left
     ·intro w' hs
      refine (run_ld33 _ _ w' g q (.tmp 5) ?_ ?_ hs.1 HQ.out).trans ?_
      ·rfl
      ·rfl
      ·with_reducible rfl
     rotate_left
     ·exact zU
     refine take_ (i := 4) (N := some 32) (v := ?_) (a' := ?_) (tf 5 8) rfl rfl uW (fun _ _ _ h => h) (Or.inl ⟨by rfl, ?_⟩) hHeld ?_ ?_
     rotate_left
     ·rintro w' ⟨s0, s1⟩
      go_simp
      with_reducible rfl
     rotate_left
     ·exact zU
     refine join_ (σ := Nat) 2 (tf 11 2) (fun s_ => [(33, .agg #[.int .i64 e.k, .int .i64 e.s, .int .i64 e.a, .int .i64 e.b, .int .i64 e.c, .int .u64 e.x, .int .u64 e.y]), (34, .tuple #[.agg (pcs q1), .int .i64 er]), (27, .tuple #[.agg (pcs q1), .int .i64 er]), (35, .agg (pcs q1)), (36, .int .i64 er), (8, .pointer (some ⟨s_, 0, none⟩))]) (fun s_ w' => (Blk w' g 33 (pcs q) ∧ w'.cell? (ad.add i) = some (.int .i64 (rd l (i : Int)))) ∧ MS w0 r g (pcs zeroP) (pcs q) w' ∧ Blk w' s_ 33 (pcs zeroP) ∧ g < s_) ?_ ?_
     rotate_left
     ·intro hCont
      refine two_ (i := 5) (j := 10) (Ni := some 33) (Nj := some 8) (tf 6 7) (mb 13 1055) rfl rfl rfl rfl uW uJ uJ (fun K hK => ?_) (fun K hK => ?_)
      ·skip
       refine goes_ Tryz.func20 uW rfl #[.int .i64 (rd l (i : Int))] (by rfl) rfl rfl xV ?_
       refine (rl6_Entry.calls 2 _ _ _ _ _ _ _ _ _ HEF.out).mono ?_
       rintro e_ wE0 ⟨rfl, hb_⟩
       refine ⟨_, rfl, ?_⟩
       replace H := mA (H.out.by_below hb_)
       clear hHeld hb_
       refine hK.out _ _ ⟨H.out.hg, HCX.out _ H.out.below⟩ (fun hHeld => ?_)
       clear hK K
       refine zN ?_
       refine two_ (i := 6) (j := 10) (Ni := some 34) (Nj := some 8) (tf 7 6) (mb 13 1087) rfl rfl rfl rfl uW uJ uJ (fun K hK => ?_) (fun K hK => ?_)
       ·skip
        refine goes_ Tryz.func19 uW rfl #[.agg (pcs q), .agg #[.int .i64 e.k, .int .i64 e.s, .int .i64 e.a, .int .i64 e.b, .int .i64 e.c, .int .u64 e.x, .int .u64 e.y]] (by rfl) rfl rfl xV ?_
        refine (apE_calls q HQ.out e HWE.out _).mono ?_
        rw [← Hq1.out, ← Her.out]
        rintro e_ wC1 ⟨rfl, hb_⟩
        refine ⟨_, rfl, ?_⟩
        replace H := mA (H.out.by_below hb_)
        clear hHeld hb_
        refine hK.out _ _ ⟨H.out.hg, HCX.out _ H.out.below⟩ (fun hHeld => ?_)
        clear hK K
        refine zN ?_
        refine zP 7 27 (tf 8 5) ?_
        refine zP 8 35 (tf 9 4) ?_
        refine zP 9 36 (tf 10 3) ?_
        refine zO 10 (tf 11 2) fun K hK => ?_
        refine box_step (by rfl) (N := 8) rfl (run33 _ _ _ rfl) ?_
        intro s8 hs8 wA2 hb_ hB_
        have HLT : Aside0 (g < s8) := ⟨by rw [hs8]; exact H.out.hg.lt⟩
        have HS8 : Aside0 (Blk wA2 s8 33 (pcs zeroP)) := ⟨hb_⟩
        replace H := mA (H.out.by_below hB_)
        clear hHeld hb_ hB_ hs8
        refine hK.out _ _ ⟨H.out.hg, HCX.out _ H.out.below⟩ (fun hHeld => ?_)
        clear hK K
        refine zN ?_
        exact yD
       ·skip
        refine box_step (by rfl) (N := 8) rfl (run33 _ _ _ rfl) ?_
        intro s8 hs8 wA1 hb_ hB_
        have HLT : Aside0 (g < s8) := ⟨by rw [hs8]; exact H.out.hg.lt⟩
        have HS8 : Aside0 (Blk wA1 s8 33 (pcs zeroP)) := ⟨hb_⟩
        replace H := mA (H.out.by_below hB_)
        clear hHeld hb_ hB_ hs8
        refine hK.out _ _ ⟨H.out.hg, HCX.out _ H.out.below⟩ (fun hHeld => ?_)
        clear hK K
        refine zN ?_
        refine zO 6 (mb 13 1151) fun K hK => ?_
        refine goes_ Tryz.func19 uW rfl #[.agg (pcs q), .agg #[.int .i64 e.k, .int .i64 e.s, .int .i64 e.a, .int .i64 e.b, .int .i64 e.c, .int .u64 e.x, .int .u64 e.y]] (by rfl) rfl rfl xV ?_
        refine (apE_calls q HQ.out e HWE.out _).mono ?_
        rw [← Hq1.out, ← Her.out]
        rintro e_ wC2 ⟨rfl, hb_⟩
        refine ⟨_, rfl, ?_⟩
        replace H := mA (H.out.by_below hb_)
        replace HS8 := mA (HS8.out.below hb_)
        clear hHeld hb_
        refine hK.out _ _ ⟨H.out.hg, HCX.out _ H.out.below⟩ (fun hHeld => ?_)
        clear hK K
        refine zN ?_
        refine zP 7 27 (mb 13 1279) ?_
        refine zP 8 35 (mb 13 1535) ?_
        refine zP 9 36 (tf 11 2) ?_
        exact yD
      ·skip
       refine box_step (by rfl) (N := 8) rfl (run33 _ _ _ rfl) ?_
       intro s8 hs8 wA0 hb_ hB_
       have HLT : Aside0 (g < s8) := ⟨by rw [hs8]; exact H.out.hg.lt⟩
       have HS8 : Aside0 (Blk wA0 s8 33 (pcs zeroP)) := ⟨hb_⟩
       replace H := mA (H.out.by_below hB_)
       clear hHeld hb_ hB_ hs8
       refine hK.out _ _ ⟨H.out.hg, HCX.out _ H.out.below⟩ (fun hHeld => ?_)
       clear hK K
       refine zN ?_
       refine zO 5 (mb 13 1087) fun K hK => ?_
       refine goes_ Tryz.func20 uW rfl #[.int .i64 (rd l (i : Int))] (by rfl) rfl rfl xV ?_
       refine (rl6_Entry.calls 2 _ _ _ _ _ _ _ _ _ HEF.out).mono ?_
       rintro e_ wE1 ⟨rfl, hb_⟩
       refine ⟨_, rfl, ?_⟩
       replace H := mA (H.out.by_below hb_)
       replace HS8 := mA (HS8.out.below hb_)
       clear hHeld hb_
       refine hK.out _ _ ⟨H.out.hg, HCX.out _ H.out.below⟩ (fun hHeld => ?_)
       clear hK K
       refine zN ?_
       refine zO 6 (mb 13 1151) fun K hK => ?_
       refine goes_ Tryz.func19 uW rfl #[.agg (pcs q), .agg #[.int .i64 e.k, .int .i64 e.s, .int .i64 e.a, .int .i64 e.b, .int .i64 e.c, .int .u64 e.x, .int .u64 e.y]] (by rfl) rfl rfl xV ?_
       refine (apE_calls q HQ.out e HWE.out _).mono ?_
       rw [← Hq1.out, ← Her.out]
       rintro e_ wC2 ⟨rfl, hb_⟩
       refine ⟨_, rfl, ?_⟩
       replace H := mA (H.out.by_below hb_)
       replace HS8 := mA (HS8.out.below hb_)
       clear hHeld hb_
       refine hK.out _ _ ⟨H.out.hg, HCX.out _ H.out.below⟩ (fun hHeld => ?_)
       clear hK K
       refine zN ?_
       refine zP 7 27 (mb 13 1279) ?_
       refine zP 8 35 (mb 13 1535) ?_
       refine zP 9 36 (tf 11 2) ?_
       exact yD
     rintro s8 wD ⟨hHeld, h1_, h2_, h3_⟩
     clear H
     have H := mA h1_
     have HS8 := mA h2_
     have HLT := mA h3_
     clear h1_ h2_ h3_
     refine norm_ (a' := ?_) ?_ ?_
     rotate_left
     ·exact zK
     refine zo 11 (tf 12 1) fun K hK => ?_
     refine skip_ (w1 := wD.setCells s8 0 (pcells q1)) (by rfl) rfl (run_st33 _ _ _ s8 _ q1 (.tmp 8) (.tmp 35) rfl rfl rfl HS8.out (pcs_size _ zeroP_len) HQ1.out) ?_
     have n_ := mA (H.out.stS HLT.out (setCells_grown (pcells q1) 0 wD s8))
     have m_ := mA (st33_blk q1 HS8.out (pcs_size _ zeroP_len) HQ1.out)
     clear H HS8 hHeld
     generalize wD.setCells s8 0 (pcells q1) = wE at n_ m_ ⊢
     have H := n_
     have HS8 := m_
     clear n_ m_
     refine hK.out _ _ ⟨H.out.hg, HCX.out _ H.out.below⟩ (fun hHeld => ?_)
     clear hK K
     refine zP 12 9 (tf 13 0) ?_
     refine done_ uW ?_
     clear hHeld
     by_cases h0 : er = 0
     ·have hc : (er == 0) = true := by simp [h0]
      have HN : Aside0 (mkP q1 ((l.take m.toNat).drop (i + 1)) = make6 l m) := ⟨by
       rw [← HA.out, HD.out]
       show _ = mkP (if (apE q (entP (rd l (i : Int)))).2 = 0 then _ else _) _
       rw [← HE.out, ← Her.out, if_pos h0, ← Hq1.out]⟩
      clear h0
      go_wp2_with (first | ((with_reducible refine zd 39 ?_); refine pl_load (N := 39) rfl rfl (.tmp 8) rfl rfl HS8.out HQ1.out ?_) | ((with_reducible refine zst 33 5 ?_); refine pl_store rfl rfl (.tmp 5) (.tmp 39) rfl rfl rfl H.out.hg (pcs_size _ HQ.out) HQ1.out ?_; intro wF hb_ hg_; replace H := mA (H.out.stG hb_ hg_); clear hb_ hg_))
      go_roundg k1
      case measure => omega
      case rel => exact ⟨i + 1, q1, kW, ⟨by have h_ := HK.out; have h2_ := HI2.out; have h3_ := HI3.out; omega⟩, HQ1, HN, H⟩
     ·have hc : (er == 0) = false := by simp [h0]
      have HN : Aside0 (mkP q ((l.take m.toNat).drop (i + 1)) = make6 l m) := ⟨by
       rw [← HA.out, HD.out]
       show _ = mkP (if (apE q (entP (rd l (i : Int)))).2 = 0 then _ else _) _
       rw [← HE.out, ← Her.out, if_neg h0]⟩
      clear h0
      go_wp2_with fail
      go_roundg k1
      case measure => omega
      case rel => exact ⟨i + 1, q, kW, ⟨by have h_ := HK.out; have h2_ := HI2.out; have h3_ := HI3.out; omega⟩, HQ, HN, H⟩
    ·have him0 : decide ((i : Int) < m) = false := decide_eq_false him
     have HN : Aside0 (make6 l m = q) := ⟨by
      rw [← HA.out, List.drop_eq_nil_of_le wW]
      rfl⟩
     clear him
     go_wp2_with (first | ((with_reducible refine zd 40 ?_); refine pl_load (N := 40) rfl rfl (.tmp 5) rfl rfl H.out.hg HQ.out ?_) | ((with_reducible refine zst 33 4 ?_); refine pl_store rfl rfl (.tmp 4) (.tmp 40) rfl rfl rfl H.out.hr (pcs_size _ zeroP_len) HQ.out ?_; intro wF hb_ hg_; replace H := mA (H.out.stR hb_ hg_); clear hb_ hg_))
     refine bodyPost_ret (results_cell_row rfl _ _ r 33 (pcs q) (0, 0) _ rfl H.out.hr pool33 rfl (size33 _ HQ.out)) rfl ?_
     exact ⟨by rw [HN.out], H.out.below⟩
   ·have hi0 : decide ((i : Int) < (l.length : Int)) = false := decide_eq_false uY
    have hi1 : (i < l.length) = False := eq_false hi
    have HN : Aside0 (make6 l m = q) := ⟨by
     rw [← HA.out, List.drop_eq_nil_of_le wW]
     rfl⟩
    clear hi
    go_wp2_with (first | ((with_reducible refine zd 40 ?_); refine pl_load (N := 40) rfl rfl (.tmp 5) rfl rfl H.out.hg HQ.out ?_) | ((with_reducible refine zst 33 4 ?_); refine pl_store rfl rfl (.tmp 4) (.tmp 40) rfl rfl rfl H.out.hr (pcs_size _ zeroP_len) HQ.out ?_; intro wF hb_ hg_; replace H := mA (H.out.stR hb_ hg_); clear hb_ hg_))
    refine bodyPost_ret (results_cell_row rfl _ _ r 33 (pcs q) (0, 0) _ rfl H.out.hr pool33 rfl (size33 _ HQ.out)) rfl ?_
    exact ⟨by rw [HN.out], H.out.below⟩
theorem run_new2 (ev : Operand → Value) (o : Oper) (w : World) (a b q x1 x2 x3 x4 x5 x6 : Int) (ho : o.op = .build 33 #[(1, .tmp 15), (2, .tmp 16), (4, .tmp 21)]) (h1 : ev (.tmp 15) = .int .i64 a) (h2 : ev (.tmp 16) = .int .i64 b) (h3 : ev (.tmp 21) = .agg #[.int .i64 q, .int .u64 x1, .int .u64 x2, .int .u64 x3, .int .u64 x4, .int .u64 x5, .int .u64 x6]) :
 (execOp ev o).run Tryz.prog w = .ok (.value (.agg (pcs ⟨0, a, b, List.replicate 64 z25, q, x1, x2, x3, x4, x5, x6⟩))) w := by
 cases o with
 | mk dst op ty pos after guard =>
  obtain rfl : op = _ := ho
  have e : (#[(1, Operand.tmp 15), (2, Operand.tmp 16), (4, Operand.tmp 21)].map fun (i, x) => (i, ev x)) = #[(1, .int .i64 a), (2, .int .i64 b), (4, .agg #[.int .i64 q, .int .u64 x1, .int .u64 x2, .int .u64 x3, .int .u64 x4, .int .u64 x5, .int .u64 x6])] := by
   simp [h1, h2, h3]
  have key : (Instr.build 33 #[(1, .int .i64 a), (2, .int .i64 b), (4, .agg #[.int .i64 q, .int .u64 x1, .int .u64 x2, .int .u64 x3, .int .u64 x4, .int .u64 x5, .int .u64 x6])]).run Tryz.prog w = .ok (.agg (pcs ⟨0, a, b, List.replicate 64 z25, q, x1, x2, x3, x4, x5, x6⟩)) w := by kernel_rfl
  unfold execOp
  simp only [e, Sem.run_bind, Sem.run_pure, Result.andThen_ok, key]
theorem pnew_calls (a b k1 k2 k3 k4 : Int) (hab : pool_placed.f a b = some true) (w0 : World) : Calls Tryz.prog 13 #[.int .i64 a, .int .i64 b, .agg #[.int .u64 k1, .int .u64 k2], .agg #[.int .u64 k3, .int .u64 k4]] w0 fun e w' => e = .returned (.tuple #[.agg (pcs (newP a b k1 k2 k3 k4)), .int .i64 0]) ∧ Below w0.heap.size w0 w' := by
 have hu29 := Tryz.underlying29
 have hu31 := Tryz.underlying31
 have hu113 := Tryz.underlying109
 have HAB := mA hab
 clear hab
 go_enter Tryz.func13, Tryz.ntmps13
 go_upto_region 1 with (first | ((with_reducible refine zd 6 ?_); refine any_box rfl rfl rfl ?_; intro g hg w1 hb1 hB1; have G2 := mA hb1; have G3 := mA hB1; clear hg hb1 hB1) | ((with_reducible refine zd 7 ?_); refine any_box rfl rfl rfl ?_; intro q hq w2 hb2 hB2; have G5 := mA hb2; have G6 := mA hB2; clear hq hb2 hB2) | ((with_reducible refine zd 8 ?_); refine pl_alloc (N := 8) rfl rfl rfl ?_; intro r hr w3 hb3 hB3; have G7 := mA hr; have G8 := mA hb3; have G9 := mA hB3; clear hr hb3 hB3))
 have H := mA (NS.make G2.out G3.out G5.out G6.out G7.out G8.out G9.out)
 clear G2 G3 G5 G6 G7 G8 G9
 go_upto_region 3 with (first | (go_at_call 44; refine (pool_placed.calls a b true _ HAB.out).mono ?_; rintro e_ w4 ⟨rfl, hd⟩; replace H := mA (H.out.by_below (w' := w4) (by obtain ⟨n_, rfl⟩ := hd; exact pw_below_drewN (Below.refl _ _) n_)); clear hd))
 obtain ⟨c0, c1⟩ := bk2 H.out.hg
 obtain ⟨c2, c3⟩ := bk2 H.out.hq
 go_wp2_with (first
  | (go_at_call 45; refine (cookie_Ring.calls 1 1 _ 3 [(⟨0, 0⟩ : S29), ⟨k1, k2⟩, ⟨k3, k4⟩] 1 0 0 k1 k2 k3 k4 _ (keys_C (heap_alloc_new _ _)) xU rfl).mono ?_; rintro e_ w5 ⟨rfl, hb_⟩; replace H := mA ((H.out.by_below (below_alloc (Below.refl _ _) _)).by_below hb_); clear hb_ c0 c1 c2 c3)
  | ((with_reducible refine zd 22 ?_); refine Kd.event_run rfl (run_new2 _ _ _ a b 1 0 0 k1 k2 k3 k4 rfl rfl rfl rfl) ?_)
  | ((with_reducible refine zst 33 8 ?_); refine pl_store (p := newP a b k1 k2 k3 k4) rfl rfl (.tmp 8) (.tmp 22) rfl rfl rfl H.out.hr (pcs_size _ zeroP_len) (newP_len _ _ _ _ _ _) ?_; intro w9 hb_ hg_; have HR := mA hb_; have n_ := mA (H.out.below.grown hg_ (below_size H.out.below) (fun k hk => by injection hk with hk; subst hk; exact H.out.ge)); clear H hb_ hg_; have HB := n_; clear n_))
 refine bodyPost_ret (results_ct rfl _ _ _ _ _ (0, 0) _ rfl HR.out pool33 rfl (size33 _ (newP_len _ _ _ _ _ _))) rfl ?_
 exact ⟨rfl, HB.out⟩
def ints (xs : List Int) : Array Value := (encs (Value.int .i64) xs).toArray
theorem ints_get (xs : List Int) (i : Nat) (h : i < xs.length) : (ints xs)[i]? = some (.int .i64 (xs.getD i 0)) := by
 unfold ints encs
 simp [List.getD_eq_getElem?_getD, h]
theorem agg3 (w : World) : (isAgg 3).run Tryz.prog w = .ok false w := by kernel_rfl
theorem part3 (xs : List Int) (i : Nat) (h : i < xs.length) (w : World) : (part 3 (ints xs) i).run Tryz.prog w = .ok (.int .i64 (xs.getD i 0)) w := by
 unfold part
 rw [Sem.run_bind, agg3]
 simp only [Result.andThen_ok, Bool.false_eq_true, if_false, ints_get xs i h, Sem.run_pure]
theorem eq3 (d : Nat) (a b : Int) (w : World) : (Op.equalIn (d + 1) 3 (.int .i64 a) (.int .i64 b)).run Tryz.prog w = .ok (a == b) w := by
 have hu : (underlying 3).run Tryz.prog w = .ok (.int .i64) w := by kernel_rfl
 simp only [Op.equalIn, Sem.run_bind, hu, Result.andThen_ok]
 simp
theorem items3 (d : Nat) (xs ys : List Int) (w : World) : ∀ is : List Nat, (∀ i ∈ is, i < xs.length ∧ i < ys.length) → (Op.eqItems (d + 1) 3 1 (ints xs) (ints ys) is).run Tryz.prog w = .ok (is.all fun i => xs.getD i 0 == ys.getD i 0) w
 | [], _ => by simp [Op.eqItems]
 | i :: is, h => by
  obtain ⟨h1, h2⟩ := h i xU
  simp only [Op.eqItems, Sem.run_bind, Nat.mul_one, part3 xs i h1, part3 ys i h2, Result.andThen_ok, eq3]
  cases hb : (xs.getD i 0 == ys.getD i 0)
  ·simp only [Bool.not_false, if_true, Sem.run_pure, List.all_cons, hb, Bool.false_and]
  ·simp only [Bool.not_true, Bool.false_eq_true, if_false, List.all_cons, hb, Bool.true_and]
   exact items3 d xs ys w is (fun j hj => h j (by simp [hj]))
set_option maxRecDepth 100000 in
theorem eq60 (d : Nat) (xs ys : List Int) (w : World) (hx : xs.length = 127) (hy : ys.length = 127) : (Op.equalIn (d + 2) 114 (.agg (ints xs)) (.agg (ints ys))).run Tryz.prog w = .ok (decide (xs = ys)) w := by
 obtain ⟨i0, hi0⟩ : ∃ i, Tryz.prog.info? 3 = some i := Option.isSome_iff_exists.1 uW
 have hc : Tryz.prog.cellsOf 3 = 1 := by kernel_rfl
 rw [run_equalIn_array w (P := Tryz.prog) (d + 1) (e := 3) (n := 127) (i := i0) (ints xs) (ints ys) uW hi0, hc, items3 d xs ys w _ (fun i hi => by rw [List.mem_range] at hi; omega)]
 refine congrArg (fun b => Result.ok b w) ?_
 clear hi0 hc
 rw [Bool.eq_iff_iff, List.all_eq_true, decide_eq_true_iff]
 constructor
 ·intro h
  refine List.ext_getElem? fun i => ?_
  by_cases hi : i < 127
  ·have := h i (List.mem_range.2 hi)
   rw [beq_iff_eq, List.getD_eq_getElem?_getD, List.getD_eq_getElem?_getD] at this
   rw [List.getElem?_eq_getElem uY, List.getElem?_eq_getElem uY] at this ⊢
   simpa using this
  ·rw [List.getElem?_eq_none uY, List.getElem?_eq_none uY]
 ·rintro rfl i _
  simp
def arrNe (a b : List Int) : Int := if a = b then 0 else 1
theorem arrNe_pos (a b : List Int) : (0 < arrNe a b) ↔ a ≠ b := by
 unfold arrNe
 split <;> simp_all
theorem ints_size (xs : List Int) : (ints xs).size = xs.length := by simp [ints, encs]
theorem ints_one (xs : List Int) : (ints xs).all (·.oneCell') = true := by
 refine Array.all_eq_true_iff_forall_mem.2 fun v hv => ?_
 unfold ints encs at hv
 simp at hv
 obtain ⟨x, _, rfl⟩ := hv
 rfl
theorem arr_block {W : World} {g T n base : Nat} {ok : Nat → Prop} {xs : List Int} (h : Kd.R (Kd.int .i64) T W base ok (.slice (some ⟨g, 0, none⟩) n n) xs) : base ≤ g ∧ xs.length = n ∧ ∃ cur : Array Value, W.heap[g]? = some (.cells cur T (0, 0)) ∧ cur = ints xs := by
 obtain ⟨hn, _, hC⟩ := Kd.R_reads' h
 obtain ⟨h0, inner, ho, hr⟩ := h
 have hin := Kd.reps_encs (enc := Value.int .i64) hr
 rcases ho.2 with ⟨he, _⟩ | ⟨g', cap, cur, he, hb, hh, _, _, hsz, htake⟩
 ·simp at he
 ·injection he with e1 _ e3
  injection e1 with e1
  injection e1 with e1
  subst e1 e3
  refine ⟨hb, hn.symm, cur, hh, ?_⟩
  have : cur.toList = inner := by
   rw [← htake, List.take_of_length_le]
   simp only [Array.length_toList]
   show cur.size ≤ _
   rw [hsz, hn]
   exact Nat.le_refl _
  apply Array.toList_inj.1
  rw [this, hin]
  rfl
theorem under60 : Tryz.prog.underlying 114 = some (.array 127 3) := by kernel_rfl
theorem put_allA {W : World} {g T n base : Nat} {ok : Nat → Prop} {old new : List Int} (h : Kd.R (Kd.int .i64) T W base ok (.slice (some ⟨g, 0, none⟩) n n) old) (hl : new.length = n) (hn : n ≤ maxLen) :
 Kd.R (Kd.int .i64) T (W.setRow g (ints new)) base ok (.slice (some ⟨g, 0, none⟩) n n) new ∧ W.grownBy (W.setRow g (ints new)) (some g) := by
 obtain ⟨hg, _, cur, hb, _⟩ := arr_block h
 have hok := h.1
 refine ⟨?_, ⟨rfl, rfl, rfl, by simp, fun k _ hk => setRow_other W g k _ (fun e => hk (by simp [e]))⟩⟩
 refine Kd.R_of_own (enc := Value.int .i64) ⟨by simp [encs], .inr ⟨g, n, ints new, by rw [hl], hg, setRow_heap W g cur _ T _ hb, qN, hn, by rw [ints_size, hl]; simp, ?_⟩⟩ hok
 rw [Nat.mul_one, List.take_of_length_le (by simp [ints_size])]
 simp [ints]
theorem run_put60 (ev : Operand → Value) (o : Oper) (W : World) (p q : Tmp) (g base : Nat) (ok : Nat → Prop) (old new : List Int) (ho : o.op = .store 114 (.tmp p) (.tmp q)) (hp : ev (.tmp p) = .pointer (some ⟨g, 0, none⟩)) (hq : ev (.tmp q) = .agg (ints new))
 (h : Kd.R (Kd.int .i64) 114 W base ok (.slice (some ⟨g, 0, none⟩) 127 127) old) (hl : new.length = 127) : (execOp ev o).run Tryz.prog W = .ok .skip (W.setRow g (ints new)) := by
 obtain ⟨_, hl2, cur, hb, hc⟩ := arr_block h
 have hi : (Tryz.prog.info? 114).map (·.size) = some (ints new).size := by rw [ints_size, hl]; kernel_rfl
 have hsv := run_storeVar_row (P := Tryz.prog) W g 114 114 cur (ints new) hb hi (by rw [hc, ints_size, ints_size, hl, hl2]) (ints_one new)
 unfold execOp
 simp only [ho, hp, hq, Instr.storeAt, Instr.sureAddr, Sem.run_bind, Sem.run_pure, Result.andThen_ok, hsv]
theorem wp_ld26 {op : Oper} {a : Act} {w : World} {K : Act → World → Prop} {Q : Exit → Act → World → Prop} {x : Operand} (ho : op.op = .load 26 x) {g : Nat} (hx : a.eval x = .pointer (some ⟨g, 3, none⟩)) {l : List S25}
 (h : Kd.C k25 w (some ⟨g, 3, none⟩) l.length l) (hl : l.length = 64) (hk : K (a.put op.dst (.agg (flat l).toArray)) w) : op.wp Tryz.prog a w K Q :=
 wp_load_mid 26 x ho g 3 hx (flat l) _ (flat_range h) slots26 rfl (by rw [flat_length, hl]; kernel_rfl) hk
theorem range60 {W : World} {g T base : Nat} {ok : Nat → Prop} {xs : List Int} (h : Kd.R (Kd.int .i64) T W base ok (.slice (some ⟨g, 0, none⟩) 127 127) xs) : W.rangeAt g 0 (encs (Value.int .i64) xs) := by
 obtain ⟨_, hl, cur, hb, rfl⟩ := arr_block h
 intro j v hj
 rw [Nat.zero_add]
 simp only [World.cell?, hb]
 simpa [ints] using hj
theorem wp_ld60 {op : Oper} {a : Act} {w : World} {K : Act → World → Prop} {Q : Exit → Act → World → Prop} {x : Operand} (ho : op.op = .load 114 x) {g : Nat} (hx : a.eval x = .pointer (some ⟨g, 0, none⟩)) {T base : Nat} {ok : Nat → Prop} {xs : List Int}
 (h : Kd.R (Kd.int .i64) T w base ok (.slice (some ⟨g, 0, none⟩) 127 127) xs) (hk : K (a.put op.dst (.agg (ints xs))) w) : op.wp Tryz.prog a w K Q :=
 wp_load_mid 114 x ho g 0 hx (encs (Value.int .i64) xs) _ (range60 h) under60 rfl (by rw [encs_length, ← (Kd.R_reads' h).1]; kernel_rfl) hk
theorem slice60 (g : Nat) (W : World) : (Instr.sliceAt 114 (.pointer (some ⟨g, 0, none⟩)) none none none).run Tryz.prog W = .ok (.slice (some ⟨g, 0, none⟩) 127 127) W := by kernel_rfl
theorem c127 {W : World} {A : Option Addr} {T c base : Nat} {ok : Nat → Prop} {xs : List Int} (h : Kd.R (Kd.int .i64) T W base ok (.slice A 127 c) xs) : Kd.C (Kd.int .i64) W A 127 xs := by
 have h1 := Kd.R_reads' h
 have h2 := h1.2.2
 rw [← h1.1] at h2
 exact h2
end Go.Proofs.YtkpfojpmigchlaaGreat.Own
namespace Go.Proofs.YtkpfojpmigchlaaGreat.Own
open Go Go.RowKit Go.Proofs.YtkpfojpmigchlaaGreatW.PrintWords Go.Proofs.YtkpfojpmigchlaaGreatW.PrintMore Go.Proofs.YtkpfojpmigchlaaGreatW.PrintLast
open Go.Proofs.YtkpfojpmigchlaaGreat.Zip
section
structure Chg (S : Nat → Prop) (w w' : World) : Prop where
 os : w'.os = w.os
 tape : w'.tape = w.tape
 output : w'.output = w.output
 size : w.heap.size ≤ w'.heap.size
 block : ∀ k, k < w.heap.size → ¬ S k → w'.heap[k]? = w.heap[k]?
theorem Chg.refl (S : Nat → Prop) (w : World) : Chg S w w := ⟨rfl, rfl, rfl, Nat.le_refl _, fun _ _ _ => rfl⟩
theorem Chg.trans {S S' : Nat → Prop} {a b c : World} (h : Chg S a b) (k : Chg S' b c) (hs : ∀ i, i < a.heap.size → S' i → S i) : Chg S a c :=
 ⟨k.os.trans h.os, k.tape.trans h.tape, k.output.trans h.output, Nat.le_trans h.size k.size, fun i hi hn => (k.block i (Nat.lt_of_lt_of_le hi h.size) (fun h2 => hn (hs i hi h2))).trans (h.block i hi hn)⟩
theorem Chg.of_below {w w' : World} (h : Below w.heap.size w w') (S : Nat → Prop) : Chg S w w' := ⟨h.os, h.tape, h.output, h.size, fun i hi _ => h.block i hi⟩
theorem Chg.of_grown {w w' : World} {row : Option Nat} (h : w.grownBy w' row) : Chg (fun k => some k = row) w w' := ⟨h.os, h.tape, h.output, h.size, fun i hi hn => h.block i hi hn⟩
theorem Chg.to_below {S : Nat → Prop} {w w' : World} (h : Chg S w w') (hs : ∀ k, S k → w.heap.size ≤ k) : Below w.heap.size w w' := ⟨h.os, h.tape, h.output, h.size, fun i hi => h.block i hi (fun h2 => by have := hs i h2; omega)⟩
theorem Chg.mono {S S' : Nat → Prop} {w w' : World} (h : Chg S w w') (hs : ∀ k, S k → S' k) : Chg S' w w' := ⟨h.os, h.tape, h.output, h.size, fun i hi hn => h.block i hi (fun h2 => hn (hs i h2))⟩
theorem Chg.blk {S : Nat → Prop} {w w' : World} (h : Chg S w w') {g t : Nat} {cs : Array Value} (hb : Blk w g t cs) (hn : ¬ S g) : Blk w' g t cs := (h.block g hb.lt hn).trans hb
theorem Chg.cell {S : Nat → Prop} {w w' : World} (h : Chg S w w') {p : Addr} (hp : p.block < w.heap.size) (hn : ¬ S p.block) : w'.cell? p = w.cell? p := World.cell?_of_block (w := w) (h.block p.block hp hn)
theorem Chg.row {S : Nat → Prop} {w w' : World} (h : Chg S w w') {ik : IntKind} {A : Option Addr} {n : Nat} {xs : List Int} (hr : Kd.C (Kd.int ik) w A n xs) (hn : ∀ ad, A = some ad → 0 < n → ¬ S ad.block) : Kd.C (Kd.int ik) w' A n xs := by
 have h1 := Kd.reads_of_C (enc := Value.int ik) (d := (0 : Int)) (h1 := fun _ => rfl) hr
 refine Kd.C_of_reads (enc := Value.int ik) (d := (0 : Int)) (h1 := fun _ => rfl) ⟨h1.1, h1.2.1, fun h0 => ?_⟩
 obtain ⟨ad, e, hc⟩ := h1.2.2 h0
 refine ⟨ad, e, fun j hj => ?_⟩
 have hx := hc j hj
 have hlt := World.block_lt_of_cell? w _ hx
 rw [h.cell hlt (by rw [add_block]; exact hn ad e h0)]
 exact hx
abbrev Bytes (w : World) (base : Nat) (v : Value) (l : List Int) : Prop := Kd.R (Kd.int .u8) 5 w base (fun _ => True) v l
theorem bytes_move {w w' : World} {base : Nat} {v : Value} {l : List Int} (h : Bytes w base v l) (hm : ∀ k, v.ownBlock = some k → w'.heap[k]? = w.heap[k]?) : Bytes w' base v l := by
 have h1 : Kd.R (Kd.int .u8) 5 w base (fun k => v.ownBlock = some k) v l := Kd.R_of_own (enc := Value.int .u8) (h1 := fun _ => rfl) (Kd.own_of_R h) (fun k hk => hk)
 exact Kd.R_mono (Kd.R_move h1 hm) (fun _ _ => trivial)
structure St (S : Nat → Prop) (W w : World) (L : List (Nat × Nat × Array Value)) (Rs : List (Value × List Int)) : Prop where
 C : Chg S W w
 K : ∀ x ∈ L, Blk w x.1 x.2.1 x.2.2
 N : ∀ x ∈ L, S x.1 ∨ W.heap.size ≤ x.1
 T : ∀ x ∈ L, x.2.1 ≠ 5
 D : (L.map (·.1)).Nodup
 R : ∀ r ∈ Rs, Bytes w W.heap.size r.1 r.2
 E : Rs.Pairwise fun a b => ∀ k, a.1.ownBlock = some k → b.1.ownBlock ≠ some k
section
variable {S : Nat → Prop} {W w w' : World} {L L' : List (Nat × Nat × Array Value)} {Rs Rs' : List (Value × List Int)} {g t i j : Nat} {cs cs' : Array Value} {v : Value} {l : List Int}
theorem St.init (S : Nat → Prop) (W : World) : St S W W [] [] := ⟨Chg.refl S W, fun _ h => (List.not_mem_nil h).elim, fun _ h => (List.not_mem_nil h).elim, fun _ h => (List.not_mem_nil h).elim, List.Pairwise.nil, fun _ h => (List.not_mem_nil h).elim, List.Pairwise.nil⟩
theorem St.nob {W w : World} {L : List (Nat × Nat × Array Value)} {Rs : List (Value × List Int)} (h : St (fun _ => False) W w L Rs) : Below W.heap.size W w := h.C.to_below (fun _ h => h.elim)
theorem St.below (h : St S W w L Rs) (hb : Below w.heap.size w w') : St S W w' L Rs :=
 ⟨h.C.trans (Chg.of_below hb S) (fun _ _ h => h), fun x hx => (h.K x hx).below hb, h.N, h.T, h.D, fun r hr => Kd.R_below (h.R r hr) hb, h.E⟩
theorem St.blk (h : St S W w L Rs) (i : Nat) (hi : L[i]? = some (g, t, cs)) : Blk w g t cs := h.K _ (List.mem_of_getElem? hi)
theorem St.cell (h : St S W w L Rs) (i : Nat) (hi : L[i]? = some (g, t, cs)) (j : Nat) : w.cell? ⟨g, j, none⟩ = cs[j]? := blk_cell (h.blk i hi) j
theorem St.free (h : St S W w L Rs) (i : Nat) (hi : L[i]? = some (g, t, cs)) (j : Nat) : w.frozen? ⟨g, j, none⟩ = false := blk_frozen (h.blk i hi) j
theorem St.row (h : St S W w L Rs) (i : Nat) (hi : Rs[i]? = some (v, l)) : Bytes w W.heap.size v l := h.R _ (List.mem_of_getElem? hi)
theorem St.new (h : St S W w L Rs) (hg : g = w.heap.size) (hb : Blk w' g t cs) (hB : Below w.heap.size w w') (ht : t ≠ 5) : St S W w' ((g, t, cs) :: L) Rs := by
 have h2 := h.below hB
 refine ⟨h2.C, fun x hx => ?_, fun x hx => ?_, fun x hx => ?_, ?_, h2.R, h2.E⟩
 ·rcases List.mem_cons.1 hx with rfl | hx
  ·exact hb
  ·exact h2.K x hx
 ·rcases List.mem_cons.1 hx with rfl | hx
  ·exact Or.inr (by rw [hg]; exact h.C.size)
  ·exact h2.N x hx
 ·rcases List.mem_cons.1 hx with rfl | hx
  ·exact ht
  ·exact h2.T x hx
 ·rw [List.map_cons, List.nodup_cons]
  refine ⟨fun hm => ?_, h2.D⟩
  obtain ⟨x, hx, e⟩ := List.mem_map.1 hm
  have := (h.K x hx).lt
  omega
theorem St.own (h : St S W w L Rs) (hb : Blk w g t cs) (hs : S g) (hn : ∀ x ∈ L, x.1 ≠ g) (ht : t ≠ 5) : St S W w ((g, t, cs) :: L) Rs := by
 refine ⟨h.C, fun x hx => ?_, fun x hx => ?_, fun x hx => ?_, ?_, h.R, h.E⟩
 ·rcases List.mem_cons.1 hx with rfl | hx
  ·exact hb
  ·exact h.K x hx
 ·rcases List.mem_cons.1 hx with rfl | hx
  ·exact Or.inl hs
  ·exact h.N x hx
 ·rcases List.mem_cons.1 hx with rfl | hx
  ·exact ht
  ·exact h.T x hx
 ·rw [List.map_cons, List.nodup_cons]
  refine ⟨fun hm => ?_, h.D⟩
  obtain ⟨x, hx, e⟩ := List.mem_map.1 hm
  exact hn x hx e
theorem St.rowb (h : St S W w L Rs) (hr : Bytes w' w.heap.size v l) (hB : Below w.heap.size w w') : St S W w' L ((v, l) :: Rs) := by
 have h2 := h.below hB
 refine ⟨h2.C, h2.K, h2.N, h2.T, h2.D, fun r hx => ?_, ?_⟩
 ·rcases List.mem_cons.1 hx with rfl | hx
  ·exact Kd.R_lower hr h.C.size
  ·exact h2.R r hx
 ·refine List.Pairwise.cons (fun b hb k hk hk2 => ?_) h2.E
  have h3 := Kd.R_base hr k hk
  have h4 := Kd.R_lt (h.R b hb) k hk2
  omega
theorem St.rown (h : St S W w L Rs) : St S W w L ((.slice none 0 0, []) :: Rs) :=
 ⟨h.C, h.K, h.N, h.T, h.D, fun r hx => by
  rcases List.mem_cons.1 hx with rfl | hx
  ·exact Kd.R_nil _ _ _ _ _
  ·exact h.R r hx, List.Pairwise.cons (fun b hb k hk => by simp [Value.ownBlock] at hk) h.E⟩
theorem St.upd (h : St S W w L Rs) (i : Nat) (hi : L[i]? = some (g, t, cs)) (hb : Blk w' g t cs') (hc : Chg (fun k => k = g) w w') : St S W w' (L.set i (g, t, cs')) Rs := by
 have hm := List.mem_of_getElem? hi
 have hlt := (List.getElem?_eq_some_iff.1 hi).1
 have hmap : (L.set i (g, t, cs')).map (·.1) = L.map (·.1) := by
  rw [List.map_set]
  apply List.ext_getElem?
  intro n
  rw [List.getElem?_set]
  split
  ·rename_i e
   subst e
   rw [List.length_map, if_pos hlt, List.getElem?_map, hi]
   rfl
  ·rfl
 have hne : ∀ (n : Nat) x, L[n]? = some x → n ≠ i → x.1 ≠ g := by
  intro n x hx hn e
  have h1 : (L.map (·.1))[n]? = some g := by rw [List.getElem?_map, hx, ← e]; rfl
  have h2 : (L.map (·.1))[i]? = some g := by rw [List.getElem?_map, hi]; rfl
  have hnl := (List.getElem?_eq_some_iff.1 h1).1
  exact hn ((List.getElem?_inj hnl h.D).1 (h1.trans h2.symm))
 refine ⟨h.C.trans hc (fun k hk e => ?_), fun x hx => ?_, fun x hx => ?_, fun x hx => ?_, by rw [hmap]; exact h.D, fun r hr => ?_, h.E⟩
 ·subst e
  rcases h.N _ hm with h1 | h1
  ·exact h1
  ·omega
 ·obtain ⟨n, hn⟩ := List.mem_iff_getElem?.1 hx
  rw [List.getElem?_set] at hn
  split at hn
  ·rename_i e
   obtain rfl := Option.some.inj hn
   exact hb
  ·rename_i e
   exact hc.blk (h.K x (List.mem_of_getElem? hn)) (hne n x hn (Ne.symm e))
 ·rcases List.mem_or_eq_of_mem_set hx with hx | rfl
  ·exact h.N x hx
  ·exact h.N (g, t, cs) hm
 ·rcases List.mem_or_eq_of_mem_set hx with hx | rfl
  ·exact h.T x hx
  ·exact h.T (g, t, cs) hm
 ·refine bytes_move (h.R r hr) (fun k hk => hc.block k (Kd.R_lt (h.R r hr) k hk) (fun e => ?_))
  subst e
  exact Kd.R_ne (h.R r hr) (h.K _ hm) (Ne.symm (h.T _ hm)) hk.symm
theorem St.put (h : St S W w L Rs) (i : Nat) (hi : L[i]? = some (g, t, cs)) (j : Nat) (u : Value) (he : cs.setIfInBounds j u = cs') : St S W (w.setCell ⟨g, j, none⟩ u) (L.set i (g, t, cs')) Rs :=
 h.upd i hi (blk_put (h.blk i hi) j u he) ((Chg.of_grown (grown_set w g j u)).mono (fun k hk => Option.some.inj hk))
theorem St.stm (h : St S W w L Rs) (i : Nat) (hi : L[i]? = some (g, t, cs)) (o : Nat) (us : List Value) (he : setMany cs o us = cs') : St S W (w.setCells g o us) (L.set i (g, t, cs')) Rs :=
 h.upd i hi (by rw [← he]; exact setCells_blk us o (h.blk i hi)) ((Chg.of_grown (setCells_grown us o w g)).mono (fun k hk => Option.some.inj hk))
theorem St.grown (h : St S W w L Rs) (i : Nat) (hi : L[i]? = some (g, t, cs)) (hb : Blk w' g t cs') (hg : w.grownBy w' (some g)) : St S W w' (L.set i (g, t, cs')) Rs :=
 h.upd i hi hb ((Chg.of_grown hg).mono (fun k hk => Option.some.inj hk))
theorem St.rset (h : St S W w L Rs) (i : Nat) {l' : List Int} (hi : Rs[i]? = some (v, l)) (hr : Bytes w' W.heap.size v l') (hc : Chg (fun k => v.ownBlock = some k) w w') : St S W w' L (Rs.set i (v, l')) := by
 have hm := List.mem_of_getElem? hi
 have hlt := (List.getElem?_eq_some_iff.1 hi).1
 have hmap : (Rs.set i (v, l')).map (·.1) = Rs.map (·.1) := by
  rw [List.map_set]
  apply List.ext_getElem?
  intro n
  rw [List.getElem?_set]
  split
  ·rename_i e
   subst e
   rw [List.length_map, if_pos hlt, List.getElem?_map, hi]
   rfl
  ·rfl
 have hE2 : (Rs.map (·.1)).Pairwise fun a b => ∀ k, a.ownBlock = some k → b.ownBlock ≠ some k := by rw [List.pairwise_map]; exact h.E
 have hne : ∀ (n : Nat) x, Rs[n]? = some x → n ≠ i → ∀ k, x.1.ownBlock = some k → v.ownBlock ≠ some k := by
  intro n x hx hn k hk hk2
  have hnl := (List.getElem?_eq_some_iff.1 hx).1
  have h1 : Rs[n] = x := Option.some.inj ((List.getElem?_eq_getElem hnl).symm.trans hx)
  have h2 : Rs[i] = (v, l) := Option.some.inj ((List.getElem?_eq_getElem hlt).symm.trans hi)
  rcases Nat.lt_or_ge n i with hlt2 | hlt2
  ·have := List.pairwise_iff_getElem.1 h.E n i hnl hlt hlt2 k (by rw [h1]; exact hk)
   rw [h2] at this
   exact this hk2
  ·have := List.pairwise_iff_getElem.1 h.E i n hlt hnl uY k (by rw [h2]; exact hk2)
   rw [h1] at this
   exact this hk
 refine ⟨h.C.trans hc (fun k hk e => ?_), fun x hx => hc.blk (h.K x hx) (fun e => ?_), h.N, h.T, h.D, fun r hr2 => ?_, ?_⟩
 ·have := Kd.R_base (h.R _ hm) k e
  omega
 ·exact Kd.R_ne (h.R _ hm) (h.K x hx) (Ne.symm (h.T x hx)) e.symm
 ·obtain ⟨n, hn⟩ := List.mem_iff_getElem?.1 hr2
  rw [List.getElem?_set] at hn
  split at hn
  ·obtain rfl := Option.some.inj hn
   exact hr
  ·rename_i e
   have hx := h.R r (List.mem_of_getElem? hn)
   exact bytes_move hx (fun k hk => hc.block k (Kd.R_lt hx k hk) (hne n r hn (Ne.symm e) k hk))
 ·have := hE2
  rw [← hmap, List.pairwise_map] at this
  exact this
theorem St.sub (h : St S W w L Rs) (hL : L'.Sublist L) (hR : Rs'.Sublist Rs) : St S W w L' Rs' :=
 ⟨h.C, fun x hx => h.K x (hL.subset hx), fun x hx => h.N x (hL.subset hx), fun x hx => h.T x (hL.subset hx), (hL.map _).nodup h.D, fun r hr => h.R r (hR.subset hr), h.E.sublist hR⟩
theorem St.drew (h : St S W w L Rs) : St S W w.drew L Rs := h.below (below_drew1 (Below.refl _ _))
end
end
end Go.Proofs.YtkpfojpmigchlaaGreat.Own
namespace Go.Proofs.YtkpfojpmigchlaaGreat.Zap
open Go Go.RowKit Go.Proofs.YtkpfojpmigchlaaGreatW.PrintWords Go.Proofs.YtkpfojpmigchlaaGreatW.PrintMore Go.Proofs.YtkpfojpmigchlaaGreatW.PrintLast Go.Proofs.YtkpfojpmigchlaaGreat.Own
theorem many_all (cs old : Array Value) (h : cs.size = old.size) : setMany old 0 cs.toList = cs := by
  rw [setMany_eq _ _ _ (by rw [Array.length_toList, h]; omega), setAt, List.take_zero, List.nil_append, Array.length_toList, h, List.drop_of_length_le (by rw [Array.length_toList]; omega), List.append_nil]
section
variable {S : Nat → Prop} {W w w' : World} {L : List (Nat × Nat × Array Value)} {Rs : List (Value × List Int)} {g t : Nat} {cs : Array Value} {v : Value} {l : List Int}
end
end Go.Proofs.YtkpfojpmigchlaaGreat.Zap
namespace Go.Proofs.YtkpfojpmigchlaaGreatW.PrintWords.Aside0
open Go Go.RowKit Go.Proofs.YtkpfojpmigchlaaGreatW.PrintWords Go.Proofs.YtkpfojpmigchlaaGreatW.PrintMore Go.Proofs.YtkpfojpmigchlaaGreatW.PrintLast Go.Proofs.YtkpfojpmigchlaaGreat.Own Go.Proofs.YtkpfojpmigchlaaGreat.Zap
section
variable {S : Nat → Prop} {W w w' : World} {L L' : List (Nat × Nat × Array Value)} {Rs : List (Value × List Int)} {g t : Nat} {cs : Array Value} {v : Value} {l : List Int}
theorem bl (h : Aside0 (St S W w L Rs)) (hb : Below w.heap.size w w') : Aside0 (St S W w' L Rs) := ⟨h.out.below hb⟩
theorem nw (h : Aside0 (St S W w L Rs)) (hg : g = w.heap.size) (hb : Blk w' g t cs) (hB : Below w.heap.size w w') (ht : t ≠ 5 := by decide) : Aside0 (St S W w' ((g, t, cs) :: L) Rs) := ⟨h.out.new hg hb hB ht⟩
theorem rw_ (h : Aside0 (St S W w L Rs)) (hr : Bytes w' w.heap.size v l) (hB : Below w.heap.size w w') : Aside0 (St S W w' L ((v, l) :: Rs)) := ⟨h.out.rowb hr hB⟩
theorem dr (h : Aside0 (St S W w L Rs)) : Aside0 (St S W w.drew L Rs) := ⟨h.out.drew⟩
theorem nb (h : Aside0 (St (fun _ => False) W w L Rs)) : Below W.heap.size W w := h.out.C.to_below (fun _ h => h.elim)
theorem b0 (h : Aside0 (St S W w ((g, t, cs) :: L) Rs)) : Blk w g t cs := h.out.blk 0 rfl
theorem b1 {x0 : Nat × Nat × Array Value} (h : Aside0 (St S W w (x0 :: (g, t, cs) :: L) Rs)) : Blk w g t cs := h.out.blk 1 rfl
theorem b2 {x0 x1 : Nat × Nat × Array Value} (h : Aside0 (St S W w (x0 :: x1 :: (g, t, cs) :: L) Rs)) : Blk w g t cs := h.out.blk 2 rfl
theorem b3 {x0 x1 x2 : Nat × Nat × Array Value} (h : Aside0 (St S W w (x0 :: x1 :: x2 :: (g, t, cs) :: L) Rs)) : Blk w g t cs := h.out.blk 3 rfl
theorem b4 {x0 x1 x2 x3 : Nat × Nat × Array Value} (h : Aside0 (St S W w (x0 :: x1 :: x2 :: x3 :: (g, t, cs) :: L) Rs)) : Blk w g t cs := h.out.blk 4 rfl
theorem b5 {x0 x1 x2 x3 x4 : Nat × Nat × Array Value} (h : Aside0 (St S W w (x0 :: x1 :: x2 :: x3 :: x4 :: (g, t, cs) :: L) Rs)) : Blk w g t cs := h.out.blk 5 rfl
theorem b6 {x0 x1 x2 x3 x4 x5 : Nat × Nat × Array Value} (h : Aside0 (St S W w (x0 :: x1 :: x2 :: x3 :: x4 :: x5 :: (g, t, cs) :: L) Rs)) : Blk w g t cs := h.out.blk 6 rfl
theorem b7 {x0 x1 x2 x3 x4 x5 x6 : Nat × Nat × Array Value} (h : Aside0 (St S W w (x0 :: x1 :: x2 :: x3 :: x4 :: x5 :: x6 :: (g, t, cs) :: L) Rs)) : Blk w g t cs := h.out.blk 7 rfl
theorem r0 (h : Aside0 (St S W w L ((v, l) :: Rs))) : Bytes w W.heap.size v l := h.out.row 0 rfl
theorem r1 {x0 : Value × List Int} (h : Aside0 (St S W w L (x0 :: (v, l) :: Rs))) : Bytes w W.heap.size v l := h.out.row 1 rfl
theorem r2 {x0 x1 : Value × List Int} (h : Aside0 (St S W w L (x0 :: x1 :: (v, l) :: Rs))) : Bytes w W.heap.size v l := h.out.row 2 rfl
theorem r3 {x0 x1 x2 : Value × List Int} (h : Aside0 (St S W w L (x0 :: x1 :: x2 :: (v, l) :: Rs))) : Bytes w W.heap.size v l := h.out.row 3 rfl
theorem c (h : Aside0 (St S W w L Rs)) (i j : Nat) {v : Value} (hi : L[i]? = some (g, t, cs) := by with_unfolding_all exact rfl) (hv : cs.toList[j]? = some v := by with_unfolding_all exact rfl) : w.cell? ⟨g, j, none⟩ = some v := by
  rw [h.out.cell i hi j, ← hv, Array.getElem?_toList]
theorem f (h : Aside0 (St S W w L Rs)) (i j : Nat) (hi : L[i]? = some (g, t, cs) := by exact rfl) : w.frozen? ⟨g, j, none⟩ = false := h.out.free i hi j
theorem gr (h : Aside0 (St S W w L Rs)) (i : Nat) {cs' : Array Value} (hb : Blk w' g t cs') (hg : w.grownBy w' (some g)) (hi : L[i]? = some (g, t, cs) := by exact rfl) (hL : L.set i (g, t, cs') = L' := by (simp only [List.set_cons_zero, List.set_cons_succ]; rfl)) : Aside0 (St S W w' L' Rs) := ⟨hL ▸ h.out.grown i hi hb hg⟩
theorem rs (h : Aside0 (St S W w L Rs)) (i : Nat) (l' : List Int) {Rs' : List (Value × List Int)} (hc : Chg (fun k => v.ownBlock = some k) w w') (hi : Rs[i]? = some (v, l) := by exact rfl) (hr : Bytes w' W.heap.size v l') (hR : Rs.set i (v, l') = Rs' := by (simp only [List.set_cons_zero, List.set_cons_succ]; rfl)) : Aside0 (St S W w' L Rs') := ⟨hR ▸ h.out.rset i hi hr hc⟩
theorem sb (h : Aside0 (St S W w L Rs)) (L' : List (Nat × Nat × Array Value)) (Rs' : List (Value × List Int)) (hL : L'.Sublist L := by first | exact List.Sublist.refl _ | (repeat (first | exact List.nil_sublist _ | exact List.Sublist.refl _ | apply List.Sublist.cons_cons | apply List.Sublist.cons))) (hR : Rs'.Sublist Rs := by first | exact List.Sublist.refl _ | (repeat (first | exact List.nil_sublist _ | exact List.Sublist.refl _ | apply List.Sublist.cons_cons | apply List.Sublist.cons))) : Aside0 (St S W w L' Rs') := ⟨h.out.sub hL hR⟩
end
theorem rb {α : Type} {K : Kd α} {e base : Nat} {w w' : World} {ok : Nat → Prop} {v : Value} {xs : List α} (h : Aside0 (Kd.R K e w base ok v xs)) (hb : Below w.heap.size w w') : Aside0 (Kd.R K e w' base ok v xs) := ⟨Kd.R_below h.out hb⟩
end Go.Proofs.YtkpfojpmigchlaaGreatW.PrintWords.Aside0
namespace Go.Proofs.YtkpfojpmigchlaaGreat.Zap
open Go Go.RowKit Go.Proofs.YtkpfojpmigchlaaGreatW.PrintWords Go.Proofs.YtkpfojpmigchlaaGreatW.PrintMore Go.Proofs.YtkpfojpmigchlaaGreatW.PrintLast Go.Proofs.YtkpfojpmigchlaaGreat.Own
section
variable {ops : Array Oper} {Q : Exit → Act → World → Prop} {o : Oper} {rest : List Oper} {a : Act} {S : Nat → Prop} {W w : World} {L L' : List (Nat × Nat × Array Value)} {Rs Rs' : List (Value × List Int)} {g t : Nat} {cs cells : Array Value}
theorem bytes_gr {w' : World} {b : Nat} {v : Value} {l : List Int} (h : Bytes w b v l) (hb : Blk w g t cs) (ht : t ≠ 5) (hg : w.grownBy w' (some g)) : Bytes w' b v l := bytes_move h (fun k hk => hg.block k (Kd.R_lt h k hk) (fun e => Kd.R_ne h hb (Ne.symm ht) (by rw [hk, e])))
theorem zS (ty p : Nat) {v : Operand} (HS : Aside0 (St S W w L Rs)) (i : Nat) (h : ∀ w', Aside0 (St S W w' L' Rs) → (∀ {b v l}, Aside0 (Bytes w b v l) → Aside0 (Bytes w' b v l)) → wpList Tryz.prog ops Q rest a w')
  (ho : o.op = .store ty (.tmp p) v := by exact rfl) (hi : L[i]? = some (g, t, cs) := by exact rfl) (hN : o.dst = none := by exact rfl) (hgd : o.guard = none := by exact rfl) (hx : a.eval (.tmp p) = .pointer (some ⟨g, 0, none⟩) := by exact rfl) (hy : a.eval v = .agg cells := by exact rfl) (hsz : cells.size = cs.size := by exact rfl) (hs : (Tryz.prog.info? ty).map (·.size) = some cells.size := by kernel_rfl) (h1 : cells.all (·.oneCell') = true := by simp [Value.oneCell']) (hL : L.set i (g, t, cells) = L' := by (simp only [List.set_cons_zero, List.set_cons_succ]; rfl)) : wpList Tryz.prog ops Q (o :: rest) a w :=
  stm_event hN hgd ty (.tmp p) v ho hx hy (HS.out.blk i hi) (by omega) hs h1 fun w' hb hg => h w' ⟨hL ▸ HS.out.grown i hi (by rw [many_all _ _ hsz] at hb; exact hb) hg⟩ fun hr => ⟨bytes_gr hr.out (HS.out.blk i hi) (HS.out.T _ (List.mem_of_getElem? hi)) hg⟩
theorem zW {K : Act → World → Prop} (ty : Nat) {x v : Operand} (HS : Aside0 (St S W w L Rs)) (i : Nat) (h : ∀ w', Aside0 (St S W w' L' Rs) → K a w')
  (ho : o.op = .store ty x v := by exact rfl) (hi : L[i]? = some (g, t, cs) := by exact rfl) (hN : o.dst = none := by exact rfl) (hw : Region.wanted o (yielded ops a.tmps) = true := by rfl) (hx : a.eval x = .pointer (some ⟨g, 0, none⟩) := by exact rfl) (hy : a.eval v = .agg cells := by exact rfl) (hsz : cells.size = cs.size := by exact rfl) (hs : (Tryz.prog.info? ty).map (·.size) = some cells.size := by kernel_rfl) (h1 : cells.all (·.oneCell') = true := by simp [Value.oneCell']) (hL : L.set i (g, t, cells) = L' := by (simp only [List.set_cons_zero, List.set_cons_succ]; rfl)) : if Region.wanted o (yielded ops a.tmps) = true then Oper.wp Tryz.prog o a w K Q else K (a.put none undef) w :=
  skip_ hw hN (by
    have hr := run_storeVar_mid (P := Tryz.prog) w g 0 ty cells ((HS.out.blk i hi).there 0 _ (by omega)) hs h1
    unfold execOp
    simp only [ho, hx, hy, Instr.storeAt, Instr.sureAddr, Sem.run_bind, Sem.run_pure, Result.andThen_ok, hr]) (h _ ⟨hL ▸ HS.out.stm i hi 0 cells.toList (many_all _ _ hsz)⟩)
theorem zC {K : Act → World → Prop} (HS : Aside0 (St S W w L Rs)) (i j : Nat) {v : Value} (hrun : (execOp a.eval o).run Tryz.prog w = .ok .skip (w.setCell ⟨g, j, none⟩ v)) (h : ∀ w', Aside0 (St S W w' L' Rs) → K a w')
  (hi : L[i]? = some (g, t, cs) := by exact rfl) (hN : o.dst = none := by exact rfl) (hw : Region.wanted o (yielded ops a.tmps) = true := by rfl) (hL : L.set i (g, t, cs.setIfInBounds j v) = L' := by (simp only [List.setIfInBounds_toArray, List.set_cons_zero, List.set_cons_succ]; rfl)) : if Region.wanted o (yielded ops a.tmps) = true then Oper.wp Tryz.prog o a w K Q else K (a.put none undef) w :=
  skip_ hw hN hrun (h _ ⟨hL ▸ HS.out.put i hi j v rfl⟩)
theorem zB (N : Nat) (HS : Aside0 (St S W w L Rs)) (hrun : (execOp a.eval o).run Tryz.prog w = .ok (.value (.pointer (some ⟨w.heap.size, 0, none⟩))) (w.alloc (.cells cs t (0, 0)))) (h : ∀ g w', Aside0 (St S W w' ((g, t, cs) :: L) Rs) → (∀ {b v l}, Aside0 (Bytes w b v l) → Aside0 (Bytes w' b v l)) → wpList Tryz.prog ops Q rest (a.put o.dst (.pointer (some ⟨g, 0, none⟩))) w')
  (hN : o.dst = some N := by exact rfl) (hgd : o.guard = none := by exact rfl) (ht : t ≠ 5 := by decide) : wpList Tryz.prog ops Q (o :: rest) a w :=
  box_event hgd hN hrun fun g hg w' hb hB => h g w' (HS.nw hg hb hB ht) fun hr => ⟨Kd.R_below hr.out hB⟩
theorem zA (N : Nat) (HS : Aside0 (St S W w L Rs)) {x : Operand} (h : ∀ g w', Aside0 (St S W w' ((g, t, cs) :: L) Rs) → (∀ {b v l}, Aside0 (Bytes w b v l) → Aside0 (Bytes w' b v l)) → wpList Tryz.prog ops Q rest (a.put o.dst (.pointer (some ⟨g, 0, none⟩))) w')
  (_hN : o.dst = some N := by rfl) (ho : o.op = .box t x := by exact rfl) (hgd : o.guard = none := by exact rfl) (hx : a.eval x = .agg cs := by exact rfl) (ht : t ≠ 5 := by decide) : wpList Tryz.prog ops Q (o :: rest) a w :=
  any_box hgd ho hx fun g hg w' hb hB => h g w' (HS.nw hg hb hB ht) fun hr => ⟨Kd.R_below hr.out hB⟩
end
end Go.Proofs.YtkpfojpmigchlaaGreat.Zap
namespace Go.Proofs.YtkpfojpmigchlaaGreat.Own
open Go Go.RowKit Go.Proofs.YtkpfojpmigchlaaGreatW.PrintWords Go.Proofs.YtkpfojpmigchlaaGreatW.PrintMore Go.Proofs.YtkpfojpmigchlaaGreatW.PrintLast Go.Proofs.YtkpfojpmigchlaaGreat.Q
open Go.Proofs.YtkpfojpmigchlaaGreat.Zip
open Go.Proofs.YtkpfojpmigchlaaGreat.Zap
set_option maxHeartbeats 16000000
set_option maxRecDepth 100000
structure PK where
 (kind life piece frm dst fp tp flags label : Int)
 bare : Bool
 code : Int
 (opts data : List Int)
def PK.zero : PK := ⟨0, 0, 0, 0, 0, 0, 0, 0, 0, false, 0, [], []⟩
def PK.cells (p : PK) (vo vd : Value) : Array Value := #[.int .i64 p.kind, .int .i64 p.life, .int .i64 p.piece, .int .i64 p.frm, .int .i64 p.dst, .int .i64 p.fp, .int .i64 p.tp, .int .i64 p.flags, .int .i64 p.label, .bool p.bare, .int .i64 p.code, vo, vd]
def parse (l : List Int) : Int × PK :=
 if hd l = 0 then
  if rd l 0 = 3 then
   if rd l 17 = 0 then (0, ⟨rd l 0, rd l 1, rd l 12, gt l 4 4, gt l 8 4, 0, 0, 0, 0, false, rd l 16, [], l.drop 20⟩) else (2, PK.zero)
  else if rd l 0 = 2 then (0, ⟨rd l 0, rd l 1, rd l 12, gt l 4 4, gt l 8 4, gt l 16 2, gt l 18 2, 0, gt l 20 2, gt l 22 2 == 0, 0, [], l.drop 24⟩)
  else if 15 < rd l 20 ∨ 40 < rd l 21 ∨ (l.length : Int) < 24 + rd l 21 then (5, PK.zero)
  else (0, ⟨rd l 0, rd l 1, rd l 12, gt l 4 4, gt l 8 4, gt l 16 2, gt l 18 2, rd l 20, 0, false, 0, (l.take (24 + rd l 21).toNat).drop 24, l.drop (24 + rd l 21).toNat⟩)
 else (hd l, PK.zero)
theorem get_c {l : List Int} {A : Option Addr} {c : Nat} {w : World} (a n : Int) (h0 : 0 ≤ a) (hn : 0 ≤ n) (hn4 : n ≤ 4) (hm : a ≤ 1000000) (hl : a + n ≤ l.length) (hC : Kd.C (Kd.int .u8) w A l.length l) (hc : l.length ≤ c) :
 Calls Tryz.prog 58 #[.slice A l.length c, .int .i64 a, .int .i64 n] w fun e w' => e = .returned (.int .i64 (gt l a n)) ∧ Below w.heap.size w w' := by
 refine (wire_get.calls 10 A c l a n _ w hC hc (get_some h0 hn hn4 hl hm)).mono ?_
 rintro e w' ⟨rfl, hd⟩
 exact ⟨rfl, hd.below⟩
theorem pair_c {l : List Int} {A : Option Addr} {c : Nat} {w : World} (i : Int) (h0 : 0 ≤ i) (hm : i ≤ 1000000) (hl : i < l.length) (hC : Kd.C (Kd.int .u8) w A l.length l) (hc : l.length ≤ c) :
 Calls Tryz.prog 96 #[.slice A l.length c, .int .i64 i] w fun e w' => e = .returned (.int .i64 (pr l i)) ∧ Below w.heap.size w w' := by
 refine (wire_pair.calls 10 A c l i _ w hC hc (pr_some h0 hl hm)).mono ?_
 rintro e w' ⟨rfl, hd⟩
 exact ⟨rfl, hd.below⟩
theorem stn_c (a b c : Int) (w : World) : Calls Tryz.prog 66 #[.int .i64 a, .int .i64 b, .int .i64 c] w fun e w' => e = .returned (.int .i64 (stn a b c)) ∧ Below w.heap.size w w' := by
 refine (sum_Turn.calls a b c _ w (stn_some a b c)).mono ?_
 rintro e w' ⟨rfl, hd⟩
 exact ⟨rfl, hd.below⟩
theorem head_c {l : List Int} {A : Option Addr} {c : Nat} {w : World} (hb : BY l) (hC : Kd.C (Kd.int .u8) w A l.length l) (hc : l.length ≤ c) :
 Calls Tryz.prog 57 #[.slice A l.length c] w fun e w' => e = .returned (.int .i64 (hd l)) ∧ Below w.heap.size w w' := by
 refine (wire_head.calls 60 A c l _ w hC hc (head_all hb).1).mono ?_
 rintro e w' ⟨rfl, hd⟩
 exact ⟨rfl, hd.below⟩
theorem run_pk (ev : Operand → Value) (o : Oper) (w : World) (ho : o.op = .alloc 45) : (execOp ev o).run Tryz.prog w = .ok (.value (.pointer (some ⟨w.heap.size, 0, none⟩))) (w.alloc (.cells #[.int .i64 0, .int .i64 0, .int .i64 0, .int .i64 0, .int .i64 0, .int .i64 0, .int .i64 0, .int .i64 0, .int .i64 0, .bool false, .int .i64 0, .slice none 0 0, .slice none 0 0] 45 (0, 0))) := by
 cases o with
 | mk dst op ty pos after guard =>
  obtain rfl : op = _ := ho
  kernel_rfl
theorem run_stpk (ev : Operand → Value) (o : Oper) (w : World) (g : Nat) (cs cells : Array Value) (x y : Operand) (ho : o.op = .store 45 x y) (hx : ev x = .pointer (some ⟨g, 0, none⟩)) (hy : ev y = .agg cells) (hb : Blk w g 45 cs) (hs : cells.size = 13) (hc : cs.size = 13) (h1 : cells.all (·.oneCell') = true) :
 (execOp ev o).run Tryz.prog w = .ok .skip (w.setCells g 0 cells.toList) := by
 have hr := run_storeVar_mid (P := Tryz.prog) w g 0 45 cells (hb.there 0 _ (by rw [hs, hc]; decide)) (by rw [hs]; kernel_rfl) h1
 unfold execOp
 simp only [ho, hx, hy, Instr.storeAt, Instr.sureAddr, Sem.run_bind, Sem.run_pure, Result.andThen_ok, hr]
theorem run_ldpk (ev : Operand → Value) (o : Oper) (w : World) (g : Nat) (cs : Array Value) (x : Operand) (ho : o.op = .load 45 x) (hx : ev x = .pointer (some ⟨g, 0, none⟩)) (hb : Blk w g 45 cs) (hs : cs.size = 13) :
 (execOp ev o).run Tryz.prog w = .ok (.value (.agg cs)) w := by
 have hr := run_loadVar_mid (P := Tryz.prog) w g 0 45 cs.toList _ hb.range Tryz.underlying45 rfl vB
 unfold execOp
 simp only [ho, hx, Instr.loadAt, Instr.sureAddr, Sem.run_bind, Sem.run_pure, Result.andThen_ok, hr]
def cutl (l : List Int) (a b : Int) : List Int := (l.take b.toNat).drop a.toNat
theorem cutl_len {l : List Int} {a b : Int} (h0 : 0 ≤ a) (h1 : a ≤ b) (h2 : b ≤ l.length) : ((cutl l a b).length : Int) = b - a := by
 unfold cutl
 rw [List.length_drop, List.length_take]
 omega
theorem cut3 (A : Option Addr) (c : Nat) (l : List Int) (a b : Int) (h0 : 0 ≤ a) (h1 : a ≤ b) (hm : b ≤ l.length) (hc : l.length ≤ c) :
 ∃ A' : Option Addr, (∀ W : World, (Instr.slice 39 (.slice A l.length c) (some (.int .i64 a)) (some (.int .i64 b)) (some (.int .i64 b))).run Tryz.prog W = .ok (.slice A' (cutl l a b).length (cutl l a b).length) W) ∧
  (∀ w : World, Kd.C (Kd.int .u8) w A l.length l → Kd.C (Kd.int .u8) w A' (cutl l a b).length (cutl l a b)) := by
 have hlt : (l.take b.toNat).length = b.toNat := by rw [List.length_take]; omega
 have hl : (cutl l a b).length = b.toNat - a.toNat := by unfold cutl; rw [List.length_drop, hlt]
 obtain ⟨i, hi, hz_, hsz, hb_⟩ := info_parts infoB8
 clear hz_ hb_
 refine ⟨if b.toNat = a.toNat then A else A.map (·.add a.toNat), fun W => ?_, fun w h => ?_⟩
 ·have hel : Tryz.prog.elem 39 = 5 := by simp [Program.elem, Tryz.underlying39]
  have hu : Tryz.prog.underlying 39 = some (.slice (Tryz.prog.elem 39)) := by rw [hel]; exact Tryz.underlying39
  have h3 : b ≤ (c : Int) := Int.le_trans hm (Int.ofNat_le.2 hc)
  rw [run_slice_lhm W 39 A l.length c hu .i64 .i64 .i64 a b b h0 h1 (Int.le_refl b) h3, hel, hl]
  simp [sizeOf, typeInfo, hi, hsz, sliced, Result.andThen]
 ·clear hi hsz i
  have h2 := ((Kd.reads_of_C (enc := Value.int .u8) (d := (0 : Int)) (h1 := fun _ => rfl) h).take_ b.toNat uY).drop_ (c := b.toNat) a.toNat uY uY
  rw [hl]
  exact Kd.C_of_reads (h1 := fun _ => rfl) h2
theorem many13 (a0 a1 a2 a3 a4 a5 a6 a7 a8 a9 a10 a11 a12 b0 b1 b2 b3 b4 b5 b6 b7 b8 b9 b10 b11 b12 : Value) : setMany #[b0, b1, b2, b3, b4, b5, b6, b7, b8, b9, b10, b11, b12] 0 [a0, a1, a2, a3, a4, a5, a6, a7, a8, a9, a10, a11, a12] = #[a0, a1, a2, a3, a4, a5, a6, a7, a8, a9, a10, a11, a12] := by
 simp only [setMany, List.setIfInBounds_toArray, List.set_cons_zero, List.set_cons_succ]
theorem results_pk {fn : Func} {p u : Tmp} (h : fn.results = #[.cell p 45, .tmp u]) (tmps : Array Value) (w : World) (g : Nat) (cs : Array Value) (hp : tmps.getD p undef = .pointer (some ⟨g, 0, none⟩)) (hb : Blk w g 45 cs) (hs : cs.size = 13) :
 (results fn tmps).run Tryz.prog w = .ok (.tuple #[.agg cs, tmps.getD u undef]) w :=
 results_ct h tmps w g 45 cs (0, 0) _ hp hb Tryz.underlying45 rfl (by rw [hs]; kernel_rfl)
theorem parse_head (A : Option Addr) (c : Nat) (l : List Int) (W : World) (hC : Kd.C (Kd.int .u8) W A l.length l) (hc : l.length ≤ c) (hb : BY l) (h0 : hd l ≠ 0) : Calls Tryz.prog 24 #[.slice A l.length c] W fun e w' => e = .returned (.tuple #[.agg #[.int .i64 0, .int .i64 0, .int .i64 0, .int .i64 0, .int .i64 0, .int .i64 0, .int .i64 0, .int .i64 0, .int .i64 0, .bool false, .int .i64 0, .slice none 0 0, .slice none 0 0], .int .i64 (hd l)]) ∧ Below W.heap.size W w' := by
 have hu := Tryz.underlying45
 have hn : (hd l == 0) = false := beq_eq_false_iff_ne.2 h0
 have hn2 : (hd l != 0) = true := by simp [h0]
 have HC := mA hC
 have HCC := mA hc
 have HBY := mA hb
 have HS : Aside0 (St (fun _ => False) W W [] []) := ⟨St.init _ _⟩
 clear hC hc hb h0
 go_enter Tryz.func24, Tryz.ntmps24
 go_wp2_with (first
  | (refine zB 2 HS (run_pk _ _ _ rfl) ?_; clear HS; intro tr w1 HS z_; clear z_)
  | (go_at_call 57; refine (head_c HBY.out (Kd.C_below HC.out HS.nb) HCC.out).mono ?_; rintro e_ w2 ⟨rfl, hb_⟩; replace HS := HS.bl hb_; clear hb_)
  | (refine zS 45 2 HS 0 ?_; clear HS; intro w3 HS z_; clear z_))
 refine bodyPost_ret (results_pk rfl _ _ _ _ rfl HS.b0 rfl) rfl ?_
 exact ⟨rfl, HS.nb⟩
theorem parse_ok (A : Option Addr) (c : Nat) (l : List Int) (W : World) (hC : Kd.C (Kd.int .u8) W A l.length l) (hc : l.length ≤ c) (hb : BY l) (h0 : hd l = 0) : Calls Tryz.prog 24 #[.slice A l.length c] W fun e w' => ∃ vo vd, e = .returned (.tuple #[.agg ((parse l).2.cells vo vd), .int .i64 (parse l).1]) ∧ Bytes w' W.heap.size vo (parse l).2.opts ∧ Bytes w' W.heap.size vd (parse l).2.data ∧ Below W.heap.size W w' := by
 have hu := Tryz.underlying45
 obtain ⟨hl24, hl15, hk1, hk3, hl44⟩ := (head_all hb).2 h0
 have HL24 := mA hl24
 have HL15 := mA hl15
 have HL44 := mA hl44
 have HK := mA (And.intro hk1 hk3)
 have H0 := mA h0
 have HC := mA hC
 have HCC := mA hc
 have HBY := mA hb
 obtain ⟨ad, hA_, hx_⟩ := Kd.at_int hC 0 uJ uY
 cases hA_
 clear hx_
 have HBC : Aside0 (∀ (i : Nat) (w : World), i < l.length → Chg (fun _ => False) W w → w.cell? (ad.add i) = some (.int .u8 (rd l (i : Int)))) := ⟨fun i w hi hcg => by
  obtain ⟨ad2, e2, hx2⟩ := Kd.at_int (Kd.C_below HC.out (hcg.to_below (fun _ h => h.elim))) (i : Int) (Int.natCast_nonneg i) uY
  cases e2
  rw [Int.toNat_natCast] at hx2
  exact hx2⟩
 have q0a : ((0 : Int) < (l.length : Int)) = True := eq_true uY
 have q0b : (0 < l.length) = True := eq_true uY
 obtain ⟨r0a, r0b⟩ := rd_by hb 0
 have e0 : IntKind.i64.wrap (rd l 0) = rd l 0 := by rw [i64_w, w64 uY uY]
 clear r0a r0b
 have q1a : ((1 : Int) < (l.length : Int)) = True := eq_true uY
 have q1b : (1 < l.length) = True := eq_true uY
 obtain ⟨r1a, r1b⟩ := rd_by hb 1
 have e1 : IntKind.i64.wrap (rd l 1) = rd l 1 := by rw [i64_w, w64 uY uY]
 clear r1a r1b
 have q12a : ((12 : Int) < (l.length : Int)) = True := eq_true uY
 have q12b : (12 < l.length) = True := eq_true uY
 obtain ⟨r12a, r12b⟩ := rd_by hb 12
 have e12 : IntKind.i64.wrap (rd l 12) = rd l 12 := by rw [i64_w, w64 uY uY]
 clear r12a r12b
 have q16a : ((16 : Int) < (l.length : Int)) = True := eq_true uY
 have q16b : (16 < l.length) = True := eq_true uY
 obtain ⟨r16a, r16b⟩ := rd_by hb 16
 have e16 : IntKind.i64.wrap (rd l 16) = rd l 16 := by rw [i64_w, w64 uY uY]
 clear r16a r16b
 have q17a : ((17 : Int) < (l.length : Int)) = True := eq_true uY
 have q17b : (17 < l.length) = True := eq_true uY
 obtain ⟨r17a, r17b⟩ := rd_by hb 17
 have e17 : IntKind.i64.wrap (rd l 17) = rd l 17 := by rw [i64_w, w64 uY uY]
 clear r17a r17b
 have q20a : ((20 : Int) < (l.length : Int)) = True := eq_true uY
 have q20b : (20 < l.length) = True := eq_true uY
 obtain ⟨r20a, r20b⟩ := rd_by hb 20
 have e20 : IntKind.i64.wrap (rd l 20) = rd l 20 := by rw [i64_w, w64 uY uY]
 clear r20a r20b
 have q21a : ((21 : Int) < (l.length : Int)) = True := eq_true uY
 have q21b : (21 < l.length) = True := eq_true uY
 obtain ⟨r21a, r21b⟩ := rd_by hb 21
 have e21 : IntKind.i64.wrap (rd l 21) = rd l 21 := by rw [i64_w, w64 uY uY]
 clear r21a r21b
 have hn : (hd l == 0) = true := beq_iff_eq.2 h0
 have hn2 : (hd l != 0) = false := by simp [h0]
 have HS : Aside0 (St (fun _ => False) W W [] []) := ⟨St.init _ _⟩
 clear hC hc hb h0 hl24 hl15 hk1 hk3 hl44
 go_enter Tryz.func24, Tryz.ntmps24
 go_upto_region 4 with (first
  | (refine zB 2 HS (run_pk _ _ _ rfl) ?_; clear HS; intro tr w1 HS z_; clear z_)
  | (go_at_call 57; refine (head_c HBY.out (Kd.C_below HC.out HS.nb) HCC.out).mono ?_; rintro e_ w2 ⟨rfl, hb_⟩; replace HS := HS.bl hb_; clear hb_))
 replace HS := HS.dr
 refine zT 19 (fun w' => w'.cell? ad = some (.int .u8 (rd l 0)) ∧ w'.cell? (ad.add 0) = some (.int .u8 (rd l 0)) ∧ w'.cell? (ad.add 1) = some (.int .u8 (rd l 1)) ∧ w'.cell? ⟨ad.block, ad.off + 1, none⟩ = some (.int .u8 (rd l 1)) ∧ w'.cell? (ad.add 12) = some (.int .u8 (rd l 12)) ∧ w'.cell? ⟨ad.block, ad.off + 12, none⟩ = some (.int .u8 (rd l 12))) ⟨uI, HBC.out 0 _ uH HS.out.C, HBC.out 1 _ uH HS.out.C, uL, HBC.out 12 _ uH HS.out.C, uF⟩ fun hHeld => ?_
 generalize w2.drew = w3 at HS hHeld ⊢
 refine zR [(0,13),(1,14),(4,17),(5,18),(8,21),(9,22),(12,25),(14,27),(2,15),(3,16),(6,19),(7,20),(10,23),(11,24)] 5 ?_ ?_
 refine join_ (σ := Nat) 1 (tf 18 1) (fun s_ => [(26, .int .i64 (gt l 4 4)), (28, .int .i64 (gt l 8 4)), (29, .agg #[.int .i64 (rd l 0), .int .i64 (rd l 1), .int .i64 (rd l 12), .int .i64 (gt l 4 4), .int .i64 (gt l 8 4), .int .i64 0, .int .i64 0, .int .i64 0, .int .i64 0, .bool false, .int .i64 0, .slice none 0 0, .slice none 0 0]), (5, .pointer (some ⟨s_, 0, none⟩))]) (fun s_ w' => (w'.cell? ad = some (.int .u8 (rd l 0)) ∧ w'.cell? (ad.add 0) = some (.int .u8 (rd l 0)) ∧ w'.cell? (ad.add 1) = some (.int .u8 (rd l 1)) ∧ w'.cell? ⟨ad.block, ad.off + 1, none⟩ = some (.int .u8 (rd l 1)) ∧ w'.cell? (ad.add 12) = some (.int .u8 (rd l 12)) ∧ w'.cell? ⟨ad.block, ad.off + 12, none⟩ = some (.int .u8 (rd l 12))) ∧ St (fun _ => False) W w' [(s_, 45, #[.int .i64 0, .int .i64 0, .int .i64 0, .int .i64 0, .int .i64 0, .int .i64 0, .int .i64 0, .int .i64 0, .int .i64 0, .bool false, .int .i64 0, .slice none 0 0, .slice none 0 0]), (tr, 45, #[.int .i64 0, .int .i64 0, .int .i64 0, .int .i64 0, .int .i64 0, .int .i64 0, .int .i64 0, .int .i64 0, .int .i64 0, .bool false, .int .i64 0, .slice none 0 0, .slice none 0 0])] []) ?_ ?_
 rotate_left
 ·intro hCont
  refine two_ (i := 13) (j := 17) (Ni := some 26) (Nj := some 5) (tf 15 4) (mb 19 155647) rfl rfl rfl rfl uW uJ uJ (fun K hK => ?_) (fun K hK => ?_)
  ·skip
   refine zG Tryz.func58 ((get_c 4 4 uJ uJ uJ uJ uH (Kd.C_below HC.out HS.nb) HCC.out).mono ?_)
   rintro e_ wE130 ⟨rfl, hb_⟩
   refine ⟨_, rfl, ?_⟩
   replace HS := HS.bl hb_
   clear hb_ hHeld
   refine hK.out _ _ ⟨uI, HBC.out 0 _ uH HS.out.C, HBC.out 1 _ uH HS.out.C, uL, HBC.out 12 _ uH HS.out.C, uF⟩ (fun hHeld => ?_)
   clear hK K
   refine zN ?_
   refine two_ (i := 15) (j := 17) (Ni := some 28) (Nj := some 5) (tf 16 3) (mb 19 163839) rfl rfl rfl rfl uW uJ uJ (fun K hK => ?_) (fun K hK => ?_)
   ·skip
    refine zG Tryz.func58 ((get_c 8 4 uJ uJ uJ uJ uH (Kd.C_below HC.out HS.nb) HCC.out).mono ?_)
    rintro e_ wE151 ⟨rfl, hb_⟩
    refine ⟨_, rfl, ?_⟩
    replace HS := HS.bl hb_
    clear hb_ hHeld
    refine hK.out _ _ ⟨uI, HBC.out 0 _ uH HS.out.C, HBC.out 1 _ uH HS.out.C, uL, HBC.out 12 _ uH HS.out.C, uF⟩ (fun hHeld => ?_)
    clear hK K
    refine zN ?_
    refine zP 16 29 (tf 17 2) ?_
    refine zO 17 (tf 18 1) fun K hK => ?_
    refine box_step (by rfl) (N := 5) rfl (run_pk _ _ _ rfl) ?_
    intro g hg_ wA2 hbx_ hb_
    replace HS := HS.nw hg_ hbx_ hb_
    clear hg_ hbx_ hb_ hHeld
    refine hK.out _ _ ⟨uI, HBC.out 0 _ uH HS.out.C, HBC.out 1 _ uH HS.out.C, uL, HBC.out 12 _ uH HS.out.C, uF⟩ (fun hHeld => ?_)
    clear hK K
    refine zN ?_
    exact yQ
   ·skip
    refine box_step (by rfl) (N := 5) rfl (run_pk _ _ _ rfl) ?_
    intro g hg_ wA1 hbx_ hb_
    replace HS := HS.nw hg_ hbx_ hb_
    clear hg_ hbx_ hb_ hHeld
    refine hK.out _ _ ⟨uI, HBC.out 0 _ uH HS.out.C, HBC.out 1 _ uH HS.out.C, uL, HBC.out 12 _ uH HS.out.C, uF⟩ (fun hHeld => ?_)
    clear hK K
    refine zN ?_
    refine zO 15 (mb 19 196607) fun K hK => ?_
    refine zG Tryz.func58 ((get_c 8 4 uJ uJ uJ uJ uH (Kd.C_below HC.out HS.nb) HCC.out).mono ?_)
    rintro e_ wE152 ⟨rfl, hb_⟩
    refine ⟨_, rfl, ?_⟩
    replace HS := HS.bl hb_
    clear hb_ hHeld
    refine hK.out _ _ ⟨uI, HBC.out 0 _ uH HS.out.C, HBC.out 1 _ uH HS.out.C, uL, HBC.out 12 _ uH HS.out.C, uF⟩ (fun hHeld => ?_)
    clear hK K
    refine zN ?_
    refine zP 16 29 (tf 18 1) ?_
    exact yQ
  ·skip
   refine box_step (by rfl) (N := 5) rfl (run_pk _ _ _ rfl) ?_
   intro g hg_ wA0 hbx_ hb_
   replace HS := HS.nw hg_ hbx_ hb_
   clear hg_ hbx_ hb_ hHeld
   refine hK.out _ _ ⟨uI, HBC.out 0 _ uH HS.out.C, HBC.out 1 _ uH HS.out.C, uL, HBC.out 12 _ uH HS.out.C, uF⟩ (fun hHeld => ?_)
   clear hK K
   refine zN ?_
   refine zO 13 (mb 19 163839) fun K hK => ?_
   refine zG Tryz.func58 ((get_c 4 4 uJ uJ uJ uJ uH (Kd.C_below HC.out HS.nb) HCC.out).mono ?_)
   rintro e_ wE131 ⟨rfl, hb_⟩
   refine ⟨_, rfl, ?_⟩
   replace HS := HS.bl hb_
   clear hb_ hHeld
   refine hK.out _ _ ⟨uI, HBC.out 0 _ uH HS.out.C, HBC.out 1 _ uH HS.out.C, uL, HBC.out 12 _ uH HS.out.C, uF⟩ (fun hHeld => ?_)
   clear hK K
   refine zN ?_
   refine zO 15 (mb 19 196607) fun K hK => ?_
   refine zG Tryz.func58 ((get_c 8 4 uJ uJ uJ uJ uH (Kd.C_below HC.out HS.nb) HCC.out).mono ?_)
   rintro e_ wE152 ⟨rfl, hb_⟩
   refine ⟨_, rfl, ?_⟩
   replace HS := HS.bl hb_
   clear hb_ hHeld
   refine hK.out _ _ ⟨uI, HBC.out 0 _ uH HS.out.C, HBC.out 1 _ uH HS.out.C, uL, HBC.out 12 _ uH HS.out.C, uF⟩ (fun hHeld => ?_)
   clear hK K
   refine zN ?_
   refine zP 16 29 (tf 18 1) ?_
   exact yQ
 rintro g wD ⟨hHeld, h1_⟩
 clear HS
 have HS := mA h1_
 clear h1_
 refine norm_ (a' := ?_) ?_ ?_
 rotate_left
 ·exact zK
 refine zo 18 (tf 19 0) fun K hK => ?_
 refine zW 45 HS 0 ?_
 clear HS hHeld
 intro wE HS
 refine hK.out _ _ ⟨uI, HBC.out 0 _ uH HS.out.C, HBC.out 1 _ uH HS.out.C, uL, HBC.out 12 _ uH HS.out.C, uF⟩ (fun hHeld => ?_)
 clear hK K
 refine done_ uW ?_
 clear hHeld
 rcases (show rd l 0 = 3 ∧ rd l 17 ≠ 0 ∨ rd l 0 = 3 ∧ rd l 17 = 0 ∨ rd l 0 = 2 ∨ rd l 0 = 1 from by have h_ := HK.out; omega) with ⟨h3, h17⟩ | ⟨h3, h17⟩ | h2 | h1
 ·skip
  have HP : Aside0 (parse l = (2, PK.zero)) := ⟨by unfold parse; rw [if_pos H0.out, if_pos h3, if_neg h17]⟩
  have k3 : (rd l 0 == 3) = true := beq_iff_eq.2 h3
  have k17 : (rd l 17 != 0) = true := by simp [h17]
  clear h3 h17
  have c_g_0 := HS.c 0 0
  have b17_ : wE.cell? (ad.add 17) = some (.int .u8 (rd l 17)) := HBC.out 17 _ uH HS.out.C
  have b17x_ : wE.cell? ⟨ad.block, ad.off + 17, none⟩ = some (.int .u8 (rd l 17)) := xO
  go_wp2_with (first
   | (refine zS 45 2 HS 1 ?_; clear HS; intro wF HS z_; clear z_ c_g_0 b17_ b17x_))
  refine bodyPost_ret (results_pk rfl _ _ _ _ rfl HS.b1 rfl) rfl ?_
  rw [HP.out]
  exact yJ
 ·skip
  have HP : Aside0 (parse l = (0, ⟨rd l 0, rd l 1, rd l 12, gt l 4 4, gt l 8 4, 0, 0, 0, 0, false, rd l 16, [], l.drop 20⟩)) := ⟨by unfold parse; rw [if_pos H0.out, if_pos h3, if_pos h17]⟩
  have HE : Aside0 (cutl l 20 l.length = l.drop 20) := ⟨by unfold cutl; rw [Int.toNat_natCast, List.take_length]; rfl⟩
  have k3 : (rd l 0 == 3) = true := beq_iff_eq.2 h3
  have k17 : (rd l 17 != 0) = false := by simp [h17]
  obtain ⟨A2, hcut, hA2⟩ := cut3 (some ad) c l 20 l.length uJ uH (Int.le_refl _) HCC.out
  have HA2 := mA hA2
  clear hA2 h3 h17
  have c_g_0 := HS.c 0 0
  have c_g_10 := HS.c 0 10
  have fc_g_10 := HS.f 0 10
  have b16_ : wE.cell? (ad.add 16) = some (.int .u8 (rd l 16)) := HBC.out 16 _ uH HS.out.C
  have b16x_ : wE.cell? ⟨ad.block, ad.off + 16, none⟩ = some (.int .u8 (rd l 16)) := (by have h_ := HBC.out 16 _ uH HS.out.C; rw [← show ad.add 16 = ⟨ad.block, ad.off + 16, none⟩ from by simp [Addr.add]]; exact h_)
  have b17_ : wE.cell? (ad.add 17) = some (.int .u8 (rd l 17)) := HBC.out 17 _ uH HS.out.C
  have b17x_ : wE.cell? ⟨ad.block, ad.off + 17, none⟩ = some (.int .u8 (rd l 17)) := xO
  go_upto_region 20 with fail
  clear c_g_0 c_g_10 fc_g_10 b16_ b16x_ b17_ b17x_
  have n_ := mA ((HS.out.put 0 rfl 10 (.int .i64 (rd l 16)) rfl))
  simp only [List.setIfInBounds_toArray, List.set_cons_zero, List.set_cons_succ] at n_
  clear HS
  generalize (wE.setCell ⟨g, 10, none⟩ (.int .i64 (rd l 16))) = wG at n_ ⊢
  have HS := n_
  clear n_
  go_upto_region 21 with (first
   | (go_at_call 59; refine (clone_calls A2 (cutl l 20 l.length).length (cutl l 20 l.length) _ (HA2.out _ (Kd.C_below HC.out HS.nb)) (Nat.le_refl _) (by have h_ := cutl_len (l := l) (a := 20) (b := (l.length : Int)) uJ (by have h3_ := HL24.out; omega) (Int.le_refl _); have h2_ := HL15.out; omega)).mono ?_; rintro e_ wH ⟨v_, rfl, hR_, hb_⟩; obtain ⟨Av, cv, rfl⟩ := Kd.R_slice hR_; replace HS := HS.rw_ hR_ hb_; clear hR_ hb_; have c_g_12 := HS.c 0 12; have fc_g_12 := HS.f 0 12))
  clear c_g_12 fc_g_12
  have n_ := mA ((HS.out.put 0 rfl 12 (.slice Av (cutl l 20 l.length).length cv) rfl))
  simp only [List.setIfInBounds_toArray, List.set_cons_zero, List.set_cons_succ] at n_
  clear HS
  generalize (wH.setCell ⟨g, 12, none⟩ (.slice Av (cutl l 20 l.length).length cv)) = wI at n_ ⊢
  have HS := n_
  clear n_
  go_wp2_with (first
   | ((with_reducible refine zd 107 ?_); refine Kd.event_run rfl (run_ldpk _ _ _ _ _ (.tmp 5) rfl rfl HS.b0 rfl) ?_)
   | (refine zS 45 2 HS 1 ?_; clear HS; intro wZ HS z_; clear z_))
  refine bodyPost_ret (results_pk rfl _ _ _ _ rfl HS.b1 rfl) rfl ?_
  rw [HP.out]
  exact yX
 ·skip
  have HP : Aside0 (parse l = (0, ⟨rd l 0, rd l 1, rd l 12, gt l 4 4, gt l 8 4, gt l 16 2, gt l 18 2, 0, gt l 20 2, gt l 22 2 == 0, 0, [], l.drop 24⟩)) := ⟨by unfold parse; rw [if_pos H0.out, if_neg uY, if_pos h2]⟩
  have HE : Aside0 (cutl l 24 l.length = l.drop 24) := ⟨by unfold cutl; rw [Int.toNat_natCast, List.take_length]; rfl⟩
  have k3 : (rd l 0 == 3) = false := by rw [h2]; rfl
  have k2 : (rd l 0 == 2) = true := beq_iff_eq.2 h2
  obtain ⟨A2, hcut, hA2⟩ := cut3 (some ad) c l 24 l.length uJ uH (Int.le_refl _) HCC.out
  have HA2 := mA hA2
  clear hA2 h2
  have c_g_0 := HS.c 0 0
  go_upto_region 19 with (first
   | (go_at_call 58; (with_reducible refine (get_c 16 2 uJ uJ uJ uJ uH (Kd.C_below HC.out HS.nb) HCC.out).mono ?_); rintro e_ wF ⟨rfl, hb_⟩; clear c_g_0; replace HS := HS.bl hb_; clear hb_)
   | (go_at_call 58; (with_reducible refine (get_c 18 2 uJ uJ uJ uJ uH (Kd.C_below HC.out HS.nb) HCC.out).mono ?_); rintro e_ wG ⟨rfl, hb_⟩; replace HS := HS.bl hb_; clear hb_; have c_g_5 := HS.c 0 5; have fc_g_5 := HS.f 0 5; have c_g_6 := HS.c 0 6; have fc_g_6 := HS.f 0 6))
  clear c_g_5 fc_g_5 c_g_6 fc_g_6
  have n_ := mA (((HS.out.put 0 rfl 5 (.int .i64 (gt l 16 2)) rfl).put 0 rfl 6 (.int .i64 (gt l 18 2)) rfl))
  simp only [List.setIfInBounds_toArray, List.set_cons_zero, List.set_cons_succ] at n_
  clear HS
  generalize ((wG.setCell ⟨g, 5, none⟩ (.int .i64 (gt l 16 2))).setCell ⟨g, 6, none⟩ (.int .i64 (gt l 18 2))) = wH at n_ ⊢
  have HS := n_
  clear n_
  go_upto_region 20 with (first
   | (go_at_call 58; (with_reducible refine (get_c 20 2 uJ uJ uJ uJ uH (Kd.C_below HC.out HS.nb) HCC.out).mono ?_); rintro e_ wI ⟨rfl, hb_⟩; replace HS := HS.bl hb_; clear hb_)
   | (go_at_call 58; (with_reducible refine (get_c 22 2 uJ uJ uJ uJ uH (Kd.C_below HC.out HS.nb) HCC.out).mono ?_); rintro e_ wJ ⟨rfl, hb_⟩; replace HS := HS.bl hb_; clear hb_; have c_g_8 := HS.c 0 8; have fc_g_8 := HS.f 0 8; have c_g_9 := HS.c 0 9; have fc_g_9 := HS.f 0 9))
  clear c_g_8 fc_g_8 c_g_9 fc_g_9
  have n_ := mA (((HS.out.put 0 rfl 8 (.int .i64 (gt l 20 2)) rfl).put 0 rfl 9 (.bool (gt l 22 2 == 0)) rfl))
  simp only [List.setIfInBounds_toArray, List.set_cons_zero, List.set_cons_succ] at n_
  clear HS
  generalize ((wJ.setCell ⟨g, 8, none⟩ (.int .i64 (gt l 20 2))).setCell ⟨g, 9, none⟩ (.bool (gt l 22 2 == 0))) = wK at n_ ⊢
  have HS := n_
  clear n_
  go_upto_region 21 with (first
   | (go_at_call 59; refine (clone_calls A2 (cutl l 24 l.length).length (cutl l 24 l.length) _ (HA2.out _ (Kd.C_below HC.out HS.nb)) (Nat.le_refl _) (by have h_ := cutl_len (l := l) (a := 24) (b := (l.length : Int)) uJ (by have h3_ := HL24.out; omega) (Int.le_refl _); have h2_ := HL15.out; omega)).mono ?_; rintro e_ wL ⟨v_, rfl, hR_, hb_⟩; obtain ⟨Av, cv, rfl⟩ := Kd.R_slice hR_; replace HS := HS.rw_ hR_ hb_; clear hR_ hb_; have c_g_12 := HS.c 0 12; have fc_g_12 := HS.f 0 12))
  clear c_g_12 fc_g_12
  have n_ := mA ((HS.out.put 0 rfl 12 (.slice Av (cutl l 24 l.length).length cv) rfl))
  simp only [List.setIfInBounds_toArray, List.set_cons_zero, List.set_cons_succ] at n_
  clear HS
  generalize (wL.setCell ⟨g, 12, none⟩ (.slice Av (cutl l 24 l.length).length cv)) = wM at n_ ⊢
  have HS := n_
  clear n_
  go_wp2_with (first
   | ((with_reducible refine zd 107 ?_); refine Kd.event_run rfl (run_ldpk _ _ _ _ _ (.tmp 5) rfl rfl HS.b0 rfl) ?_)
   | (refine zS 45 2 HS 1 ?_; clear HS; intro wZ HS z_; clear z_))
  refine bodyPost_ret (results_pk rfl _ _ _ _ rfl HS.b1 rfl) rfl ?_
  rw [HP.out]
  exact yX
 ·skip
  have hw9 : IntKind.i64.wrap (24 + rd l 21) = 24 + rd l 21 := (by obtain ⟨r1_, r2_⟩ := rd_by HBY.out 21; rw [i64_w, w64 uY uY])
  have hw9b : wrap64 (24 + rd l 21) = 24 + rd l 21 := (by obtain ⟨r1_, r2_⟩ := rd_by HBY.out 21; rw [w64 uY uY])
  have H1 := mA h1
  have k3 : (rd l 0 == 3) = false := by rw [h1]; rfl
  have k2 : (rd l 0 == 2) = false := by rw [h1]; rfl
  clear h1
  have c_g_0 := HS.c 0 0
  go_upto_region 7 with fail
  go_upto_region 8 with (first
   | (go_at_call 58; (with_reducible refine (get_c 16 2 uJ uJ uJ uJ uH (Kd.C_below HC.out HS.nb) HCC.out).mono ?_); rintro e_ wF ⟨rfl, hb_⟩; clear c_g_0; replace HS := HS.bl hb_; clear hb_)
   | (go_at_call 58; (with_reducible refine (get_c 18 2 uJ uJ uJ uJ uH (Kd.C_below HC.out HS.nb) HCC.out).mono ?_); rintro e_ wG ⟨rfl, hb_⟩; replace HS := HS.bl hb_; clear hb_; have c_g_5 := HS.c 0 5; have fc_g_5 := HS.f 0 5; have c_g_6 := HS.c 0 6; have fc_g_6 := HS.f 0 6))
  clear c_g_5 fc_g_5 c_g_6 fc_g_6
  have n_ := mA (((HS.out.put 0 rfl 5 (.int .i64 (gt l 16 2)) rfl).put 0 rfl 6 (.int .i64 (gt l 18 2)) rfl))
  simp only [List.setIfInBounds_toArray, List.set_cons_zero, List.set_cons_succ] at n_
  clear HS
  generalize ((wG.setCell ⟨g, 5, none⟩ (.int .i64 (gt l 16 2))).setCell ⟨g, 6, none⟩ (.int .i64 (gt l 18 2))) = wH at n_ ⊢
  have HS := n_
  clear n_
  have c_g_7 := HS.c 0 7
  have fc_g_7 := HS.f 0 7
  have b20_ : wH.cell? (ad.add 20) = some (.int .u8 (rd l 20)) := HBC.out 20 _ uH HS.out.C
  have b20x_ : wH.cell? ⟨ad.block, ad.off + 20, none⟩ = some (.int .u8 (rd l 20)) := (by have h_ := HBC.out 20 _ uH HS.out.C; rw [← show ad.add 20 = ⟨ad.block, ad.off + 20, none⟩ from by simp [Addr.add]]; exact h_)
  go_upto_region 9 with fail
  clear c_g_7 fc_g_7 b20_ b20x_
  have n_ := mA ((HS.out.put 0 rfl 7 (.int .i64 (rd l 20)) rfl))
  simp only [List.setIfInBounds_toArray, List.set_cons_zero, List.set_cons_succ] at n_
  clear HS
  generalize (wH.setCell ⟨g, 7, none⟩ (.int .i64 (rd l 20))) = wI at n_ ⊢
  have HS := n_
  clear n_
  have b21_ : wI.cell? (ad.add 21) = some (.int .u8 (rd l 21)) := HBC.out 21 _ uH HS.out.C
  have b21x_ : wI.cell? ⟨ad.block, ad.off + 21, none⟩ = some (.int .u8 (rd l 21)) := vZ
  go_upto_region 10 with fail
  clear b21_ b21x_
  have c_g_7 := HS.c 0 7
  have b21_ : wI.cell? (ad.add 21) = some (.int .u8 (rd l 21)) := HBC.out 21 _ uH HS.out.C
  have b21x_ : wI.cell? ⟨ad.block, ad.off + 21, none⟩ = some (.int .u8 (rd l 21)) := vZ
  rcases (show 15 < rd l 20 ∨ ¬ 15 < rd l 20 ∧ 40 < rd l 21 ∨ ¬ 15 < rd l 20 ∧ ¬ 40 < rd l 21 ∧ (l.length : Int) < 24 + rd l 21 ∨ ¬ 15 < rd l 20 ∧ ¬ 40 < rd l 21 ∧ ¬ (l.length : Int) < 24 + rd l 21 from by omega) with h4 | ⟨h4, h5⟩ | ⟨h4, h5, h6⟩ | ⟨h4, h5, h6⟩
  ·skip
   have HP : Aside0 (parse l = (5, PK.zero)) := ⟨by unfold parse; rw [if_pos H0.out, if_neg vG, if_neg vG, if_pos (Or.inl h4)]⟩
   have d0 : decide (15 < rd l 20) = true := decide_eq_true h4
   clear h4
   go_wp2_with (first
    | (refine zS 45 2 HS 1 ?_; clear HS; intro wJ HS z_; clear z_ c_g_7 b21_ b21x_))
   refine bodyPost_ret (results_pk rfl _ _ _ _ rfl HS.b1 rfl) rfl ?_
   rw [HP.out]
   exact yJ
  ·skip
   have HP : Aside0 (parse l = (5, PK.zero)) := ⟨by unfold parse; rw [if_pos H0.out, if_neg vG, if_neg vG, if_pos (Or.inr (Or.inl h5))]⟩
   have d0 : decide (15 < rd l 20) = false := decide_eq_false h4
   have d1 : decide (40 < rd l 21) = true := decide_eq_true h5
   clear h4 h5
   go_wp2_with (first
    | (refine zS 45 2 HS 1 ?_; clear HS; intro wJ HS z_; clear z_ c_g_7 b21_ b21x_))
   refine bodyPost_ret (results_pk rfl _ _ _ _ rfl HS.b1 rfl) rfl ?_
   rw [HP.out]
   exact yJ
  ·skip
   have HP : Aside0 (parse l = (5, PK.zero)) := ⟨by unfold parse; rw [if_pos H0.out, if_neg vG, if_neg vG, if_pos (Or.inr (Or.inr h6))]⟩
   have d0 : decide (15 < rd l 20) = false := decide_eq_false h4
   have d1 : decide (40 < rd l 21) = false := decide_eq_false h5
   have d2 : decide ((l.length : Int) < 24 + rd l 21) = true := decide_eq_true h6
   clear h4 h5 h6
   go_wp2_with (first
    | (refine zS 45 2 HS 1 ?_; clear HS; intro wJ HS z_; clear z_ c_g_7 b21_ b21x_))
   refine bodyPost_ret (results_pk rfl _ _ _ _ rfl HS.b1 rfl) rfl ?_
   rw [HP.out]
   exact yJ
  ·skip
   have HP : Aside0 (parse l = (0, ⟨rd l 0, rd l 1, rd l 12, gt l 4 4, gt l 8 4, gt l 16 2, gt l 18 2, rd l 20, 0, false, 0, (l.take (24 + rd l 21).toNat).drop 24, l.drop (24 + rd l 21).toNat⟩)) := ⟨by unfold parse; rw [if_pos H0.out, if_neg vG, if_neg vG, if_neg uY]⟩
   have d0 : decide (15 < rd l 20) = false := decide_eq_false h4
   have d1 : decide (40 < rd l 21) = false := decide_eq_false h5
   have d2 : decide ((l.length : Int) < 24 + rd l 21) = false := decide_eq_false h6
   have HRL := mA h6
   have HRB := mA (rd_by HBY.out 21)
   have HE : Aside0 (cutl l (24 + rd l 21) l.length = l.drop (24 + rd l 21).toNat) := ⟨by unfold cutl; rw [Int.toNat_natCast, List.take_length]⟩
   have HE2 : Aside0 (cutl l 24 (24 + rd l 21) = (l.take (24 + rd l 21).toNat).drop 24) := ⟨rfl⟩
   obtain ⟨A2, hcut, hA2⟩ := cut3 (some ad) c l 24 (24 + rd l 21) uJ (by have h_ := HRB.out; omega) uY HCC.out
   have HA2 := mA hA2
   obtain ⟨A3, hcut3, hA3⟩ := cut3 (some ad) c l (24 + rd l 21) l.length (by have h_ := HRB.out; omega) uY (Int.le_refl _) HCC.out
   have HA3 := mA hA3
   clear hA2 hA3 h4 h5 h6
   go_upto_region 20 with (first
    | (go_at_call 59; refine (clone_calls A2 (cutl l 24 (24 + rd l 21)).length (cutl l 24 (24 + rd l 21)) _ (HA2.out _ (Kd.C_below HC.out HS.nb)) (Nat.le_refl _) (by have h_ := cutl_len (l := l) (a := 24) (b := 24 + rd l 21) uJ (by have h3_ := HRB.out; omega) (by have h3_ := HRL.out; omega); have h2_ := HL15.out; have h3_ := HRL.out; omega)).mono ?_; rintro e_ wJ ⟨v_, rfl, hR_, hb_⟩; obtain ⟨Av, cv, rfl⟩ := Kd.R_slice hR_; clear c_g_7 b21_ b21x_; replace HS := HS.rw_ hR_ hb_; clear hR_ hb_; have c_g_11 := HS.c 0 11; have fc_g_11 := HS.f 0 11))
   clear c_g_11 fc_g_11
   have n_ := mA ((HS.out.put 0 rfl 11 (.slice Av (cutl l 24 (24 + rd l 21)).length cv) rfl))
   simp only [List.setIfInBounds_toArray, List.set_cons_zero, List.set_cons_succ] at n_
   clear HS
   generalize (wJ.setCell ⟨g, 11, none⟩ (.slice Av (cutl l 24 (24 + rd l 21)).length cv)) = wK at n_ ⊢
   have HS := n_
   clear n_
   go_upto_region 21 with (first
    | (go_at_call 59; refine (clone_calls A3 (cutl l (24 + rd l 21) l.length).length (cutl l (24 + rd l 21) l.length) _ (HA3.out _ (Kd.C_below HC.out HS.nb)) (Nat.le_refl _) (by have h_ := cutl_len (l := l) (a := 24 + rd l 21) (b := (l.length : Int)) (by have h3_ := HRB.out; omega) (by have h3_ := HRL.out; omega) (Int.le_refl _); have h2_ := HL15.out; have h3_ := HRB.out; omega)).mono ?_; rintro e_ wL ⟨v_, rfl, hR_, hb_⟩; obtain ⟨Av2, cv2, rfl⟩ := Kd.R_slice hR_; replace HS := HS.rw_ hR_ hb_; clear hR_ hb_; have c_g_12 := HS.c 0 12; have fc_g_12 := HS.f 0 12))
   clear c_g_12 fc_g_12
   have n_ := mA ((HS.out.put 0 rfl 12 (.slice Av2 (cutl l (24 + rd l 21) l.length).length cv2) rfl))
   simp only [List.setIfInBounds_toArray, List.set_cons_zero, List.set_cons_succ] at n_
   clear HS
   generalize (wL.setCell ⟨g, 12, none⟩ (.slice Av2 (cutl l (24 + rd l 21) l.length).length cv2)) = wM at n_ ⊢
   have HS := n_
   clear n_
   go_wp2_with (first
    | ((with_reducible refine zd 107 ?_); refine Kd.event_run rfl (run_ldpk _ _ _ _ _ (.tmp 5) rfl rfl HS.b0 rfl) ?_)
    | (refine zS 45 2 HS 1 ?_; clear HS; intro wZ HS z_; clear z_))
   refine bodyPost_ret (results_pk rfl _ _ _ _ rfl HS.b1 rfl) rfl ?_
   rw [HP.out]
   exact ⟨_, _, rfl, (by rw [← HE2.out]; exact HS.out.row 1 rfl), (by rw [← HE.out]; exact HS.out.row 0 rfl), HS.nb⟩
theorem parse_calls (A : Option Addr) (c : Nat) (l : List Int) (W : World) (hC : Kd.C (Kd.int .u8) W A l.length l) (hc : l.length ≤ c) (hb : BY l) : Calls Tryz.prog 24 #[.slice A l.length c] W fun e w' => ∃ vo vd, e = .returned (.tuple #[.agg ((parse l).2.cells vo vd), .int .i64 (parse l).1]) ∧ Bytes w' W.heap.size vo (parse l).2.opts ∧ Bytes w' W.heap.size vd (parse l).2.data ∧ Below W.heap.size W w' := by
 by_cases h0 : hd l = 0
 ·exact parse_ok A c l W hC hc hb h0
 ·refine (parse_head A c l W hC hc hb h0).mono ?_
  rintro e w' ⟨rfl, hB⟩
  have hp : parse l = (hd l, PK.zero) := by unfold parse; rw [if_neg h0]
  rw [hp]
  exact ⟨_, _, rfl, Kd.R_nil _ _ _ _ _, Kd.R_nil _ _ _ _ _, hB⟩
theorem run_al89 (ev : Operand → Value) (o : Oper) (w : World) (ho : o.op = .alloc 89) : (execOp ev o).run Tryz.prog w = .ok (.value (.pointer (some ⟨w.heap.size, 0, none⟩))) (w.alloc (.cells #[.int .i64 0, .int .i64 0, .int .i64 0, .int .i64 0] 89 (0, 0))) := by
 cases o with
 | mk dst op ty pos after guard =>
  obtain rfl : op = _ := ho
  kernel_rfl
theorem run_ld89 (ev : Operand → Value) (o : Oper) (w : World) (g : Nat) (cs : Array Value) (x : Operand) (ho : o.op = .load 89 x) (hx : ev x = .pointer (some ⟨g, 0, none⟩)) (hb : Blk w g 89 cs) (hs : cs.size = 4) :
 (execOp ev o).run Tryz.prog w = .ok (.value (.agg cs)) w := by
 have hr := run_loadVar_mid (P := Tryz.prog) w g 0 89 cs.toList _ hb.range Tryz.underlying89 rfl vB
 unfold execOp
 simp only [ho, hx, Instr.loadAt, Instr.sureAddr, Sem.run_bind, Sem.run_pure, Result.andThen_ok, hr]
theorem run_st89 (ev : Operand → Value) (o : Oper) (w : World) (g : Nat) (cs cells : Array Value) (x y : Operand) (ho : o.op = .store 89 x y) (hx : ev x = .pointer (some ⟨g, 0, none⟩)) (hy : ev y = .agg cells) (hb : Blk w g 89 cs) (hs : cells.size = 4) (hc : cs.size = 4) (h1 : cells.all (·.oneCell') = true) :
 (execOp ev o).run Tryz.prog w = .ok .skip (w.setCells g 0 cells.toList) := by
 have hr := run_storeVar_mid (P := Tryz.prog) w g 0 89 cells (hb.there 0 _ (by rw [hs, hc]; decide)) (by rw [hs]; kernel_rfl) h1
 unfold execOp
 simp only [ho, hx, hy, Instr.storeAt, Instr.sureAddr, Sem.run_bind, Sem.run_pure, Result.andThen_ok, hr]
theorem run_al31 (ev : Operand → Value) (o : Oper) (w : World) (ho : o.op = .alloc 31) : (execOp ev o).run Tryz.prog w = .ok (.value (.pointer (some ⟨w.heap.size, 0, none⟩))) (w.alloc (.cells #[.int .i64 0, .int .u64 0, .int .u64 0, .int .u64 0, .int .u64 0, .int .u64 0, .int .u64 0] 31 (0, 0))) := by
 cases o with
 | mk dst op ty pos after guard =>
  obtain rfl : op = _ := ho
  kernel_rfl
theorem run_ld31 (ev : Operand → Value) (o : Oper) (w : World) (g : Nat) (cs : Array Value) (x : Operand) (ho : o.op = .load 31 x) (hx : ev x = .pointer (some ⟨g, 0, none⟩)) (hb : Blk w g 31 cs) (hs : cs.size = 7) :
 (execOp ev o).run Tryz.prog w = .ok (.value (.agg cs)) w := by
 have hr := run_loadVar_mid (P := Tryz.prog) w g 0 31 cs.toList _ hb.range Tryz.underlying31 rfl vB
 unfold execOp
 simp only [ho, hx, Instr.loadAt, Instr.sureAddr, Sem.run_bind, Sem.run_pure, Result.andThen_ok, hr]
theorem run_al29 (ev : Operand → Value) (o : Oper) (w : World) (ho : o.op = .alloc 29) : (execOp ev o).run Tryz.prog w = .ok (.value (.pointer (some ⟨w.heap.size, 0, none⟩))) (w.alloc (.cells #[.int .u64 0, .int .u64 0] 29 (0, 0))) := by
 cases o with
 | mk dst op ty pos after guard =>
  obtain rfl : op = _ := ho
  kernel_rfl
theorem run_ld29 (ev : Operand → Value) (o : Oper) (w : World) (g : Nat) (cs : Array Value) (x : Operand) (ho : o.op = .load 29 x) (hx : ev x = .pointer (some ⟨g, 0, none⟩)) (hb : Blk w g 29 cs) (hs : cs.size = 2) :
 (execOp ev o).run Tryz.prog w = .ok (.value (.agg cs)) w := by
 have hr := run_loadVar_mid (P := Tryz.prog) w g 0 29 cs.toList _ hb.range Tryz.underlying29 rfl vB
 unfold execOp
 simp only [ho, hx, Instr.loadAt, Instr.sureAddr, Sem.run_bind, Sem.run_pure, Result.andThen_ok, hr]
theorem run_al170 (ev : Operand → Value) (o : Oper) (w : World) (ho : o.op = .alloc 170) : (execOp ev o).run Tryz.prog w = .ok (.value (.pointer (some ⟨w.heap.size, 0, none⟩))) (w.alloc (.cells #[.int .i64 0, .int .i64 0, .int .i64 0] 170 (0, 0))) := by
 cases o with
 | mk dst op ty pos after guard =>
  obtain rfl : op = _ := ho
  kernel_rfl
theorem run_ld170 (ev : Operand → Value) (o : Oper) (w : World) (g : Nat) (cs : Array Value) (x : Operand) (ho : o.op = .load 170 x) (hx : ev x = .pointer (some ⟨g, 0, none⟩)) (hb : Blk w g 170 cs) (hs : cs.size = 3) :
 (execOp ev o).run Tryz.prog w = .ok (.value (.agg cs)) w := by
 have hr := run_loadVar_mid (P := Tryz.prog) w g 0 170 cs.toList _ hb.range Tryz.underlying170 rfl vB
 unfold execOp
 simp only [ho, hx, Instr.loadAt, Instr.sureAddr, Sem.run_bind, Sem.run_pure, Result.andThen_ok, hr]
theorem run_al41 (ev : Operand → Value) (o : Oper) (w : World) (ho : o.op = .alloc 41) : (execOp ev o).run Tryz.prog w = .ok (.value (.pointer (some ⟨w.heap.size, 0, none⟩))) (w.alloc (.cells #[.int .i64 0, .int .i64 0, .bool false, .slice none 0 0] 41 (0, 0))) := by
 cases o with
 | mk dst op ty pos after guard =>
  obtain rfl : op = _ := ho
  kernel_rfl
theorem run_al25 (ev : Operand → Value) (o : Oper) (w : World) (ho : o.op = .alloc 25) : (execOp ev o).run Tryz.prog w = .ok (.value (.pointer (some ⟨w.heap.size, 0, none⟩))) (w.alloc (.cells #[.int .i64 0, .int .i64 0, .int .i64 0, .int .i64 0, .int .i64 0] 25 (0, 0))) := by
 cases o with
 | mk dst op ty pos after guard =>
  obtain rfl : op = _ := ho
  kernel_rfl
theorem many4 (a0 a1 a2 a3 b0 b1 b2 b3 : Value) : setMany #[b0, b1, b2, b3] 0 [a0, a1, a2, a3] = #[a0, a1, a2, a3] := by
 simp only [setMany, List.setIfInBounds_toArray, List.set_cons_zero, List.set_cons_succ]
theorem not1 (a : Int) (h0 : 0 ≤ a) (h1 : a < 2048) : Go.bits .andNot .i64 a 1 = a - a % 2 := by
 have h : ((List.range 2048).all fun n => Go.bits .andNot .i64 (n : Int) 1 == (n : Int) - (n : Int) % 2) = true := by kernel_rfl
 obtain ⟨n, rfl⟩ := Int.eq_ofNat_of_zero_le h0
 exact beq_iff_eq.1 (List.all_eq_true.1 h n (List.mem_range.2 uY))
def tl (l b : List Int) (e : Int) : Nat → Int → Int → Int
 | 0, _, s => s
 | k + 1, i, s => if i < e then tl l b e k (i + 2) (stn s (pr l i) (pr b i)) else s
def turnF (l b : List Int) (pl at_ n : Int) : List Int := pt b pl 2 (tl l b (at_ + n) 4 (at_ - at_ % 2) (gt b pl 2))
def plc (k : Int) : Int := if k = 3 then 18 else 22
def bodyF (bare : Bool) (l b : List Int) (at_ n : Int) : List Int := if bare = true then b else turnF l b (plc (rd b 0)) at_ n
def doneF (bare : Bool) (b : List Int) : List Int := if rd b 0 = 2 ∧ bare = false ∧ gt b 22 2 = 0 then pt b 22 2 65535 else b
theorem turnF_all {l b : List Int} {pl at_ n : Int} (h0 : 0 ≤ pl) (hl : pl + 2 ≤ b.length) (hm : pl ≤ 1000) : (turnF l b pl at_ n).length = b.length ∧ (∀ j : Int, 0 ≤ j → (j < pl ∨ pl + 2 ≤ j) → rd (turnF l b pl at_ n) j = rd b j) ∧ (BY b → BY (turnF l b pl at_ n)) :=
 (put_all _ h0 uJ uJ hl uY).2
theorem bodyF_all {bare : Bool} {l b : List Int} {at_ n : Int} (hl : 24 ≤ b.length) : (bodyF bare l b at_ n).length = b.length ∧ rd (bodyF bare l b at_ n) 0 = rd b 0 ∧ (BY b → BY (bodyF bare l b at_ n)) := by
 unfold bodyF
 split
 ·exact ⟨rfl, rfl, id⟩
 ·have h : plc (rd b 0) = 18 ∨ plc (rd b 0) = 22 := by unfold plc; split <;> simp
  obtain ⟨h1, h2, h3⟩ := turnF_all (l := l) (b := b) (pl := plc (rd b 0)) (at_ := at_) (n := n) uY uY uY
  exact ⟨h1, h2 0 uJ uY, h3⟩
theorem doneF_all {bare : Bool} {b : List Int} (hl : 24 ≤ b.length) : (doneF bare b).length = b.length ∧ rd (doneF bare b) 0 = rd b 0 ∧ (BY b → BY (doneF bare b)) := by
 unfold doneF
 split
 ·obtain ⟨_, h1, h2, h3⟩ := put_all (l := b) (a := 22) (n := 2) 65535 uJ uJ uJ uY uJ
  exact ⟨h1, h2 0 uJ uJ, h3⟩
 ·exact ⟨rfl, rfl, id⟩
theorem put_c {W w : World} {v : Value} {b : List Int} (a n x : Int) (h0 : 0 ≤ a) (hn : 0 ≤ n) (hn4 : n ≤ 4) (hm : a ≤ 1000000) (hl : a + n ≤ b.length) (hB : Below W.heap.size W w) (hr : Bytes w W.heap.size v b) :
 Calls Tryz.prog 41 #[v, .int .i64 a, .int .i64 n, .int .i64 x] w fun e w' => e = .returned (.tuple #[]) ∧ Bytes w' W.heap.size v (pt b a n x) ∧ Chg (fun k => v.ownBlock = some k) w w' := by
 have h1 : Kd.R (Kd.int .u8) 5 w W.heap.size (fun k => v.ownBlock = some k) v b := Kd.R_of_own (enc := Value.int .u8) (h1 := fun _ => rfl) (Kd.own_of_R hr) (fun k hk => hk)
 refine (wire_put.calls 10 (fun k => v.ownBlock = some k) v b a n x _ W w hB h1 (put_all x h0 hn hn4 hl hm).1).mono ?_
 rintro e w' ⟨rfl, hr2, hb2, hk⟩
 exact ⟨rfl, Kd.R_mono hr2 (fun _ _ => trivial), hb2.os.trans hB.os.symm, hb2.tape.trans hB.tape.symm, hb2.output.trans hB.output.symm, hk.1, fun k hlt hn => hk.2 k hlt hn⟩
theorem get_n {l : List Int} {A : Option Addr} {c m : Nat} {w : World} (a n : Int) (hm0 : m = l.length) (h0 : 0 ≤ a) (hn : 0 ≤ n) (hn4 : n ≤ 4) (hm : a ≤ 1000000) (hl : a + n ≤ m) (hC : Kd.C (Kd.int .u8) w A l.length l) (hc : m ≤ c) :
 Calls Tryz.prog 58 #[.slice A m c, .int .i64 a, .int .i64 n] w fun e w' => e = .returned (.int .i64 (gt l a n)) ∧ Below w.heap.size w w' := by
 subst hm0
 exact get_c a n h0 hn hn4 hm hl hC hc
theorem pair_n {l : List Int} {A : Option Addr} {c m : Nat} {w : World} (i : Int) (hm0 : m = l.length) (h0 : 0 ≤ i) (hm : i ≤ 1000000) (hl : i < m) (hC : Kd.C (Kd.int .u8) w A l.length l) (hc : m ≤ c) :
 Calls Tryz.prog 96 #[.slice A m c, .int .i64 i] w fun e w' => e = .returned (.int .i64 (pr l i)) ∧ Below w.heap.size w w' := by
 subst hm0
 exact pair_c i h0 hm hl hC hc
theorem place_c (k : Int) (w : World) : Calls Tryz.prog 43 #[.int .i64 k] w fun e w' => e = .returned (.int .i64 (plc k)) ∧ Below w.heap.size w w' := by
 refine (wire_sumPlace.calls k (plc k) w (by unfold wire_sumPlace.f plc; split <;> rfl)).mono ?_
 rintro e w' ⟨rfl, hd⟩
 exact ⟨rfl, hd.below⟩
theorem turn_calls (W w : World) (ad : Addr) (c tn gb cb : Nat) (bare : Bool) (l b : List Int) (hB : Below W.heap.size W w) (hT : Blk w tn 125 #[.slice (some ad) l.length c, .slice (some ⟨gb, 0, none⟩) l.length cb, .bool bare]) (hR : Bytes w W.heap.size (.slice (some ⟨gb, 0, none⟩) l.length cb) b) (hC : Kd.C (Kd.int .u8) w (some ad) l.length l) (hc : l.length ≤ c) (hl : l.length ≤ 1500) (pl at_ n : Int) (hp0 : 0 ≤ pl) (hp1 : pl + 2 ≤ l.length) (ha0 : 0 ≤ at_) (hn0 : 0 ≤ n) (hn4 : n ≤ 4) (han : at_ + n ≤ l.length) :
 Calls Tryz.prog 61 #[.pointer (some ⟨tn, 0, none⟩), .int .i64 pl, .int .i64 at_, .int .i64 n] w fun e w' => e = .returned (.tuple #[]) ∧ Bytes w' W.heap.size (.slice (some ⟨gb, 0, none⟩) l.length cb) (turnF l b pl at_ n) ∧ Chg (fun k => (.slice (some ⟨gb, 0, none⟩) l.length cb : Value).ownBlock = some k) w w' := by
 have hn1 : Go.bits .andNot .i64 at_ 1 = at_ - at_ % 2 := not1 at_ ha0 uY
 have HB := mA (And.intro (And.intro hp0 hp1) (And.intro (And.intro ha0 hn0) (And.intro hn4 han)))
 obtain ⟨i0, hi0⟩ : ∃ i0, i0 = at_ - at_ % 2 := ⟨_, rfl⟩
 obtain ⟨e0, he0⟩ : ∃ e0, e0 = at_ + n := ⟨_, rfl⟩
 have HI := mA hi0
 have HE := mA he0
 rw [← hi0] at hn1
 have hw1 : IntKind.i64.wrap (at_ + n) = e0 := by rw [he0, i64_w, w64 uY uY]
 have hw2 : wrap64 (at_ + n) = e0 := by rw [he0, w64 uY uY]
 have HI2 : Aside0 (0 ≤ i0 ∧ i0 ≤ at_ ∧ at_ ≤ i0 + 1) := ⟨qN⟩
 have hu := Tryz.underlying125
 have HN := mA (Kd.R_reads' hR)
 have HW := mA hB
 have HT := mA hT
 have HR := mA hR
 have HC := mA hC
 have HCC := mA hc
 have HL := mA hl
 have HD := mA (Below.refl w.heap.size w)
 clear hB hT hR hC hc hl hp0 hp1 ha0 hn0 hn4 han hi0 he0
 obtain ⟨d0, d1, d2⟩ := bk3 (HT.out.below HD.out)
 go_enter Tryz.func61, Tryz.ntmps61
 go_wp2_with (first
  | (go_at_call 58; refine (get_n pl 2 HN.out.1 HB.out.1.1 uJ uJ (by have h_ := HB.out; have h2_ := HL.out; omega) (by have h_ := HB.out; omega) (Kd.R_reads' (Kd.R_below HR.out HD.out)).2.2 HN.out.2.1).mono ?_; rintro e_ w1 ⟨rfl, hb_⟩; clear d0 d1 d2; replace HD := mA (below_step HD.out hb_); clear hb_; obtain ⟨d0, d1, d2⟩ := bk3 (HT.out.below HD.out)))
 go_loopg [8, 9] 4 (fun kq v8 v9 w' => ∃ (i s : Int), v8 = .int .i64 s ∧ v9 = .int .i64 i ∧ Aside0 (tl l b e0 kq i s = tl l b e0 4 i0 (gt b pl 2)) ∧ Aside0 (0 ≤ i ∧ e0 ≤ i + 2 * (kq : Int)) ∧ Aside0 (Below w.heap.size w w'))
 case atStart => exact ⟨i0, _, rfl, rfl, ⟨rfl⟩, ⟨HI2.out.1, by have h_ := HI2.out; have h2_ := HB.out; have h3_ := HE.out; omega⟩, HD⟩
 case round =>
  clear HD d0 d1 d2
  obtain ⟨i, s, rfl, rfl, HV, HK, HD⟩ := hrel
  by_cases hlt : i < e0
  ·have HLT := mA hlt
   have hd_ : decide (i < e0) = true := decide_eq_true hlt
   have hw3 : IntKind.i64.wrap (i + 2) = i + 2 := by have h_ := HB.out; have h2_ := HK.out; have h3_ := HE.out; have h4_ := HL.out; rw [i64_w, w64 uY uY]
   clear hlt
   go_upto_region 4 with fail
   replace HD := mA (HD.out.drew)
   refine zT 15 (fun w' => w'.cell? ⟨tn, 0, none⟩ = some (.slice (some ad) l.length c) ∧ w'.cell? ⟨tn, 1, none⟩ = some (.slice (some ⟨gb, 0, none⟩) l.length cb)) ⟨(blk_cell (HT.out.below HD.out) 0).trans rfl, (blk_cell (HT.out.below HD.out) 1).trans rfl⟩ fun hHeld => ?_
   generalize wr.drew = w2 at HD hHeld ⊢
   refine zR [(0,25),(1,26),(2,27),(3,28),(5,30),(7,32),(8,33),(9,34),(11,36),(4,29),(10,35)] 4 ?_ ?_
   refine zO 6 (tf 12 3) fun K hK => ?_
   refine zG Tryz.func96 ((pair_n i rfl (by have h_ := HK.out; omega) (by have h_ := HLT.out; have h2_ := HB.out; have h3_ := HE.out; have h4_ := HL.out; omega) (by have h_ := HLT.out; have h2_ := HB.out; have h3_ := HE.out; omega) (Kd.C_below HC.out HD.out) HCC.out).mono ?_)
   rintro e_ w3 ⟨rfl, hb_⟩
   refine ⟨_, rfl, ?_⟩
   replace HD := mA (below_step HD.out hb_)
   clear hb_ hHeld
   refine hK.out _ _ ⟨(blk_cell (HT.out.below HD.out) 0).trans rfl, (blk_cell (HT.out.below HD.out) 1).trans rfl⟩ (fun hHeld => ?_)
   clear hK K
   refine zN ?_
   refine zO 12 (tf 13 2) fun K hK => ?_
   refine zG Tryz.func96 ((pair_n i HN.out.1 (by have h_ := HK.out; omega) (by have h_ := HLT.out; have h2_ := HB.out; have h3_ := HE.out; have h4_ := HL.out; omega) (by have h_ := HLT.out; have h2_ := HB.out; have h3_ := HE.out; omega) (Kd.R_reads' (Kd.R_below HR.out HD.out)).2.2 HN.out.2.1).mono ?_)
   rintro e_ w4 ⟨rfl, hb_⟩
   refine ⟨_, rfl, ?_⟩
   replace HD := mA (below_step HD.out hb_)
   clear hb_ hHeld
   refine hK.out _ _ ⟨(blk_cell (HT.out.below HD.out) 0).trans rfl, (blk_cell (HT.out.below HD.out) 1).trans rfl⟩ (fun hHeld => ?_)
   clear hK K
   refine zN ?_
   refine zO 13 (tf 14 1) fun K hK => ?_
   refine zG Tryz.func66 ((stn_c s (pr l i) (pr b i) _).mono ?_)
   rintro e_ w5 ⟨rfl, hb_⟩
   refine ⟨_, rfl, ?_⟩
   replace HD := mA (below_step HD.out hb_)
   clear hb_ hHeld
   refine hK.out _ _ ⟨(blk_cell (HT.out.below HD.out) 0).trans rfl, (blk_cell (HT.out.below HD.out) 1).trans rfl⟩ (fun hHeld => ?_)
   clear hK K
   refine zN ?_
   refine zP 14 8 (tf 15 0) ?_
   refine done_ uW ?_
   clear hHeld
   cases gk with
   | zero => exact absurd HK.out.2 (by have h_ := HLT.out; omega)
   | succ k1 =>
    go_wp2_with fail
    go_roundg k1
    case measure => omega
    case rel => exact ⟨i + 2, _, rfl, rfl, ⟨by have h_ := HV.out; rw [tl, if_pos HLT.out] at h_; exact h_⟩, ⟨by have h_ := HK.out; omega, by have h_ := HK.out; omega⟩, HD⟩
  ·have HLT := mA hlt
   have hd_ : decide (i < e0) = false := decide_eq_false hlt
   have HS : Aside0 (s = tl l b e0 4 i0 (gt b pl 2)) := ⟨by have h_ := HV.out; cases gk with
    | zero => exact h_
    | succ k1 => rw [tl, if_neg HLT.out] at h_; exact h_⟩
   clear hlt
   obtain ⟨d0, d1, d2⟩ := bk3 (HT.out.below HD.out)
   go_wp2_with (first
    | (go_at_call 41; refine (put_c pl 2 s HB.out.1.1 uJ uJ (by have h_ := HB.out; have h2_ := HL.out; omega) (by have h_ := HB.out; have h2_ := HN.out; omega) (below_step HW.out HD.out) (Kd.R_below HR.out HD.out)).mono ?_; rintro e_ w6 ⟨rfl, hr_, hg_⟩; have HR2 := mA hr_; have HG := mA hg_; clear hr_ hg_))
   first | go_end0 | ((try simp only [Exit.inBlock, Exit.then]); refine bodyPost_ret (results_none rfl _ _ _) rfl ?_)
   refine ⟨rfl, ?_, (Chg.of_below HD.out _).trans HG.out (fun _ _ h => h)⟩
   have h_ := HR2.out
   rw [HS.out, HE.out, HI.out] at h_
   exact h_
section
section
variable {S : Nat → Prop} {W w w' : World} {L : List (Nat × Nat × Array Value)} {Rs : List (Value × List Int)} {g t : Nat} {cs : Array Value} {v : Value} {l : List Int}
theorem St.add (h : St S W w L Rs) (hb : Blk w g t cs) (hn : W.heap.size ≤ g) (hd : ∀ x ∈ L, x.1 ≠ g) (ht : t ≠ 5) : St S W w ((g, t, cs) :: L) Rs := by
 refine ⟨h.C, fun x hx => ?_, fun x hx => ?_, fun x hx => ?_, ?_, h.R, h.E⟩
 ·rcases List.mem_cons.1 hx with rfl | hx
  ·exact hb
  ·exact h.K x hx
 ·rcases List.mem_cons.1 hx with rfl | hx
  ·exact Or.inr hn
  ·exact h.N x hx
 ·rcases List.mem_cons.1 hx with rfl | hx
  ·exact ht
  ·exact h.T x hx
 ·rw [List.map_cons, List.nodup_cons]
  refine ⟨fun hm => ?_, h.D⟩
  obtain ⟨x, hx, e⟩ := List.mem_map.1 hm
  exact hd x hx e
theorem St.callbr (h : St S W w L Rs) (hg : w.heap.size ≤ g) (hb : Blk w' g t cs) (hr : Bytes w' w.heap.size v l) (hB : Below w.heap.size w w') (ht : t ≠ 5) : St S W w' ((g, t, cs) :: L) ((v, l) :: Rs) :=
 (h.rowb hr hB).add hb (Nat.le_trans h.C.size hg) (fun x hx e => by have := (h.K x hx).lt; omega) ht
theorem bytes_get {W : World} {base g n c : Nat} {xs : List Int} (h : Bytes W base (.slice (some ⟨g, 0, none⟩) n c) xs) (i : Nat) (hi : i < n) : W.cell? ⟨g, i, none⟩ = some (.int .u8 (rd xs (i : Int))) ∧ W.frozen? ⟨g, i, none⟩ = false := by
 have h1 := Kd.R_celln (0 : Int) h (i : Int) (Int.natCast_nonneg i) uY
 rw [Int.toNat_natCast] at h1
 exact h1
theorem bytes_put {W : World} {base g n c : Nat} {xs : List Int} (h : Bytes W base (.slice (some ⟨g, 0, none⟩) n c) xs) (i : Nat) (x : Int) : Bytes (W.setCell ⟨g, i, none⟩ (.int .u8 x)) base (.slice (some ⟨g, 0, none⟩) n c) (xs.set i x) ∧ Chg (fun k => (Value.slice (some ⟨g, 0, none⟩) n c).ownBlock = some k) W (W.setCell ⟨g, i, none⟩ (.int .u8 x)) := by
 obtain ⟨h1, h2⟩ := Kd.R_putg h (i : Int) x
 rw [Int.toNat_natCast] at h1 h2
 exact ⟨h1, (Chg.of_grown h2).mono (fun k hk => by obtain rfl := Option.some.inj hk; rfl)⟩
end
theorem results_tct {fn : Func} {p u v : Tmp} (h : fn.results = #[.tmp u, .cell p 45, .tmp v]) (tmps : Array Value) (w : World) (g : Nat) (cs : Array Value) (hp : tmps.getD p undef = .pointer (some ⟨g, 0, none⟩)) (hb : Blk w g 45 cs) (hs : cs.size = 13) :
 (results fn tmps).run Tryz.prog w = .ok (.tuple #[tmps.getD u undef, .agg cs, tmps.getD v undef]) w :=
 results_list (rs := [.tmp u, .cell p 45, .tmp v]) (vs := [tmps.getD u undef, .agg cs, tmps.getD v undef]) h xU (.tmp (.cell g 45 cs (0, 0) _ hp hb Tryz.underlying45 rfl (by rw [hs]; kernel_rfl) (.tmp .nil)))
theorem body_calls (W w : World) (ad : Addr) (c tn gb cb : Nat) (bare : Bool) (l b : List Int) (hB : Below W.heap.size W w) (hT : Blk w tn 125 #[.slice (some ad) l.length c, .slice (some ⟨gb, 0, none⟩) l.length cb, .bool bare]) (hR : Bytes w W.heap.size (.slice (some ⟨gb, 0, none⟩) l.length cb) b) (hC : Kd.C (Kd.int .u8) w (some ad) l.length l) (hc : l.length ≤ c) (hl : l.length ≤ 1500) (h24 : 24 ≤ l.length) (hy : BY b) (at_ n : Int) (ha0 : 0 ≤ at_) (hn0 : 0 ≤ n) (hn4 : n ≤ 4) (han : at_ + n ≤ l.length) :
 Calls Tryz.prog 97 #[.pointer (some ⟨tn, 0, none⟩), .int .i64 at_, .int .i64 n] w fun e w' => e = .returned (.tuple #[]) ∧ Bytes w' W.heap.size (.slice (some ⟨gb, 0, none⟩) l.length cb) (bodyF bare l b at_ n) ∧ Chg (fun k => (.slice (some ⟨gb, 0, none⟩) l.length cb : Value).ownBlock = some k) w w' := by
 have hu := Tryz.underlying125
 have HN := mA (Kd.R_reads' hR)
 have HW := mA hB
 have HT := mA hT
 have HR := mA hR
 have HC := mA hC
 have HCC := mA hc
 have HL := mA hl
 have H24 := mA h24
 have HY := mA hy
 have HA := mA (And.intro (And.intro ha0 hn0) (And.intro hn4 han))
 have q0a : ((0 : Int) < (l.length : Int)) = True := eq_true uY
 have q0b : (0 < l.length) = True := eq_true uY
 obtain ⟨r0a, r0b⟩ := rd_by hy 0
 have e0 : IntKind.i64.wrap (rd b 0) = rd b 0 := by rw [i64_w, w64 uY uY]
 clear r0a r0b
 have x0 : w.cell? ⟨gb, 0, none⟩ = some (.int .u8 (rd b 0)) := (bytes_get hR 0 uY).1
 have HP : Aside0 (0 ≤ plc (rd b 0) ∧ plc (rd b 0) ≤ 22) := ⟨by unfold plc; split <;> omega⟩
 clear hB hT hR hC hc hl h24 hy ha0 hn0 hn4 han
 cases bare with
 | true =>
  have HBF : Aside0 (bodyF true l b at_ n = b) := ⟨by unfold bodyF; rw [if_pos rfl]⟩
  obtain ⟨d0, d1, d2⟩ := bk3 (HT.out)
  go_enter Tryz.func97, Tryz.ntmps97
  go_wp2
  first | go_end0 | ((try simp only [Exit.inBlock, Exit.then]); refine bodyPost_ret (results_none rfl _ _ _) rfl ?_)
  exact ⟨rfl, by rw [HBF.out]; exact HR.out, Chg.refl _ _⟩
 | false =>
  have HBF : Aside0 (bodyF false l b at_ n = turnF l b (plc (rd b 0)) at_ n) := ⟨by unfold bodyF; rw [if_neg xU]⟩
  obtain ⟨d0, d1, d2⟩ := bk3 (HT.out)
  go_enter Tryz.func97, Tryz.ntmps97
  go_wp2_with (first
   | (go_at_call 43; refine (place_c (rd b 0) _).mono ?_; rintro e_ w1 ⟨rfl, hb_⟩; have HD := mA hb_; clear hb_ d0 d1 d2 x0)
   | (go_at_call 61; refine (turn_calls W _ ad c tn gb cb false l b (below_step HW.out HD.out) (HT.out.below HD.out) (Kd.R_below HR.out HD.out) (Kd.C_below HC.out HD.out) HCC.out HL.out (plc (rd b 0)) at_ n HP.out.1 (by have h_ := HP.out; have h2_ := H24.out; omega) HA.out.1.1 HA.out.1.2 HA.out.2.1 HA.out.2.2).mono ?_; rintro e_ w2 ⟨rfl, hr_, hg_⟩; have HR2 := mA hr_; have HG := mA hg_; clear hr_ hg_))
  first | go_end0 | ((try simp only [Exit.inBlock, Exit.then]); refine bodyPost_ret (results_none rfl _ _ _) rfl ?_)
  exact ⟨rfl, by rw [HBF.out]; exact HR2.out, (Chg.of_below HD.out _).trans HG.out (fun _ _ h => h)⟩
theorem done_calls (W w : World) (ad : Addr) (c tn gb cb : Nat) (bare : Bool) (l b : List Int) (hB : Below W.heap.size W w) (hT : Blk w tn 125 #[.slice (some ad) l.length c, .slice (some ⟨gb, 0, none⟩) l.length cb, .bool bare]) (hR : Bytes w W.heap.size (.slice (some ⟨gb, 0, none⟩) l.length cb) b) (hC : Kd.C (Kd.int .u8) w (some ad) l.length l) (hc : l.length ≤ c) (hl : l.length ≤ 1500) (h24 : 24 ≤ l.length) (hy : BY b) :
 Calls Tryz.prog 62 #[.pointer (some ⟨tn, 0, none⟩)] w fun e w' => e = .returned (.slice (some ⟨gb, 0, none⟩) l.length cb) ∧ Bytes w' W.heap.size (.slice (some ⟨gb, 0, none⟩) l.length cb) (doneF bare b) ∧ Chg (fun k => (.slice (some ⟨gb, 0, none⟩) l.length cb : Value).ownBlock = some k) w w' := by
 have hu := Tryz.underlying125
 have HN := mA (Kd.R_reads' hR)
 have HW := mA hB
 have HT := mA hT
 have HR := mA hR
 have HC := mA hC
 have HCC := mA hc
 have HL := mA hl
 have H24 := mA h24
 have HY := mA hy
 have q0a : ((0 : Int) < (l.length : Int)) = True := eq_true uY
 have q0b : (0 < l.length) = True := eq_true uY
 obtain ⟨r0a, r0b⟩ := rd_by hy 0
 have e0 : IntKind.i64.wrap (rd b 0) = rd b 0 := by rw [i64_w, w64 uY uY]
 clear r0a r0b
 have x0 : w.cell? ⟨gb, 0, none⟩ = some (.int .u8 (rd b 0)) := (bytes_get hR 0 uY).1
 clear hB hT hR hC hc hl h24 hy
 have HD := mA (Below.refl w.heap.size w)
 by_cases h2 : rd b 0 = 2
 ·have k2 : (rd b 0 == 2) = true := beq_iff_eq.2 h2
  cases bare with
  | true =>
   have HDF : Aside0 (doneF true b = b) := ⟨by unfold doneF; rw [if_neg xU]⟩
   clear h2
   obtain ⟨d0, d1, d2⟩ := bk3 (HT.out)
   go_enter Tryz.func62, Tryz.ntmps62
   go_wp2_with fail
   go_ret
   exact yW
  | false =>
   by_cases h0 : gt b 22 2 = 0
   ·skip
    have HDF : Aside0 (doneF false b = pt b 22 2 65535) := ⟨by unfold doneF; rw [if_pos ⟨h2, rfl, h0⟩]⟩
    have k0 : (gt b 22 2 == 0) = true := beq_iff_eq.2 h0
    clear h2 h0
    obtain ⟨d0, d1, d2⟩ := bk3 (HT.out)
    go_enter Tryz.func62, Tryz.ntmps62
    go_wp2_with (first
     | (go_at_call 58; refine (get_n 22 2 HN.out.1 uJ uJ uJ uJ (by have h_ := H24.out; omega) (Kd.R_reads' (Kd.R_below HR.out HD.out)).2.2 HN.out.2.1).mono ?_; rintro e_ w1 ⟨rfl, hb_⟩; clear d0 d1 d2 x0; replace HD := mA (below_step HD.out hb_); clear hb_; obtain ⟨d0, d1, d2⟩ := bk3 (HT.out.below HD.out))
     | (go_at_call 41; refine (put_c 22 2 65535 uJ uJ uJ uJ (by have h_ := H24.out; have h2_ := HN.out; omega) (below_step HW.out HD.out) (Kd.R_below HR.out HD.out)).mono ?_; rintro e_ w2 ⟨rfl, hr_, hg_⟩; clear d0 d1 d2; have HR2 := mA hr_; have HG := mA hg_; have HT2 : Aside0 (Blk w2 tn 125 #[.slice (some ad) l.length c, .slice (some ⟨gb, 0, none⟩) l.length cb, .bool false]) := ⟨hg_.blk (HT.out.below HD.out) (fun e => Kd.R_ne HR.out HT.out uJ e.symm)⟩; clear hr_ hg_; obtain ⟨d0, d1, d2⟩ := bk3 (HT2.out)))
    go_ret
    exact ⟨rfl, by rw [HDF.out]; exact HR2.out, (Chg.of_below HD.out _).trans HG.out (fun _ _ h => h)⟩
   ·skip
    have HDF : Aside0 (doneF false b = b) := ⟨by unfold doneF; rw [if_neg (fun h => h0 h.2.2)]⟩
    have k0 : (gt b 22 2 == 0) = false := beq_eq_false_iff_ne.2 h0
    clear h2 h0
    obtain ⟨d0, d1, d2⟩ := bk3 (HT.out)
    go_enter Tryz.func62, Tryz.ntmps62
    go_wp2_with (first
     | (go_at_call 58; refine (get_n 22 2 HN.out.1 uJ uJ uJ uJ (by have h_ := H24.out; omega) (Kd.R_reads' (Kd.R_below HR.out HD.out)).2.2 HN.out.2.1).mono ?_; rintro e_ w1 ⟨rfl, hb_⟩; clear d0 d1 d2 x0; replace HD := mA (below_step HD.out hb_); clear hb_; obtain ⟨d0, d1, d2⟩ := bk3 (HT.out.below HD.out)))
    go_ret
    exact yW
 ·have k2 : (rd b 0 == 2) = false := beq_eq_false_iff_ne.2 h2
  have HDF : Aside0 (doneF bare b = b) := ⟨by unfold doneF; rw [if_neg (fun h => h2 h.1)]⟩
  clear h2
  obtain ⟨d0, d1, d2⟩ := bk3 (HT.out)
  go_enter Tryz.func62, Tryz.ntmps62
  go_wp2_with fail
  go_ret
  exact yW
theorem parse_c (A : Option Addr) (c : Nat) (l : List Int) (W : World) (hC : Kd.C (Kd.int .u8) W A l.length l) (hc : l.length ≤ c) (hb : BY l) {er : Int} {p : PK} (hp : parse l = (er, p)) :
 Calls Tryz.prog 24 #[.slice A l.length c] W fun e w' => ∃ (Ao : Option Addr) (no co : Nat) (Ad : Option Addr) (nd cd : Nat), e = .returned (.tuple #[.agg (p.cells (.slice Ao no co) (.slice Ad nd cd)), .int .i64 er]) ∧ Bytes w' W.heap.size (.slice Ao no co) p.opts ∧ Bytes w' W.heap.size (.slice Ad nd cd) p.data ∧ Below W.heap.size W w' := by
 refine (parse_calls A c l W hC hc hb).mono ?_
 rw [hp]
 rintro e w' ⟨vo, vd, rfl, ho, hd, hB⟩
 obtain ⟨Ao, co, rfl⟩ := Kd.R_slice ho
 obtain ⟨Ad, cd, rfl⟩ := Kd.R_slice hd
 exact ⟨Ao, _, co, Ad, _, cd, rfl, ho, hd, hB⟩
theorem parse_zero {l : List Int} {p : PK} (hp : parse l = (0, p)) (hb : BY l) : hd l = 0 ∧ 24 ≤ l.length ∧ l.length ≤ 1500 ∧ p.kind = rd l 0 ∧ p.life = rd l 1 ∧ (p.kind = 3 → 44 ≤ l.length ∧ 24 ≤ p.data.length) ∧ 1 ≤ p.kind ∧ p.kind ≤ 3 := by
 have h0 : hd l = 0 := by
  by_cases h : hd l = 0
  ·exact h
  ·unfold parse at hp
   rw [if_neg h] at hp
   exact absurd (Prod.mk.inj hp).1 h
 obtain ⟨h1, h2, h3, h4, h5⟩ := (head_all hb).2 h0
 unfold parse at hp
 rw [if_pos h0] at hp
 refine ⟨h0, h1, h2, ?_⟩
 split at hp
 ·rename_i hk
  split at hp
  ·obtain rfl := (Prod.mk.inj hp).2
   exact ⟨rfl, rfl, fun _ => ⟨h5 hk, by rw [List.length_drop]; have := h5 hk; omega⟩, h3, h4⟩
  ·exact absurd (Prod.mk.inj hp).1 uJ
 ·rename_i hk
  split at hp
  ·obtain rfl := (Prod.mk.inj hp).2
   exact ⟨rfl, rfl, fun h => absurd h hk, h3, h4⟩
  ·split at hp
   ·exact absurd (Prod.mk.inj hp).1 uJ
   ·obtain rfl := (Prod.mk.inj hp).2
    exact ⟨rfl, rfl, fun h => absurd h hk, h3, h4⟩
theorem some_ad {A : Option Addr} {l : List Int} {w : World} (hC : Kd.C (Kd.int .u8) w A l.length l) (h : 24 ≤ l.length) : ∃ ad, A = some ad := by
 obtain ⟨ad, e, _⟩ := Kd.at_int hC 0 uJ uY
 exact ⟨ad, e⟩
theorem begin_err (A : Option Addr) (c : Nat) (l : List Int) (W : World) (hC : Kd.C (Kd.int .u8) W A l.length l) (hc : l.length ≤ c) (hb : BY l) {er : Int} {p : PK} (hp : parse l = (er, p)) (h0 : er ≠ 0) : Calls Tryz.prog 60 #[.slice A l.length c] W fun e w' => ∃ (Ao : Option Addr) (no co : Nat) (Ad : Option Addr) (nd cd : Nat), e = .returned (.tuple #[.pointer none, .agg (p.cells (.slice Ao no co) (.slice Ad nd cd)), .int .i64 er]) ∧ Below W.heap.size W w' := by
 have hu58 := Tryz.underlying45
 have hn : (er == 0) = false := beq_eq_false_iff_ne.2 h0
 have hn2 : (er != 0) = true := by simp [h0]
 obtain ⟨k1, k2, k3, k4, k5, k6, k7, k8, k9, k10, k11, k12, k13⟩ := p
 have HP := mA hp
 have HC := mA hC
 have HCC := mA hc
 have HY := mA hb
 have HS : Aside0 (St (fun _ => False) W W [] []) := ⟨St.init _ _⟩
 clear hC hc hb h0 hp
 go_enter Tryz.func60, Tryz.ntmps60
 go_upto_region 3 with (first
  | (refine zB 3 HS (run_pk _ _ _ rfl) ?_; clear HS; intro tr w1 HS z_; clear z_)
  | (go_at_call 24; refine (parse_c A c l _ (Kd.C_below HC.out HS.nb) HCC.out HY.out HP.out).mono ?_; rintro e_ w2 ⟨Ao, no, co, Ad, nd, cd, rfl, ho_, hd_, hb_⟩; clear ho_ hd_; replace HS := HS.bl hb_; clear hb_)
  | (refine zB 5 HS (run_pk _ _ _ rfl) ?_; clear HS; intro g w3 HS z_; clear z_)
  | (refine zS 45 5 HS 0 (cells := #[.int .i64 k1, .int .i64 k2, .int .i64 k3, .int .i64 k4, .int .i64 k5, .int .i64 k6, .int .i64 k7, .int .i64 k8, .int .i64 k9, .bool k10, .int .i64 k11, .slice Ao no co, .slice Ad nd cd]) ?_; clear HS; intro w4 HS z_; clear z_))
 replace HS := HS.dr
 refine start_ (n := 5) (S := fun w' => Blk w' g 45 #[.int .i64 k1, .int .i64 k2, .int .i64 k3, .int .i64 k4, .int .i64 k5, .int .i64 k6, .int .i64 k7, .int .i64 k8, .int .i64 k9, .bool k10, .int .i64 k11, .slice Ao no co, .slice Ad nd cd]) (ds := []) (tf 0 5) uW rfl rfl HS.b0 (fun hHeld => ?_)
 generalize w4.drew = w5 at HS hHeld ⊢
 refine run_ [(1, 15), (2, 2), (0, 14)] (fuel := 2) (a2 := ?_) rfl uW (fun _ _ _ _ _ h => h) hHeld ?_ ?_
 rotate_left
 ·iterate 2
   refine Steps.on (v := ?_) (a1 := ?_) rfl rfl (by rfl) ?_ ?_ ?_
   rotate_left
   ·intro w' _
    go_simp
    with_reducible rfl
   rotate_left
   ·exact zU
  refine Steps.on (v := ?_) (a1 := ?_) rfl rfl (by rfl) ?_ ?_ ?_
  rotate_left
  ·intro w' hs
   refine (run_ldpk _ _ w' g #[.int .i64 k1, .int .i64 k2, .int .i64 k3, .int .i64 k4, .int .i64 k5, .int .i64 k6, .int .i64 k7, .int .i64 k8, .int .i64 k9, .bool k10, .int .i64 k11, .slice Ao no co, .slice Ad nd cd] (.tmp 5) ?_ ?_ hs rfl).trans ?_
   ·rfl
   ·rfl
   ·with_reducible rfl
  rotate_left
  ·exact zU
  exact Steps.end_
 refine zo 3 (tf 4 1) fun K hK => ?_
 refine zW 45 HS 1 ?_
 clear HS hHeld
 intro w6 HS
 refine hK.out _ _ HS.b0 (fun hHeld => ?_)
 clear hK K
 refine zP 4 4 (tf 5 0) ?_
 refine done_ uW ?_
 clear hHeld
 go_wp2_with fail
 refine bodyPost_ret (results_tct rfl _ _ tr #[.int .i64 k1, .int .i64 k2, .int .i64 k3, .int .i64 k4, .int .i64 k5, .int .i64 k6, .int .i64 k7, .int .i64 k8, .int .i64 k9, .bool k10, .int .i64 k11, .slice Ao no co, .slice Ad nd cd] rfl HS.b1 rfl) rfl ?_
 exact ⟨Ao, no, co, Ad, nd, cd, rfl, HS.nb⟩
theorem begin_ok (ad : Addr) (c : Nat) (l : List Int) (W : World) (hC : Kd.C (Kd.int .u8) W (some ad) l.length l) (hc : l.length ≤ c) (hb : BY l) {p : PK} (hp : parse l = (0, p)) : Calls Tryz.prog 60 #[.slice (some ad) l.length c] W fun e w' => ∃ (tn gb cb : Nat) (Ao : Option Addr) (no co : Nat) (Ad : Option Addr) (nd cd : Nat), e = .returned (.tuple #[.pointer (some ⟨tn, 0, none⟩), .agg (p.cells (.slice Ao no co) (.slice Ad nd cd)), .int .i64 0]) ∧ Blk w' tn 125 #[.slice (some ad) l.length c, .slice (some ⟨gb, 0, none⟩) l.length cb, .bool p.bare] ∧ Bytes w' W.heap.size (.slice (some ⟨gb, 0, none⟩) l.length cb) l ∧ W.heap.size ≤ tn ∧ Below W.heap.size W w' := by
 have hu58 := Tryz.underlying45
 have hu125 := Tryz.underlying125
 have HZ := mA (parse_zero hp hb)
 obtain ⟨k1, k2, k3, k4, k5, k6, k7, k8, k9, k10, k11, k12, k13⟩ := p
 have HP := mA hp
 have HC := mA hC
 have HCC := mA hc
 have HY := mA hb
 have HS : Aside0 (St (fun _ => False) W W [] []) := ⟨St.init _ _⟩
 clear hC hc hb hp
 go_enter Tryz.func60, Tryz.ntmps60
 go_upto_region 4 with (first
  | (refine zB 3 HS (run_pk _ _ _ rfl) ?_; clear HS; intro tr w1 HS z_; clear z_)
  | (go_at_call 24; refine (parse_c (some ad) c l _ (Kd.C_below HC.out HS.nb) HCC.out HY.out HP.out).mono ?_; rintro e_ w2 ⟨Ao, no, co, Ad, nd, cd, rfl, ho_, hd_, hb_⟩; clear ho_ hd_; replace HS := HS.bl hb_; clear hb_)
  | (refine zB 5 HS (run_pk _ _ _ rfl) ?_; clear HS; intro g w3 HS z_; clear z_)
  | (refine zS 45 5 HS 0 (cells := #[.int .i64 k1, .int .i64 k2, .int .i64 k3, .int .i64 k4, .int .i64 k5, .int .i64 k6, .int .i64 k7, .int .i64 k8, .int .i64 k9, .bool k10, .int .i64 k11, .slice Ao no co, .slice Ad nd cd]) ?_; clear HS; intro w4 HS z_; clear z_))
 replace HS := HS.dr
 refine zT 11 (fun w' => Blk w' g 45 #[.int .i64 k1, .int .i64 k2, .int .i64 k3, .int .i64 k4, .int .i64 k5, .int .i64 k6, .int .i64 k7, .int .i64 k8, .int .i64 k9, .bool k10, .int .i64 k11, .slice Ao no co, .slice Ad nd cd] ∧ w'.cell? ⟨g, 9, none⟩ = some (.bool k10)) ⟨HS.b0, HS.c 0 9⟩ fun hHeld => ?_
 generalize w4.drew = w5 at HS hHeld ⊢
 refine run_ [(0, 16), (1, 17), (3, 19), (4, 20), (7, 23)] (fuel := 6) (a2 := ?_) rfl uW (fun _ _ _ _ _ h => h) hHeld ?_ ?_
 rotate_left
 ·iterate 4
   refine Steps.on (v := ?_) (a1 := ?_) rfl rfl (by rfl) ?_ ?_ ?_
   rotate_left
   ·rintro w' ⟨s0, s1⟩
    go_simp
    with_reducible rfl
   rotate_left
   ·exact zU
  refine Steps.on (v := ?_) (a1 := ?_) rfl rfl (by rfl) ?_ ?_ ?_
  rotate_left
  ·intro w' hs
   refine (run_ldpk _ _ w' g #[.int .i64 k1, .int .i64 k2, .int .i64 k3, .int .i64 k4, .int .i64 k5, .int .i64 k6, .int .i64 k7, .int .i64 k8, .int .i64 k9, .bool k10, .int .i64 k11, .slice Ao no co, .slice Ad nd cd] (.tmp 5) ?_ ?_ hs.1 rfl).trans ?_
   ·rfl
   ·rfl
   ·with_reducible rfl
  rotate_left
  ·exact zU
  exact Steps.end_
 refine zO 2 (mb 11 159) fun K hK => ?_
 refine zG Tryz.func59 ((clone_calls (some ad) c l _ (Kd.C_below HC.out HS.nb) HCC.out xC).mono ?_)
 rintro e_ w6 ⟨vb, rfl, hR_, hb_⟩
 obtain ⟨gb, cb, rfl, _, _, _⟩ := Kd.R_form hR_ xC
 refine ⟨_, rfl, ?_⟩
 replace HS := HS.rw_ hR_ hb_
 clear hR_ hb_ hHeld
 refine hK.out _ _ ⟨HS.b0, HS.c 0 9⟩ (fun hHeld => ?_)
 clear hK K
 refine zN ?_
 refine zP 5 21 (mb 11 191) ?_
 refine zO 6 (tf 8 3) fun K hK => ?_
 refine box_step (by rfl) (N := 22) rfl (cs := #[.slice (some ad) l.length c, .slice (some ⟨gb, 0, none⟩) l.length cb, .bool k10]) (t := 125) uA ?_
 intro tn hg_ w7 hbx_ hb_
 have HTN : Aside0 (W.heap.size ≤ tn) := ⟨by rw [hg_]; exact HS.out.C.size⟩
 replace HS := mA (HS.out.new hg_ hbx_ hb_ uJ)
 clear hg_ hbx_ hb_ hHeld
 refine hK.out _ _ ⟨HS.b1, HS.c 1 9⟩ (fun hHeld => ?_)
 clear hK K
 refine zN ?_
 refine zP 8 2 (tf 9 2) ?_
 refine zo 9 (tf 10 1) fun K hK => ?_
 refine zW 45 HS 2 ?_
 clear HS hHeld
 intro w8 HS
 refine hK.out _ _ ⟨HS.b1, HS.c 1 9⟩ (fun hHeld => ?_)
 clear hK K
 refine zP 10 4 (tf 11 0) ?_
 refine done_ uW ?_
 clear hHeld
 go_wp2_with fail
 refine bodyPost_ret (results_tct rfl _ _ tr #[.int .i64 k1, .int .i64 k2, .int .i64 k3, .int .i64 k4, .int .i64 k5, .int .i64 k6, .int .i64 k7, .int .i64 k8, .int .i64 k9, .bool k10, .int .i64 k11, .slice Ao no co, .slice Ad nd cd] rfl HS.b2 rfl) rfl ?_
 exact ⟨tn, gb, cb, Ao, no, co, Ad, nd, cd, rfl, HS.b0, HS.out.row 0 rfl, HTN.out, HS.nb⟩
end
end Go.Proofs.YtkpfojpmigchlaaGreat.Own
