/- Parts of the proof of TopSwap, laid together and made shorter by a program of this claim. -/
import Derived.Test.YtkpfojpmigchlaaGreatK11
import Derived.Test.YtkpfojpmigchlaaGreatK01
import Derived.Test.YtkpfojpmigchlaaGreatK03
import Derived.Test.YtkpfojpmigchlaaGreatK05
import Derived.Test.YtkpfojpmigchlaaGreatK07
import Derived.Test.YtkpfojpmigchlaaGreatK04
set_option linter.unusedVariables false
set_option linter.unusedSimpArgs false
namespace Go.Proofs.YtkpfojpmigchlaaGreat.Own
open Go Go.RowKit Go.Proofs.YtkpfojpmigchlaaGreatW.PrintWords Go.Proofs.YtkpfojpmigchlaaGreatW.PrintMore Go.Proofs.YtkpfojpmigchlaaGreatW.PrintLast Go.Proofs.YtkpfojpmigchlaaGreat.Q
open Go.Proofs.YtkpfojpmigchlaaGreat.Zip
open Go.Proofs.YtkpfojpmigchlaaGreat.Zap
section
set_option maxHeartbeats 16000000
set_option maxRecDepth 100000
section
variable {S : Nat → Prop} {W w : World} {L : List (Nat × Nat × Array Value)} {Rs : List (Value × List Int)} {ops : Array Oper} {rest : List Oper} {o : Oper} {a : Act} {Q : Exit → Act → World → Prop} {g t : Nat} {cs : Array Value}
theorem lit8_event (HS : St S W w L Rs) {N : Tmp} (hgd : o.guard = none) (hd : o.dst = some N) (cs : Array Value) (hr : (execOp a.eval o).run Tryz.prog w = .ok (.value (.slice (some ⟨w.heap.size, 0, none⟩) 8 8)) (w.alloc (.cells cs 3)))
 (h : ∀ g w1, St S W w1 ((g, 3, cs) :: L) Rs → wpList Tryz.prog ops Q rest (a.put o.dst (.slice (some ⟨g, 0, none⟩) 8 8)) w1) : wpList Tryz.prog ops Q (o :: rest) a w :=
 Kd.event_run hgd hr (h _ _ (HS.new rfl (blk_new w _) (below_alloc (Below.refl _ _) _) uJ))
theorem sb_event {n c j : Nat} {l : List Int} (HS : St S W w L Rs) (i : Nat) (hi : Rs[i]? = some (.slice (some ⟨g, 0, none⟩) n c, l)) (hgd : o.guard = none) (hN : o.dst = none) (px py : Operand) (ho : o.op = .store 5 px py) (hx : a.eval px = .pointer (some ⟨g, j, none⟩)) {x : Int} (hy : a.eval py = .int .u8 x) (hj : j < n) (h : ∀ w', St S W w' L (Rs.set i (.slice (some ⟨g, 0, none⟩) n c, l.set j x)) → wpList Tryz.prog ops Q rest a w') : wpList Tryz.prog ops Q (o :: rest) a w := by
 refine wpList_plain hgd fun K hK => ?_
 unfold Oper.wp
 rw [run_st8 _ _ _ g j x _ px py ho hx hy (bytes_get (HS.row i hi) j hj).1 (bytes_get (HS.row i hi) j hj).2]
 show K (a.put o.dst undef) _
 rw [hN]
 exact hK _ _ (h _ (HS.setb i hi j x))
end
theorem build3_nil (kd life piece frm dst fp tp flags label code : Int) (bare : Bool) (Ad : Option Addr) (cd : Nat) (ld : List Int) (W : World) (hD : Bytes W 0 (.slice Ad ld.length cd) ld) (hyd : BY ld) (hnd : ld.length ≤ 2000) : Calls Tryz.prog 33 #[.agg #[.int .i64 kd, .int .i64 life, .int .i64 piece, .int .i64 frm, .int .i64 dst, .int .i64 fp, .int .i64 tp, .int .i64 flags, .int .i64 label, .bool bare, .int .i64 code, .slice none 0 0, .slice Ad ld.length cd]] W fun e w' => B3 W e w' :=
 build3_calls kd life piece frm dst fp tp flags label code bare none 0 [] Ad cd ld W (Kd.R_nil _ _ _ _ _) hD BY.nil hyd uJ hnd
theorem some_calls (p : PL) (hp : p.sl.length = 64) (n m : Int) (W : World) : Calls Tryz.prog 9 #[.agg (pcs p), .int .i64 n, .int .i64 m] W fun e w' => ∃ (A : Option Addr) (nb c : Nat) (l : List Int), e = .returned (.slice A nb c) ∧ nb = l.length ∧ BY l ∧ Bytes w' W.heap.size (.slice A nb c) l ∧ Below W.heap.size W w' := by
 have hu45 := Tryz.underlying45
 have hu33 := pool33
 have HP := mA hp
 have HS : Aside0 (St (fun _ => False) W W [] []) := ⟨St.init _ _⟩
 clear hp
 go_enter Tryz.func9, Tryz.ntmps9
 go_upto_region 3 with (first
  | ((with_reducible refine zd 3 ?_); refine pl_box rfl rfl rfl ?_; intro tp_ hg_ _ hbx_ hb_; replace HS := HS.nw hg_ hbx_ hb_; clear hg_ hbx_ hb_)
  | (refine zB 8 HS (run_pk _ _ _ rfl) ?_; clear HS; intro gx _ HS z_; clear z_)
  | (go_at_call 31; refine (within9_c _ _ uJ uJ _).mono ?_; rintro e_ _ ⟨rfl, hb_⟩; replace HS := HS.bl hb_; clear hb_))
 obtain ⟨k, hk⟩ : ∃ k, k = n % 1125899906842624 := ⟨_, rfl⟩
 have HK : Aside0 (0 ≤ k ∧ k < 1125899906842624) := ⟨by rw [hk]; omega⟩
 rw [← hk]
 clear hk
 obtain ⟨q8, e8_, hq8, hq8b⟩ := qdiv HK.out 8 uJ
 have HQ8 := mA (And.intro hq8 hq8b)
 clear hq8 hq8b
 obtain ⟨q40, e40_, hq40, hq40b⟩ := qdiv HK.out 40 uJ
 have HQ40 := mA (And.intro hq40 hq40b)
 clear hq40 hq40b
 obtain ⟨q360, e360_, hq360, hq360b⟩ := qdiv HK.out 360 uJ
 have HQ360 := mA (And.intro hq360 hq360b)
 clear hq360 hq360b
 obtain ⟨q64, e64_, hq64, hq64b⟩ := qdiv HK.out 64 uJ
 have HQ64 := mA (And.intro hq64 hq64b)
 clear hq64 hq64b
 obtain ⟨sw, esw_, hsw1, hsw2⟩ := rmod HK.out.1 8 uJ
 have Hsw := mA (And.intro hsw1 hsw2)
 clear hsw1 hsw2
 obtain ⟨r23, er23_, hr231, hr232⟩ := rmod HQ64.out.1 23 uJ
 have Hr23 := mA (And.intro hr231 hr232)
 clear hr231 hr232
 obtain ⟨r11, er11_, hr111, hr112⟩ := rmod HQ64.out.1 11 uJ
 have Hr11 := mA (And.intro hr111 hr112)
 clear hr111 hr112
 rcases (show sw = 0 ∨ sw = 1 ∨ sw = 2 ∨ sw = 3 ∨ sw = 4 ∨ sw = 5 ∨ sw = 6 ∨ sw = 7 from by have h_ := Hsw.out; omega) with rfl | rfl | rfl | rfl | rfl | rfl | rfl | rfl
 iterate 3
  ·skip
   go_upto_region 19 with (first
    | ((with_reducible refine zd 40 ?_); refine pl_load (N := 40) rfl rfl (.tmp 3) rfl rfl HS.b1 HP.out ?_)
    | (go_at_call 10; refine (in9_calls p HP.out _ _ _).mono ?_; rintro e_ _ ⟨kd, life, piece, frm, dst, fp, tp, flags, label, code, bare, Ao, no, co, Ad, nd, cd, lo, ld, rfl, hno_, hnd_, _, hyo_, hyd_, h1_, h2_, hr1_, hr2_, hap_, hb_⟩; subst hno_; subst hnd_; have HPK : Aside0 (BY lo ∧ BY ld ∧ lo.length ≤ 1500 ∧ ld.length ≤ 1500) := ⟨⟨hyo_, hyd_, qN, qN⟩⟩; replace HS := mA (HS.out.rowb2 hr1_ hr2_ hap_ hb_); clear hyo_ hyd_ h1_ h2_ hr1_ hr2_ hap_ hb_)
    | (refine zS 45 8 HS 0 ?_; clear HS; intro _ HS z_; clear z_))
   have HS2 : Aside0 (∃ (kd life piece frm dst fp tp flags label code : Int) (bare : Bool), St (fun _ => False) W _ [(gx, 45, #[.int .i64 kd, .int .i64 life, .int .i64 piece, .int .i64 frm, .int .i64 dst, .int .i64 fp, .int .i64 tp, .int .i64 flags, .int .i64 label, .bool bare, .int .i64 code, .slice Ao lo.length co, .slice Ad ld.length cd]), (tp_, 33, pcs p)] [(.slice Ao lo.length co, lo), (.slice Ad ld.length cd, ld)]) := ⟨⟨_, _, _, _, _, _, _, _, _, _, _, HS.out⟩⟩
   obtain ⟨kd, life, piece, frm, dst, fp, tp, flags, label, code, bare, h_⟩ := HS2.out
   clear HS HS2
   have HS := mA h_
   clear h_
   cases c1 : (r23 == 0) <;> cases c2 : (r11 == 0) <;>
   (go_upto_region 22 with (first
    | ((with_reducible refine zst 3 94 ?_); refine sc3_event HS.out 0 rfl rfl rfl (.tmp 94) _ rfl 2 rfl rfl rfl ?_; intro _ h1_; replace HS := mA h1_; simp only [List.setIfInBounds_toArray, List.set_cons_zero, List.set_cons_succ] at HS; clear h1_)
    | ((with_reducible refine zd 96 ?_); refine Kd.event_run rfl (run_ldpk _ _ _ gx _ (.tmp 8) rfl rfl HS.b0 rfl) ?_)
    | (go_at_call 33; refine (build3_calls _ _ _ _ _ _ _ _ _ _ _ Ao co lo Ad cd ld _ (Kd.R_lower HS.r0 (Nat.zero_le _)) (Kd.R_lower HS.r1 (Nat.zero_le _)) HPK.out.1 HPK.out.2.1 xE xE).mono ?_; rintro e_ _ ⟨Ab, nb, cb, lb, eb, rfl, hn_, hm_, hyb_, hrb_, hb_⟩; subst hn_; have HLB : Aside0 (BY lb ∧ lb.length ≤ 1500) := ⟨⟨hyb_, hm_⟩⟩; replace HS := HS.rw_ hrb_ hb_; clear hyb_ hm_ hrb_ hb_))
    by_cases hz : 0 < lb.length
    ·exact jA
    ·skip
     have z1 : decide (0 < (lb.length : Int)) = false := decide_eq_false uY
     have z1b : decide (0 < lb.length) = false := decide_eq_false hz
     have z1c : (0 < lb.length) = False := eq_false hz
     clear hz
     go_wp2_with fail
     go_ret
     exact ⟨_, _, _, lb, rfl, rfl, HLB.out.1, HS.out.row 0 rfl, HS.nb⟩)
 iterate 3
  ·skip
   go_upto_region 19 with (first
    | ((with_reducible refine zd 49 ?_); refine pl_load (N := 49) rfl rfl (.tmp 3) rfl rfl HS.b1 HP.out ?_)
    | (go_at_call 32; refine (out9_calls p HP.out _ _ _).mono ?_; rintro e_ _ ⟨kd, life, piece, frm, dst, fp, tp, flags, label, code, bare, Ao, no, co, Ad, nd, cd, lo, ld, rfl, hno_, hnd_, _, hyo_, hyd_, h1_, h2_, hr1_, hr2_, hap_, hb_⟩; subst hno_; subst hnd_; have HPK : Aside0 (BY lo ∧ BY ld ∧ lo.length ≤ 1500 ∧ ld.length ≤ 1500) := ⟨⟨hyo_, hyd_, qN, qN⟩⟩; replace HS := mA (HS.out.rowb2 hr1_ hr2_ hap_ hb_); clear hyo_ hyd_ h1_ h2_ hr1_ hr2_ hap_ hb_)
    | (refine zS 45 8 HS 0 ?_; clear HS; intro _ HS z_; clear z_))
   have HS2 : Aside0 (∃ (kd life piece frm dst fp tp flags label code : Int) (bare : Bool), St (fun _ => False) W _ [(gx, 45, #[.int .i64 kd, .int .i64 life, .int .i64 piece, .int .i64 frm, .int .i64 dst, .int .i64 fp, .int .i64 tp, .int .i64 flags, .int .i64 label, .bool bare, .int .i64 code, .slice Ao lo.length co, .slice Ad ld.length cd]), (tp_, 33, pcs p)] [(.slice Ao lo.length co, lo), (.slice Ad ld.length cd, ld)]) := ⟨⟨_, _, _, _, _, _, _, _, _, _, _, HS.out⟩⟩
   obtain ⟨kd, life, piece, frm, dst, fp, tp, flags, label, code, bare, h_⟩ := HS2.out
   clear HS HS2
   have HS := mA h_
   clear h_
   cases c1 : (r23 == 0) <;> cases c2 : (r11 == 0) <;>
   (go_upto_region 22 with (first
    | ((with_reducible refine zst 3 94 ?_); refine sc3_event HS.out 0 rfl rfl rfl (.tmp 94) _ rfl 2 rfl rfl rfl ?_; intro _ h1_; replace HS := mA h1_; simp only [List.setIfInBounds_toArray, List.set_cons_zero, List.set_cons_succ] at HS; clear h1_)
    | ((with_reducible refine zd 96 ?_); refine Kd.event_run rfl (run_ldpk _ _ _ gx _ (.tmp 8) rfl rfl HS.b0 rfl) ?_)
    | (go_at_call 33; refine (build3_calls _ _ _ _ _ _ _ _ _ _ _ Ao co lo Ad cd ld _ (Kd.R_lower HS.r0 (Nat.zero_le _)) (Kd.R_lower HS.r1 (Nat.zero_le _)) HPK.out.1 HPK.out.2.1 xE xE).mono ?_; rintro e_ _ ⟨Ab, nb, cb, lb, eb, rfl, hn_, hm_, hyb_, hrb_, hb_⟩; subst hn_; have HLB : Aside0 (BY lb ∧ lb.length ≤ 1500) := ⟨⟨hyb_, hm_⟩⟩; replace HS := HS.rw_ hrb_ hb_; clear hyb_ hm_ hrb_ hb_))
    by_cases hz : 0 < lb.length
    ·exact jA
    ·skip
     have z1 : decide (0 < (lb.length : Int)) = false := decide_eq_false uY
     have z1b : decide (0 < lb.length) = false := decide_eq_false hz
     have z1c : (0 < lb.length) = False := eq_false hz
     clear hz
     go_wp2_with fail
     go_ret
     exact ⟨_, _, _, lb, rfl, rfl, HLB.out.1, HS.out.row 0 rfl, HS.nb⟩)
 ·skip
  obtain ⟨r5, er5_, hr51, hr52⟩ := rmod HQ8.out.1 5 uJ
  have Hr5 := mA (And.intro hr51 hr52)
  clear hr51 hr52
  obtain ⟨r40, er40_, hr401, hr402⟩ := rmod HQ40.out.1 9 uJ
  have Hr40 := mA (And.intro hr401 hr402)
  clear hr401 hr402
  obtain ⟨r360, er360_, hr3601, hr3602⟩ := rmod HQ360.out.1 9 uJ
  have Hr360 := mA (And.intro hr3601 hr3602)
  clear hr3601 hr3602
  go_upto_region 16 with (first
   | ((with_reducible refine zd 57 ?_); refine pl_load (N := 57) rfl rfl (.tmp 3) rfl rfl HS.b1 HP.out ?_)
   | (go_at_call 10; refine (in9_calls p HP.out _ _ _).mono ?_; rintro e_ _ ⟨kd, life, piece, frm, dst, fp, tp, flags, label, code, bare, Ao, no, co, Ad, nd, cd, lo, ld, rfl, hno_, hnd_, _, hyo_, hyd_, h1_, h2_, hr1_, hr2_, hap_, hb_⟩; subst hno_; subst hnd_; have HPK : Aside0 (BY lo ∧ BY ld ∧ lo.length ≤ 1500 ∧ ld.length ≤ 1500) := ⟨⟨hyo_, hyd_, qN, qN⟩⟩; replace HS := mA (HS.out.rowb2 hr1_ hr2_ hap_ hb_); clear hyo_ hyd_ h1_ h2_ hr1_ hr2_ hap_ hb_)
   | (go_at_call 33; refine (build3_calls _ _ _ _ _ _ _ _ _ _ _ Ao co lo Ad cd ld _ (Kd.R_lower HS.r0 (Nat.zero_le _)) (Kd.R_lower HS.r1 (Nat.zero_le _)) HPK.out.1 HPK.out.2.1 xE xE).mono ?_; rintro e_ _ ⟨Ab, nb, cb, lb, eb, rfl, hn_, hm_, hyb_, hrb_, hb_⟩; subst hn_; have HLB : Aside0 (BY lb ∧ lb.length ≤ 1500) := ⟨⟨hyb_, hm_⟩⟩; replace HS := HS.rw_ hrb_ hb_; clear hyb_ hm_ hrb_ hb_; have t1_ : World.cell? _ ⟨tp_, 1, none⟩ = some (.int .i64 p.addr) := HS.c 1 1; have t2_ : World.cell? _ ⟨tp_, 2, none⟩ = some (.int .i64 p.port) := HS.c 1 2)
   | (go_at_call 34; refine (nat3_calls Ab cb lb _ (Kd.R_lower HS.r0 (Nat.zero_le _)) HLB.out.1 _ _).mono ?_; rintro e_ _ ⟨An, nn, cn, ln, en, rfl, hn_, hm_, hyb_, hrb_, hb_⟩; subst hn_; have HLN : Aside0 (BY ln ∧ ln.length ≤ 1500) := ⟨⟨hyb_, hm_⟩⟩; replace HS := HS.rw_ hrb_ hb_; clear hyb_ hm_ hrb_ hb_ t1_ t2_; have t1_ : World.cell? _ ⟨tp_, 1, none⟩ = some (.int .i64 p.addr) := HS.c 1 1; have t2_ : World.cell? _ ⟨tp_, 2, none⟩ = some (.int .i64 p.port) := HS.c 1 2))
  cases c5 : decide (0 < r5) with
  | true =>
   go_upto_region 19 with (first
    | (refine zS 45 8 HS 0 ?_; clear HS; intro _ HS z_; clear z_))
   have HPK2 : Aside0 (BY ([] : List Int) ∧ BY ln ∧ ([] : List Int).length ≤ 1500 ∧ ln.length ≤ 1500) := ⟨⟨BY.nil, HLN.out.1, kC, HLN.out.2⟩⟩
   clear HPK
   have HPK := HPK2
   clear HPK2
   have HS3 := mA ((HS.out.sub (Rs' := [(.slice An ln.length cn, ln)]) (List.Sublist.refl _) xA).rown)
   clear HS
   have HS := HS3
   clear HS3
   have HS2 : Aside0 (∃ (kd life piece frm dst fp tp flags label code : Int) (bare : Bool), St (fun _ => False) W _ [(gx, 45, #[.int .i64 kd, .int .i64 life, .int .i64 piece, .int .i64 frm, .int .i64 dst, .int .i64 fp, .int .i64 tp, .int .i64 flags, .int .i64 label, .bool bare, .int .i64 code, .slice none 0 0, .slice An ln.length cn]), (tp_, 33, pcs p)] [(.slice none 0 0, []), (.slice An ln.length cn, ln)]) := ⟨⟨_, _, _, _, _, _, _, _, _, _, _, HS.out⟩⟩
   obtain ⟨kd, life, piece, frm, dst, fp, tp, flags, label, code, bare, h_⟩ := HS2.out
   clear HS HS2
   have HS := mA h_
   clear h_
   cases c1 : (r23 == 0) <;> cases c2 : (r11 == 0) <;>
   (go_upto_region 22 with (first
    | ((with_reducible refine zst 3 94 ?_); refine sc3_event HS.out 0 rfl rfl rfl (.tmp 94) _ rfl 2 rfl rfl rfl ?_; intro _ h1_; replace HS := mA h1_; simp only [List.setIfInBounds_toArray, List.set_cons_zero, List.set_cons_succ] at HS; clear h1_)
    | ((with_reducible refine zd 96 ?_); refine Kd.event_run rfl (run_ldpk _ _ _ gx _ (.tmp 8) rfl rfl HS.b0 rfl) ?_)
    | (go_at_call 33; refine (build3_nil _ _ _ _ _ _ _ _ _ _ _ An cn ln _ (Kd.R_lower HS.r1 (Nat.zero_le _)) HPK.out.2.1 xE).mono ?_; rintro e_ _ ⟨Ab, nb, cb, lb, eb, rfl, hn_, hm_, hyb_, hrb_, hb_⟩; subst hn_; have HLB : Aside0 (BY lb ∧ lb.length ≤ 1500) := ⟨⟨hyb_, hm_⟩⟩; replace HS := HS.rw_ hrb_ hb_; clear hyb_ hm_ hrb_ hb_))
    by_cases hz : 0 < lb.length
    ·exact jA
    ·skip
     have z1 : decide (0 < (lb.length : Int)) = false := decide_eq_false uY
     have z1b : decide (0 < lb.length) = false := decide_eq_false hz
     have z1c : (0 < lb.length) = False := eq_false hz
     clear hz
     go_wp2_with fail
     go_ret
     exact ⟨_, _, _, lb, rfl, rfl, HLB.out.1, HS.out.row 0 rfl, HS.nb⟩)
  | false =>
   go_upto_region 19 with (first
    | (refine zS 45 8 HS 0 ?_; clear HS; intro _ HS z_; clear z_))
   have HPK2 : Aside0 (BY ([] : List Int) ∧ BY lb ∧ ([] : List Int).length ≤ 1500 ∧ lb.length ≤ 1500) := ⟨⟨BY.nil, HLB.out.1, kC, HLB.out.2⟩⟩
   clear HPK
   have HPK := HPK2
   clear HPK2
   have HS3 := mA ((HS.out.sub (Rs' := [(.slice Ab lb.length cb, lb)]) (List.Sublist.refl _) xA).rown)
   clear HS
   have HS := HS3
   clear HS3
   have HS2 : Aside0 (∃ (kd life piece frm dst fp tp flags label code : Int) (bare : Bool), St (fun _ => False) W _ [(gx, 45, #[.int .i64 kd, .int .i64 life, .int .i64 piece, .int .i64 frm, .int .i64 dst, .int .i64 fp, .int .i64 tp, .int .i64 flags, .int .i64 label, .bool bare, .int .i64 code, .slice none 0 0, .slice Ab lb.length cb]), (tp_, 33, pcs p)] [(.slice none 0 0, []), (.slice Ab lb.length cb, lb)]) := ⟨⟨_, _, _, _, _, _, _, _, _, _, _, HS.out⟩⟩
   obtain ⟨kd, life, piece, frm, dst, fp, tp, flags, label, code, bare, h_⟩ := HS2.out
   clear HS HS2
   have HS := mA h_
   clear h_
   cases c1 : (r23 == 0) <;> cases c2 : (r11 == 0) <;>
   (go_upto_region 22 with (first
    | ((with_reducible refine zst 3 94 ?_); refine sc3_event HS.out 0 rfl rfl rfl (.tmp 94) _ rfl 2 rfl rfl rfl ?_; intro _ h1_; replace HS := mA h1_; simp only [List.setIfInBounds_toArray, List.set_cons_zero, List.set_cons_succ] at HS; clear h1_)
    | ((with_reducible refine zd 96 ?_); refine Kd.event_run rfl (run_ldpk _ _ _ gx _ (.tmp 8) rfl rfl HS.b0 rfl) ?_)
    | (go_at_call 33; refine (build3_nil _ _ _ _ _ _ _ _ _ _ _ Ab cb lb _ (Kd.R_lower HS.r1 (Nat.zero_le _)) HPK.out.2.1 xE).mono ?_; rintro e_ _ ⟨Ab, nb, cb, lb, eb, rfl, hn_, hm_, hyb_, hrb_, hb_⟩; subst hn_; have HLB : Aside0 (BY lb ∧ lb.length ≤ 1500) := ⟨⟨hyb_, hm_⟩⟩; replace HS := HS.rw_ hrb_ hb_; clear hyb_ hm_ hrb_ hb_))
    by_cases hz : 0 < lb.length
    ·exact jA
    ·skip
     have z1 : decide (0 < (lb.length : Int)) = false := decide_eq_false uY
     have z1b : decide (0 < lb.length) = false := decide_eq_false hz
     have z1c : (0 < lb.length) = False := eq_false hz
     clear hz
     go_wp2_with fail
     go_ret
     exact ⟨_, _, _, lb, rfl, rfl, HLB.out.1, HS.out.row 0 rfl, HS.nb⟩)
 ·skip
  go_upto_region 19 with (first
   | ((with_reducible refine zd 34 ?_); refine lit8_event HS.out rfl (N := 34) rfl #[.int .i64 _, .int .i64 _, .int .i64 _, .int .i64 _, .int .i64 _, .int .i64 _, .int .i64 _, .int .i64 _] uA ?_; intro gns _ h1_; replace HS := mA (h1_); clear h1_)
   | (go_at_call 35; refine (make3_calls _ _ _ _ _ _ _ _ _ _ _ HS.b0).mono ?_; rintro e_ _ ⟨kd, life, piece, frm, dst, fp, tp, flags, label, code, bare, Ao, no, co, Ad, nd, cd, lo, ld, rfl, hno_, hnd_, _, hyo_, hyd_, h1_, h2_, hr1_, hr2_, hap_, hb_⟩; subst hno_; subst hnd_; have HPK : Aside0 (BY lo ∧ BY ld ∧ lo.length ≤ 1500 ∧ ld.length ≤ 1500) := ⟨⟨hyo_, hyd_, qN, qN⟩⟩; replace HS := mA (HS.out.rowb2 hr1_ hr2_ hap_ hb_); clear hyo_ hyd_ h1_ h2_ hr1_ hr2_ hap_ hb_; replace HS := mA (HS.out.sub (List.Sublist.cons _ (List.Sublist.refl _)) (List.Sublist.refl _)))
   | (refine zS 45 8 HS 0 ?_; clear HS; intro _ HS z_; clear z_))
  have HS2 : Aside0 (∃ (kd life piece frm dst fp tp flags label code : Int) (bare : Bool), St (fun _ => False) W _ [(gx, 45, #[.int .i64 kd, .int .i64 life, .int .i64 piece, .int .i64 frm, .int .i64 dst, .int .i64 fp, .int .i64 tp, .int .i64 flags, .int .i64 label, .bool bare, .int .i64 code, .slice Ao lo.length co, .slice Ad ld.length cd]), (tp_, 33, pcs p)] [(.slice Ao lo.length co, lo), (.slice Ad ld.length cd, ld)]) := ⟨⟨_, _, _, _, _, _, _, _, _, _, _, HS.out⟩⟩
  obtain ⟨kd, life, piece, frm, dst, fp, tp, flags, label, code, bare, h_⟩ := HS2.out
  clear HS HS2
  have HS := mA h_
  clear h_
  cases c1 : (r23 == 0) <;> cases c2 : (r11 == 0) <;>
  (go_upto_region 22 with (first
   | ((with_reducible refine zst 3 94 ?_); refine sc3_event HS.out 0 rfl rfl rfl (.tmp 94) _ rfl 2 rfl rfl rfl ?_; intro _ h1_; replace HS := mA h1_; simp only [List.setIfInBounds_toArray, List.set_cons_zero, List.set_cons_succ] at HS; clear h1_)
   | ((with_reducible refine zd 96 ?_); refine Kd.event_run rfl (run_ldpk _ _ _ gx _ (.tmp 8) rfl rfl HS.b0 rfl) ?_)
   | (go_at_call 33; refine (build3_calls _ _ _ _ _ _ _ _ _ _ _ Ao co lo Ad cd ld _ (Kd.R_lower HS.r0 (Nat.zero_le _)) (Kd.R_lower HS.r1 (Nat.zero_le _)) HPK.out.1 HPK.out.2.1 xE xE).mono ?_; rintro e_ _ ⟨Ab, nb, cb, lb, eb, rfl, hn_, hm_, hyb_, hrb_, hb_⟩; subst hn_; have HLB : Aside0 (BY lb ∧ lb.length ≤ 1500) := ⟨⟨hyb_, hm_⟩⟩; replace HS := HS.rw_ hrb_ hb_; clear hyb_ hm_ hrb_ hb_))
   by_cases hz : 0 < lb.length
   ·exact jA
   ·skip
    have z1 : decide (0 < (lb.length : Int)) = false := decide_eq_false uY
    have z1b : decide (0 < lb.length) = false := decide_eq_false hz
    have z1c : (0 < lb.length) = False := eq_false hz
    clear hz
    go_wp2_with fail
    go_ret
    exact ⟨_, _, _, lb, rfl, rfl, HLB.out.1, HS.out.row 0 rfl, HS.nb⟩)
end
end Go.Proofs.YtkpfojpmigchlaaGreat.Own
namespace Go.Proofs.YtkpfojpmigchlaaGreat.Whl
open Go.RowKit Go.Proofs.YtkpfojpmigchlaaGreatW.PrintWords Go.Proofs.YtkpfojpmigchlaaGreatW.PrintMore Go.Proofs.YtkpfojpmigchlaaGreatW.PrintLast Go.Proofs.YtkpfojpmigchlaaGreat.Q Go.Proofs.YtkpfojpmigchlaaGreat.Own
open Go.Proofs.YtkpfojpmigchlaaGreat.Zip
def actS (sl : List S25) (i : Nat) : Bool := (rd_T25 sl i).f0 == 2
def wtS (sl : List S25) (i : Nat) : Nat := (rd_T25 sl i).f3.toNat
def pA (sl : List S25) (i : Nat) : Nat := (sipWords 0 0 [1, (rd_T25 sl i).f1, (rd_T25 sl i).f2] % 127).toNat
def pB (sl : List S25) (i : Nat) : Nat := (sipWords 0 0 [2, (rd_T25 sl i).f1, (rd_T25 sl i).f2] % 126).toNat + 1
theorem pA_lt (sl : List S25) (i : Nat) : pA sl i < 127 := by unfold pA; omega
theorem pB_lt (sl : List S25) (i : Nat) : 1 ≤ pB sl i ∧ pB sl i ≤ 126 := by unfold pB; omega
def plc (a b n : Nat) : Nat := (a + n * b) % 127
theorem plc_lt (a b n : Nat) : plc a b n < 127 := Nat.mod_lt _ uJ
def free (w : List Int) (q : Nat) : Prop := w.getD q 0 = -1
instance (w : List Int) (q : Nat) : Decidable (free w q) := inferInstanceAs (Decidable (_ = _))
def findN (w : List Int) (a b : Nat) : Nat → Nat → Nat
 | 0, n => n
 | f + 1, n => if free w (plc a b n) then n else findN w a b f (n + 1)
structure WSt where
 w : List Int
 nx : Nat → Nat
def upd (nx : Nat → Nat) (i n : Nat) : Nat → Nat := fun j => if j = i then n else nx j
def turn (sl : List S25) (s : WSt) (i : Nat) : WSt :=
 ⟨s.w.set (plc (pA sl i) (pB sl i) (findN s.w (pA sl i) (pB sl i) 127 (s.nx i))) (i : Int), upd s.nx i (findN s.w (pA sl i) (pB sl i) 127 (s.nx i))⟩
def acts (sl : List S25) : List Nat := (List.range 64).filter (actS sl)
def turnsOf (sl : List S25) (l : List Nat) : List Nat := l.flatMap fun i => List.replicate (wtS sl i) i
def roundE (sl : List S25) : List Nat := turnsOf sl (acts sl)
def st (sl : List S25) : Nat → WSt
 | 0 => ⟨List.replicate 127 (-1), fun _ => 0⟩
 | t + 1 => turn sl (st sl t) ((roundE sl).getD (t % (roundE sl).length) 0)
def wheelOf (sl : List S25) : List Int := if acts sl = [] then List.replicate 127 (-1) else (st sl 127).w
theorem inv127 : ∀ b : Fin 127, b.val ≠ 0 → ∃ c : Fin 127, b.val * c.val % 127 = 1 := by decide +kernel
theorem reach127 (b : Nat) (hb : 1 ≤ b ∧ b ≤ 126) (x q : Nat) (hq : q < 127) : ∃ d, d < 127 ∧ (x + d * b) % 127 = q := by
 obtain ⟨c, hc⟩ := inv127 ⟨b, qN⟩ (by show b ≠ 0; omega)
 have hc : b * c.val % 127 = 1 := hc
 refine ⟨((q + 126 * x) * c.val) % 127, Nat.mod_lt _ uJ, ?_⟩
 have h1 : ((q + 126 * x) * c.val % 127 * b) % 127 = (q + 126 * x) % 127 := by
  rw [Nat.mod_mul_mod, Nat.mul_assoc, Nat.mul_comm c.val b, Nat.mul_mod, hc, Nat.mul_one, Nat.mod_mod]
 rw [Nat.add_mod, h1, ← Nat.add_mod]
 omega
theorem findN_spec (w : List Int) (a b : Nat) : ∀ (f n m : Nat), n ≤ m → m < n + f → free w (plc a b m) → n ≤ findN w a b f n ∧ findN w a b f n ≤ m ∧ free w (plc a b (findN w a b f n)) ∧ ∀ j, n ≤ j → j < findN w a b f n → ¬ free w (plc a b j)
 | 0, n, m, h1, h2, h3 => by omega
 | f + 1, n, m, h1, h2, h3 => by
  unfold findN
  split
  ·rename_i h
   exact ⟨Nat.le_refl _, h1, h, fun j h4 h5 => by omega⟩
  ·rename_i h
   have hne : n ≠ m := fun e => h (by rw [e]; exact h3)
   obtain ⟨h4, h5, h6, h7⟩ := findN_spec w a b f (n + 1) m uY uY h3
   refine ⟨qN, h5, h6, fun j h8 h9 => ?_⟩
   by_cases hj : j = n
   ·rw [hj]; exact h
   ·exact h7 j uY h9
theorem find_ok (w : List Int) (a b n : Nat) (hb : 1 ≤ b ∧ b ≤ 126) (hf : ∃ q, q < 127 ∧ free w q) : n ≤ findN w a b 127 n ∧ findN w a b 127 n ≤ n + 126 ∧ free w (plc a b (findN w a b 127 n)) ∧ ∀ j, n ≤ j → j < findN w a b 127 n → ¬ free w (plc a b j) := by
 obtain ⟨q, hq, hw⟩ := hf
 obtain ⟨d, hd, he⟩ := reach127 b hb (a + n * b) q hq
 have hp : plc a b (n + d) = q := by
  unfold plc
  rw [← he]
  congr 1
  rw [Nat.add_mul]
  omega
 obtain ⟨h1, h2, h3, h4⟩ := findN_spec w a b 127 n (n + d) uY uY (by rw [hp]; exact hw)
 exact ⟨h1, qN, h3, h4⟩
theorem count_set_free (w : List Int) (q : Nat) (v x : Int) (hq : q < w.length) (hf : free w q) (hv : v ≠ -1) : (w.set q v).count x = w.count x + (if x = v then 1 else 0) - (if x = -1 then 1 else 0) := by
 have hg : w[q] = -1 := by
  unfold free at hf
  rw [List.getD_eq_getElem?_getD, List.getElem?_eq_getElem hq] at hf
  exact hf
 rw [List.count_set hq, hg]
 by_cases h1 : x = v
 ·subst h1
  have : ((-1 : Int) == x) = false := by simp; omega
  simp [this, hv]
 ·by_cases h2 : x = -1
  ·subst h2
   have : (v == (-1 : Int)) = false := by simp; exact hv
   simp [this, h1]
  ·have e1 : ((-1 : Int) == x) = false := by simp; omega
   have e2 : (v == x) = false := by simp; omega
   simp [e1, e2, h1, h2]
theorem free_of_count (w : List Int) (hl : w.length = 127) (hc : 0 < w.count (-1)) : ∃ q, q < 127 ∧ free w q := by
 have hm : (-1 : Int) ∈ w := List.count_pos_iff.1 hc
 obtain ⟨q, hq, he⟩ := List.getElem_of_mem hm
 refine ⟨q, qN, ?_⟩
 unfold free
 rw [List.getD_eq_getElem?_getD, List.getElem?_eq_getElem hq, he]
 rfl
structure WInv (sl : List S25) (t : Nat) : Prop where
 len : (st sl t).w.length = 127
 fr : (st sl t).w.count (-1) = 127 - t
 cnt : ∀ i : Nat, (st sl t).w.count (i : Int) = ((List.range t).map fun s => (roundE sl).getD (s % (roundE sl).length) 0).count i
 mem : ∀ x ∈ (st sl t).w, x = -1 ∨ ∃ i : Nat, i ∈ roundE sl ∧ x = (i : Int)
 nx : ∀ i, (st sl t).nx i ≤ 126 * t
theorem winv (sl : List S25) (hE : 0 < (roundE sl).length) : ∀ t, t ≤ 127 → WInv sl t
 | 0, _ => ⟨by simp [st], by simp [st], fun i => by simp [st, List.count_replicate], fun x hx => by left; simp [st] at hx; exact hx, fun i => by simp [st]⟩
 | t + 1, ht => by
  have h := winv sl hE t uY
  obtain ⟨i, hi⟩ : ∃ i, i = (roundE sl).getD (t % (roundE sl).length) 0 := ⟨_, rfl⟩
  have himem : i ∈ roundE sl := by
   rw [hi, List.getD_eq_getElem?_getD, List.getElem?_eq_getElem (Nat.mod_lt _ hE)]
   exact List.getElem_mem _
  have hst : st sl (t + 1) = turn sl (st sl t) i := by rw [hi]; rfl
  obtain ⟨h1, h2, h3, h4⟩ := find_ok (st sl t).w (pA sl i) (pB sl i) ((st sl t).nx i) (pB_lt sl i) (free_of_count _ h.len (by rw [h.fr]; omega))
  have hq := plc_lt (pA sl i) (pB sl i) (findN (st sl t).w (pA sl i) (pB sl i) 127 ((st sl t).nx i))
  have hne : (i : Int) ≠ -1 := by omega
  refine ⟨?_, ?_, ?_, ?_, ?_⟩
  ·rw [hst]; simp only [turn, List.length_set]; exact h.len
  ·rw [hst]
   simp only [turn]
   rw [count_set_free _ _ _ _ (by rw [h.len]; exact hq) h3 hne, if_neg uY, if_pos rfl, h.fr]
   omega
  ·intro j
   rw [hst]
   simp only [turn]
   rw [count_set_free _ _ _ _ (by rw [h.len]; exact hq) h3 hne, if_neg (show ¬ ((j : Int) = -1) by omega), h.cnt j, List.range_succ, List.map_append, List.count_append]
   simp only [List.map_cons, List.map_nil, ← hi]
   by_cases hj : j = i
   ·subst hj; simp
   ·rw [if_neg uY, List.count_cons_of_ne (fun e => hj e.symm)]; simp
  ·intro x hx
   rw [hst] at hx
   simp only [turn] at hx
   rcases List.mem_or_eq_of_mem_set hx with hx | rfl
   ·exact h.mem x hx
   ·exact .inr ⟨i, himem, rfl⟩
  ·intro j
   rw [hst]
   simp only [turn, upd]
   split
   ·have := h.nx i; omega
   ·have := h.nx j; omega
end Go.Proofs.YtkpfojpmigchlaaGreat.Whl
namespace Go.Proofs.YtkpfojpmigchlaaGreat.Whl
open Go Go.RowKit Go.Proofs.YtkpfojpmigchlaaGreatW.PrintWords Go.Proofs.YtkpfojpmigchlaaGreatW.PrintMore Go.Proofs.YtkpfojpmigchlaaGreatW.PrintLast Go.Proofs.YtkpfojpmigchlaaGreat.Q Go.Proofs.YtkpfojpmigchlaaGreat.Own
open Go.Proofs.YtkpfojpmigchlaaGreat.Zip
def Reach {α : Type} (g : Nat → Option α) (r : α) : Prop := ∃ K, ∀ k, K ≤ k → g k = some r
theorem Reach.step {α : Type} {g h : Nat → Option α} {r : α} (K0 : Nat) (e : ∀ k, K0 ≤ k → g (k + 1) = h k) (hh : Reach h r) : Reach g r := by
 obtain ⟨K, hK⟩ := hh
 refine ⟨max K K0 + 1, fun k hk => ?_⟩
 obtain ⟨m, rfl⟩ : ∃ m, k = m + 1 := ⟨k - 1, qN⟩
 rw [e m uY]
 exact hK m uY
theorem Reach.now {α : Type} {g : Nat → Option α} {r : α} (e : ∀ k, g (k + 1) = some r) : Reach g r := ⟨1, fun k hk => by obtain ⟨m, rfl⟩ : ∃ m, k = m + 1 := ⟨k - 1, qN⟩; exact e m⟩
theorem Reach.same {α : Type} {g h : Nat → Option α} {r : α} (e : ∀ k, g k = h k) (hh : Reach h r) : Reach g r := by
 obtain ⟨K, hK⟩ := hh
 exact ⟨K, fun k hk => (e k).trans (hK k hk)⟩
theorem w64 (z : Int) (h : 0 ≤ z) (h2 : z < 9223372036854775808) : wrap64 z = z := by unfold wrap64; omega
theorem words_range (a b : Int) (l : List Int) : 0 ≤ sipWords a b l ∧ sipWords a b l < 18446744073709551616 := by
 unfold sipWords sipOf fin xor64 Go.bits
 rw [IntKind.wrap_u64]
 omega
theorem spun_val (k : Nat) (m : Int) (l : List Int) (hk : 1 ≤ k) (hm : 0 < m) (hm2 : m < 9223372036854775808) (hl : l.length ≤ 1048576) : wheel_spun.f k m l = some (sipWords 0 0 l % m) := by
 obtain ⟨j, rfl⟩ : ∃ j, k = j + 1 := ⟨k - 1, qN⟩
 have hr := words_range 0 0 l
 unfold wheel_spun.f
 have h1 : sip_Words.f (j + 1) 0 0 l = some (sipWords 0 0 l) := by
  show (if l.length ≤ 1048576 then some (sipWords 0 0 l) else none) = _
  rw [if_pos hl]
 rw [h1]
 simp only [Option.bind_some]
 rw [if_neg uY, Int.tmod_eq_emod_of_nonneg hr.1]
 have h2 := Int.emod_nonneg (sipWords 0 0 l) (show m ≠ 0 by omega)
 have h3 := Int.emod_lt_of_pos (sipWords 0 0 l) hm
 rw [w64 _ h2 uY]
def wk (sl : List S25) (nx : Nat → Nat) (i : Nat) : S64 := ⟨(i : Int), (plc (pA sl i) (pB sl i) (nx i) : Nat), (pB sl i : Nat), (wtS sl i : Nat)⟩
def X5 (sl : List S25) (nx : Nat → Nat) : List S64 := (acts sl).map (wk sl nx)
theorem X5_len (sl : List S25) (nx : Nat → Nat) : (X5 sl nx).length = (acts sl).length := by simp [X5]
theorem acts_nodup (sl : List S25) : (acts sl).Nodup := List.Pairwise.filter _ List.nodup_range
theorem acts_inj (sl : List S25) (j k : Nat) (hj : j < (acts sl).length) (hk : k < (acts sl).length) (h : (acts sl)[j] = (acts sl)[k]) : j = k := by
 have hp := List.pairwise_iff_getElem.1 (acts_nodup sl)
 rcases Nat.lt_trichotomy j k with h1 | h1 | h1
 ·exact absurd h (hp j k hj hk h1)
 ·exact h1
 ·exact absurd h.symm (hp k j hk hj h1)
theorem acts_len (sl : List S25) : (acts sl).length ≤ 64 := by
 have h := List.length_filter_le (actS sl) (List.range 64)
 simpa [acts] using h
theorem rdX (sl : List S25) (nx : Nat → Nat) (k : Nat) (hk : k < (acts sl).length) : rd_T64 (X5 sl nx) (k : Int) = wk sl nx (acts sl)[k] := by
 unfold rd_T64 X5
 rw [Int.toNat_natCast, List.getD_eq_getElem?_getD, List.getElem?_map, List.getElem?_eq_getElem hk]
 rfl
theorem setX (sl : List S25) (nx : Nat → Nat) (k : Nat) (hk : k < (acts sl).length) (n : Nat) : (X5 sl nx).set k (wk sl (upd nx (acts sl)[k] n) (acts sl)[k]) = X5 sl (upd nx (acts sl)[k] n) := by
 unfold X5
 apply List.ext_getElem
 ·simp
 ·intro j h1 h2
  simp only [List.length_map] at h2
  rw [List.getElem_set]
  split
  ·rename_i e
   subst e
   simp
  ·rename_i e
   have hne : (acts sl)[j] ≠ (acts sl)[k] := fun h => e (acts_inj sl j k h2 hk h).symm
   simp only [List.getElem_map, wk, upd, if_neg hne]
theorem acts_act (sl : List S25) (k : Nat) (hk : k < (acts sl).length) : actS sl (acts sl)[k] = true ∧ (acts sl)[k] < 64 := by
 have h := List.getElem_mem hk
 unfold acts at h
 rw [List.mem_filter, List.mem_range] at h
 exact ⟨h.2, h.1⟩
structure Good (sl : List S25) : Prop where
 len : sl.length = 64
 wt : ∀ i : Nat, i < 64 → actS sl i = true → 1 ≤ (rd_T25 sl i).f3 ∧ (rd_T25 sl i).f3 ≤ 8
def offK (sl : List S25) (k : Nat) : Nat := (turnsOf sl ((acts sl).take k)).length
theorem turnsOf_append (sl : List S25) (l1 l2 : List Nat) : turnsOf sl (l1 ++ l2) = turnsOf sl l1 ++ turnsOf sl l2 := by simp [turnsOf]
theorem turnsOf_cons (sl : List S25) (i : Nat) (l : List Nat) : turnsOf sl (i :: l) = List.replicate (wtS sl i) i ++ turnsOf sl l := by simp [turnsOf]
theorem offK_succ (sl : List S25) (k : Nat) (hk : k < (acts sl).length) : offK sl (k + 1) = offK sl k + wtS sl (acts sl)[k] := by
 unfold offK
 rw [List.take_add_one, List.getElem?_eq_getElem hk, turnsOf_append, List.length_append]
 simp [turnsOf]
theorem offK_end (sl : List S25) : offK sl (acts sl).length = (roundE sl).length := by
 unfold offK roundE
 rw [List.take_length]
theorem roundE_get (sl : List S25) (k : Nat) (hk : k < (acts sl).length) (j : Nat) (hj : j < wtS sl (acts sl)[k]) : offK sl k + j < (roundE sl).length ∧ (roundE sl).getD (offK sl k + j) 0 = (acts sl)[k] := by
 have e : roundE sl = turnsOf sl ((acts sl).take k) ++ (List.replicate (wtS sl (acts sl)[k]) (acts sl)[k] ++ turnsOf sl ((acts sl).drop (k + 1))) := by
  unfold roundE
  conv => lhs; rw [← List.take_append_drop k (acts sl), List.drop_eq_getElem_cons hk]
  rw [turnsOf_append, turnsOf_cons]
 have hl : offK sl k + j < (roundE sl).length := by
  rw [e]
  simp only [List.length_append, List.length_replicate]
  unfold offK
  omega
 refine ⟨hl, ?_⟩
 rw [List.getD_eq_getElem?_getD, e, List.getElem?_append_right (by unfold offK; omega)]
 unfold offK
 rw [Nat.add_sub_cancel_left, List.getElem?_append_left (by simp; exact hj), List.getElem?_replicate, if_pos hj]
 rfl
theorem mod_succ {t x S : Nat} (h : t % S = x % S) : (t + 1) % S = (x + 1) % S := by
 rw [Nat.add_mod, h, ← Nat.add_mod]
theorem upd_self (nx : Nat → Nat) (i : Nat) : upd nx i (nx i) = nx := by
 funext j
 unfold upd
 split
 ·rename_i h; rw [h]
 ·rfl
theorem wk_upd (sl : List S25) (nx : Nat → Nat) (i n : Nat) : wk sl (upd nx i n) i = ⟨(i : Int), (plc (pA sl i) (pB sl i) n : Nat), (pB sl i : Nat), (wtS sl i : Nat)⟩ := by
 unfold wk upd
 rw [if_pos rfl]
theorem upd_upd (nx : Nat → Nat) (i n m : Nat) : upd (upd nx i n) i m = upd nx i m := by
 funext j
 unfold upd
 split <;> rfl
theorem plc_step (a b n : Nat) (ha : a < 127) (hb : 1 ≤ b ∧ b ≤ 126) : Int.tmod (wrap64 (((plc a b n : Nat) : Int) + ((b : Nat) : Int))) 127 = ((plc a b (n + 1) : Nat) : Int) := by
 have h1 := plc_lt a b n
 rw [w64 _ uY uY, Int.tmod_eq_emod_of_nonneg uY]
 unfold plc at *
 rw [Nat.add_mul, Nat.one_mul, ← Nat.add_assoc, Nat.add_mod (a + n * b) b 127]
 omega
theorem wheel_l5 (sl : List S25) (w : List Int) (hw : w.length = 127) (k : Nat) (hk : k < (acts sl).length) (nx : Nat → Nat) (x8 x55 x56 x63 x64 : Int) (r : List Int) (m : Nat) (hf : free w (plc (pA sl (acts sl)[k]) (pB sl (acts sl)[k]) m))
 (h : Reach (fun f => wheel_Make.l4 f (w.set (plc (pA sl (acts sl)[k]) (pB sl (acts sl)[k]) m) ((acts sl)[k] : Int)) (X5 sl (upd nx (acts sl)[k] m)) (wrap64 (x8 - 1)) (k : Int) x55 x56 x63 (wrap64 (x64 + 1))) r) :
 ∀ (d n : Nat), n + d = m → (∀ j, n ≤ j → j < m → ¬ free w (plc (pA sl (acts sl)[k]) (pB sl (acts sl)[k]) j)) → Reach (fun f => wheel_Make.l5 f w (X5 sl (upd nx (acts sl)[k] n)) x8 (k : Int) w x55 x56 x63 x64) r := by
 intro d
 induction d with
 | zero =>
  intro n hn hj
  obtain rfl : n = m := by omega
  refine Reach.step 0 (fun f _ => ?_) h
  have hq := plc_lt (pA sl (acts sl)[k]) (pB sl (acts sl)[k]) n
  simp only [wheel_Make.l5]
  rw [if_pos uY, if_pos vT, rdX sl _ k hk, wk_upd]
  dsimp only
  rw [if_pos uY, if_pos uY, if_pos (by unfold free at hf; unfold rd; rw [Int.toNat_natCast]; exact hf)]
  rw [Option.bind_some, Int.toNat_natCast, if_pos]
  rw [arrNe_pos]
  intro e
  have h1 : (w.set (plc (pA sl (acts sl)[k]) (pB sl (acts sl)[k]) n) ((acts sl)[k] : Int))[plc (pA sl (acts sl)[k]) (pB sl (acts sl)[k]) n]? = w[plc (pA sl (acts sl)[k]) (pB sl (acts sl)[k]) n]? := by rw [e]
  rw [List.getElem?_set_self uY, List.getElem?_eq_getElem uY] at h1
  unfold free at hf
  rw [List.getD_eq_getElem?_getD, List.getElem?_eq_getElem uY, ← Option.some.inj h1] at hf
  simp only [Option.getD_some] at hf
  omega
 | succ d ih =>
  intro n hn hj
  have hnf := hj n (Nat.le_refl _) uY
  refine Reach.step 0 (fun f _ => ?_) (ih (n + 1) uY (fun j h1 h2 => hj j uY h2))
  have hq := plc_lt (pA sl (acts sl)[k]) (pB sl (acts sl)[k]) n
  have hset := setX sl (upd nx (acts sl)[k] n) k hk (n + 1)
  rw [upd_upd, wk_upd] at hset
  simp only [wheel_Make.l5]
  rw [if_pos uY, if_pos vT, rdX sl _ k hk, wk_upd]
  dsimp only
  rw [if_pos uY, if_pos uY, if_neg (by unfold free at hnf; unfold rd; rw [Int.toNat_natCast]; exact hnf), plc_step _ _ _ (pA_lt _ _) (pB_lt _ _), Int.toNat_natCast, hset]
theorem acts_wt (sl : List S25) (hG : Good sl) (k : Nat) (hk : k < (acts sl).length) : 1 ≤ wtS sl (acts sl)[k] ∧ wtS sl (acts sl)[k] ≤ 8 := by
 obtain ⟨h1, h2⟩ := acts_act sl k hk
 have h3 := hG.wt _ h2 h1
 unfold wtS
 omega
theorem wheel_l4 (sl : List S25) (hG : Good sl) : ∀ (d t : Nat), t + d = 127 → ∀ (k : Nat) (hk : k < (acts sl).length) (j : Nat), j ≤ wtS sl (acts sl)[k] → t % (roundE sl).length = (offK sl k + j) % (roundE sl).length →
 Reach (fun f => wheel_Make.l4 f (st sl t).w (X5 sl (st sl t).nx) ((127 - t : Nat) : Int) (k : Int) ((acts sl).length : Int) (k : Int) (wtS sl (acts sl)[k] : Nat) (j : Int)) (st sl 127).w := by
 intro d
 induction d with
 | zero =>
  intro t ht
  obtain rfl : t = 127 := by omega
  have hlt : ∀ (k : Nat) (hk : k < (acts sl).length) (j : Nat), j < wtS sl (acts sl)[k] → Reach (fun f => wheel_Make.l4 f (st sl 127).w (X5 sl (st sl 127).nx) ((127 - 127 : Nat) : Int) (k : Int) ((acts sl).length : Int) (k : Int) (wtS sl (acts sl)[k] : Nat) (j : Int)) (st sl 127).w := by
   intro k hk j hj
   refine Reach.now fun f => ?_
   simp only [wheel_Make.l4]
   rw [if_pos uY, if_pos (by rfl)]
  intro k hk j hj _
  rcases Nat.lt_or_ge j (wtS sl (acts sl)[k]) with h1 | h1
  ·exact hlt k hk j h1
  ·have hal := acts_len sl
   refine Reach.step (h := fun f => wheel_Make.l3 f (st sl 127).w (X5 sl (st sl 127).nx) ((127 - 127 : Nat) : Int) ((acts sl).length : Int) ((k + 1 : Nat) : Int)) 0 (fun f _ => ?_) ?_
   ·exact jM
   ·rcases Nat.lt_or_ge (k + 1) (acts sl).length with h2 | h2
    ·refine Reach.step 0 (fun f _ => ?_) (hlt (k + 1) h2 0 (acts_wt sl hG _ h2).1)
     simp only [wheel_Make.l3]
     rw [if_pos uY, if_pos uY, if_pos vT, rdX sl _ _ h2]
     rfl
    ·refine Reach.step (h := fun f => wheel_Make.l2 f (st sl 127).w (X5 sl (st sl 127).nx) ((127 - 127 : Nat) : Int)) 0 (fun f _ => ?_) (Reach.now fun f => ?_)
     ·simp only [wheel_Make.l3]
      rw [if_neg uY]
     ·simp only [wheel_Make.l2]
      rw [if_neg xU]
 | succ d ih =>
  intro t ht
  have hlt : ∀ (k : Nat) (hk : k < (acts sl).length) (j : Nat), j < wtS sl (acts sl)[k] → t % (roundE sl).length = (offK sl k + j) % (roundE sl).length → Reach (fun f => wheel_Make.l4 f (st sl t).w (X5 sl (st sl t).nx) ((127 - t : Nat) : Int) (k : Int) ((acts sl).length : Int) (k : Int) (wtS sl (acts sl)[k] : Nat) (j : Int)) (st sl 127).w := by
   intro k hk j hj hc
   obtain ⟨hE1, hE2⟩ := roundE_get sl k hk j hj
   have hE0 : 0 < (roundE sl).length := by omega
   have hinv := winv sl hE0 t uY
   have htS : t % (roundE sl).length = offK sl k + j := by rw [hc, Nat.mod_eq_of_lt hE1]
   have hst : st sl (t + 1) = turn sl (st sl t) (acts sl)[k] := by
    show turn sl (st sl t) ((roundE sl).getD (t % (roundE sl).length) 0) = _
    rw [htS, hE2]
   obtain ⟨f1, f2, f3, f4⟩ := find_ok (st sl t).w (pA sl (acts sl)[k]) (pB sl (acts sl)[k]) ((st sl t).nx (acts sl)[k]) (pB_lt _ _) (free_of_count _ hinv.len (by rw [hinv.fr]; omega))
   have hnext := ih (t + 1) uY k hk (j + 1) uY (by rw [← Nat.add_assoc]; exact mod_succ hc)
   rw [hst] at hnext
   simp only [turn] at hnext
   have hw8 := (acts_wt sl hG k hk).2
   have h5 := wheel_l5 sl (st sl t).w hinv.len k hk (st sl t).nx ((127 - t : Nat) : Int) ((acts sl).length : Int) (k : Int) (wtS sl (acts sl)[k] : Nat) (j : Int) (st sl 127).w _ f3 (Reach.same (fun f => by
    rw [show wrap64 (((127 - t : Nat) : Int) - 1) = ((127 - (t + 1) : Nat) : Int) from by rw [w64 _ uY uY]; omega, show wrap64 ((j : Int) + 1) = ((j + 1 : Nat) : Int) from by rw [w64 _ uY uY]; omega]) hnext) _ _ (Nat.add_sub_cancel' f1) f4
   rw [upd_self] at h5
   refine Reach.step 0 (fun f _ => ?_) h5
   simp only [wheel_Make.l4]
   rw [if_pos uY, if_neg uY]
   simp only [Option.bind_some, List.nil_append, List.length_nil]
   rw [if_pos (by rw [hinv.len]; decide)]
  intro k hk j hj hc
  rcases Nat.lt_or_ge j (wtS sl (acts sl)[k]) with h1 | h1
  ·exact hlt k hk j h1 hc
  ·have hal := acts_len sl
   obtain rfl : j = wtS sl (acts sl)[k] := by omega
   refine Reach.step (h := fun f => wheel_Make.l3 f (st sl t).w (X5 sl (st sl t).nx) ((127 - t : Nat) : Int) ((acts sl).length : Int) ((k + 1 : Nat) : Int)) 0 (fun f _ => ?_) ?_
   ·exact jM
   ·rcases Nat.lt_or_ge (k + 1) (acts sl).length with h2 | h2
    ·refine Reach.step 0 (fun f _ => ?_) (hlt (k + 1) h2 0 (acts_wt sl hG _ h2).1 (by rw [hc, offK_succ sl k hk]; rfl))
     simp only [wheel_Make.l3]
     rw [if_pos uY, if_pos uY, if_pos vT, rdX sl _ _ h2]
     rfl
    ·have h0 : 0 < (acts sl).length := by omega
     have hend : offK sl k + wtS sl (acts sl)[k] = (roundE sl).length := by rw [← offK_succ sl k hk, ← offK_end]; congr 1; omega
     refine Reach.step (h := fun f => wheel_Make.l2 f (st sl t).w (X5 sl (st sl t).nx) ((127 - t : Nat) : Int)) 0 (fun f _ => ?_) (Reach.step (h := fun f => wheel_Make.l3 f (st sl t).w (X5 sl (st sl t).nx) ((127 - t : Nat) : Int) ((acts sl).length : Int) 0) 0 (fun f _ => ?_) (Reach.step 0 (fun f _ => ?_) (hlt 0 h0 0 (acts_wt sl hG _ h0).1 (by rw [hc, hend, Nat.mod_self]; simp [offK, turnsOf]))))
     ·simp only [wheel_Make.l3]
      rw [if_neg uY]
     ·simp only [wheel_Make.l2]
      rw [if_pos uY, X5_len]
     ·simp only [wheel_Make.l3]
      have hr0 := rdX sl (st sl t).nx 0 h0
      rw [if_pos uY, if_pos uY, if_pos vT]
      rw [show ((0 : Nat) : Int) = 0 from rfl] at hr0
      rw [hr0]
      rfl
theorem wheel_l0 (sl : List S25) (r : List Int) (h : Reach (fun f => wheel_Make.l1 f (List.replicate 127 (-1)) ([] : List S64) sl 0) r) : ∀ (d n : Nat), n + d = 127 → Reach (fun f => wheel_Make.l0 f sl (List.replicate n (-1) ++ List.replicate d 0) (n : Int)) r := by
 intro d
 induction d with
 | zero =>
  intro n hn
  obtain rfl : n = 127 := by omega
  refine Reach.step 0 (fun f _ => ?_) h
  simp only [wheel_Make.l0]
  rw [if_neg uY, List.replicate_zero, List.append_nil]
 | succ d ih =>
  intro n hn
  refine Reach.step 0 (fun f _ => ?_) (ih (n + 1) uY)
  have e : (List.replicate n (-1 : Int) ++ List.replicate (d + 1) 0).set n (-1) = List.replicate (n + 1) (-1) ++ List.replicate d 0 := by
   rw [List.set_append_right _ _ xU, List.length_replicate, Nat.sub_self, List.replicate_succ, List.set_cons_zero, List.replicate_succ']
   simp
  simp only [wheel_Make.l0]
  rw [if_pos uY, if_pos uY, if_pos wN, Int.toNat_natCast, e, w64 _ uY uY]
  rfl
def X50 (sl : List S25) (m : Nat) : List S64 := ((List.range m).filter (actS sl)).map (wk sl (fun _ => 0))
theorem X50_end (sl : List S25) : X50 sl 64 = X5 sl (fun _ => 0) := rfl
theorem num1 (a b : Nat) (s : Int) (h0 : 0 ≤ s) (h : a = (s % 127).toNat) : ((plc a b 0 : Nat) : Int) = s % 127 := by
 unfold plc
 rw [Nat.zero_mul, Nat.add_zero, Nat.mod_eq_of_lt uY]
 omega
theorem num2 (b : Nat) (s : Int) (h0 : 0 ≤ s) (h : b = (s % 126).toNat + 1) : ((b : Nat) : Int) = wrap64 (1 + s % 126) := by
 rw [w64 _ uY uY]
 omega
theorem num3 (b : Nat) (s : Int) (h : b = s.toNat) (h1 : 1 ≤ s) (h2 : s ≤ 8) : ((b : Nat) : Int) = mn (mx s 1) 8 := by
 unfold mn mx
 rw [if_neg uY, if_neg uY]
 omega
theorem wk_zero (sl : List S25) (m : Nat) (h1 : 1 ≤ (rd_T25 sl (m : Int)).f3) (h2 : (rd_T25 sl (m : Int)).f3 ≤ 8) : wk sl (fun _ => 0) m = ⟨(m : Int), sipWords 0 0 [1, (rd_T25 sl (m : Int)).f1, (rd_T25 sl (m : Int)).f2] % 127, wrap64 (1 + sipWords 0 0 [2, (rd_T25 sl (m : Int)).f1, (rd_T25 sl (m : Int)).f2] % 126), mn (mx ((rd_T25 sl (m : Int)).f3) 1) 8⟩ := by
 unfold wk
 rw [num1 (pA sl m) (pB sl m) _ (words_range 0 0 [1, (rd_T25 sl (m : Int)).f1, (rd_T25 sl (m : Int)).f2]).1 rfl, num2 (pB sl m) _ (words_range 0 0 [2, (rd_T25 sl (m : Int)).f1, (rd_T25 sl (m : Int)).f2]).1 rfl, num3 (wtS sl m) _ rfl h1 h2]
theorem wheel_l1 (sl : List S25) (hG : Good sl) (w r : List Int) (h : Reach (fun f => if ((X5 sl (fun _ => 0)).length : Int) = 0 then wheel_Make.j2 f w (X5 sl (fun _ => 0)) 0 else wheel_Make.j2 f w (X5 sl (fun _ => 0)) 127) r) : ∀ (d m : Nat), m + d = 64 → Reach (fun f => wheel_Make.l1 f w (X50 sl m) sl (m : Int)) r := by
 intro d
 induction d with
 | zero =>
  intro m hm
  obtain rfl : m = 64 := by omega
  refine Reach.step 0 (fun f _ => ?_) h
  simp only [wheel_Make.l1]
  rw [if_neg uY, X50_end]
 | succ d ih =>
  intro m hm
  refine Reach.step 1 (fun f hf => ?_) (ih (m + 1) uY)
  have hlen := hG.len
  have hm1 : wrap64 ((m : Int) + 1) = ((m + 1 : Nat) : Int) := by rw [w64 _ uY uY]; omega
  simp only [wheel_Make.l1]
  rw [if_pos uY, if_pos uY, if_pos uY, hm1]
  by_cases ha : (rd_T25 sl (m : Int)).f0 = 2
  ·have hact : actS sl m = true := by unfold actS; simp [ha]
   have hwt := hG.wt m uY hact
   have hr1 := words_range 0 0 [1, (rd_T25 sl (m : Int)).f1, (rd_T25 sl (m : Int)).f2]
   have hr2 := words_range 0 0 [2, (rd_T25 sl (m : Int)).f1, (rd_T25 sl (m : Int)).f2]
   have hl5 : (X50 sl m).length ≤ 64 := by
    unfold X50
    rw [List.length_map]
    have := List.length_filter_le (actS sl) (List.range m)
    rw [List.length_range] at this
    omega
   rw [if_pos ha, spun_val f 127 _ hf uJ uJ xU, Option.bind_some, spun_val f 126 _ hf uJ uJ xU, Option.bind_some, if_pos uY]
   have e : X50 sl (m + 1) = X50 sl m ++ [wk sl (fun _ => 0) m] := by
    unfold X50
    rw [List.range_succ, List.filter_append, List.map_append]
    simp [hact]
   rw [e]
   rw [wk_zero sl m hwt.1 hwt.2]
  ·have hact : actS sl m = false := by unfold actS; simp [ha]
   rw [if_neg ha]
   have e : X50 sl (m + 1) = X50 sl m := by
    unfold X50
    rw [List.range_succ, List.filter_append, List.map_append]
    simp [hact]
   rw [e]
theorem wheel_ok (sl : List S25) (hG : Good sl) : ∃ k, wheel_Make.f k sl = some (wheelOf sl) := by
 have h : Reach (fun f => wheel_Make.l0 f sl (List.replicate 0 (-1) ++ List.replicate 127 0) ((0 : Nat) : Int)) (wheelOf sl) := by
  refine wheel_l0 sl _ ?_ 127 0 rfl
  refine wheel_l1 sl hG _ _ ?_ 64 0 rfl
  by_cases ha : acts sl = []
  ·have hx : X5 sl (fun _ => 0) = [] := by unfold X5; rw [ha]; rfl
   refine Reach.same (h := fun f => wheel_Make.j2 f (List.replicate 127 (-1)) (X5 sl (fun _ => 0)) 0) (fun f => by rw [if_pos (by rw [hx]; rfl)]) ?_
   refine Reach.step (h := fun f => wheel_Make.l2 f (List.replicate 127 (-1)) (X5 sl (fun _ => 0)) 0) 0 (fun f _ => by simp only [wheel_Make.j2]) (Reach.now fun f => ?_)
   simp only [wheel_Make.l2]
   rw [if_neg uJ]
   unfold wheelOf
   rw [if_pos ha]
  ·have h0 : 0 < (acts sl).length := List.length_pos_iff.2 ha
   have hw : wheelOf sl = (st sl 127).w := by unfold wheelOf; rw [if_neg ha]
   rw [hw]
   have h4 := wheel_l4 sl hG 127 0 rfl 0 h0 0 (Nat.zero_le _) (by simp [offK, turnsOf])
   have hr0 := rdX sl (fun _ => 0) 0 h0
   rw [show ((0 : Nat) : Int) = 0 from rfl] at hr0
   refine Reach.same (h := fun f => wheel_Make.j2 f (List.replicate 127 (-1)) (X5 sl (fun _ => 0)) 127) (fun f => by rw [if_neg vT]) ?_
   refine Reach.step (h := fun f => wheel_Make.l2 f (List.replicate 127 (-1)) (X5 sl (fun _ => 0)) 127) 0 (fun f _ => by simp only [wheel_Make.j2]) ?_
   refine Reach.step (h := fun f => wheel_Make.l3 f (List.replicate 127 (-1)) (X5 sl (fun _ => 0)) 127 ((acts sl).length : Int) 0) 0 (fun f _ => ?_) (Reach.step 0 (fun f _ => ?_) h4)
   ·simp only [wheel_Make.l2]
    rw [if_pos uJ, X5_len]
   ·simp only [wheel_Make.l3]
    rw [if_pos uY, if_pos uY, if_pos vT, hr0]
    rfl
 obtain ⟨K, hK⟩ := h
 refine ⟨K, ?_⟩
 unfold wheel_Make.f
 rw [if_pos uJ]
 exact hK K (Nat.le_refl _)
theorem wheel_mem (sl : List S25) (hG : Good sl) : ∀ x ∈ wheelOf sl, -1 ≤ x ∧ x ≤ 63 := by
 intro x hx
 unfold wheelOf at hx
 split at hx
 ·rw [List.mem_replicate] at hx
  omega
 ·rename_i ha
  have h0 : 0 < (acts sl).length := List.length_pos_iff.2 ha
  have hE := (roundE_get sl 0 h0 0 (acts_wt sl hG 0 h0).1).1
  rcases (winv sl uY 127 (Nat.le_refl _)).mem x hx with h | ⟨i, hi, h⟩
  ·omega
  ·unfold roundE turnsOf at hi
   rw [List.mem_flatMap] at hi
   obtain ⟨j, hj, hi⟩ := hi
   rw [List.mem_replicate] at hi
   unfold acts at hj
   have := List.mem_range.1 (List.mem_filter.1 hj).1
   omega
theorem wheel_none (sl : List S25) (h : ∀ i : Nat, i < 64 → (rd_T25 sl (i : Int)).f0 ≠ 2) : wheelOf sl = List.replicate 127 (-1) := by
 unfold wheelOf
 rw [if_pos]
 unfold acts
 rw [List.filter_eq_nil_iff]
 intro i hi
 have := h i (List.mem_range.1 hi)
 unfold actS
 simpa using this
theorem wheel_c {sl : List S25} (hG : Good sl) {cs : Array Value} (hs : IsSlots cs sl) (w : World) : Calls Tryz.prog 22 #[.agg cs] w fun e w' => ∃ v, e = .returned v ∧ Kd.R (Kd.int .i64) 3 w' w.heap.size (fun _ => True) v (wheelOf sl) ∧ Below w.heap.size w w' := by
 obtain ⟨k, hk⟩ := wheel_ok sl hG
 exact wheel_Make.calls k cs sl _ w hs hk
def SOk (s : S25) : Prop := (s.f0 = 1 ∨ s.f0 = 2 ∨ s.f0 = 3) → 1 ≤ s.f3 ∧ s.f3 ≤ 8
structure PInv (p : PL) : Prop where
 len : p.sl.length = 64
 ok : ∀ s ∈ p.sl, SOk s
theorem rd_mem (l : List S25) (i : Int) (h : 0 ≤ i) (hi : i < l.length) : rd_T25 l i ∈ l := by
 unfold rd_T25
 rw [List.getD_eq_getElem?_getD, List.getElem?_eq_getElem uY]
 exact List.getElem_mem _
theorem PInv.good {p : PL} (h : PInv p) : Good p.sl := by
 refine ⟨h.len, fun i hi ha => ?_⟩
 have h2 : (rd_T25 p.sl (i : Int)).f0 = 2 := by unfold actS at ha; simpa using ha
 exact h.ok _ (rd_mem _ _ uY (by rw [h.len]; omega)) (.inr (.inl h2))
theorem zero_ok : ∀ s ∈ List.replicate 64 z25, SOk s := by
 intro s hs
 rw [List.mem_replicate] at hs
 rw [hs.2]
 intro h
 exact absurd h uJ
theorem PInv.zero : PInv zeroP := ⟨zeroP_len, zero_ok⟩
theorem PInv.new (a b k1 k2 k3 k4 : Int) : PInv (newP a b k1 k2 k3 k4) := ⟨newP_len _ _ _ _ _ _, zero_ok⟩
theorem outB_of {x lo hi : Int} (h : outB x lo hi = false) : lo ≤ x ∧ x ≤ hi := by
 unfold outB at h
 simp only [decide_eq_false_iff_not] at h
 omega
theorem PInv.apply {p : PL} (h : PInv p) {k s a b c x y : Int} (hw : WF k s a b c x y) : PInv (applyP p k s a b c x y).1 := by
 unfold applyP
 split
 ·exact .zero
 ·split
  ·exact .zero
  ·split
   ·exact .zero
   ·rename_i h1 h2 h3
    have hs : 0 ≤ s ∧ s ≤ 63 := outB_of wV
    have hold := h.ok _ (rd_mem p.sl s hs.1 (by rw [h.len]; omega))
    have hslot : SOk (nextSlot p k s a b c) := by
     unfold nextSlot
     rcases hw with ⟨rfl, e1, e2, e3, _⟩ | ⟨rfl, _⟩ | ⟨rfl, _⟩ | ⟨rfl, _⟩ | ⟨rfl, _⟩ | ⟨rfl, _⟩
     ·simp only [if_true]
      exact fun _ => outB_of e3
     ·have hb : (rd_T25 p.sl s).f0 = 1 ∨ (rd_T25 p.sl s).f0 = 3 := by
       simp [badP] at h2
       by_cases h5 : (rd_T25 p.sl s).f0 = 1
       ·exact .inl h5
       ·exact .inr (h2 h5)
      rw [if_neg uJ, if_pos rfl]
      exact fun _ => hold (by rcases hb with hb | hb <;> simp [hb])
     ·have hb : (rd_T25 p.sl s).f0 = 2 := by simpa [badP] using h2
      rw [if_neg uJ, if_neg uJ, if_pos rfl]
      exact fun _ => hold (by simp [hb])
     ·rw [if_neg uJ, if_neg uJ, if_neg uJ, if_pos rfl]
      intro h4
      exact absurd h4 xU
     ·rw [if_neg uJ, if_neg uJ, if_neg uJ, if_neg uJ, if_pos rfl]
      intro h4
      exact absurd h4 uJ
     ·rw [if_neg uJ, if_neg uJ, if_neg uJ, if_neg uJ, if_neg uJ]
      exact hold
    refine ⟨by rw [nextPool_len]; exact h.len, ?_⟩
    have e : (nextPool p k s a b c x y).sl = p.sl.set s.toNat (nextSlot p k s a b c) := by
     unfold nextPool
     split <;> rfl
    show ∀ t ∈ (nextPool p k s a b c x y).sl, SOk t
    rw [e]
    intro t ht
    rcases List.mem_or_eq_of_mem_set ht with ht | rfl
    ·exact h.ok t ht
    ·exact hslot
theorem PInv.ap {p : PL} (h : PInv p) {e : EN} (hw : WFE e) : PInv (apE p e).1 := PInv.apply h hw
theorem PInv.mkp : ∀ (ns : List Int) {p : PL}, (∀ n ∈ ns, -9223372036854775808 ≤ n ∧ n ≤ 9223372036854775807) → PInv p → PInv (mkP p ns)
 | [], _, _, h => h
 | n :: ns, p, hn, h => by
  refine PInv.mkp ns (fun m hm => hn m (List.mem_cons_of_mem _ hm)) ?_
  split
  ·exact h.ap (entP_spec n (hn n xU)).2
  ·exact h
theorem PInv.make (ns : List Int) (most : Int) (hn : ∀ n ∈ ns, -9223372036854775808 ≤ n ∧ n ≤ 9223372036854775807) : PInv (make6 ns most) := PInv.mkp _ (fun n h => hn n (List.mem_of_mem_take h)) (PInv.new _ _ _ _ _ _)
end Go.Proofs.YtkpfojpmigchlaaGreat.Whl
namespace Go.Proofs.YtkpfojpmigchlaaGreat.Own
open Go Go.RowKit Go.Proofs.YtkpfojpmigchlaaGreatW.PrintWords Go.Proofs.YtkpfojpmigchlaaGreatW.PrintMore Go.Proofs.YtkpfojpmigchlaaGreatW.PrintLast Go.Proofs.YtkpfojpmigchlaaGreat.Q
open Go.Proofs.YtkpfojpmigchlaaGreat.Zip
open Go.Proofs.YtkpfojpmigchlaaGreat.Zap
set_option maxHeartbeats 16000000
set_option maxRecDepth 100000
theorem load_u (g : Nat) (p q : PL) (b : Bool) (nr : List Value) (ws : Value) (hp : p.sl.length = 64) (hq : Whl.PInv q) (hn : NR nr) (w : World) (hb : Blk w g 70 (PLN p b nr ws)) :
 Calls Tryz.prog 7 #[.pointer (some ⟨g, 0, none⟩), .agg (pcs q)] w fun e w' => e = .returned (.tuple #[]) ∧ (∃ Aw nw cw, UN w' g q nr (.slice Aw nw cw) (Whl.wheelOf q.sl)) ∧ Chg (fun j => j = g) w w' := by
 refine (load_calls g p q b nr ws (Whl.wheelOf q.sl) hp hq.len hn.1 (fun w => Whl.wheel_c hq.good (pcs_slots q hq.len) w) w hb).mono ?_
 rintro e w' ⟨rfl, v, hR, hB, hg⟩
 obtain ⟨Aw, cw, rfl⟩ := Kd.R_slice hR
 exact ⟨rfl, ⟨Aw, _, cw, hB, hq.len, hn, Kd.R_lower hR (Nat.zero_le _), Whl.wheel_mem _ hq.good⟩, (Chg.of_grown hg).mono (fun j hj => Option.some.inj hj)⟩
theorem newpl_at (w : World) : Calls Tryz.prog 6 #[] w fun e w' => ∃ gu : Nat, e = .returned (.pointer (some ⟨gu, 0, none⟩)) ∧ gu = w.heap.size ∧ Blk w' gu 70 (PLN zeroP false nrZ (.slice none 0 0)) ∧ Below w.heap.size w w' :=
 (newpl_calls w).mono (fun _ _ h => ⟨_, h.1, rfl, h.2.1, h.2.2⟩)
theorem St.side {S : Nat → Prop} {W w w' : World} {L : List (Nat × Nat × Array Value)} {Rs : List (Value × List Int)} {gu t : Nat} {cs : Array Value} (h : St S W w L Rs) (hc : Chg (fun j => j = gu) w w') (hb : Blk w gu t cs) (ht : t ≠ 5) (hL : ∀ x ∈ L, x.2.1 ≠ t) (hg : S gu ∨ W.heap.size ≤ gu) : St S W w' L Rs :=
 ⟨h.C.trans hc (fun j hj e => hg.elim (fun h2 => by rw [e]; exact h2) (fun h2 => absurd hj (by rw [e]; exact Nat.not_lt.2 h2))), fun x hx => hc.blk (h.K x hx) (fun e => by
  have h1 := h.K x hx
  rw [e] at h1
  exact blk_ne h1 hb (hL x hx) rfl), h.N, h.T, h.D, fun r hr => bytes_move (h.R r hr) (fun k hk => hc.block k (Kd.R_lt (h.R r hr) k hk) (fun e => Kd.R_ne (h.R r hr) hb (Ne.symm ht) (by rw [hk, e]))), h.E⟩
theorem pick_none (wl : List Int) (a b c d : Int) (h : ∀ x ∈ wl, x = -1) : pickV wl a b c d = -1 := by
 have h2 : wheel_Pick.f 5 wl a b c d = some (-1) := by
  have hw : sip_Words.f 5 0 0 [3, a, b, c, d] = some (sipWords 0 0 [3, a, b, c, d]) := by
   show (if ([3, a, b, c, d] : List Int).length ≤ 1048576 then some (sipWords 0 0 [3, a, b, c, d]) else none) = _
   rw [if_pos (Nat.le_of_ble_eq_true rfl)]
  have hr := words_range 0 0 [3, a, b, c, d]
  unfold wheel_Pick.f wheel_spun.f
  rw [hw]
  generalize sipWords 0 0 [3, a, b, c, d] = x at hr
  rw [Option.bind_some, if_neg uJ, Option.bind_some]
  have hm : Int.tmod x 127 = x % 127 := Int.tmod_eq_emod_of_nonneg hr.1
  rw [hm, w64 uY uY]
  split
  ·rfl
  ·rw [if_pos uY, if_pos uY]
   congr 1
   refine h _ ?_
   unfold rd
   rw [List.getD_eq_getElem?_getD, List.getElem?_eq_getElem uY]
   exact List.getElem_mem _
 rw [pickV, h2]
 rfl
theorem placed_k : pool_placed.f 10 80 = some true := by kernel_rfl
theorem sumn_c (w : World) : Calls Tryz.prog 14 #[.slice none 0 0] w fun e w' => e = .returned (.int .i64 65535) ∧ Below w.heap.size w w' := by
 refine (sum_Of.calls 10 none 0 [] 65535 w (Kd.C_nil _ _) uJ uW).mono ?_
 rintro e w' ⟨rfl, hd⟩
 exact ⟨rfl, hd.below⟩
theorem sipw_c (w : World) : Calls Tryz.prog 15 #[.agg #[.int .u64 0, .int .u64 0], .slice none 0 0] w fun e w' => e = .returned (.int .u64 (sipWords 0 0 [])) ∧ Below w.heap.size w w' :=
 sip_Words.calls 10 0 0 none 0 [] _ _ (Kd.C_nil _ _) uJ rfl
theorem sipo_c (w : World) : Calls Tryz.prog 16 #[.agg #[.int .u64 0, .int .u64 0], .slice none 0 0] w fun e w' => e = .returned (.int .u64 (sipWords 0 0 [])) ∧ Below w.heap.size w w' :=
 sip_Of.calls 10 0 0 none 0 [] _ _ (Kd.C_nil _ _) uJ uW
theorem build0 (W : World) : Calls Tryz.prog 12 #[.agg #[.int .i64 2, .int .i64 9, .int .i64 0, .int .i64 1, .int .i64 10, .int .i64 0, .int .i64 80, .int .i64 0, .int .i64 0, .bool false, .int .i64 0, .slice none 0 0, .slice none 0 0]] W fun e w' => ∃ v, e = .returned (.tuple #[v, .int .i64 0]) ∧ Bytes w' W.heap.size v (gramB 9 1 10 0 80 0 []) ∧ BY (gramB 9 1 10 0 80 0 []) ∧ Below W.heap.size W w' := by
 refine (build_gram 9 1 10 0 80 0 none 0 [] W (Kd.C_nil _ _) uJ uJ BY.nil uJ uJ uJ uJ uJ uJ).mono ?_
 rintro e w' ⟨v, h1, h2, h3, _, h4⟩
 exact ⟨v, h1, h2, h3, h4⟩
def q0 : PK := ⟨2, 9, 0, 1, 10, 0, 80, 0, 0, false, 0, [], []⟩
theorem parse0 : parse (gramB 9 1 10 0 80 0 []) = (0, q0) := by kernel_rfl
theorem rd0 : rd (gramB 9 1 10 0 80 0 []) 0 = 2 := by kernel_rfl
def p0 : PL := newP 10 80 1 0 2 0
theorem p0_wheel : ∀ x ∈ Whl.wheelOf p0.sl, x = -1 := by
 rw [Whl.wheel_none p0.sl (fun i hi => by
  have e : rd_T25 p0.sl (i : Int) = z25 := by
   show (List.replicate 64 z25).getD (i : Int).toNat z25 = z25
   rw [List.getD_eq_getElem?_getD, List.getElem?_replicate]
   split <;> rfl
  rw [e]
  decide)]
 exact fun x hx => (List.mem_replicate.1 hx).2
theorem take0 : takeG p0 (Whl.wheelOf p0.sl) (gramB 9 1 10 0 80 0 []) = (9, -1, false, []) := by
 rw [takeG_in parse0 rfl uJ ⟨rfl, rfl⟩ rfl, inG_f (sl := 0) (b := false) (if_pos rfl).symm (fun h => Bool.false_ne_true h.1)]
 exact inT_n (by rw [pick_none _ _ _ _ _ p0_wheel]; decide)
theorem known_calls (W : World) : Calls Tryz.prog 4 #[] W fun e w' => e = .returned (.bool true) ∧ Below W.heap.size W w' := by
 have hu41 := Tryz.underlying41
 have hu45 := Tryz.underlying45
 have hu29 := Tryz.underlying29
 obtain ⟨p, hp⟩ : ∃ p, p = p0 := ⟨_, rfl⟩
 have HPP : Aside0 (p = newP 10 80 1 0 2 0) := ⟨hp⟩
 have HPI : Aside0 (Whl.PInv p) := ⟨by rw [hp]; exact Whl.PInv.new _ _ _ _ _ _⟩
 have HTK : Aside0 (takeG p (Whl.wheelOf p.sl) (gramB 9 1 10 0 80 0 []) = (9, -1, false, [])) := ⟨by rw [hp]; exact take0⟩
 obtain ⟨l, hl⟩ : ∃ l, l = (gramB 9 1 10 0 80 0 []) := ⟨_, rfl⟩
 have HL := mA hl
 have H2 : Aside0 (rd l 0 = 2) := ⟨by rw [hl]; exact rd0⟩
 rw [← hl] at HTK
 clear hp hl
 have HS : Aside0 (St (fun _ => False) W W [] []) := ⟨St.init _ _⟩
 go_enter Tryz.func4, Tryz.ntmps4
 go_wp2_with (first
  | (go_at_call 13; refine (pnew_calls 10 80 1 0 2 0 placed_k _).mono ?_; rw [← HPP.out]; rintro e_ _ ⟨rfl, hb_⟩; replace HS := HS.bl hb_; clear hb_)
  | ((with_reducible refine zd 1 ?_); refine pl_alloc (N := 1) rfl rfl rfl ?_; intro tp hg_ _ hbx_ hb_; replace HS := HS.nw hg_ hbx_ hb_; clear hg_ hbx_ hb_)
  | ((with_reducible refine zst 33 1 ?_); refine pl_store (p := p) rfl rfl (.tmp 1) (.tmp 11) rfl rfl rfl HS.b0 (pcs_size _ zeroP_len) HPI.out.len ?_; intro _ hb_ hg_; replace HS := mA (HS.out.grown 0 rfl hb_ hg_); simp only [List.set_cons_zero, List.set_cons_succ] at HS; clear hb_ hg_)
  | (go_at_call 6; refine (newpl_at _).mono ?_; rintro e_ _ ⟨gu, rfl, hgu_, hu_, hb_⟩; have HG : Aside0 (W.heap.size ≤ gu) := ⟨by rw [hgu_]; exact HS.out.C.size⟩; have HU0 := mA hu_; replace HS := HS.bl hb_; clear hb_ hgu_ hu_)
  | ((with_reducible refine zd 21 ?_); refine pl_load (N := 21) rfl rfl (.tmp 1) rfl rfl HS.b0 HPI.out.len ?_)
  | (go_at_call 7; refine (load_u gu zeroP p false nrZ _ zeroP_len HPI.out NR.zero _ HU0.out).mono ?_; rintro e_ _ ⟨rfl, ⟨Aw, nw, cw, hu_⟩, hc_⟩; replace HS := mA (HS.out.side hc_ HU0.out uJ xU (Or.inr HG.out)); have HU := mA hu_; clear HU0 hu_ hc_)
  | (go_at_call 12; refine (build0 _).mono ?_; rintro e_ _ ⟨v_, rfl, hr_, hy_, hb_⟩; rw [← HL.out] at hr_ hy_; obtain ⟨Ab, cb, rfl⟩ := Kd.R_slice hr_; replace HU := mA (HU.out.below hb_); have HY := mA hy_; replace HS := HS.rw_ hr_ hb_; clear hr_ hy_ hb_)
  | (go_at_call 8; refine (take_calls HU.out Ab cb l (Kd.R_lower HS.r0 (Nat.zero_le _)) HY.out).mono ?_; rintro e_ _ ⟨⟨dx, sx, bx, Ax, nx, cx, lx, rfl, hr_, hi_⟩, hu_, hc_⟩; have hd_ : dx = 9 := congrArg (fun x => x.1) ((hi_ H2.out).trans HTK.out); subst hd_; replace HS := mA (HS.out.side hc_ HU.out.B uJ xU (Or.inr HG.out)); clear HU hr_ hi_ hu_ hc_)
  | (refine zB 6 HS (run_al41 _ _ _ rfl) ?_; clear HS; intro go _ HS z_; clear z_)
  | (refine zS 41 6 HS 0 ?_; clear HS; intro _ HS z_; clear z_; have c0 : World.cell? _ ⟨go, 0, none⟩ = some (.int .i64 9) := HS.c 0 0)
  | (go_at_call 14; refine (sumn_c _).mono ?_; rintro e_ _ ⟨rfl, hb_⟩; try clear c0; replace HS := HS.bl hb_; clear hb_)
  | (go_at_call 15; refine (sipw_c _).mono ?_; rintro e_ _ ⟨rfl, hb_⟩; replace HS := HS.bl hb_; clear hb_)
  | (go_at_call 16; refine (sipo_c _).mono ?_; rintro e_ _ ⟨rfl, hb_⟩; replace HS := HS.bl hb_; clear hb_))
 go_ret
 exact ⟨rfl, HS.nb⟩
theorem apE_place (p : PL) (e : EN) (h : (apE p e).2 = 0) : (apE p e).1.addr = p.addr ∧ (apE p e).1.port = p.port := by
 unfold apE applyP at h ⊢
 split
 ·rename_i h1
  rw [if_pos h1] at h
  exact absurd h uJ
 ·rename_i h1
  rw [if_neg h1] at h
  split
  ·rename_i h2
   rw [if_pos h2] at h
   exact absurd h uJ
  ·rename_i h2
   rw [if_neg h2] at h
   split
   ·rename_i h3
    rw [if_pos h3] at h
    exact absurd h uJ
   ·unfold nextPool
    split <;> exact ⟨rfl, rfl⟩
theorem mkP_place : ∀ (ns : List Int) (p : PL), (mkP p ns).addr = p.addr ∧ (mkP p ns).port = p.port
 | [], p => ⟨rfl, rfl⟩
 | n :: ns, p => by
  obtain ⟨h1, h2⟩ := mkP_place ns (if (apE p (entP n)).2 = 0 then (apE p (entP n)).1 else p)
  unfold mkP
  rw [h1, h2]
  split
  ·rename_i h
   exact apE_place p _ h
  ·exact ⟨rfl, rfl⟩
theorem make6_place (ns : List Int) (m : Int) : (make6 ns m).addr = 10 ∧ (make6 ns m).port = 80 := mkP_place _ _
theorem bytes_str {w : World} {base : Nat} {v : Value} {l : List Int} (h : Bytes w base v l) : (convert 39 9 v).run Tryz.prog w = .ok (.string (strOfNums l)) w :=
 own_string (n := l.length) Tryz.underlying39 Tryz.underlying5 Tryz.underlying9 (Kd.own_of_R h)
theorem St.again {S : Nat → Prop} {W w : World} {L : List (Nat × Nat × Array Value)} {Rs : List (Value × List Int)} (_ : St S W w L Rs) : St S w w [] [] := St.init _ _
theorem ba_refl (s : ByteArray) : (s == s) = true := by
 rcases s with ⟨d⟩
 show (d == d) = true
 exact beq_self_eq_true d
theorem newpl_z (w : World) : Calls Tryz.prog 6 #[] w fun e w' => ∃ (gu : Nat) (z : Array Value), e = .returned (.pointer (some ⟨gu, 0, none⟩)) ∧ Aside0 (gu = w.heap.size) ∧ Aside0 (z = PLN zeroP false nrZ (.slice none 0 0)) ∧ Aside0 (Blk w' gu 70 z) ∧ Below w.heap.size w w' :=
 (newpl_calls w).mono (fun _ _ h => ⟨_, _, h.1, ⟨rfl⟩, ⟨rfl⟩, ⟨h.2.1⟩, h.2.2⟩)
theorem load_z (g : Nat) (z : Array Value) (q : PL) (hz : z = PLN zeroP false nrZ (.slice none 0 0)) (hq : Whl.PInv q) (w : World) (hb : Blk w g 70 z) :
 Calls Tryz.prog 7 #[.pointer (some ⟨g, 0, none⟩), .agg (pcs q)] w fun e w' => e = .returned (.tuple #[]) ∧ (∃ Aw nw cw, UN w' g q nrZ (.slice Aw nw cw) (Whl.wheelOf q.sl)) ∧ Chg (fun j => j = g) w w' := by
 subst hz
 exact load_u g zeroP q false nrZ _ zeroP_len hq NR.zero w hb
theorem chain4n (v1 v2 v3 : Bool) : v1 = false ∨ (v1 = true ∧ v2 = false) ∨ (v1 = true ∧ v2 = true ∧ v3 = false) ∨ (v1 = true ∧ v2 = true ∧ v3 = true) := by
 cases v1 <;> cases v2 <;> cases v3 <;> simp
theorem TopSwap_walk (W : World) (A0 : Option Addr) (c0 : Nat) (ns : List Int) (hl0 : ns.length ≤ 4611686018427387904) (hi0 : ∀ x ∈ ns, -9223372036854775808 ≤ x ∧ x ≤ 9223372036854775807) (hc0 : ns.length ≤ c0) (hC0 : Kd.C (Kd.int .i64) W A0 ns.length ns) (A1 : Option Addr) (c1 : Nat) (ks : List Int) (hl1 : ks.length ≤ 4611686018427387904) (hi1 : ∀ x ∈ ks, -9223372036854775808 ≤ x ∧ x ≤ 9223372036854775807) (hc1 : ks.length ≤ c1) (hC1 : Kd.C (Kd.int .i64) W A1 ks.length ks) (A2 : Option Addr) (c2 : Nat) (ms : List Int) (hl2 : ms.length ≤ 4611686018427387904) (hi2 : ∀ x ∈ ms, -9223372036854775808 ≤ x ∧ x ≤ 9223372036854775807) (hc2 : ms.length ≤ c2) (hC2 : Kd.C (Kd.int .i64) W A2 ms.length ms) (n : Int) (hn : -9223372036854775808 ≤ n ∧ n ≤ 9223372036854775807) (m : Int) (hm : -9223372036854775808 ≤ m ∧ m ≤ 9223372036854775807) : Calls Tryz.prog 3 #[.slice A0 ns.length c0, .slice A1 ks.length c1, .slice A2 ms.length c2, .int .i64 n, .int .i64 m] W fun e w' => e = .returned (.bool true) ∧ Below W.heap.size W w' := by
 have hu41 := Tryz.underlying41
 have hu45 := Tryz.underlying45
 have HNL := mA hl0
 have HNI := mA hi0
 have HCN := mA hC0
 have HCK := mA hC1
 have HCM := mA hC2
 have HKL := mA hl1
 have HML := mA hl2
 obtain ⟨p, hp⟩ : ∃ p, p = make6 ns 60 := ⟨_, rfl⟩
 have HPP := mA hp
 have HPI : Aside0 (Whl.PInv p) := ⟨by rw [hp]; exact Whl.PInv.make ns 60 hi0⟩
 have HAD : Aside0 (p.addr = 10 ∧ p.port = 80) := ⟨by rw [hp]; exact make6_place ns 60⟩
 obtain ⟨q, hq⟩ : ∃ q, q = make6 ns 10 := ⟨_, rfl⟩
 have HQQ := mA hq
 have HQI : Aside0 (Whl.PInv q) := ⟨by rw [hq]; exact Whl.PInv.make ns 10 hi0⟩
 clear hp hq hl0 hi0 hc0 hC0 hl1 hi1 hc1 hC1 hl2 hi2 hc2 hC2 hn hm
 have HS : Aside0 (St (fun _ => False) W W [] []) := ⟨St.init _ _⟩
 go_enter Tryz.func3, Tryz.ntmps3
 go_wp2_with (first
  | (go_at_call 4; refine (known_calls _).mono ?_; rintro e_ _ ⟨rfl, hb_⟩; replace HS := HS.bl hb_; clear hb_)
  | (go_at_call 5; (with_reducible refine (make_calls A0 c0 ns 60 uJ HNL.out HNI.out _ (Kd.C_below HCN.out HS.nb)).mono ?_); rw [← HPP.out]; rintro e_ _ ⟨rfl, hb_⟩; replace HS := HS.bl hb_; clear hb_)
  | ((with_reducible refine zd 11 ?_); refine pl_alloc (N := 11) rfl rfl rfl ?_; intro tp hg_ _ hbx_ hb_; replace HS := HS.nw hg_ hbx_ hb_; clear hg_ hbx_ hb_)
  | ((with_reducible refine zst 33 11 ?_); refine pl_store (p := p) rfl rfl (.tmp 11) (.tmp 23) rfl rfl rfl HS.b0 (pcs_size _ zeroP_len) HPI.out.len ?_; intro _ hb_ hg_; replace HS := mA (HS.out.grown 0 rfl hb_ hg_); simp only [List.set_cons_zero, List.set_cons_succ] at HS; clear hb_ hg_)
  | (go_at_call 6; (fail_if_success (have h_ := HG.out)); (with_reducible refine (newpl_z _).mono ?_); rintro e_ _ ⟨gu, zu, rfl, hgu_, HZU, HU0, hb_⟩; have HG : Aside0 (W.heap.size ≤ gu) := ⟨by rw [hgu_.out]; exact HS.out.C.size⟩; replace HS := HS.bl hb_; clear hb_ hgu_)
  | (go_at_call 6; (with_reducible refine (newpl_z _).mono ?_); rintro e_ _ ⟨gv, zv, rfl, hgu_, HZV, HV0, hb_⟩; have HGV : Aside0 (W.heap.size ≤ gv ∧ gv ≠ gu) := ⟨by rw [hgu_.out]; exact ⟨HS.out.C.size, fun e => absurd HU0.out.lt (by rw [← e]; exact Nat.lt_irrefl _)⟩⟩; replace HU0 := mA (HU0.out.below hb_); replace HS := HS.bl hb_; clear hb_ hgu_)
  | (go_at_call 5; (with_reducible refine (make_calls A0 c0 ns 10 uJ HNL.out HNI.out _ (Kd.C_below HCN.out HS.nb)).mono ?_); rw [← HQQ.out]; rintro e_ _ ⟨rfl, hb_⟩; replace HU0 := mA (HU0.out.below hb_); replace HV0 := mA (HV0.out.below hb_); replace HS := HS.bl hb_; clear hb_)
  | (go_at_call 7; refine (load_z gu zu q HZU.out HQI.out _ HU0.out).mono ?_; rintro e_ _ ⟨rfl, ⟨Aw, nw, cw, hu_⟩, hc_⟩; replace HS := mA (HS.out.side hc_ HU0.out uJ xU (Or.inr HG.out)); replace HV0 := mA (hc_.blk HV0.out HGV.out.2); have HU := mA hu_; clear HU0 hu_ hc_))
 go_loopg [14] 11 (fun kq v14 w' => ∃ (i : Nat) (nr : List Value) (Aw : Option Addr) (nw cw : Nat), v14 = .int .i64 (i : Int) ∧ Aside0 (i + kq = 11 ∧ i ≤ 10) ∧ Aside0 (UN w' gu q nr (.slice Aw nw cw) (Whl.wheelOf q.sl)) ∧ Aside0 (Blk w' gv 70 zv) ∧ Aside0 (St (fun _ => False) W w' [(tp, 33, pcs p)] []))
 case atStart => exact ⟨0, nrZ, Aw, nw, cw, rfl, ⟨kC⟩, HU, HV0, HS⟩
 case round =>
  clear HU HV0 HS
  obtain ⟨i, nr, Aw, nw, cw, rfl, HI, HU, HV0, HS⟩ := hrel
  cases gk with
  | zero => have := HI.out; omega
  | succ k1 =>
   have hch := chain4n (decide ((i : Int) < (ks.length : Int))) (decide ((i : Int) < (ms.length : Int))) (decide ((i : Int) < 10))
   rcases hch with z1 | ⟨z1, z2⟩ | ⟨z1, z2, z3⟩ | ⟨z1, z2, z3⟩
   iterate 3
    ·first | have qz : (i < ks.length) = False := eq_false (by have h_ := of_decide_eq_false z1; omega) | have qz : (i < ms.length) = False := eq_false (by have h_ := of_decide_eq_false z2; omega) | have qz : ((i : Int) < 10) = False := eq_false (by have h_ := of_decide_eq_false z3; omega)
     go_upto_region 14 with (first
      | ((with_reducible refine zd 65 ?_); refine pl_load (N := 65) rfl rfl (.tmp 11) rfl rfl HS.b0 HPI.out.len ?_)
      | ((with_reducible refine zd 68 ?_); refine pl_load (N := 68) rfl rfl (.tmp 11) rfl rfl HS.b0 HPI.out.len ?_)
      | (go_at_call 7; (with_reducible refine (load_u gu q p true nr _ HU.out.L HPI.out HU.out.N _ HU.out.B).mono ?_); rintro e_ _ ⟨rfl, ⟨Ap, np, cp, hu_⟩, hc_⟩; replace HS := mA (HS.out.side hc_ HU.out.B uJ xU (Or.inr HG.out)); replace HV0 := mA (hc_.blk HV0.out HGV.out.2); have HU2 := mA hu_; clear HU hu_ hc_)
      | (go_at_call 7; (with_reducible refine (load_z gv zv p HZV.out HPI.out _ HV0.out).mono ?_); rintro e_ _ ⟨rfl, ⟨Aq, nq, cq, hu_⟩, hc_⟩; replace HS := mA (HS.out.side hc_ HV0.out uJ xU (Or.inr HGV.out.1)); have U_ := mA (HU2.out.chg hc_ (fun e => HGV.out.2 e.symm) (fun k hk e => Kd.R_ne HU2.out.R HV0.out uJ (by rw [hk, e]))); clear HU2; have HU := U_; have HV := mA hu_; clear HV0 U_ hu_ hc_))
     all_goals
      have HTP := mA HS.b0
      have HS0 := mA HS.nb
      have HS1 := mA HS.out.again
      clear HS HI
      have HGU : Aside0 (gu < _ ∧ gv < _) := ⟨⟨HU.out.B.lt, HV.out.B.lt⟩⟩
      have HS := HS1
      clear HS1
      go_upto_region 18 with (first
       | ((with_reducible refine zd 70 ?_); refine pl_load (N := 70) rfl rfl (.tmp 11) rfl rfl HTP.out HPI.out.len ?_)
       | (go_at_call 10; refine (in9_calls p HPI.out.len _ _ _).mono ?_; rintro e_ _ ⟨kd, life, piece, frm, dst, fp, tp_, flags, label, code, bare, Ao, no, co, Ad, nd, cd, lo, ld, rfl, hno_, hnd_, hx_, hyo_, hyd_, h1_, h2_, hr1_, hr2_, hap_, hb_⟩; subst hno_; subst hnd_; obtain ⟨_, hp0_, hcd_, hf1_, hf2_, hd_, ht_, hf3_, hf4_, hl_⟩ := hx_; subst hp0_; subst hcd_; subst hd_; subst ht_; have HPK : Aside0 (BY ld ∧ ld.length ≤ 2 ∧ 0 ≤ frm ∧ frm ≤ 4294967295 ∧ 0 ≤ fp ∧ fp ≤ 65535) := ⟨⟨hyd_, hl_, hf1_, hf2_, hf3_, hf4_⟩⟩; replace HS := mA (HS.out.rowb2 hr1_ hr2_ hap_ hb_); clear hyo_ hyd_ h1_ h2_ hr1_ hr2_ hap_ hb_ hf1_ hf2_ hf3_ hf4_ hl_)
       | (refine zB 15 HS (run_pk _ _ _ rfl) ?_; clear HS; intro gx _ HS z_; clear z_)
       | (refine zS 45 15 HS 0 ?_; clear HS; intro _ HS z_; clear z_)
       | ((with_reducible refine zst 3 74 ?_); refine sc3_event HS.out 0 rfl rfl rfl (.tmp 74) _ rfl 0 rfl rfl rfl ?_; intro _ h1_; replace HS := mA h1_; simp only [List.setIfInBounds_toArray, List.set_cons_zero, List.set_cons_succ] at HS; clear h1_)
       | ((with_reducible refine zst 39 75 ?_); refine sc39_event HS.out 0 rfl rfl rfl (.tmp 75) _ rfl 11 rfl rfl rfl ?_; intro _ h1_; replace HS := mA h1_; simp only [List.setIfInBounds_toArray, List.set_cons_zero, List.set_cons_succ] at HS; clear h1_)
       | ((with_reducible refine zst 3 76 ?_); refine sc3_event HS.out 0 rfl rfl rfl (.tmp 76) _ rfl 7 rfl rfl rfl ?_; intro _ h1_; replace HS := mA h1_; simp only [List.setIfInBounds_toArray, List.set_cons_zero, List.set_cons_succ] at HS; clear h1_)
       | ((with_reducible refine zst 3 77 ?_); refine sc3_event HS.out 0 rfl rfl rfl (.tmp 77) _ rfl 1 rfl rfl rfl ?_; intro _ h1_; replace HS := mA h1_; simp only [List.setIfInBounds_toArray, List.set_cons_zero, List.set_cons_succ] at HS; clear h1_)
       | ((with_reducible refine zst 4 78 ?_); refine sc4_event HS.out 0 rfl rfl rfl (.tmp 78) _ rfl 9 rfl rfl rfl ?_; intro _ h1_; replace HS := mA h1_; simp only [List.setIfInBounds_toArray, List.set_cons_zero, List.set_cons_succ] at HS; clear h1_)
       | (go_at_call 11; refine (withint_c _ _ uJ uJ _).mono ?_; rintro e_ _ ⟨rfl, hb_⟩; obtain ⟨lab, hlab⟩ : ∃ y, y = m % 65536 := ⟨_, rfl⟩; rw [← hlab]; have HLA : Aside0 (0 ≤ lab ∧ lab ≤ 65535) := ⟨by rw [hlab]; omega⟩; clear hlab; replace HS := HS.bl hb_; clear hb_)
       | ((with_reducible refine zst 3 81 ?_); refine sc3_event HS.out 0 rfl rfl rfl (.tmp 81) _ rfl 8 rfl rfl rfl ?_; intro _ h1_; replace HS := mA h1_; simp only [List.setIfInBounds_toArray, List.set_cons_zero, List.set_cons_succ] at HS; clear h1_)
       | ((with_reducible refine zd 83 ?_); refine Kd.event_run rfl (run_ldpk _ _ _ gx _ (.tmp 15) rfl rfl HS.b0 rfl) ?_)
       | (go_at_call 12; refine (build_gram 7 frm p.addr fp p.port lab Ad cd ld _ (Kd.R_reads' HS.r1).2.2 (Kd.R_reads' HS.r1).2.1 (by have h_ := HPK.out; omega) HPK.out.1 uJ (by have h_ := HPK.out; omega) (by have h_ := HAD.out; omega) (by have h_ := HPK.out; omega) (by have h_ := HAD.out; omega) HLA.out).mono ?_; rintro e_ _ ⟨v_, rfl, hr_, hy_, h2_, hb_⟩; obtain ⟨l, hl⟩ : ∃ l, l = gramB 7 frm p.addr fp p.port lab ld := ⟨_, rfl⟩; rw [← hl] at hr_ hy_ h2_; clear hl; obtain ⟨Ab, cb, rfl⟩ := Kd.R_slice hr_; have HY := mA hy_; have H2 := mA h2_; replace HS := mA ((HS.out.rowb hr_ hb_)); clear hr_ hy_ h2_ hb_))
      obtain ⟨gd, gs, gb, gl, hG⟩ : ∃ gd gs gb gl, takeG p (Whl.wheelOf p.sl) l = (gd, gs, gb, gl) := ⟨_, _, _, _, rfl⟩
      have HGG := mA hG
      clear hG
      replace HU := mA (HU.out.below HS.nb)
      replace HV := mA (HV.out.below HS.nb)
      replace HS := mA ((HS.out.wider (S' := (fun j => j = gu ∨ j = gv)) (fun _ h => h.elim)).sub (List.nil_sublist _) (List.Sublist.cons_cons _ (List.nil_sublist _)))
      have e1_ : (gd == gd) = true := beq_self_eq_true gd
      have e2_ : (gs == gs) = true := beq_self_eq_true gs
      have e3_ : (gb == gb) = true := beq_self_eq_true gb
      go_wp2_with (first
       | (go_at_call 8; (with_reducible refine (take_calls HU.out Ab cb l (Kd.R_lower HS.r0 (Nat.zero_le _)) HY.out).mono ?_); rintro e_ _ ⟨⟨d_, s_, b_, Aa, na, ca, l_, rfl, hr_, hi_⟩, hu_, hc_⟩; have he_ := ((hi_ H2.out).trans HGG.out).symm; simp only [Prod.mk.injEq] at he_; obtain ⟨rfl, rfl, rfl, rfl⟩ := he_; have HR1 := mA hr_; replace HV := mA (HV.out.chg hc_ HGV.out.2 (fun k hk e => Kd.R_ne HV.out.R HU.out.B uJ (by rw [hk, e]))); replace HS := mA (HS.out.side hc_ HU.out.B uJ xU (Or.inl (Or.inl rfl))); clear HU hr_ hi_ hu_ hc_)
       | (go_at_call 8; (with_reducible refine (take_calls HV.out Ab cb l (Kd.R_lower HS.r0 (Nat.zero_le _)) HY.out).mono ?_); rintro e_ _ ⟨⟨d_, s_, b_, Ac, nc, cc, l_, rfl, hr_, hi_⟩, hu_, hc_⟩; have he_ := ((hi_ H2.out).trans HGG.out).symm; simp only [Prod.mk.injEq] at he_; obtain ⟨rfl, rfl, rfl, rfl⟩ := he_; have HR2 := mA hr_; replace HR1 := mA (bytes_chg HR1.out HV.out.B uJ hc_); replace HS := mA (HS.out.side hc_ HV.out.B uJ xU (Or.inl (Or.inr rfl))); clear HV hr_ hi_ hu_ hc_)
       | (refine zB 18 HS (run_al41 _ _ _ rfl) ?_; clear HS; intro go1 _ HS z_; replace HR1 := z_ HR1; replace HR2 := z_ HR2; clear z_)
       | (refine zB 19 HS (run_al41 _ _ _ rfl) ?_; clear HS; intro go2 _ HS z_; replace HR1 := z_ HR1; replace HR2 := z_ HR2; clear z_)
       | (refine zS 41 18 HS 1 ?_; clear HS; intro _ HS z_; replace HR1 := z_ HR1; replace HR2 := z_ HR2; clear z_)
       | (refine zS 41 19 HS 0 ?_; clear HS; intro _ HS z_; replace HR1 := z_ HR1; replace HR2 := z_ HR2; clear z_; have o00_ : World.cell? _ ⟨go1, 0, none⟩ = some (.int .i64 gd) := HS.c 1 0; have o01_ : World.cell? _ ⟨go1, 1, none⟩ = some (.int .i64 gs) := HS.c 1 1; have o02_ : World.cell? _ ⟨go1, 2, none⟩ = some (.bool gb) := HS.c 1 2; have o03_ : World.cell? _ ⟨go1, 3, none⟩ = some (.slice Aa na ca) := HS.c 1 3; have o10_ : World.cell? _ ⟨go2, 0, none⟩ = some (.int .i64 gd) := HS.c 0 0; have o11_ : World.cell? _ ⟨go2, 1, none⟩ = some (.int .i64 gs) := HS.c 0 1; have o12_ : World.cell? _ ⟨go2, 2, none⟩ = some (.bool gb) := HS.c 0 2; have o13_ : World.cell? _ ⟨go2, 3, none⟩ = some (.slice Ac nc cc) := HS.c 0 3; have s1_ := bytes_str HR1.out; have s2_ := bytes_str HR2.out; obtain ⟨str, hstr⟩ : ∃ y, y = strOfNums gl := ⟨_, rfl⟩; rw [← hstr] at s1_ s2_; clear hstr; have e4_ : (str == str) = true := ba_refl str))
      go_ret
      exact ⟨rfl, ((Chg.of_below HS0.out (fun _ => False)).trans HS.out.C (fun j hj e => by rcases e with e | e; exact absurd hj (by rw [e]; exact Nat.not_lt.2 HG.out); exact absurd hj (by rw [e]; exact Nat.not_lt.2 HGV.out.1))).to_below (fun _ h => h.elim)⟩
   ·skip
    have hki : (i : Int) < (ks.length : Int) := of_decide_eq_true z1
    have hmi : (i : Int) < (ms.length : Int) := of_decide_eq_true z2
    have hi10 : (i : Int) < 10 := of_decide_eq_true z3
    obtain ⟨ak, ek, _⟩ := Kd.at_int HCK.out (i : Int) uY uY
    subst ek
    obtain ⟨am, em, _⟩ := Kd.at_int HCM.out (i : Int) uY uY
    subst em
    have HXK : Aside0 (∀ w, Below W.heap.size W w → w.cell? (ak.add i) = some (.int .i64 (rd ks (i : Int)))) := ⟨fun w hb => by
     obtain ⟨ad2, e2, hx2⟩ := Kd.at_int (Kd.C_below HCK.out hb) (i : Int) uY hki
     cases e2
     rw [Int.toNat_natCast] at hx2
     exact hx2⟩
    have HXM : Aside0 (∀ w, Below W.heap.size W w → w.cell? (am.add i) = some (.int .i64 (rd ms (i : Int)))) := ⟨fun w hb => by
     obtain ⟨ad2, e2, hx2⟩ := Kd.at_int (Kd.C_below HCM.out hb) (i : Int) uY hmi
     cases e2
     rw [Int.toNat_natCast] at hx2
     exact hx2⟩
    have qk1 : ((i : Int) < (ks.length : Int)) = True := eq_true hki
    have qk2 : (i < ks.length) = True := eq_true uY
    have qm1 : ((i : Int) < (ms.length : Int)) = True := eq_true hmi
    have qm2 : (i < ms.length) = True := eq_true uY
    have qi : (0 ≤ (i : Int)) = True := eq_true uY
    have hw1 : wrap64 ((i : Int) + 1) = ((i + 1 : Nat) : Int) := by rw [w64 uY uY]; omega
    have HI10 : Aside0 (i < 10) := ⟨qN⟩
    clear hki hmi hi10
    go_upto_region 11 with fail
    replace HS := HS.dr
    replace HU := mA (HU.out.below (below_drew1 (Below.refl _ _)))
    replace HV0 := mA (HV0.out.below (below_drew1 (Below.refl _ _)))
    refine zT 12 (fun w' => Blk w' tp 33 (pcs p) ∧ w'.cell? (ak.add i) = some (.int .i64 (rd ks (i : Int))) ∧ w'.cell? (am.add i) = some (.int .i64 (rd ms (i : Int)))) ⟨HS.b0, HXK.out _ HS.nb, HXM.out _ HS.nb⟩ fun hHeld => ?_
    generalize World.drew _ = wD at HS HU HV0 hHeld ⊢
    refine run_ [(0, 52), (2, 54), (3, 55), (4, 56), (6, 58), (7, 59), (8, 60), (1, 53), (5, 57), (9, 61)] (fuel := 2) (a2 := ?_) rfl uW (fun _ _ _ _ _ h => h) hHeld ?_ ?_
    rotate_left
    ·iterate 7
      refine Steps.on (v := ?_) (a1 := ?_) rfl rfl (by rfl) ?_ ?_ ?_
      rotate_left
      ·exact jQ
      rotate_left
      ·exact zU
     refine Steps.on (v := ?_) (a1 := ?_) rfl rfl (by rfl) ?_ ?_ ?_
     rotate_left
     ·intro w' hs
      refine (run_ld33 _ _ w' tp p (.tmp 11) ?_ ?_ hs.1 HPI.out.len).trans ?_
      ·rfl
      ·rfl
      ·with_reducible rfl
     rotate_left
     ·exact zU
     iterate 2
      refine Steps.on (v := ?_) (a1 := ?_) rfl rfl (by rfl) ?_ ?_ ?_
      rotate_left
      ·exact jQ
      rotate_left
      ·exact zU
     exact Steps.end_
    refine zO 10 (tf 11 1) fun K hK => ?_
    refine zG Tryz.func9 ((some_calls p HPI.out.len _ _ _).mono ?_)
    rintro e_ _ ⟨Ab, nb, cb, lb, rfl, hn_, hy_, hr_, hb_⟩
    subst hn_
    refine ⟨_, rfl, ?_⟩
    have HYB := mA hy_
    replace HU := mA (HU.out.below hb_)
    replace HV0 := mA (HV0.out.below hb_)
    replace HS := HS.rw_ hr_ hb_
    clear hy_ hr_ hb_ hHeld
    refine hK.out _ _ ⟨HS.b0, HXK.out _ HS.nb, HXM.out _ HS.nb⟩ (fun hHeld => ?_)
    clear hK K
    refine zN ?_
    refine zO 11 (tf 12 0) fun K hK => ?_
    refine zG Tryz.func8 ((take_calls HU.out Ab cb lb (Kd.R_lower HS.r0 (Nat.zero_le _)) HYB.out).mono ?_)
    rintro e_ _ ⟨⟨d_, s_, b_, Aa, na, ca, la, rfl, _, _⟩, hu_, hc_⟩
    refine ⟨_, rfl, ?_⟩
    replace HV0 := mA (hc_.blk HV0.out HGV.out.2)
    replace HS := mA ((HS.out.sub (List.Sublist.refl _) (List.nil_sublist _)).side hc_ HU.out.B uJ xU (Or.inr HG.out))
    clear HU
    have HU := mA hu_
    clear hu_ hc_ hHeld
    refine hK.out _ _ ⟨HS.b0, HXK.out _ HS.nb, HXM.out _ HS.nb⟩ (fun hHeld => ?_)
    clear hK K
    refine zN ?_
    refine done_ uW ?_
    clear hHeld
    go_wp2_with fail
    go_roundg k1
    case measure => omega
    case rel =>
     obtain ⟨nr2, hu2_⟩ := HU.out
     exact ⟨i + 1, nr2, Aw, nw, cw, by first | rfl | (rw [hw1]) | (simp only [hw1]; done), ⟨by have h_ := HI.out; have h2_ := HI10.out; omega⟩, ⟨hu2_⟩, HV0, HS⟩
end Go.Proofs.YtkpfojpmigchlaaGreat.Own
