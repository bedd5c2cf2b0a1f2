/- Parts of the proof of TopSwap, laid together and made shorter by a program of this claim. -/
import Derived.Test.YtkpfojpmigchlaaGreatK08
import Derived.Test.YtkpfojpmigchlaaGreatK01
import Derived.Test.YtkpfojpmigchlaaGreatK03
set_option linter.unusedVariables false
set_option linter.unusedSimpArgs false
namespace Go.Proofs.YtkpfojpmigchlaaGreat.Own
open Go Go.RowKit Go.Proofs.YtkpfojpmigchlaaGreatW.PrintWords Go.Proofs.YtkpfojpmigchlaaGreatW.PrintMore Go.Proofs.YtkpfojpmigchlaaGreatW.PrintLast Go.Proofs.YtkpfojpmigchlaaGreat.Q
open Go.Proofs.YtkpfojpmigchlaaGreat.Zip
open Go.Proofs.YtkpfojpmigchlaaGreat.Zap
set_option maxHeartbeats 16000000
set_option maxRecDepth 100000
theorem cells13 {w : World} {g : Nat} {a0 a1 a2 a3 a4 a5 a6 a7 a8 a9 a10 a11 a12 : Value} (h : Blk w g 45 #[a0, a1, a2, a3, a4, a5, a6, a7, a8, a9, a10, a11, a12]) : w.cell? ⟨g, 0, none⟩ = some a0 ∧ w.cell? ⟨g, 1, none⟩ = some a1 ∧ w.cell? ⟨g, 2, none⟩ = some a2 ∧ w.cell? ⟨g, 3, none⟩ = some a3 ∧ w.cell? ⟨g, 4, none⟩ = some a4 ∧ w.cell? ⟨g, 5, none⟩ = some a5 ∧ w.cell? ⟨g, 6, none⟩ = some a6 ∧ w.cell? ⟨g, 7, none⟩ = some a7 ∧ w.cell? ⟨g, 8, none⟩ = some a8 ∧ w.cell? ⟨g, 9, none⟩ = some a9 ∧ w.cell? ⟨g, 10, none⟩ = some a10 ∧ w.cell? ⟨g, 11, none⟩ = some a11 ∧ w.cell? ⟨g, 12, none⟩ = some a12 :=
 ⟨(blk_cell h 0).trans rfl, (blk_cell h 1).trans rfl, (blk_cell h 2).trans rfl, (blk_cell h 3).trans rfl, (blk_cell h 4).trans rfl, (blk_cell h 5).trans rfl, (blk_cell h 6).trans rfl, (blk_cell h 7).trans rfl, (blk_cell h 8).trans rfl, (blk_cell h 9).trans rfl, (blk_cell h 10).trans rfl, (blk_cell h 11).trans rfl, (blk_cell h 12).trans rfl⟩
theorem w8 (x : Int) : 0 ≤ IntKind.u8.wrap x ∧ IntKind.u8.wrap x ≤ 255 := by
 rw [IntKind.wrap_u8]
 omega
theorem BY.app {l m : List Int} (h : BY l) (h2 : BY m) : BY (l ++ m) := fun x hx => (List.mem_append.1 hx).elim (h x) (h2 x)
theorem BY.rep (n : Nat) : BY (List.replicate n 0) := fun x hx => by rw [(List.mem_replicate.1 hx).2]; decide
theorem chain8 (v1 v2 v3 v4 v5 v6 v7 : Bool) : v1 = true ∨ (v1 = false ∧ v2 = true) ∨ (v1 = false ∧ v2 = false ∧ v3 = true) ∨ (v1 = false ∧ v2 = false ∧ v3 = false ∧ v4 = true) ∨ (v1 = false ∧ v2 = false ∧ v3 = false ∧ v4 = false ∧ v5 = true) ∨ (v1 = false ∧ v2 = false ∧ v3 = false ∧ v4 = false ∧ v5 = false ∧ v6 = true) ∨ (v1 = false ∧ v2 = false ∧ v3 = false ∧ v4 = false ∧ v5 = false ∧ v6 = false ∧ v7 = true) ∨ (v1 = false ∧ v2 = false ∧ v3 = false ∧ v4 = false ∧ v5 = false ∧ v6 = false ∧ v7 = false) := by
 cases v1 <;> cases v2 <;> cases v3 <;> cases v4 <;> cases v5 <;> cases v6 <;> cases v7 <;> simp
theorem chain6 (v1 v2 v3 v4 v5 : Bool) : v1 = true ∨ (v1 = false ∧ v2 = true) ∨ (v1 = false ∧ v2 = false ∧ v3 = true) ∨ (v1 = false ∧ v2 = false ∧ v3 = false ∧ v4 = true) ∨ (v1 = false ∧ v2 = false ∧ v3 = false ∧ v4 = false ∧ v5 = true) ∨ (v1 = false ∧ v2 = false ∧ v3 = false ∧ v4 = false ∧ v5 = false) := by
 cases v1 <;> cases v2 <;> cases v3 <;> cases v4 <;> cases v5 <;> simp
theorem build3_calls (kd life piece frm dst fp tp flags label code : Int) (bare : Bool) (Ao : Option Addr) (co : Nat) (lo : List Int) (Ad : Option Addr) (cd : Nat) (ld : List Int) (W : World) (hO : Bytes W 0 (.slice Ao lo.length co) lo) (hD : Bytes W 0 (.slice Ad ld.length cd) ld) (hyo : BY lo) (hyd : BY ld) (hno : lo.length ≤ 2000) (hnd : ld.length ≤ 2000) : Calls Tryz.prog 33 #[.agg #[.int .i64 kd, .int .i64 life, .int .i64 piece, .int .i64 frm, .int .i64 dst, .int .i64 fp, .int .i64 tp, .int .i64 flags, .int .i64 label, .bool bare, .int .i64 code, .slice Ao lo.length co, .slice Ad ld.length cd]] W fun e w' => B3 W e w' := by
 have hu45 := Tryz.underlying45
 have HO := mA hO
 have HD := mA hD
 have HYO := mA hyo
 have HYD := mA hyd
 have HN0 : Aside0 (lo.length ≤ 2000 ∧ ld.length ≤ 2000) := ⟨⟨hno, hnd⟩⟩
 have HS : Aside0 (St (fun _ => False) W W [] []) := ⟨St.init _ _⟩
 clear hO hD hyo hyd hno hnd
 go_enter Tryz.func33, Tryz.ntmps33
 go_upto_region 1 with (first
  | (refine zA 1 HS ?_; clear HS; intro gp _ HS z_; clear z_; obtain ⟨c0_, c1_, c2_, c3_, c4_, c5_, c6_, c7_, c8_, c9_, c10_, c11_, c12_⟩ := cells13 HS.b0))
 cases x1 : decide (kd < 1) with
 | true =>
  go_wp2_with fail
  go_ret2
  exact B3.nil rfl HS.nb
 | false =>
  cases x2 : decide (3 < kd) with
  | true =>
   go_wp2_with fail
   go_ret2
   exact B3.nil rfl HS.nb
  | false =>
   go_upto_region 3 with fail
   clear c0_ c1_ c2_ c3_ c4_ c5_ c6_ c7_ c8_ c9_ c10_ c11_ c12_
   replace HS := HS.dr
   refine zT 12 (fun w' => w'.cell? ⟨gp, 0, none⟩ = some (.int .i64 kd)) (HS.c 0 0) fun hHeld => ?_
   generalize World.drew _ = wD at HS hHeld ⊢
   refine run_ [(0, 18), (3, 21), (6, 24), (1, 19), (2, 20), (9, 4), (4, 22), (5, 23), (10, 5), (7, 25), (8, 26), (11, 6)] (fuel := 0) (a2 := ?_) rfl uW (fun _ _ _ _ _ h => h) hHeld ?_ ?_
   rotate_left
   ·exact jU
   refine done_ uW ?_
   clear hHeld
   obtain ⟨c0_, c1_, c2_, c3_, c4_, c5_, c6_, c7_, c8_, c9_, c10_, c11_, c12_⟩ := cells13 HS.b0
   rcases (show kd = 1 ∨ kd = 2 ∨ kd = 3 from by have h1_ := of_decide_eq_false x1; have h2_ := of_decide_eq_false x2; omega) with hk | hk | hk
   ·skip
    subst hk
    have hch := chain8 (out3 life 255) (out3 piece 255) (out3 frm 4294967295) (out3 dst 4294967295) (out3 fp 65535) (out3 tp 65535) (out3 flags 15)
    rcases hch with ⟨y0⟩ | ⟨y0, y1⟩ | ⟨y0, y1, y2⟩ | ⟨y0, y1, y2, y3⟩ | ⟨y0, y1, y2, y3, y4⟩ | ⟨y0, y1, y2, y3, y4, y5⟩ | ⟨y0, y1, y2, y3, y4, y5, y6⟩ | ⟨y0, y1, y2, y3, y4, y5, y6⟩
    iterate 7
     ·exact jR
    ·skip
     go_upto_region 6 with (first
      | (go_at_call 77; refine (out3_c _ _ _).mono ?_; rintro e_ _ ⟨rfl, hb_⟩; clear c0_ c1_ c2_ c3_ c4_ c5_ c6_ c7_ c8_ c9_ c10_ c11_ c12_; replace HS := HS.bl hb_; clear hb_; obtain ⟨c0_, c1_, c2_, c3_, c4_, c5_, c6_, c7_, c8_, c9_, c10_, c11_, c12_⟩ := cells13 HS.b0))
     clear x1 x2 y0 y1 y2 y3 y4 y5 y6
     cases z1 : decide (40 < (lo.length : Int)) with
     | true =>
      go_wp2_with fail
      go_ret2
      exact B3.nil rfl HS.nb
     | false =>
      have HLO : Aside0 (lo.length ≤ 40) := ⟨by have h_ := of_decide_eq_false z1; omega⟩
      obtain ⟨n0, hn0⟩ : ∃ n0 : Nat, n0 = 24 + ld.length := ⟨_, rfl⟩
      obtain ⟨N, hN⟩ : ∃ N : Nat, N = n0 + lo.length := ⟨_, rfl⟩
      have w1_ : wrap64 (24 + (ld.length : Int)) = (n0 : Int) := by rw [w64 vY vY]; omega
      have w2_ : wrap64 ((n0 : Int) + (lo.length : Int)) = (N : Int) := by rw [w64 vY vY]; omega
      have HNN : Aside0 (N = 24 + ld.length + lo.length) := ⟨qN⟩
      clear hn0 hN
      cases z3 : decide (1500 < (N : Int)) with
      | true =>
       go_wp2_with fail
       go_ret2
       exact B3.nil rfl HS.nb
      | false =>
       have HNB : Aside0 (N ≤ 1500 ∧ 24 ≤ N) := ⟨by have h_ := of_decide_eq_false z3; have h2_ := HNN.out; omega⟩
       go_upto_region 16 with (first
        | ((with_reducible refine zd 117 ?_); refine made_event HS.out rfl (N := 117) rfl _ _ rfl 16 N rfl (congrArg (Value.int .i64) w2_) vR vR ?_; intro gb _ h1_ hb_; clear c0_ c1_ c2_ c3_ c4_ c5_ c6_ c7_ c8_ c9_ c10_ c11_ c12_; replace HS := mA (h1_); clear h1_ hb_))
       replace HS := HS.dr
       refine zT 18 (fun w' => w'.cell? ⟨gp, 0, none⟩ = some (.int .i64 1) ∧ w'.cell? ⟨gp, 1, none⟩ = some (.int .i64 life) ∧ w'.cell? ⟨gp, 2, none⟩ = some (.int .i64 piece)) ⟨HS.c 0 0, HS.c 0 1, HS.c 0 2⟩ fun hHeld => ?_
       generalize World.drew _ = wD2 at HS hHeld ⊢
       refine zR [(0,118),(1,119),(2,120),(3,121),(6,124),(9,127),(4,122),(5,123),(12,130),(7,125),(8,126),(10,128),(11,129)] 5 ?_ ?_
       refine zo 13 (tf 14 4) fun K hK => ?_
       refine skip_ (by rfl) rfl (run_st8 _ _ _ gb 0 _ _ (.tmp 130) (.tmp 123) rfl rfl rfl (bytes_get HS.r0 0 uJ).1 (bytes_get HS.r0 0 uJ).2) ?_
       have n_ := mA (HS.out.setb 0 rfl 0 (IntKind.u8.wrap 1))
       simp only [List.set_cons_zero, List.set_cons_succ] at n_
       clear HS hHeld
       generalize World.setCell _ _ _ = wE at n_ ⊢
       have HS := n_
       clear n_
       refine hK.out _ _ ⟨HS.c 0 0, HS.c 0 1, HS.c 0 2⟩ (fun hHeld => ?_)
       clear hK K
       refine zP 14 131 (tf 15 3) ?_
       refine zo 15 (tf 16 2) fun K hK => ?_
       refine skip_ (by rfl) rfl (run_st8 _ _ _ gb 1 _ _ (.tmp 131) (.tmp 126) rfl rfl rfl (bytes_get HS.r0 1 uJ).1 (bytes_get HS.r0 1 uJ).2) ?_
       have n_ := mA (HS.out.setb 0 rfl 1 (IntKind.u8.wrap life))
       simp only [List.set_cons_zero, List.set_cons_succ] at n_
       clear HS hHeld
       generalize World.setCell _ _ _ = wF at n_ ⊢
       have HS := n_
       clear n_
       refine hK.out _ _ ⟨HS.c 0 0, HS.c 0 1, HS.c 0 2⟩ (fun hHeld => ?_)
       clear hK K
       refine zP 16 132 (tf 17 1) ?_
       refine zo 17 (tf 18 0) fun K hK => ?_
       refine skip_ (by rfl) rfl (run_st8 _ _ _ gb 12 _ _ (.tmp 132) (.tmp 129) rfl rfl rfl (bytes_get HS.r0 12 uJ).1 (bytes_get HS.r0 12 uJ).2) ?_
       have n_ := mA (HS.out.setb 0 rfl 12 (IntKind.u8.wrap piece))
       simp only [List.set_cons_zero, List.set_cons_succ] at n_
       clear HS hHeld
       generalize World.setCell _ _ _ = wG at n_ ⊢
       have HS := n_
       clear n_
       refine hK.out _ _ ⟨HS.c 0 0, HS.c 0 1, HS.c 0 2⟩ (fun hHeld => ?_)
       clear hK K
       refine done_ uW ?_
       clear hHeld
       obtain ⟨lb, hlb⟩ : ∃ lb, lb = (((List.replicate 16 (0 : Int)).set 0 (IntKind.u8.wrap 1)).set 1 (IntKind.u8.wrap life)).set 12 (IntKind.u8.wrap piece) := ⟨_, rfl⟩
       rw [← hlb] at HS
       obtain ⟨nb, hnb⟩ : ∃ nb : Nat, nb = 16 := ⟨_, rfl⟩
       have HN : Aside0 (lb.length = nb ∧ nb = 16) := ⟨by rw [hlb]; simp [hnb]⟩
       have HYB : Aside0 (BY lb) := ⟨qT⟩
       rw [← hnb]
       rw [← hnb] at HS
       clear hlb hnb
       obtain ⟨c0_, c1_, c2_, c3_, c4_, c5_, c6_, c7_, c8_, c9_, c10_, c11_, c12_⟩ := cells13 HS.b0
       go_upto_region 21 with (first
        | (go_at_call 78; refine (put3_c _ _ _ uJ uJ uJ uJ xN HS.nb HS.r0).mono ?_; rintro e_ _ ⟨rfl, lc, hn_, hy_, hr_, hc_⟩; replace HN : Aside0 (lc.length = nb ∧ nb = 16) := ⟨⟨hn_.trans HN.out.1, HN.out.2⟩⟩; replace HYB : Aside0 (BY lc) := ⟨hy_ HYB.out⟩; clear hn_ hy_ c0_ c1_ c2_ c3_ c4_ c5_ c6_ c7_ c8_ c9_ c10_ c11_ c12_; replace HS := mA (HS.out.rset 0 rfl hr_ hc_); simp only [List.set_cons_zero, List.set_cons_succ] at HS; clear hr_ hc_; obtain ⟨c0_, c1_, c2_, c3_, c4_, c5_, c6_, c7_, c8_, c9_, c10_, c11_, c12_⟩ := cells13 HS.b0)
        | (go_at_call 79; refine (of1_c _ _ _ _ _ HS.r0 xN).mono ?_; rintro e_ _ ⟨⟨sv, rfl⟩, hb_⟩; clear c0_ c1_ c2_ c3_ c4_ c5_ c6_ c7_ c8_ c9_ c10_ c11_ c12_; replace HS := HS.bl hb_; clear hb_; obtain ⟨c0_, c1_, c2_, c3_, c4_, c5_, c6_, c7_, c8_, c9_, c10_, c11_, c12_⟩ := cells13 HS.b0))
       clear c0_ c1_ c2_ c3_ c4_ c5_ c6_ c7_ c8_ c9_ c10_ c11_ c12_
       replace HS := HS.dr
       refine zT 6 (fun w' => w'.cell? ⟨gp, 11, none⟩ = some (.slice Ao lo.length co)) (HS.c 0 11) fun hHeld => ?_
       generalize World.drew _ = wH at HS hHeld ⊢
       refine run_ [(0, 148), (2, 150), (3, 151)] (fuel := 3) (a2 := ?_) rfl uW (fun _ _ _ _ _ h => h) hHeld ?_ ?_
       rotate_left
       ·iterate 3
         refine Steps.on (v := ?_) (a1 := ?_) rfl rfl (by rfl) ?_ ?_ ?_
         rotate_left
         ·exact jK
         rotate_left
         ·exact zU
        exact Steps.end_
       refine zO 1 (tf 4 2) fun K hK => ?_
       refine az_step HS.out HS.nb (by rfl) (.tmp 148) (.const (.int .i64 8)) rfl 0 rfl 8 rfl rfl xN ?_
       intro A_ n_ c_ l_ _ hl_ hn_ h1_
       replace HN : Aside0 (l_.length = n_ ∧ n_ = 24) := ⟨⟨hn_.symm, qU⟩⟩
       replace HYB : Aside0 (BY l_) := ⟨by rw [hl_]; exact BY.app HYB.out (BY.rep 8)⟩
       clear hn_ hl_
       replace HS := mA (h1_)
       simp only [List.set_cons_zero, List.set_cons_succ] at HS
       clear h1_ hHeld
       refine hK.out _ _ (HS.c 0 11) (fun hHeld => ?_)
       clear hK K
       refine zN ?_
       refine zO 4 (tf 5 1) fun K hK => ?_
       refine ap_step HS.out HS.nb (by rfl) (.tmp 149) (.tmp 151) rfl 0 rfl rfl rfl (Kd.R_reads' (Kd.R_below HO.out HS.nb)).2.2 (by have h1_ := HN.out; have h2_ := HLO.out; omega) ?_
       intro A2_ n2_ c2_ l2_ _ hl_ hn_ h1_
       replace HN : Aside0 (l2_.length = n2_ ∧ n2_ = 24 + lo.length) := ⟨⟨hn_.symm, qU⟩⟩
       replace HYB : Aside0 (BY l2_) := ⟨by rw [hl_]; exact BY.app HYB.out HYO.out⟩
       clear hn_ hl_
       replace HS := mA (h1_)
       simp only [List.set_cons_zero, List.set_cons_succ] at HS
       clear h1_ hHeld
       refine hK.out _ _ (HS.c 0 11) (fun hHeld => ?_)
       clear hK K
       refine zN ?_
       refine zP 5 8 (tf 6 0) ?_
       refine done_ uW ?_
       clear hHeld
       obtain ⟨gc, cc, e_, _⟩ := Kd.R_form HS.r0 xN
       injection e_ with e1_ e2_ e3_
       subst e1_
       subst e3_
       clear e2_
       have q20a : ((20 : Int) < (n2_ : Int)) = True := eq_true xN
       have q21a : ((21 : Int) < (n2_ : Int)) = True := eq_true xN
       have q20b : (20 < n2_) = True := eq_true xN
       have q21b : (21 < n2_) = True := eq_true xN
       go_upto_region 22 with fail
       replace HS := HS.dr
       refine zT 13 (fun w' => w'.cell? ⟨gp, 7, none⟩ = some (.int .i64 flags) ∧ w'.cell? ⟨gp, 11, none⟩ = some (.slice Ao lo.length co)) ⟨HS.c 0 7, HS.c 0 11⟩ fun hHeld => ?_
       generalize World.drew _ = wH2 at HS hHeld ⊢
       refine zR [(0,153),(1,154),(2,155),(5,158),(3,156),(4,157),(9,162),(6,159),(7,160),(8,161)] 3 ?_ ?_
       refine zo 10 (tf 11 2) fun K hK => ?_
       refine skip_ (by rfl) rfl (run_st8 _ _ _ gc 20 _ _ (.tmp 162) (.tmp 157) rfl rfl rfl (bytes_get HS.r0 20 xN).1 (bytes_get HS.r0 20 xN).2) ?_
       have n_ := mA (HS.out.setb 0 rfl 20 (IntKind.u8.wrap flags))
       simp only [List.set_cons_zero, List.set_cons_succ] at n_
       clear HS hHeld
       generalize World.setCell _ _ _ = wI at n_ ⊢
       have HS := n_
       clear n_
       refine hK.out _ _ ⟨HS.c 0 7, HS.c 0 11⟩ (fun hHeld => ?_)
       clear hK K
       refine zP 11 163 (tf 12 1) ?_
       refine zo 12 (tf 13 0) fun K hK => ?_
       refine skip_ (by rfl) rfl (run_st8 _ _ _ gc 21 _ _ (.tmp 163) (.tmp 161) rfl rfl rfl (bytes_get HS.r0 21 xN).1 (bytes_get HS.r0 21 xN).2) ?_
       have n_ := mA (HS.out.setb 0 rfl 21 (IntKind.u8.wrap (lo.length : Int)))
       simp only [List.set_cons_zero, List.set_cons_succ] at n_
       clear HS hHeld
       generalize World.setCell _ _ _ = wJ at n_ ⊢
       have HS := n_
       clear n_
       refine hK.out _ _ ⟨HS.c 0 7, HS.c 0 11⟩ (fun hHeld => ?_)
       clear hK K
       refine done_ uW ?_
       clear hHeld
       obtain ⟨lb3, hlb⟩ : ∃ lb3, lb3 = (l2_.set 20 (IntKind.u8.wrap flags)).set 21 (IntKind.u8.wrap (lo.length : Int)) := ⟨_, rfl⟩
       rw [← hlb] at HS
       replace HN : Aside0 (lb3.length = n2_ ∧ n2_ = 24 + lo.length) := ⟨by rw [hlb, List.length_set, List.length_set]; exact HN.out⟩
       replace HYB : Aside0 (BY lb3) := ⟨by rw [hlb]; exact (HYB.out.set 20 (w8 _).1 (w8 _).2).set 21 (w8 _).1 (w8 _).2⟩
       clear hlb q20a q20b q21a q21b
       obtain ⟨c0_, c1_, c2_, c3_, c4_, c5_, c6_, c7_, c8_, c9_, c10_, c11_, c12_⟩ := cells13 HS.b0
       go_upto_region 33 with (first
        | (go_at_call 78; refine (put3_c _ _ _ uJ uJ uJ uJ xN HS.nb HS.r0).mono ?_; rintro e_ _ ⟨rfl, lc, hn_, hy_, hr_, hc_⟩; replace HN : Aside0 (lc.length = n2_ ∧ n2_ = 24 + lo.length) := ⟨⟨hn_.trans HN.out.1, HN.out.2⟩⟩; replace HYB : Aside0 (BY lc) := ⟨hy_ HYB.out⟩; clear hn_ hy_ c0_ c1_ c2_ c3_ c4_ c5_ c6_ c7_ c8_ c9_ c10_ c11_ c12_; replace HS := mA (HS.out.rset 0 rfl hr_ hc_); simp only [List.set_cons_zero, List.set_cons_succ] at HS; clear hr_ hc_; obtain ⟨c0_, c1_, c2_, c3_, c4_, c5_, c6_, c7_, c8_, c9_, c10_, c11_, c12_⟩ := cells13 HS.b0)
        | ((with_reducible refine gate_builtin (b := .append) (xs := #[.tmp 190, .tmp 192]) rfl ?_); at_builtin; refine ap_event HS.out HS.nb rfl (.tmp 190) (.tmp 192) rfl 0 rfl rfl rfl (Kd.R_reads' (Kd.R_below HD.out HS.nb)).2.2 vA ?_; intro An nn cn ln _ hl_ hn_ h1_; replace HN : Aside0 (ln.length = nn ∧ nn = N) := ⟨⟨hn_.symm, qF⟩⟩; replace HYB : Aside0 (BY ln) := ⟨kO⟩; clear hn_ hl_ c0_ c1_ c2_ c3_ c4_ c5_ c6_ c7_ c8_ c9_ c10_ c11_ c12_; replace HS := mA (h1_); simp only [List.set_cons_zero, List.set_cons_succ] at HS; clear h1_; obtain ⟨c0_, c1_, c2_, c3_, c4_, c5_, c6_, c7_, c8_, c9_, c10_, c11_, c12_⟩ := cells13 HS.b0)
        | (go_at_call 80; refine (summed3_c _ _ _ _ _ HS.r0 vX vX).mono ?_; rintro e_ _ ⟨As, ns, cs, ls, rfl, hns_, hrs_, hb_⟩; have HRS := mA hrs_; have HNS := mA hns_; clear hrs_ hns_ c0_ c1_ c2_ c3_ c4_ c5_ c6_ c7_ c8_ c9_ c10_ c11_ c12_; replace HS := HS.bl hb_; clear hb_; obtain ⟨c0_, c1_, c2_, c3_, c4_, c5_, c6_, c7_, c8_, c9_, c10_, c11_, c12_⟩ := cells13 HS.b0)
        | (go_at_call 79; refine (of1_c As ns cs ls _ HRS.out HNS.out).mono ?_; rintro e_ _ ⟨⟨sv2, rfl⟩, hb_⟩; clear c0_ c1_ c2_ c3_ c4_ c5_ c6_ c7_ c8_ c9_ c10_ c11_ c12_; replace HS := HS.bl hb_; clear hb_; obtain ⟨c0_, c1_, c2_, c3_, c4_, c5_, c6_, c7_, c8_, c9_, c10_, c11_, c12_⟩ := cells13 HS.b0))
       go_wp2_with (first
        | (go_at_call 81; refine (place3_c _ _).mono ?_; rintro e_ _ ⟨rfl, hb_⟩; clear c0_ c1_ c2_ c3_ c4_ c5_ c6_ c7_ c8_ c9_ c10_ c11_ c12_; replace HS := HS.bl hb_; clear hb_; obtain ⟨c0_, c1_, c2_, c3_, c4_, c5_, c6_, c7_, c8_, c9_, c10_, c11_, c12_⟩ := cells13 HS.b0)
        | (go_at_call 78; refine (put3_c _ _ _ uJ uJ uJ uJ (by have h1_ := HN.out; have h2_ := HNB.out; have h3_ := plc_r 1; omega) HS.nb HS.r0).mono ?_; rintro e_ _ ⟨rfl, lc, hn_, hy_, hr_, hc_⟩; replace HN : Aside0 (lc.length = nn ∧ nn = N) := ⟨⟨hn_.trans HN.out.1, HN.out.2⟩⟩; replace HYB : Aside0 (BY lc) := ⟨hy_ HYB.out⟩; clear hn_ hy_ c0_ c1_ c2_ c3_ c4_ c5_ c6_ c7_ c8_ c9_ c10_ c11_ c12_; replace HS := mA (HS.out.rset 0 rfl hr_ hc_); simp only [List.set_cons_zero, List.set_cons_succ] at HS; clear hr_ hc_; obtain ⟨c0_, c1_, c2_, c3_, c4_, c5_, c6_, c7_, c8_, c9_, c10_, c11_, c12_⟩ := cells13 HS.b0))
       go_ret2
       exact yT
   ·skip
    subst hk
    have hch := chain8 (out3 life 255) (out3 piece 255) (out3 frm 4294967295) (out3 dst 4294967295) (out3 fp 65535) (out3 tp 65535) (out3 label 65535)
    rcases hch with ⟨y0⟩ | ⟨y0, y1⟩ | ⟨y0, y1, y2⟩ | ⟨y0, y1, y2, y3⟩ | ⟨y0, y1, y2, y3, y4⟩ | ⟨y0, y1, y2, y3, y4, y5⟩ | ⟨y0, y1, y2, y3, y4, y5, y6⟩ | ⟨y0, y1, y2, y3, y4, y5, y6⟩
    iterate 7
     ·exact jR
    ·skip
     go_upto_region 6 with (first
      | (go_at_call 77; refine (out3_c _ _ _).mono ?_; rintro e_ _ ⟨rfl, hb_⟩; clear c0_ c1_ c2_ c3_ c4_ c5_ c6_ c7_ c8_ c9_ c10_ c11_ c12_; replace HS := HS.bl hb_; clear hb_; obtain ⟨c0_, c1_, c2_, c3_, c4_, c5_, c6_, c7_, c8_, c9_, c10_, c11_, c12_⟩ := cells13 HS.b0))
     clear x1 x2 y0 y1 y2 y3 y4 y5 y6
     obtain ⟨N, hN⟩ : ∃ N : Nat, N = 24 + ld.length := ⟨_, rfl⟩
     have w1_ : wrap64 (24 + (ld.length : Int)) = (N : Int) := by rw [w64 vY vY]; omega
     have HNN : Aside0 (N = 24 + ld.length) := ⟨qN⟩
     clear hN
     cases z3 : decide (1500 < (N : Int)) with
     | true =>
      go_wp2_with fail
      go_ret2
      exact B3.nil rfl HS.nb
     | false =>
      have HNB : Aside0 (N ≤ 1500 ∧ 24 ≤ N) := ⟨by have h_ := of_decide_eq_false z3; have h2_ := HNN.out; omega⟩
      go_upto_region 16 with (first
       | ((with_reducible refine zd 117 ?_); refine made_event HS.out rfl (N := 117) rfl _ _ rfl 16 N rfl (congrArg (Value.int .i64) w1_) vR vR ?_; intro gb _ h1_ hb_; clear c0_ c1_ c2_ c3_ c4_ c5_ c6_ c7_ c8_ c9_ c10_ c11_ c12_; replace HS := mA (h1_); clear h1_ hb_))
      replace HS := HS.dr
      refine zT 18 (fun w' => w'.cell? ⟨gp, 0, none⟩ = some (.int .i64 2) ∧ w'.cell? ⟨gp, 1, none⟩ = some (.int .i64 life) ∧ w'.cell? ⟨gp, 2, none⟩ = some (.int .i64 piece)) ⟨HS.c 0 0, HS.c 0 1, HS.c 0 2⟩ fun hHeld => ?_
      generalize World.drew _ = wD2 at HS hHeld ⊢
      refine zR [(0,118),(1,119),(2,120),(3,121),(6,124),(9,127),(4,122),(5,123),(12,130),(7,125),(8,126),(10,128),(11,129)] 5 ?_ ?_
      refine zo 13 (tf 14 4) fun K hK => ?_
      refine skip_ (by rfl) rfl (run_st8 _ _ _ gb 0 _ _ (.tmp 130) (.tmp 123) rfl rfl rfl (bytes_get HS.r0 0 uJ).1 (bytes_get HS.r0 0 uJ).2) ?_
      have n_ := mA (HS.out.setb 0 rfl 0 (IntKind.u8.wrap 2))
      simp only [List.set_cons_zero, List.set_cons_succ] at n_
      clear HS hHeld
      generalize World.setCell _ _ _ = wE at n_ ⊢
      have HS := n_
      clear n_
      refine hK.out _ _ ⟨HS.c 0 0, HS.c 0 1, HS.c 0 2⟩ (fun hHeld => ?_)
      clear hK K
      refine zP 14 131 (tf 15 3) ?_
      refine zo 15 (tf 16 2) fun K hK => ?_
      refine skip_ (by rfl) rfl (run_st8 _ _ _ gb 1 _ _ (.tmp 131) (.tmp 126) rfl rfl rfl (bytes_get HS.r0 1 uJ).1 (bytes_get HS.r0 1 uJ).2) ?_
      have n_ := mA (HS.out.setb 0 rfl 1 (IntKind.u8.wrap life))
      simp only [List.set_cons_zero, List.set_cons_succ] at n_
      clear HS hHeld
      generalize World.setCell _ _ _ = wF at n_ ⊢
      have HS := n_
      clear n_
      refine hK.out _ _ ⟨HS.c 0 0, HS.c 0 1, HS.c 0 2⟩ (fun hHeld => ?_)
      clear hK K
      refine zP 16 132 (tf 17 1) ?_
      refine zo 17 (tf 18 0) fun K hK => ?_
      refine skip_ (by rfl) rfl (run_st8 _ _ _ gb 12 _ _ (.tmp 132) (.tmp 129) rfl rfl rfl (bytes_get HS.r0 12 uJ).1 (bytes_get HS.r0 12 uJ).2) ?_
      have n_ := mA (HS.out.setb 0 rfl 12 (IntKind.u8.wrap piece))
      simp only [List.set_cons_zero, List.set_cons_succ] at n_
      clear HS hHeld
      generalize World.setCell _ _ _ = wG at n_ ⊢
      have HS := n_
      clear n_
      refine hK.out _ _ ⟨HS.c 0 0, HS.c 0 1, HS.c 0 2⟩ (fun hHeld => ?_)
      clear hK K
      refine done_ uW ?_
      clear hHeld
      obtain ⟨lb, hlb⟩ : ∃ lb, lb = (((List.replicate 16 (0 : Int)).set 0 (IntKind.u8.wrap 2)).set 1 (IntKind.u8.wrap life)).set 12 (IntKind.u8.wrap piece) := ⟨_, rfl⟩
      rw [← hlb] at HS
      obtain ⟨nb, hnb⟩ : ∃ nb : Nat, nb = 16 := ⟨_, rfl⟩
      have HN : Aside0 (lb.length = nb ∧ nb = 16) := ⟨by rw [hlb]; simp [hnb]⟩
      have HYB : Aside0 (BY lb) := ⟨qT⟩
      rw [← hnb]
      rw [← hnb] at HS
      clear hlb hnb
      obtain ⟨c0_, c1_, c2_, c3_, c4_, c5_, c6_, c7_, c8_, c9_, c10_, c11_, c12_⟩ := cells13 HS.b0
      go_upto_region 28 with (first
       | (go_at_call 78; (with_reducible refine (put3_c _ _ _ uJ uJ uJ uJ xN HS.nb HS.r0).mono ?_); rintro e_ _ ⟨rfl, lc, hn_, hy_, hr_, hc_⟩; replace HN : Aside0 (lc.length = nb ∧ nb = 16) := ⟨⟨hn_.trans HN.out.1, HN.out.2⟩⟩; replace HYB : Aside0 (BY lc) := ⟨hy_ HYB.out⟩; clear hn_ hy_ c0_ c1_ c2_ c3_ c4_ c5_ c6_ c7_ c8_ c9_ c10_ c11_ c12_; replace HS := mA (HS.out.rset 0 rfl hr_ hc_); simp only [List.set_cons_zero, List.set_cons_succ] at HS; clear hr_ hc_; obtain ⟨c0_, c1_, c2_, c3_, c4_, c5_, c6_, c7_, c8_, c9_, c10_, c11_, c12_⟩ := cells13 HS.b0)
       | (go_at_call 79; refine (of1_c _ _ _ _ _ HS.r0 xN).mono ?_; rintro e_ _ ⟨⟨sv, rfl⟩, hb_⟩; clear c0_ c1_ c2_ c3_ c4_ c5_ c6_ c7_ c8_ c9_ c10_ c11_ c12_; replace HS := HS.bl hb_; clear hb_; obtain ⟨c0_, c1_, c2_, c3_, c4_, c5_, c6_, c7_, c8_, c9_, c10_, c11_, c12_⟩ := cells13 HS.b0)
       | ((with_reducible refine gate_builtin (b := .append) (xs := #[.tmp 174, .const (.int .i64 8)]) rfl ?_); at_builtin; refine az_event HS.out HS.nb rfl (.tmp 174) (.const (.int .i64 8)) rfl 0 rfl 8 rfl rfl xN ?_; intro A_ n_ c_ l_ _ hl_ hn_ h1_; replace HN : Aside0 (l_.length = n_ ∧ n_ = 24) := ⟨⟨hn_.symm, qU⟩⟩; replace HYB : Aside0 (BY l_) := ⟨by rw [hl_]; exact BY.app HYB.out (BY.rep 8)⟩; clear hn_ hl_ c0_ c1_ c2_ c3_ c4_ c5_ c6_ c7_ c8_ c9_ c10_ c11_ c12_; replace HS := mA (h1_); simp only [List.set_cons_zero, List.set_cons_succ] at HS; clear h1_; obtain ⟨c0_, c1_, c2_, c3_, c4_, c5_, c6_, c7_, c8_, c9_, c10_, c11_, c12_⟩ := cells13 HS.b0)
       | (go_at_call 78; (with_reducible refine (put3_c _ _ _ uJ uJ uJ uJ xN HS.nb HS.r0).mono ?_); rintro e_ _ ⟨rfl, lc, hn_, hy_, hr_, hc_⟩; replace HN : Aside0 (lc.length = n_ ∧ n_ = 24) := ⟨⟨hn_.trans HN.out.1, HN.out.2⟩⟩; replace HYB : Aside0 (BY lc) := ⟨hy_ HYB.out⟩; clear hn_ hy_ c0_ c1_ c2_ c3_ c4_ c5_ c6_ c7_ c8_ c9_ c10_ c11_ c12_; replace HS := mA (HS.out.rset 0 rfl hr_ hc_); simp only [List.set_cons_zero, List.set_cons_succ] at HS; clear hr_ hc_; obtain ⟨c0_, c1_, c2_, c3_, c4_, c5_, c6_, c7_, c8_, c9_, c10_, c11_, c12_⟩ := cells13 HS.b0))
      go_upto_region 33 with (first
       | (go_at_call 78; refine (put3_c _ _ _ uJ uJ uJ uJ xN HS.nb HS.r0).mono ?_; rintro e_ _ ⟨rfl, lc, hn_, hy_, hr_, hc_⟩; replace HN : Aside0 (lc.length = n_ ∧ n_ = 24) := ⟨⟨hn_.trans HN.out.1, HN.out.2⟩⟩; replace HYB : Aside0 (BY lc) := ⟨hy_ HYB.out⟩; clear hn_ hy_ c0_ c1_ c2_ c3_ c4_ c5_ c6_ c7_ c8_ c9_ c10_ c11_ c12_; replace HS := mA (HS.out.rset 0 rfl hr_ hc_); simp only [List.set_cons_zero, List.set_cons_succ] at HS; clear hr_ hc_; obtain ⟨c0_, c1_, c2_, c3_, c4_, c5_, c6_, c7_, c8_, c9_, c10_, c11_, c12_⟩ := cells13 HS.b0)
       | ((with_reducible refine gate_builtin (b := .append) (xs := #[.tmp 190, .tmp 192]) rfl ?_); at_builtin; refine ap_event HS.out HS.nb rfl (.tmp 190) (.tmp 192) rfl 0 rfl rfl rfl (Kd.R_reads' (Kd.R_below HD.out HS.nb)).2.2 vA ?_; intro An nn cn ln _ hl_ hn_ h1_; replace HN : Aside0 (ln.length = nn ∧ nn = N) := ⟨⟨hn_.symm, qF⟩⟩; replace HYB : Aside0 (BY ln) := ⟨kO⟩; clear hn_ hl_ c0_ c1_ c2_ c3_ c4_ c5_ c6_ c7_ c8_ c9_ c10_ c11_ c12_; replace HS := mA (h1_); simp only [List.set_cons_zero, List.set_cons_succ] at HS; clear h1_; obtain ⟨c0_, c1_, c2_, c3_, c4_, c5_, c6_, c7_, c8_, c9_, c10_, c11_, c12_⟩ := cells13 HS.b0)
       | (go_at_call 80; refine (summed3_c _ _ _ _ _ HS.r0 vX vX).mono ?_; rintro e_ _ ⟨As, ns, cs, ls, rfl, hns_, hrs_, hb_⟩; have HRS := mA hrs_; have HNS := mA hns_; clear hrs_ hns_ c0_ c1_ c2_ c3_ c4_ c5_ c6_ c7_ c8_ c9_ c10_ c11_ c12_; replace HS := HS.bl hb_; clear hb_; obtain ⟨c0_, c1_, c2_, c3_, c4_, c5_, c6_, c7_, c8_, c9_, c10_, c11_, c12_⟩ := cells13 HS.b0)
       | (go_at_call 79; refine (of1_c As ns cs ls _ HRS.out HNS.out).mono ?_; rintro e_ _ ⟨⟨sv2, rfl⟩, hb_⟩; clear c0_ c1_ c2_ c3_ c4_ c5_ c6_ c7_ c8_ c9_ c10_ c11_ c12_; replace HS := HS.bl hb_; clear hb_; obtain ⟨c0_, c1_, c2_, c3_, c4_, c5_, c6_, c7_, c8_, c9_, c10_, c11_, c12_⟩ := cells13 HS.b0))
      cases hz : (sv2 == 0) <;> cases bare <;>
      (go_wp2_with (first
       | (go_at_call 81; refine (place3_c _ _).mono ?_; rintro e_ _ ⟨rfl, hb_⟩; clear c0_ c1_ c2_ c3_ c4_ c5_ c6_ c7_ c8_ c9_ c10_ c11_ c12_; replace HS := HS.bl hb_; clear hb_; obtain ⟨c0_, c1_, c2_, c3_, c4_, c5_, c6_, c7_, c8_, c9_, c10_, c11_, c12_⟩ := cells13 HS.b0)
       | (go_at_call 78; refine (put3_c _ _ _ uJ uJ uJ uJ (by have h1_ := HN.out; have h2_ := HNB.out; have h3_ := plc_r 2; omega) HS.nb HS.r0).mono ?_; rintro e_ _ ⟨rfl, lc, hn_, hy_, hr_, hc_⟩; replace HN : Aside0 (lc.length = nn ∧ nn = N) := ⟨⟨hn_.trans HN.out.1, HN.out.2⟩⟩; replace HYB : Aside0 (BY lc) := ⟨hy_ HYB.out⟩; clear hn_ hy_ c0_ c1_ c2_ c3_ c4_ c5_ c6_ c7_ c8_ c9_ c10_ c11_ c12_; replace HS := mA (HS.out.rset 0 rfl hr_ hc_); simp only [List.set_cons_zero, List.set_cons_succ] at HS; clear hr_ hc_; obtain ⟨c0_, c1_, c2_, c3_, c4_, c5_, c6_, c7_, c8_, c9_, c10_, c11_, c12_⟩ := cells13 HS.b0))
       go_ret2
       exact ⟨_, _, _, _, _, rfl, HN.out.1.symm, by have h1_ := HN.out; have h2_ := HNB.out; omega, HYB.out, HS.out.row 0 rfl, HS.nb⟩)
   ·skip
    subst hk
    have hch := chain6 (out3 life 255) (out3 piece 255) (out3 code 255) (out3 frm 4294967295) (out3 dst 4294967295)
    rcases hch with ⟨y0⟩ | ⟨y0, y1⟩ | ⟨y0, y1, y2⟩ | ⟨y0, y1, y2, y3⟩ | ⟨y0, y1, y2, y3, y4⟩ | ⟨y0, y1, y2, y3, y4⟩
    iterate 5
     ·exact jR
    ·skip
     go_upto_region 6 with (first
      | (go_at_call 77; refine (out3_c _ _ _).mono ?_; rintro e_ _ ⟨rfl, hb_⟩; clear c0_ c1_ c2_ c3_ c4_ c5_ c6_ c7_ c8_ c9_ c10_ c11_ c12_; replace HS := HS.bl hb_; clear hb_; obtain ⟨c0_, c1_, c2_, c3_, c4_, c5_, c6_, c7_, c8_, c9_, c10_, c11_, c12_⟩ := cells13 HS.b0))
     clear x1 x2 y0 y1 y2 y3 y4
     obtain ⟨n0, hn0⟩ : ∃ n0 : Nat, n0 = 24 + ld.length := ⟨_, rfl⟩
     obtain ⟨N, hN⟩ : ∃ N : Nat, N = 20 + ld.length := ⟨_, rfl⟩
     have w1_ : wrap64 (24 + (ld.length : Int)) = (n0 : Int) := by rw [w64 vY vY]; omega
     have w2_ : wrap64 (20 + (ld.length : Int)) = (N : Int) := by rw [w64 vY vY]; omega
     have HNN : Aside0 (N = 20 + ld.length) := ⟨qN⟩
     clear hn0 hN
     cases z2 : decide ((ld.length : Int) < 24) with
     | true =>
      go_wp2_with fail
      go_ret2
      exact B3.nil rfl HS.nb
     | false =>
      cases z3 : decide (1500 < (N : Int)) with
      | true =>
       go_wp2_with fail
       go_ret2
       exact B3.nil rfl HS.nb
      | false =>
       have HNB : Aside0 (N ≤ 1500 ∧ 44 ≤ N) := ⟨by have h_ := of_decide_eq_false z3; have h3_ := of_decide_eq_false z2; have h2_ := HNN.out; omega⟩
       go_upto_region 16 with (first
        | ((with_reducible refine zd 117 ?_); refine made_event HS.out rfl (N := 117) rfl _ _ rfl 16 N rfl (congrArg (Value.int .i64) w2_) vR vR ?_; intro gb _ h1_ hb_; clear c0_ c1_ c2_ c3_ c4_ c5_ c6_ c7_ c8_ c9_ c10_ c11_ c12_; replace HS := mA (h1_); clear h1_ hb_))
       replace HS := HS.dr
       refine zT 18 (fun w' => w'.cell? ⟨gp, 0, none⟩ = some (.int .i64 3) ∧ w'.cell? ⟨gp, 1, none⟩ = some (.int .i64 life) ∧ w'.cell? ⟨gp, 2, none⟩ = some (.int .i64 piece)) ⟨HS.c 0 0, HS.c 0 1, HS.c 0 2⟩ fun hHeld => ?_
       generalize World.drew _ = wD2 at HS hHeld ⊢
       refine zR [(0,118),(1,119),(2,120),(3,121),(6,124),(9,127),(4,122),(5,123),(12,130),(7,125),(8,126),(10,128),(11,129)] 5 ?_ ?_
       refine zo 13 (tf 14 4) fun K hK => ?_
       refine skip_ (by rfl) rfl (run_st8 _ _ _ gb 0 _ _ (.tmp 130) (.tmp 123) rfl rfl rfl (bytes_get HS.r0 0 uJ).1 (bytes_get HS.r0 0 uJ).2) ?_
       have n_ := mA (HS.out.setb 0 rfl 0 (IntKind.u8.wrap 3))
       simp only [List.set_cons_zero, List.set_cons_succ] at n_
       clear HS hHeld
       generalize World.setCell _ _ _ = wE at n_ ⊢
       have HS := n_
       clear n_
       refine hK.out _ _ ⟨HS.c 0 0, HS.c 0 1, HS.c 0 2⟩ (fun hHeld => ?_)
       clear hK K
       refine zP 14 131 (tf 15 3) ?_
       refine zo 15 (tf 16 2) fun K hK => ?_
       refine skip_ (by rfl) rfl (run_st8 _ _ _ gb 1 _ _ (.tmp 131) (.tmp 126) rfl rfl rfl (bytes_get HS.r0 1 uJ).1 (bytes_get HS.r0 1 uJ).2) ?_
       have n_ := mA (HS.out.setb 0 rfl 1 (IntKind.u8.wrap life))
       simp only [List.set_cons_zero, List.set_cons_succ] at n_
       clear HS hHeld
       generalize World.setCell _ _ _ = wF at n_ ⊢
       have HS := n_
       clear n_
       refine hK.out _ _ ⟨HS.c 0 0, HS.c 0 1, HS.c 0 2⟩ (fun hHeld => ?_)
       clear hK K
       refine zP 16 132 (tf 17 1) ?_
       refine zo 17 (tf 18 0) fun K hK => ?_
       refine skip_ (by rfl) rfl (run_st8 _ _ _ gb 12 _ _ (.tmp 132) (.tmp 129) rfl rfl rfl (bytes_get HS.r0 12 uJ).1 (bytes_get HS.r0 12 uJ).2) ?_
       have n_ := mA (HS.out.setb 0 rfl 12 (IntKind.u8.wrap piece))
       simp only [List.set_cons_zero, List.set_cons_succ] at n_
       clear HS hHeld
       generalize World.setCell _ _ _ = wG at n_ ⊢
       have HS := n_
       clear n_
       refine hK.out _ _ ⟨HS.c 0 0, HS.c 0 1, HS.c 0 2⟩ (fun hHeld => ?_)
       clear hK K
       refine done_ uW ?_
       clear hHeld
       obtain ⟨lb, hlb⟩ : ∃ lb, lb = (((List.replicate 16 (0 : Int)).set 0 (IntKind.u8.wrap 3)).set 1 (IntKind.u8.wrap life)).set 12 (IntKind.u8.wrap piece) := ⟨_, rfl⟩
       rw [← hlb] at HS
       obtain ⟨nb, hnb⟩ : ∃ nb : Nat, nb = 16 := ⟨_, rfl⟩
       have HN : Aside0 (lb.length = nb ∧ nb = 16) := ⟨by rw [hlb]; simp [hnb]⟩
       have HYB : Aside0 (BY lb) := ⟨qT⟩
       rw [← hnb]
       rw [← hnb] at HS
       clear hlb hnb
       obtain ⟨c0_, c1_, c2_, c3_, c4_, c5_, c6_, c7_, c8_, c9_, c10_, c11_, c12_⟩ := cells13 HS.b0
       go_upto_region 28 with (first
        | (go_at_call 78; refine (put3_c _ _ _ uJ uJ uJ uJ xN HS.nb HS.r0).mono ?_; rintro e_ _ ⟨rfl, lc, hn_, hy_, hr_, hc_⟩; replace HN : Aside0 (lc.length = nb ∧ nb = 16) := ⟨⟨hn_.trans HN.out.1, HN.out.2⟩⟩; replace HYB : Aside0 (BY lc) := ⟨hy_ HYB.out⟩; clear hn_ hy_ c0_ c1_ c2_ c3_ c4_ c5_ c6_ c7_ c8_ c9_ c10_ c11_ c12_; replace HS := mA (HS.out.rset 0 rfl hr_ hc_); simp only [List.set_cons_zero, List.set_cons_succ] at HS; clear hr_ hc_; obtain ⟨c0_, c1_, c2_, c3_, c4_, c5_, c6_, c7_, c8_, c9_, c10_, c11_, c12_⟩ := cells13 HS.b0)
        | (go_at_call 79; refine (of1_c _ _ _ _ _ HS.r0 xN).mono ?_; rintro e_ _ ⟨⟨sv, rfl⟩, hb_⟩; clear c0_ c1_ c2_ c3_ c4_ c5_ c6_ c7_ c8_ c9_ c10_ c11_ c12_; replace HS := HS.bl hb_; clear hb_; obtain ⟨c0_, c1_, c2_, c3_, c4_, c5_, c6_, c7_, c8_, c9_, c10_, c11_, c12_⟩ := cells13 HS.b0)
        | ((with_reducible refine zd 170 ?_); refine lit_event HS.out rfl (N := 170) rfl ([code % 256, 0, 0, 0] : List Int) 4 rfl uJ uA ?_; intro gl _ h1_ hb_; clear c0_ c1_ c2_ c3_ c4_ c5_ c6_ c7_ c8_ c9_ c10_ c11_ c12_; replace HS := mA (h1_); clear h1_ hb_; obtain ⟨c0_, c1_, c2_, c3_, c4_, c5_, c6_, c7_, c8_, c9_, c10_, c11_, c12_⟩ := cells13 HS.b0)
        | ((with_reducible refine gate_builtin (b := .append) (xs := #[.tmp 166, .tmp 170]) rfl ?_); at_builtin; refine ap_event HS.out HS.nb rfl (.tmp 166) (.tmp 170) rfl 1 rfl rfl rfl (Kd.R_reads' HS.r0).2.2 xN ?_; intro A_ n_ c_ l_ _ hl_ hn_ h1_; replace HN : Aside0 (l_.length = n_ ∧ n_ = 20) := ⟨⟨hn_.symm, qU⟩⟩; replace HYB : Aside0 (BY l_) := ⟨by rw [hl_]; exact BY.app HYB.out (fun x hx => by simp only [List.mem_cons, List.not_mem_nil, or_false] at hx; omega)⟩; clear hn_ hl_ c0_ c1_ c2_ c3_ c4_ c5_ c6_ c7_ c8_ c9_ c10_ c11_ c12_; replace HS := mA (h1_.sub (List.Sublist.refl _) (List.Sublist.cons _ (List.Sublist.refl _))); clear h1_; obtain ⟨c0_, c1_, c2_, c3_, c4_, c5_, c6_, c7_, c8_, c9_, c10_, c11_, c12_⟩ := cells13 HS.b0))
       go_upto_region 33 with (first
        | ((with_reducible refine gate_builtin (b := .append) (xs := #[.tmp 190, .tmp 192]) rfl ?_); at_builtin; refine ap_event HS.out HS.nb rfl (.tmp 190) (.tmp 192) rfl 0 rfl rfl rfl (Kd.R_reads' (Kd.R_below HD.out HS.nb)).2.2 vA ?_; intro An nn cn ln _ hl_ hn_ h1_; replace HN : Aside0 (ln.length = nn ∧ nn = N) := ⟨⟨hn_.symm, qF⟩⟩; replace HYB : Aside0 (BY ln) := ⟨kO⟩; clear hn_ hl_ c0_ c1_ c2_ c3_ c4_ c5_ c6_ c7_ c8_ c9_ c10_ c11_ c12_; replace HS := mA (h1_); simp only [List.set_cons_zero, List.set_cons_succ] at HS; clear h1_; obtain ⟨c0_, c1_, c2_, c3_, c4_, c5_, c6_, c7_, c8_, c9_, c10_, c11_, c12_⟩ := cells13 HS.b0)
        | (go_at_call 80; refine (summed3_c _ _ _ _ _ HS.r0 vX vX).mono ?_; rintro e_ _ ⟨As, ns, cs, ls, rfl, hns_, hrs_, hb_⟩; have HRS := mA hrs_; have HNS := mA hns_; clear hrs_ hns_ c0_ c1_ c2_ c3_ c4_ c5_ c6_ c7_ c8_ c9_ c10_ c11_ c12_; replace HS := HS.bl hb_; clear hb_; obtain ⟨c0_, c1_, c2_, c3_, c4_, c5_, c6_, c7_, c8_, c9_, c10_, c11_, c12_⟩ := cells13 HS.b0)
        | (go_at_call 79; refine (of1_c As ns cs ls _ HRS.out HNS.out).mono ?_; rintro e_ _ ⟨⟨sv2, rfl⟩, hb_⟩; clear c0_ c1_ c2_ c3_ c4_ c5_ c6_ c7_ c8_ c9_ c10_ c11_ c12_; replace HS := HS.bl hb_; clear hb_; obtain ⟨c0_, c1_, c2_, c3_, c4_, c5_, c6_, c7_, c8_, c9_, c10_, c11_, c12_⟩ := cells13 HS.b0))
       go_wp2_with (first
        | (go_at_call 81; refine (place3_c _ _).mono ?_; rintro e_ _ ⟨rfl, hb_⟩; clear c0_ c1_ c2_ c3_ c4_ c5_ c6_ c7_ c8_ c9_ c10_ c11_ c12_; replace HS := HS.bl hb_; clear hb_; obtain ⟨c0_, c1_, c2_, c3_, c4_, c5_, c6_, c7_, c8_, c9_, c10_, c11_, c12_⟩ := cells13 HS.b0)
        | (go_at_call 78; refine (put3_c _ _ _ uJ uJ uJ uJ (by have h1_ := HN.out; have h2_ := HNB.out; have h3_ := plc_r 3; omega) HS.nb HS.r0).mono ?_; rintro e_ _ ⟨rfl, lc, hn_, hy_, hr_, hc_⟩; replace HN : Aside0 (lc.length = nn ∧ nn = N) := ⟨⟨hn_.trans HN.out.1, HN.out.2⟩⟩; replace HYB : Aside0 (BY lc) := ⟨hy_ HYB.out⟩; clear hn_ hy_ c0_ c1_ c2_ c3_ c4_ c5_ c6_ c7_ c8_ c9_ c10_ c11_ c12_; replace HS := mA (HS.out.rset 0 rfl hr_ hc_); simp only [List.set_cons_zero, List.set_cons_succ] at HS; clear hr_ hc_; obtain ⟨c0_, c1_, c2_, c3_, c4_, c5_, c6_, c7_, c8_, c9_, c10_, c11_, c12_⟩ := cells13 HS.b0))
       go_ret2
       exact yT
end Go.Proofs.YtkpfojpmigchlaaGreat.Own
