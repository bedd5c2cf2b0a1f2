/- Parts of the proof of TopSwap, laid together and made shorter by a program of this claim. -/
import Derived.Test.YtkpfojpmigchlaaGreatK07
import Derived.Test.YtkpfojpmigchlaaGreatK01
import Derived.Test.YtkpfojpmigchlaaGreatK03
set_option linter.unusedVariables false
set_option linter.unusedSimpArgs false
namespace Go.Proofs.YtkpfojpmigchlaaGreat.Own
open Go Go.RowKit Go.Proofs.YtkpfojpmigchlaaGreatW.PrintWords Go.Proofs.YtkpfojpmigchlaaGreatW.PrintMore Go.Proofs.YtkpfojpmigchlaaGreatW.PrintLast Go.Proofs.YtkpfojpmigchlaaGreat.Q
open Go.Proofs.YtkpfojpmigchlaaGreat.Zip
open Go.Proofs.YtkpfojpmigchlaaGreat.Zap
set_option maxHeartbeats 16000000
set_option maxRecDepth 100000
theorem chain9 (v1 v2 v3 v4 v5 v6 v7 v8 v9 : Bool) : v1 = true ∨ (v1 = false ∧ v2 = true) ∨ (v1 = false ∧ v2 = false ∧ v3 = true) ∨ (v1 = false ∧ v2 = false ∧ v3 = false ∧ v4 = true) ∨ (v1 = false ∧ v2 = false ∧ v3 = false ∧ v4 = false ∧ v5 = true) ∨ (v1 = false ∧ v2 = false ∧ v3 = false ∧ v4 = false ∧ v5 = false ∧ v6 = false) ∨ (v1 = false ∧ v2 = false ∧ v3 = false ∧ v4 = false ∧ v5 = false ∧ v6 = true ∧ v7 = true) ∨ (v1 = false ∧ v2 = false ∧ v3 = false ∧ v4 = false ∧ v5 = false ∧ v6 = true ∧ v7 = false ∧ v8 = true ∧ v9 = true) ∨ (v1 = false ∧ v2 = false ∧ v3 = false ∧ v4 = false ∧ v5 = false ∧ v6 = true ∧ v7 = false ∧ v8 = true ∧ v9 = false) ∨ (v1 = false ∧ v2 = false ∧ v3 = false ∧ v4 = false ∧ v5 = false ∧ v6 = true ∧ v7 = false ∧ v8 = false) := by
 cases v1 <;> cases v2 <;> cases v3 <;> cases v4 <;> cases v5 <;> cases v6 <;> cases v7 <;> cases v8 <;> cases v9 <;> simp
theorem cutH (A : Option Addr) (c : Nat) (l : List Int) (b : Nat) (hm : b ≤ l.length) (hc : l.length ≤ c) : (∀ W : World, (Instr.slice 39 (.slice A l.length c) none (some (.int .i64 (b : Int))) none).run Tryz.prog W = .ok (.slice A b c) W) ∧ ∀ w : World, Kd.C (Kd.int .u8) w A l.length l → Kd.C (Kd.int .u8) w A b (l.take b) := by
 obtain ⟨i, hi, _, hsz, _⟩ := info_parts info5b
 have h := print_take_of (P := Tryz.prog) (Value.int .u8) (0 : Int) 39 5 .i64 Tryz.underlying39 hi hsz A c l (b : Int) uY uY hc
 have hl : (l.take (b : Int).toNat).length = b := by rw [Int.toNat_natCast, List.length_take]; omega
 rw [hl] at h
 exact ⟨h.1, fun w hw => by
  have h2 := h.2.1 w (Kd.reads_of_C (h1 := fun _ => rfl) hw)
  rw [Int.toNat_natCast] at h2
  exact Kd.C_of_reads (h1 := fun _ => rfl) h2⟩
theorem cutL (A : Option Addr) (c : Nat) (l : List Int) (b : Nat) (hm : b ≤ l.length) (hc : l.length ≤ c) : ∃ A' : Option Addr, (∀ W : World, (Instr.slice 39 (.slice A l.length c) (some (.int .i64 (b : Int))) none none).run Tryz.prog W = .ok (.slice A' (l.length - b) (c - b)) W) ∧ ∀ w : World, Kd.C (Kd.int .u8) w A l.length l → Kd.C (Kd.int .u8) w A' (l.length - b) (l.drop b) := by
 obtain ⟨i, hi, _, hsz, _⟩ := info_parts info5b
 obtain ⟨A', h⟩ := print_drop_of (P := Tryz.prog) (Value.int .u8) (0 : Int) 39 5 .i64 Tryz.underlying39 hi hsz A c l (b : Int) uY uY hc
 rw [Int.toNat_natCast, List.length_drop] at h
 exact yF
theorem cutM (A : Option Addr) (c : Nat) (l : List Int) (a b : Nat) (hab : a ≤ b) (hm : b ≤ l.length) (hc : l.length ≤ c) : ∃ A' : Option Addr, (∀ W : World, (Instr.slice 39 (.slice A l.length c) (some (.int .i64 (a : Int))) (some (.int .i64 (b : Int))) none).run Tryz.prog W = .ok (.slice A' (b - a) (c - a)) W) ∧ ∀ w : World, Kd.C (Kd.int .u8) w A l.length l → Kd.C (Kd.int .u8) w A' (b - a) ((l.take b).drop a) := by
 obtain ⟨i, hi, _, hsz, _⟩ := info_parts info5b
 obtain ⟨A', h⟩ := print_mid_of (P := Tryz.prog) (Value.int .u8) (0 : Int) 39 5 .i64 .i64 Tryz.underlying39 hi hsz A c l (a : Int) (b : Int) uY uY uY hc
 have hl : ((l.take (b : Int).toNat).drop (a : Int).toNat).length = b - a := by rw [Int.toNat_natCast, Int.toNat_natCast, List.length_drop, List.length_take]; omega
 rw [hl, Int.toNat_natCast, Int.toNat_natCast] at h
 exact yF
theorem right3_k (A : Option Addr) (n c : Nat) (l : List Int) (w : World) (hC : Kd.C (Kd.int .u8) w A n l) (hc : n ≤ c) {r : Bool} (hr : rr1_Right.f 1000 l = some r) : Calls Tryz.prog 110 #[.slice A n c] w fun e w' => e = .returned (.bool r) ∧ Below w.heap.size w w' := by
 obtain rfl : l.length = n := hC.1
 refine (rr1_Right.calls 1000 A c l r w hC hc hr).mono ?_
 rintro e w' ⟨rfl, hd⟩
 exact ⟨rfl, hd.below⟩
theorem run_c3 (ev : Operand → Value) (o : Oper) (w : World) (g j : Nat) (y x : Int) (px py : Operand) (ho : o.op = .store 3 px py) (hx : ev px = .pointer (some ⟨g, j, none⟩)) (hy : ev py = .int .i64 x) (hc : w.cell? ⟨g, j, none⟩ = some (.int .i64 y)) (hf : w.frozen? ⟨g, j, none⟩ = false) : (execOp ev o).run Tryz.prog w = .ok .skip (w.setCell ⟨g, j, none⟩ (.int .i64 x)) := by
 unfold execOp
 simp only [ho, hx, hy]
 go_simp
 try rfl
theorem run_c4 (ev : Operand → Value) (o : Oper) (w : World) (g j : Nat) (y x : Bool) (px py : Operand) (ho : o.op = .store 4 px py) (hx : ev px = .pointer (some ⟨g, j, none⟩)) (hy : ev py = .bool x) (hc : w.cell? ⟨g, j, none⟩ = some (.bool y)) (hf : w.frozen? ⟨g, j, none⟩ = false) : (execOp ev o).run Tryz.prog w = .ok .skip (w.setCell ⟨g, j, none⟩ (.bool x)) := by
 unfold execOp
 simp only [ho, hx, hy]
 go_simp
 try rfl
theorem run_c39 (ev : Operand → Value) (o : Oper) (w : World) (g j : Nat) (A0 : Option Addr) (n0 c0 : Nat) (A1 : Option Addr) (n1 c1 : Nat) (px py : Operand) (ho : o.op = .store 39 px py) (hx : ev px = .pointer (some ⟨g, j, none⟩)) (hy : ev py = .slice A1 n1 c1) (hc : w.cell? ⟨g, j, none⟩ = some (.slice A0 n0 c0)) (hf : w.frozen? ⟨g, j, none⟩ = false) : (execOp ev o).run Tryz.prog w = .ok .skip (w.setCell ⟨g, j, none⟩ (.slice A1 n1 c1)) := by
 unfold execOp
 simp only [ho, hx, hy]
 go_simp
 try rfl
def P3 (l : List Int) (W : World) (e : Ending) (w' : World) : Prop := ∃ (cs : Array Value) (k er : Int), e = .returned (.tuple #[.agg cs, .int .i64 er]) ∧ cs.size = 13 ∧ cs.all (·.oneCell') = true ∧ cs[0]? = some (.int .i64 k) ∧ (er = 0 → 24 ≤ l.length ∧ l.length ≤ 1500) ∧ Below W.heap.size W w'
theorem parse3_calls (A : Option Addr) (c : Nat) (l : List Int) (W : World) (hV : Bytes W 0 (.slice A l.length c) l) (hy : BY l) : Calls Tryz.prog 82 #[.slice A l.length c] W fun e w' => P3 l W e w' := by
 have hu45 := Tryz.underlying45
 have HY := mA (byl hy)
 obtain ⟨_, hc, hC⟩ := Kd.R_reads' hV
 have HV := mA hV
 have HC := mA hC
 have HCC := mA hc
 have HS : Aside0 (St (fun _ => False) W W [] []) := ⟨St.init _ _⟩
 by_cases h16 : l.length < 16
 ·skip
  have v0 : decide ((l.length : Int) < 16) = true := decide_eq_true uY
  clear hV hy hc hC h16
  go_enter Tryz.func82, Tryz.ntmps82
  go_wp2_with (first
   | (refine zB 2 HS (run_pk _ _ _ rfl) ?_; clear HS; intro tr _ HS z_; clear z_)
   | (refine zS 45 2 HS 0 ?_; clear HS; intro _ HS z_; clear z_))
  refine bodyPost_ret (results_pk rfl _ _ _ _ rfl HS.b0 rfl) rfl ?_
  exact yL
 ·skip
  have v0 : decide ((l.length : Int) < 16) = false := decide_eq_false uY
  have H16 : Aside0 (16 ≤ l.length) := ⟨qN⟩
  obtain ⟨ad, hA_, hx_⟩ := Kd.at_int hC 0 uJ uY
  cases hA_
  clear hx_
  have HBC : Aside0 (∀ (i : Nat) (w : World), i < l.length → Below W.heap.size W w → w.cell? (ad.add i) = some (.int .u8 (rd l (i : Int)))) := ⟨fun i w hi hb => by
   obtain ⟨ad2, e2, hx2⟩ := Kd.at_int (Kd.C_below HC.out hb) (i : Int) (Int.natCast_nonneg i) uY
   cases e2
   rw [Int.toNat_natCast] at hx2
   exact hx2⟩
  have q0a : ((0 : Int) < (l.length : Int)) = True := eq_true uY
  have q0b : (0 < l.length) = True := eq_true uY
  have q1a : ((1 : Int) < (l.length : Int)) = True := eq_true uY
  have q1b : (1 < l.length) = True := eq_true uY
  have q12a : ((12 : Int) < (l.length : Int)) = True := eq_true uY
  have q12b : (12 < l.length) = True := eq_true uY
  have q13a : ((13 : Int) < (l.length : Int)) = True := eq_true uY
  have q13b : (13 < l.length) = True := eq_true uY
  obtain ⟨n1, hn1⟩ := num3_some (l := l) (a := 2) (n := 2) uJ uJ uJ uY uJ
  obtain ⟨r1, hr1⟩ := right1_some (l := l.take 16) wW
  have HN1 := mA hn1
  have HR1 := mA hr1
  obtain ⟨hcutx, hC16⟩ := cutH (some ad) c l 16 uY hc
  have hcut16 : ∀ W : World, (Instr.slice 39 (.slice (some ad) l.length c) none (some (.int .i64 16)) none).run Tryz.prog W = .ok (.slice (some ad) 16 c) W := hcutx
  clear hcutx
  have HC16 := mA hC16
  have hch := chain9 (decide (rd l 0 < 1)) (decide (3 < rd l 0)) (n1 != (l.length : Int)) (decide ((1500 : Int) < (l.length : Int))) (rd l 13 != 0) r1 (decide ((l.length : Int) < 24)) (rd l 0 == 3) (decide ((l.length : Int) < 44))
  clear hV hy hc hC h16 hn1 hr1 hC16
  go_enter Tryz.func82, Tryz.ntmps82
  rcases hch with v1 | ⟨v1, v2⟩ | ⟨v1, v2, v3⟩ | ⟨v1, v2, v3, v4⟩ | ⟨v1, v2, v3, v4, v5⟩ | ⟨v1, v2, v3, v4, v5, v6⟩ | ⟨v1, v2, v3, v4, v5, v6, v7⟩ | ⟨v1, v2, v3, v4, v5, v6, v7, v8, v9⟩ | ⟨v1, v2, v3, v4, v5, v6, v7, v8, v9⟩ | ⟨v1, v2, v3, v4, v5, v6, v7, v8⟩
  iterate 8
   ·skip
    try subst v6
    go_wp2_with (first
     | (refine zB 2 HS (run_pk _ _ _ rfl) ?_; clear HS; intro tr _ HS z_; clear z_; have b0_ : World.cell? _ ad = some (.int .u8 (rd l 0)) := uT)
     | (go_at_call 85; refine (num3_k (some ad) c l _ (Kd.R_below HV.out HS.nb) 2 2 HN1.out).mono ?_; rintro e_ _ ⟨rfl, hb_⟩; replace HS := HS.bl hb_; clear hb_; have b13_ : World.cell? _ (ad.add 13) = some (.int .u8 (rd l 13)) := HBC.out 13 _ uD HS.nb; have b13x_ : World.cell? _ ⟨ad.block, ad.off + 13, none⟩ = some (.int .u8 (rd l 13)) := vQ)
     | (go_at_call 110; refine (right3_k (some ad) 16 c _ _ (HC16.out _ (Kd.C_below HC.out HS.nb)) (by have h1_ := H16.out; have h2_ := HCC.out; omega) HR1.out).mono ?_; rintro e_ _ ⟨rfl, hb_⟩; replace HS := HS.bl hb_; clear hb_; have b0_ : World.cell? _ ad = some (.int .u8 (rd l 0)) := uT)
     | (refine zS 45 2 HS 0 ?_; clear HS; intro _ HS z_; clear z_))
    refine bodyPost_ret (results_pk rfl _ _ _ _ rfl HS.b0 rfl) rfl ?_
    exact yL
  all_goals
   subst v6
   have HL : Aside0 (24 ≤ l.length ∧ l.length ≤ 1500) := ⟨by have h1_ := of_decide_eq_false v7; have h2_ := of_decide_eq_false v4; omega⟩
   go_upto_region 11 with (first
    | (refine zB 2 HS (run_pk _ _ _ rfl) ?_; clear HS; intro tr _ HS z_; clear z_; have b0_ : World.cell? _ ad = some (.int .u8 (rd l 0)) := uT)
    | (go_at_call 85; refine (num3_k (some ad) c l _ (Kd.R_below HV.out HS.nb) 2 2 HN1.out).mono ?_; rintro e_ _ ⟨rfl, hb_⟩; replace HS := HS.bl hb_; clear hb_; have b13_ : World.cell? _ (ad.add 13) = some (.int .u8 (rd l 13)) := HBC.out 13 _ uD HS.nb; have b13x_ : World.cell? _ ⟨ad.block, ad.off + 13, none⟩ = some (.int .u8 (rd l 13)) := vQ)
    | (go_at_call 110; refine (right3_k (some ad) 16 c _ _ (HC16.out _ (Kd.C_below HC.out HS.nb)) (by have h1_ := H16.out; have h2_ := HCC.out; omega) HR1.out).mono ?_; rintro e_ _ ⟨rfl, hb_⟩; replace HS := HS.bl hb_; clear hb_; have b0_ : World.cell? _ ad = some (.int .u8 (rd l 0)) := uT))
   obtain ⟨n2, hn2⟩ := num3_some (l := l) (a := 4) (n := 4) uJ uJ uJ uB uJ
   have HN2 := mA hn2
   obtain ⟨n3, hn3⟩ := num3_some (l := l) (a := 8) (n := 4) uJ uJ uJ uB uJ
   have HN3 := mA hn3
   clear hn2 hn3
   replace HS := HS.dr
   try clear b0_
   try clear b13_ b13x_
   refine zT 19 (fun w' => w'.cell? ad = some (.int .u8 (rd l 0)) ∧ w'.cell? (ad.add 1) = some (.int .u8 (rd l 1)) ∧ w'.cell? (ad.add 12) = some (.int .u8 (rd l 12)) ∧ w'.cell? ⟨ad.block, ad.off + 1, none⟩ = some (.int .u8 (rd l 1)) ∧ w'.cell? ⟨ad.block, ad.off + 12, none⟩ = some (.int .u8 (rd l 12))) ⟨uT, HBC.out 1 _ uD HS.nb, HBC.out 12 _ uD HS.nb, uS, uM⟩ fun hHeld => ?_
   generalize World.drew _ = w3 at HS hHeld ⊢
   refine zR [(0,63),(1,64),(4,67),(5,68),(8,71),(9,72),(12,75),(14,77),(2,65),(3,66),(6,69),(7,70),(10,73),(11,74)] 5 ?_ ?_
   refine join_ (σ := Nat) 1 (tf 18 1) (fun s_ => [(76, .int .i64 n2), (78, .int .i64 n3), (79, .agg #[.int .i64 (wrap64 (rd l 0)), .int .i64 (wrap64 (rd l 1)), .int .i64 (wrap64 (rd l 12)), .int .i64 n2, .int .i64 n3, .int .i64 0, .int .i64 0, .int .i64 0, .int .i64 0, .bool false, .int .i64 0, .slice none 0 0, .slice none 0 0]), (4, .pointer (some ⟨s_, 0, none⟩))]) (fun s_ w' => (w'.cell? ad = some (.int .u8 (rd l 0)) ∧ w'.cell? (ad.add 1) = some (.int .u8 (rd l 1)) ∧ w'.cell? (ad.add 12) = some (.int .u8 (rd l 12)) ∧ w'.cell? ⟨ad.block, ad.off + 1, none⟩ = some (.int .u8 (rd l 1)) ∧ w'.cell? ⟨ad.block, ad.off + 12, none⟩ = some (.int .u8 (rd l 12))) ∧ St (fun _ => False) W w' [(s_, 45, #[.int .i64 0, .int .i64 0, .int .i64 0, .int .i64 0, .int .i64 0, .int .i64 0, .int .i64 0, .int .i64 0, .int .i64 0, .bool false, .int .i64 0, .slice none 0 0, .slice none 0 0]), (tr, 45, #[.int .i64 0, .int .i64 0, .int .i64 0, .int .i64 0, .int .i64 0, .int .i64 0, .int .i64 0, .int .i64 0, .int .i64 0, .bool false, .int .i64 0, .slice none 0 0, .slice none 0 0])] []) ?_ ?_
   rotate_left
   ·intro hCont
    refine two_ (i := 13) (j := 17) (Ni := some 76) (Nj := some 4) (tf 15 4) (mb 19 155647) rfl rfl rfl rfl uW uJ uJ (fun K hK => ?_) (fun K hK => ?_)
    ·skip
     refine zG Tryz.func85 ((num3_k (some ad) c l _ (Kd.R_below HV.out HS.nb) 4 4 HN2.out).mono ?_)
     rintro e_ _ ⟨rfl, hb_⟩
     refine ⟨_, rfl, ?_⟩
     replace HS := HS.bl hb_
     clear hb_ hHeld
     refine hK.out _ _ ⟨uT, HBC.out 1 _ uD HS.nb, HBC.out 12 _ uD HS.nb, uS, uM⟩ (fun hHeld => ?_)
     clear hK K
     refine zN ?_
     refine two_ (i := 15) (j := 17) (Ni := some 78) (Nj := some 4) (tf 16 3) (mb 19 163839) rfl rfl rfl rfl uW uJ uJ (fun K hK => ?_) (fun K hK => ?_)
     ·skip
      refine zG Tryz.func85 ((num3_k (some ad) c l _ (Kd.R_below HV.out HS.nb) 8 4 HN3.out).mono ?_)
      rintro e_ _ ⟨rfl, hb_⟩
      refine ⟨_, rfl, ?_⟩
      replace HS := HS.bl hb_
      clear hb_ hHeld
      refine hK.out _ _ ⟨uT, HBC.out 1 _ uD HS.nb, HBC.out 12 _ uD HS.nb, uS, uM⟩ (fun hHeld => ?_)
      clear hK K
      refine zN ?_
      refine zP 16 79 (tf 17 2) ?_
      refine zO 17 (tf 18 1) fun K hK => ?_
      refine box_step (by rfl) (N := 4) rfl (run_pk _ _ _ rfl) ?_
      intro gp hg_ _ hbx_ hb_
      replace HS := HS.nw hg_ hbx_ hb_
      clear hg_ hbx_ hb_ hHeld
      refine hK.out _ _ ⟨uT, HBC.out 1 _ uD HS.nb, HBC.out 12 _ uD HS.nb, uS, uM⟩ (fun hHeld => ?_)
      clear hK K
      refine zN ?_
      exact yM
     ·skip
      refine box_step (by rfl) (N := 4) rfl (run_pk _ _ _ rfl) ?_
      intro gp hg_ _ hbx_ hb_
      replace HS := HS.nw hg_ hbx_ hb_
      clear hg_ hbx_ hb_ hHeld
      refine hK.out _ _ ⟨uT, HBC.out 1 _ uD HS.nb, HBC.out 12 _ uD HS.nb, uS, uM⟩ (fun hHeld => ?_)
      clear hK K
      refine zN ?_
      refine zO 15 (mb 19 196607) fun K hK => ?_
      refine zG Tryz.func85 ((num3_k (some ad) c l _ (Kd.R_below HV.out HS.nb) 8 4 HN3.out).mono ?_)
      rintro e_ _ ⟨rfl, hb_⟩
      refine ⟨_, rfl, ?_⟩
      replace HS := HS.bl hb_
      clear hb_ hHeld
      refine hK.out _ _ ⟨uT, HBC.out 1 _ uD HS.nb, HBC.out 12 _ uD HS.nb, uS, uM⟩ (fun hHeld => ?_)
      clear hK K
      refine zN ?_
      refine zP 16 79 (tf 18 1) ?_
      exact yM
    ·skip
     refine box_step (by rfl) (N := 4) rfl (run_pk _ _ _ rfl) ?_
     intro gp hg_ _ hbx_ hb_
     replace HS := HS.nw hg_ hbx_ hb_
     clear hg_ hbx_ hb_ hHeld
     refine hK.out _ _ ⟨uT, HBC.out 1 _ uD HS.nb, HBC.out 12 _ uD HS.nb, uS, uM⟩ (fun hHeld => ?_)
     clear hK K
     refine zN ?_
     refine zO 13 (mb 19 163839) fun K hK => ?_
     refine zG Tryz.func85 ((num3_k (some ad) c l _ (Kd.R_below HV.out HS.nb) 4 4 HN2.out).mono ?_)
     rintro e_ _ ⟨rfl, hb_⟩
     refine ⟨_, rfl, ?_⟩
     replace HS := HS.bl hb_
     clear hb_ hHeld
     refine hK.out _ _ ⟨uT, HBC.out 1 _ uD HS.nb, HBC.out 12 _ uD HS.nb, uS, uM⟩ (fun hHeld => ?_)
     clear hK K
     refine zN ?_
     refine zO 15 (mb 19 196607) fun K hK => ?_
     refine zG Tryz.func85 ((num3_k (some ad) c l _ (Kd.R_below HV.out HS.nb) 8 4 HN3.out).mono ?_)
     rintro e_ _ ⟨rfl, hb_⟩
     refine ⟨_, rfl, ?_⟩
     replace HS := HS.bl hb_
     clear hb_ hHeld
     refine hK.out _ _ ⟨uT, HBC.out 1 _ uD HS.nb, HBC.out 12 _ uD HS.nb, uS, uM⟩ (fun hHeld => ?_)
     clear hK K
     refine zN ?_
     refine zP 16 79 (tf 18 1) ?_
     exact yM
   rintro gp wD ⟨hHeld, h1_⟩
   clear HS
   have HS := mA h1_
   clear h1_
   refine norm_ (a' := ?_) ?_ ?_
   rotate_left
   ·exact zK
   refine zo 18 (tf 19 0) fun K hK => ?_
   refine zW 45 HS 0 ?_
   clear HS hHeld
   intro wE HS
   refine hK.out _ _ ⟨uT, HBC.out 1 _ uD HS.nb, HBC.out 12 _ uD HS.nb, uS, uM⟩ (fun hHeld => ?_)
   clear hK K
   refine done_ uW ?_
   clear hHeld v1 v2 v3 v4 v5 v7
   have e0_ : wrap64 (rd l 0) = rd l 0 := w64 (by have h_ := rd_by HY.out 0; omega) (by have h_ := rd_by HY.out 0; omega)
  ·skip
   have w0_ : (wrap64 (rd l 0) == 3) = true := by rw [e0_]; exact v8
   have H44 : Aside0 (44 ≤ l.length) := ⟨by have h1_ := of_decide_eq_false v9; omega⟩
   clear v8 v9
   have k0_ : World.cell? _ ⟨gp, 0, none⟩ = some (.int .i64 (wrap64 (rd l 0))) := HS.c 0 0
   have b17_ : World.cell? _ (ad.add 17) = some (.int .u8 (rd l 17)) := HBC.out 17 _ uB HS.nb
   have b17x_ : World.cell? _ ⟨ad.block, ad.off + 17, none⟩ = some (.int .u8 (rd l 17)) := (by have h_ := HBC.out 17 _ uB HS.nb; rw [← show ad.add 17 = ⟨ad.block, ad.off + 17, none⟩ from by simp [Addr.add]]; exact h_)
   have q17a : ((17 : Int) < (l.length : Int)) = True := eq_true uB
   have q17b : (17 < l.length) = True := eq_true uB
   have q16a : ((16 : Int) < (l.length : Int)) = True := eq_true uB
   have q16b : (16 < l.length) = True := eq_true uB
   cases v17 : (rd l 17 != 0) with
   | true =>
    go_wp2_with (first
     | (refine zS 45 2 HS 1 ?_; clear HS; intro _ HS z_; clear z_))
    refine bodyPost_ret (results_pk rfl _ _ _ _ rfl HS.b1 rfl) rfl ?_
    exact yL
   | false =>
    obtain ⟨A20, hcx_, hC20_⟩ := cutL (some ad) c l 20 uB HCC.out
    have hcut20 : ∀ W : World, (Instr.slice 39 (.slice (some ad) l.length c) (some (.int .i64 20)) none none).run Tryz.prog W = .ok (.slice A20 (l.length - 20) (c - 20)) W := hcx_
    have HC20 := mA hC20_
    clear hcx_ hC20_
    go_upto_region 15 with fail
    clear k0_ b17_ b17x_
    replace HS := HS.dr
    refine zT 12 (fun w' => w'.cell? (ad.add 16) = some (.int .u8 (rd l 16)) ∧ w'.cell? ⟨ad.block, ad.off + 16, none⟩ = some (.int .u8 (rd l 16))) ⟨HBC.out 16 _ uB HS.nb, xX⟩ fun hHeld => ?_
    generalize World.drew _ = wE2 at HS hHeld ⊢
    refine zR [(0,88),(1,89),(5,93),(6,94),(2,90),(3,91),(8,96)] 5 ?_ ?_
    refine zO 4 (mb 12 383) fun K hK => ?_
    refine lit_step HS.out (by rfl) (N := 92) rfl ([] : List Int) 0 rfl uJ uA ?_
    intro gl _ h1_ hb_
    replace HS := mA (h1_)
    clear hb_ h1_ hHeld
    refine hK.out _ _ ⟨HBC.out 16 _ uB HS.nb, xX⟩ (fun hHeld => ?_)
    clear hK K
    refine zN ?_
    refine zO 7 (tf 9 3) fun K hK => ?_
    refine ap_step HS.out HS.nb (by rfl) (.tmp 92) (.tmp 94) rfl 0 rfl rfl rfl (HC20.out _ (Kd.C_below HC.out HS.nb)) (by have h_ := HL.out; simp only [List.length_nil]; omega) ?_
    intro A1 n1 c1 l_ _ hl_ hn_ h1_
    replace HS := mA (h1_)
    simp only [List.set_cons_zero, List.set_cons_succ] at HS
    clear hl_ hn_ h1_ hHeld
    refine hK.out _ _ ⟨HBC.out 16 _ uB HS.nb, xX⟩ (fun hHeld => ?_)
    clear hK K
    refine zN ?_
    refine zo 9 (tf 10 2) fun K hK => ?_
    refine zC HS 0 10 (run_c3 _ _ _ gp 10 0 (wrap64 (rd l 16)) (.tmp 96) (.tmp 91) rfl rfl rfl (HS.c 0 10) (HS.f 0 10)) ?_
    clear HS hHeld
    intro wF HS
    refine hK.out _ _ ⟨HBC.out 16 _ uB HS.nb, xX⟩ (fun hHeld => ?_)
    clear hK K
    refine zP 10 97 (tf 11 1) ?_
    refine zo 11 (tf 12 0) fun K hK => ?_
    refine zC HS 0 12 (run_c39 _ _ _ gp 12 none 0 0 A1 n1 c1 (.tmp 97) (.tmp 95) rfl rfl rfl (HS.c 0 12) (HS.f 0 12)) ?_
    clear HS hHeld
    intro wG HS
    refine hK.out _ _ ⟨HBC.out 16 _ uB HS.nb, xX⟩ (fun hHeld => ?_)
    clear hK K
    refine done_ uW ?_
    clear hHeld
    go_wp2_with (first
     | ((with_reducible refine zd 98 ?_); refine Kd.event_run rfl (run_ldpk _ _ _ _ _ (.tmp 4) rfl rfl HS.b0 rfl) ?_)
     | (refine zS 45 2 HS 1 ?_; clear HS; intro _ HS z_; clear z_))
    refine bodyPost_ret (results_pk rfl _ _ _ _ rfl HS.b1 rfl) rfl ?_
    exact yP
  ·skip
   have w0_ : (wrap64 (rd l 0) == 3) = false := by rw [e0_]; exact v8
   clear v8
   have k0_ : World.cell? _ ⟨gp, 0, none⟩ = some (.int .i64 (wrap64 (rd l 0))) := HS.c 0 0
   obtain ⟨n4, hn_⟩ := num3_some (l := l) (a := 16) (n := 2) uJ uJ uJ uB uJ
   have HN4 := mA hn_
   clear hn_
   obtain ⟨n5, hn_⟩ := num3_some (l := l) (a := 18) (n := 2) uJ uJ uJ uB uJ
   have HN5 := mA hn_
   clear hn_
   obtain ⟨n6, hn_⟩ := num3_some (l := l) (a := 20) (n := 2) uJ uJ uJ uB uJ
   have HN6 := mA hn_
   clear hn_
   obtain ⟨n7, hn_⟩ := num3_some (l := l) (a := 22) (n := 2) uJ uJ uJ uB uJ
   have HN7 := mA hn_
   clear hn_
   go_upto_region 18 with (first
    | (go_at_call 85; (with_reducible refine (num3_k (some ad) c l _ (Kd.R_below HV.out HS.nb) 16 2 HN4.out).mono ?_); rintro e_ _ ⟨rfl, hb_⟩; replace HS := HS.bl hb_; clear hb_)
    | (go_at_call 85; (with_reducible refine (num3_k (some ad) c l _ (Kd.R_below HV.out HS.nb) 18 2 HN5.out).mono ?_); rintro e_ _ ⟨rfl, hb_⟩; replace HS := HS.bl hb_; clear hb_; try clear k0_; have k0_ : World.cell? _ ⟨gp, 0, none⟩ = some (.int .i64 (wrap64 (rd l 0))) := HS.c 0 0; have k5_ : World.cell? _ ⟨gp, 5, none⟩ = some (.int .i64 0) := HS.c 0 5; have f5_ := HS.f 0 5; have k6_ : World.cell? _ ⟨gp, 6, none⟩ = some (.int .i64 0) := HS.c 0 6; have f6_ := HS.f 0 6))
   clear k0_ k5_ k6_ f5_ f6_
   have n_ := mA ((HS.out.put 0 rfl 5 (.int .i64 n4) rfl).put 0 rfl 6 (.int .i64 n5) rfl)
   simp only [List.setIfInBounds_toArray, List.set_cons_zero, List.set_cons_succ] at n_
   clear HS
   generalize World.setCell _ _ _ = wH at n_ ⊢
   have HS := n_
   clear n_
   have k0_ : World.cell? _ ⟨gp, 0, none⟩ = some (.int .i64 (wrap64 (rd l 0))) := HS.c 0 0
   cases v2_ : (rd l 0 == 2) with
   | true =>
    have w2_ : (wrap64 (rd l 0) == 2) = true := by rw [e0_]; exact v2_
    obtain ⟨A24, hcx_, hC24_⟩ := cutL (some ad) c l 24 uB HCC.out
    have hcut24 : ∀ W : World, (Instr.slice 39 (.slice (some ad) l.length c) (some (.int .i64 24)) none none).run Tryz.prog W = .ok (.slice A24 (l.length - 24) (c - 24)) W := hcx_
    have HC24 := mA hC24_
    clear hcx_ hC24_
    go_upto_region 19 with fail
    clear k0_
    replace HS := HS.dr
    refine zT 15 (fun w' => True) (trivial) fun hHeld => ?_
    generalize World.drew _ = wE2 at HS hHeld ⊢
    refine zR [(0,108),(2,110),(6,114),(7,115)] 11 ?_ ?_
    refine join_ (σ := Nat) 6 (mb 15 767) (fun s_ => [(109, .int .i64 n6), (111, .int .i64 n7), (112, .bool (n7 == 0)), (117, .pointer (some ⟨gp, 8, none⟩)), (113, .slice (some ⟨s_, 0, none⟩) 0 0)]) (fun s_ w' => True ∧ St (fun _ => False) W w' [(gp, 45, #[.int .i64 (wrap64 (rd l 0)), .int .i64 (wrap64 (rd l 1)), .int .i64 (wrap64 (rd l 12)), .int .i64 n2, .int .i64 n3, .int .i64 n4, .int .i64 n5, .int .i64 0, .int .i64 0, .bool false, .int .i64 0, .slice none 0 0, .slice none 0 0]), (tr, 45, #[.int .i64 0, .int .i64 0, .int .i64 0, .int .i64 0, .int .i64 0, .int .i64 0, .int .i64 0, .int .i64 0, .int .i64 0, .bool false, .int .i64 0, .slice none 0 0, .slice none 0 0])] [(.slice (some ⟨s_, 0, none⟩) 0 0, [])]) ?_ ?_
    rotate_left
    ·intro hCont
     refine two_ (i := 1) (j := 5) (Ni := some 109) (Nj := some 113) (mb 15 199) (mb 15 229) rfl rfl rfl rfl uW uJ uJ (fun K hK => ?_) (fun K hK => ?_)
     ·skip
      refine zG Tryz.func85 ((num3_k (some ad) c l _ (Kd.R_below HV.out HS.nb) 20 2 HN6.out).mono ?_)
      rintro e_ _ ⟨rfl, hb_⟩
      refine ⟨_, rfl, ?_⟩
      replace HS := HS.bl hb_
      clear hb_ hHeld
      refine hK.out _ _ (trivial) (fun hHeld => ?_)
      clear hK K
      refine zN ?_
      refine zP 9 117 (mb 15 711) ?_
      refine two_ (i := 3) (j := 5) (Ni := some 111) (Nj := some 113) (mb 15 719) (mb 15 743) rfl rfl rfl rfl uW uJ uJ (fun K hK => ?_) (fun K hK => ?_)
      ·skip
       refine zG Tryz.func85 ((num3_k (some ad) c l _ (Kd.R_below HV.out HS.nb) 22 2 HN7.out).mono ?_)
       rintro e_ _ ⟨rfl, hb_⟩
       refine ⟨_, rfl, ?_⟩
       replace HS := HS.bl hb_
       clear hb_ hHeld
       refine hK.out _ _ (trivial) (fun hHeld => ?_)
       clear hK K
       refine zN ?_
       refine zP 4 112 (mb 15 735) ?_
       refine zO 5 (mb 15 767) fun K hK => ?_
       refine lit_step HS.out (by rfl) (N := 113) rfl ([] : List Int) 0 rfl uJ uA ?_
       intro gl _ h1_ hb_
       replace HS := mA (h1_)
       clear hb_ h1_ hHeld
       refine hK.out _ _ (trivial) (fun hHeld => ?_)
       clear hK K
       refine zN ?_
       exact yR
      ·skip
       refine lit_step HS.out (by rfl) (N := 113) rfl ([] : List Int) 0 rfl uJ uA ?_
       intro gl _ h1_ hb_
       replace HS := mA (h1_)
       clear hb_ h1_ hHeld
       refine hK.out _ _ (trivial) (fun hHeld => ?_)
       clear hK K
       refine zN ?_
       refine zO 3 (mb 15 751) fun K hK => ?_
       refine zG Tryz.func85 ((num3_k (some ad) c l _ (Kd.R_below HV.out HS.nb) 22 2 HN7.out).mono ?_)
       rintro e_ _ ⟨rfl, hb_⟩
       refine ⟨_, rfl, ?_⟩
       replace HS := HS.bl hb_
       clear hb_ hHeld
       refine hK.out _ _ (trivial) (fun hHeld => ?_)
       clear hK K
       refine zN ?_
       refine zP 4 112 (mb 15 767) ?_
       exact yR
     ·skip
      refine lit_step HS.out (by rfl) (N := 113) rfl ([] : List Int) 0 rfl uJ uA ?_
      intro gl _ h1_ hb_
      replace HS := mA (h1_)
      clear hb_ h1_ hHeld
      refine hK.out _ _ (trivial) (fun hHeld => ?_)
      clear hK K
      refine zN ?_
      refine zO 1 (mb 15 231) fun K hK => ?_
      refine zG Tryz.func85 ((num3_k (some ad) c l _ (Kd.R_below HV.out HS.nb) 20 2 HN6.out).mono ?_)
      rintro e_ _ ⟨rfl, hb_⟩
      refine ⟨_, rfl, ?_⟩
      replace HS := HS.bl hb_
      clear hb_ hHeld
      refine hK.out _ _ (trivial) (fun hHeld => ?_)
      clear hK K
      refine zN ?_
      refine zP 9 117 (mb 15 743) ?_
      refine zO 3 (mb 15 751) fun K hK => ?_
      refine zG Tryz.func85 ((num3_k (some ad) c l _ (Kd.R_below HV.out HS.nb) 22 2 HN7.out).mono ?_)
      rintro e_ _ ⟨rfl, hb_⟩
      refine ⟨_, rfl, ?_⟩
      replace HS := HS.bl hb_
      clear hb_ hHeld
      refine hK.out _ _ (trivial) (fun hHeld => ?_)
      clear hK K
      refine zN ?_
      refine zP 4 112 (mb 15 767) ?_
      exact yR
    rintro gl wI ⟨hHeld, h1_⟩
    clear HS
    have HS := mA h1_
    clear h1_
    refine norm_ (a' := ?_) ?_ ?_
    rotate_left
    ·exact zK
    refine zO 8 (tf 10 5) fun K hK => ?_
    refine ap_step HS.out HS.nb (by rfl) (.tmp 113) (.tmp 115) rfl 0 rfl rfl rfl (HC24.out _ (Kd.C_below HC.out HS.nb)) (by have h_ := HL.out; simp only [List.length_nil]; omega) ?_
    intro A1 n1 c1 l_ _ hl_ hn_ h1_
    replace HS := mA (h1_)
    simp only [List.set_cons_zero, List.set_cons_succ] at HS
    clear hl_ hn_ h1_ hHeld
    refine hK.out _ _ (trivial) (fun hHeld => ?_)
    clear hK K
    refine zN ?_
    refine zo 10 (tf 11 4) fun K hK => ?_
    refine zC HS 0 8 (run_c3 _ _ _ gp 8 0 n6 (.tmp 117) (.tmp 109) rfl rfl rfl (HS.c 0 8) (HS.f 0 8)) ?_
    clear HS hHeld
    intro wJ HS
    refine hK.out _ _ (trivial) (fun hHeld => ?_)
    clear hK K
    refine zP 11 118 (tf 12 3) ?_
    refine zo 12 (tf 13 2) fun K hK => ?_
    refine zC HS 0 9 (run_c4 _ _ _ gp 9 false (n7 == 0) (.tmp 118) (.tmp 112) rfl rfl rfl (HS.c 0 9) (HS.f 0 9)) ?_
    clear HS hHeld
    intro wK HS
    refine hK.out _ _ (trivial) (fun hHeld => ?_)
    clear hK K
    refine zP 13 119 (tf 14 1) ?_
    refine zo 14 (tf 15 0) fun K hK => ?_
    refine zC HS 0 12 (run_c39 _ _ _ gp 12 none 0 0 A1 n1 c1 (.tmp 119) (.tmp 116) rfl rfl rfl (HS.c 0 12) (HS.f 0 12)) ?_
    clear HS hHeld
    intro wL HS
    refine hK.out _ _ (trivial) (fun hHeld => ?_)
    clear hK K
    refine done_ uW ?_
    clear hHeld
    go_wp2_with (first
     | ((with_reducible refine zd 120 ?_); refine Kd.event_run rfl (run_ldpk _ _ _ _ _ (.tmp 4) rfl rfl HS.b0 rfl) ?_)
     | (refine zS 45 2 HS 1 ?_; clear HS; intro _ HS z_; clear z_))
    refine bodyPost_ret (results_pk rfl _ _ _ _ rfl HS.b1 rfl) rfl ?_
    exact yP
   | false =>
    have w2_ : (wrap64 (rd l 0) == 2) = false := by rw [e0_]; exact v2_
    have b20_ : World.cell? _ (ad.add 20) = some (.int .u8 (rd l 20)) := HBC.out 20 _ uB HS.nb
    have b20x_ : World.cell? _ ⟨ad.block, ad.off + 20, none⟩ = some (.int .u8 (rd l 20)) := uG
    have b21_ : World.cell? _ (ad.add 21) = some (.int .u8 (rd l 21)) := HBC.out 21 _ uB HS.nb
    have b21x_ : World.cell? _ ⟨ad.block, ad.off + 21, none⟩ = some (.int .u8 (rd l 21)) := (by have h_ := HBC.out 21 _ uB HS.nb; rw [← show ad.add 21 = ⟨ad.block, ad.off + 21, none⟩ from by simp [Addr.add]]; exact h_)
    have q20a : ((20 : Int) < (l.length : Int)) = True := eq_true uB
    have q20b : (20 < l.length) = True := eq_true uB
    have e20_ : wrap64 (rd l 20) = rd l 20 := w64 (by have h_ := rd_by HY.out 20; omega) (by have h_ := rd_by HY.out 20; omega)
    have q21a : ((21 : Int) < (l.length : Int)) = True := eq_true uB
    have q21b : (21 < l.length) = True := eq_true uB
    have e21_ : wrap64 (rd l 21) = rd l 21 := w64 (by have h_ := rd_by HY.out 21; omega) (by have h_ := rd_by HY.out 21; omega)
    have e24_ : wrap64 ((l.length : Int) - 24) = (l.length : Int) - 24 := w64 uY uB
    obtain ⟨m, hm⟩ : ∃ m : Nat, rd l 21 = (m : Int) := ⟨(rd l 21).toNat, by have h_ := rd_by HY.out 21; omega⟩
    have hch := chain9 (decide (15 < rd l 20)) (decide (40 < (m : Int))) (decide ((l.length : Int) - 24 < (m : Int))) true true true true true true
    rw [hm] at e21_ b21_ b21x_
    rcases hch with x1 | ⟨x1, x2⟩ | ⟨x1, x2, x3⟩ | ⟨x1, x2, x3, _⟩ | ⟨x1, x2, x3, x4, _⟩ | ⟨x1, x2, x3, x4, x5, x6⟩ | ⟨x1, x2, x3, x4, x5, x6, x7⟩ | ⟨x1, x2, x3, x4, x5, x6, x7, _⟩ | ⟨x1, x2, x3, x4, x5, x6, x7, _⟩ | ⟨x1, x2, x3, x4, x5, x6, x7, _⟩
    iterate 3
     ·skip
      go_wp2_with (first
       | (refine zS 45 2 HS 1 ?_; clear HS; intro _ HS z_; clear z_))
      refine bodyPost_ret (results_pk rfl _ _ _ _ rfl HS.b1 rfl) rfl ?_
      exact yL
    ·skip
     have HM : Aside0 (24 + m ≤ l.length) := ⟨by have h_ := of_decide_eq_false x3; omega⟩
     have ew_ : wrap64 (24 + (m : Int)) = 24 + (m : Int) := w64 uY (by have h_ := HM.out; have h2_ := HL.out; omega)
     obtain ⟨Ao, hco_, hCo_⟩ := cutM (some ad) c l 24 (24 + m) uY (by have h_ := HM.out; omega) HCC.out
     rw [show ((24 + m : Nat) : Int) = 24 + (m : Int) from by omega, show ((24 : Nat) : Int) = 24 from rfl, show 24 + m - 24 = m from by omega] at hco_
     rw [show 24 + m - 24 = m from by omega] at hCo_
     have HCo := mA hCo_
     obtain ⟨Ad, hcd_, hCd_⟩ := cutL (some ad) c l (24 + m) (by have h_ := HM.out; omega) HCC.out
     obtain ⟨k2, hk2⟩ : ∃ k2, k2 = l.length - (24 + m) := ⟨_, rfl⟩
     obtain ⟨c3, hc3⟩ : ∃ c3, c3 = c - (24 + m) := ⟨_, rfl⟩
     rw [← hk2] at hCd_
     rw [show ((24 + m : Nat) : Int) = 24 + (m : Int) from by omega, ← hk2, ← hc3] at hcd_
     have HCd := mA hCd_
     have HK2 : Aside0 (k2 ≤ 1500) := ⟨by have h_ := HL.out; omega⟩
     clear hCo_ hCd_ hk2 hc3
     go_upto_region 24 with fail
     clear k0_ b20_ b20x_ b21_ b21x_
     replace HS := HS.dr
     refine zT 22 (fun w' => w'.cell? (ad.add 20) = some (.int .u8 (rd l 20)) ∧ w'.cell? ⟨ad.block, ad.off + 20, none⟩ = some (.int .u8 (rd l 20))) ⟨HBC.out 20 _ uB HS.nb, uG⟩ fun hHeld => ?_
     generalize World.drew _ = wE2 at HS hHeld ⊢
     refine zR [(0,141),(1,142),(5,146),(6,147),(7,148),(8,149),(11,152),(12,153),(13,154),(14,155),(2,143),(3,144),(16,157)] 9 ?_ ?_
     refine join_ (σ := (Nat × Option Addr × Nat × Nat) × Nat) 6 (mb 22 98303) (fun s_ => [(145, .slice (some ⟨s_.1.1, 0, none⟩) 0 0), (150, .slice s_.1.2.1 s_.1.2.2.1 s_.1.2.2.2), (151, .slice (some ⟨s_.2, 0, none⟩) 0 0)]) (fun s_ w' => (w'.cell? (ad.add 20) = some (.int .u8 (rd l 20)) ∧ w'.cell? ⟨ad.block, ad.off + 20, none⟩ = some (.int .u8 (rd l 20))) ∧ St (fun _ => False) W w' [(gp, 45, #[.int .i64 (wrap64 (rd l 0)), .int .i64 (wrap64 (rd l 1)), .int .i64 (wrap64 (rd l 12)), .int .i64 n2, .int .i64 n3, .int .i64 n4, .int .i64 n5, .int .i64 0, .int .i64 0, .bool false, .int .i64 0, .slice none 0 0, .slice none 0 0]), (tr, 45, #[.int .i64 0, .int .i64 0, .int .i64 0, .int .i64 0, .int .i64 0, .int .i64 0, .int .i64 0, .int .i64 0, .int .i64 0, .bool false, .int .i64 0, .slice none 0 0, .slice none 0 0])] [(.slice (some ⟨s_.2, 0, none⟩) 0 0, [])]) ?_ ?_
     rotate_left
     ·intro hCont
      refine two_ (i := 4) (j := 10) (Ni := some 145) (Nj := some 151) (mb 22 96767) (mb 22 97775) rfl rfl rfl rfl uW uJ uJ (fun K hK => ?_) (fun K hK => ?_)
      ·skip
       refine lit_step HS.out (by rfl) (N := 145) rfl ([] : List Int) 0 rfl uJ uA ?_
       intro g0 _ h1_ hb_
       replace HS := mA (h1_)
       clear hb_ h1_ hHeld
       refine hK.out _ _ ⟨HBC.out 20 _ uB HS.nb, uG⟩ (fun hHeld => ?_)
       clear hK K
       refine zN ?_
       refine two_ (i := 9) (j := 10) (Ni := some 150) (Nj := some 151) (mb 22 97279) (mb 22 97791) rfl rfl rfl rfl uW uJ uJ (fun K hK => ?_) (fun K hK => ?_)
       ·skip
        refine ap_step HS.out HS.nb (by rfl) (.tmp 145) (.tmp 149) rfl 0 rfl rfl rfl (HCo.out _ (Kd.C_below HC.out HS.nb)) vU ?_
        intro A1 n1 c1 l_ _ hl_ hn_ h1_
        replace HS := mA (h1_)
        simp only [List.set_cons_zero, List.set_cons_succ] at HS
        clear hl_ hn_ h1_ hHeld
        refine hK.out _ _ ⟨HBC.out 20 _ uB HS.nb, uG⟩ (fun hHeld => ?_)
        clear hK K
        refine zN ?_
        refine zO 10 (mb 22 98303) fun K hK => ?_
        refine lit_step HS.out (by rfl) (N := 151) rfl ([] : List Int) 0 rfl uJ uA ?_
        intro g1 _ h1_ hb_
        replace HS := mA (h1_)
        clear hb_ h1_ hHeld
        refine hK.out _ _ ⟨HBC.out 20 _ uB HS.nb, uG⟩ (fun hHeld => ?_)
        clear hK K
        refine zN ?_
        exact yS
       ·skip
        refine lit_step HS.out (by rfl) (N := 151) rfl ([] : List Int) 0 rfl uJ uA ?_
        intro g1 _ h1_ hb_
        replace HS := mA (h1_)
        clear hb_ h1_ hHeld
        refine hK.out _ _ ⟨HBC.out 20 _ uB HS.nb, uG⟩ (fun hHeld => ?_)
        clear hK K
        refine zN ?_
        refine zO 9 (mb 22 98303) fun K hK => ?_
        refine ap_step HS.out HS.nb (by rfl) (.tmp 145) (.tmp 149) rfl 1 rfl rfl rfl (HCo.out _ (Kd.C_below HC.out HS.nb)) vU ?_
        intro A1 n1 c1 l_ _ hl_ hn_ h1_
        replace HS := mA (h1_)
        simp only [List.set_cons_zero, List.set_cons_succ] at HS
        clear hl_ hn_ h1_ hHeld
        refine hK.out _ _ ⟨HBC.out 20 _ uB HS.nb, uG⟩ (fun hHeld => ?_)
        clear hK K
        refine zN ?_
        exact yS
      ·skip
       refine lit_step HS.out (by rfl) (N := 151) rfl ([] : List Int) 0 rfl uJ uA ?_
       intro g1 _ h1_ hb_
       replace HS := mA (h1_)
       clear hb_ h1_ hHeld
       refine hK.out _ _ ⟨HBC.out 20 _ uB HS.nb, uG⟩ (fun hHeld => ?_)
       clear hK K
       refine zN ?_
       refine zO 4 (mb 22 97791) fun K hK => ?_
       refine lit_step HS.out (by rfl) (N := 145) rfl ([] : List Int) 0 rfl uJ uA ?_
       intro g0 _ h1_ hb_
       replace HS := mA (h1_)
       clear hb_ h1_ hHeld
       refine hK.out _ _ ⟨HBC.out 20 _ uB HS.nb, uG⟩ (fun hHeld => ?_)
       clear hK K
       refine zN ?_
       refine zO 9 (mb 22 98303) fun K hK => ?_
       refine ap_step HS.out HS.nb (by rfl) (.tmp 145) (.tmp 149) rfl 0 rfl rfl rfl (HCo.out _ (Kd.C_below HC.out HS.nb)) vU ?_
       intro A1 n1 c1 l_ _ hl_ hn_ h1_
       replace HS := mA (h1_)
       simp only [List.set_cons_zero, List.set_cons_succ] at HS
       clear hl_ hn_ h1_ hHeld
       refine hK.out _ _ ⟨HBC.out 20 _ uB HS.nb, uG⟩ (fun hHeld => ?_)
       clear hK K
       refine zN ?_
       exact norm_ xR (hCont ((g0, A1, n1, c1), g1) _ ⟨hHeld, HS.out.sub (List.Sublist.refl _) (List.Sublist.cons _ (List.Sublist.refl _))⟩)
     rintro ⟨⟨g0, A1, n1, c1⟩, g1⟩ wI ⟨hHeld, h1_⟩
     clear HS
     have HS := mA h1_
     clear h1_
     refine norm_ (a' := ?_) ?_ ?_
     rotate_left
     ·exact zK
     refine zO 15 (tf 17 5) fun K hK => ?_
     refine ap_step HS.out HS.nb (by rfl) (.tmp 151) (.tmp 155) rfl 0 rfl rfl rfl (HCd.out _ (Kd.C_below HC.out HS.nb)) (by have h_ := HK2.out; simp only [List.length_nil]; omega) ?_
     intro A2 n2_ c2 l_ _ hl_ hn_ h1_
     replace HS := mA (h1_)
     simp only [List.set_cons_zero, List.set_cons_succ] at HS
     clear hl_ hn_ h1_ hHeld
     refine hK.out _ _ ⟨HBC.out 20 _ uB HS.nb, uG⟩ (fun hHeld => ?_)
     clear hK K
     refine zN ?_
     refine zo 17 (tf 18 4) fun K hK => ?_
     refine zC HS 0 7 (run_c3 _ _ _ gp 7 0 (wrap64 (rd l 20)) (.tmp 157) (.tmp 144) rfl rfl rfl (HS.c 0 7) (HS.f 0 7)) ?_
     clear HS hHeld
     intro wJ HS
     refine hK.out _ _ ⟨HBC.out 20 _ uB HS.nb, uG⟩ (fun hHeld => ?_)
     clear hK K
     refine zP 18 158 (tf 19 3) ?_
     refine zo 19 (tf 20 2) fun K hK => ?_
     refine zC HS 0 11 (run_c39 _ _ _ gp 11 none 0 0 A1 n1 c1 (.tmp 158) (.tmp 150) rfl rfl rfl (HS.c 0 11) (HS.f 0 11)) ?_
     clear HS hHeld
     intro wK HS
     refine hK.out _ _ ⟨HBC.out 20 _ uB HS.nb, uG⟩ (fun hHeld => ?_)
     clear hK K
     refine zP 20 159 (tf 21 1) ?_
     refine zo 21 (tf 22 0) fun K hK => ?_
     refine zC HS 0 12 (run_c39 _ _ _ gp 12 none 0 0 A2 n2_ c2 (.tmp 159) (.tmp 156) rfl rfl rfl (HS.c 0 12) (HS.f 0 12)) ?_
     clear HS hHeld
     intro wL HS
     refine hK.out _ _ ⟨HBC.out 20 _ uB HS.nb, uG⟩ (fun hHeld => ?_)
     clear hK K
     refine done_ uW ?_
     clear hHeld
     go_wp2_with (first
      | ((with_reducible refine zd 160 ?_); refine Kd.event_run rfl (run_ldpk _ _ _ _ _ (.tmp 4) rfl rfl HS.b0 rfl) ?_)
      | (refine zS 45 2 HS 1 ?_; clear HS; intro _ HS z_; clear z_))
     refine bodyPost_ret (results_pk rfl _ _ _ _ rfl HS.b1 rfl) rfl ?_
     exact yP
    all_goals exact absurd ‹true = false› uJ
theorem many13' (cs old : Array Value) (h : cs.size = 13) (h2 : old.size = 13) : setMany old 0 cs.toList = cs := by
 rw [setMany_eq _ _ _ (by rw [Array.length_toList, h, h2]; decide), setAt, List.take_zero, List.nil_append, Array.length_toList, h, List.drop_of_length_le (by rw [Array.length_toList, h2]; decide), List.append_nil]
def B3 (W : World) (e : Ending) (w' : World) : Prop := ∃ (A : Option Addr) (n c : Nat) (l : List Int) (er : Int), e = .returned (.tuple #[.slice A n c, .int .i64 er]) ∧ n = l.length ∧ n ≤ 1500 ∧ BY l ∧ Bytes w' W.heap.size (.slice A n c) l ∧ Below W.heap.size W w'
theorem B3.nil {W w' : World} {e : Ending} {er : Int} (he : e = .returned (.tuple #[.slice none 0 0, .int .i64 er])) (hB : Below W.heap.size W w') : B3 W e w' := ⟨none, 0, 0, [], er, he, rfl, kC, BY.nil, Kd.R_nil _ _ _ _ _, hB⟩
theorem nat3_calls (A : Option Addr) (c : Nat) (l : List Int) (W : World) (hV : Bytes W 0 (.slice A l.length c) l) (hy : BY l) (addr port : Int) : Calls Tryz.prog 34 #[.slice A l.length c, .bool true, .int .i64 addr, .int .i64 port] W fun e w' => B3 W e w' := by
 have hu45 := Tryz.underlying45
 have HY := mA (byl hy)
 obtain ⟨_, hc, hC⟩ := Kd.R_reads' hV
 have HV := mA hV
 have HC := mA hC
 have HCC := mA hc
 have HS : Aside0 (St (fun _ => False) W W [] []) := ⟨St.init _ _⟩
 clear hV hy hc hC
 go_enter Tryz.func34, Tryz.ntmps34
 go_upto_region 2 with (first
  | (go_at_call 82; refine (parse3_calls A c l _ (Kd.R_below HV.out HS.nb) HY.out).mono ?_; rintro e_ _ ⟨cs, k, er, rfl, hsz_, hone_, hk_, hl_, hb_⟩; have HSZ := mA hsz_; have HONE := mA hone_; have HK0 := mA hk_; have HL := mA hl_; clear hsz_ hone_ hk_ hl_; replace HS := HS.bl hb_; clear hb_)
  | (refine zB 10 HS (run_pk _ _ _ rfl) ?_; clear HS; intro gp _ HS z_; clear z_)
  | ((with_reducible refine zst 45 10 ?_); refine stm_event rfl rfl 45 (.tmp 10) _ rfl (cells := cs) rfl rfl HS.b0 (by rw [HSZ.out]; exact Nat.le_refl _) (by rw [HSZ.out]; kernel_rfl) HONE.out ?_; intro _ hb_ hg_; replace HS := mA (HS.out.grown 0 rfl (by rw [many13' cs #[.int .i64 0, .int .i64 0, .int .i64 0, .int .i64 0, .int .i64 0, .int .i64 0, .int .i64 0, .int .i64 0, .int .i64 0, .bool false, .int .i64 0, .slice none 0 0, .slice none 0 0] HSZ.out rfl] at hb_; exact hb_) hg_); simp only [List.set_cons_zero, List.set_cons_succ] at HS; clear hb_ hg_))
 by_cases h0 : er = 0
 ·skip
  subst h0
  obtain ⟨hl24, hl15⟩ := HL.out rfl
  have HL2 : Aside0 (24 ≤ l.length ∧ l.length ≤ 1500) := ⟨⟨hl24, hl15⟩⟩
  clear hl24 hl15 HL
  have k0_ := (HS.out.cell 0 rfl 0).trans HK0.out
  by_cases h3 : k = 3
  ·skip
   have n3 : (k == 3) = true := beq_iff_eq.2 h3
   clear h3
   go_wp2_with fail
   go_ret2
   exact B3.nil rfl HS.nb
  ·skip
   have n3 : (k == 3) = false := beq_eq_false_iff_ne.2 h3
   clear h3
   cases o1 : out3 addr 4294967295 with
   | false =>
    cases o2 : out3 port 65535 with
    | false =>
     go_upto_region 15 with (first
      | (go_at_call 77; refine (out3_c _ _ _).mono ?_; rintro e_ _ ⟨rfl, hb_⟩; replace HS := HS.bl hb_; clear hb_)
      | ((with_reducible refine zd 37 ?_); refine lit_event HS.out rfl (N := 37) rfl ([] : List Int) 0 rfl uJ uA ?_; intro gl _ h1_ hb_; replace HS := mA (h1_); clear h1_ hb_)
      | ((with_reducible refine gate_builtin (b := .append) (xs := #[.tmp 37, .tmp 38]) rfl ?_); at_builtin; refine ap_event HS.out HS.nb rfl (.tmp 37) (.tmp 38) rfl 0 rfl rfl rfl (Kd.C_below HC.out HS.nb) (by have h_ := HL2.out; simp only [List.length_nil]; omega) ?_; intro Ab nb cb lb _ hl_ hn_ h1_; have HN : Aside0 (lb.length = nb ∧ nb = l.length) := ⟨kM⟩; have HYB : Aside0 (BY lb) := ⟨by rw [hl_]; exact HY.out⟩; replace HS := mA (h1_); simp only [List.set_cons_zero, List.set_cons_succ] at HS; clear hl_ hn_ h1_)
      | (go_at_call 78; refine (put3_c _ _ _ uJ uJ uJ uJ vJ HS.nb HS.r0).mono ?_; rintro e_ _ ⟨rfl, lc, hn_, hy_, hr_, hc_⟩; replace HN : Aside0 (lc.length = nb ∧ nb = l.length) := ⟨⟨hn_.trans HN.out.1, HN.out.2⟩⟩; replace HYB : Aside0 (BY lc) := ⟨hy_ HYB.out⟩; clear hn_ hy_; replace HS := mA (HS.out.rset 0 rfl hr_ hc_); simp only [List.set_cons_zero, List.set_cons_succ] at HS; clear hr_ hc_)
      | (go_at_call 83; refine (bare3_c A l.length c l _ (Kd.R_below HV.out HS.nb) HL2.out.1).mono ?_; rintro e_ _ ⟨⟨br_, rfl⟩, hb_⟩; replace HS := HS.bl hb_; clear hb_))
     go_wp2_with fail
     go_loopg [16] 3 (fun kq v16 w' => ∃ (i : Nat) (lx : List Int), v16 = .int .i64 (i : Int) ∧ Aside0 ((i = 4 ∧ kq = 3) ∨ (i = 6 ∧ kq = 2) ∨ (i = 8 ∧ kq = 1)) ∧ Aside0 (lx.length = nb ∧ nb = l.length) ∧ Aside0 (BY lx) ∧ Aside0 (St (fun _ => False) W w' [(gp, 45, cs)] [(.slice Ab nb cb, lx)]))
     case atStart => exact ⟨4, _, rfl, ⟨Or.inl ⟨rfl, rfl⟩⟩, HN, HYB, HS⟩
     case round =>
      clear HS HN HYB
      obtain ⟨i, lx, rfl, HI, HN, HYB, HS⟩ := hrel
      cases gk with
      | zero => have := HI.out; omega
      | succ k1 =>
       rcases HI.out with ⟨rfl, hk1⟩ | ⟨rfl, hk1⟩ | ⟨rfl, hk1⟩
       iterate 2
        ·skip
         have hw1 : wrap64 (4 + 4) = 8 := w64 uJ uJ
         have hw2 : wrap64 (4 + 2) = 6 := w64 uJ uJ
         have hw3 : wrap64 (6 + 2) = 8 := w64 uJ uJ
         cases br_ <;>
         (go_wp2_with (first
          | (go_at_call 85; (with_reducible refine (num3_c _ _ _ _ _ (Kd.R_lower HS.r0 (Nat.zero_le _)) _ _ uJ uJ uJ vJ uJ).mono ?_); rintro e_ _ ⟨⟨nn_, rfl⟩, hb_⟩; replace HS := HS.bl hb_; clear hb_)
          | (go_at_call 85; (with_reducible refine (num3_c A l.length c l _ (Kd.R_below HV.out HS.nb) _ _ uJ uJ uJ (by have h2_ := HL2.out; omega) uJ).mono ?_); rintro e_ _ ⟨⟨nn_, rfl⟩, hb_⟩; replace HS := HS.bl hb_; clear hb_)
          | (go_at_call 84; refine (turn1_c _ _ _ _).mono ?_; rintro e_ _ ⟨⟨tt_, rfl⟩, hb_⟩; replace HS := HS.bl hb_; clear hb_)
          | (go_at_call 78; refine (put3_c _ _ _ uJ uJ uJ uJ vJ HS.nb HS.r0).mono ?_; rintro e_ _ ⟨rfl, lc, hn_, hy_, hr_, hc_⟩; replace HN : Aside0 (lc.length = nb ∧ nb = l.length) := ⟨⟨hn_.trans HN.out.1, HN.out.2⟩⟩; replace HYB : Aside0 (BY lc) := ⟨hy_ HYB.out⟩; clear hn_ hy_; replace HS := mA (HS.out.rset 0 rfl hr_ hc_); simp only [List.set_cons_zero, List.set_cons_succ] at HS; clear hr_ hc_))
          go_roundg k1
          case measure => omega
          case rel => first | exact ⟨6, _, rfl, ⟨qN⟩, HN, HYB, HS⟩ | exact ⟨8, _, rfl, ⟨qN⟩, HN, HYB, HS⟩)
       ·skip
        have hw1 : wrap64 (4 + 4) = 8 := w64 uJ uJ
        cases br_ <;>
        (go_wp2_with (first
         | (go_at_call 85; (with_reducible refine (num3_c _ _ _ _ _ (Kd.R_lower HS.r0 (Nat.zero_le _)) _ _ uJ uJ uJ vJ uJ).mono ?_); rintro e_ _ ⟨⟨nn_, rfl⟩, hb_⟩; replace HS := HS.bl hb_; clear hb_)
         | (go_at_call 85; (with_reducible refine (num3_c A l.length c l _ (Kd.R_below HV.out HS.nb) _ _ uJ uJ uJ (by have h2_ := HL2.out; omega) uJ).mono ?_); rintro e_ _ ⟨⟨nn_, rfl⟩, hb_⟩; replace HS := HS.bl hb_; clear hb_)
         | (go_at_call 84; refine (turn1_c _ _ _ _).mono ?_; rintro e_ _ ⟨⟨tt_, rfl⟩, hb_⟩; replace HS := HS.bl hb_; clear hb_)
         | (go_at_call 78; refine (put3_c _ _ _ uJ uJ uJ uJ vJ HS.nb HS.r0).mono ?_; rintro e_ _ ⟨rfl, lc, hn_, hy_, hr_, hc_⟩; replace HN : Aside0 (lc.length = nb ∧ nb = l.length) := ⟨⟨hn_.trans HN.out.1, HN.out.2⟩⟩; replace HYB : Aside0 (BY lc) := ⟨hy_ HYB.out⟩; clear hn_ hy_; replace HS := mA (HS.out.rset 0 rfl hr_ hc_); simp only [List.set_cons_zero, List.set_cons_succ] at HS; clear hr_ hc_)
         | (go_at_call 86; refine (end3_c _ vJ HS.nb HS.r0).mono ?_; rintro e_ _ ⟨rfl, lc, hn_, hy_, hr_, hc_⟩; replace HN : Aside0 (lc.length = nb ∧ nb = l.length) := ⟨⟨hn_.trans HN.out.1, HN.out.2⟩⟩; replace HYB : Aside0 (BY lc) := ⟨hy_ HYB.out⟩; clear hn_ hy_; replace HS := mA (HS.out.rset 0 rfl hr_ hc_); simp only [List.set_cons_zero, List.set_cons_succ] at HS; clear hr_ hc_))
         go_ret2
         exact ⟨_, _, _, _, _, rfl, HN.out.1.symm, by have h1_ := HN.out; have h2_ := HL2.out; omega, HYB.out, HS.out.row 0 rfl, HS.nb⟩)
    | true =>
     go_wp2_with (first
      | (go_at_call 77; refine (out3_c _ _ _).mono ?_; rintro e_ _ ⟨rfl, hb_⟩; replace HS := HS.bl hb_; clear hb_))
     go_ret2
     exact B3.nil rfl HS.nb
   | true =>
    go_wp2_with (first
     | (go_at_call 77; refine (out3_c _ _ _).mono ?_; rintro e_ _ ⟨rfl, hb_⟩; replace HS := HS.bl hb_; clear hb_))
    go_ret2
    exact B3.nil rfl HS.nb
 ·skip
  have n0 : (er != 0) = true := bne_iff_ne.2 h0
  clear h0
  go_wp2_with fail
  go_ret2
  exact B3.nil rfl HS.nb
end Go.Proofs.YtkpfojpmigchlaaGreat.Own
