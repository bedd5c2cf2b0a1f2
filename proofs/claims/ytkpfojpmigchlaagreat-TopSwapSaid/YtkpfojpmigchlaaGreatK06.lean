/- Parts of the proof of TopSwap, laid together and made shorter by a program of this claim. -/
import Derived.ScopeJumps
import Derived.WalkMore
import Derived.Deep.QuietTactic
import Derived.BigQuiet
import Derived.Test.YtkpfojpmigchlaaGreatK03
import Derived.Test.YtkpfojpmigchlaaGreatK01
import Derived.Test.YtkpfojpmigchlaaGreatK04
import Derived.Test.YtkpfojpmigchlaaGreatK02
set_option linter.unusedVariables false
set_option linter.unusedSimpArgs false
namespace Go.Proofs.YtkpfojpmigchlaaGreat.Own
open Go Go.RowKit Go.Proofs.YtkpfojpmigchlaaGreatW.PrintWords Go.Proofs.YtkpfojpmigchlaaGreatW.PrintMore Go.Proofs.YtkpfojpmigchlaaGreatW.PrintLast Go.Proofs.YtkpfojpmigchlaaGreat.Q
open Go.Proofs.YtkpfojpmigchlaaGreat.Zip
open Go.Proofs.YtkpfojpmigchlaaGreat.Zap
section
set_option maxHeartbeats 16000000
set_option maxRecDepth 100000
theorem low63 (n : Int) : 0 ≤ Go.bits .and .i64 n 63 ∧ Go.bits .and .i64 n 63 < 64 := by
 have h : (BitVec.ofInt 64 n &&& BitVec.ofInt 64 (63 : Int)).toNat < 64 := by
  rw [BitVec.toNat_and]
  exact Nat.lt_of_le_of_lt Nat.and_le_right uJ
 show 0 ≤ IntKind.i64.wrap ((BitVec.ofInt 64 n &&& BitVec.ofInt 64 (63 : Int)).toNat : Int) ∧ IntKind.i64.wrap ((BitVec.ofInt 64 n &&& BitVec.ofInt 64 (63 : Int)).toNat : Int) < 64
 rw [IntKind.wrap_i64]
 omega
theorem lowu63 (n : Int) : 0 ≤ wrap64 (Go.bits .and .u64 n 63) ∧ wrap64 (Go.bits .and .u64 n 63) < 64 := by
 have h : (BitVec.ofInt 64 n &&& BitVec.ofInt 64 (63 : Int)).toNat < 64 := by
  rw [BitVec.toNat_and]
  exact Nat.lt_of_le_of_lt Nat.and_le_right uJ
 have e : Go.bits .and .u64 n 63 = ((BitVec.ofInt 64 n &&& BitVec.ofInt 64 (63 : Int)).toNat : Int) := by
  show IntKind.u64.wrap ((BitVec.ofInt 64 n &&& BitVec.ofInt 64 (63 : Int)).toNat : Int) = _
  rw [u64_wrap]
  omega
 rw [e]
 unfold wrap64
 omega
theorem xor64_lt (a b : Int) (h0 : 0 ≤ a) (h1 : a < 64) (h2 : 0 ≤ b) (h3 : b < 64) : 0 ≤ Go.bits .xor .i64 a b ∧ Go.bits .xor .i64 a b < 64 := by
 obtain ⟨x, rfl⟩ := Int.eq_ofNat_of_zero_le h0
 obtain ⟨y, rfl⟩ := Int.eq_ofNat_of_zero_le h2
 have hx : x ^^^ y < 2 ^ 6 := Nat.xor_lt_two_pow uY uY
 have e : Go.bits .xor .i64 (x : Int) (y : Int) = ((x ^^^ y : Nat) : Int) := by
  show IntKind.i64.wrap ((BitVec.ofInt 64 (x : Int) ^^^ BitVec.ofInt 64 (y : Int)).toNat : Int) = _
  rw [BitVec.toNat_xor, BitVec.ofInt_natCast, BitVec.ofInt_natCast, BitVec.toNat_ofNat, BitVec.toNat_ofNat, Nat.mod_eq_of_lt uY, Nat.mod_eq_of_lt uY, IntKind.wrap_i64]
  omega
 rw [e]
 omega
def veilV (x y k a b c d e : Int) : Int := (cookie_veil.f 5 x y k a b c d e).getD 0
theorem veil_some (x y k a b c d e : Int) : cookie_veil.f 5 x y k a b c d e = some (veilV x y k a b c d e) ∧ 0 ≤ veilV x y k a b c d e ∧ veilV x y k a b c d e < 64 := by
 have h : cookie_veil.f 5 x y k a b c d e = some (wrap64 (Go.bits .and .u64 (sipWords x y [k, a, b, c, d, 64, e]) 63)) := by
  have hw : sip_Words.f 5 x y [k, a, b, c, d, 64, e] = some (sipWords x y [k, a, b, c, d, 64, e]) := by
   show (if ([k, a, b, c, d, 64, e] : List Int).length ≤ 1048576 then some (sipWords x y [k, a, b, c, d, 64, e]) else none) = _
   rw [if_pos (Nat.le_of_ble_eq_true rfl)]
  rw [cookie_veil.f, cookie_sum.f, hw, Option.bind_some, Option.bind_some]
 have e2 : veilV x y k a b c d e = wrap64 (Go.bits .and .u64 (sipWords x y [k, a, b, c, d, 64, e]) 63) := by rw [veilV, h, Option.getD_some]
 rw [e2]
 exact ⟨h, lowu63 _⟩
def tagV (x y k a b c d sl e : Int) : Int := (cookie_tag.f 5 x y k a b c d sl e).getD 0
theorem tag_some (x y k a b c d sl e : Int) : cookie_tag.f 5 x y k a b c d sl e = some (tagV x y k a b c d sl e) := by
 have hw : sip_Words.f 5 x y [k, a, b, c, d, sl, e] = some (sipWords x y [k, a, b, c, d, sl, e]) := by
  show (if ([k, a, b, c, d, sl, e] : List Int).length ≤ 1048576 then some (sipWords x y [k, a, b, c, d, sl, e]) else none) = _
  rw [if_pos (Nat.le_of_ble_eq_true rfl)]
 have h : ∃ r, cookie_tag.f 5 x y k a b c d sl e = some r := by
  rw [cookie_tag.f, cookie_sum.f, hw, cookie_tagBits.f, Option.bind_some, Option.bind_some]
  by_cases hk : k = 2
  ·rw [if_pos hk, Option.bind_some, if_pos uJ]
   exact ⟨_, rfl⟩
  ·rw [if_neg hk, Option.bind_some, if_pos uJ]
   exact ⟨_, rfl⟩
 obtain ⟨r, hr⟩ := h
 rw [tagV, hr, Option.getD_some]
theorem veil_c (x y k a b c d e : Int) (w : World) : Calls Tryz.prog 106 #[.agg #[.int .u64 x, .int .u64 y], .int .i64 k, .agg #[.int .i64 a, .int .i64 b, .int .i64 c, .int .i64 d], .int .i64 e] w fun e' w' => e' = .returned (.int .i64 (veilV x y k a b c d e)) ∧ Below w.heap.size w w' := cookie_veil.calls 5 x y k a b c d e _ w (veil_some ..).1
theorem tag_c (x y k a b c d sl e : Int) (w : World) : Calls Tryz.prog 107 #[.agg #[.int .u64 x, .int .u64 y], .int .i64 k, .agg #[.int .i64 a, .int .i64 b, .int .i64 c, .int .i64 d], .int .i64 sl, .int .i64 e] w fun e' w' => e' = .returned (.int .i64 (tagV x y k a b c d sl e)) ∧ Below w.heap.size w w' := cookie_tag.calls 5 x y k a b c d sl e _ w (tag_some ..)
def readK (ep y1 y2 y3 y4 y5 y6 k a b c d e sl tg : Int) : Int × Bool :=
 let r := keyAt y1 y2 y3 y4 y5 y6 (wrap64 (ep - 1)) e
 if r.2.2 = true then
  let x := Go.bits .xor .i64 sl (veilV r.1 r.2.1 k a b c d e)
  if tagV r.1 r.2.1 k a b c d x e = tg then (x, true) else (0, false)
 else (0, false)
def read2 (ep y1 y2 y3 y4 y5 y6 a b c d v : Int) : Int × Bool :=
 if 0 ≤ v ∧ v < 65536 then readK ep y1 y2 y3 y4 y5 y6 2 a b c d (v / 16384) (Go.bits .and .i64 (v / 256) 63) (Go.bits .and .i64 v 255) else (0, false)
theorem read2_slot {ep y1 y2 y3 y4 y5 y6 a b c d v : Int} (h : (read2 ep y1 y2 y3 y4 y5 y6 a b c d v).2 = true) : 0 ≤ (read2 ep y1 y2 y3 y4 y5 y6 a b c d v).1 ∧ (read2 ep y1 y2 y3 y4 y5 y6 a b c d v).1 < 64 := by
 unfold read2 readK at h ⊢
 split at h
 ·rename_i h1
  rw [if_pos h1]
  simp only at h ⊢
  split at h
  ·rename_i h2
   rw [if_pos h2]
   split at h
   ·rename_i h3
    rw [if_pos h3]
    have h4 := (veil_some (keyAt y1 y2 y3 y4 y5 y6 (wrap64 (ep - 1)) (v / 16384)).1 (keyAt y1 y2 y3 y4 y5 y6 (wrap64 (ep - 1)) (v / 16384)).2.1 2 a b c d (v / 16384)).2
    exact xor64_lt _ _ (low63 _).1 (low63 _).2 h4.1 h4.2
   ·exact absurd h uJ
  ·exact absurd h uJ
 ·exact absurd h uJ
section
attribute [local go_sem high] eqA170
theorem read2_calls (ep y1 y2 y3 y4 y5 y6 a b c d v : Int) (W : World) : Calls Tryz.prog 98 #[.agg #[.int .i64 ep, .int .u64 y1, .int .u64 y2, .int .u64 y3, .int .u64 y4, .int .u64 y5, .int .u64 y6], .int .i64 2, .agg #[.int .i64 a, .int .i64 b, .int .i64 c, .int .i64 d], .int .i64 v] W fun e w' => e = .returned (.tuple #[.int .i64 (read2 ep y1 y2 y3 y4 y5 y6 a b c d v).1, .bool (read2 ep y1 y2 y3 y4 y5 y6 a b c d v).2]) ∧ Below W.heap.size W w' := by
 have hu31 := Tryz.underlying31
 have hu89 := Tryz.underlying89
 have hu29 := Tryz.underlying29
 have hu170 := Tryz.underlying170
 have hw14 : wrap64 14 = 14 := w64 uJ uJ
 have hw16 : wrap64 16 = 16 := w64 uJ uJ
 have hw255 : wrap64 255 = 255 := w64 uJ uJ
 have hw256 : wrap64 256 = 256 := w64 uJ uJ
 have HS : Aside0 (St (fun _ => False) W W [] []) := ⟨St.init _ _⟩
 by_cases hv : 0 ≤ v ∧ v < 65536
 ·skip
  have HV : Aside0 (read2 ep y1 y2 y3 y4 y5 y6 a b c d v = readK ep y1 y2 y3 y4 y5 y6 2 a b c d (v / 16384) (Go.bits .and .i64 (v / 256) 63) (Go.bits .and .i64 v 255)) := ⟨by unfold read2; rw [if_pos hv]⟩
  rw [HV.out]
  have d0 : decide (v < 0) = false := decide_eq_false uY
  have d1 : decide (65536 ≤ v) = false := decide_eq_false uY
  obtain ⟨kk, hkk⟩ : ∃ q, q = keyAt y1 y2 y3 y4 y5 y6 (wrap64 (ep - 1)) (v / 16384) := ⟨_, rfl⟩
  obtain ⟨ka, kb, ki⟩ := kk
  have HK := mA hkk
  have HKF : Aside0 (cookie_Key.f 1 ep y1 y2 y3 y4 y5 y6 (v / 16384) = some (ka, kb, ki)) := ⟨by show some _ = some _; rw [hkk]⟩
  clear hkk hv
  go_enter Tryz.func98, Tryz.ntmps98
  go_upto_region 4 with (first
   | (refine zA 4 HS ?_; clear HS; intro gr w1 HS z_; clear z_)
   | (refine zA 6 HS ?_; clear HS; intro gf w2 HS z_; clear z_)
   | (go_at_call 115; refine (cookie_tagBits.calls 2 8 _ uJ).mono ?_; rintro e_ w3 ⟨rfl, hd_⟩; have hb_ := hd_.below; clear hd_; replace HS := HS.bl hb_; clear hb_))
  replace HS := HS.dr
  refine zT 16 (fun w' => True) trivial fun hHeld => ?_
  generalize w3.drew = w4 at HS hHeld ⊢
  refine zR [(0,27),(1,28),(2,29),(3,30),(4,31),(5,32),(6,33),(7,34),(8,35),(9,36),(10,37),(11,38),(12,39),(13,40)] 2 ?_ ?_
  refine zO 14 (tf 15 1) fun K hK => ?_
  refine box_step (by rfl) (N := 11) rfl (run_al170 _ _ _ rfl) ?_
  intro gp hg_ w5 hbx_ hb_
  replace HS := HS.nw hg_ hbx_ hb_
  clear hg_ hbx_ hb_ hHeld
  refine hK.out _ _ trivial (fun hHeld => ?_)
  clear hK K
  refine zN ?_
  refine zo 15 (tf 16 0) fun K hK => ?_
  refine zW 170 HS 0 ?_
  clear HS hHeld
  intro w6 HS
  refine hK.out _ _ trivial (fun hHeld => ?_)
  clear hK K
  refine done_ uW ?_
  clear hHeld
  have c_gp_0 := HS.c 0 0
  go_upto_region 6 with (first
   | ((with_reducible refine zd 42 ?_); refine Kd.event_run rfl (run_ld31 _ _ _ _ _ (.tmp 4) rfl rfl HS.b2 rfl) ?_)
   | (go_at_call 116; refine (cookie_Key.calls 1 ep y1 y2 y3 y4 y5 y6 (v / 16384) ka kb ki _ HKF.out).mono ?_; rintro e_ w7 ⟨rfl, hb_⟩; clear c_gp_0; replace HS := HS.bl hb_; clear hb_)
   | (refine zB 12 HS (run_al29 _ _ _ rfl) ?_; clear HS; intro gk w8 HS z_; clear z_)
   | (refine zS 29 12 HS 0 ?_; clear HS; intro w9 HS z_; clear z_))
  cases ki with
  | false =>
   have HR : Aside0 (readK ep y1 y2 y3 y4 y5 y6 2 a b c d (v / 16384) (Go.bits .and .i64 (v / 256) 63) (Go.bits .and .i64 v 255) = (0, false)) := ⟨by unfold readK; rw [← HK.out]; rfl⟩
   go_wp2_with fail
   go_ret2
   rw [HR.out]
   exact ⟨rfl, HS.nb⟩
  | true =>
   go_upto_region 8 with fail
   replace HS := HS.dr
   refine zT 10 (fun w' => w'.cell? ⟨gp, 1, none⟩ = some (.int .i64 (Go.bits .and .i64 (v / 256) 63)) ∧ w'.cell? ⟨gp, 0, none⟩ = some (.int .i64 (v / 16384)) ∧ Blk w' gk 29 #[.int .u64 ka, .int .u64 kb] ∧ Blk w' gf 89 #[.int .i64 a, .int .i64 b, .int .i64 c, .int .i64 d]) ⟨HS.c 1 1, HS.c 1 0, HS.b0, HS.b2⟩ fun hHeld => ?_
   generalize w9.drew = wA at HS hHeld ⊢
   refine run_ [(0, 50), (3, 53), (5, 55), (1, 51), (2, 52), (4, 54), (6, 56)] (fuel := 3) (a2 := ?_) rfl uW (fun _ _ _ _ _ h => h) hHeld ?_ ?_
   rotate_left
   ·exact zD
   refine zO 7 (tf 8 2) fun K hK => ?_
   refine zG Tryz.func106 ((veil_c ka kb 2 a b c d (v / 16384) _).mono ?_)
   rintro e_ wB ⟨rfl, hb_⟩
   refine ⟨_, rfl, ?_⟩
   replace HS := HS.bl hb_
   clear hb_ hHeld
   refine hK.out _ _ ⟨HS.c 1 1, HS.c 1 0, HS.b0, HS.b2⟩ (fun hHeld => ?_)
   clear hK K
   refine zN ?_
   refine zR [(8,58),(9,14)] 0 ?_ ?_
   refine done_ uW ?_
   clear hHeld
   obtain ⟨sl, hsl⟩ : ∃ q, q = Go.bits .xor .i64 (Go.bits .and .i64 (v / 256) 63) (veilV ka kb 2 a b c d (v / 16384)) := ⟨_, rfl⟩
   rw [← hsl]
   have HSL := mA hsl
   clear hsl
   go_upto_region 9 with fail
   replace HS := HS.dr
   refine zT 14 (fun w' => w'.cell? ⟨gp, 0, none⟩ = some (.int .i64 (v / 16384)) ∧ w'.cell? ⟨gp, 1, none⟩ = some (.int .i64 (Go.bits .and .i64 (v / 256) 63)) ∧ Blk w' gk 29 #[.int .u64 ka, .int .u64 kb] ∧ Blk w' gf 89 #[.int .i64 a, .int .i64 b, .int .i64 c, .int .i64 d]) ⟨HS.c 1 0, HS.c 1 1, HS.b0, HS.b2⟩ fun hHeld => ?_
   generalize wB.drew = wC at HS hHeld ⊢
   refine run_ [(0, 59), (2, 61), (5, 64), (7, 66), (8, 67), (1, 60), (3, 62), (4, 63), (6, 65), (9, 68)] (fuel := 4) (a2 := ?_) rfl uW (fun _ _ _ _ _ h => h) hHeld ?_ ?_
   rotate_left
   ·exact zF
   refine join_ (σ := Nat) 1 (tf 13 1) (fun s_ => [(69, .int .i64 (tagV ka kb 2 a b c d sl (v / 16384))), (70, .agg #[.int .i64 (v / 16384), .int .i64 (Go.bits .and .i64 (v / 256) 63), .int .i64 (tagV ka kb 2 a b c d sl (v / 16384))]), (15, .pointer (some ⟨s_, 0, none⟩))]) (fun s_ w' => (w'.cell? ⟨gp, 0, none⟩ = some (.int .i64 (v / 16384)) ∧ w'.cell? ⟨gp, 1, none⟩ = some (.int .i64 (Go.bits .and .i64 (v / 256) 63)) ∧ Blk w' gk 29 #[.int .u64 ka, .int .u64 kb] ∧ Blk w' gf 89 #[.int .i64 a, .int .i64 b, .int .i64 c, .int .i64 d]) ∧ St (fun _ => False) W w' [(s_, 170, #[.int .i64 0, .int .i64 0, .int .i64 0]), (gk, 29, #[.int .u64 ka, .int .u64 kb]), (gp, 170, #[.int .i64 (v / 16384), .int .i64 (Go.bits .and .i64 (v / 256) 63), .int .i64 (Go.bits .and .i64 v 255)]), (gf, 89, #[.int .i64 a, .int .i64 b, .int .i64 c, .int .i64 d]), (gr, 31, #[.int .i64 ep, .int .u64 y1, .int .u64 y2, .int .u64 y3, .int .u64 y4, .int .u64 y5, .int .u64 y6])] []) ?_ ?_
   rotate_left
   ·intro hCont
    refine two_ (i := 10) (j := 12) (Ni := some 69) (Nj := some 15) (tf 11 3) (mb 14 5119) rfl rfl rfl rfl uW uJ uJ (fun K hK => ?_) (fun K hK => ?_)
    ·skip
     refine zG Tryz.func107 ((tag_c ka kb 2 a b c d sl (v / 16384) _).mono ?_)
     rintro e_ wD0 ⟨rfl, hb_⟩
     refine ⟨_, rfl, ?_⟩
     replace HS := HS.bl hb_
     clear hb_ hHeld
     refine hK.out _ _ ⟨HS.c 1 0, HS.c 1 1, HS.b0, HS.b2⟩ (fun hHeld => ?_)
     clear hK K
     refine zN ?_
     refine zP 11 70 (tf 12 2) ?_
     refine zO 12 (tf 13 1) fun K hK => ?_
     refine box_step (by rfl) (N := 15) rfl (run_al170 _ _ _ rfl) ?_
     intro gq hg_ wE1 hbx_ hb_
     replace HS := HS.nw hg_ hbx_ hb_
     clear hg_ hbx_ hb_ hHeld
     refine hK.out _ _ ⟨HS.c 2 0, HS.c 2 1, HS.b1, HS.b3⟩ (fun hHeld => ?_)
     clear hK K
     refine zN ?_
     exact yY
    ·skip
     refine box_step (by rfl) (N := 15) rfl (run_al170 _ _ _ rfl) ?_
     intro gq hg_ wE0 hbx_ hb_
     replace HS := HS.nw hg_ hbx_ hb_
     clear hg_ hbx_ hb_ hHeld
     refine hK.out _ _ ⟨HS.c 2 0, HS.c 2 1, HS.b1, HS.b3⟩ (fun hHeld => ?_)
     clear hK K
     refine zN ?_
     refine zO 10 (mb 14 6143) fun K hK => ?_
     refine zG Tryz.func107 ((tag_c ka kb 2 a b c d sl (v / 16384) _).mono ?_)
     rintro e_ wD1 ⟨rfl, hb_⟩
     refine ⟨_, rfl, ?_⟩
     replace HS := HS.bl hb_
     clear hb_ hHeld
     refine hK.out _ _ ⟨HS.c 2 0, HS.c 2 1, HS.b1, HS.b3⟩ (fun hHeld => ?_)
     clear hK K
     refine zN ?_
     refine zP 11 70 (tf 13 1) ?_
     exact yY
   rintro gq wF ⟨hHeld, h1_⟩
   clear HS
   have HS := mA h1_
   clear h1_
   refine norm_ (a' := ?_) ?_ ?_
   rotate_left
   ·exact zK
   refine zo 13 (tf 14 0) fun K hK => ?_
   refine zW 170 HS 0 ?_
   clear HS hHeld
   intro wG HS
   refine hK.out _ _ ⟨HS.c 2 0, HS.c 2 1, HS.b1, HS.b3⟩ (fun hHeld => ?_)
   clear hK K
   refine done_ uW ?_
   clear hHeld
   have HR : Aside0 (readK ep y1 y2 y3 y4 y5 y6 2 a b c d (v / 16384) (Go.bits .and .i64 (v / 256) 63) (Go.bits .and .i64 v 255) = if tagV ka kb 2 a b c d sl (v / 16384) = Go.bits .and .i64 v 255 then (sl, true) else (0, false)) := ⟨by unfold readK; rw [← HK.out]; simp only [if_true]; rw [← HSL.out]⟩
   by_cases hq : tagV ka kb 2 a b c d sl (v / 16384) = Go.bits .and .i64 v 255
   ·skip
    have hq2 : (tagV ka kb 2 a b c d sl (v / 16384) == Go.bits .and .i64 v 255) = true := beq_iff_eq.2 hq
    have HQ := mA hq
    clear hq
    go_wp2_with (first
     | ((with_reducible refine zd 71 ?_); refine Kd.event_run rfl (run_ld170 _ _ _ _ _ (.tmp 15) rfl rfl HS.b0 rfl) ?_)
     | ((with_reducible refine zd 72 ?_); refine Kd.event_run rfl (run_ld170 _ _ _ _ _ (.tmp 11) rfl rfl HS.b2 rfl) ?_))
    go_ret2
    rw [HR.out, if_pos HQ.out]
    exact ⟨rfl, HS.nb⟩
   ·skip
    have hq2 : (tagV ka kb 2 a b c d sl (v / 16384) == Go.bits .and .i64 v 255) = false := beq_eq_false_iff_ne.2 hq
    have HQ := mA hq
    clear hq
    go_wp2_with (first
     | ((with_reducible refine zd 71 ?_); refine Kd.event_run rfl (run_ld170 _ _ _ _ _ (.tmp 15) rfl rfl HS.b0 rfl) ?_)
     | ((with_reducible refine zd 72 ?_); refine Kd.event_run rfl (run_ld170 _ _ _ _ _ (.tmp 11) rfl rfl HS.b2 rfl) ?_))
    go_ret2
    rw [HR.out, if_neg HQ.out]
    exact ⟨rfl, HS.nb⟩
 ·rcases (show v < 0 ∨ 0 ≤ v ∧ 65536 ≤ v from by omega) with h1 | ⟨h1, h2⟩
  ·skip
   have HV : Aside0 (read2 ep y1 y2 y3 y4 y5 y6 a b c d v = (0, false)) := ⟨by unfold read2; rw [if_neg hv]⟩
   rw [HV.out]
   have d0 : decide (v < 0) = true := decide_eq_true h1
   clear hv h1
   go_enter Tryz.func98, Tryz.ntmps98
   go_wp2_with (first
    | (refine zA 4 HS ?_; clear HS; intro gr w1 HS z_; clear z_)
    | (refine zA 6 HS ?_; clear HS; intro gf w2 HS z_; clear z_)
    | (go_at_call 115; refine (cookie_tagBits.calls 2 8 _ uJ).mono ?_; rintro e_ w3 ⟨rfl, hd_⟩; have hb_ := hd_.below; clear hd_; replace HS := HS.bl hb_; clear hb_))
   go_ret2
   exact ⟨rfl, HS.nb⟩
  ·skip
   have HV : Aside0 (read2 ep y1 y2 y3 y4 y5 y6 a b c d v = (0, false)) := ⟨by unfold read2; rw [if_neg hv]⟩
   rw [HV.out]
   have d0 : decide (v < 0) = false := decide_eq_false uY
   have d1 : decide (65536 ≤ v) = true := decide_eq_true h2
   clear hv h1 h2
   go_enter Tryz.func98, Tryz.ntmps98
   go_wp2_with (first
    | (refine zA 4 HS ?_; clear HS; intro gr w1 HS z_; clear z_)
    | (refine zA 6 HS ?_; clear HS; intro gf w2 HS z_; clear z_)
    | (go_at_call 115; refine (cookie_tagBits.calls 2 8 _ uJ).mono ?_; rintro e_ w3 ⟨rfl, hd_⟩; have hb_ := hd_.below; clear hd_; replace HS := HS.bl hb_; clear hb_))
   go_ret2
   exact ⟨rfl, HS.nb⟩
end
def read1 (ep y1 y2 y3 y4 y5 y6 a b c d v : Int) : Int × Bool :=
 if 0 ≤ v ∧ v < 1048576 then readK ep y1 y2 y3 y4 y5 y6 1 a b c d (v / 262144) (Go.bits .and .i64 (v / 4096) 63) (Go.bits .and .i64 v 4095) else (0, false)
theorem read1_slot {ep y1 y2 y3 y4 y5 y6 a b c d v : Int} (h : (read1 ep y1 y2 y3 y4 y5 y6 a b c d v).2 = true) : 0 ≤ (read1 ep y1 y2 y3 y4 y5 y6 a b c d v).1 ∧ (read1 ep y1 y2 y3 y4 y5 y6 a b c d v).1 < 64 := by
 unfold read1 readK at h ⊢
 split at h
 ·rename_i h1
  rw [if_pos h1]
  simp only at h ⊢
  split at h
  ·rename_i h2
   rw [if_pos h2]
   split at h
   ·rename_i h3
    rw [if_pos h3]
    have h4 := (veil_some (keyAt y1 y2 y3 y4 y5 y6 (wrap64 (ep - 1)) (v / 262144)).1 (keyAt y1 y2 y3 y4 y5 y6 (wrap64 (ep - 1)) (v / 262144)).2.1 1 a b c d (v / 262144)).2
    exact xor64_lt _ _ (low63 _).1 (low63 _).2 h4.1 h4.2
   ·exact absurd h uJ
  ·exact absurd h uJ
 ·exact absurd h uJ
section
attribute [local go_sem high] eqA170
theorem read1_calls (ep y1 y2 y3 y4 y5 y6 a b c d v : Int) (W : World) : Calls Tryz.prog 98 #[.agg #[.int .i64 ep, .int .u64 y1, .int .u64 y2, .int .u64 y3, .int .u64 y4, .int .u64 y5, .int .u64 y6], .int .i64 1, .agg #[.int .i64 a, .int .i64 b, .int .i64 c, .int .i64 d], .int .i64 v] W fun e w' => e = .returned (.tuple #[.int .i64 (read1 ep y1 y2 y3 y4 y5 y6 a b c d v).1, .bool (read1 ep y1 y2 y3 y4 y5 y6 a b c d v).2]) ∧ Below W.heap.size W w' := by
 have hu31 := Tryz.underlying31
 have hu89 := Tryz.underlying89
 have hu29 := Tryz.underlying29
 have hu170 := Tryz.underlying170
 have hw18 : wrap64 18 = 18 := w64 uJ uJ
 have hw20 : wrap64 20 = 20 := w64 uJ uJ
 have hw4095 : wrap64 4095 = 4095 := w64 uJ uJ
 have hw4096 : wrap64 4096 = 4096 := w64 uJ uJ
 have HS : Aside0 (St (fun _ => False) W W [] []) := ⟨St.init _ _⟩
 by_cases hv : 0 ≤ v ∧ v < 1048576
 ·skip
  have HV : Aside0 (read1 ep y1 y2 y3 y4 y5 y6 a b c d v = readK ep y1 y2 y3 y4 y5 y6 1 a b c d (v / 262144) (Go.bits .and .i64 (v / 4096) 63) (Go.bits .and .i64 v 4095)) := ⟨by unfold read1; rw [if_pos hv]⟩
  rw [HV.out]
  have d0 : decide (v < 0) = false := decide_eq_false uY
  have d1 : decide (1048576 ≤ v) = false := decide_eq_false uY
  obtain ⟨kk, hkk⟩ : ∃ q, q = keyAt y1 y2 y3 y4 y5 y6 (wrap64 (ep - 1)) (v / 262144) := ⟨_, rfl⟩
  obtain ⟨ka, kb, ki⟩ := kk
  have HK := mA hkk
  have HKF : Aside0 (cookie_Key.f 1 ep y1 y2 y3 y4 y5 y6 (v / 262144) = some (ka, kb, ki)) := ⟨by show some _ = some _; rw [hkk]⟩
  clear hkk hv
  go_enter Tryz.func98, Tryz.ntmps98
  go_upto_region 4 with (first
   | (refine zA 4 HS ?_; clear HS; intro gr w1 HS z_; clear z_)
   | (refine zA 6 HS ?_; clear HS; intro gf w2 HS z_; clear z_)
   | (go_at_call 115; refine (cookie_tagBits.calls 1 12 _ uJ).mono ?_; rintro e_ w3 ⟨rfl, hd_⟩; have hb_ := hd_.below; clear hd_; replace HS := HS.bl hb_; clear hb_))
  replace HS := HS.dr
  refine zT 16 (fun w' => True) trivial fun hHeld => ?_
  generalize w3.drew = w4 at HS hHeld ⊢
  refine zR [(0,27),(1,28),(2,29),(3,30),(4,31),(5,32),(6,33),(7,34),(8,35),(9,36),(10,37),(11,38),(12,39),(13,40)] 2 ?_ ?_
  refine zO 14 (tf 15 1) fun K hK => ?_
  refine box_step (by rfl) (N := 11) rfl (run_al170 _ _ _ rfl) ?_
  intro gp hg_ w5 hbx_ hb_
  replace HS := HS.nw hg_ hbx_ hb_
  clear hg_ hbx_ hb_ hHeld
  refine hK.out _ _ trivial (fun hHeld => ?_)
  clear hK K
  refine zN ?_
  refine zo 15 (tf 16 0) fun K hK => ?_
  refine zW 170 HS 0 ?_
  clear HS hHeld
  intro w6 HS
  refine hK.out _ _ trivial (fun hHeld => ?_)
  clear hK K
  refine done_ uW ?_
  clear hHeld
  have c_gp_0 := HS.c 0 0
  go_upto_region 6 with (first
   | ((with_reducible refine zd 42 ?_); refine Kd.event_run rfl (run_ld31 _ _ _ _ _ (.tmp 4) rfl rfl HS.b2 rfl) ?_)
   | (go_at_call 116; refine (cookie_Key.calls 1 ep y1 y2 y3 y4 y5 y6 (v / 262144) ka kb ki _ HKF.out).mono ?_; rintro e_ w7 ⟨rfl, hb_⟩; clear c_gp_0; replace HS := HS.bl hb_; clear hb_)
   | (refine zB 12 HS (run_al29 _ _ _ rfl) ?_; clear HS; intro gk w8 HS z_; clear z_)
   | (refine zS 29 12 HS 0 ?_; clear HS; intro w9 HS z_; clear z_))
  cases ki with
  | false =>
   have HR : Aside0 (readK ep y1 y2 y3 y4 y5 y6 1 a b c d (v / 262144) (Go.bits .and .i64 (v / 4096) 63) (Go.bits .and .i64 v 4095) = (0, false)) := ⟨by unfold readK; rw [← HK.out]; rfl⟩
   go_wp2_with fail
   go_ret2
   rw [HR.out]
   exact ⟨rfl, HS.nb⟩
  | true =>
   go_upto_region 8 with fail
   replace HS := HS.dr
   refine zT 10 (fun w' => w'.cell? ⟨gp, 1, none⟩ = some (.int .i64 (Go.bits .and .i64 (v / 4096) 63)) ∧ w'.cell? ⟨gp, 0, none⟩ = some (.int .i64 (v / 262144)) ∧ Blk w' gk 29 #[.int .u64 ka, .int .u64 kb] ∧ Blk w' gf 89 #[.int .i64 a, .int .i64 b, .int .i64 c, .int .i64 d]) ⟨HS.c 1 1, HS.c 1 0, HS.b0, HS.b2⟩ fun hHeld => ?_
   generalize w9.drew = wA at HS hHeld ⊢
   refine run_ [(0, 50), (3, 53), (5, 55), (1, 51), (2, 52), (4, 54), (6, 56)] (fuel := 3) (a2 := ?_) rfl uW (fun _ _ _ _ _ h => h) hHeld ?_ ?_
   rotate_left
   ·exact zD
   refine zO 7 (tf 8 2) fun K hK => ?_
   refine zG Tryz.func106 ((veil_c ka kb 1 a b c d (v / 262144) _).mono ?_)
   rintro e_ wB ⟨rfl, hb_⟩
   refine ⟨_, rfl, ?_⟩
   replace HS := HS.bl hb_
   clear hb_ hHeld
   refine hK.out _ _ ⟨HS.c 1 1, HS.c 1 0, HS.b0, HS.b2⟩ (fun hHeld => ?_)
   clear hK K
   refine zN ?_
   refine zR [(8,58),(9,14)] 0 ?_ ?_
   refine done_ uW ?_
   clear hHeld
   obtain ⟨sl, hsl⟩ : ∃ q, q = Go.bits .xor .i64 (Go.bits .and .i64 (v / 4096) 63) (veilV ka kb 1 a b c d (v / 262144)) := ⟨_, rfl⟩
   rw [← hsl]
   have HSL := mA hsl
   clear hsl
   go_upto_region 9 with fail
   replace HS := HS.dr
   refine zT 14 (fun w' => w'.cell? ⟨gp, 0, none⟩ = some (.int .i64 (v / 262144)) ∧ w'.cell? ⟨gp, 1, none⟩ = some (.int .i64 (Go.bits .and .i64 (v / 4096) 63)) ∧ Blk w' gk 29 #[.int .u64 ka, .int .u64 kb] ∧ Blk w' gf 89 #[.int .i64 a, .int .i64 b, .int .i64 c, .int .i64 d]) ⟨HS.c 1 0, HS.c 1 1, HS.b0, HS.b2⟩ fun hHeld => ?_
   generalize wB.drew = wC at HS hHeld ⊢
   refine run_ [(0, 59), (2, 61), (5, 64), (7, 66), (8, 67), (1, 60), (3, 62), (4, 63), (6, 65), (9, 68)] (fuel := 4) (a2 := ?_) rfl uW (fun _ _ _ _ _ h => h) hHeld ?_ ?_
   rotate_left
   ·exact zF
   refine join_ (σ := Nat) 1 (tf 13 1) (fun s_ => [(69, .int .i64 (tagV ka kb 1 a b c d sl (v / 262144))), (70, .agg #[.int .i64 (v / 262144), .int .i64 (Go.bits .and .i64 (v / 4096) 63), .int .i64 (tagV ka kb 1 a b c d sl (v / 262144))]), (15, .pointer (some ⟨s_, 0, none⟩))]) (fun s_ w' => (w'.cell? ⟨gp, 0, none⟩ = some (.int .i64 (v / 262144)) ∧ w'.cell? ⟨gp, 1, none⟩ = some (.int .i64 (Go.bits .and .i64 (v / 4096) 63)) ∧ Blk w' gk 29 #[.int .u64 ka, .int .u64 kb] ∧ Blk w' gf 89 #[.int .i64 a, .int .i64 b, .int .i64 c, .int .i64 d]) ∧ St (fun _ => False) W w' [(s_, 170, #[.int .i64 0, .int .i64 0, .int .i64 0]), (gk, 29, #[.int .u64 ka, .int .u64 kb]), (gp, 170, #[.int .i64 (v / 262144), .int .i64 (Go.bits .and .i64 (v / 4096) 63), .int .i64 (Go.bits .and .i64 v 4095)]), (gf, 89, #[.int .i64 a, .int .i64 b, .int .i64 c, .int .i64 d]), (gr, 31, #[.int .i64 ep, .int .u64 y1, .int .u64 y2, .int .u64 y3, .int .u64 y4, .int .u64 y5, .int .u64 y6])] []) ?_ ?_
   rotate_left
   ·intro hCont
    refine two_ (i := 10) (j := 12) (Ni := some 69) (Nj := some 15) (tf 11 3) (mb 14 5119) rfl rfl rfl rfl uW uJ uJ (fun K hK => ?_) (fun K hK => ?_)
    ·skip
     refine zG Tryz.func107 ((tag_c ka kb 1 a b c d sl (v / 262144) _).mono ?_)
     rintro e_ wD0 ⟨rfl, hb_⟩
     refine ⟨_, rfl, ?_⟩
     replace HS := HS.bl hb_
     clear hb_ hHeld
     refine hK.out _ _ ⟨HS.c 1 0, HS.c 1 1, HS.b0, HS.b2⟩ (fun hHeld => ?_)
     clear hK K
     refine zN ?_
     refine zP 11 70 (tf 12 2) ?_
     refine zO 12 (tf 13 1) fun K hK => ?_
     refine box_step (by rfl) (N := 15) rfl (run_al170 _ _ _ rfl) ?_
     intro gq hg_ wE1 hbx_ hb_
     replace HS := HS.nw hg_ hbx_ hb_
     clear hg_ hbx_ hb_ hHeld
     refine hK.out _ _ ⟨HS.c 2 0, HS.c 2 1, HS.b1, HS.b3⟩ (fun hHeld => ?_)
     clear hK K
     refine zN ?_
     exact yY
    ·skip
     refine box_step (by rfl) (N := 15) rfl (run_al170 _ _ _ rfl) ?_
     intro gq hg_ wE0 hbx_ hb_
     replace HS := HS.nw hg_ hbx_ hb_
     clear hg_ hbx_ hb_ hHeld
     refine hK.out _ _ ⟨HS.c 2 0, HS.c 2 1, HS.b1, HS.b3⟩ (fun hHeld => ?_)
     clear hK K
     refine zN ?_
     refine zO 10 (mb 14 6143) fun K hK => ?_
     refine zG Tryz.func107 ((tag_c ka kb 1 a b c d sl (v / 262144) _).mono ?_)
     rintro e_ wD1 ⟨rfl, hb_⟩
     refine ⟨_, rfl, ?_⟩
     replace HS := HS.bl hb_
     clear hb_ hHeld
     refine hK.out _ _ ⟨HS.c 2 0, HS.c 2 1, HS.b1, HS.b3⟩ (fun hHeld => ?_)
     clear hK K
     refine zN ?_
     refine zP 11 70 (tf 13 1) ?_
     exact yY
   rintro gq wF ⟨hHeld, h1_⟩
   clear HS
   have HS := mA h1_
   clear h1_
   refine norm_ (a' := ?_) ?_ ?_
   rotate_left
   ·exact zK
   refine zo 13 (tf 14 0) fun K hK => ?_
   refine zW 170 HS 0 ?_
   clear HS hHeld
   intro wG HS
   refine hK.out _ _ ⟨HS.c 2 0, HS.c 2 1, HS.b1, HS.b3⟩ (fun hHeld => ?_)
   clear hK K
   refine done_ uW ?_
   clear hHeld
   have HR : Aside0 (readK ep y1 y2 y3 y4 y5 y6 1 a b c d (v / 262144) (Go.bits .and .i64 (v / 4096) 63) (Go.bits .and .i64 v 4095) = if tagV ka kb 1 a b c d sl (v / 262144) = Go.bits .and .i64 v 4095 then (sl, true) else (0, false)) := ⟨by unfold readK; rw [← HK.out]; simp only [if_true]; rw [← HSL.out]⟩
   by_cases hq : tagV ka kb 1 a b c d sl (v / 262144) = Go.bits .and .i64 v 4095
   ·skip
    have hq2 : (tagV ka kb 1 a b c d sl (v / 262144) == Go.bits .and .i64 v 4095) = true := beq_iff_eq.2 hq
    have HQ := mA hq
    clear hq
    go_wp2_with (first
     | ((with_reducible refine zd 71 ?_); refine Kd.event_run rfl (run_ld170 _ _ _ _ _ (.tmp 15) rfl rfl HS.b0 rfl) ?_)
     | ((with_reducible refine zd 72 ?_); refine Kd.event_run rfl (run_ld170 _ _ _ _ _ (.tmp 11) rfl rfl HS.b2 rfl) ?_))
    go_ret2
    rw [HR.out, if_pos HQ.out]
    exact ⟨rfl, HS.nb⟩
   ·skip
    have hq2 : (tagV ka kb 1 a b c d sl (v / 262144) == Go.bits .and .i64 v 4095) = false := beq_eq_false_iff_ne.2 hq
    have HQ := mA hq
    clear hq
    go_wp2_with (first
     | ((with_reducible refine zd 71 ?_); refine Kd.event_run rfl (run_ld170 _ _ _ _ _ (.tmp 15) rfl rfl HS.b0 rfl) ?_)
     | ((with_reducible refine zd 72 ?_); refine Kd.event_run rfl (run_ld170 _ _ _ _ _ (.tmp 11) rfl rfl HS.b2 rfl) ?_))
    go_ret2
    rw [HR.out, if_neg HQ.out]
    exact ⟨rfl, HS.nb⟩
 ·rcases (show v < 0 ∨ 0 ≤ v ∧ 1048576 ≤ v from by omega) with h1 | ⟨h1, h2⟩
  ·skip
   have HV : Aside0 (read1 ep y1 y2 y3 y4 y5 y6 a b c d v = (0, false)) := ⟨by unfold read1; rw [if_neg hv]⟩
   rw [HV.out]
   have d0 : decide (v < 0) = true := decide_eq_true h1
   clear hv h1
   go_enter Tryz.func98, Tryz.ntmps98
   go_wp2_with (first
    | (refine zA 4 HS ?_; clear HS; intro gr w1 HS z_; clear z_)
    | (refine zA 6 HS ?_; clear HS; intro gf w2 HS z_; clear z_)
    | (go_at_call 115; refine (cookie_tagBits.calls 1 12 _ uJ).mono ?_; rintro e_ w3 ⟨rfl, hd_⟩; have hb_ := hd_.below; clear hd_; replace HS := HS.bl hb_; clear hb_))
   go_ret2
   exact ⟨rfl, HS.nb⟩
  ·skip
   have HV : Aside0 (read1 ep y1 y2 y3 y4 y5 y6 a b c d v = (0, false)) := ⟨by unfold read1; rw [if_neg hv]⟩
   rw [HV.out]
   have d0 : decide (v < 0) = false := decide_eq_false uY
   have d1 : decide (1048576 ≤ v) = true := decide_eq_true h2
   clear hv h1 h2
   go_enter Tryz.func98, Tryz.ntmps98
   go_wp2_with (first
    | (refine zA 4 HS ?_; clear HS; intro gr w1 HS z_; clear z_)
    | (refine zA 6 HS ?_; clear HS; intro gf w2 HS z_; clear z_)
    | (go_at_call 115; refine (cookie_tagBits.calls 1 12 _ uJ).mono ?_; rintro e_ w3 ⟨rfl, hd_⟩; have hb_ := hd_.below; clear hd_; replace HS := HS.bl hb_; clear hb_))
   go_ret2
   exact ⟨rfl, HS.nb⟩
end
end
end Go.Proofs.YtkpfojpmigchlaaGreat.Own
namespace Go.Proofs.YtkpfojpmigchlaaGreat.Opt
open Go Go.RowKit Go.Proofs.YtkpfojpmigchlaaGreatW.PrintWords Go.Proofs.YtkpfojpmigchlaaGreatW.PrintMore Go.Proofs.YtkpfojpmigchlaaGreatW.PrintLast Go.Proofs.YtkpfojpmigchlaaGreat.Q
open Go.Proofs.YtkpfojpmigchlaaGreat.Zip
set_option maxHeartbeats 16000000
set_option maxRecDepth 100000
structure S162 where
 f0 : Int
 f1 : Int
 f2 : Int
def z162 : S162 := ⟨(0 : Int), (0 : Int), (0 : Int)⟩
def k162 : Kd S162 := Kd.iso (Kd.pair (Kd.int .i64) (Kd.pair (Kd.int .i64) (Kd.int .i64))) (fun x : S162 => (x.f0, x.f1, x.f2))
theorem k162_open {w : World} {x : S162} {cs : List Value} (h : k162.K w x cs) : cs = [.int .i64 x.f0, .int .i64 x.f1, .int .i64 x.f2] := by
 obtain ⟨_, _, rfl, rfl, ⟨_, _, rfl, rfl, rfl⟩⟩ := h
 exact rfl
theorem k162_mkM (w : World) (base : Nat) (ok : Nat → Prop) (x : S162)  : k162.M w base ok x [.int .i64 x.f0, .int .i64 x.f1, .int .i64 x.f2] := ⟨[.int .i64 x.f0], [.int .i64 x.f1, .int .i64 x.f2], rfl, rfl, ⟨[.int .i64 x.f1], [.int .i64 x.f2], rfl, rfl, rfl⟩⟩
def rd_T162 (xs : List S162) (i : Int) : S162 := xs.getD i.toNat z162
theorem at_T162 {w : World} {A : Option Addr} {n : Nat} {xs : List S162} (h : Kd.C k162 w A n xs) (i : Int) (h0 : 0 ≤ i) (h1 : i < n) : ∃ ad , A = some ad ∧ w.cell? (ad.add (i.toNat * 3)) = some (.int .i64 (rd_T162 xs i).f0) ∧ w.cell? ⟨(ad.add (i.toNat * 3)).block, (ad.add (i.toNat * 3)).off + 1, none⟩ = some (.int .i64 (rd_T162 xs i).f1) ∧ w.cell? ⟨(ad.add (i.toNat * 3)).block, (ad.add (i.toNat * 3)).off + 2, none⟩ = some (.int .i64 (rd_T162 xs i).f2) := by
 obtain ⟨ad, c, e, _, hK, hc0⟩ := Kd.C_get h z162 i h0 h1
 have hc : ∀ j u, c[j]? = some u → w.cell? (ad.add (i.toNat * 3 + j)) = some u := hc0
 obtain rfl := k162_open hK
 exact ⟨ad, e, hc 0 _ rfl, kU, kS⟩
theorem info162 : (Tryz.prog.info? 162).map (fun i => (i.zero, i.size, i.bytes)) = some (some (.agg #[.int .i64 0, .int .i64 0, .int .i64 0]), 3, 24) := by kernel_rfl
theorem clip28 (A : Option Addr) (n c : Nat) (hn : n ≤ c) (w : World) : Calls Tryz.prog 117 #[.slice A n c] w fun e w' => e = .returned (.slice A n n) ∧ w = w' := by
 go_enter Tryz.func117, Tryz.ntmps117
 go_wp2
 go_ret
 exact ⟨rfl, rfl⟩
def owalk (l : List Int) : Nat → Nat → List S162 → Option (List S162 × Int)
 | 0, _, _ => none
 | k + 1, at_, out =>
  if at_ = l.length then some (out, 0)
  else if 1 < rd l at_ then
   if at_ + 1 = l.length then some ([], 5)
   else if rd l (at_ + 1 : Nat) < 2 then some ([], 5)
   else if l.length < at_ + (rd l (at_ + 1 : Nat)).toNat then some ([], 5)
   else owalk l k (at_ + (rd l (at_ + 1 : Nat)).toNat) (out ++ [⟨rd l at_, at_, rd l (at_ + 1 : Nat)⟩])
  else if rd l at_ = 0 then some (out ++ [⟨rd l at_, at_, 1⟩], 0)
  else owalk l k (at_ + 1) (out ++ [⟨rd l at_, at_, 1⟩])
theorem wp_scope_loop {P : Program} {a : Act} {w : World} {Q : Exit → Act → World → Prop} {c rest : Code} (l : Nat) (J : Act → World → Prop) (μ : Act → World → Nat) (hf : findLabel c l = some (Code.skip.seq rest))
 (enter : (∀ a w, J a w → rest.wp P (Exit.jump l J Q) a w) → c.wp P (Exit.jump l J Q) a w)
 (pass : ∀ a w, J a w → rest.wp P (Exit.jump l (fun a' w' => J a' w' ∧ μ a' w' < μ a w) Q) a w) : (Code.scope c).wp P Q a w := by
 refine wp_scope_jumps l J μ hf (enter fun a w h => wp_mono (pass a w h) ?_) (fun a w h => ?_)
 ·intro e a' w' hq
  cases e <;> first | exact hq | exact ⟨hq.1, hq.2.1⟩
 ·exact wp_seq (wp_skip (pass a w h))
theorem r_form {W : World} {b : Nat} {ok : Nat → Prop} {v : Value} {xs : List S162} (h : Kd.R k162 162 W b ok v xs) : ∃ (n : Nat) (A : Option Addr) (c : Nat), v = .slice A n c ∧ n ≤ c ∧ Aside0 (n = xs.length) := by
 obtain ⟨A, c, rfl, hl, _⟩ := Kd.R_reads h
 exact ⟨_, A, c, rfl, hl, ⟨rfl⟩⟩
theorem v_of_r {w W : World} {A : Option Addr} {n c : Nat} {ok : Nat → Prop} {xs : List S162} (hn : n = xs.length) (h : Kd.R k162 162 W w.heap.size ok (.slice A n c) xs) : Kd.V k162 162 W w.heap.size (fun k_ => w.heap.size ≤ k_) (.slice A n n) xs := by
 subst hn
 exact ⟨A, xs.length, rfl, Nat.le_refl _, Kd.R_F (Kd.R_mono (Kd.R_bound h) (fun _ hk => hk.2.1))⟩
theorem v_of_nil (w W : World) : Kd.V k162 162 W w.heap.size (fun k_ => w.heap.size ≤ k_) (.slice none 0 0) [] := ⟨none, 0, rfl, Nat.le_refl _, Kd.F_nil _ _ _⟩
def AtLabel (A : Option Addr) (n c : Nat) (v4 : Value) (i : Nat) (a : Act) : Prop := ∃ (u6 u7 u8 u9 u10 u11 u12 u13 u14 u15 u16 u17 u18 u19 u20 u21 u22 u23 u24 u25 u26 u27 u28 u29 u30 u31 u32 u33 u34 u35 u36 u37 u38 u39 u40 u41 u42 u43 u44 u45 u46 u47 u48 u49 u50 u51 u52 u53 u54 u55 u56 u57 u58 u59 u60 u61 u62 u63 u64 u65 u66 u67 u68 : Value), a = { tmps := #[.slice A n c, undef, .slice none 0 0, .int .i64 0, v4, .int .i64 i, u6, u7, u8, u9, u10, u11, u12, u13, u14, u15, u16, u17, u18, u19, u20, u21, u22, u23, u24, u25, u26, u27, u28, u29, u30, u31, u32, u33, u34, u35, u36, u37, u38, u39, u40, u41, u42, u43, u44, u45, u46, u47, u48, u49, u50, u51, u52, u53, u54, u55, u56, u57, u58, u59, u60, u61, u62, u63, u64, u65, u66, u67, u68], defers := [] }
theorem walk16 (k : Nat) (A : Option Addr) (c : Nat) (l : List Int) (r : List S162 × Int) (w : World) (hr : Kd.C (Kd.int .u8) w A l.length l) (hc : l.length ≤ c) (hl : l.length ≤ 1048576) (hb : ∀ x ∈ l, 0 ≤ x ∧ x ≤ 255) (h : owalk l k 0 [] = some r) :
 Calls Tryz.prog 100 #[.slice A l.length c] w fun e w' => ∃ v0_ : Value, e = .returned (.tuple #[v0_, .int .i64 r.2]) ∧ Kd.V k162 162 w' w.heap.size (fun k_ => (w.heap.size ≤ k_)) v0_ r.1 ∧ Below w.heap.size w w' := by
 have HR := mA hr
 have HBY : Aside0 (∀ i : Nat, i < l.length → 0 ≤ rd l i ∧ rd l i ≤ 255) := ⟨fun i hi => hb _ (by rw [rd]; simp [List.getD_eq_getElem?_getD, List.getElem?_eq_getElem hi])⟩
 have HF := mA h
 clear hr hb h
 go_enter Tryz.func100, Tryz.ntmps100
 go_wp2
 refine wp_scope_loop 0 (fun a' w' => ∃ (gk : Nat) (v4 : Value) (i : Nat) (out : List S162), AtLabel A l.length c v4 i a' ∧ Aside0 (i ≤ l.length ∧ out.length ≤ i ∧ owalk l gk i out = some r) ∧ Aside0 (Kd.R k162 162 w' w.heap.size (fun _ => True) v4 out) ∧ Aside0 (Below w.heap.size w w')) (fun a' _ => l.length - (intOf (a'.tmps.getD 5 undef)).toNat) rfl ?_ ?_
 ·intro H
  go_wp2
  go_step3
  rename_i hK
  refine hK _ _ (H _ _ ⟨k, _, 0, [], ⟨_, _, _, _, _, _, _, _, _, _, _, _, _, _, _, _, _, _, _, _, _, _, _, _, _, _, _, _, _, _, _, _, _, _, _, _, _, _, _, _, _, _, _, _, _, _, _, _, _, _, _, _, _, _, _, _, _, _, _, _, _, _, _, rfl⟩, ⟨qN, by simp, HF.out⟩, ⟨Kd.R_nil _ _ _ _ _⟩, ⟨Below.refl _ _⟩⟩)
 ·rintro a' w' ⟨gk, v4, i, out, ⟨u6, u7, u8, u9, u10, u11, u12, u13, u14, u15, u16, u17, u18, u19, u20, u21, u22, u23, u24, u25, u26, u27, u28, u29, u30, u31, u32, u33, u34, u35, u36, u37, u38, u39, u40, u41, u42, u43, u44, u45, u46, u47, u48, u49, u50, u51, u52, u53, u54, u55, u56, u57, u58, u59, u60, u61, u62, u63, u64, u65, u66, u67, u68, rfl⟩, HI, HO, HB⟩
  dsimp only
  cases gk with
  | zero => exact absurd HI.out.2.2 (by simp [owalk])
  | succ gk =>
  have hstep := HI.out.2.2
  simp only [owalk] at hstep
  have hil := HI.out.1
  by_cases c1 : i = l.length
  ·rw [if_pos c1] at hstep
   obtain rfl := Option.some.inj hstep
   have c1b : ((i : Int) == (l.length : Int)) = true := beq_iff_eq.mpr uY
   obtain ⟨n1, A1, c1_, rfl, hle1, HN⟩ := r_form HO.out
   clear hstep
   go_wp2_with (go_at_call 117; refine (clip28 _ _ _ hle1 _).mono ?_; rintro e w' ⟨rfl, rfl⟩)
   simp only [Exit.jump]
   go_ret2
   exact ⟨_, rfl, v_of_r HN.out HO.out, HB.out⟩
  ·rw [if_neg c1] at hstep
   obtain ⟨ad, rfl, hx⟩ := Kd.at_int HR.out i uY uY
   rw [Int.toNat_natCast] at hx
   replace hx := (HB.out.cell (World.block_lt_of_cell? w _ hx)).trans hx
   have hby := HBY.out i uY
   have hw1 : IntKind.i64.wrap (rd l i) = rd l i := by rw [IntKind.wrap_i64]; omega
   have c1b : ((i : Int) == (l.length : Int)) = false := beq_eq_false_iff_ne.mpr uY
   by_cases c2 : 1 < rd l i
   ·rw [if_pos c2] at hstep
    have c3b : (rd l i == 0) = false := beq_eq_false_iff_ne.mpr uY
    by_cases c4 : i + 1 = l.length
    ·rw [if_pos c4] at hstep
     obtain rfl := Option.some.inj hstep
     have c4b : ((i : Int) + 1 == (l.length : Int)) = true := beq_iff_eq.mpr uY
     clear hstep
     go_wp2
     simp only [Exit.jump]
     go_ret2
     exact yV
    ·rw [if_neg c4] at hstep
     have c4b : ((i : Int) + 1 == (l.length : Int)) = false := beq_eq_false_iff_ne.mpr uY
     obtain ⟨ad2, ha2, hx1⟩ := Kd.at_int HR.out ((i + 1 : Nat) : Int) uY uY
     obtain rfl := Option.some.inj ha2
     rw [Int.toNat_natCast] at hx1
     have hy : ∀ o, (w'.alloc o).cell? (ad.add (i + 1)) = some (.int .u8 (rd l ((i + 1 : Nat) : Int))) := fun o => ((below_alloc HB.out o).cell (World.block_lt_of_cell? w _ hx1)).trans hx1
     have hz1 := (HB.out.cell (World.block_lt_of_cell? w _ hx1)).trans hx1
     have hz2 : w'.cell? (ad.add ((i : Int) + 1).toNat) = some (.int .u8 (rd l ((i + 1 : Nat) : Int))) := by rw [show ((i : Int) + 1).toNat = i + 1 from by omega]; exact hz1
     have hy2 : ∀ o, (w'.alloc o).cell? (ad.add ((i : Int) + 1).toNat) = some (.int .u8 (rd l ((i + 1 : Nat) : Int))) := fun o => by rw [show ((i : Int) + 1).toNat = i + 1 from by omega]; exact hy o
     have ea : ad.add (i + 1) = ⟨ad.block, ad.off + (i + 1), none⟩ := by simp [Addr.add]
     rw [ea] at hy
     clear hz2 hy2 hz1 ea
     have hby2 := HBY.out (i + 1) uY
     obtain ⟨q, hq⟩ : ∃ q, q = rd l ((i + 1 : Nat) : Int) := ⟨_, rfl⟩
     rw [← hq] at hstep hy hby2
     have hw2 : IntKind.i64.wrap q = q := by rw [IntKind.wrap_i64]; omega
     have HQ := mA hq
     clear hx1 hq ha2
     by_cases c5 : q < 2
     ·rw [if_pos c5] at hstep
      obtain rfl := Option.some.inj hstep
      clear hstep
      go_wp2
      simp only [Exit.jump]
      go_ret2
      exact yV
     ·rw [if_neg c5] at hstep
      by_cases c6 : l.length < i + q.toNat
      ·rw [if_pos c6] at hstep
       obtain rfl := Option.some.inj hstep
       have c6b : (l.length : Int) < (i : Int) + q := by omega
       clear hstep c6
       go_wp2
       simp only [Exit.jump]
       go_ret2
       exact yV
      ·rw [if_neg c6] at hstep
       have c6b : ¬ (l.length : Int) < (i : Int) + q := by omega
       have HS := mA hstep
       clear hstep c6
       go_wp2_with ((first | ((with_reducible refine gate_builtin (b := .append) (xs := #[.tmp 56, .tmp 58]) rfl ?_); at_builtin; refine Kd.R_append k162 (w0 := w) w.heap.size rfl (.tmp 56) (.tmp 58) 158 162 (.agg #[(.int .i64 0), (.int .i64 0), (.int .i64 0)]) 24 rfl Tryz.underlying158 info162 rfl uJ uY v4 out (⟨rd l i, i, q⟩ : S162) [.int .i64 (rd l i), .int .i64 i, .int .i64 (q)] (fun _ => True) (fun _ => False) rfl ?hx ?aP (fun _ hk => hk.elim) ?aF ?aO ?aB ?aS ?aL ?_; (case hx => (show Value.slice (some ⟨w'.heap.size + 1, 0, none⟩) 1 1 = _; simp)); (case aP => exact k162_mkM _ _ _ (⟨rd l i, i, q⟩ : S162)); (case aB => exact below_alloc HB.out _); (case aF => exact (fun _ _ => trivial)); (case aO => exact Kd.R_alloc HO.out _); (case aS => (have := HB.out.size; simp; omega)); (case aL => (have := HI.out.2.1; omega)); intro v1 w1 ho hb hg hat; have hbox : w1.heap[w'.heap.size]? = some (.cells #[.int .i64 (rd l i), .int .i64 i, .int .i64 (q)] 162 (0, 0)) := blk_grown (heap_alloc_new _ _) hg (fun he => by have := Kd.R_lt HO.out _ he.symm; omega); have x0 : w1.cell? ⟨w'.heap.size, 0, none⟩ = some (.int .i64 (rd l i)) := (blk_cell hbox 0).trans rfl; have x2 : w1.cell? ⟨w'.heap.size, 2, none⟩ = some (.int .i64 (q)) := (blk_cell hbox 2).trans rfl; have HO1 := mA ho; have HB1 := mA hb; clear ho hb hg hat hbox)))
       go_step3
       have e1 : (i : Int) + q = ((i + q.toNat : Nat) : Int) := by omega
       rw [e1]
       refine ⟨rfl, ⟨gk, v1, i + q.toNat, out ++ [⟨rd l i, i, q⟩], ⟨_, _, _, _, _, _, _, _, _, _, _, _, _, _, _, _, _, _, _, _, _, _, _, _, _, _, _, _, _, _, _, _, _, _, _, _, _, _, _, _, _, _, _, _, _, _, _, _, _, _, _, _, _, _, _, _, _, _, _, _, _, _, _, rfl⟩, ⟨qN, by have := HI.out.2.1; simp; omega, HS.out⟩, HO1, HB1⟩, ?_⟩
       simp [intOf]
       omega
   ·rw [if_neg c2] at hstep
    by_cases c3 : rd l i = 0
    ·have c3b : (rd l i == 0) = true := beq_iff_eq.mpr c3
     rw [if_pos c3] at hstep
     obtain rfl := Option.some.inj hstep
     clear c3 hstep
     go_wp2_with (first | (first | ((with_reducible refine gate_builtin (b := .append) (xs := #[.tmp 56, .tmp 58]) rfl ?_); at_builtin; refine Kd.R_append k162 (w0 := w) w.heap.size rfl (.tmp 56) (.tmp 58) 158 162 (.agg #[(.int .i64 0), (.int .i64 0), (.int .i64 0)]) 24 rfl Tryz.underlying158 info162 rfl uJ uY v4 out (⟨rd l i, i, 1⟩ : S162) [.int .i64 (rd l i), .int .i64 i, .int .i64 (1)] (fun _ => True) (fun _ => False) rfl ?hx ?aP (fun _ hk => hk.elim) ?aF ?aO ?aB ?aS ?aL ?_; (case hx => (show Value.slice (some ⟨w'.heap.size + 1, 0, none⟩) 1 1 = _; simp)); (case aP => exact k162_mkM _ _ _ (⟨rd l i, i, 1⟩ : S162)); (case aB => exact below_alloc HB.out _); (case aF => exact (fun _ _ => trivial)); (case aO => exact Kd.R_alloc HO.out _); (case aS => (have := HB.out.size; simp; omega)); (case aL => (have := HI.out.2.1; omega)); intro v1 w1 ho hb hg hat; have hbox : w1.heap[w'.heap.size]? = some (.cells #[.int .i64 (rd l i), .int .i64 i, .int .i64 (1)] 162 (0, 0)) := blk_grown (heap_alloc_new _ _) hg (fun he => by have := Kd.R_lt HO.out _ he.symm; omega); have x0 : w1.cell? ⟨w'.heap.size, 0, none⟩ = some (.int .i64 (rd l i)) := (blk_cell hbox 0).trans rfl; have x2 : w1.cell? ⟨w'.heap.size, 2, none⟩ = some (.int .i64 (1)) := (blk_cell hbox 2).trans rfl; obtain ⟨n1, A1, c1_, rfl, hle1, HN⟩ := r_form ho; have HO1 := mA ho; have HB1 := mA hb; clear ho hb hg hat hbox)) | (go_at_call 117; refine (clip28 _ _ _ hle1 _).mono ?_; rintro e w' ⟨rfl, rfl⟩))
     simp only [Exit.jump]
     go_ret2
     exact ⟨_, rfl, v_of_r HN.out HO1.out, HB1.out⟩
    ·have c3b : (rd l i == 0) = false := beq_eq_false_iff_ne.mpr c3
     rw [if_neg c3] at hstep
     have HS := mA hstep
     clear c3 hstep
     go_wp2_with ((first | ((with_reducible refine gate_builtin (b := .append) (xs := #[.tmp 56, .tmp 58]) rfl ?_); at_builtin; refine Kd.R_append k162 (w0 := w) w.heap.size rfl (.tmp 56) (.tmp 58) 158 162 (.agg #[(.int .i64 0), (.int .i64 0), (.int .i64 0)]) 24 rfl Tryz.underlying158 info162 rfl uJ uY v4 out (⟨rd l i, i, 1⟩ : S162) [.int .i64 (rd l i), .int .i64 i, .int .i64 (1)] (fun _ => True) (fun _ => False) rfl ?hx ?aP (fun _ hk => hk.elim) ?aF ?aO ?aB ?aS ?aL ?_; (case hx => (show Value.slice (some ⟨w'.heap.size + 1, 0, none⟩) 1 1 = _; simp)); (case aP => exact k162_mkM _ _ _ (⟨rd l i, i, 1⟩ : S162)); (case aB => exact below_alloc HB.out _); (case aF => exact (fun _ _ => trivial)); (case aO => exact Kd.R_alloc HO.out _); (case aS => (have := HB.out.size; simp; omega)); (case aL => (have := HI.out.2.1; omega)); intro v1 w1 ho hb hg hat; have hbox : w1.heap[w'.heap.size]? = some (.cells #[.int .i64 (rd l i), .int .i64 i, .int .i64 (1)] 162 (0, 0)) := blk_grown (heap_alloc_new _ _) hg (fun he => by have := Kd.R_lt HO.out _ he.symm; omega); have x0 : w1.cell? ⟨w'.heap.size, 0, none⟩ = some (.int .i64 (rd l i)) := (blk_cell hbox 0).trans rfl; have x2 : w1.cell? ⟨w'.heap.size, 2, none⟩ = some (.int .i64 (1)) := (blk_cell hbox 2).trans rfl; have HO1 := mA ho; have HB1 := mA hb; clear ho hb hg hat hbox)))
     go_step3
     have e1 : (i : Int) + 1 = ((i + 1 : Nat) : Int) := by omega
     rw [e1]
     refine ⟨rfl, ⟨gk, v1, i + 1, out ++ [⟨rd l i, i, 1⟩], ⟨_, _, _, _, _, _, _, _, _, _, _, _, _, _, _, _, _, _, _, _, _, _, _, _, _, _, _, _, _, _, _, _, _, _, _, _, _, _, _, _, _, _, _, _, _, _, _, _, _, _, _, _, _, _, _, _, _, _, _, _, _, _, _, rfl⟩, ⟨qN, by have := HI.out.2.1; simp; omega, HS.out⟩, HO1, HB1⟩, ?_⟩
     simp [intOf]
     omega
def isStamp (x : S162) : Bool := decide (x.f0 = 8 ∧ x.f2 = 10)
theorem fn30 (a b c : Int) (w : World) : Calls Tryz.prog 102 #[.agg #[.int .i64 a, .int .i64 b, .int .i64 c]] w fun e w' => e = .returned (.bool (isStamp ⟨a, b, c⟩)) ∧ Below w.heap.size w w' := by
 have hb : ∀ o, Below w.heap.size w (w.alloc o) := fun o => below_alloc (Below.refl _ _) o
 by_cases h1 : (a == 8) = true
 ·go_enter Tryz.func102, Tryz.ntmps102
  go_wp2
  go_ret
  refine ⟨?_, hb _⟩
  have : a = 8 := by simpa using h1
  subst this
  show Ending.returned (Value.bool (c == 10)) = _
  congr 2
  simp [isStamp]
  by_cases h : c = 10 <;> simp [h]
 ·have h2 : (a == 8) = false := by simpa using h1
  clear h1
  go_enter Tryz.func102, Tryz.ntmps102
  go_wp2
  go_ret
  refine ⟨?_, hb _⟩
  have : ¬ a = 8 := by simpa using h2
  show Ending.returned (Value.bool false) = _
  congr 2
  simp [isStamp, this]
def firstFrom (l : List S162) : Nat → Nat → Int
 | 0, _ => -1
 | d + 1, i => if isStamp (l.getD i z162) then i else firstFrom l d (i + 1)
theorem first_succ {l : List S162} {i : Nat} (h : i < l.length) (hs : isStamp (l.getD i z162) = false) : firstFrom l (l.length - i) i = firstFrom l (l.length - (i + 1)) (i + 1) := by
 rw [show l.length - i = (l.length - (i + 1)) + 1 from by omega, firstFrom, hs]; rfl
theorem first_yes {l : List S162} {i : Nat} (h : i < l.length) (hs : isStamp (l.getD i z162) = true) : firstFrom l (l.length - i) i = i := by
 rw [show l.length - i = (l.length - (i + 1)) + 1 from by omega, firstFrom, hs]; rfl
theorem ix35 (A : Option Addr) (n c : Nat) (l : List S162) (w : World) (hn : l.length = n) (hr : Kd.C k162 w A l.length l) : Calls Tryz.prog 118 #[.slice A n c, .func (.func 102) #[] #[]] w fun e w' => e = .returned (.int .i64 (firstFrom l l.length 0)) ∧ Below w.heap.size w w' := by
 subst hn
 have HR := mA hr
 have HM := mA hr.2.1
 clear hr
 go_enter Tryz.func118, Tryz.ntmps118
 go_wp2
 go_loopw [8] (fun v8 wr => ∃ i : Nat, i ≤ l.length ∧ v8 = .int .i64 i ∧ Aside0 (firstFrom l l.length 0 = firstFrom l (l.length - i) i) ∧ Aside0 (Below w.heap.size w wr)) (fun v8 _ => l.length - (intOf v8).toNat)
 case atStart => exact ⟨0, Nat.zero_le _, rfl, ⟨rfl⟩, ⟨Below.refl _ _⟩⟩
 case round =>
  obtain ⟨i, hi, rfl, HF, HB⟩ := hrel
  have hm := HM.out
  by_cases hlt : i < l.length
  ·obtain ⟨ad, rfl, h0, h1, h2⟩ := at_T162 (Kd.C_below HR.out HB.out) i uY uY
   rw [Int.toNat_natCast] at h0 h1 h2
   obtain ⟨x, hx⟩ : ∃ x : S162, x = l.getD i z162 := ⟨_, rfl⟩
   have e : rd_T162 l i = x := by rw [hx]; simp [rd_T162]
   rw [e] at h0 h1 h2
   have HX := mA hx
   clear hx e
   by_cases hs : isStamp x = true
   ·go_wp2_with (go_at_call 102; refine (fn30 _ _ _ _).mono ?_; rintro e w' ⟨rfl, hb⟩; rw [show isStamp ⟨x.f0, x.f1, x.f2⟩ = true from hs]; have HE := mA (below_step HB.out hb); clear hb)
    go_ret
    refine ⟨?_, HE.out⟩
    rw [HF.out, first_yes hlt (by rw [← HX.out]; exact hs)]
    rfl
   ·have hs2 : isStamp x = false := by simpa using hs
    clear hs
    go_wp2_with (go_at_call 102; refine (fn30 _ _ _ _).mono ?_; rintro e w' ⟨rfl, hb⟩; rw [show isStamp ⟨x.f0, x.f1, x.f2⟩ = false from hs2]; have HE := mA (below_step HB.out hb); clear hb)
    go_roundw
    case rel => exact ⟨i + 1, hlt, by go_num, ⟨by rw [HF.out, first_succ hlt (by rw [← HX.out]; exact hs2)]⟩, HE⟩
    case measure => simp [intOf]; omega
  ·obtain rfl : i = l.length := by omega
   go_wp2
   go_ret
   refine ⟨?_, HB.out⟩
   rw [HF.out, Nat.sub_self]
   rfl
theorem first_range (l : List S162) : ∀ (d i : Nat), i + d ≤ l.length → firstFrom l d i = -1 ∨ (∃ j : Nat, firstFrom l d i = j ∧ i ≤ j ∧ j < i + d ∧ isStamp (l.getD j z162) = true)
 | 0, _, _ => .inl rfl
 | d + 1, i, h => by
  unfold firstFrom
  split
  ·exact .inr ⟨i, rfl, qN, qN, ‹_›⟩
  ·rcases first_range l d (i + 1) uY with h1 | ⟨j, h1, h2, h3, h4⟩
   ·exact .inl h1
   ·exact .inr ⟨j, h1, qN, qN, h4⟩
def found (l : List S162) : S162 × Bool := if 0 ≤ firstFrom l l.length 0 then (l.getD (firstFrom l l.length 0).toNat z162, true) else (z162, false)
theorem find29 (A : Option Addr) (n c : Nat) (l : List S162) (w : World) (hn : l.length = n) (hr : Kd.C k162 w A l.length l) : Calls Tryz.prog 101 #[.slice A n c, .func (.func 102) #[] #[]] w fun e w' => e = .returned (.tuple #[.agg #[.int .i64 (found l).1.f0, .int .i64 (found l).1.f1, .int .i64 (found l).1.f2], .bool (found l).2]) ∧ Below w.heap.size w w' := by
 subst hn
 have HR := mA hr
 have HM := mA hr.2.1
 clear hr
 have hu := Tryz.underlying162
 obtain ⟨q, hq⟩ : ∃ q, q = firstFrom l l.length 0 := ⟨_, rfl⟩
 have HQ := mA hq
 have HRG := first_range l l.length 0 uY
 rw [← hq] at HRG
 rcases HRG with hq1 | ⟨j, hq1, _, hj, _⟩
 ·have hf : found l = (z162, false) := by unfold found; rw [← hq, hq1]; rfl
  have HF := mA hf
  clear hf hq
  subst hq1
  go_enter Tryz.func101, Tryz.ntmps101
  go_wp2_with (go_at_call 118; refine (ix35 A _ c l _ rfl (Kd.C_alloc HR.out _)).mono ?_; rintro e w' ⟨rfl, hb⟩; rw [← HQ.out]; have HB := mA (below_step (below_alloc (Below.refl _ _) _) hb); have BK := mA (blk_below (heap_alloc_new _ _) hb); have BO : Aside0 (∀ o, (w'.alloc o).heap[w.heap.size]? = some (.cells #[.int .i64 0, .int .i64 0, .int .i64 0] 162 (0, 0))) := ⟨fun o => blk_below BK.out (below_alloc (Below.refl _ _) o)⟩; have b0 := fun o => (blk_cell (BO.out o) 0).trans rfl; have b1 := fun o => (blk_cell (BO.out o) 1).trans rfl; have b2 := fun o => (blk_cell (BO.out o) 2).trans rfl; have f0 := fun o => blk_frozen (BO.out o) 0; have f1 := fun o => blk_frozen (BO.out o) 1; have f2 := fun o => blk_frozen (BO.out o) 2; clear hb)
  refine bodyPost_ret (results_ct rfl _ _ w.heap.size 162 #[.int .i64 0, .int .i64 0, .int .i64 0] (0, 0) _ rfl (by refine blk_put (cs := #[.int .i64 0, .int .i64 0, .int .i64 0]) ?_ 2 _ rfl; refine blk_put (cs := #[.int .i64 0, .int .i64 0, .int .i64 0]) ?_ 1 _ rfl; refine blk_put (cs := #[.int .i64 0, .int .i64 0, .int .i64 0]) ?_ 0 _ rfl; exact BO.out _) Tryz.underlying162 rfl uW) rfl ?_
  exact ⟨by rw [HF.out]; rfl, kD⟩
 ·have hf : found l = (l.getD j z162, true) := by unfold found; rw [← hq, hq1, if_pos uY]; simp
  have HF := mA hf
  clear hf hq
  subst hq1
  have hm := HM.out
  obtain ⟨ad, rfl, h0, h1, h2⟩ := at_T162 HR.out j uY uY
  rw [Int.toNat_natCast] at h0 h1 h2
  obtain ⟨x, hx⟩ : ∃ x : S162, x = l.getD j z162 := ⟨_, rfl⟩
  have e : rd_T162 l j = x := by rw [hx]; simp [rd_T162]
  rw [e] at h0 h1 h2
  have HX := mA hx
  have H0 := mA h0
  have H1 := mA h1
  have H2 := mA h2
  clear hx e h0 h1 h2
  go_enter Tryz.func101, Tryz.ntmps101
  go_wp2_with (go_at_call 118; refine (ix35 _ _ c l _ rfl (Kd.C_alloc HR.out _)).mono ?_; rintro e w' ⟨rfl, hb⟩; rw [← HQ.out]; have HB := mA (below_step (below_alloc (Below.refl _ _) _) hb); have BK := mA (blk_below (heap_alloc_new _ _) hb); have h0 := (HB.out.cell (World.block_lt_of_cell? w _ H0.out)).trans H0.out; have h1 := (HB.out.cell (World.block_lt_of_cell? w _ H1.out)).trans H1.out; have h2 := (HB.out.cell (World.block_lt_of_cell? w _ H2.out)).trans H2.out; have b0 := (blk_cell BK.out 0).trans rfl; have b1 := (blk_cell BK.out 1).trans rfl; have b2 := (blk_cell BK.out 2).trans rfl; have f0 := blk_frozen BK.out 0; have f1 := blk_frozen BK.out 1; have f2 := blk_frozen BK.out 2; clear hb)
  refine bodyPost_ret (results_ct rfl _ _ w.heap.size 162 #[.int .i64 x.f0, .int .i64 x.f1, .int .i64 x.f2] (0, 0) _ rfl (by refine blk_put (cs := #[.int .i64 x.f0, .int .i64 x.f1, .int .i64 0]) ?_ 2 _ rfl; refine blk_put (cs := #[.int .i64 x.f0, .int .i64 0, .int .i64 0]) ?_ 1 _ rfl; refine blk_put (cs := #[.int .i64 0, .int .i64 0, .int .i64 0]) ?_ 0 _ rfl; exact BK.out) Tryz.underlying162 rfl uW) rfl ?_
  exact ⟨by rw [HF.out, ← HX.out]; rfl, kD⟩
structure Bs (w : World) (A : Option Addr) (n c : Nat) (l : List Int) : Prop where
 len : l.length = n
 cap : n ≤ c
 reads : Kd.C (Kd.int .u8) w A l.length l
theorem Bs.below {w w' A n c l} (h : Bs w A n c l) (hb : Below w.heap.size w w') : Bs w' A n c l := ⟨h.len, h.cap, Kd.C_below h.reads hb⟩
def num4 (l : List Int) : Int := Go.bits .or .u32 (Go.bits .or .u32 (Go.bits .or .u32 ((((rd l 0) % 4294967296) * 16777216) % 4294967296) ((((rd l 1) % 4294967296) * 65536) % 4294967296)) ((((rd l 2) % 4294967296) * 256) % 4294967296)) ((rd l 3) % 4294967296)
theorem num31 (A : Option Addr) (n c : Nat) (l : List Int) (w : World) (h : Bs w A n c l) (hn : 4 ≤ n) : Calls Tryz.prog 103 #[.slice A n c] w fun e w' => e = .returned (.int .u32 (num4 l)) ∧ ∃ m, w' = w.drewN m := by
 obtain ⟨rfl, hc, hr⟩ := h
 obtain ⟨ad, rfl, h0⟩ := Kd.at_int hr 0 uY uY
 obtain ⟨ad1, e1, h1⟩ := Kd.at_int hr 1 uY uY
 obtain rfl := Option.some.inj e1
 obtain ⟨ad2, e2, h2⟩ := Kd.at_int hr 2 uY uY
 obtain rfl := Option.some.inj e2
 obtain ⟨ad3, e3, h3⟩ := Kd.at_int hr 3 uY uY
 obtain rfl := Option.some.inj e3
 clear e1 e2 e3 hr
 rw [show (0 : Int).toNat = 0 from rfl] at h0
 rw [show (1 : Int).toNat = 1 from rfl] at h1
 rw [show (2 : Int).toNat = 2 from rfl] at h2
 rw [show (3 : Int).toNat = 3 from rfl] at h3
 rw [show ad.add 1 = ⟨ad.block, ad.off + 1, none⟩ from by simp [Addr.add]] at h1
 rw [show ad.add 2 = ⟨ad.block, ad.off + 2, none⟩ from by simp [Addr.add]] at h2
 rw [show ad.add 3 = ⟨ad.block, ad.off + 3, none⟩ from by simp [Addr.add]] at h3
 have l0 : (0 : Int) < (l.length : Int) := by omega
 have l1 : (1 : Int) < (l.length : Int) := by omega
 have l2 : (2 : Int) < (l.length : Int) := by omega
 have l3 : (3 : Int) < (l.length : Int) := by omega
 have m0 : 0 < l.length := by omega
 have m1 : 1 < l.length := by omega
 have m2 : 2 < l.length := by omega
 have m3 : 3 < l.length := by omega
 have q0 : (0 < l.length) = True := eq_true m0
 have q1 : (1 < l.length) = True := eq_true m1
 have q2 : (2 < l.length) = True := eq_true m2
 have q3 : (3 < l.length) = True := eq_true m3
 rw [Addr.add_zero'] at h0
 go_enter Tryz.func103, Tryz.ntmps103
 go_wp2
 go_quiet (fail)
 go_wp2
 go_ret
 exact ⟨rfl, _, rfl⟩
theorem dropN (A : Option Addr) (c : Nat) (l : List Int) (w : World) (h : Bs w A l.length c l) (j : Nat) (hj : j ≤ l.length) :
 ∃ A' : Option Addr, (∀ W : World, (Instr.slice 39 (.slice A l.length c) (some (.int .i64 (j : Int))) none none).run Tryz.prog W = .ok (.slice A' (l.length - j) (c - j)) W) ∧
  Bs w A' (l.length - j) (c - j) (l.drop j) := by
 obtain ⟨_, hc, h⟩ := h
 obtain ⟨i0, hi, _, hsz, _⟩ := info_parts info5
 obtain ⟨A', h4, h5, h6⟩ := print_drop_of (P := Tryz.prog) (Value.int .u8) 0 39 5 .i64 Tryz.underlying39 hi hsz A c l j uY uY hc
 have e2 : (l.drop j).length = l.length - j := List.length_drop
 rw [Int.toNat_natCast] at h4 h5 h6
 exact jI
def ostamp (l : List Int) (r : List S162 × Int) : Option (Int × Int × Int × Bool) :=
 if r.2 = 0 then
  if (found r.1).2 = true then
   if 0 ≤ (found r.1).1.f1 ∧ (found r.1).1.f1 + 10 ≤ l.length then some ((found r.1).1.f1 + 2, num4 (l.drop ((found r.1).1.f1.toNat + 2)), num4 (l.drop ((found r.1).1.f1.toNat + 6)), true) else none
  else some (0, 0, 0, false)
 else some (0, 0, 0, false)
theorem stamp18
 (k : Nat) (A : Option Addr) (c : Nat) (l : List Int) (r : List S162 × Int) (q : Int × Int × Int × Bool) (w : World) (hr : Kd.C (Kd.int .u8) w A l.length l) (hc : l.length ≤ c) (hl : l.length ≤ 1048576) (hb : ∀ x ∈ l, 0 ≤ x ∧ x ≤ 255) (h : owalk l k 0 [] = some r) (hq : ostamp l r = some q) :
 Calls Tryz.prog 70 #[.slice A l.length c] w fun e w' => e = .returned (.tuple #[.int .i64 q.1, .int .u32 q.2.1, .int .u32 q.2.2.1, .bool q.2.2.2]) ∧ Below w.heap.size w w' := by
 have HR := mA hr
 have HC := mA hc
 have HW := mA (walk16 k A c l r w hr hc hl hb h)
 clear hr hc hb h
 obtain ⟨xs, e⟩ := r
 unfold ostamp at hq
 dsimp only at hq HW
 by_cases he : e = 0
 ·rw [if_pos he] at hq
  subst he
  by_cases hf : (found xs).2 = true
  ·rw [if_pos hf] at hq
   split at hq
   ·rename_i hg
    obtain rfl := Option.some.inj hq
    obtain ⟨m, hm⟩ := Int.eq_ofNat_of_zero_le hg.1
    obtain ⟨A1, hs1, hk1⟩ := dropN A c l w ⟨rfl, HC.out, HR.out⟩ (m + 2) uY
    obtain ⟨A2, hs2, hk2⟩ := dropN A c l w ⟨rfl, HC.out, HR.out⟩ (m + 6) uY
    have HK1 := mA hk1
    have HK2 := mA hk2
    obtain ⟨n1, hn1⟩ : ∃ n1, n1 = l.length - (m + 2) := ⟨_, rfl⟩
    obtain ⟨n2, hn2⟩ : ∃ n2, n2 = l.length - (m + 6) := ⟨_, rfl⟩
    obtain ⟨c1, hc1⟩ : ∃ c1, c1 = c - (m + 2) := ⟨_, rfl⟩
    obtain ⟨c2, hc2⟩ : ∃ c2, c2 = c - (m + 6) := ⟨_, rfl⟩
    rw [← hn1, ← hc1] at hs1 HK1
    rw [← hn2, ← hc2] at hs2 HK2
    have hg1 : 4 ≤ n1 := by omega
    have hg2 : 4 ≤ n2 := by omega
    clear hn1 hn2 hc1 hc2
    have hs3 := hs2
    rw [show ((m + 2 : Nat) : Int) = (m : Int) + 2 from by omega] at hs1
    rw [show ((m + 6 : Nat) : Int) = (m : Int) + 6 from by omega] at hs2
    rw [show ((m + 6 : Nat) : Int) = (m : Int) + 2 + 4 from by omega] at hs3
    clear hk1 hk2 hq
    go_enter Tryz.func70, Tryz.ntmps70
    go_wp2_with fail
    refine HW.out.mono ?_
    rintro e w1 ⟨v0, rfl, ⟨A0, c0, rfl, hc0, hF⟩, hb⟩
    have HB := mA hb
    have HXC := mA (Kd.F_now hF)
    have HN : Aside0 (xs.length = xs.length) := ⟨rfl⟩
    obtain ⟨n0, hn0⟩ : ∃ n0, n0 = xs.length := ⟨_, rfl⟩
    have HN0 := mA hn0
    rw [← hn0] at hc0 ⊢
    clear hb hF hn0
    go_wp2_with (go_at_call 101; refine (find29 _ _ _ xs _ HN0.out.symm HXC.out).mono ?_; rintro e w' ⟨rfl, hb⟩; rw [hf]; have HB2 := mA (below_step HB.out hb); clear hb)
    have HB3 := mA (below_alloc HB2.out (.cells #[.int .i64 (found xs).1.f0, .int .i64 (m : Int), .int .i64 (found xs).1.f2] 162))
    go_quiet ((first | (go_at_call 103; (with_reducible refine Calls.quiet_of (num31 A1 n1 c1 (l.drop (m + 2)) _ ?_ hg1)); exact (HK1.out.below (pw_below_drewN HB3.out _))) | (go_at_call 103; (with_reducible refine Calls.quiet_of (num31 A2 n2 c2 (l.drop (m + 6)) _ ?_ hg2)); exact (HK2.out.below (pw_below_drewN HB3.out _)))))
    go_wp2
    ((try simp only [Exit.inBlock, Exit.then]); refine bodyPost_ret (results_list (rs := [.tmp 2, .tmp 3, .tmp 4, .tmp 5]) rfl xU (.tmp (.tmp (.tmp (.tmp .nil))))) rfl ?_)
    refine ⟨?_, pw_below_drewN HB3.out _⟩
    dsimp only
    rw [hm, Int.toNat_natCast]
    rfl
   ·exact absurd hq xU
  ·rw [if_neg hf] at hq
   obtain rfl := Option.some.inj hq
   have hf2 : (found xs).2 = false := by simpa using hf
   clear hf hq
   go_enter Tryz.func70, Tryz.ntmps70
   go_wp2_with fail
   refine HW.out.mono ?_
   rintro e w1 ⟨v0, rfl, ⟨A0, c0, rfl, hc0, hF⟩, hb⟩
   have HB := mA hb
   have HXC := mA (Kd.F_now hF)
   obtain ⟨n0, hn0⟩ : ∃ n0, n0 = xs.length := ⟨_, rfl⟩
   have HN0 := mA hn0
   rw [← hn0] at hc0 ⊢
   clear hb hF hn0
   go_wp2_with (go_at_call 101; refine (find29 _ _ _ xs _ HN0.out.symm HXC.out).mono ?_; rintro e w' ⟨rfl, hb⟩; rw [hf2]; have HB2 := mA (below_step HB.out hb); clear hb)
   ((try simp only [Exit.inBlock, Exit.then]); refine bodyPost_ret (results_list (rs := [.tmp 2, .tmp 3, .tmp 4, .tmp 5]) rfl xU (.tmp (.tmp (.tmp (.tmp .nil))))) rfl ?_)
   exact ⟨rfl, by repeat (first | exact HB2.out | apply below_alloc)⟩
 ·rw [if_neg he] at hq
  obtain rfl := Option.some.inj hq
  have he2 : (e != 0) = true := bne_iff_ne.mpr he
  go_enter Tryz.func70, Tryz.ntmps70
  go_wp2_with (go_at_call 100; refine HW.out.mono ?_; rintro e w1 ⟨v0, rfl, hV, hb⟩; have HB := mA hb; clear hb hV)
  ((try simp only [Exit.inBlock, Exit.then]); refine bodyPost_ret (results_list (rs := [.tmp 2, .tmp 3, .tmp 4, .tmp 5]) rfl xU (.tmp (.tmp (.tmp (.tmp .nil))))) rfl ?_)
  exact ⟨rfl, HB.out⟩
theorem owalk_any (l : List Int) (hb : ∀ x ∈ l, 0 ≤ x ∧ x ≤ 255) : ∀ (k i : Nat) (out : List S162), i ≤ l.length → l.length - i < k → (∀ x ∈ out, 0 ≤ x.f1 ∧ x.f1 + x.f2 ≤ l.length) →
 ∃ r : List S162 × Int, owalk l k i out = some r ∧ ∀ x ∈ r.1, 0 ≤ x.f1 ∧ x.f1 + x.f2 ≤ l.length
 | 0, i, out, _, h, _ => by omega
 | k + 1, i, out, hi, hk, ho => by
  have snoc : ∀ a n : Int, (i : Int) + n ≤ l.length → ∀ x ∈ out ++ [(⟨a, i, n⟩ : S162)], 0 ≤ x.f1 ∧ x.f1 + x.f2 ≤ l.length := by
   intro a n h x hx
   rcases List.mem_append.1 hx with hx | hx
   ·exact ho x hx
   ·obtain rfl := List.mem_singleton.1 hx
    exact ⟨Int.natCast_nonneg i, h⟩
  unfold owalk
  by_cases c1 : i = l.length
  ·rw [if_pos c1]; exact ⟨_, rfl, ho⟩
  rw [if_neg c1]
  by_cases c2 : 1 < rd l i
  ·rw [if_pos c2]
   by_cases c3 : i + 1 = l.length
   ·rw [if_pos c3]; exact ⟨_, rfl, fun x hx => (List.not_mem_nil hx).elim⟩
   rw [if_neg c3]
   by_cases c4 : rd l (i + 1 : Nat) < 2
   ·rw [if_pos c4]; exact ⟨_, rfl, fun x hx => (List.not_mem_nil hx).elim⟩
   rw [if_neg c4]
   by_cases c5 : l.length < i + (rd l (i + 1 : Nat)).toNat
   ·rw [if_pos c5]; exact ⟨_, rfl, fun x hx => (List.not_mem_nil hx).elim⟩
   rw [if_neg c5]
   exact owalk_any l hb k _ _ uY uY (snoc _ _ uY)
  ·rw [if_neg c2]
   by_cases c6 : rd l i = 0
   ·rw [if_pos c6]; exact ⟨_, rfl, snoc _ _ uY⟩
   ·rw [if_neg c6]
    exact owalk_any l hb k _ _ uY uY (snoc _ _ uY)
theorem found_mem (l : List S162) (h : (found l).2 = true) : (found l).1 ∈ l ∧ isStamp (found l).1 = true := by
 unfold found at h ⊢
 split at h
 ·rename_i h0
  rw [if_pos h0]
  rcases first_range l l.length 0 uY with h1 | ⟨j, h1, _, h2, h3⟩
  ·rw [h1] at h0; exact absurd h0 uJ
  ·rw [h1]
   show l.getD (j : Int).toNat z162 ∈ l ∧ _
   rw [Int.toNat_natCast]
   refine ⟨?_, h3⟩
   rw [List.getD_eq_getElem?_getD, List.getElem?_eq_getElem uY]
   exact List.getElem_mem _
 ·exact absurd h uJ
theorem stamp_any (A : Option Addr) (c : Nat) (l : List Int) (w : World) (hr : Kd.C (Kd.int .u8) w A l.length l) (hc : l.length ≤ c) (hl : l.length ≤ 1048576) (hb : ∀ x ∈ l, 0 ≤ x ∧ x ≤ 255) :
 Calls Tryz.prog 70 #[.slice A l.length c] w fun e w' => ∃ (p v x : Int) (b : Bool), e = .returned (.tuple #[.int .i64 p, .int .u32 v, .int .u32 x, .bool b]) ∧ (l = [] → b = false) ∧ Below w.heap.size w w' := by
 obtain ⟨r, h1, h2⟩ := owalk_any l hb (l.length + 1) 0 [] (Nat.zero_le _) uY (fun x hx => (List.not_mem_nil hx).elim)
 have hq : ∃ q, ostamp l r = some q ∧ (l = [] → q.2.2.2 = false) := by
  unfold ostamp
  split
  ·split
   ·rename_i hf
    obtain ⟨hm, hs⟩ := found_mem r.1 hf
    have h3 := h2 _ hm
    unfold isStamp at hs
    have h4 := of_decide_eq_true hs
    rw [if_pos ⟨h3.1, qN⟩]
    refine ⟨_, rfl, fun e => ?_⟩
    subst e
    have h5 := h3.2
    simp only [List.length_nil] at h5
    omega
   ·exact ⟨_, rfl, fun _ => rfl⟩
  ·exact ⟨_, rfl, fun _ => rfl⟩
 obtain ⟨q, hq, hn⟩ := hq
 refine (stamp18 (l.length + 1) A c l r q w hr hc hl hb h1 hq).mono ?_
 rintro e w' ⟨rfl, hB⟩
 exact ⟨_, _, _, _, rfl, hn, hB⟩
end Go.Proofs.YtkpfojpmigchlaaGreat.Opt
namespace Go.Proofs.YtkpfojpmigchlaaGreat.Own
open Go Go.RowKit Go.Proofs.YtkpfojpmigchlaaGreatW.PrintWords Go.Proofs.YtkpfojpmigchlaaGreatW.PrintMore Go.Proofs.YtkpfojpmigchlaaGreatW.PrintLast Go.Proofs.YtkpfojpmigchlaaGreat.Q
open Go.Proofs.YtkpfojpmigchlaaGreat.Zip
open Go.Proofs.YtkpfojpmigchlaaGreat.Zap
set_option maxHeartbeats 16000000
set_option maxRecDepth 100000
theorem words_range (a b : Int) (l : List Int) : 0 ≤ sipWords a b l ∧ sipWords a b l < 18446744073709551616 := by
 unfold sipWords sipOf fin xor64 Go.bits
 rw [IntKind.wrap_u64]
 omega
theorem Chg.rowR {S : Nat → Prop} {w w' : World} (h : Chg S w w') {ik : IntKind} {e base : Nat} {v : Value} {xs : List Int} (hr : Kd.R (Kd.int ik) e w base (fun _ => True) v xs) (hn : ∀ k, v.ownBlock = some k → ¬ S k) : Kd.R (Kd.int ik) e w' base (fun _ => True) v xs := by
 have h1 : Kd.R (Kd.int ik) e w base (fun k => v.ownBlock = some k) v xs := Kd.R_of_own (enc := Value.int ik) (h1 := fun _ => rfl) (Kd.own_of_R hr) (fun k hk => hk)
 exact Kd.R_mono (Kd.R_move h1 (fun k hk => h.block k (Kd.R_lt hr k hk) (hn k hk))) (fun _ _ => trivial)
def NR (nr : List Value) : Prop := nr.length = 128 ∧ ∀ i < 64, ∃ (x : Int) (b : Bool), nr[2 * i]? = some (.int .u32 x) ∧ nr[2 * i + 1]? = some (.bool b)
theorem pairs_get {a b : Value} : ∀ (n i : Nat), i < n → ((List.replicate n [a, b]).flatten)[2 * i]? = some a ∧ ((List.replicate n [a, b]).flatten)[2 * i + 1]? = some b
 | 0, i, h => by omega
 | n + 1, 0, h => ⟨rfl, rfl⟩
 | n + 1, i + 1, h => by
  rw [List.replicate_succ, List.flatten_cons, show 2 * (i + 1) = 2 * i + 1 + 1 from by omega]
  exact pairs_get n i uY
theorem NR.zero : NR nrZ := ⟨nrZ_len, fun i hi => ⟨0, false, pairs_get 64 i hi⟩⟩
theorem NR.set {nr : List Value} (h : NR nr) (i : Nat) (hi : i < 64) (x : Int) (b : Bool) : NR ((nr.set (2 * i) (.int .u32 x)).set (2 * i + 1) (.bool b)) := by
 refine ⟨by rw [List.length_set, List.length_set]; exact h.1, fun j hj => ?_⟩
 by_cases hij : j = i
 ·subst hij
  refine ⟨x, b, ?_, ?_⟩
  ·rw [List.getElem?_set_ne uY, List.getElem?_set_self (by have := h.1; omega)]
  ·rw [List.getElem?_set_self (by rw [List.length_set]; have := h.1; omega)]
 ·obtain ⟨x2, b2, h1, h2⟩ := h.2 j hj
  refine ⟨x2, b2, ?_, ?_⟩
  ·rw [List.getElem?_set_ne uY, List.getElem?_set_ne uY]; exact h1
  ·rw [List.getElem?_set_ne uY, List.getElem?_set_ne uY]; exact h2
theorem PLN_near {p : PL} {b : Bool} {nr : List Value} {ws : Value} (hp : p.sl.length = 64) (hn : nr.length = 128) (j : Nat) (hj : j < 128) : (PLN p b nr ws)[331 + j]? = nr[j]? := by
 unfold PLN
 rw [List.getElem?_toArray, List.getElem?_append_right (by rw [pcells_length p hp]; omega), pcells_length p hp, show 331 + j - 330 = j + 1 from by omega, List.getElem?_cons_succ, List.getElem?_append_left uY]
theorem PLN_setnear {p : PL} {b : Bool} {nr : List Value} {ws v : Value} (hp : p.sl.length = 64) (j : Nat) (hj : j < nr.length) : (PLN p b nr ws).setIfInBounds (331 + j) v = PLN p b (nr.set j v) ws := by
 unfold PLN
 rw [List.setIfInBounds_toArray, List.set_append_right _ _ (by rw [pcells_length p hp]; omega), pcells_length p hp, show 331 + j - 330 = j + 1 from by omega, List.set_cons_succ, List.set_append_left _ _ hj]
structure UN (w : World) (gu : Nat) (p : PL) (nr : List Value) (ws : Value) (wl : List Int) : Prop where
 B : Blk w gu 70 (PLN p true nr ws)
 L : p.sl.length = 64
 N : NR nr
 R : Kd.R (Kd.int .i64) 3 w 0 (fun _ => True) ws wl
 E : ∀ x ∈ wl, -1 ≤ x ∧ x ≤ 63
theorem UN.chg {S : Nat → Prop} {w w' : World} {gu : Nat} {p : PL} {nr : List Value} {ws : Value} {wl : List Int} (h : UN w gu p nr ws wl) (hc : Chg S w w') (h1 : ¬ S gu) (h2 : ∀ k, ws.ownBlock = some k → ¬ S k) : UN w' gu p nr ws wl := ⟨hc.blk h.B h1, h.L, h.N, hc.rowR h.R h2, h.E⟩
theorem UN.below {w w' : World} {gu : Nat} {p : PL} {nr : List Value} {ws : Value} {wl : List Int} (h : UN w gu p nr ws wl) (hb : Below w.heap.size w w') : UN w' gu p nr ws wl := h.chg (Chg.of_below hb (fun _ => False)) (fun h => h) (fun _ _ h => h)
theorem UN.ring {w : World} {gu : Nat} {p : PL} {nr : List Value} {ws : Value} {wl : List Int} (h : UN w gu p nr ws wl) : w.rangeAt gu 323 (rcells p) := fun j v hj => by
 have hlt : j < 7 := (List.getElem?_eq_some_iff.1 hj).1
 rw [blk_cell h.B, PLN_low h.L _ uY, pcs_ring p h.L]
 exact hj
theorem run_ring (ev : Operand → Value) (o : Oper) (w : World) (g off : Nat) (p : PL) (x : Operand) (ho : o.op = .load 31 x) (hx : ev x = .pointer (some ⟨g, off, none⟩)) (hb : w.rangeAt g off (rcells p)) :
 (execOp ev o).run Tryz.prog w = .ok (.value (.agg #[.int .i64 p.ep, .int .u64 p.k1, .int .u64 p.k2, .int .u64 p.k3, .int .u64 p.k4, .int .u64 p.k5, .int .u64 p.k6])) w := by
 have hr := run_loadVar_mid (P := Tryz.prog) w g off 31 (rcells p) _ hb Tryz.underlying31 rfl uW
 unfold execOp
 simp only [ho, hx, Instr.loadAt, Instr.sureAddr, Sem.run_bind, Sem.run_pure, Result.andThen_ok, hr]
 rfl
def kc (q : PK) (vo vd pu vb : Value) : Array Value := #[.int .i64 q.kind, .int .i64 q.life, .int .i64 q.piece, .int .i64 q.frm, .int .i64 q.dst, .int .i64 q.fp, .int .i64 q.tp, .int .i64 q.flags, .int .i64 q.label, .bool q.bare, .int .i64 q.code, vo, vd, pu, vb]
def thenB (er : Int) (v1 v2 : Value) : Value := if er = 0 then v1 else v2
theorem then_calls (k : Nat) (q : PK) (vo vd pu : Value) (b1 : Option Addr) (n1 m1 : Nat) (A2 : Option Addr) (n2 m2 : Nat) (er : Int) (W : World) (hb : Blk W k 77 (kc q vo vd pu (.slice b1 n1 m1))) : Calls Tryz.prog 25 #[.pointer (some ⟨k, 0, none⟩), .slice A2 n2 m2, .int .i64 er] W fun e w' => e = .returned (.tuple #[]) ∧ Blk w' k 77 (kc q vo vd pu (thenB er (.slice A2 n2 m2) (.slice b1 n1 m1))) ∧ Chg (fun i => i = k) W w' := by
 have hu := Tryz.underlying77
 have HB := mA hb
 by_cases h0 : er = 0
 ·skip
  have k0 : (er == 0) = true := beq_iff_eq.2 h0
  have HE : Aside0 (thenB er (.slice A2 n2 m2) (.slice b1 n1 m1) = .slice A2 n2 m2) := ⟨if_pos h0⟩
  have c14 := bc hb 14
  have f14 := blk_frozen hb 14
  clear hb h0
  go_enter Tryz.func25, Tryz.ntmps25
  go_wp2
  first | go_end0 | ((try simp only [Exit.inBlock, Exit.then]); refine bodyPost_ret (results_none rfl _ _ _) rfl ?_)
  rw [HE.out]
  exact ⟨rfl, blk_put HB.out 14 _ rfl, (Chg.of_grown (grown_set _ _ _ _)).mono (fun i hi => Option.some.inj hi)⟩
 ·skip
  have k0 : (er == 0) = false := beq_eq_false_iff_ne.2 h0
  have HE : Aside0 (thenB er (.slice A2 n2 m2) (.slice b1 n1 m1) = .slice b1 n1 m1) := ⟨if_neg h0⟩
  clear hb h0
  go_enter Tryz.func25, Tryz.ntmps25
  go_wp2
  first | go_end0 | ((try simp only [Exit.inBlock, Exit.then]); refine bodyPost_ret (results_none rfl _ _ _) rfl ?_)
  rw [HE.out]
  exact ⟨rfl, HB.out, Chg.refl _ _⟩
def tkV (x : S25) : Bool := decide (x.f0 = 1 ∨ x.f0 = 2 ∨ x.f0 = 3)
theorem takes_c (a b c d e : Int) (w : World) : Calls Tryz.prog 68 #[.agg #[.int .i64 a, .int .i64 b, .int .i64 c, .int .i64 d, .int .i64 e]] w fun r w' => r = .returned (.bool (decide (a = 1 ∨ a = 2 ∨ a = 3))) ∧ Below w.heap.size w w' := by
 refine pool_Takes.calls 9 a b c d e _ w ?_
 have h : pool_may.f 9 a b c d e [1, 2, 3] = some (decide (a = 1 ∨ a = 2 ∨ a = 3)) := by
  have w1 : wrap64 (0 + 1) = 1 := w64 uJ uJ
  have w2 : wrap64 (1 + 1) = 2 := w64 uJ uJ
  have w3 : wrap64 (2 + 1) = 3 := w64 uJ uJ
  unfold pool_may.f
  rw [pool_may.l0, if_pos uJ, if_pos uJ, if_pos uJ, show rd [1, 2, 3] 0 = 1 from rfl]
  by_cases h1 : a = 1
  ·rw [if_pos h1, decide_eq_true (Or.inl h1)]
  rw [if_neg h1, w1, pool_may.l0, if_pos uJ, if_pos uJ, if_pos uJ, show rd [1, 2, 3] 1 = 2 from rfl]
  by_cases h2 : a = 2
  ·rw [if_pos h2, decide_eq_true (Or.inr (Or.inl h2))]
  rw [if_neg h2, w2, pool_may.l0, if_pos uJ, if_pos uJ, if_pos uJ, show rd [1, 2, 3] 2 = 3 from rfl]
  by_cases h3 : a = 3
  ·rw [if_pos h3, decide_eq_true (Or.inr (Or.inr h3))]
  rw [if_neg h3, w3, pool_may.l0, if_neg uJ, decide_eq_false (fun h => h.elim h1 (fun h => h.elim h2 h3))]
 unfold pool_Takes.f
 rw [h, Option.bind_some]
def pickV (wl : List Int) (a b c d : Int) : Int := (wheel_Pick.f 5 wl a b c d).getD (-1)
theorem pick_some (wl : List Int) (a b c d : Int) (h : ∀ x ∈ wl, -1 ≤ x ∧ x ≤ 63) : wheel_Pick.f 5 wl a b c d = some (pickV wl a b c d) ∧ -1 ≤ pickV wl a b c d ∧ pickV wl a b c d ≤ 63 := by
 have h2 : ∃ r, wheel_Pick.f 5 wl a b c d = some r ∧ -1 ≤ r ∧ r ≤ 63 := by
  have hw : sip_Words.f 5 0 0 [3, a, b, c, d] = some (sipWords 0 0 [3, a, b, c, d]) := by
   show (if ([3, a, b, c, d] : List Int).length ≤ 1048576 then some (sipWords 0 0 [3, a, b, c, d]) else none) = _
   rw [if_pos (Nat.le_of_ble_eq_true rfl)]
  have hr := words_range 0 0 [3, a, b, c, d]
  unfold wheel_Pick.f wheel_spun.f
  rw [hw]
  generalize sipWords 0 0 [3, a, b, c, d] = x at hr
  rw [Option.bind_some, if_neg uJ, Option.bind_some]
  have hm : Int.tmod x 127 = x % 127 := Int.tmod_eq_emod_of_nonneg hr.1
  rw [hm, w64 uY uY]
  split
  ·exact ⟨_, rfl, kC, kC⟩
  ·rw [if_pos uY, if_pos uY]
   refine ⟨_, rfl, h _ ?_⟩
   unfold rd
   rw [List.getD_eq_getElem?_getD, List.getElem?_eq_getElem uY]
   exact List.getElem_mem _
 obtain ⟨r, hr, h3⟩ := h2
 have e : pickV wl a b c d = r := by rw [pickV, hr, Option.getD_some]
 rw [e]
 exact ⟨hr, h3⟩
theorem pick_c {w : World} {gu : Nat} {p : PL} {nr : List Value} {A : Option Addr} {n c : Nat} {wl : List Int} (h : UN w gu p nr (.slice A n c) wl) (a b d e : Int) :
 Calls Tryz.prog 64 #[.slice A n c, .agg #[.int .i64 a, .int .i64 b, .int .i64 d, .int .i64 e]] w fun r w' => r = .returned (.int .i64 (pickV wl a b d e)) ∧ Below w.heap.size w w' := by
 obtain ⟨rfl, hc, hC⟩ := Kd.R_reads' h.R
 exact wheel_Pick.calls 5 A c wl a b d e _ w hC hc (pick_some wl a b d e h.E).1
theorem drop_c (x : Int) (w : World) : Calls Tryz.prog 23 #[.int .i64 x] w fun e w' => ∃ (Ad : Option Addr) (nd cd : Nat), e = .returned (.agg #[.int .i64 x, .int .i64 (-1), .bool false, .slice Ad nd cd]) ∧ Bytes w' w.heap.size (.slice Ad nd cd) [] ∧ Below w.heap.size w w' := by
 refine (plane_drop.calls x x (-1) false [] w rfl).mono ?_
 rintro e w' ⟨v, rfl, hR, hb⟩
 obtain ⟨Ad, cd, rfl⟩ := Kd.R_slice hR
 exact ⟨Ad, _, cd, rfl, hR, hb⟩
theorem near_calls {W : World} {gu : Nat} {p : PL} {nr : List Value} {ws : Value} {wl : List Int} (h : UN W gu p nr ws wl) (i : Nat) (hi : i < 64) : Calls Tryz.prog 71 #[.pointer (some ⟨gu, 0, none⟩), .int .i64 (i : Int)] W fun e w' => (∃ (x : Int) (b : Bool), e = .returned (.tuple #[.int .u32 x, .bool b])) ∧ Below W.heap.size W w' := by
 obtain ⟨x, b, h1, h2⟩ := h.N.2 i hi
 have hu70 := Tryz.underlying70
 have hu68 := Tryz.underlying68
 have hu67 := Tryz.underlying67
 have c0 : ∀ w, Below W.heap.size W w → w.cell? ⟨gu, 331 + i * 2, none⟩ = some (.int .u32 x) := fun w hb => by rw [blk_cell (h.B.below hb), PLN_near h.L h.N.1 _ uY, Nat.mul_comm]; exact h1
 have c1 : ∀ w, Below W.heap.size W w → w.cell? ⟨gu, 331 + i * 2 + 1, none⟩ = some (.bool b) := fun w hb => by rw [blk_cell (h.B.below hb), Nat.add_assoc, PLN_near h.L h.N.1 _ uY, Nat.mul_comm]; exact h2
 have HC0 := mA c0
 have HC1 := mA c1
 clear c0 c1 h1 h2
 have d0 : decide ((i : Int) < 0) = false := decide_eq_false uY
 have d1 : decide (64 ≤ (i : Int)) = false := decide_eq_false uY
 have q0 : ((i : Int) < 64) = True := eq_true uY
 have q1 : (0 ≤ (i : Int)) = True := eq_true uY
 have HS : Aside0 (St (fun _ => False) W W [] []) := ⟨St.init _ _⟩
 go_enter Tryz.func71, Tryz.ntmps71
 go_upto_region 3 with fail
 replace HS := HS.dr
 refine zT 16 (fun w' => w'.cell? ⟨gu, 331 + i * 2, none⟩ = some (.int .u32 x) ∧ w'.cell? ⟨gu, 331 + i * 2 + 1, none⟩ = some (.bool b)) ⟨HC0.out _ HS.nb, HC1.out _ HS.nb⟩ fun hHeld => ?_
 generalize W.drew = w1 at HS hHeld ⊢
 refine zR [(0,12),(1,13),(2,14),(3,15),(4,16),(5,17),(7,19),(8,20),(9,21),(10,22),(11,23),(12,24),(6,18),(14,4),(13,25),(15,5)] 0 ?_ ?_
 refine done_ uW ?_
 clear hHeld
 go_wp2_with fail
 go_ret2
 exact ⟨⟨x, b, rfl⟩, HS.nb⟩
theorem lay32_calls {W : World} {gu : Nat} {p : PL} {nr : List Value} {ws : Value} {wl : List Int} (h : UN W gu p nr ws wl) (i : Nat) (hi : i < 64) (x : Int) : Calls Tryz.prog 76 #[.pointer (some ⟨gu, 331 + i * 2, none⟩), .int .u32 x] W fun e w' => e = .returned (.tuple #[]) ∧ (∃ nr', UN w' gu p nr' ws wl) ∧ Chg (fun j => j = gu) W w' := by
 obtain ⟨x0, b0, h1, h2⟩ := h.N.2 i hi
 have hu67 := Tryz.underlying67
 have HU := mA h
 have HI := mA hi
 have c0 : W.cell? ⟨gu, 331 + i * 2, none⟩ = some (.int .u32 x0) := by rw [blk_cell h.B, PLN_near h.L h.N.1 _ uY, Nat.mul_comm]; exact h1
 have c1 : W.cell? ⟨gu, 331 + i * 2 + 1, none⟩ = some (.bool b0) := by rw [blk_cell h.B, Nat.add_assoc, PLN_near h.L h.N.1 _ uY, Nat.mul_comm]; exact h2
 have f0 := blk_frozen h.B (331 + i * 2)
 have f1 := blk_frozen h.B (331 + i * 2 + 1)
 clear h h1 h2 hi
 go_enter Tryz.func76, Tryz.ntmps76
 go_wp2
 first | go_end0 | ((try simp only [Exit.inBlock, Exit.then]); refine bodyPost_ret (results_none rfl _ _ _) rfl ?_)
 have hi := HI.out
 have hb : Blk ((W.setCell ⟨gu, 331 + i * 2, none⟩ (.int .u32 x)).setCell ⟨gu, 331 + i * 2 + 1, none⟩ (.bool true)) gu 70 (PLN p true ((nr.set (2 * i) (.int .u32 x)).set (2 * i + 1) (.bool true)) ws) := by
  refine blk_put (blk_put HU.out.B (331 + i * 2) (.int .u32 x) (by rw [PLN_setnear HU.out.L (i * 2) (by have := HU.out.N.1; omega)])) (331 + i * 2 + 1) (.bool true) ?_
  rw [Nat.add_assoc, PLN_setnear HU.out.L (i * 2 + 1) (by rw [List.length_set]; have := HU.out.N.1; omega), Nat.mul_comm]
 have hc : Chg (fun j => j = gu) W ((W.setCell ⟨gu, 331 + i * 2, none⟩ (.int .u32 x)).setCell ⟨gu, 331 + i * 2 + 1, none⟩ (.bool true)) := ((Chg.of_grown (grown_set W gu (331 + i * 2) (.int .u32 x))).mono (fun j hj => Option.some.inj hj)).trans ((Chg.of_grown (grown_set (W.setCell ⟨gu, 331 + i * 2, none⟩ (.int .u32 x)) gu (331 + i * 2 + 1) (.bool true))).mono (fun j hj => Option.some.inj hj)) (fun _ _ h => h)
 exact ⟨rfl, ⟨_, hb, HU.out.L, HU.out.N.set i hi x true, hc.rowR HU.out.R (fun j hj e => Kd.R_ne HU.out.R HU.out.B uJ (by rw [hj, e])), HU.out.E⟩, hc⟩
def carV (p : PL) (q : PK) (a b c d : Int) : Int × Bool := if q.label = 0 then (0, false) else read2 p.ep p.k1 p.k2 p.k3 p.k4 p.k5 p.k6 a b c d q.label
theorem carried_calls {W : World} {gu : Nat} {p : PL} {nr : List Value} {ws : Value} {wl : List Int} (h : UN W gu p nr ws wl) (k : Nat) (q : PK) (Ao : Option Addr) (no co : Nat) (vd vb : Value) (hK : Blk W k 77 (kc q (.slice Ao no co) vd (.pointer (some ⟨gu, 0, none⟩)) vb)) (hO : Bytes W 0 (.slice Ao no co) q.opts) (hob : BY q.opts) (hol : q.opts.length ≤ 1500) (hk : q.kind = 2 ∨ q.kind = 1) (a b c d : Int) :
 Calls Tryz.prog 67 #[.pointer (some ⟨k, 0, none⟩), .agg #[.int .i64 a, .int .i64 b, .int .i64 c, .int .i64 d]] W fun e w' => ∃ (s : Int) (is : Bool), e = .returned (.tuple #[.int .i64 s, .bool is]) ∧ (is = true → 0 ≤ s ∧ s < 64) ∧ (q.kind = 2 → (s, is) = carV p q a b c d) ∧ Below W.heap.size W w' := by
 have hu77 := Tryz.underlying77
 have hu89 := Tryz.underlying89
 have hu31 := Tryz.underlying31
 have hu45 := Tryz.underlying45
 have hu70 := Tryz.underlying70
 have HU := mA h
 have HK := mA hK
 have HO := mA hO
 have HOB : Aside0 (∀ x ∈ q.opts, 0 ≤ x ∧ x ≤ 255) := ⟨hob⟩
 have HOL := mA hol
 have HKD := mA hk
 have HS : Aside0 (St (fun _ => False) W W [] []) := ⟨St.init _ _⟩
 clear h hK hO hob hol hk
 go_enter Tryz.func67, Tryz.ntmps67
 go_upto_region 2 with (first
  | (refine zA 3 HS ?_; clear HS; intro gf w1 HS z_; clear z_; have k13_ := bc (HK.out.below HS.nb) 13)
  | ((with_reducible refine zd 21 ?_); refine Kd.event_run rfl (run_ring _ _ _ gu 323 p (.tmp 20) rfl rfl (HU.out.below HS.nb).ring) ?_)
  | (refine zB 6 HS (run_al31 _ _ _ rfl) ?_; clear HS; intro gr w2 HS z_; clear z_ k13_)
  | (refine zS 31 6 HS 0 ?_; clear HS; intro w3 HS z_; clear z_))
 rcases HKD.out with hk | hk
 ·skip
  have kb : (q.kind == 2) = true := beq_iff_eq.2 hk
  have k0_ := bc (HK.out.below HS.nb) 0
  have k8_ := bc (HK.out.below HS.nb) 8
  have HK2 := mA hk
  clear hk
  by_cases hl : q.label = 0
  ·skip
   have kl : (q.label == 0) = true := beq_iff_eq.2 hl
   have HV : Aside0 (carV p q a b c d = (0, false)) := ⟨by unfold carV; rw [if_pos hl]⟩
   clear hl
   go_wp2_with fail
   go_ret2
   exact ⟨0, false, rfl, fun h => absurd h uJ, fun _ => HV.out.symm, HS.nb⟩
  ·skip
   have kl : (q.label == 0) = false := beq_eq_false_iff_ne.2 hl
   have HV : Aside0 (carV p q a b c d = read2 p.ep p.k1 p.k2 p.k3 p.k4 p.k5 p.k6 a b c d q.label) := ⟨by unfold carV; rw [if_neg hl]⟩
   clear hl
   go_upto_region 5 with fail
   clear k0_ k8_
   replace HS := HS.dr
   refine zT 17 (fun w' => Blk w' gr 31 #[.int .i64 p.ep, .int .u64 p.k1, .int .u64 p.k2, .int .u64 p.k3, .int .u64 p.k4, .int .u64 p.k5, .int .u64 p.k6] ∧ Blk w' gf 89 #[.int .i64 a, .int .i64 b, .int .i64 c, .int .i64 d] ∧ w'.cell? ⟨k, 0, none⟩ = some (.int .i64 q.kind) ∧ w'.cell? ⟨k, 8, none⟩ = some (.int .i64 q.label)) ⟨HS.b0, HS.b1, (blk_cell (HK.out.below HS.nb) 0).trans rfl, (blk_cell (HK.out.below HS.nb) 8).trans rfl⟩ fun hHeld => ?_
   generalize w3.drew = w4 at HS hHeld ⊢
   refine run_ [(1, 35), (2, 36), (3, 37), (4, 38), (7, 41), (8, 42), (9, 43), (10, 44), (0, 34), (5, 39), (6, 40), (11, 45)] (fuel := 5) (a2 := ?_) rfl uW (fun _ _ _ _ _ h => h) hHeld ?_ ?_
   rotate_left
   ·iterate 8
     refine Steps.on (v := ?_) (a1 := ?_) rfl rfl (by rfl) ?_ ?_ ?_
     rotate_left
     ·exact zE
     rotate_left
     ·exact zU
    refine Steps.on (v := ?_) (a1 := ?_) rfl rfl (by rfl) ?_ ?_ ?_
    rotate_left
    ·exact zI
    rotate_left
    ·exact zU
    refine Steps.on (v := ?_) (a1 := ?_) rfl rfl (by rfl) ?_ ?_ ?_
    rotate_left
    ·exact zE
    rotate_left
    ·exact zU
    refine Steps.on (v := ?_) (a1 := ?_) rfl rfl (by rfl) ?_ ?_ ?_
    rotate_left
    ·exact jZ
    rotate_left
    ·exact zU
    refine Steps.on (v := ?_) (a1 := ?_) rfl rfl (by rfl) ?_ ?_ ?_
    rotate_left
    ·exact zE
    rotate_left
    ·exact zU
    exact Steps.end_
   refine zO 12 (tf 13 4) fun K hK => ?_
   refine goes_ Tryz.func98 uW rfl #[.agg #[.int .i64 p.ep, .int .u64 p.k1, .int .u64 p.k2, .int .u64 p.k3, .int .u64 p.k4, .int .u64 p.k5, .int .u64 p.k6], .int .i64 q.kind, .agg #[.int .i64 a, .int .i64 b, .int .i64 c, .int .i64 d], .int .i64 q.label] (by rfl) rfl rfl xV ?_
   rw [HK2.out]
   refine (read2_calls p.ep p.k1 p.k2 p.k3 p.k4 p.k5 p.k6 a b c d q.label _).mono ?_
   rintro e_ w5 ⟨rfl, hb_⟩
   refine ⟨_, rfl, ?_⟩
   replace HS := HS.bl hb_
   clear hb_ hHeld
   refine hK.out _ _ ⟨HS.b0, HS.b1, (blk_cell (HK.out.below HS.nb) 0).trans rfl, (blk_cell (HK.out.below HS.nb) 8).trans rfl⟩ (fun hHeld => ?_)
   clear hK K
   refine zN ?_
   refine zR [(13,47),(14,48),(15,4),(16,5)] 0 ?_ ?_
   refine done_ uW ?_
   clear hHeld
   go_wp2_with fail
   go_ret2
   exact ⟨_, _, rfl, fun h => read2_slot h, fun _ => HV.out.symm, HS.nb⟩
 ·skip
  have kb : (q.kind == 2) = false := by rw [hk]; rfl
  have k0_ := bc (HK.out.below HS.nb) 0
  have k11_ := bc (HK.out.below HS.nb) 11
  have HK2 := mA hk
  have HNK : Aside0 (q.kind ≠ 2) := ⟨by rw [hk]; decide⟩
  clear hk
  obtain ⟨hno, hnc, _⟩ := Kd.R_reads' HO.out
  subst hno
  have HNC := mA hnc
  clear hnc
  go_upto_region 7 with (first
   | (go_at_call 70; refine (Opt.stamp_any Ao co q.opts _ (Kd.R_reads' (Kd.R_below HO.out HS.nb)).2.2 HNC.out (by have h_ := HOL.out; omega) HOB.out).mono ?_; rintro e_ w4 ⟨sp, sv, sx, sb, rfl, hse_, hb_⟩; clear hse_ k0_ k11_; replace HS := HS.bl hb_; clear hb_; have k0_ := bc (HK.out.below HS.nb) 0; have k7_ := bc (HK.out.below HS.nb) 7))
  cases sb with
  | false =>
   go_wp2_with fail
   go_ret2
   exact ⟨0, false, rfl, fun h => absurd h uJ, fun h => absurd h HNK.out, HS.nb⟩
  | true =>
   by_cases hf : q.flags = 1
   ·skip
    have kf : (q.flags == 1) = true := beq_iff_eq.2 hf
    clear hf
    go_wp2_with fail
    go_ret2
    exact ⟨0, false, rfl, fun h => absurd h uJ, fun h => absurd h HNK.out, HS.nb⟩
   ·skip
    have kf : (q.flags == 1) = false := beq_eq_false_iff_ne.2 hf
    clear hf
    go_upto_region 10 with (first
     | (go_at_call 99; refine (cookie_Get.calls sx _ _ _ rfl).mono ?_; rintro e_ w5 ⟨rfl, hd_⟩; have hb_ := hd_.below; clear hd_ k0_ k7_; replace HS := HS.bl hb_; clear hb_))
    obtain ⟨cv, hcv⟩ : ∃ cv, cv = wrap64 (Go.bits .and .u32 sx 1048575) := ⟨_, rfl⟩
    rw [← hcv]
    clear hcv
    replace HS := HS.dr
    refine zT 13 (fun w' => Blk w' gr 31 #[.int .i64 p.ep, .int .u64 p.k1, .int .u64 p.k2, .int .u64 p.k3, .int .u64 p.k4, .int .u64 p.k5, .int .u64 p.k6] ∧ Blk w' gf 89 #[.int .i64 a, .int .i64 b, .int .i64 c, .int .i64 d] ∧ w'.cell? ⟨k, 0, none⟩ = some (.int .i64 q.kind)) ⟨HS.b0, HS.b1, (blk_cell (HK.out.below HS.nb) 0).trans rfl⟩ fun hHeld => ?_
    generalize w5.drew = w6 at HS hHeld ⊢
    refine run_ [(1, 76), (2, 77), (3, 78), (4, 79), (7, 82), (0, 75), (5, 80), (6, 81)] (fuel := 5) (a2 := ?_) rfl uW (fun _ _ _ _ _ h => h) hHeld ?_ ?_
    rotate_left
    ·iterate 5
      refine Steps.on (v := ?_) (a1 := ?_) rfl rfl (by rfl) ?_ ?_ ?_
      rotate_left
      ·exact jQ
      rotate_left
      ·exact zU
     refine Steps.on (v := ?_) (a1 := ?_) rfl rfl (by rfl) ?_ ?_ ?_
     rotate_left
     ·exact zI
     rotate_left
     ·exact zU
     refine Steps.on (v := ?_) (a1 := ?_) rfl rfl (by rfl) ?_ ?_ ?_
     rotate_left
     ·exact jQ
     rotate_left
     ·exact zU
     refine Steps.on (v := ?_) (a1 := ?_) rfl rfl (by rfl) ?_ ?_ ?_
     rotate_left
     ·exact jZ
     rotate_left
     ·exact zU
     exact Steps.end_
    refine zO 8 (tf 9 4) fun K hK => ?_
    refine goes_ Tryz.func98 uW rfl #[.agg #[.int .i64 p.ep, .int .u64 p.k1, .int .u64 p.k2, .int .u64 p.k3, .int .u64 p.k4, .int .u64 p.k5, .int .u64 p.k6], .int .i64 q.kind, .agg #[.int .i64 a, .int .i64 b, .int .i64 c, .int .i64 d], .int .i64 cv] (by rfl) rfl rfl xV ?_
    rw [HK2.out]
    refine (read1_calls p.ep p.k1 p.k2 p.k3 p.k4 p.k5 p.k6 a b c d cv _).mono ?_
    rintro e_ w7 ⟨rfl, hb_⟩
    refine ⟨_, rfl, ?_⟩
    replace HS := HS.bl hb_
    clear hb_ hHeld
    refine hK.out _ _ ⟨HS.b0, HS.b1, (blk_cell (HK.out.below HS.nb) 0).trans rfl⟩ (fun hHeld => ?_)
    clear hK K
    refine zN ?_
    refine zR [(9,84),(10,85),(11,4),(12,5)] 0 ?_ ?_
    refine done_ uW ?_
    clear hHeld
    go_wp2_with fail
    go_ret2
    exact ⟨_, _, rfl, fun h => read1_slot h, fun h => absurd h HNK.out, HS.nb⟩
theorem bytes_chg {w w' : World} {base g t : Nat} {cs : Array Value} {v : Value} {l : List Int} (h : Bytes w base v l) (hb : Blk w g t cs) (ht : (5 : Nat) ≠ t) (hc : Chg (fun k => k = g) w w') : Bytes w' base v l :=
 bytes_move h (fun k hk => hc.block k (Kd.R_lt h k hk) (fun e => Kd.R_ne h hb ht (by rw [hk, e])))
theorem bytes_grown {w w' : World} {base g t : Nat} {cs : Array Value} {v : Value} {l : List Int} (h : Bytes w base v l) (hb : Blk w g t cs) (ht : (5 : Nat) ≠ t) (hg : w.grownBy w' (some g)) : Bytes w' base v l :=
 bytes_chg h hb ht ((Chg.of_grown hg).mono (fun k hk => Option.some.inj hk))
def thenL (er : Int) (l1 l2 : List Int) : List Int := if er = 0 then l1 else l2
theorem thenL_by {er : Int} {l1 l2 : List Int} (h1 : BY l1) (h2 : BY l2) : BY (thenL er l1 l2) := by
 unfold thenL
 split
 ·exact h1
 ·exact h2
theorem thenB_row {w : World} {b1 b2 n1 n2 c1 c2 : Nat} {A1 A2 : Option Addr} {l1 l2 : List Int} (er : Int) (h1 : Bytes w b1 (.slice A1 n1 c1) l1) (h2 : Bytes w b2 (.slice A2 n2 c2) l2) :
 ∃ A c l, thenB er (.slice A1 n1 c1) (.slice A2 n2 c2) = .slice A l.length c ∧ Bytes w 0 (.slice A l.length c) l ∧ l = thenL er l1 l2 := by
 obtain ⟨rfl, _⟩ := Kd.R_reads' h1
 obtain ⟨rfl, _⟩ := Kd.R_reads' h2
 by_cases h : er = 0
 ·exact ⟨A1, c1, l1, if_pos h, Kd.R_lower h1 (Nat.zero_le _), (if_pos h).symm⟩
 ·exact ⟨A2, c2, l2, if_neg h, Kd.R_lower h2 (Nat.zero_le _), (if_neg h).symm⟩
theorem doneB {bare : Bool} {b : List Int} (hl : 24 ≤ b.length) (h : BY b) : BY (doneF bare b) := (doneF_all hl).2.2 h
theorem natF_by {l : List Int} (hb : BY l) (src : Bool) (addr port : Int) : BY (natF l src addr port).2 := by
 have hN : BY ([] : List Int) := fun x h => (List.not_mem_nil h).elim
 have hp : parse l = ((parse l).1, (parse l).2) := rfl
 unfold natF
 split
 ·exact hN
 rename_i h0
 have h0 : (parse l).1 = 0 := Classical.not_not.1 h0
 rw [h0] at hp
 have hz := (parse_zero hp hb).2.1
 split
 ·exact hN
 split
 ·exact hN
 have hab : ∀ a p : Int, 0 ≤ a → a ≤ 8 → 0 ≤ p → p ≤ 18 → BY (natB (parse l).2.bare l a p addr port) := by
  intro a p ha ha2 hp0 hp2
  obtain ⟨_, p1, _, p3⟩ := put_all (l := l) (a := a) (n := 4) addr ha uJ uJ uY uY
  obtain ⟨_, q1, _, q3⟩ := put_all (l := pt l a 4 addr) (a := p) (n := 2) port hp0 uJ uJ uY uY
  obtain ⟨t1, _, t3⟩ := turnF_all (l := l) (b := pt (pt l a 4 addr) p 2 port) (pl := 14) (at_ := a) (n := 4) uJ uY uJ
  obtain ⟨u1, _, u3⟩ := bodyF_all (bare := (parse l).2.bare) (l := l) (b := turnF l (pt (pt l a 4 addr) p 2 port) 14 a 4) (at_ := a) (n := 4) uY
  obtain ⟨x1, _, x3⟩ := bodyF_all (bare := (parse l).2.bare) (l := l) (b := bodyF (parse l).2.bare l (turnF l (pt (pt l a 4 addr) p 2 port) 14 a 4) a 4) (at_ := p) (n := 2) uY
  exact doneB uY (x3 (u3 (t3 (q3 (p3 hb)))))
 cases src
 ·exact hab 8 18 uJ uJ uJ uJ
 ·exact hab 4 16 uJ uJ uJ uJ
theorem writeF_by {l : List Int} (hb : BY l) (a n x m : Int) (hn : 0 ≤ n) (hn4 : n ≤ 4) : BY (writeF l a n x m).2 := by
 have hN : BY ([] : List Int) := fun x h => (List.not_mem_nil h).elim
 have hp : parse l = ((parse l).1, (parse l).2) := rfl
 unfold writeF
 split
 ·exact hN
 rename_i h0
 have h0 : (parse l).1 = 0 := Classical.not_not.1 h0
 rw [h0] at hp
 obtain ⟨_, hz, hz2, _⟩ := parse_zero hp hb
 split
 ·exact hN
 rename_i h1
 have h1 := Classical.not_not.1 h1
 split
 ·exact hN
 obtain ⟨_, p1, _, p3⟩ := put_all (l := l) (a := a) (n := n) x uY hn hn4 uY uY
 obtain ⟨u1, _, u3⟩ := bodyF_all (bare := (parse l).2.bare) (l := l) (b := pt l a n x) (at_ := a) (n := n) uY
 exact doneB uY (u3 (p3 hb))
theorem byl {l : List Int} (h : ∀ x ∈ l, 0 ≤ x ∧ x ≤ 255) : BY l := h
theorem nat_c (A : Option Addr) (c : Nat) (l : List Int) (W : World) (hR : Bytes W 0 (.slice A l.length c) l) (hb : BY l) (src : Bool) (addr port : Int) {er : Int} {l1 : List Int} (h : natF l src addr port = (er, l1)) : Calls Tryz.prog 69 #[.slice A l.length c, .bool src, .int .i64 addr, .int .i64 port] W fun e w' => ∃ A1 c1, e = .returned (.tuple #[.slice A1 l1.length c1, .int .i64 er]) ∧ Bytes w' W.heap.size (.slice A1 l1.length c1) l1 ∧ BY l1 ∧ Below W.heap.size W w' := by
 obtain ⟨_, hc, hC⟩ := Kd.R_reads' hR
 refine (nat_calls A c l W hC hc hb src addr port).mono ?_
 rintro e w' ⟨v, rfl, hr, hB⟩
 have hy := natF_by hb src addr port
 rw [h] at hr hy ⊢
 obtain ⟨A1, c1, rfl⟩ := Kd.R_slice hr
 exact ⟨A1, c1, rfl, hr, hy, hB⟩
theorem write4_c (A : Option Addr) (c : Nat) (l : List Int) (W : World) (hR : Bytes W 0 (.slice A l.length c) l) (hb : BY l) (a x : Int) {er : Int} {l1 : List Int} (h : writeF l a 4 x 4294967296 = (er, l1)) : Calls Tryz.prog 65 #[.slice A l.length c, .int .i64 a, .int .i64 4, .int .i64 x] W fun e w' => ∃ A1 c1, e = .returned (.tuple #[.slice A1 l1.length c1, .int .i64 er]) ∧ Bytes w' W.heap.size (.slice A1 l1.length c1) l1 ∧ BY l1 ∧ Below W.heap.size W w' := by
 obtain ⟨_, hc, hC⟩ := Kd.R_reads' hR
 refine (write4_calls A c l W hC hc hb a x).mono ?_
 rintro e w' ⟨v, rfl, hr, hB⟩
 have hy := writeF_by hb a 4 x 4294967296 uJ uJ
 rw [h] at hr hy ⊢
 obtain ⟨A1, c1, rfl⟩ := Kd.R_slice hr
 exact ⟨A1, c1, rfl, hr, hy, hB⟩
theorem write2_c (A : Option Addr) (c : Nat) (l : List Int) (W : World) (hR : Bytes W 0 (.slice A l.length c) l) (hb : BY l) (a x : Int) {er : Int} {l1 : List Int} (h : writeF l a 2 x 65536 = (er, l1)) : Calls Tryz.prog 65 #[.slice A l.length c, .int .i64 a, .int .i64 2, .int .i64 x] W fun e w' => ∃ A1 c1, e = .returned (.tuple #[.slice A1 l1.length c1, .int .i64 er]) ∧ Bytes w' W.heap.size (.slice A1 l1.length c1) l1 ∧ BY l1 ∧ Below W.heap.size W w' := by
 obtain ⟨_, hc, hC⟩ := Kd.R_reads' hR
 refine (write2_calls A c l W hC hc hb a x).mono ?_
 rintro e w' ⟨v, rfl, hr, hB⟩
 have hy := writeF_by hb a 2 x 65536 uJ uJ
 rw [h] at hr hy ⊢
 obtain ⟨A1, c1, rfl⟩ := Kd.R_slice hr
 exact ⟨A1, c1, rfl, hr, hy, hB⟩
theorem back_some (a b : Int) : ∃ r, cookie_Back.f a b = some r := by
 unfold cookie_Back.f cookie_Get.f opts_Far.f
 simp only [Option.bind_some]
 split
 ·exact ⟨_, rfl⟩
 split
 ·exact ⟨_, rfl⟩
 ·exact ⟨_, rfl⟩
theorem slot_c {w : World} {tp : Nat} {p : PL} (hb : Blk w tp 33 (pcs p)) (hp : p.sl.length = 64) (i : Nat) (hi : i < 64) {x : S25} (hx : x = rd_T25 p.sl (i : Int)) : w.cell? ⟨tp, 3 + i * 5, none⟩ = some (.int .i64 x.f0) ∧ w.cell? ⟨tp, 3 + i * 5 + 1, none⟩ = some (.int .i64 x.f1) ∧ w.cell? ⟨tp, 3 + i * 5 + 2, none⟩ = some (.int .i64 x.f2) ∧ w.cell? ⟨tp, 3 + i * 5 + 3, none⟩ = some (.int .i64 x.f3) ∧ w.cell? ⟨tp, 3 + i * 5 + 4, none⟩ = some (.int .i64 x.f4) := by
 obtain ⟨ad, e1, hx0, hx1, hx2, hx3, hx4⟩ := at_T25 (slots_C hb (pcs_slots p hp)) (i : Int) uY (by rw [hp]; omega)
 cases e1
 rw [← hx, Int.toNat_natCast] at hx0 hx1 hx2 hx3 hx4
 simp only [add_in] at hx0 hx1 hx2 hx3 hx4
 exact ⟨hx0, hx1, hx2, hx3, hx4⟩
def outP (e : Ending) (w' : World) (P : Prop) (g : Int × Int × Bool × List Int) : Prop :=
 ∃ (d sl : Int) (b : Bool) (A : Option Addr) (n c : Nat) (l : List Int), e = .returned (.agg #[.int .i64 d, .int .i64 sl, .bool b, .slice A n c]) ∧ Bytes w' 0 (.slice A n c) l ∧ (P → (d, sl, b, l) = g)
def inT (p : PL) (l : List Int) (sl : Int) (b : Bool) : Int × Int × Bool × List Int :=
 if sl < 0 then (9, -1, false, []) else
 let x := natF l false (rd_T25 p.sl sl).f1 (rd_T25 p.sl sl).f2
 (0, sl, b, thenL x.1 x.2 l)
def inG (p : PL) (wl : List Int) (q : PK) (l : List Int) : Int × Int × Bool × List Int :=
 let r := carV p q q.frm q.fp p.addr p.port
 if r.2 = true ∧ tkV (rd_T25 p.sl r.1) = true then inT p l r.1 true else inT p l (pickV wl q.frm q.fp p.addr p.port) false
theorem inG_t {p : PL} {wl : List Int} {q : PK} {l : List Int} {sl : Int} (h : (sl, true) = carV p q q.frm q.fp p.addr p.port) (ht : tkV (rd_T25 p.sl sl) = true) : inG p wl q l = inT p l sl true := by
 unfold inG
 rw [← h]
 exact if_pos ⟨rfl, ht⟩
theorem inG_f {p : PL} {wl : List Int} {q : PK} {l : List Int} {sl : Int} {b : Bool} (h : (sl, b) = carV p q q.frm q.fp p.addr p.port) (ht : ¬ (b = true ∧ tkV (rd_T25 p.sl sl) = true)) : inG p wl q l = inT p l (pickV wl q.frm q.fp p.addr p.port) false := by
 unfold inG
 rw [← h]
 exact if_neg ht
theorem inT_n {p : PL} {l : List Int} {sl : Int} {b : Bool} (h : sl < 0) : inT p l sl b = (9, -1, false, []) := if_pos h
theorem inT_p {p : PL} {l : List Int} {i : Nat} {b : Bool} {x : S25} (hx : x = rd_T25 p.sl (i : Int)) {er : Int} {l1 : List Int} (h : natF l false x.f1 x.f2 = (er, l1)) : inT p l (i : Int) b = (0, (i : Int), b, thenL er l1 l) := by
 unfold inT
 rw [if_neg uY, ← hx, h]
theorem in_calls {W : World} {gu : Nat} {p : PL} {nr : List Value} {Aw : Option Addr} {nw cw : Nat} {wl : List Int} (h : UN W gu p nr (.slice Aw nw cw) wl) (k : Nat) (q : PK) (Ao Ad A : Option Addr) (co nd cd c : Nat) (l : List Int) (hK : Blk W k 77 (kc q (.slice Ao q.opts.length co) (.slice Ad nd cd) (.pointer (some ⟨gu, 0, none⟩)) (.slice A l.length c))) (hO : Bytes W 0 (.slice Ao q.opts.length co) q.opts) (hob : BY q.opts) (hol : q.opts.length ≤ 1500) (hk : q.kind = 2 ∨ q.kind = 1) (hV : Bytes W 0 (.slice A l.length c) l) (hy : BY l) : Calls Tryz.prog 28 #[.pointer (some ⟨k, 0, none⟩)] W fun e w' => outP e w' (q.kind = 2) (inG p wl q l) ∧ Chg (fun j => j = k) W w' := by
 have hu77 := Tryz.underlying77
 have hu89 := Tryz.underlying89
 have hu45 := Tryz.underlying45
 have hu70 := Tryz.underlying70
 have hu25 := Tryz.underlying25
 have hu41 := Tryz.underlying41
 have hu33 := pool33
 have hu26 := slots26
 have HU := mA h
 have HGK : Aside0 (¬ gu = k) := ⟨blk_ne h.B hK uJ⟩
 have HWK : Aside0 (∀ j, (Value.slice Aw nw cw).ownBlock = some j → ¬ j = k) := ⟨fun j hj e => Kd.R_ne h.R hK uJ (by rw [hj, e])⟩
 have HO := mA hO
 have HOK : Aside0 (∀ j, (Value.slice Ao q.opts.length co).ownBlock = some j → ¬ j = k) := ⟨fun j hj e => Kd.R_ne hO hK uJ (by rw [hj, e])⟩
 have HOB : Aside0 (∀ x ∈ q.opts, 0 ≤ x ∧ x ≤ 255) := ⟨hob⟩
 have HOL := mA hol
 have HKD := mA hk
 have HV := mA hV
 have HBY : Aside0 (∀ x ∈ l, 0 ≤ x ∧ x ≤ 255) := ⟨hy⟩
 have HS : Aside0 (St (fun j => j = k) W W [(k, 77, (kc q (.slice Ao q.opts.length co) (.slice Ad nd cd) (.pointer (some ⟨gu, 0, none⟩)) (.slice A l.length c)))] []) := ⟨(St.init _ _).own hK rfl (fun _ h => (List.not_mem_nil h).elim) uJ⟩
 clear h hK hO hob hol hk hV hy
 obtain ⟨_, hnc, _⟩ := Kd.R_reads' HO.out
 have HNC := mA hnc
 clear hnc
 go_enter Tryz.func28, Tryz.ntmps28
 go_upto_region 2 with (first
  | (refine zB 2 HS (run_al41 _ _ _ rfl) ?_; clear HS; intro go w1 HS z_; replace HV := z_ HV; clear z_; have k13_ := bc HS.b1 13)
  | ((with_reducible refine zd 22 ?_); refine un_load (N := 22) rfl rfl (.tmp 21) rfl rfl (HU.out.chg HS.out.C HGK.out HWK.out).B HU.out.L ?_)
  | ((with_reducible refine zd 3 ?_); refine pl_alloc (N := 3) rfl rfl rfl ?_; intro tp hg_ w2 hbx_ hb_; replace HV := HV.rb hb_; clear k13_; replace HS := HS.nw hg_ hbx_ hb_; clear hg_ hbx_ hb_)
  | ((with_reducible refine zst 33 3 ?_); refine pl_store rfl rfl (.tmp 3) (.tmp 22) rfl rfl rfl HS.b0 (pcs_size _ zeroP_len) HU.out.L ?_; intro w3 hb_ hg_; replace HV := mA (bytes_grown HV.out HS.b0 uJ hg_); replace HS := mA (HS.out.grown 0 rfl hb_ hg_); simp only [List.set_cons_zero, List.set_cons_succ] at HS; clear hb_ hg_))
 replace HS := HS.dr
 replace HV := mA (Kd.R_below HV.out (below_drew1 (Below.refl w3.heap.size w3)))
 refine zT 17 (fun w' => w'.cell? ⟨k, 3, none⟩ = some (.int .i64 q.frm) ∧ w'.cell? ⟨k, 5, none⟩ = some (.int .i64 q.fp) ∧ w'.cell? ⟨tp, 1, none⟩ = some (.int .i64 p.addr) ∧ w'.cell? ⟨tp, 2, none⟩ = some (.int .i64 p.port)) ⟨(blk_cell HS.b2 3).trans rfl, (blk_cell HS.b2 5).trans rfl, (blk_cell HS.b0 1).trans rfl, (blk_cell HS.b0 2).trans rfl⟩ fun hHeld => ?_
 generalize w3.drew = w4 at HS HV hHeld ⊢
 refine zR [(0,23),(1,24),(2,25),(3,26),(5,28),(6,29),(7,30),(8,31),(10,33),(12,35),(4,27),(9,32),(11,34),(13,36),(14,37)] 2 ?_ ?_
 refine zO 15 (tf 16 1) fun K hK => ?_
 refine box_step (by rfl) (N := 4) rfl (run_al89 _ _ _ rfl) ?_
 intro gf hg_ w5 hbx_ hb_
 replace HV := HV.rb hb_
 replace HS := HS.nw hg_ hbx_ hb_
 clear hg_ hbx_ hb_ hHeld
 refine hK.out _ _ ⟨(blk_cell HS.b3 3).trans rfl, (blk_cell HS.b3 5).trans rfl, (blk_cell HS.b1 1).trans rfl, (blk_cell HS.b1 2).trans rfl⟩ (fun hHeld => ?_)
 clear hK K
 refine zN ?_
 refine zo 16 (tf 17 0) fun K hK => ?_
 refine skip_ (w1 := (w5.setCells gf 0 (#[.int .i64 q.frm, .int .i64 q.fp, .int .i64 p.addr, .int .i64 p.port] : Array Value).toList)) (by rfl) rfl (run_st89 _ _ _ gf #[.int .i64 0, .int .i64 0, .int .i64 0, .int .i64 0] #[.int .i64 q.frm, .int .i64 q.fp, .int .i64 p.addr, .int .i64 p.port] (.tmp 4) (.tmp 37) rfl rfl rfl HS.b0 rfl rfl vN) ?_
 have V_ : Aside0 (Bytes (w5.setCells gf 0 (#[.int .i64 q.frm, .int .i64 q.fp, .int .i64 p.addr, .int .i64 p.port] : Array Value).toList) 0 (.slice A l.length c) l) := ⟨bytes_grown HV.out HS.b0 uJ (setCells_grown _ 0 _ gf)⟩
 have n_ : Aside0 (St (fun j => j = k) W (w5.setCells gf 0 (#[.int .i64 q.frm, .int .i64 q.fp, .int .i64 p.addr, .int .i64 p.port] : Array Value).toList) [(gf, 89, #[.int .i64 q.frm, .int .i64 q.fp, .int .i64 p.addr, .int .i64 p.port]), (tp, 33, (pcs p)), (go, 41, #[.int .i64 0, .int .i64 0, .bool false, .slice none 0 0]), (k, 77, (kc q (.slice Ao q.opts.length co) (.slice Ad nd cd) (.pointer (some ⟨gu, 0, none⟩)) (.slice A l.length c)))] []) := ⟨HS.out.stm 0 rfl 0 _ (many4 ..)⟩
 clear HS hHeld
 generalize (w5.setCells gf 0 (#[.int .i64 q.frm, .int .i64 q.fp, .int .i64 p.addr, .int .i64 p.port] : Array Value).toList) = w6 at n_ V_ ⊢
 have HS := n_
 clear n_ HV
 have HV := V_
 clear V_
 refine hK.out _ _ ⟨(blk_cell HS.b3 3).trans rfl, (blk_cell HS.b3 5).trans rfl, (blk_cell HS.b1 1).trans rfl, (blk_cell HS.b1 2).trans rfl⟩ (fun hHeld => ?_)
 clear hK K
 refine done_ uW ?_
 clear hHeld
 obtain ⟨c_gf_0, c_gf_1, c_gf_2, c_gf_3⟩ := bk4 HS.b0
 go_upto_region 4 with (first
  | (go_at_call 67; refine (carried_calls (HU.out.chg HS.out.C HGK.out HWK.out) k q Ao _ co _ _ HS.b3 (HS.out.C.rowR HO.out HOK.out) (byl HOB.out) HOL.out HKD.out q.frm q.fp p.addr p.port).mono ?_; rintro e_ w7 ⟨s, is, rfl, hs_, hcv_, hb_⟩; have HSS := mA hs_; have HCV := mA hcv_; clear hs_ hcv_; replace HV := HV.rb hb_; clear c_gf_0 c_gf_1 c_gf_2 c_gf_3; replace HS := HS.bl hb_; clear hb_))
 obtain ⟨sl, hsl⟩ : ∃ sl, pickV wl q.frm q.fp p.addr p.port = sl := ⟨_, rfl⟩
 have HPR : Aside0 (sl < 0 ∨ ∃ i : Nat, i < 64 ∧ sl = (i : Int)) := ⟨by obtain ⟨_, h1, h2⟩ := pick_some wl q.frm q.fp p.addr p.port HU.out.E; rw [hsl] at h1 h2; rcases (show sl < 0 ∨ 0 ≤ sl from by omega) with h | h; exact Or.inl h; exact Or.inr ⟨sl.toNat, qN, qN⟩⟩
 cases is with
 | false =>
  go_upto_region 6 with fail
  have HG : Aside0 (q.kind = 2 → inG p wl q l = inT p l sl false) := ⟨fun h => by rw [← hsl]; exact inG_f (HCV.out h) (fun h => Bool.noConfusion h.1)⟩
  have HPV := mA hsl
  clear hsl HSS HCV
  replace HS := HS.dr
  replace HV := mA (Kd.R_below HV.out (below_drew1 (Below.refl w7.heap.size w7)))
  refine zT 10 (fun w' => w'.cell? ⟨k, 13, none⟩ = some (.pointer (some ⟨gu, 0, none⟩)) ∧ w'.cell? ⟨gu, 459, none⟩ = some (.slice Aw nw cw) ∧ Blk w' gf 89 #[.int .i64 q.frm, .int .i64 q.fp, .int .i64 p.addr, .int .i64 p.port]) ⟨(blk_cell HS.b3 13).trans rfl, (blk_cell (HU.out.chg HS.out.C HGK.out HWK.out).B 459).trans (PLN_ws HU.out.L HU.out.N.1), HS.b0⟩ fun hHeld => ?_
  generalize w7.drew = w8 at HS HV hHeld ⊢
  refine run_ [(0, 54), (1, 55), (2, 56), (3, 57), (4, 58), (5, 59), (6, 60), (7, 61)] (fuel := 2) (a2 := ?_) rfl uW (fun _ _ _ _ _ h => h) hHeld ?_ ?_
  rotate_left
  ·exact jJ
  refine zO 8 (tf 9 1) fun K hK => ?_
  refine zG Tryz.func64 ((pick_c (HU.out.chg HS.out.C HGK.out HWK.out) q.frm q.fp p.addr p.port).mono ?_)
  rw [HPV.out]
  rintro e_ w9 ⟨rfl, hb_⟩
  refine ⟨_, rfl, ?_⟩
  replace HV := HV.rb hb_
  replace HS := HS.bl hb_
  clear hb_ hHeld
  refine hK.out _ _ ⟨(blk_cell HS.b3 13).trans rfl, (blk_cell (HU.out.chg HS.out.C HGK.out HWK.out).B 459).trans (PLN_ws HU.out.L HU.out.N.1), HS.b0⟩ (fun hHeld => ?_)
  clear hK K
  refine zN ?_
  refine zP 9 5 (tf 10 0) ?_
  refine done_ uW ?_
  clear hHeld
  rcases HPR.out with hn | ⟨i, hi, rfl⟩
  ·exact jX
  ·exact jY
 | true =>
  obtain ⟨i, hi, rfl⟩ : ∃ i : Nat, i < 64 ∧ s = (i : Int) := ⟨s.toNat, by have h_ := HSS.out rfl; omega, by have h_ := HSS.out rfl; omega⟩
  have HI := mA hi
  clear hi
  have d0 : decide ((i : Int) < 0) = false := decide_eq_false uY
  have d1 : decide (64 ≤ (i : Int)) = false := decide_eq_false vK
  have q0 : ((i : Int) < 64) = True := eq_true vK
  have q1 : (0 ≤ (i : Int)) = True := eq_true uY
  obtain ⟨sv, hsv⟩ : ∃ x : S25, x = rd_T25 p.sl (i : Int) := ⟨_, rfl⟩
  have HSV := mA hsv
  by_cases ht : tkV sv = true
  ·skip
   have HG : Aside0 (q.kind = 2 → inG p wl q l = inT p l (i : Int) true) := ⟨fun h => inG_t (HCV.out h) (by rw [← hsv]; exact ht)⟩
   have HT : Aside0 (decide (sv.f0 = 1 ∨ sv.f0 = 2 ∨ sv.f0 = 3) = true) := ⟨ht⟩
   clear hsl HSS HCV HPR hsv ht
   obtain ⟨er, l1, hn⟩ : ∃ er l1, natF l false sv.f1 sv.f2 = (er, l1) := ⟨_, _, rfl⟩
   have HN := mA hn
   clear hn
   obtain ⟨x0_, x1_, x2_, x3_, x4_⟩ := slot_c HS.b1 HU.out.L i HI.out HSV.out
   go_upto_region 9 with (first
    | (go_at_call 68; refine (takes_c sv.f0 sv.f1 sv.f2 sv.f3 sv.f4 _).mono ?_; rw [HT.out]; rintro e_ w8 ⟨rfl, hb_⟩; replace HV := HV.rb hb_; clear x0_ x1_ x2_ x3_ x4_; replace HS := HS.bl hb_; clear hb_))
   obtain ⟨x0_, x1_, x2_, x3_, x4_⟩ := slot_c HS.b1 HU.out.L i HI.out HSV.out
   go_upto_region 10 with (first
    | (refine zB 7 HS (run_al25 _ _ _ rfl) ?_; clear HS; intro gs wa HS z_; replace HV := z_ HV; clear z_ x0_ x1_ x2_ x3_ x4_)
    | (refine zS 25 7 HS 0 ?_; clear HS; intro wb HS z_; replace HV := z_ HV; clear z_))
   replace HS := HS.dr
   replace HV := mA (Kd.R_below HV.out (below_drew1 (Below.refl wb.heap.size wb)))
   refine start_ (n := 13) (S := fun w' => w'.cell? ⟨k, 14, none⟩ = some (.slice A l.length c) ∧ w'.cell? ⟨gs, 1, none⟩ = some (.int .i64 sv.f1) ∧ w'.cell? ⟨gs, 2, none⟩ = some (.int .i64 sv.f2)) (ds := [12]) (tf 0 13) uW rfl rfl ⟨(blk_cell HS.b4 14).trans rfl, (blk_cell HS.b0 1).trans rfl, (blk_cell HS.b0 2).trans rfl⟩ (fun hHeld => ?_)
   generalize wb.drew = wc at HS HV hHeld ⊢
   refine zR [(0,70),(1,71),(2,72),(3,73),(5,75),(7,77),(4,74),(6,76),(8,78)] 4 ?_ ?_
   refine zO 9 (tf 10 3) fun K hK => ?_
   refine zG Tryz.func69 ((nat_c _ _ _ _ HV.out (byl HBY.out) false sv.f1 sv.f2 HN.out).mono ?_)
   rintro e_ wd ⟨A1, c1, rfl, hR_, hy_, hb_⟩
   refine ⟨_, rfl, ?_⟩
   have HY1 : Aside0 (∀ x ∈ l1, 0 ≤ x ∧ x ≤ 255) := ⟨hy_⟩
   clear hy_
   replace HV := HV.rb hb_
   replace HS := HS.rw_ hR_ hb_
   clear hR_ hb_ hHeld
   refine hK.out _ _ ⟨(blk_cell HS.b4 14).trans rfl, (blk_cell HS.b0 1).trans rfl, (blk_cell HS.b0 2).trans rfl⟩ (fun hHeld => ?_)
   clear hK K
   refine zN ?_
   refine zR [(10,80),(11,81)] 1 ?_ ?_
   refine last_ (i := 12) (N := some 82) (tf 13 0) rfl rfl uW uJ (fun K hK => ?_)
   refine zG Tryz.func25 ((then_calls k q _ _ _ _ _ _ _ _ _ _ _ HS.b4).mono ?_)
   rintro e_ we ⟨rfl, hk_, hc_⟩
   refine ⟨_, rfl, ?_⟩
   obtain ⟨A2, c2, l2, ht_, hv_, hl_⟩ := thenB_row er (bytes_chg HS.r0 HS.b4 uJ hc_) (bytes_chg HV.out HS.b4 uJ hc_)
   rw [ht_] at hk_
   replace HBY : Aside0 (∀ x ∈ l2, 0 ≤ x ∧ x ≤ 255) := ⟨kL⟩
   have HL_l2 := mA hl_
   replace HV := mA hv_
   clear ht_ hv_ hl_
   replace HS := mA (HS.out.upd 4 rfl hk_ hc_)
   simp only [List.set_cons_zero, List.set_cons_succ] at HS
   clear hk_ hc_ hHeld
   refine hK.out _ _ ?_
   clear hK K
   refine zN ?_
   refine done_ uW ?_
   have k11_ := bc HS.b4 11
   go_upto_region 12 with (first
    | (go_at_call 70; refine (Opt.stamp_any Ao co q.opts _ (Kd.R_reads' (HS.out.C.rowR HO.out HOK.out)).2.2 HNC.out (by have h_ := HOL.out; omega) HOB.out).mono ?_; rintro e_ wf ⟨sp, sv2, sx, sb, rfl, hse_, hb_⟩; clear hse_; replace HV := HV.rb hb_; clear k11_; replace HS := HS.bl hb_; clear hb_; have k0_ := bc HS.b4 0))
   cases sb with
   | false =>
    have k14_ := bc HS.b4 14
    go_wp2_with (first
     | (refine zS 41 2 HS 3 ?_; clear HS; intro wg HS z_; replace HV := z_ HV; clear z_ k0_ k14_))
    refine bodyPost_ret (results_cell_row rfl _ _ _ _ _ (0, 0) _ rfl HS.b3 Tryz.underlying41 rfl uW) rfl ?_
    exact ⟨⟨_, _, _, _, _, _, _, rfl, HV.out, fun h => by rw [HG.out h, HL_l2.out]; exact (inT_p HSV.out HN.out).symm⟩, HS.out.C⟩
   | true =>
    rcases HKD.out with hk | hk
    ·exact jV
    ·exact jW
  ·skip
   have HG : Aside0 (q.kind = 2 → inG p wl q l = inT p l sl false) := ⟨fun h => by rw [← hsl]; exact inG_f (HCV.out h) (fun h => ht (by rw [hsv]; exact h.2))⟩
   have HPV := mA hsl
   have HT : Aside0 (decide (sv.f0 = 1 ∨ sv.f0 = 2 ∨ sv.f0 = 3) = false) := ⟨Bool.eq_false_iff.2 ht⟩
   clear hsl HSS HCV hsv ht
   obtain ⟨x0_, x1_, x2_, x3_, x4_⟩ := slot_c HS.b1 HU.out.L i HI.out HSV.out
   go_upto_region 6 with (first
    | (go_at_call 68; refine (takes_c sv.f0 sv.f1 sv.f2 sv.f3 sv.f4 _).mono ?_; rw [HT.out]; rintro e_ w7b ⟨rfl, hb_⟩; replace HV := HV.rb hb_; clear x0_ x1_ x2_ x3_ x4_; replace HS := HS.bl hb_; clear hb_))
   clear d0 d1 q0 q1 HSV HT HI
   replace HS := HS.dr
   replace HV := mA (Kd.R_below HV.out (below_drew1 (Below.refl w7b.heap.size w7b)))
   refine zT 10 (fun w' => w'.cell? ⟨k, 13, none⟩ = some (.pointer (some ⟨gu, 0, none⟩)) ∧ w'.cell? ⟨gu, 459, none⟩ = some (.slice Aw nw cw) ∧ Blk w' gf 89 #[.int .i64 q.frm, .int .i64 q.fp, .int .i64 p.addr, .int .i64 p.port]) ⟨(blk_cell HS.b3 13).trans rfl, (blk_cell (HU.out.chg HS.out.C HGK.out HWK.out).B 459).trans (PLN_ws HU.out.L HU.out.N.1), HS.b0⟩ fun hHeld => ?_
   generalize w7b.drew = w8 at HS HV hHeld ⊢
   refine run_ [(0, 54), (1, 55), (2, 56), (3, 57), (4, 58), (5, 59), (6, 60), (7, 61)] (fuel := 2) (a2 := ?_) rfl uW (fun _ _ _ _ _ h => h) hHeld ?_ ?_
   rotate_left
   ·exact jJ
   refine zO 8 (tf 9 1) fun K hK => ?_
   refine zG Tryz.func64 ((pick_c (HU.out.chg HS.out.C HGK.out HWK.out) q.frm q.fp p.addr p.port).mono ?_)
   rw [HPV.out]
   rintro e_ w9 ⟨rfl, hb_⟩
   refine ⟨_, rfl, ?_⟩
   replace HV := HV.rb hb_
   replace HS := HS.bl hb_
   clear hb_ hHeld
   refine hK.out _ _ ⟨(blk_cell HS.b3 13).trans rfl, (blk_cell (HU.out.chg HS.out.C HGK.out HWK.out).B 459).trans (PLN_ws HU.out.L HU.out.N.1), HS.b0⟩ (fun hHeld => ?_)
   clear hK K
   refine zN ?_
   refine zP 9 5 (tf 10 0) ?_
   refine done_ uW ?_
   clear hHeld
   rcases HPR.out with hn | ⟨i, hi, rfl⟩
   ·exact jX
   ·exact jY
theorem St.wide {S : Nat → Prop} {W w w' : World} {L : List (Nat × Nat × Array Value)} {Rs : List (Value × List Int)} {gu t : Nat} {cs : Array Value} (h : St S W w L Rs) (hc : Chg (fun j => j = gu) w w') (hb : Blk w gu t cs) (ht : t ≠ 5) (hL : ∀ x ∈ L, x.2.1 ≠ t) : St (fun j => S j ∨ j = gu) W w' L Rs :=
 ⟨(h.C.mono (fun _ h => Or.inl h)).trans hc (fun _ _ e => Or.inr e), fun x hx => hc.blk (h.K x hx) (fun e => by
  have h1 := h.K x hx
  rw [e] at h1
  exact blk_ne h1 hb (hL x hx) rfl), fun x hx => (h.N x hx).imp Or.inl id, h.T, h.D, fun r hr => bytes_move (h.R r hr) (fun k hk => hc.block k (Kd.R_lt (h.R r hr) k hk) (fun e => Kd.R_ne (h.R r hr) hb (Ne.symm ht) (by rw [hk, e]))), h.E⟩
def makeV (p : PL) (q : PK) (i : Int) : Int := (cookie_Make.f 5 p.ep p.k1 p.k2 p.k3 p.k4 p.k5 p.k6 q.kind q.dst q.tp p.addr p.port i).getD 0
theorem make_some (p : PL) (q : PK) (i : Int) : cookie_Make.f 5 p.ep p.k1 p.k2 p.k3 p.k4 p.k5 p.k6 q.kind q.dst q.tp p.addr p.port i = some (makeV p q i) := by
 have h : ∃ r, cookie_Make.f 5 p.ep p.k1 p.k2 p.k3 p.k4 p.k5 p.k6 q.kind q.dst q.tp p.addr p.port i = some r := by
  unfold cookie_Make.f
  rw [cookie_turn.f, Option.bind_some, (veil_some ..).1, Option.bind_some, tag_some, Option.bind_some, cookie_parts_number.f, cookie_tagBits.f]
  split
  ·exact ⟨_, rfl⟩
  ·exact ⟨_, rfl⟩
 obtain ⟨r, hr⟩ := h
 rw [makeV, hr, Option.getD_some]
theorem make_c (p : PL) (q : PK) (i cv : Int) (h : makeV p q i = cv) (w : World) : Calls Tryz.prog 74 #[.agg #[.int .i64 p.ep, .int .u64 p.k1, .int .u64 p.k2, .int .u64 p.k3, .int .u64 p.k4, .int .u64 p.k5, .int .u64 p.k6], .int .i64 q.kind, .agg #[.int .i64 q.dst, .int .i64 q.tp, .int .i64 p.addr, .int .i64 p.port], .int .i64 i] w fun e w' => e = .returned (.int .i64 cv) ∧ Below w.heap.size w w' :=
 cookie_Make.calls 5 _ _ _ _ _ _ _ _ _ _ _ _ _ _ w (by rw [make_some, h])
theorem pcs_ringR {w : World} {tp : Nat} {p : PL} (hb : Blk w tp 33 (pcs p)) (hp : p.sl.length = 64) : w.rangeAt tp 323 (rcells p) := fun j v hj => by
 rw [blk_cell hb, pcs_ring p hp]
 exact hj
def outG (p : PL) (q : PK) (l : List Int) (i : Int) : Int × Int × Bool × List Int :=
 let x := natF l true p.addr p.port
 let l2 := thenL x.1 x.2 l
 let y := writeF l2 20 2 (makeV p q i) 65536
 (0, -1, false, thenL y.1 y.2 l2)
theorem outG_eq {p : PL} {q : PK} {l l1 l2 l3 l4 : List Int} {i cv er er2 : Int} (hc : makeV p q i = cv) (hn : natF l true p.addr p.port = (er, l1)) (h2 : l2 = thenL er l1 l) (hn2 : writeF l2 20 2 cv 65536 = (er2, l3)) (h4 : l4 = thenL er2 l3 l2) : outG p q l i = (0, -1, false, l4) := by
 unfold outG
 subst hc
 rw [hn]
 simp only
 rw [← h2, hn2]
 simp only
 rw [← h4]
theorem pout_calls {W : World} {gu : Nat} {p : PL} {nr : List Value} {Aw : Option Addr} {nw cw : Nat} {wl : List Int} (h : UN W gu p nr (.slice Aw nw cw) wl) (k : Nat) (q : PK) (Ao Ad A : Option Addr) (co nd cd c : Nat) (l : List Int) (hK : Blk W k 77 (kc q (.slice Ao q.opts.length co) (.slice Ad nd cd) (.pointer (some ⟨gu, 0, none⟩)) (.slice A l.length c))) (hO : Bytes W 0 (.slice Ao q.opts.length co) q.opts) (hob : BY q.opts) (hol : q.opts.length ≤ 1500) (hk : q.kind = 2 ∨ q.kind = 1) (hV : Bytes W 0 (.slice A l.length c) l) (hy : BY l) (i : Nat) (hi : i < 64) : Calls Tryz.prog 30 #[.pointer (some ⟨k, 0, none⟩), .int .i64 (i : Int)] W fun e w' => outP e w' (q.kind = 2) (outG p q l (i : Int)) ∧ (∃ nr', UN w' gu p nr' (.slice Aw nw cw) wl) ∧ Chg (fun j => j = k ∨ j = gu) W w' := by
 have hu77 := Tryz.underlying77
 have hu89 := Tryz.underlying89
 have hu45 := Tryz.underlying45
 have hu70 := Tryz.underlying70
 have hu25 := Tryz.underlying25
 have hu41 := Tryz.underlying41
 have hu33 := pool33
 have hu26 := slots26
 have HU := mA h
 have HGK : Aside0 (¬ gu = k) := ⟨blk_ne h.B hK uJ⟩
 have HWK : Aside0 (∀ j, (Value.slice Aw nw cw).ownBlock = some j → ¬ j = k) := ⟨fun j hj e => Kd.R_ne h.R hK uJ (by rw [hj, e])⟩
 have HO := mA hO
 have HOK : Aside0 (∀ j, (Value.slice Ao q.opts.length co).ownBlock = some j → ¬ j = k) := ⟨fun j hj e => Kd.R_ne hO hK uJ (by rw [hj, e])⟩
 have HOB : Aside0 (∀ x ∈ q.opts, 0 ≤ x ∧ x ≤ 255) := ⟨hob⟩
 have HOL := mA hol
 have HKD := mA hk
 have HV := mA hV
 have HBY : Aside0 (∀ x ∈ l, 0 ≤ x ∧ x ≤ 255) := ⟨hy⟩
 have HS : Aside0 (St (fun j => j = k) W W [(k, 77, (kc q (.slice Ao q.opts.length co) (.slice Ad nd cd) (.pointer (some ⟨gu, 0, none⟩)) (.slice A l.length c)))] []) := ⟨(St.init _ _).own hK rfl (fun _ h => (List.not_mem_nil h).elim) uJ⟩
 have hu68 := Tryz.underlying68
 have hu67 := Tryz.underlying67
 have hu31 := Tryz.underlying31
 have hw24 : wrap64 24 = 24 := w64 uJ uJ
 clear h hK hO hob hol hk hV hy
 have HI := mA hi
 clear hi
 obtain ⟨_, hnc, _⟩ := Kd.R_reads' HO.out
 have HNC := mA hnc
 clear hnc
 obtain ⟨cv, hcv⟩ : ∃ cv, makeV p q (i : Int) = cv := ⟨_, rfl⟩
 have HCV := mA hcv
 clear hcv
 obtain ⟨er, l1, hn⟩ : ∃ er l1, natF l true p.addr p.port = (er, l1) := ⟨_, _, rfl⟩
 have HN := mA hn
 clear hn
 go_enter Tryz.func30, Tryz.ntmps30
 go_upto_region 2 with (first
  | (refine zB 4 HS (run_al41 _ _ _ rfl) ?_; clear HS; intro go w1 HS z_; replace HV := z_ HV; clear z_; have k13_ := bc HS.b1 13)
  | ((with_reducible refine zd 18 ?_); refine un_load (N := 18) rfl rfl (.tmp 17) rfl rfl (HU.out.chg HS.out.C HGK.out HWK.out).B HU.out.L ?_)
  | ((with_reducible refine zd 5 ?_); refine pl_alloc (N := 5) rfl rfl rfl ?_; intro tp hg_ w2 hbx_ hb_; replace HV := HV.rb hb_; clear k13_; replace HS := HS.nw hg_ hbx_ hb_; clear hg_ hbx_ hb_)
  | ((with_reducible refine zst 33 5 ?_); refine pl_store rfl rfl (.tmp 5) (.tmp 18) rfl rfl rfl HS.b0 (pcs_size _ zeroP_len) HU.out.L ?_; intro w3 hb_ hg_; replace HV := mA (bytes_grown HV.out HS.b0 uJ hg_); replace HS := mA (HS.out.grown 0 rfl hb_ hg_); simp only [List.set_cons_zero, List.set_cons_succ] at HS; clear hb_ hg_))
 replace HS := HS.dr
 replace HV := mA (Kd.R_below HV.out (below_drew1 (Below.refl w3.heap.size w3)))
 refine zT 25 (fun w' => w'.rangeAt tp 323 (rcells p) ∧ w'.cell? ⟨k, 0, none⟩ = some (.int .i64 q.kind) ∧ w'.cell? ⟨k, 4, none⟩ = some (.int .i64 q.dst) ∧ w'.cell? ⟨k, 6, none⟩ = some (.int .i64 q.tp) ∧ w'.cell? ⟨tp, 1, none⟩ = some (.int .i64 p.addr) ∧ w'.cell? ⟨tp, 2, none⟩ = some (.int .i64 p.port)) ⟨pcs_ringR HS.b0 HU.out.L, (blk_cell HS.b2 0).trans rfl, (blk_cell HS.b2 4).trans rfl, (blk_cell HS.b2 6).trans rfl, (blk_cell HS.b0 1).trans rfl, (blk_cell HS.b0 2).trans rfl⟩ fun hHeld => ?_
 generalize w3.drew = w4 at HS HV hHeld ⊢
 refine run_ [(0, 19), (2, 21), (3, 22), (4, 23), (5, 24), (7, 26), (8, 27), (9, 28), (10, 29), (12, 31), (13, 32), (14, 33), (15, 34), (17, 36), (19, 38), (22, 41), (1, 20), (6, 25), (11, 30), (16, 35), (18, 37), (20, 39), (21, 40)] (fuel := 2) (a2 := ?_) rfl uW (fun _ _ _ _ _ h => h) hHeld ?_ ?_
 rotate_left
 ·iterate 16
   refine Steps.on (v := ?_) (a1 := ?_) rfl rfl (by rfl) ?_ ?_ ?_
   rotate_left
   ·rintro w' ⟨s0, s1, s2, s3, s4, s5⟩
    go_simp
    with_reducible rfl
   rotate_left
   ·exact zU
  refine Steps.on (v := ?_) (a1 := ?_) rfl rfl (by rfl) ?_ ?_ ?_
  rotate_left
  ·intro w' hs
   refine (run_ring _ _ w' tp 323 p (.tmp 19) ?_ ?_ hs.1).trans ?_
   ·rfl
   ·rfl
   ·with_reducible rfl
  rotate_left
  ·exact zU
  iterate 6
   refine Steps.on (v := ?_) (a1 := ?_) rfl rfl (by rfl) ?_ ?_ ?_
   rotate_left
   ·rintro w' ⟨s0, s1, s2, s3, s4, s5⟩
    go_simp
    with_reducible rfl
   rotate_left
   ·exact zU
  exact Steps.end_
 refine zO 23 (tf 24 1) fun K hK => ?_
 refine zG Tryz.func74 ((make_c p q (i : Int) cv HCV.out _).mono ?_)
 rintro e_ w5 ⟨rfl, hb_⟩
 refine ⟨_, rfl, ?_⟩
 replace HV := HV.rb hb_
 replace HS := HS.bl hb_
 clear hb_ hHeld
 refine hK.out _ _ ⟨pcs_ringR HS.b0 HU.out.L, (blk_cell HS.b2 0).trans rfl, (blk_cell HS.b2 4).trans rfl, (blk_cell HS.b2 6).trans rfl, (blk_cell HS.b0 1).trans rfl, (blk_cell HS.b0 2).trans rfl⟩ (fun hHeld => ?_)
 clear hK K
 refine zN ?_
 refine zP 24 6 (tf 25 0) ?_
 refine done_ uW ?_
 clear hHeld
 go_upto_region 3 with fail
 replace HS := HS.dr
 replace HV := mA (Kd.R_below HV.out (below_drew1 (Below.refl w5.heap.size w5)))
 refine start_ (n := 13) (S := fun w' => w'.cell? ⟨k, 14, none⟩ = some (.slice A l.length c) ∧ w'.cell? ⟨tp, 1, none⟩ = some (.int .i64 p.addr) ∧ w'.cell? ⟨tp, 2, none⟩ = some (.int .i64 p.port)) (ds := [12]) (tf 0 13) uW rfl rfl ⟨(blk_cell HS.b2 14).trans rfl, (blk_cell HS.b0 1).trans rfl, (blk_cell HS.b0 2).trans rfl⟩ (fun hHeld => ?_)
 generalize w5.drew = w6 at HS HV hHeld ⊢
 refine zR [(0,43),(1,44),(2,45),(3,46),(5,48),(7,50),(4,47),(6,49),(8,51)] 4 ?_ ?_
 refine zO 9 (tf 10 3) fun K hK => ?_
 refine zG Tryz.func69 ((nat_c _ _ _ _ HV.out (byl HBY.out) true p.addr p.port HN.out).mono ?_)
 rintro e_ w7 ⟨A1, c1, rfl, hR_, hy_, hb_⟩
 refine ⟨_, rfl, ?_⟩
 have HY1 : Aside0 (∀ x ∈ l1, 0 ≤ x ∧ x ≤ 255) := ⟨hy_⟩
 clear hy_
 replace HV := HV.rb hb_
 replace HS := HS.rw_ hR_ hb_
 clear hR_ hb_ hHeld
 refine hK.out _ _ ⟨(blk_cell HS.b2 14).trans rfl, (blk_cell HS.b0 1).trans rfl, (blk_cell HS.b0 2).trans rfl⟩ (fun hHeld => ?_)
 clear hK K
 refine zN ?_
 refine zR [(10,53),(11,54)] 1 ?_ ?_
 refine last_ (i := 12) (N := some 55) (tf 13 0) rfl rfl uW uJ (fun K hK => ?_)
 refine zG Tryz.func25 ((then_calls k q _ _ _ _ _ _ _ _ _ _ _ HS.b2).mono ?_)
 rintro e_ w8 ⟨rfl, hk_, hc_⟩
 refine ⟨_, rfl, ?_⟩
 obtain ⟨A2, c2, l2, ht_, hv_, hl_⟩ := thenB_row er (bytes_chg HS.r0 HS.b2 uJ hc_) (bytes_chg HV.out HS.b2 uJ hc_)
 rw [ht_] at hk_
 replace HBY : Aside0 (∀ x ∈ l2, 0 ≤ x ∧ x ≤ 255) := ⟨kL⟩
 have HL_l2 := mA hl_
 replace HV := mA hv_
 clear ht_ hv_ hl_
 replace HS := mA (HS.out.upd 2 rfl hk_ hc_)
 simp only [List.set_cons_zero, List.set_cons_succ] at HS
 clear hk_ hc_ hHeld
 refine hK.out _ _ ?_
 clear hK K
 refine zN ?_
 refine done_ uW ?_
 have k0_ := bc HS.b2 0
 rcases HKD.out with hk | hk
 ·skip
  have kb : (q.kind == 2) = true := by rw [hk]; rfl
  clear hk
  obtain ⟨er2, l3, hn2⟩ : ∃ er2 l3, writeF l2 20 2 cv 65536 = (er2, l3) := ⟨_, _, rfl⟩
  have HN2 := mA hn2
  clear hn2
  have k14_ := bc HS.b2 14
  go_upto_region 10 with (first
   | (go_at_call 65; refine (write2_c _ _ _ _ HV.out (byl HBY.out) _ _ HN2.out).mono ?_; rintro e_ w9 ⟨A3, c3, rfl, hR_, hy_, hb_⟩; have HY3 : Aside0 (∀ x ∈ l3, 0 ≤ x ∧ x ≤ 255) := ⟨hy_⟩; clear hy_; replace HV := HV.rb hb_; clear k0_ k14_; replace HS := HS.rw_ hR_ hb_; clear hR_ hb_)
   | (go_at_call 25; refine (then_calls k q _ _ _ _ _ _ _ _ _ _ _ HS.b2).mono ?_; rintro e_ wa ⟨rfl, hk_, hc_⟩; obtain ⟨A4, c4, l4, ht_, hv_, hl_⟩ := thenB_row er2 (bytes_chg HS.r0 HS.b2 uJ hc_) (bytes_chg HV.out HS.b2 uJ hc_); rw [ht_] at hk_; replace HBY : Aside0 (∀ x ∈ l4, 0 ≤ x ∧ x ≤ 255) := ⟨by rw [hl_]; exact thenL_by HY3.out HBY.out⟩; have HL_l4 := mA hl_; replace HV := mA hv_; clear ht_ hv_ hl_; replace HS := mA (HS.out.upd 2 rfl hk_ hc_); simp only [List.set_cons_zero, List.set_cons_succ] at HS; clear hk_ hc_))
  have k14_ := bc HS.b2 14
  go_wp2_with (first
   | (refine zS 41 4 HS 1 ?_; clear HS; intro wb HS z_; replace HV := z_ HV; clear z_ k14_))
  refine bodyPost_ret (results_cell_row rfl _ _ _ _ _ (0, 0) _ rfl HS.b1 Tryz.underlying41 rfl uW) rfl ?_
  exact ⟨⟨_, _, _, _, _, _, _, rfl, HV.out, fun _ => (outG_eq HCV.out HN.out HL_l2.out HN2.out HL_l4.out).symm⟩, ⟨_, (HU.out.chg HS.out.C HGK.out HWK.out)⟩, HS.out.C.mono (fun _ h => Or.inl h)⟩
 ·skip
  have HK1 := mA hk
  have kb : (q.kind == 2) = false := by rw [hk]; rfl
  clear hk
  have k11_ := bc HS.b2 11
  go_upto_region 7 with (first
   | (go_at_call 70; refine (Opt.stamp_any Ao co q.opts _ (Kd.R_reads' (HS.out.C.rowR HO.out HOK.out)).2.2 HNC.out (by have h_ := HOL.out; omega) HOB.out).mono ?_; rintro e_ w9 ⟨sp, sv2, sx, sb, rfl, hse_, hb_⟩; clear hse_; replace HV := HV.rb hb_; clear k0_ k11_; replace HS := HS.bl hb_; clear hb_))
  cases sb with
  | false =>
   have k14_ := bc HS.b2 14
   go_wp2_with (first
    | (refine zS 41 4 HS 1 ?_; clear HS; intro wa HS z_; replace HV := z_ HV; clear z_ k14_))
   refine bodyPost_ret (results_cell_row rfl _ _ _ _ _ (0, 0) _ rfl HS.b1 Tryz.underlying41 rfl uW) rfl ?_
   exact ⟨⟨_, _, _, _, _, _, _, rfl, HV.out, fun h => absurd (h.symm.trans HK1.out) uJ⟩, ⟨_, (HU.out.chg HS.out.C HGK.out HWK.out)⟩, HS.out.C.mono (fun _ h => Or.inl h)⟩
  | true =>
   go_upto_region 8 with fail
   obtain ⟨pv, hpv⟩ : ∃ pv, cookie_Put.f sv2 cv = some pv := ⟨_, rfl⟩
   have HPV := mA hpv
   clear hpv
   obtain ⟨er2, l3, hn2⟩ : ∃ er2 l3, writeF l2 (wrap64 (24 + sp)) 4 (wrap64 pv) 4294967296 = (er2, l3) := ⟨_, _, rfl⟩
   have HN2 := mA hn2
   clear hn2
   replace HS := HS.dr
   replace HV := mA (Kd.R_below HV.out (below_drew1 (Below.refl w9.heap.size w9)))
   refine start_ (n := 15) (S := fun w' => w'.cell? ⟨k, 14, none⟩ = some (.slice A2 l2.length c2)) (ds := [14]) (tf 0 15) uW rfl rfl ((blk_cell HS.b2 14).trans rfl) (fun hHeld => ?_)
   generalize w9.drew = wa at HS HV hHeld ⊢
   refine run_ [(0, 84), (1, 85), (2, 86), (3, 87), (5, 89), (6, 90), (7, 91), (8, 92), (4, 88)] (fuel := 6) (a2 := ?_) rfl uW (fun _ _ _ _ _ h => h) hHeld ?_ ?_
   rotate_left
   ·iterate 9
     refine Steps.on (v := ?_) (a1 := ?_) rfl rfl (by rfl) ?_ ?_ ?_
     rotate_left
     ·exact jK
     rotate_left
     ·exact zU
    exact Steps.end_
   refine zO 9 (tf 10 5) fun K hK => ?_
   refine zG Tryz.func75 ((cookie_Put.calls sv2 cv pv _ HPV.out).mono ?_)
   rintro e_ wb ⟨rfl, hd_⟩
   refine ⟨_, rfl, ?_⟩
   have hb_ := hd_.below
   clear hd_
   replace HV := HV.rb hb_
   replace HS := HS.bl hb_
   clear hb_ hHeld
   refine hK.out _ _ ((blk_cell HS.b2 14).trans rfl) (fun hHeld => ?_)
   clear hK K
   refine zN ?_
   refine zP 10 94 (tf 11 4) ?_
   refine zO 11 (tf 12 3) fun K hK => ?_
   refine zG Tryz.func65 ((write4_c _ _ _ _ HV.out (byl HBY.out) _ _ HN2.out).mono ?_)
   rintro e_ wc ⟨A3, c3, rfl, hR_, hy_, hb_⟩
   refine ⟨_, rfl, ?_⟩
   have HY3 : Aside0 (∀ x ∈ l3, 0 ≤ x ∧ x ≤ 255) := ⟨hy_⟩
   clear hy_
   replace HV := HV.rb hb_
   replace HS := HS.rw_ hR_ hb_
   clear hR_ hb_ hHeld
   refine hK.out _ _ ((blk_cell HS.b2 14).trans rfl) (fun hHeld => ?_)
   clear hK K
   refine zN ?_
   refine zR [(12,96),(13,97)] 1 ?_ ?_
   refine last_ (i := 14) (N := some 98) (tf 15 0) rfl rfl uW uJ (fun K hK => ?_)
   refine zG Tryz.func25 ((then_calls k q _ _ _ _ _ _ _ _ _ _ _ HS.b2).mono ?_)
   rintro e_ wd ⟨rfl, hk_, hc_⟩
   refine ⟨_, rfl, ?_⟩
   obtain ⟨A4, c4, l4, ht_, hv_, hl_⟩ := thenB_row er2 (bytes_chg HS.r0 HS.b2 uJ hc_) (bytes_chg HV.out HS.b2 uJ hc_)
   rw [ht_] at hk_
   replace HBY : Aside0 (∀ x ∈ l4, 0 ≤ x ∧ x ≤ 255) := ⟨by rw [hl_]; exact thenL_by HY3.out HBY.out⟩
   have HL_l4 := mA hl_
   replace HV := mA hv_
   clear ht_ hv_ hl_
   replace HS := mA (HS.out.upd 2 rfl hk_ hc_)
   simp only [List.set_cons_zero, List.set_cons_succ] at HS
   clear hk_ hc_ hHeld
   refine hK.out _ _ ?_
   clear hK K
   refine zN ?_
   refine done_ uW ?_
   have k13_ := bc HS.b2 13
   have d0 : decide ((i : Int) < 0) = false := decide_eq_false uY
   have d1 : decide (64 ≤ (i : Int)) = false := decide_eq_false vK
   have q0 : ((i : Int) < 64) = True := eq_true vK
   have q1 : (0 ≤ (i : Int)) = True := eq_true uY
   go_upto_region 10 with (first
    | (go_at_call 76; refine (lay32_calls (HU.out.chg HS.out.C HGK.out HWK.out) i HI.out sv2).mono ?_; rintro e_ we ⟨rfl, hnr_, hc_⟩; have HUN := mA hnr_; replace HV := mA (bytes_chg HV.out (HU.out.chg HS.out.C HGK.out HWK.out).B uJ hc_); clear k13_; replace HS : Aside0 (St (fun j => j = k ∨ j = gu) W we [(tp, 33, (pcs p)), (go, 41, #[.int .i64 0, .int .i64 0, .bool false, .slice none 0 0]), (k, 77, (kc q (.slice Ao q.opts.length co) (.slice Ad nd cd) (.pointer (some ⟨gu, 0, none⟩)) (.slice A4 l4.length c4)))] [(.slice A3 l3.length c3, l3), (.slice A1 l1.length c1, l1)]) := ⟨HS.out.wide hc_ (HU.out.chg HS.out.C HGK.out HWK.out).B uJ xU⟩; clear hnr_ hc_; have k14_ := bc HS.b2 14))
   go_wp2_with (first
    | ((with_reducible refine zst 41 4 ?_); refine stm_event rfl rfl 41 (.tmp 4) (.tmp 113) rfl (cells := #[.int .i64 0, .int .i64 (-1), .bool false, .slice A4 l4.length c4]) rfl rfl HS.b1 (Nat.le_refl _) uW vN ?_; intro wf hb_ hg_; replace HUN : Aside0 (∃ nr', UN wf gu p nr' (.slice Aw nw cw) wl) := ⟨by obtain ⟨nr2, h_⟩ := HUN.out; exact ⟨nr2, h_.chg (Chg.of_grown hg_) (fun e => blk_ne h_.B HS.b1 uJ (Option.some.inj e)) (fun j hj e => Kd.R_ne h_.R HS.b1 uJ (by rw [hj, ← e]))⟩⟩; replace HV := mA (bytes_grown HV.out HS.b1 uJ hg_); clear k14_; replace HS := mA (HS.out.grown 1 rfl (by rw [show setMany #[.int .i64 0, .int .i64 0, .bool false, .slice none 0 0] 0 (#[.int .i64 0, .int .i64 (-1), .bool false, .slice A4 l4.length c4] : Array Value).toList = #[.int .i64 0, .int .i64 (-1), .bool false, .slice A4 l4.length c4] from many4 .. ] at hb_; exact hb_) hg_); simp only [List.set_cons_zero, List.set_cons_succ] at HS; clear hb_ hg_))
   refine bodyPost_ret (results_cell_row rfl _ _ _ _ _ (0, 0) _ rfl HS.b1 Tryz.underlying41 rfl uW) rfl ?_
   exact ⟨⟨_, _, _, _, _, _, _, rfl, HV.out, fun h => absurd (h.symm.trans HK1.out) uJ⟩, HUN.out, HS.out.C⟩
end Go.Proofs.YtkpfojpmigchlaaGreat.Own
