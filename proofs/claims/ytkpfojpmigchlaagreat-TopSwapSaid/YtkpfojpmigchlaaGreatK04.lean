/- Parts of the proof of TopSwap, laid together and made shorter by a program of this claim. -/
import Derived.Test.YtkpfojpmigchlaaGreatK03
import Derived.Test.YtkpfojpmigchlaaGreatK01
import Derived.Test.YtkpfojpmigchlaaGreatK02
set_option linter.unusedVariables false
set_option linter.unusedSimpArgs false
namespace Go.Proofs.YtkpfojpmigchlaaGreat.Own
open Go Go.RowKit Go.Proofs.YtkpfojpmigchlaaGreatW.PrintWords Go.Proofs.YtkpfojpmigchlaaGreatW.PrintMore Go.Proofs.YtkpfojpmigchlaaGreatW.PrintLast Go.Proofs.YtkpfojpmigchlaaGreat.Q
open Go.Proofs.YtkpfojpmigchlaaGreat.Zip
open Go.Proofs.YtkpfojpmigchlaaGreat.Zap
set_option maxHeartbeats 16000000
set_option maxRecDepth 100000
def ageF (l : List Int) : Int × List Int :=
 if (parse l).1 ≠ 0 then ((parse l).1, [])
 else if (parse l).2.life < 2 then (7, [])
 else (0, doneF (parse l).2.bare (turnF l (l.set 1 (rd l 1 - 1)) 14 0 2))
def natB (bare : Bool) (l : List Int) (a p addr port : Int) : List Int :=
 doneF bare (bodyF bare l (bodyF bare l (turnF l (pt (pt l a 4 addr) p 2 port) 14 a 4) a 4) p 2)
def natF (l : List Int) (src : Bool) (addr port : Int) : Int × List Int :=
 if (parse l).1 ≠ 0 then ((parse l).1, [])
 else if (parse l).2.kind = 3 then (2, [])
 else if ¬ (0 ≤ addr ∧ addr ≤ 4294967295 ∧ 0 ≤ port ∧ port ≤ 65535) then (14, [])
 else (0, natB (parse l).2.bare l (if src = true then 4 else 8) (if src = true then 16 else 18) addr port)
def writeB (bare : Bool) (l : List Int) (a n x : Int) : List Int := doneF bare (bodyF bare l (pt l a n x) a n)
def writeF (l : List Int) (a n x m : Int) : Int × List Int :=
 if (parse l).1 ≠ 0 then ((parse l).1, [])
 else if ¬ (0 ≤ x ∧ x < m ∧ 16 ≤ a ∧ a ≤ l.length - n) then (14, [])
 else if a < plc (parse l).2.kind + 2 ∧ plc (parse l).2.kind < a + n then (14, [])
 else (0, writeB (parse l).2.bare l a n x)
theorem plc_r (k : Int) : 18 ≤ plc k ∧ plc k ≤ 22 := by unfold plc; split <;> omega
theorem within_c (a b : Int) (w : World) : Calls Tryz.prog 91 #[.int .i64 a, .int .i64 b] w fun e w' => e = .returned (.bool (decide (0 ≤ a ∧ a ≤ b))) ∧ Below w.heap.size w w' := by
 refine (wire_within.calls a b (decide (0 ≤ a ∧ a ≤ b)) w (by
  unfold wire_within.f
  by_cases h0 : 0 ≤ a
  ·rw [if_pos h0]; simp [h0]
  ·rw [if_neg h0]; simp [h0])).mono ?_
 rintro e w' ⟨rfl, hd⟩
 exact ⟨rfl, hd.below⟩
theorem within_r (a b : Int) {r : Bool} (h : decide (0 ≤ a ∧ a ≤ b) = r) (w : World) : Calls Tryz.prog 91 #[.int .i64 a, .int .i64 b] w fun e w' => e = .returned (.bool r) ∧ Below w.heap.size w w' := by
 subst h
 exact within_c a b w
theorem age_ok (A : Option Addr) (c : Nat) (l : List Int) (W : World) (hC : Kd.C (Kd.int .u8) W A l.length l) (hc : l.length ≤ c) (hb : BY l) {p : PK} (hp : parse l = (0, p)) (h1 : ¬ p.life < 2) : Calls Tryz.prog 26 #[.slice A l.length c] W fun e w' => ∃ v, e = .returned (.tuple #[v, .int .i64 0]) ∧ Bytes w' W.heap.size v (doneF p.bare (turnF l (l.set 1 (rd l 1 - 1)) 14 0 2)) ∧ Below W.heap.size W w' := by
 have hu58 := Tryz.underlying45
 have hu125 := Tryz.underlying125
 have hz := parse_zero hp hb
 obtain ⟨ad, rfl⟩ := some_ad hC hz.2.1
 have hd_ : decide (p.life < 2) = false := decide_eq_false h1
 obtain ⟨r1_, r2_⟩ := rd_by hb 1
 have hw8 : IntKind.u8.wrap (rd l 1 - 1) = rd l 1 - 1 := by rw [show IntKind.u8.wrap (rd l 1 - 1) = (rd l 1 - 1) % 256 from by simp [IntKind.wrap, IntKind.bits, IntKind.signed]]; omega
 have hw9 : (rd l 1 - 1) % 256 = rd l 1 - 1 := by omega
 obtain ⟨b1, hb1⟩ : ∃ b1, b1 = l.set 1 (rd l 1 - 1) := ⟨_, rfl⟩
 have HB1 := mA hb1
 have HY1 : Aside0 (BY b1) := ⟨by rw [hb1]; exact hb.set _ uY uY⟩
 have HL1 : Aside0 (b1.length = l.length) := ⟨by rw [hb1, List.length_set]⟩
 have HY2 : Aside0 (BY (turnF l b1 14 0 2)) := ⟨(turnF_all uJ (by rw [HL1.out]; omega) uJ).2.2 HY1.out⟩
 rw [← hb1]
 have q1a : ((1 : Int) < (l.length : Int)) = True := eq_true uY
 have q1b : (1 < l.length) = True := eq_true uY
 clear h1 r1_ r2_ hb1
 have HZ := mA hz
 obtain ⟨k1, k2, k3, k4, k5, k6, k7, k8, k9, k10, k11, k12, k13⟩ := p
 have HP := mA hp
 have HC := mA hC
 have HCC := mA hc
 have HY := mA hb
 have HS : Aside0 (St (fun _ => False) W W [] []) := ⟨St.init _ _⟩
 clear hC hc hb hp hz
 go_enter Tryz.func26, Tryz.ntmps26
 go_upto_region 2 with (first
  | (go_at_call 60; refine (begin_ok ad c l _ (Kd.C_below HC.out HS.nb) HCC.out HY.out HP.out).mono ?_; rintro e_ w1 ⟨tn, gb, cb, Ao, no, co, Ad, nd, cd, rfl, hT_, hR_, hg_, hb_⟩; replace HS := mA (HS.out.callbr hg_ hT_ hR_ hb_ uJ); clear hg_ hT_ hR_ hb_)
  | (refine zB 5 HS (run_pk _ _ _ rfl) ?_; clear HS; intro g w2 HS z_; clear z_)
  | (refine zS 45 5 HS 0 (cells := #[.int .i64 k1, .int .i64 k2, .int .i64 k3, .int .i64 k4, .int .i64 k5, .int .i64 k6, .int .i64 k7, .int .i64 k8, .int .i64 k9, .bool k10, .int .i64 k11, .slice Ao no co, .slice Ad nd cd]) ?_; clear HS; intro w3 HS z_; clear z_))
 have c_g_1 := HS.c 0 1
 obtain ⟨d0, d1⟩ := bk2 HS.b1
 have x1 : w3.cell? ⟨gb, 1, none⟩ = some (.int .u8 (rd l 1)) := (bytes_get HS.r0 1 xC).1
 have y1 : w3.frozen? ⟨gb, 1, none⟩ = false := (bytes_get HS.r0 1 xC).2
 go_upto_region 7 with fail
 clear c_g_1 d0 d1 x1 y1
 have n_ : Aside0 (St (fun _ => False) W (w3.setCell ⟨gb, 1, none⟩ (.int .u8 (rd l 1 - 1))) [(g, 45, #[.int .i64 k1, .int .i64 k2, .int .i64 k3, .int .i64 k4, .int .i64 k5, .int .i64 k6, .int .i64 k7, .int .i64 k8, .int .i64 k9, .bool k10, .int .i64 k11, .slice Ao no co, .slice Ad nd cd]), (tn, 125, #[.slice (some ad) l.length c, .slice (some ⟨gb, 0, none⟩) l.length cb, .bool k10])] [(.slice (some ⟨gb, 0, none⟩) l.length cb, b1)]) := ⟨HS.out.rset 0 rfl (by rw [HB1.out]; exact (bytes_put HS.r0 1 _).1) (bytes_put HS.r0 1 _).2⟩
 clear HS
 generalize (w3.setCell ⟨gb, 1, none⟩ (.int .u8 (rd l 1 - 1))) = w4 at n_ ⊢
 have HS := n_
 clear n_
 go_wp2_with (first
  | (go_at_call 61; refine (turn_calls W _ ad c tn gb cb k10 l b1 HS.nb HS.b1 HS.r0 (Kd.C_below HC.out HS.nb) HCC.out xW 14 0 2 uJ xC uJ uJ uJ xC).mono ?_; rintro e_ w5 ⟨rfl, hr_, hg_⟩; replace HS := HS.rs 0 (turnF l b1 14 0 2) hg_ (hr := hr_); clear hr_ hg_)
  | (go_at_call 62; refine (done_calls W _ ad c tn gb cb k10 l (turnF l b1 14 0 2) HS.nb HS.b1 HS.r0 (Kd.C_below HC.out HS.nb) HCC.out xW xG HY2.out ).mono ?_; rintro e_ w6 ⟨rfl, hr_, hg_⟩; replace HS := HS.rs 0 (doneF k10 (turnF l b1 14 0 2)) hg_ (hr := hr_); clear hr_ hg_))
 go_ret2
 exact ⟨_, rfl, HS.out.row 0 rfl, HS.nb⟩
theorem nat_err (A : Option Addr) (c : Nat) (l : List Int) (W : World) (hC : Kd.C (Kd.int .u8) W A l.length l) (hc : l.length ≤ c) (hb : BY l) (src : Bool) (addr port : Int) {er : Int} {p : PK} (hp : parse l = (er, p)) (h0 : er ≠ 0) : Calls Tryz.prog 69 #[.slice A l.length c, .bool src, .int .i64 addr, .int .i64 port] W fun e w' => e = .returned (.tuple #[.slice none 0 0, .int .i64 er]) ∧ Below W.heap.size W w' := by
 have hu58 := Tryz.underlying45
 have hn : (er == 0) = false := beq_eq_false_iff_ne.2 h0
 have hn2 : (er != 0) = true := by simp [h0]
 have H0 := mA h0
 obtain ⟨k1, k2, k3, k4, k5, k6, k7, k8, k9, k10, k11, k12, k13⟩ := p
 have HP := mA hp
 have HC := mA hC
 have HCC := mA hc
 have HY := mA hb
 have HS : Aside0 (St (fun _ => False) W W [] []) := ⟨St.init _ _⟩
 clear hC hc hb h0 hp
 go_enter Tryz.func69, Tryz.ntmps69
 go_wp2_with (first
  | (go_at_call 60; refine (begin_err A c l _ (Kd.C_below HC.out HS.nb) HCC.out HY.out HP.out H0.out).mono ?_; rintro e_ w1 ⟨Ao, no, co, Ad, nd, cd, rfl, hb_⟩; replace HS := HS.bl hb_; clear hb_)
  | (refine zB 11 HS (run_pk _ _ _ rfl) ?_; clear HS; intro g w2 HS z_; clear z_)
  | (refine zS 45 11 HS 0 (cells := #[.int .i64 k1, .int .i64 k2, .int .i64 k3, .int .i64 k4, .int .i64 k5, .int .i64 k6, .int .i64 k7, .int .i64 k8, .int .i64 k9, .bool k10, .int .i64 k11, .slice Ao no co, .slice Ad nd cd]) ?_; clear HS; intro w3 HS z_; clear z_))
 go_ret2
 exact ⟨rfl, HS.nb⟩
theorem nat_bad (A : Option Addr) (c : Nat) (l : List Int) (W : World) (hC : Kd.C (Kd.int .u8) W A l.length l) (hc : l.length ≤ c) (hb : BY l) (src : Bool) (addr port : Int) {p : PK} (hp : parse l = (0, p)) {er : Int} (h1 : p.kind = 3 ∧ er = 2 ∨ p.kind ≠ 3 ∧ er = 14 ∧ ¬ (0 ≤ addr ∧ addr ≤ 4294967295 ∧ 0 ≤ port ∧ port ≤ 65535)) : Calls Tryz.prog 69 #[.slice A l.length c, .bool src, .int .i64 addr, .int .i64 port] W fun e w' => e = .returned (.tuple #[.slice none 0 0, .int .i64 er]) ∧ Below W.heap.size W w' := by
 have hu58 := Tryz.underlying45
 have hu125 := Tryz.underlying125
 have hz := parse_zero hp hb
 obtain ⟨ad, rfl⟩ := some_ad hC hz.2.1
 have H1 := mA h1
 clear h1
 have HZ := mA hz
 obtain ⟨k1, k2, k3, k4, k5, k6, k7, k8, k9, k10, k11, k12, k13⟩ := p
 have HP := mA hp
 have HC := mA hC
 have HCC := mA hc
 have HY := mA hb
 have HS : Aside0 (St (fun _ => False) W W [] []) := ⟨St.init _ _⟩
 clear hC hc hb hp hz
 go_enter Tryz.func69, Tryz.ntmps69
 go_upto_region 4 with (first
  | (go_at_call 60; refine (begin_ok ad c l _ (Kd.C_below HC.out HS.nb) HCC.out HY.out HP.out).mono ?_; rintro e_ w1 ⟨tn, gb, cb, Ao, no, co, Ad, nd, cd, rfl, hT_, hR_, hg_, hb_⟩; replace HS := mA (HS.out.callbr hg_ hT_ hR_ hb_ uJ); clear hg_ hT_ hR_ hb_)
  | (refine zB 11 HS (run_pk _ _ _ rfl) ?_; clear HS; intro g w2 HS z_; clear z_)
  | (refine zS 45 11 HS 0 (cells := #[.int .i64 k1, .int .i64 k2, .int .i64 k3, .int .i64 k4, .int .i64 k5, .int .i64 k6, .int .i64 k7, .int .i64 k8, .int .i64 k9, .bool k10, .int .i64 k11, .slice Ao no co, .slice Ad nd cd]) ?_; clear HS; intro w3 HS z_; clear z_))
 rcases H1.out with ⟨hk, rfl⟩ | ⟨hk, rfl, hr⟩
 ·skip
  have kb : (k1 == 3) = true := beq_iff_eq.2 hk
  clear hk H1
  have c_g_0 := HS.c 0 0
  go_wp2_with fail
  go_ret2
  exact ⟨rfl, HS.nb⟩
 ·by_cases ha : 0 ≤ addr ∧ addr ≤ 4294967295
  ·skip
   have kb : (k1 == 3) = false := beq_eq_false_iff_ne.2 hk
   have HWA : Aside0 (decide (0 ≤ addr ∧ addr ≤ 4294967295) = true) := ⟨decide_eq_true ha⟩
   have HWP : Aside0 (decide (0 ≤ port ∧ port ≤ 65535) = false) := ⟨decide_eq_false (fun h => hr ⟨ha.1, ha.2, h.1, h.2⟩)⟩
   clear hk H1 ha hr
   have c_g_0 := HS.c 0 0
   go_wp2_with (first
    | (go_at_call 91; (with_reducible refine (within_r addr 4294967295 HWA.out _).mono ?_); rintro e_ w4 ⟨rfl, hb_⟩; clear c_g_0; replace HS := HS.bl hb_; clear hb_)
    | (go_at_call 91; (with_reducible refine (within_r port 65535 HWP.out _).mono ?_); rintro e_ w5 ⟨rfl, hb_⟩; replace HS := HS.bl hb_; clear hb_))
   go_ret2
   exact ⟨rfl, HS.nb⟩
  ·skip
   have kb : (k1 == 3) = false := beq_eq_false_iff_ne.2 hk
   have HWA : Aside0 (decide (0 ≤ addr ∧ addr ≤ 4294967295) = false) := ⟨decide_eq_false ha⟩
   clear hk H1 ha hr
   have c_g_0 := HS.c 0 0
   go_wp2_with (first
    | (go_at_call 91; refine (within_r addr 4294967295 HWA.out _).mono ?_; rintro e_ w4 ⟨rfl, hb_⟩; clear c_g_0; replace HS := HS.bl hb_; clear hb_))
   go_ret2
   exact ⟨rfl, HS.nb⟩
theorem nat_ok4 (A : Option Addr) (c : Nat) (l : List Int) (W : World) (hC : Kd.C (Kd.int .u8) W A l.length l) (hc : l.length ≤ c) (hb : BY l) (addr port : Int) {p : PK} (hp : parse l = (0, p)) (hk : p.kind ≠ 3) (ha : 0 ≤ addr ∧ addr ≤ 4294967295) (hpo : 0 ≤ port ∧ port ≤ 65535) : Calls Tryz.prog 69 #[.slice A l.length c, .bool true, .int .i64 addr, .int .i64 port] W fun e w' => ∃ v, e = .returned (.tuple #[v, .int .i64 0]) ∧ Bytes w' W.heap.size v (natB p.bare l 4 16 addr port) ∧ Below W.heap.size W w' := by
 have hu58 := Tryz.underlying45
 have hu125 := Tryz.underlying125
 have hz := parse_zero hp hb
 obtain ⟨ad, rfl⟩ := some_ad hC hz.2.1
 have kb : (p.kind == 3) = false := beq_eq_false_iff_ne.2 hk
 have HWA : Aside0 (decide (0 ≤ addr ∧ addr ≤ 4294967295) = true) := ⟨decide_eq_true ha⟩
 have HWP : Aside0 (decide (0 ≤ port ∧ port ≤ 65535) = true) := ⟨decide_eq_true hpo⟩
 obtain ⟨_, p1, _, p3⟩ := put_all (l := l) (a := 4) (n := 4) addr uJ uJ uJ (by have h_ := hz.2.1; omega) uJ
 obtain ⟨b1, hb1⟩ : ∃ b1, b1 = pt l 4 4 addr := ⟨_, rfl⟩
 rw [← hb1] at p1 p3
 have HY1 : Aside0 (BY b1 ∧ b1.length = l.length) := ⟨p3 hb, p1⟩
 obtain ⟨_, q1, _, q3⟩ := put_all (l := b1) (a := 16) (n := 2) port uJ uJ uJ (by have h_ := hz.2.1; omega) uJ
 obtain ⟨b2, hb2⟩ : ∃ b2, b2 = pt b1 16 2 port := ⟨_, rfl⟩
 rw [← hb2] at q1 q3
 have HY2 : Aside0 (BY b2 ∧ b2.length = l.length) := ⟨q3 HY1.out.1, q1.trans HY1.out.2⟩
 obtain ⟨t1, _, t3⟩ := turnF_all (l := l) (b := b2) (pl := 14) (at_ := 4) (n := 4) uJ (by have h_ := hz.2.1; have h2_ := HY2.out.2; omega) uJ
 obtain ⟨b3, hb3⟩ : ∃ b3, b3 = turnF l b2 14 4 4 := ⟨_, rfl⟩
 rw [← hb3] at t1 t3
 have HY3 : Aside0 (BY b3) := ⟨t3 HY2.out.1⟩
 have HL3 : Aside0 (b3.length = l.length) := ⟨t1.trans HY2.out.2⟩
 obtain ⟨u1, _, u3⟩ := bodyF_all (bare := p.bare) (l := l) (b := b3) (at_ := 4) (n := 4) (by have h_ := hz.2.1; have h2_ := HL3.out; omega)
 obtain ⟨b4, hb4⟩ : ∃ b4, b4 = bodyF p.bare l b3 4 4 := ⟨_, rfl⟩
 rw [← hb4] at u1 u3
 have HY4 : Aside0 (BY b4) := ⟨u3 HY3.out⟩
 have HL4 : Aside0 (b4.length = l.length) := ⟨u1.trans HL3.out⟩
 obtain ⟨x1, _, x3⟩ := bodyF_all (bare := p.bare) (l := l) (b := b4) (at_ := 16) (n := 2) (by have h_ := hz.2.1; have h2_ := HL4.out; omega)
 obtain ⟨b5, hb5⟩ : ∃ b5, b5 = bodyF p.bare l b4 16 2 := ⟨_, rfl⟩
 rw [← hb5] at x1 x3
 have HY5 : Aside0 (BY b5) := ⟨x3 HY4.out⟩
 have HN : Aside0 (natB p.bare l 4 16 addr port = doneF p.bare b5) := ⟨by rw [hb5, hb4, hb3, hb2, hb1]; rfl⟩
 have HB1 := mA hb1
 have HB2 := mA hb2
 have HB3 := mA hb3
 have HB4 := mA hb4
 have HB5 := mA hb5
 clear hk ha hpo p1 p3 q1 q3 t1 t3 u1 u3 x1 x3 hb1 hb2 hb3 hb4 hb5
 have HZ := mA hz
 obtain ⟨k1, k2, k3, k4, k5, k6, k7, k8, k9, k10, k11, k12, k13⟩ := p
 have HP := mA hp
 have HC := mA hC
 have HCC := mA hc
 have HY := mA hb
 have HS : Aside0 (St (fun _ => False) W W [] []) := ⟨St.init _ _⟩
 clear hC hc hb hp hz
 go_enter Tryz.func69, Tryz.ntmps69
 go_upto_region 4 with (first
  | (go_at_call 60; refine (begin_ok ad c l _ (Kd.C_below HC.out HS.nb) HCC.out HY.out HP.out).mono ?_; rintro e_ w1 ⟨tn, gb, cb, Ao, no, co, Ad, nd, cd, rfl, hT_, hR_, hg_, hb_⟩; replace HS := mA (HS.out.callbr hg_ hT_ hR_ hb_ uJ); clear hg_ hT_ hR_ hb_)
  | (refine zB 11 HS (run_pk _ _ _ rfl) ?_; clear HS; intro g w2 HS z_; clear z_)
  | (refine zS 45 11 HS 0 (cells := #[.int .i64 k1, .int .i64 k2, .int .i64 k3, .int .i64 k4, .int .i64 k5, .int .i64 k6, .int .i64 k7, .int .i64 k8, .int .i64 k9, .bool k10, .int .i64 k11, .slice Ao no co, .slice Ad nd cd]) ?_; clear HS; intro w3 HS z_; clear z_))
 have c_g_0 := HS.c 0 0
 go_upto_region 11 with (first
  | (go_at_call 91; (with_reducible refine (within_r addr 4294967295 HWA.out _).mono ?_); rintro e_ w4 ⟨rfl, hb_⟩; clear c_g_0; replace HS := HS.bl hb_; clear hb_)
  | (go_at_call 91; (with_reducible refine (within_r port 65535 HWP.out _).mono ?_); rintro e_ w5 ⟨rfl, hb_⟩; replace HS := HS.bl hb_; clear hb_))
 obtain ⟨d0, d1⟩ := bk2 HS.b1
 go_wp2_with (first
  | (go_at_call 41; (with_reducible refine (put_c 4 4 addr uJ uJ uJ uJ xC HS.nb HS.r0).mono ?_); rintro e_ w6 ⟨rfl, hr_, hg_⟩; clear d0 d1; replace HS := HS.rs 0 b1 hg_ (hr := by rw [HB1.out]; exact hr_); clear hr_ hg_; obtain ⟨d0, d1⟩ := bk2 HS.b1)
  | (go_at_call 41; (with_reducible refine (put_c 16 2 port uJ uJ uJ uJ (by have h_ := HZ.out; have h2_ := HY1.out.2; omega) HS.nb HS.r0).mono ?_); rintro e_ w7 ⟨rfl, hr_, hg_⟩; clear d0 d1; replace HS := HS.rs 0 b2 hg_ (hr := by rw [HB2.out]; exact hr_); clear hr_ hg_; obtain ⟨d0, d1⟩ := bk2 HS.b1)
  | (go_at_call 61; refine (turn_calls W _ ad c tn gb cb k10 l b2 HS.nb HS.b1 HS.r0 (Kd.C_below HC.out HS.nb) HCC.out xW 14 4 4 uJ xC uJ uJ uJ xC).mono ?_; rintro e_ w8 ⟨rfl, hr_, hg_⟩; clear d0 d1; replace HS := HS.rs 0 b3 hg_ (hr := by rw [HB3.out]; exact hr_); clear hr_ hg_)
  | (go_at_call 97; (with_reducible refine (body_calls W _ ad c tn gb cb k10 l b3 HS.nb HS.b1 HS.r0 (Kd.C_below HC.out HS.nb) HCC.out xW xG HY3.out 4 4 uJ uJ uJ xC).mono ?_); rintro e_ w9 ⟨rfl, hr_, hg_⟩; replace HS := HS.rs 0 b4 hg_ (hr := by rw [HB4.out]; exact hr_); clear hr_ hg_)
  | (go_at_call 97; (with_reducible refine (body_calls W _ ad c tn gb cb k10 l b4 HS.nb HS.b1 HS.r0 (Kd.C_below HC.out HS.nb) HCC.out xW xG HY4.out 16 2 uJ uJ uJ xC).mono ?_); rintro e_ wa ⟨rfl, hr_, hg_⟩; replace HS := HS.rs 0 b5 hg_ (hr := by rw [HB5.out]; exact hr_); clear hr_ hg_)
  | (go_at_call 62; refine (done_calls W _ ad c tn gb cb k10 l b5 HS.nb HS.b1 HS.r0 (Kd.C_below HC.out HS.nb) HCC.out xW xG HY5.out ).mono ?_; rintro e_ wb ⟨rfl, hr_, hg_⟩; replace HS := HS.rs 0 (doneF k10 b5) hg_ (hr := hr_); clear hr_ hg_))
 go_ret2
 exact yK
theorem nat_ok8 (A : Option Addr) (c : Nat) (l : List Int) (W : World) (hC : Kd.C (Kd.int .u8) W A l.length l) (hc : l.length ≤ c) (hb : BY l) (addr port : Int) {p : PK} (hp : parse l = (0, p)) (hk : p.kind ≠ 3) (ha : 0 ≤ addr ∧ addr ≤ 4294967295) (hpo : 0 ≤ port ∧ port ≤ 65535) : Calls Tryz.prog 69 #[.slice A l.length c, .bool false, .int .i64 addr, .int .i64 port] W fun e w' => ∃ v, e = .returned (.tuple #[v, .int .i64 0]) ∧ Bytes w' W.heap.size v (natB p.bare l 8 18 addr port) ∧ Below W.heap.size W w' := by
 have hu58 := Tryz.underlying45
 have hu125 := Tryz.underlying125
 have hz := parse_zero hp hb
 obtain ⟨ad, rfl⟩ := some_ad hC hz.2.1
 have kb : (p.kind == 3) = false := beq_eq_false_iff_ne.2 hk
 have HWA : Aside0 (decide (0 ≤ addr ∧ addr ≤ 4294967295) = true) := ⟨decide_eq_true ha⟩
 have HWP : Aside0 (decide (0 ≤ port ∧ port ≤ 65535) = true) := ⟨decide_eq_true hpo⟩
 obtain ⟨_, p1, _, p3⟩ := put_all (l := l) (a := 8) (n := 4) addr uJ uJ uJ (by have h_ := hz.2.1; omega) uJ
 obtain ⟨b1, hb1⟩ : ∃ b1, b1 = pt l 8 4 addr := ⟨_, rfl⟩
 rw [← hb1] at p1 p3
 have HY1 : Aside0 (BY b1 ∧ b1.length = l.length) := ⟨p3 hb, p1⟩
 obtain ⟨_, q1, _, q3⟩ := put_all (l := b1) (a := 18) (n := 2) port uJ uJ uJ (by have h_ := hz.2.1; omega) uJ
 obtain ⟨b2, hb2⟩ : ∃ b2, b2 = pt b1 18 2 port := ⟨_, rfl⟩
 rw [← hb2] at q1 q3
 have HY2 : Aside0 (BY b2 ∧ b2.length = l.length) := ⟨q3 HY1.out.1, q1.trans HY1.out.2⟩
 obtain ⟨t1, _, t3⟩ := turnF_all (l := l) (b := b2) (pl := 14) (at_ := 8) (n := 4) uJ (by have h_ := hz.2.1; have h2_ := HY2.out.2; omega) uJ
 obtain ⟨b3, hb3⟩ : ∃ b3, b3 = turnF l b2 14 8 4 := ⟨_, rfl⟩
 rw [← hb3] at t1 t3
 have HY3 : Aside0 (BY b3) := ⟨t3 HY2.out.1⟩
 have HL3 : Aside0 (b3.length = l.length) := ⟨t1.trans HY2.out.2⟩
 obtain ⟨u1, _, u3⟩ := bodyF_all (bare := p.bare) (l := l) (b := b3) (at_ := 8) (n := 4) (by have h_ := hz.2.1; have h2_ := HL3.out; omega)
 obtain ⟨b4, hb4⟩ : ∃ b4, b4 = bodyF p.bare l b3 8 4 := ⟨_, rfl⟩
 rw [← hb4] at u1 u3
 have HY4 : Aside0 (BY b4) := ⟨u3 HY3.out⟩
 have HL4 : Aside0 (b4.length = l.length) := ⟨u1.trans HL3.out⟩
 obtain ⟨x1, _, x3⟩ := bodyF_all (bare := p.bare) (l := l) (b := b4) (at_ := 18) (n := 2) (by have h_ := hz.2.1; have h2_ := HL4.out; omega)
 obtain ⟨b5, hb5⟩ : ∃ b5, b5 = bodyF p.bare l b4 18 2 := ⟨_, rfl⟩
 rw [← hb5] at x1 x3
 have HY5 : Aside0 (BY b5) := ⟨x3 HY4.out⟩
 have HN : Aside0 (natB p.bare l 8 18 addr port = doneF p.bare b5) := ⟨by rw [hb5, hb4, hb3, hb2, hb1]; rfl⟩
 have HB1 := mA hb1
 have HB2 := mA hb2
 have HB3 := mA hb3
 have HB4 := mA hb4
 have HB5 := mA hb5
 clear hk ha hpo p1 p3 q1 q3 t1 t3 u1 u3 x1 x3 hb1 hb2 hb3 hb4 hb5
 have HZ := mA hz
 obtain ⟨k1, k2, k3, k4, k5, k6, k7, k8, k9, k10, k11, k12, k13⟩ := p
 have HP := mA hp
 have HC := mA hC
 have HCC := mA hc
 have HY := mA hb
 have HS : Aside0 (St (fun _ => False) W W [] []) := ⟨St.init _ _⟩
 clear hC hc hb hp hz
 go_enter Tryz.func69, Tryz.ntmps69
 go_upto_region 4 with (first
  | (go_at_call 60; refine (begin_ok ad c l _ (Kd.C_below HC.out HS.nb) HCC.out HY.out HP.out).mono ?_; rintro e_ w1 ⟨tn, gb, cb, Ao, no, co, Ad, nd, cd, rfl, hT_, hR_, hg_, hb_⟩; replace HS := mA (HS.out.callbr hg_ hT_ hR_ hb_ uJ); clear hg_ hT_ hR_ hb_)
  | (refine zB 11 HS (run_pk _ _ _ rfl) ?_; clear HS; intro g w2 HS z_; clear z_)
  | (refine zS 45 11 HS 0 (cells := #[.int .i64 k1, .int .i64 k2, .int .i64 k3, .int .i64 k4, .int .i64 k5, .int .i64 k6, .int .i64 k7, .int .i64 k8, .int .i64 k9, .bool k10, .int .i64 k11, .slice Ao no co, .slice Ad nd cd]) ?_; clear HS; intro w3 HS z_; clear z_))
 have c_g_0 := HS.c 0 0
 go_upto_region 11 with (first
  | (go_at_call 91; (with_reducible refine (within_r addr 4294967295 HWA.out _).mono ?_); rintro e_ w4 ⟨rfl, hb_⟩; clear c_g_0; replace HS := HS.bl hb_; clear hb_)
  | (go_at_call 91; (with_reducible refine (within_r port 65535 HWP.out _).mono ?_); rintro e_ w5 ⟨rfl, hb_⟩; replace HS := HS.bl hb_; clear hb_))
 obtain ⟨d0, d1⟩ := bk2 HS.b1
 go_wp2_with (first
  | (go_at_call 41; (with_reducible refine (put_c 8 4 addr uJ uJ uJ uJ xC HS.nb HS.r0).mono ?_); rintro e_ w6 ⟨rfl, hr_, hg_⟩; clear d0 d1; replace HS := HS.rs 0 b1 hg_ (hr := by rw [HB1.out]; exact hr_); clear hr_ hg_; obtain ⟨d0, d1⟩ := bk2 HS.b1)
  | (go_at_call 41; (with_reducible refine (put_c 18 2 port uJ uJ uJ uJ (by have h_ := HZ.out; have h2_ := HY1.out.2; omega) HS.nb HS.r0).mono ?_); rintro e_ w7 ⟨rfl, hr_, hg_⟩; clear d0 d1; replace HS := HS.rs 0 b2 hg_ (hr := by rw [HB2.out]; exact hr_); clear hr_ hg_; obtain ⟨d0, d1⟩ := bk2 HS.b1)
  | (go_at_call 61; refine (turn_calls W _ ad c tn gb cb k10 l b2 HS.nb HS.b1 HS.r0 (Kd.C_below HC.out HS.nb) HCC.out xW 14 8 4 uJ xC uJ uJ uJ xC).mono ?_; rintro e_ w8 ⟨rfl, hr_, hg_⟩; clear d0 d1; replace HS := HS.rs 0 b3 hg_ (hr := by rw [HB3.out]; exact hr_); clear hr_ hg_)
  | (go_at_call 97; (with_reducible refine (body_calls W _ ad c tn gb cb k10 l b3 HS.nb HS.b1 HS.r0 (Kd.C_below HC.out HS.nb) HCC.out xW xG HY3.out 8 4 uJ uJ uJ xC).mono ?_); rintro e_ w9 ⟨rfl, hr_, hg_⟩; replace HS := HS.rs 0 b4 hg_ (hr := by rw [HB4.out]; exact hr_); clear hr_ hg_)
  | (go_at_call 97; (with_reducible refine (body_calls W _ ad c tn gb cb k10 l b4 HS.nb HS.b1 HS.r0 (Kd.C_below HC.out HS.nb) HCC.out xW xG HY4.out 18 2 uJ uJ uJ xC).mono ?_); rintro e_ wa ⟨rfl, hr_, hg_⟩; replace HS := HS.rs 0 b5 hg_ (hr := by rw [HB5.out]; exact hr_); clear hr_ hg_)
  | (go_at_call 62; refine (done_calls W _ ad c tn gb cb k10 l b5 HS.nb HS.b1 HS.r0 (Kd.C_below HC.out HS.nb) HCC.out xW xG HY5.out ).mono ?_; rintro e_ wb ⟨rfl, hr_, hg_⟩; replace HS := HS.rs 0 (doneF k10 b5) hg_ (hr := hr_); clear hr_ hg_))
 go_ret2
 exact yK
theorem nat_calls (A : Option Addr) (c : Nat) (l : List Int) (W : World) (hC : Kd.C (Kd.int .u8) W A l.length l) (hc : l.length ≤ c) (hb : BY l) (src : Bool) (addr port : Int) : Calls Tryz.prog 69 #[.slice A l.length c, .bool src, .int .i64 addr, .int .i64 port] W fun e w' => ∃ v, e = .returned (.tuple #[v, .int .i64 (natF l src addr port).1]) ∧ Bytes w' W.heap.size v (natF l src addr port).2 ∧ Below W.heap.size W w' := by
 have hp : parse l = ((parse l).1, (parse l).2) := rfl
 by_cases h0 : (parse l).1 = 0
 ·rw [h0] at hp
  by_cases hk : (parse l).2.kind = 3
  ·refine (nat_bad A c l W hC hc hb src addr port hp (Or.inl ⟨hk, rfl⟩)).mono ?_
   rintro e w' ⟨rfl, hB⟩
   rw [show natF l src addr port = (2, []) from by unfold natF; rw [if_neg vP, if_pos hk]]
   exact yN
  ·by_cases hr : 0 ≤ addr ∧ addr ≤ 4294967295 ∧ 0 ≤ port ∧ port ≤ 65535
   ·have hf : natF l src addr port = (0, natB (parse l).2.bare l (if src = true then 4 else 8) (if src = true then 16 else 18) addr port) := by unfold natF; rw [if_neg vP, if_neg hk, if_neg (by simpa using hr)]
    rw [hf]
    cases src with
    | true =>
     refine (nat_ok4 A c l W hC hc hb addr port hp hk ⟨hr.1, hr.2.1⟩ hr.2.2).mono ?_
     rintro e w' ⟨v, rfl, hR, hB⟩
     exact ⟨_, rfl, hR, hB⟩
    | false =>
     refine (nat_ok8 A c l W hC hc hb addr port hp hk ⟨hr.1, hr.2.1⟩ hr.2.2).mono ?_
     rintro e w' ⟨v, rfl, hR, hB⟩
     exact ⟨_, rfl, hR, hB⟩
   ·refine (nat_bad A c l W hC hc hb src addr port hp (Or.inr ⟨hk, rfl, hr⟩)).mono ?_
    rintro e w' ⟨rfl, hB⟩
    rw [show natF l src addr port = (14, []) from by unfold natF; rw [if_neg vP, if_neg hk, if_pos hr]]
    exact yN
 ·refine (nat_err A c l W hC hc hb src addr port hp h0).mono ?_
  rintro e w' ⟨rfl, hB⟩
  rw [show natF l src addr port = ((parse l).1, []) from by unfold natF; rw [if_pos h0]]
  exact yN
theorem write_err (A : Option Addr) (c : Nat) (l : List Int) (W : World) (hC : Kd.C (Kd.int .u8) W A l.length l) (hc : l.length ≤ c) (hb : BY l) (a n x : Int) {er : Int} {p : PK} (hp : parse l = (er, p)) (h0 : er ≠ 0) : Calls Tryz.prog 65 #[.slice A l.length c, .int .i64 a, .int .i64 n, .int .i64 x] W fun e w' => e = .returned (.tuple #[.slice none 0 0, .int .i64 er]) ∧ Below W.heap.size W w' := by
 have hu58 := Tryz.underlying45
 have hn : (er == 0) = false := beq_eq_false_iff_ne.2 h0
 have hn2 : (er != 0) = true := by simp [h0]
 have H0 := mA h0
 obtain ⟨k1, k2, k3, k4, k5, k6, k7, k8, k9, k10, k11, k12, k13⟩ := p
 have HP := mA hp
 have HC := mA hC
 have HCC := mA hc
 have HY := mA hb
 have HS : Aside0 (St (fun _ => False) W W [] []) := ⟨St.init _ _⟩
 clear hC hc hb h0 hp
 go_enter Tryz.func65, Tryz.ntmps65
 go_wp2_with (first
  | (go_at_call 60; refine (begin_err A c l _ (Kd.C_below HC.out HS.nb) HCC.out HY.out HP.out H0.out).mono ?_; rintro e_ w1 ⟨Ao, no, co, Ad, nd, cd, rfl, hb_⟩; replace HS := HS.bl hb_; clear hb_)
  | (refine zB 11 HS (run_pk _ _ _ rfl) ?_; clear HS; intro g w2 HS z_; clear z_)
  | (refine zS 45 11 HS 0 (cells := #[.int .i64 k1, .int .i64 k2, .int .i64 k3, .int .i64 k4, .int .i64 k5, .int .i64 k6, .int .i64 k7, .int .i64 k8, .int .i64 k9, .bool k10, .int .i64 k11, .slice Ao no co, .slice Ad nd cd]) ?_; clear HS; intro w3 HS z_; clear z_))
 go_ret2
 exact ⟨rfl, HS.nb⟩
theorem write2_bad (A : Option Addr) (c : Nat) (l : List Int) (W : World) (hC : Kd.C (Kd.int .u8) W A l.length l) (hc : l.length ≤ c) (hb : BY l) (a x : Int) {p : PK} (hp : parse l = (0, p)) (h1 : ¬ (0 ≤ x ∧ x < 65536 ∧ 16 ≤ a ∧ a ≤ l.length - 2) ∨ (0 ≤ x ∧ x < 65536 ∧ 16 ≤ a ∧ a ≤ l.length - 2) ∧ a < plc p.kind + 2 ∧ plc p.kind < a + 2) : Calls Tryz.prog 65 #[.slice A l.length c, .int .i64 a, .int .i64 2, .int .i64 x] W fun e w' => e = .returned (.tuple #[.slice none 0 0, .int .i64 14]) ∧ Below W.heap.size W w' := by
 have hu58 := Tryz.underlying45
 have hu125 := Tryz.underlying125
 have hz := parse_zero hp hb
 obtain ⟨ad, rfl⟩ := some_ad hC hz.2.1
 have H1 := mA h1
 clear h1
 have hln : IntKind.i64.wrap ((l.length : Int) - 2) = (l.length : Int) - 2 := by have h_ := hz; rw [i64_w, w64 uY uY]
 have HZ := mA hz
 obtain ⟨k1, k2, k3, k4, k5, k6, k7, k8, k9, k10, k11, k12, k13⟩ := p
 have HP := mA hp
 have HC := mA hC
 have HCC := mA hc
 have HY := mA hb
 have HS : Aside0 (St (fun _ => False) W W [] []) := ⟨St.init _ _⟩
 clear hC hc hb hp hz
 go_enter Tryz.func65, Tryz.ntmps65
 go_upto_region 4 with (first
  | (go_at_call 60; refine (begin_ok ad c l _ (Kd.C_below HC.out HS.nb) HCC.out HY.out HP.out).mono ?_; rintro e_ w1 ⟨tn, gb, cb, Ao, no, co, Ad, nd, cd, rfl, hT_, hR_, hg_, hb_⟩; replace HS := mA (HS.out.callbr hg_ hT_ hR_ hb_ uJ); clear hg_ hT_ hR_ hb_)
  | (refine zB 11 HS (run_pk _ _ _ rfl) ?_; clear HS; intro g w2 HS z_; clear z_)
  | (refine zS 45 11 HS 0 (cells := #[.int .i64 k1, .int .i64 k2, .int .i64 k3, .int .i64 k4, .int .i64 k5, .int .i64 k6, .int .i64 k7, .int .i64 k8, .int .i64 k9, .bool k10, .int .i64 k11, .slice Ao no co, .slice Ad nd cd]) ?_; clear HS; intro w3 HS z_; clear z_))
 rcases (show x < 0 ∨ 0 ≤ x ∧ 65536 ≤ x ∨ 0 ≤ x ∧ x < 65536 ∧ a < 16 ∨ 0 ≤ x ∧ x < 65536 ∧ 16 ≤ a ∧ (l.length : Int) - 2 < a ∨ (0 ≤ x ∧ x < 65536 ∧ 16 ≤ a ∧ a ≤ l.length - 2) ∧ a < plc k1 + 2 ∧ plc k1 < a + 2 from by have h_ := H1.out; omega) with h1 | ⟨h1, h2⟩ | ⟨h1, h2, h3⟩ | ⟨h1, h2, h3, h4⟩ | ⟨⟨h1, h2, h3, h4⟩, h5, h6⟩
 ·exact zM
 ·skip
  have d0_ : decide (x < 0) = false := decide_eq_false uY
  have g1 : (x / 65536 == 0) = false := beq_eq_false_iff_ne.2 uY
  have g2 : (x / 65536 != 0) = true := by rw [bne, g1]; rfl
  clear H1 h1 h2
  go_wp2_with fail
  go_ret2
  exact ⟨rfl, HS.nb⟩
 ·skip
  have d0_ : decide (x < 0) = false := decide_eq_false uY
  have g1 : (x / 65536 == 0) = true := beq_iff_eq.2 uY
  have g2 : (x / 65536 != 0) = false := by rw [bne, g1]; rfl
  have d2_ : decide (a < 16) = true := decide_eq_true uY
  clear H1 h1 h2 h3
  go_wp2_with fail
  go_ret2
  exact ⟨rfl, HS.nb⟩
 ·skip
  have d0_ : decide (x < 0) = false := decide_eq_false uY
  have g1 : (x / 65536 == 0) = true := beq_iff_eq.2 uY
  have g2 : (x / 65536 != 0) = false := by rw [bne, g1]; rfl
  have d2_ : decide (a < 16) = false := decide_eq_false uY
  have d3_ : decide ((l.length : Int) - 2 < a) = true := decide_eq_true uY
  clear H1 h1 h2 h3 h4
  go_wp2_with fail
  go_ret2
  exact ⟨rfl, HS.nb⟩
 ·skip
  have d0_ : decide (x < 0) = false := decide_eq_false uY
  have g1 : (x / 65536 == 0) = true := beq_iff_eq.2 uY
  have g2 : (x / 65536 != 0) = false := by rw [bne, g1]; rfl
  have d2_ : decide (a < 16) = false := decide_eq_false uY
  have d3_ : decide ((l.length : Int) - 2 < a) = false := decide_eq_false uY
  obtain ⟨s, hs⟩ : ∃ s, s = plc k1 := ⟨_, rfl⟩
  rw [← hs] at h5 h6
  have hsr := plc_r k1
  rw [← hs] at hsr
  have hz_ := HZ.out
  have w1_ : IntKind.i64.wrap (s + 2) = s + 2 := by rw [i64_w, w64 uY uY]
  have w2_ : IntKind.i64.wrap (a + 2) = a + 2 := by rw [i64_w, w64 uY uY]
  have d5_ : decide (a < s + 2) = true := decide_eq_true h5
  have d6_ : decide (s < a + 2) = true := decide_eq_true h6
  have HSP := mA hs
  clear H1 h1 h2 h3 h4 h5 h6 hsr hz_ hs
  have c_g_0 := HS.c 0 0
  go_wp2_with (first
   | (go_at_call 43; refine (place_c k1 _).mono ?_; rintro e_ w4 ⟨rfl, hb_⟩; rw [← HSP.out]; clear c_g_0; replace HS := HS.bl hb_; clear hb_))
  go_ret2
  exact ⟨rfl, HS.nb⟩
theorem write2_ok (A : Option Addr) (c : Nat) (l : List Int) (W : World) (hC : Kd.C (Kd.int .u8) W A l.length l) (hc : l.length ≤ c) (hb : BY l) (a x : Int) {p : PK} (hp : parse l = (0, p)) (h1 : 0 ≤ x ∧ x < 65536 ∧ 16 ≤ a ∧ a ≤ l.length - 2) (h2 : ¬ (a < plc p.kind + 2 ∧ plc p.kind < a + 2)) : Calls Tryz.prog 65 #[.slice A l.length c, .int .i64 a, .int .i64 2, .int .i64 x] W fun e w' => ∃ v, e = .returned (.tuple #[v, .int .i64 0]) ∧ Bytes w' W.heap.size v (writeB p.bare l a 2 x) ∧ Below W.heap.size W w' := by
 have hu58 := Tryz.underlying45
 have hu125 := Tryz.underlying125
 have hz := parse_zero hp hb
 obtain ⟨ad, rfl⟩ := some_ad hC hz.2.1
 have hln : IntKind.i64.wrap ((l.length : Int) - 2) = (l.length : Int) - 2 := by have h_ := hz; rw [i64_w, w64 uY uY]
 obtain ⟨h3, h4, h5, h6⟩ := h1
 have hsr := plc_r p.kind
 obtain ⟨s, hs⟩ : ∃ s, s = plc p.kind := ⟨_, rfl⟩
 rw [← hs] at h2 hsr
 have w1_ : IntKind.i64.wrap (s + 2) = s + 2 := by rw [i64_w, w64 uY uY]
 have w2_ : IntKind.i64.wrap (a + 2) = a + 2 := by have h_ := hz; rw [i64_w, w64 uY uY]
 have d0_ : decide (x < 0) = false := decide_eq_false uY
 have g1 : (x / 65536 == 0) = true := beq_iff_eq.2 uY
 have g2 : (x / 65536 != 0) = false := by rw [bne, g1]; rfl
 have d2_ : decide (a < 16) = false := decide_eq_false uY
 have d3_ : decide ((l.length : Int) - 2 < a) = false := decide_eq_false uY
 obtain ⟨_, p1, p2, p3⟩ := put_all (l := l) (a := a) (n := 2) x uY uJ uJ uY (by have h_ := hz; omega)
 obtain ⟨b1, hb1⟩ : ∃ b1, b1 = pt l a 2 x := ⟨_, rfl⟩
 rw [← hb1] at p1 p3
 have HY1 : Aside0 (BY b1) := ⟨p3 hb⟩
 have HL1 : Aside0 (b1.length = l.length) := ⟨p1⟩
 obtain ⟨u1, _, u3⟩ := bodyF_all (bare := p.bare) (l := l) (b := b1) (at_ := a) (n := 2) (by have h_ := hz.2.1; have h2_ := HL1.out; omega)
 obtain ⟨b2, hb2⟩ : ∃ b2, b2 = bodyF p.bare l b1 a 2 := ⟨_, rfl⟩
 rw [← hb2] at u1 u3
 have HY2 : Aside0 (BY b2) := ⟨u3 HY1.out⟩
 have HN : Aside0 (writeB p.bare l a 2 x = doneF p.bare b2) := ⟨by rw [hb2, hb1]; rfl⟩
 have HB1 := mA hb1
 have HB2 := mA hb2
 have HSP := mA hs
 have HA : Aside0 (16 ≤ a ∧ a + 2 ≤ l.length) := ⟨qN⟩
 have H2 : Aside0 (¬ (a < s + 2 ∧ s < a + 2)) := ⟨h2⟩
 clear h2 h3 h4 h5 h6 hsr p1 p2 p3 u1 u3 hb1 hb2 hs
 have HZ := mA hz
 obtain ⟨k1, k2, k3, k4, k5, k6, k7, k8, k9, k10, k11, k12, k13⟩ := p
 have HP := mA hp
 have HC := mA hC
 have HCC := mA hc
 have HY := mA hb
 have HS : Aside0 (St (fun _ => False) W W [] []) := ⟨St.init _ _⟩
 clear hC hc hb hp hz
 go_enter Tryz.func65, Tryz.ntmps65
 go_upto_region 6 with (first
  | (go_at_call 60; refine (begin_ok ad c l _ (Kd.C_below HC.out HS.nb) HCC.out HY.out HP.out).mono ?_; rintro e_ w1 ⟨tn, gb, cb, Ao, no, co, Ad, nd, cd, rfl, hT_, hR_, hg_, hb_⟩; replace HS := mA (HS.out.callbr hg_ hT_ hR_ hb_ uJ); clear hg_ hT_ hR_ hb_)
  | (refine zB 11 HS (run_pk _ _ _ rfl) ?_; clear HS; intro g w2 HS z_; clear z_)
  | (refine zS 45 11 HS 0 (cells := #[.int .i64 k1, .int .i64 k2, .int .i64 k3, .int .i64 k4, .int .i64 k5, .int .i64 k6, .int .i64 k7, .int .i64 k8, .int .i64 k9, .bool k10, .int .i64 k11, .slice Ao no co, .slice Ad nd cd]) ?_; clear HS; intro w3 HS z_; clear z_))
 have c_g_0 := HS.c 0 0
 go_upto_region 7 with (first
  | (go_at_call 43; refine (place_c k1 _).mono ?_; rintro e_ w4 ⟨rfl, hb_⟩; rw [← show s = plc k1 from HSP.out]; clear c_g_0; replace HS := HS.bl hb_; clear hb_; obtain ⟨d0, d1⟩ := bk2 HS.b1))
 rcases (show ¬ a < s + 2 ∨ a < s + 2 ∧ ¬ s < a + 2 from by have h_ := H2.out; omega) with h7 | ⟨h7, h8⟩
 ·skip
  have d7_ : decide (a < s + 2) = false := decide_eq_false h7
  clear h7
  go_wp2_with (first
   | (go_at_call 41; refine (put_c a 2 x xF uJ uJ vL xF HS.nb HS.r0).mono ?_; rintro e_ w5 ⟨rfl, hr_, hg_⟩; clear d0 d1; replace HS := HS.rs 0 b1 hg_ (hr := by rw [HB1.out]; exact hr_); clear hr_ hg_; obtain ⟨d0, d1⟩ := bk2 HS.b1)
   | (go_at_call 97; refine (body_calls W _ ad c tn gb cb k10 l b1 HS.nb HS.b1 HS.r0 (Kd.C_below HC.out HS.nb) HCC.out xW xG HY1.out a 2 xF uJ uJ xF).mono ?_; rintro e_ w6 ⟨rfl, hr_, hg_⟩; clear d0 d1; replace HS := HS.rs 0 b2 hg_ (hr := by rw [HB2.out]; exact hr_); clear hr_ hg_)
   | (go_at_call 62; refine (done_calls W _ ad c tn gb cb k10 l b2 HS.nb HS.b1 HS.r0 (Kd.C_below HC.out HS.nb) HCC.out xW xG HY2.out ).mono ?_; rintro e_ w7 ⟨rfl, hr_, hg_⟩; replace HS := HS.rs 0 (doneF k10 b2) hg_ (hr := hr_); clear hr_ hg_))
  go_ret2
  exact yK
 ·skip
  have d7_ : decide (a < s + 2) = true := decide_eq_true h7
  have d8_ : decide (s < a + 2) = false := decide_eq_false h8
  clear h7 h8
  go_wp2_with (first
   | (go_at_call 41; refine (put_c a 2 x xF uJ uJ vL xF HS.nb HS.r0).mono ?_; rintro e_ w5 ⟨rfl, hr_, hg_⟩; clear d0 d1; replace HS := HS.rs 0 b1 hg_ (hr := by rw [HB1.out]; exact hr_); clear hr_ hg_; obtain ⟨d0, d1⟩ := bk2 HS.b1)
   | (go_at_call 97; refine (body_calls W _ ad c tn gb cb k10 l b1 HS.nb HS.b1 HS.r0 (Kd.C_below HC.out HS.nb) HCC.out xW xG HY1.out a 2 xF uJ uJ xF).mono ?_; rintro e_ w6 ⟨rfl, hr_, hg_⟩; clear d0 d1; replace HS := HS.rs 0 b2 hg_ (hr := by rw [HB2.out]; exact hr_); clear hr_ hg_)
   | (go_at_call 62; refine (done_calls W _ ad c tn gb cb k10 l b2 HS.nb HS.b1 HS.r0 (Kd.C_below HC.out HS.nb) HCC.out xW xG HY2.out ).mono ?_; rintro e_ w7 ⟨rfl, hr_, hg_⟩; replace HS := HS.rs 0 (doneF k10 b2) hg_ (hr := hr_); clear hr_ hg_))
  go_ret2
  exact yK
theorem write2_calls (A : Option Addr) (c : Nat) (l : List Int) (W : World) (hC : Kd.C (Kd.int .u8) W A l.length l) (hc : l.length ≤ c) (hb : BY l) (a x : Int) : Calls Tryz.prog 65 #[.slice A l.length c, .int .i64 a, .int .i64 2, .int .i64 x] W fun e w' => ∃ v, e = .returned (.tuple #[v, .int .i64 (writeF l a 2 x 65536).1]) ∧ Bytes w' W.heap.size v (writeF l a 2 x 65536).2 ∧ Below W.heap.size W w' := by
 have hp : parse l = ((parse l).1, (parse l).2) := rfl
 by_cases h0 : (parse l).1 = 0
 ·rw [h0] at hp
  by_cases h1 : 0 ≤ x ∧ x < 65536 ∧ 16 ≤ a ∧ a ≤ l.length - 2
  ·by_cases h2 : a < plc (parse l).2.kind + 2 ∧ plc (parse l).2.kind < a + 2
   ·refine (write2_bad A c l W hC hc hb a x hp (Or.inr ⟨h1, h2⟩)).mono ?_
    rintro e w' ⟨rfl, hB⟩
    rw [show writeF l a 2 x 65536 = (14, []) from by unfold writeF; rw [if_neg vP, if_neg wV, if_pos h2]]
    exact yN
   ·refine (write2_ok A c l W hC hc hb a x hp h1 h2).mono ?_
    rintro e w' ⟨v, rfl, hR, hB⟩
    rw [show writeF l a 2 x 65536 = (0, _) from by unfold writeF; rw [if_neg vP, if_neg wV, if_neg h2]]
    exact ⟨_, rfl, hR, hB⟩
  ·refine (write2_bad A c l W hC hc hb a x hp (Or.inl h1)).mono ?_
   rintro e w' ⟨rfl, hB⟩
   rw [show writeF l a 2 x 65536 = (14, []) from by unfold writeF; rw [if_neg vP, if_pos h1]]
   exact yN
 ·refine (write_err A c l W hC hc hb a 2 x hp h0).mono ?_
  rintro e w' ⟨rfl, hB⟩
  rw [show writeF l a 2 x 65536 = ((parse l).1, []) from by unfold writeF; rw [if_pos h0]]
  exact yN
theorem write4_bad (A : Option Addr) (c : Nat) (l : List Int) (W : World) (hC : Kd.C (Kd.int .u8) W A l.length l) (hc : l.length ≤ c) (hb : BY l) (a x : Int) {p : PK} (hp : parse l = (0, p)) (h1 : ¬ (0 ≤ x ∧ x < 4294967296 ∧ 16 ≤ a ∧ a ≤ l.length - 4) ∨ (0 ≤ x ∧ x < 4294967296 ∧ 16 ≤ a ∧ a ≤ l.length - 4) ∧ a < plc p.kind + 2 ∧ plc p.kind < a + 4) : Calls Tryz.prog 65 #[.slice A l.length c, .int .i64 a, .int .i64 4, .int .i64 x] W fun e w' => e = .returned (.tuple #[.slice none 0 0, .int .i64 14]) ∧ Below W.heap.size W w' := by
 have hu58 := Tryz.underlying45
 have hu125 := Tryz.underlying125
 have hz := parse_zero hp hb
 obtain ⟨ad, rfl⟩ := some_ad hC hz.2.1
 have H1 := mA h1
 clear h1
 have hln : IntKind.i64.wrap ((l.length : Int) - 4) = (l.length : Int) - 4 := by have h_ := hz; rw [i64_w, w64 uY uY]
 have HZ := mA hz
 obtain ⟨k1, k2, k3, k4, k5, k6, k7, k8, k9, k10, k11, k12, k13⟩ := p
 have HP := mA hp
 have HC := mA hC
 have HCC := mA hc
 have HY := mA hb
 have HS : Aside0 (St (fun _ => False) W W [] []) := ⟨St.init _ _⟩
 clear hC hc hb hp hz
 go_enter Tryz.func65, Tryz.ntmps65
 go_upto_region 4 with (first
  | (go_at_call 60; refine (begin_ok ad c l _ (Kd.C_below HC.out HS.nb) HCC.out HY.out HP.out).mono ?_; rintro e_ w1 ⟨tn, gb, cb, Ao, no, co, Ad, nd, cd, rfl, hT_, hR_, hg_, hb_⟩; replace HS := mA (HS.out.callbr hg_ hT_ hR_ hb_ uJ); clear hg_ hT_ hR_ hb_)
  | (refine zB 11 HS (run_pk _ _ _ rfl) ?_; clear HS; intro g w2 HS z_; clear z_)
  | (refine zS 45 11 HS 0 (cells := #[.int .i64 k1, .int .i64 k2, .int .i64 k3, .int .i64 k4, .int .i64 k5, .int .i64 k6, .int .i64 k7, .int .i64 k8, .int .i64 k9, .bool k10, .int .i64 k11, .slice Ao no co, .slice Ad nd cd]) ?_; clear HS; intro w3 HS z_; clear z_))
 rcases (show x < 0 ∨ 0 ≤ x ∧ 4294967296 ≤ x ∨ 0 ≤ x ∧ x < 4294967296 ∧ a < 16 ∨ 0 ≤ x ∧ x < 4294967296 ∧ 16 ≤ a ∧ (l.length : Int) - 4 < a ∨ (0 ≤ x ∧ x < 4294967296 ∧ 16 ≤ a ∧ a ≤ l.length - 4) ∧ a < plc k1 + 2 ∧ plc k1 < a + 4 from by have h_ := H1.out; omega) with h1 | ⟨h1, h2⟩ | ⟨h1, h2, h3⟩ | ⟨h1, h2, h3, h4⟩ | ⟨⟨h1, h2, h3, h4⟩, h5, h6⟩
 ·exact zM
 ·skip
  have d0_ : decide (x < 0) = false := decide_eq_false uY
  have g1 : (x / 4294967296 == 0) = false := beq_eq_false_iff_ne.2 uY
  have g2 : (x / 4294967296 != 0) = true := by rw [bne, g1]; rfl
  clear H1 h1 h2
  go_wp2_with fail
  go_ret2
  exact ⟨rfl, HS.nb⟩
 ·skip
  have d0_ : decide (x < 0) = false := decide_eq_false uY
  have g1 : (x / 4294967296 == 0) = true := beq_iff_eq.2 uY
  have g2 : (x / 4294967296 != 0) = false := by rw [bne, g1]; rfl
  have d2_ : decide (a < 16) = true := decide_eq_true uY
  clear H1 h1 h2 h3
  go_wp2_with fail
  go_ret2
  exact ⟨rfl, HS.nb⟩
 ·skip
  have d0_ : decide (x < 0) = false := decide_eq_false uY
  have g1 : (x / 4294967296 == 0) = true := beq_iff_eq.2 uY
  have g2 : (x / 4294967296 != 0) = false := by rw [bne, g1]; rfl
  have d2_ : decide (a < 16) = false := decide_eq_false uY
  have d3_ : decide ((l.length : Int) - 4 < a) = true := decide_eq_true uY
  clear H1 h1 h2 h3 h4
  go_wp2_with fail
  go_ret2
  exact ⟨rfl, HS.nb⟩
 ·skip
  have d0_ : decide (x < 0) = false := decide_eq_false uY
  have g1 : (x / 4294967296 == 0) = true := beq_iff_eq.2 uY
  have g2 : (x / 4294967296 != 0) = false := by rw [bne, g1]; rfl
  have d2_ : decide (a < 16) = false := decide_eq_false uY
  have d3_ : decide ((l.length : Int) - 4 < a) = false := decide_eq_false uY
  obtain ⟨s, hs⟩ : ∃ s, s = plc k1 := ⟨_, rfl⟩
  rw [← hs] at h5 h6
  have hsr := plc_r k1
  rw [← hs] at hsr
  have hz_ := HZ.out
  have w1_ : IntKind.i64.wrap (s + 2) = s + 2 := by rw [i64_w, w64 uY uY]
  have w2_ : IntKind.i64.wrap (a + 4) = a + 4 := by rw [i64_w, w64 uY uY]
  have d5_ : decide (a < s + 2) = true := decide_eq_true h5
  have d6_ : decide (s < a + 4) = true := decide_eq_true h6
  have HSP := mA hs
  clear H1 h1 h2 h3 h4 h5 h6 hsr hz_ hs
  have c_g_0 := HS.c 0 0
  go_wp2_with (first
   | (go_at_call 43; refine (place_c k1 _).mono ?_; rintro e_ w4 ⟨rfl, hb_⟩; rw [← HSP.out]; clear c_g_0; replace HS := HS.bl hb_; clear hb_))
  go_ret2
  exact ⟨rfl, HS.nb⟩
theorem write4_ok (A : Option Addr) (c : Nat) (l : List Int) (W : World) (hC : Kd.C (Kd.int .u8) W A l.length l) (hc : l.length ≤ c) (hb : BY l) (a x : Int) {p : PK} (hp : parse l = (0, p)) (h1 : 0 ≤ x ∧ x < 4294967296 ∧ 16 ≤ a ∧ a ≤ l.length - 4) (h2 : ¬ (a < plc p.kind + 2 ∧ plc p.kind < a + 4)) : Calls Tryz.prog 65 #[.slice A l.length c, .int .i64 a, .int .i64 4, .int .i64 x] W fun e w' => ∃ v, e = .returned (.tuple #[v, .int .i64 0]) ∧ Bytes w' W.heap.size v (writeB p.bare l a 4 x) ∧ Below W.heap.size W w' := by
 have hu58 := Tryz.underlying45
 have hu125 := Tryz.underlying125
 have hz := parse_zero hp hb
 obtain ⟨ad, rfl⟩ := some_ad hC hz.2.1
 have hln : IntKind.i64.wrap ((l.length : Int) - 4) = (l.length : Int) - 4 := by have h_ := hz; rw [i64_w, w64 uY uY]
 obtain ⟨h3, h4, h5, h6⟩ := h1
 have hsr := plc_r p.kind
 obtain ⟨s, hs⟩ : ∃ s, s = plc p.kind := ⟨_, rfl⟩
 rw [← hs] at h2 hsr
 have w1_ : IntKind.i64.wrap (s + 2) = s + 2 := by rw [i64_w, w64 uY uY]
 have w2_ : IntKind.i64.wrap (a + 4) = a + 4 := by have h_ := hz; rw [i64_w, w64 uY uY]
 have d0_ : decide (x < 0) = false := decide_eq_false uY
 have g1 : (x / 4294967296 == 0) = true := beq_iff_eq.2 uY
 have g2 : (x / 4294967296 != 0) = false := by rw [bne, g1]; rfl
 have d2_ : decide (a < 16) = false := decide_eq_false uY
 have d3_ : decide ((l.length : Int) - 4 < a) = false := decide_eq_false uY
 obtain ⟨_, p1, p2, p3⟩ := put_all (l := l) (a := a) (n := 4) x uY uJ uJ uY (by have h_ := hz; omega)
 obtain ⟨b1, hb1⟩ : ∃ b1, b1 = pt l a 4 x := ⟨_, rfl⟩
 rw [← hb1] at p1 p3
 have HY1 : Aside0 (BY b1) := ⟨p3 hb⟩
 have HL1 : Aside0 (b1.length = l.length) := ⟨p1⟩
 obtain ⟨u1, _, u3⟩ := bodyF_all (bare := p.bare) (l := l) (b := b1) (at_ := a) (n := 4) (by have h_ := hz.2.1; have h2_ := HL1.out; omega)
 obtain ⟨b2, hb2⟩ : ∃ b2, b2 = bodyF p.bare l b1 a 4 := ⟨_, rfl⟩
 rw [← hb2] at u1 u3
 have HY2 : Aside0 (BY b2) := ⟨u3 HY1.out⟩
 have HN : Aside0 (writeB p.bare l a 4 x = doneF p.bare b2) := ⟨by rw [hb2, hb1]; rfl⟩
 have HB1 := mA hb1
 have HB2 := mA hb2
 have HSP := mA hs
 have HA : Aside0 (16 ≤ a ∧ a + 4 ≤ l.length) := ⟨qN⟩
 have H2 : Aside0 (¬ (a < s + 2 ∧ s < a + 4)) := ⟨h2⟩
 clear h2 h3 h4 h5 h6 hsr p1 p2 p3 u1 u3 hb1 hb2 hs
 have HZ := mA hz
 obtain ⟨k1, k2, k3, k4, k5, k6, k7, k8, k9, k10, k11, k12, k13⟩ := p
 have HP := mA hp
 have HC := mA hC
 have HCC := mA hc
 have HY := mA hb
 have HS : Aside0 (St (fun _ => False) W W [] []) := ⟨St.init _ _⟩
 clear hC hc hb hp hz
 go_enter Tryz.func65, Tryz.ntmps65
 go_upto_region 6 with (first
  | (go_at_call 60; refine (begin_ok ad c l _ (Kd.C_below HC.out HS.nb) HCC.out HY.out HP.out).mono ?_; rintro e_ w1 ⟨tn, gb, cb, Ao, no, co, Ad, nd, cd, rfl, hT_, hR_, hg_, hb_⟩; replace HS := mA (HS.out.callbr hg_ hT_ hR_ hb_ uJ); clear hg_ hT_ hR_ hb_)
  | (refine zB 11 HS (run_pk _ _ _ rfl) ?_; clear HS; intro g w2 HS z_; clear z_)
  | (refine zS 45 11 HS 0 (cells := #[.int .i64 k1, .int .i64 k2, .int .i64 k3, .int .i64 k4, .int .i64 k5, .int .i64 k6, .int .i64 k7, .int .i64 k8, .int .i64 k9, .bool k10, .int .i64 k11, .slice Ao no co, .slice Ad nd cd]) ?_; clear HS; intro w3 HS z_; clear z_))
 have c_g_0 := HS.c 0 0
 go_upto_region 7 with (first
  | (go_at_call 43; refine (place_c k1 _).mono ?_; rintro e_ w4 ⟨rfl, hb_⟩; rw [← show s = plc k1 from HSP.out]; clear c_g_0; replace HS := HS.bl hb_; clear hb_; obtain ⟨d0, d1⟩ := bk2 HS.b1))
 rcases (show ¬ a < s + 2 ∨ a < s + 2 ∧ ¬ s < a + 4 from by have h_ := H2.out; omega) with h7 | ⟨h7, h8⟩
 ·skip
  have d7_ : decide (a < s + 2) = false := decide_eq_false h7
  clear h7
  go_wp2_with (first
   | (go_at_call 41; refine (put_c a 4 x xF uJ uJ vL xF HS.nb HS.r0).mono ?_; rintro e_ w5 ⟨rfl, hr_, hg_⟩; clear d0 d1; replace HS := HS.rs 0 b1 hg_ (hr := by rw [HB1.out]; exact hr_); clear hr_ hg_; obtain ⟨d0, d1⟩ := bk2 HS.b1)
   | (go_at_call 97; refine (body_calls W _ ad c tn gb cb k10 l b1 HS.nb HS.b1 HS.r0 (Kd.C_below HC.out HS.nb) HCC.out xW xG HY1.out a 4 xF uJ uJ xF).mono ?_; rintro e_ w6 ⟨rfl, hr_, hg_⟩; clear d0 d1; replace HS := HS.rs 0 b2 hg_ (hr := by rw [HB2.out]; exact hr_); clear hr_ hg_)
   | (go_at_call 62; refine (done_calls W _ ad c tn gb cb k10 l b2 HS.nb HS.b1 HS.r0 (Kd.C_below HC.out HS.nb) HCC.out xW xG HY2.out ).mono ?_; rintro e_ w7 ⟨rfl, hr_, hg_⟩; replace HS := HS.rs 0 (doneF k10 b2) hg_ (hr := hr_); clear hr_ hg_))
  go_ret2
  exact yK
 ·skip
  have d7_ : decide (a < s + 2) = true := decide_eq_true h7
  have d8_ : decide (s < a + 4) = false := decide_eq_false h8
  clear h7 h8
  go_wp2_with (first
   | (go_at_call 41; refine (put_c a 4 x xF uJ uJ vL xF HS.nb HS.r0).mono ?_; rintro e_ w5 ⟨rfl, hr_, hg_⟩; clear d0 d1; replace HS := HS.rs 0 b1 hg_ (hr := by rw [HB1.out]; exact hr_); clear hr_ hg_; obtain ⟨d0, d1⟩ := bk2 HS.b1)
   | (go_at_call 97; refine (body_calls W _ ad c tn gb cb k10 l b1 HS.nb HS.b1 HS.r0 (Kd.C_below HC.out HS.nb) HCC.out xW xG HY1.out a 4 xF uJ uJ xF).mono ?_; rintro e_ w6 ⟨rfl, hr_, hg_⟩; clear d0 d1; replace HS := HS.rs 0 b2 hg_ (hr := by rw [HB2.out]; exact hr_); clear hr_ hg_)
   | (go_at_call 62; refine (done_calls W _ ad c tn gb cb k10 l b2 HS.nb HS.b1 HS.r0 (Kd.C_below HC.out HS.nb) HCC.out xW xG HY2.out ).mono ?_; rintro e_ w7 ⟨rfl, hr_, hg_⟩; replace HS := HS.rs 0 (doneF k10 b2) hg_ (hr := hr_); clear hr_ hg_))
  go_ret2
  exact yK
theorem write4_calls (A : Option Addr) (c : Nat) (l : List Int) (W : World) (hC : Kd.C (Kd.int .u8) W A l.length l) (hc : l.length ≤ c) (hb : BY l) (a x : Int) : Calls Tryz.prog 65 #[.slice A l.length c, .int .i64 a, .int .i64 4, .int .i64 x] W fun e w' => ∃ v, e = .returned (.tuple #[v, .int .i64 (writeF l a 4 x 4294967296).1]) ∧ Bytes w' W.heap.size v (writeF l a 4 x 4294967296).2 ∧ Below W.heap.size W w' := by
 have hp : parse l = ((parse l).1, (parse l).2) := rfl
 by_cases h0 : (parse l).1 = 0
 ·rw [h0] at hp
  by_cases h1 : 0 ≤ x ∧ x < 4294967296 ∧ 16 ≤ a ∧ a ≤ l.length - 4
  ·by_cases h2 : a < plc (parse l).2.kind + 2 ∧ plc (parse l).2.kind < a + 4
   ·refine (write4_bad A c l W hC hc hb a x hp (Or.inr ⟨h1, h2⟩)).mono ?_
    rintro e w' ⟨rfl, hB⟩
    rw [show writeF l a 4 x 4294967296 = (14, []) from by unfold writeF; rw [if_neg vP, if_neg wV, if_pos h2]]
    exact yN
   ·refine (write4_ok A c l W hC hc hb a x hp h1 h2).mono ?_
    rintro e w' ⟨v, rfl, hR, hB⟩
    rw [show writeF l a 4 x 4294967296 = (0, _) from by unfold writeF; rw [if_neg vP, if_neg wV, if_neg h2]]
    exact ⟨_, rfl, hR, hB⟩
  ·refine (write4_bad A c l W hC hc hb a x hp (Or.inl h1)).mono ?_
   rintro e w' ⟨rfl, hB⟩
   rw [show writeF l a 4 x 4294967296 = (14, []) from by unfold writeF; rw [if_neg vP, if_pos h1]]
   exact yN
 ·refine (write_err A c l W hC hc hb a 4 x hp h0).mono ?_
  rintro e w' ⟨rfl, hB⟩
  rw [show writeF l a 4 x 4294967296 = ((parse l).1, []) from by unfold writeF; rw [if_pos h0]]
  exact yN
def ofF (l : List Int) : Int := (sum_Of.f 1000 l).getD 0
theorem of_some {l : List Int} (h : l.length ≤ 1900) : sum_Of.f 1000 l = some (ofF l) := by
 obtain ⟨r, hr⟩ := add_some (l := l) (k := 1000) uY uY
 simp only [ofF, sum_Of.f, hr, Option.bind_some, Option.getD_some]
theorem of_c {l : List Int} {A : Option Addr} {c m : Nat} {w : World} (hm : m = l.length) (hl : l.length ≤ 1900) (hC : Kd.C (Kd.int .u8) w A l.length l) (hc : l.length ≤ c) :
 Calls Tryz.prog 14 #[.slice A m c] w fun e w' => e = .returned (.int .i64 (ofF l)) ∧ Below w.heap.size w w' := by
 subst hm
 refine (sum_Of.calls 1000 A c l _ w hC hc (of_some hl)).mono ?_
 rintro e w' ⟨rfl, hd⟩
 exact ⟨rfl, hd.below⟩
def sumF (l : List Int) : List Int := (wire_summed.f l).getD []
theorem summed_some {l : List Int} (h : 24 ≤ l.length) (h2 : l.length ≤ 1600) (hk : rd l 0 = 2) : wire_summed.f l = some (sumF l) ∧ (sumF l).length ≤ 1900 := by
 have h3 : ∃ r, wire_summed.f l = some r ∧ r.length ≤ 1900 := by
  have e : wrap64 (rd l 0) = 2 := by rw [hk, w64 uJ uJ]
  have l8 : ((l.take 12).drop 4).length = 8 := by rw [List.length_drop, List.length_take]; omega
  have l16 : (l.drop 16).length = l.length - 16 := List.length_drop
  unfold wire_summed.f
  simp only [Option.bind_some, e]
  rw [if_pos uJ, if_pos uY, if_neg uJ, if_pos uJ, if_pos uY, if_pos (by simp only [List.length_replicate, l8]; decide), if_pos (by simp only [List.length_append, List.length_replicate, l8, List.length_cons, List.length_nil]; decide), if_pos uY, if_pos (by simp only [List.length_append, List.length_replicate, l8, l16, List.length_cons, List.length_nil]; omega)]
  exact ⟨_, rfl, by simp only [List.length_append, List.length_replicate, l8, l16, List.length_cons, List.length_nil]; omega⟩
 obtain ⟨r, hr, hl⟩ := h3
 have e : sumF l = r := by rw [sumF, hr]; rfl
 rw [e]
 exact ⟨hr, hl⟩
theorem summed_c {l : List Int} {A : Option Addr} {c m : Nat} {w : World} (hm : m = l.length) (h : 24 ≤ l.length) (h2 : l.length ≤ 1600) (hk : rd l 0 = 2) (hC : Kd.C (Kd.int .u8) w A l.length l) (hc : l.length ≤ c) :
 Calls Tryz.prog 42 #[.slice A m c] w fun e w' => ∃ (A2 : Option Addr) (c2 : Nat), e = .returned (.slice A2 (sumF l).length c2) ∧ (sumF l).length ≤ c2 ∧ Kd.C (Kd.int .u8) w' A2 (sumF l).length (sumF l) ∧ Below w.heap.size w w' := by
 subst hm
 refine (wire_summed.calls A c l _ w hC hc (summed_some h h2 hk).1).mono ?_
 rintro e w' ⟨v, rfl, hr, hb⟩
 obtain ⟨A2, c2, rfl, hl, hC2⟩ := Kd.R_reads hr
 exact ⟨A2, c2, rfl, hl, hC2, hb⟩
theorem front_C {base : Nat} {w : World} {g n c : Nat} {xs : List Int} (h : Bytes w base (.slice (some ⟨g, 0, none⟩) n c) xs) (m : Nat) (hm : m ≤ xs.length) : Kd.C (Kd.int .u8) w (some ⟨g, 0, none⟩) (xs.take m).length (xs.take m) := (Kd.R_reads' (Kd.R_take h hm)).2.2
def setR : List Int → Nat → List Int → List Int
 | xs, _, [] => xs
 | xs, o, y :: r => setR (xs.set o y) (o + 1) r
theorem setR_all : ∀ (ys xs : List Int) (o : Nat), (setR xs o ys).length = xs.length ∧ (BY xs → BY ys → BY (setR xs o ys)) ∧ (0 < o → rd (setR xs o ys) 0 = rd xs 0)
 | [], xs, o => ⟨rfl, fun h _ => h, fun _ => rfl⟩
 | y :: r, xs, o => by
  obtain ⟨h1, h2, h3⟩ := setR_all r (xs.set o y) (o + 1)
  refine ⟨by rw [setR, h1, List.length_set], fun hx hy => ?_, fun ho => ?_⟩
  ·have h0 := hy y List.mem_cons_self
   exact h2 (hx.set _ h0.1 h0.2) (fun x hx2 => hy x (List.mem_cons_of_mem _ hx2))
  ·rw [setR, h3 uY, rd_set_ne uY]
theorem bytes_many {base g n c : Nat} : ∀ (ys xs : List Int) (o : Nat) (w : World), Bytes w base (.slice (some ⟨g, 0, none⟩) n c) xs → Bytes (w.setCells g o (ys.map (Value.int .u8))) base (.slice (some ⟨g, 0, none⟩) n c) (setR xs o ys) ∧ Chg (fun k => (Value.slice (some ⟨g, 0, none⟩) n c).ownBlock = some k) w (w.setCells g o (ys.map (Value.int .u8)))
 | [], xs, o, w, h => ⟨h, Chg.refl _ _⟩
 | y :: r, xs, o, w, h => by
  obtain ⟨h1, h2⟩ := bytes_put h o y
  obtain ⟨h3, h4⟩ := bytes_many r (xs.set o y) (o + 1) _ h1
  exact ⟨h3, h2.trans h4 (fun _ _ h => h)⟩
def tailA (g off c : Nat) : Option Addr := if c = off then some ⟨g, 0, none⟩ else some ⟨g, off, none⟩
theorem run_sliceT (ev : Operand → Value) (o : Oper) (w : World) (x lo : Operand) (ho : o.op = .slice 39 x (some lo) none none) (g n c off : Nat) (hx : ev x = .slice (some ⟨g, 0, none⟩) n c) (hlo : ev lo = .int .i64 (off : Int)) (hn : n ≤ c) (hf : off ≤ n) :
 (execOp ev o).run Tryz.prog w = .ok (.value (.slice (tailA g off c) (n - off) (c - off))) w := by
 obtain ⟨i, hi, hz_, hsz, hb_⟩ := info_parts infoB8
 clear hz_ hb_
 have hel : Tryz.prog.elem 39 = 5 := by simp [Program.elem, Tryz.underlying39]
 have hu : Tryz.prog.underlying 39 = some (.slice (Tryz.prog.elem 39)) := by rw [hel]; exact Tryz.underlying39
 have h0 : (0 : Int) ≤ (off : Int) := Int.natCast_nonneg _
 have h1 : (off : Int) ≤ (n : Int) := Int.ofNat_le.2 hf
 have hr : (Instr.slice 39 (.slice (some ⟨g, 0, none⟩) n c) (some (.int .i64 (off : Int))) none none).run Tryz.prog w = .ok (.slice (tailA g off c) (n - off) (c - off)) w := by
  rw [run_slice_l w 39 (some ⟨g, 0, none⟩) n c hu .i64 off h0 h1, hel]
  by_cases hc : c = off
  ·simp [sizeOf, typeInfo, hi, hsz, sliced, Result.andThen, tailA, hc]
   try exact fun h => h.symm
  ·simp [sizeOf, typeInfo, hi, hsz, sliced, Result.andThen, tailA, hc, Addr.add]
   try exact fun h => h.symm
 simp [execOp, ho, hx, hlo, run_sliceAt_slice w _ _ _ _ _ hu, hr, Result.andThen]
theorem run_copyT (ev : Operand → Value) (o : Oper) (w : World) (d s : Operand) (ho : o.op = .call { callee := .builtin .copy, args := #[d, s], argTypes := #[39, 39] }) {base g n c off : Nat} {xs ys : List Int} (A : Option Addr) (m cs : Nat) (hm : m = ys.length) (hd : ev d = .slice (tailA g off c) (n - off) (c - off)) (hs : ev s = .slice A m cs)
 (hr : Bytes w base (.slice (some ⟨g, 0, none⟩) n c) xs) (hC : Kd.C (Kd.int .u8) w A ys.length ys) (hf : off + ys.length ≤ n) :
 (execOp ev o).run Tryz.prog w = .ok (.value (.int .i64 (m : Int))) (w.setCells g off (ys.map (Value.int .u8))) := by
 subst hm
 obtain ⟨hn, hnc, _⟩ := Kd.R_reads' hr
 have hrun : (Builtin.copy_ #[39, 39] o.type #[.slice (tailA g off c) (n - off) (c - off), .slice A ys.length cs]).run Tryz.prog w = .ok (goInt (ys.length : Int)) (w.setCells g off (ys.map (Value.int .u8))) := by
  rcases Nat.eq_zero_or_pos ys.length with h0 | hp
  ·obtain rfl := List.eq_nil_of_length_eq_zero h0
   exact run_copy_none (P := Tryz.prog) w 39 39 o.type 5 _ A _ _ 0 cs Tryz.underlying39 uW (Nat.zero_min _)
  ·obtain ⟨ad, rfl, hc⟩ := (Kd.reads_of_C (enc := Value.int .u8) (d := (0 : Int)) (h1 := fun _ => rfl) hC).2.2 hp
   have ht : tailA g off c = some ⟨g, off, none⟩ := by unfold tailA; rw [if_neg uY]
   rw [ht]
   have h := run_copy_cells (P := Tryz.prog) w 39 39 o.type 5 g off (n - off) (c - off) ad ys.length cs (ys.map (Value.int .u8)) Tryz.underlying39 uW (by rw [List.length_map]; exact (Nat.min_eq_left uY).symm)
    (fun j v hj => by
     rw [List.getElem?_map] at hj
     obtain ⟨y, hy, rfl⟩ := Option.map_eq_some_iff.1 hj
     have hjl := (List.getElem?_eq_some_iff.1 hy).1
     rw [hc j hjl, List.getD_eq_getElem?_getD, hy]
     rfl)
    (fun j hj => by rw [List.length_map] at hj; rw [(bytes_get hr (off + j) uY).1]; rfl)
    (fun j hj => by rw [List.length_map] at hj; exact (bytes_get hr (off + j) uY).2)
    (fun v hv => by obtain ⟨y, _, rfl⟩ := List.mem_map.1 hv; rfl)
   rw [List.length_map] at h
   exact h
 simp [execOp, ho, resolve, invoke, builtin, hd, hs, hrun, Result.andThen]
 rfl
def gram6 (life frm dst : Int) (d : List Int) : List Int :=
 let b4 := pt (pt (pt ((((List.replicate (24 + d.length) 0).set 0 2).set 1 life).set 12 0) 2 2 ((24 + d.length : Nat) : Int)) 4 4 frm) 8 4 dst
 pt b4 14 2 (ofF (b4.take 16))
def gramB (life frm dst fp tp lab : Int) (d : List Int) : List Int :=
 let b9 := setR (pt (pt (pt (gram6 life frm dst d) 16 2 fp) 18 2 tp) 20 2 lab) 24 d
 pt b9 22 2 (if ofF (sumF b9) = 0 then 65535 else ofF (sumF b9))
theorem ranges_gram (life frm dst fp tp lab : Int) (Ad : Option Addr) (cd : Nat) (d : List Int) (W : World) (hlf : 0 ≤ life ∧ life ≤ 255) (hfr : 0 ≤ frm ∧ frm ≤ 4294967295) (hds : 0 ≤ dst ∧ dst ≤ 4294967295) (hfp : 0 ≤ fp ∧ fp ≤ 65535) (htp : 0 ≤ tp ∧ tp ≤ 65535) (hlb : 0 ≤ lab ∧ lab ≤ 65535) : Calls Tryz.prog 40 #[.agg #[.int .i64 2, .int .i64 life, .int .i64 0, .int .i64 frm, .int .i64 dst, .int .i64 fp, .int .i64 tp, .int .i64 0, .int .i64 lab, .bool false, .int .i64 0, .slice none 0 0, .slice Ad d.length cd]] W fun e w' => e = .returned (.bool true) ∧ Below W.heap.size W w' := by
 have hu58 := Tryz.underlying45
 have HP := mA (And.intro hlf (And.intro hfr (And.intro hds (And.intro hfp (And.intro htp hlb)))))
 have HS : Aside0 (St (fun _ => False) W W [] []) := ⟨St.init _ _⟩
 clear hlf hfr hds hfp htp hlb
 go_enter Tryz.func40, Tryz.ntmps40
 go_wp2_with (first
  | (refine zA 1 HS ?_; clear HS; intro g w1 HS z_; clear z_; obtain ⟨c_g_0, c_g_1, c_g_2, c_g_3, c_g_4, c_g_5, c_g_6, c_g_7, c_g_8, c_g_9, c_g_10, c_g_11, c_g_12⟩ := bk13 HS.b0)
  | (go_at_call 91; (with_reducible refine (within_r life 255 (decide_eq_true HP.out.1) _).mono ?_); rintro e_ x0 ⟨rfl, hb_⟩; clear c_g_0 c_g_1 c_g_2 c_g_3 c_g_4 c_g_5 c_g_6 c_g_7 c_g_8 c_g_9 c_g_10 c_g_11 c_g_12; replace HS := HS.bl hb_; clear hb_; obtain ⟨c_g_0, c_g_1, c_g_2, c_g_3, c_g_4, c_g_5, c_g_6, c_g_7, c_g_8, c_g_9, c_g_10, c_g_11, c_g_12⟩ := bk13 HS.b0)
  | (go_at_call 91; (with_reducible refine (within_r 0 255 (decide_eq_true uJ) _).mono ?_); rintro e_ x1 ⟨rfl, hb_⟩; clear c_g_0 c_g_1 c_g_2 c_g_3 c_g_4 c_g_5 c_g_6 c_g_7 c_g_8 c_g_9 c_g_10 c_g_11 c_g_12; replace HS := HS.bl hb_; clear hb_; obtain ⟨c_g_0, c_g_1, c_g_2, c_g_3, c_g_4, c_g_5, c_g_6, c_g_7, c_g_8, c_g_9, c_g_10, c_g_11, c_g_12⟩ := bk13 HS.b0)
  | (go_at_call 91; (with_reducible refine (within_r frm 4294967295 (decide_eq_true HP.out.2.1) _).mono ?_); rintro e_ x2 ⟨rfl, hb_⟩; clear c_g_0 c_g_1 c_g_2 c_g_3 c_g_4 c_g_5 c_g_6 c_g_7 c_g_8 c_g_9 c_g_10 c_g_11 c_g_12; replace HS := HS.bl hb_; clear hb_; obtain ⟨c_g_0, c_g_1, c_g_2, c_g_3, c_g_4, c_g_5, c_g_6, c_g_7, c_g_8, c_g_9, c_g_10, c_g_11, c_g_12⟩ := bk13 HS.b0)
  | (go_at_call 91; (with_reducible refine (within_r dst 4294967295 (decide_eq_true HP.out.2.2.1) _).mono ?_); rintro e_ x3 ⟨rfl, hb_⟩; clear c_g_0 c_g_1 c_g_2 c_g_3 c_g_4 c_g_5 c_g_6 c_g_7 c_g_8 c_g_9 c_g_10 c_g_11 c_g_12; replace HS := HS.bl hb_; clear hb_; obtain ⟨c_g_0, c_g_1, c_g_2, c_g_3, c_g_4, c_g_5, c_g_6, c_g_7, c_g_8, c_g_9, c_g_10, c_g_11, c_g_12⟩ := bk13 HS.b0)
  | (go_at_call 91; (with_reducible refine (within_r fp 65535 (decide_eq_true HP.out.2.2.2.1) _).mono ?_); rintro e_ x4 ⟨rfl, hb_⟩; clear c_g_0 c_g_1 c_g_2 c_g_3 c_g_4 c_g_5 c_g_6 c_g_7 c_g_8 c_g_9 c_g_10 c_g_11 c_g_12; replace HS := HS.bl hb_; clear hb_; obtain ⟨c_g_0, c_g_1, c_g_2, c_g_3, c_g_4, c_g_5, c_g_6, c_g_7, c_g_8, c_g_9, c_g_10, c_g_11, c_g_12⟩ := bk13 HS.b0)
  | (go_at_call 91; (with_reducible refine (within_r tp 65535 (decide_eq_true HP.out.2.2.2.2.1) _).mono ?_); rintro e_ x5 ⟨rfl, hb_⟩; clear c_g_0 c_g_1 c_g_2 c_g_3 c_g_4 c_g_5 c_g_6 c_g_7 c_g_8 c_g_9 c_g_10 c_g_11 c_g_12; replace HS := HS.bl hb_; clear hb_; obtain ⟨c_g_0, c_g_1, c_g_2, c_g_3, c_g_4, c_g_5, c_g_6, c_g_7, c_g_8, c_g_9, c_g_10, c_g_11, c_g_12⟩ := bk13 HS.b0)
  | (go_at_call 91; (with_reducible refine (within_r lab 65535 (decide_eq_true HP.out.2.2.2.2.2) _).mono ?_); rintro e_ x6 ⟨rfl, hb_⟩; clear c_g_0 c_g_1 c_g_2 c_g_3 c_g_4 c_g_5 c_g_6 c_g_7 c_g_8 c_g_9 c_g_10 c_g_11 c_g_12; replace HS := HS.bl hb_; clear hb_; obtain ⟨c_g_0, c_g_1, c_g_2, c_g_3, c_g_4, c_g_5, c_g_6, c_g_7, c_g_8, c_g_9, c_g_10, c_g_11, c_g_12⟩ := bk13 HS.b0))
 go_ret
 exact ⟨rfl, HS.nb⟩
theorem build_gram (life frm dst fp tp lab : Int) (Ad : Option Addr) (cd : Nat) (d : List Int) (W : World) (hd : Kd.C (Kd.int .u8) W Ad d.length d) (hcd : d.length ≤ cd) (hdl : d.length ≤ 100) (hdy : BY d) (hlf : 0 ≤ life ∧ life ≤ 255) (hfr : 0 ≤ frm ∧ frm ≤ 4294967295) (hds : 0 ≤ dst ∧ dst ≤ 4294967295) (hfp : 0 ≤ fp ∧ fp ≤ 65535) (htp : 0 ≤ tp ∧ tp ≤ 65535) (hlb : 0 ≤ lab ∧ lab ≤ 65535) : Calls Tryz.prog 12 #[.agg #[.int .i64 2, .int .i64 life, .int .i64 0, .int .i64 frm, .int .i64 dst, .int .i64 fp, .int .i64 tp, .int .i64 0, .int .i64 lab, .bool false, .int .i64 0, .slice none 0 0, .slice Ad d.length cd]] W fun e w' => ∃ v, e = .returned (.tuple #[v, .int .i64 0]) ∧ Bytes w' W.heap.size v (gramB life frm dst fp tp lab d) ∧ BY (gramB life frm dst fp tp lab d) ∧ rd (gramB life frm dst fp tp lab d) 0 = 2 ∧ Below W.heap.size W w' := by
 have hu58 := Tryz.underlying45
 have HP := mA (And.intro hlf (And.intro hfr (And.intro hds (And.intro hfp (And.intro htp hlb)))))
 obtain ⟨N, hN⟩ : ∃ N, N = 24 + d.length := ⟨_, rfl⟩
 have HN := mA hN
 have HDL := mA hdl
 have hw1 : IntKind.i64.wrap (24 + (d.length : Int)) = (N : Int) := by rw [i64_w, w64 uY uY]; omega
 have hw2 : IntKind.i64.wrap ((N : Int) - (d.length : Int)) = 24 := by rw [i64_w, w64 uY uY]; omega
 have hl8 : IntKind.u8.wrap life = life := by rw [show IntKind.u8.wrap life = life % 256 from by simp [IntKind.wrap, IntKind.bits, IntKind.signed]]; omega
 have hg_ : decide (1500 < (N : Int)) = false := decide_eq_false uY
 have q0a : ((0 : Int) < (N : Int)) = True := eq_true uY
 have q0b : (0 < N) = True := eq_true uY
 have q1a : ((1 : Int) < (N : Int)) = True := eq_true uY
 have q1b : (1 < N) = True := eq_true uY
 have q12a : ((12 : Int) < (N : Int)) = True := eq_true uY
 have q12b : (12 < N) = True := eq_true uY
 obtain ⟨b1, hb1⟩ : ∃ b1, b1 = (((List.replicate N (0 : Int)).set 0 2).set 1 life).set 12 0 := ⟨_, rfl⟩
 have HB1 := mA hb1
 have HF1 : Aside0 (b1.length = N ∧ BY b1 ∧ rd b1 0 = 2) := ⟨by rw [hb1]; refine ⟨by simp, (((BY.set (BY.set (fun x hx => by rw [List.eq_of_mem_replicate hx]; decide) _ uJ uJ) _ uY uY).set _ uJ uJ)), ?_⟩; rw [rd_set_ne uJ, rd_set_ne uJ]; unfold rd; rw [List.getD_eq_getElem?_getD]; show ((List.replicate N (0 : Int)).set 0 2)[0]?.getD 0 = 2; rw [List.getElem?_set_self wN]; rfl⟩
 clear hb1
 obtain ⟨b2, hb2⟩ : ∃ b2, b2 = pt b1 2 2 ((N : Int)) := ⟨_, rfl⟩
 have HB2 := mA hb2
 have HF2 : Aside0 (b2.length = N ∧ BY b2 ∧ rd b2 0 = 2) := ⟨by rw [hb2]; obtain ⟨_, p1, p2, p3⟩ := put_all (l := b1) (a := 2) (n := 2) ((N : Int)) uJ uJ uJ (by have h_ := HF1.out.1; omega) uJ; exact ⟨p1.trans HF1.out.1, p3 HF1.out.2.1, (p2 0 uJ uJ).trans HF1.out.2.2⟩⟩
 clear hb2
 obtain ⟨b3, hb3⟩ : ∃ b3, b3 = pt b2 4 4 (frm) := ⟨_, rfl⟩
 have HB3 := mA hb3
 have HF3 : Aside0 (b3.length = N ∧ BY b3 ∧ rd b3 0 = 2) := ⟨by rw [hb3]; obtain ⟨_, p1, p2, p3⟩ := put_all (l := b2) (a := 4) (n := 4) (frm) uJ uJ uJ (by have h_ := HF2.out.1; omega) uJ; exact ⟨p1.trans HF2.out.1, p3 HF2.out.2.1, (p2 0 uJ uJ).trans HF2.out.2.2⟩⟩
 clear hb3
 obtain ⟨b4, hb4⟩ : ∃ b4, b4 = pt b3 8 4 (dst) := ⟨_, rfl⟩
 have HB4 := mA hb4
 have HF4 : Aside0 (b4.length = N ∧ BY b4 ∧ rd b4 0 = 2) := ⟨by rw [hb4]; obtain ⟨_, p1, p2, p3⟩ := put_all (l := b3) (a := 8) (n := 4) (dst) uJ uJ uJ (by have h_ := HF3.out.1; omega) uJ; exact ⟨p1.trans HF3.out.1, p3 HF3.out.2.1, (p2 0 uJ uJ).trans HF3.out.2.2⟩⟩
 clear hb4
 obtain ⟨b5, hb5⟩ : ∃ b5, b5 = pt b4 14 2 (ofF (b4.take 16)) := ⟨_, rfl⟩
 have HB5 := mA hb5
 have HF5 : Aside0 (b5.length = N ∧ BY b5 ∧ rd b5 0 = 2) := ⟨by rw [hb5]; obtain ⟨_, p1, p2, p3⟩ := put_all (l := b4) (a := 14) (n := 2) (ofF (b4.take 16)) uJ uJ uJ (by have h_ := HF4.out.1; omega) uJ; exact ⟨p1.trans HF4.out.1, p3 HF4.out.2.1, (p2 0 uJ uJ).trans HF4.out.2.2⟩⟩
 clear hb5
 obtain ⟨b6, hb6⟩ : ∃ b6, b6 = pt b5 16 2 (fp) := ⟨_, rfl⟩
 have HB6 := mA hb6
 have HF6 : Aside0 (b6.length = N ∧ BY b6 ∧ rd b6 0 = 2) := ⟨by rw [hb6]; obtain ⟨_, p1, p2, p3⟩ := put_all (l := b5) (a := 16) (n := 2) (fp) uJ uJ uJ (by have h_ := HF5.out.1; omega) uJ; exact ⟨p1.trans HF5.out.1, p3 HF5.out.2.1, (p2 0 uJ uJ).trans HF5.out.2.2⟩⟩
 clear hb6
 obtain ⟨b7, hb7⟩ : ∃ b7, b7 = pt b6 18 2 (tp) := ⟨_, rfl⟩
 have HB7 := mA hb7
 have HF7 : Aside0 (b7.length = N ∧ BY b7 ∧ rd b7 0 = 2) := ⟨by rw [hb7]; obtain ⟨_, p1, p2, p3⟩ := put_all (l := b6) (a := 18) (n := 2) (tp) uJ uJ uJ (by have h_ := HF6.out.1; omega) uJ; exact ⟨p1.trans HF6.out.1, p3 HF6.out.2.1, (p2 0 uJ uJ).trans HF6.out.2.2⟩⟩
 clear hb7
 obtain ⟨b8, hb8⟩ : ∃ b8, b8 = pt b7 20 2 (lab) := ⟨_, rfl⟩
 have HB8 := mA hb8
 have HF8 : Aside0 (b8.length = N ∧ BY b8 ∧ rd b8 0 = 2) := ⟨by rw [hb8]; obtain ⟨_, p1, p2, p3⟩ := put_all (l := b7) (a := 20) (n := 2) (lab) uJ uJ uJ (by have h_ := HF7.out.1; omega) uJ; exact ⟨p1.trans HF7.out.1, p3 HF7.out.2.1, (p2 0 uJ uJ).trans HF7.out.2.2⟩⟩
 clear hb8
 obtain ⟨b9, hb9⟩ : ∃ b9, b9 = setR b8 24 d := ⟨_, rfl⟩
 have HB9 := mA hb9
 have HF9 : Aside0 (b9.length = N ∧ BY b9 ∧ rd b9 0 = 2) := ⟨by rw [hb9]; obtain ⟨p1, p2, p3⟩ := setR_all d b8 24; exact ⟨p1.trans HF8.out.1, p2 HF8.out.2.1 hdy, (p3 uJ).trans HF8.out.2.2⟩⟩
 clear hb9
 obtain ⟨sv, hsv⟩ : ∃ sv, sv = ofF (sumF b9) := ⟨_, rfl⟩
 have HSV := mA hsv
 obtain ⟨s2, hs2⟩ : ∃ s2, s2 = if sv = 0 then (65535 : Int) else sv := ⟨_, rfl⟩
 have HS2 := mA hs2
 clear hsv hs2
 obtain ⟨b10, hb10⟩ : ∃ b10, b10 = pt b9 22 2 (s2) := ⟨_, rfl⟩
 have HB10 := mA hb10
 have HF10 : Aside0 (b10.length = N ∧ BY b10 ∧ rd b10 0 = 2) := ⟨by rw [hb10]; obtain ⟨_, p1, p2, p3⟩ := put_all (l := b9) (a := 22) (n := 2) (s2) uJ uJ uJ (by have h_ := HF9.out.1; omega) uJ; exact ⟨p1.trans HF9.out.1, p3 HF9.out.2.1, (p2 0 uJ uJ).trans HF9.out.2.2⟩⟩
 clear hb10
 have HG : Aside0 (gramB life frm dst fp tp lab d = b10) := ⟨by rw [HB10.out, HS2.out, HSV.out, HB9.out, HB8.out, HB7.out, HB6.out, HB5.out, HB4.out, HB3.out, HB2.out, HB1.out, hN]; rfl⟩
 have HC := mA hd
 have HCD := mA hcd
 rw [HG.out]
 have HS : Aside0 (St (fun _ => False) W W [] []) := ⟨St.init _ _⟩
 clear hlf hfr hds hfp htp hlb hN hd hcd hdl hdy
 go_enter Tryz.func12, Tryz.ntmps12
 go_upto_region 15 with (first
  | (refine zA 1 HS ?_; clear HS; intro g w1 HS z_; clear z_; have c_g_0 := HS.c 0 0; have c_g_3 := HS.c 0 3; have c_g_4 := HS.c 0 4; have c_g_5 := HS.c 0 5; have c_g_6 := HS.c 0 6; have c_g_8 := HS.c 0 8; have c_g_9 := HS.c 0 9; have c_g_12 := HS.c 0 12)
  | (go_at_call 39; refine (wire_known.calls 2 true _ rfl).mono ?_; rintro e_ w2 ⟨rfl, hd_⟩; have hb_ := hd_.below; clear hd_ c_g_0 c_g_3 c_g_4 c_g_5 c_g_6 c_g_8 c_g_9 c_g_12; replace HS := HS.bl hb_; clear hb_; have c_g_0 := HS.c 0 0; have c_g_3 := HS.c 0 3; have c_g_4 := HS.c 0 4; have c_g_5 := HS.c 0 5; have c_g_6 := HS.c 0 6; have c_g_8 := HS.c 0 8; have c_g_9 := HS.c 0 9; have c_g_12 := HS.c 0 12)
  | ((with_reducible refine zd 17 ?_); refine Kd.event_run rfl (run_ldpk _ _ _ _ _ (.tmp 1) rfl rfl HS.b0 rfl) ?_)
  | (go_at_call 40; refine (ranges_gram life frm dst fp tp lab Ad cd d _ HP.out.1 HP.out.2.1 HP.out.2.2.1 HP.out.2.2.2.1 HP.out.2.2.2.2.1 HP.out.2.2.2.2.2).mono ?_; rintro e_ w3 ⟨rfl, hb_⟩; clear c_g_0 c_g_3 c_g_4 c_g_5 c_g_6 c_g_8 c_g_9 c_g_12; replace HS := HS.bl hb_; clear hb_; have c_g_0 := HS.c 0 0; have c_g_3 := HS.c 0 3; have c_g_4 := HS.c 0 4; have c_g_5 := HS.c 0 5; have c_g_6 := HS.c 0 6; have c_g_8 := HS.c 0 8; have c_g_9 := HS.c 0 9; have c_g_12 := HS.c 0 12)
  | ((with_reducible refine zd 61 ?_); refine Kd.R_make (Kd.int .u8) _ 5 rfl (N := 61) rfl 39 _ _ rfl (N : Int) rfl rfl Tryz.underlying39 (.int .u8 0) 1 infoB8 rfl uJ uJ 0 (ok := fun _ => True) (okp := fun _ => True) rfl (fun _ hk => hk) trivial uY (by have h_ := HN.out; have h2_ := HDL.out; omega) (Below.refl _ _) (Nat.le_refl _) ?_; intro v5 w4 hR_ hb_ hg2_ hat_; rw [Int.toNat_natCast] at hR_; obtain ⟨gb, cb, hv_, _, _, _⟩ := Kd.R_form hR_ (by rw [List.length_replicate]; have h_ := HN.out; omega); rw [List.length_replicate] at hv_; subst hv_; clear hg2_ hat_ c_g_0 c_g_3 c_g_4 c_g_5 c_g_6 c_g_8 c_g_9 c_g_12; replace HS := HS.rw_ hR_ hb_; clear hR_ hb_; have c_g_0 := HS.c 0 0; have c_g_3 := HS.c 0 3; have c_g_4 := HS.c 0 4; have c_g_5 := HS.c 0 5; have c_g_6 := HS.c 0 6; have c_g_8 := HS.c 0 8; have c_g_9 := HS.c 0 9; have c_g_12 := HS.c 0 12))
 clear c_g_0 c_g_3 c_g_4 c_g_5 c_g_6 c_g_8 c_g_9 c_g_12
 replace HS := HS.dr
 refine zT 18 (fun w' => w'.cell? ⟨g, 0, none⟩ = some (.int .i64 2) ∧ w'.cell? ⟨g, 1, none⟩ = some (.int .i64 life) ∧ w'.cell? ⟨g, 2, none⟩ = some (.int .i64 0)) ⟨HS.c 0 0, HS.c 0 1, HS.c 0 2⟩ fun hHeld => ?_
 generalize w4.drew = w5 at HS hHeld ⊢
 refine zR [(0,62),(1,63),(2,64),(3,65),(6,68),(9,71),(4,66),(5,67),(12,74),(7,69),(8,70),(10,72),(11,73)] 5 ?_ ?_
 refine zo 13 (tf 14 4) fun K hK => ?_
 obtain ⟨hx_, hf_⟩ := bytes_get HS.r0 0 vO
 refine skip_ (w1 := (w5.setCell ⟨gb, 0, none⟩ (.int .u8 2))) (by rfl) rfl ?_ ?_
 ·go_simp
  first | done | rfl
 clear hHeld hx_ hf_
 have n_ : Aside0 (St (fun _ => False) W (w5.setCell ⟨gb, 0, none⟩ (.int .u8 2)) [(g, 45, #[.int .i64 2, .int .i64 life, .int .i64 0, .int .i64 frm, .int .i64 dst, .int .i64 fp, .int .i64 tp, .int .i64 0, .int .i64 lab, .bool false, .int .i64 0, .slice none 0 0, .slice Ad d.length cd])] [(.slice (some ⟨gb, 0, none⟩) N cb, (List.replicate N 0).set 0 2)]) := ⟨HS.out.rset 0 rfl (bytes_put HS.r0 0 _).1 (bytes_put HS.r0 0 _).2⟩
 clear HS
 generalize (w5.setCell ⟨gb, 0, none⟩ (.int .u8 2)) = w6 at n_ ⊢
 have HS := n_
 clear n_
 refine hK.out _ _ ⟨HS.c 0 0, HS.c 0 1, HS.c 0 2⟩ (fun hHeld => ?_)
 clear hK K
 refine zP 14 75 (tf 15 3) ?_
 refine zo 15 (tf 16 2) fun K hK => ?_
 obtain ⟨hx_, hf_⟩ := bytes_get HS.r0 1 vO
 refine skip_ (w1 := (w6.setCell ⟨gb, 1, none⟩ (.int .u8 life))) (by rfl) rfl ?_ ?_
 ·go_simp
  first | done | rfl
 clear hHeld hx_ hf_
 have n_ : Aside0 (St (fun _ => False) W (w6.setCell ⟨gb, 1, none⟩ (.int .u8 life)) [(g, 45, #[.int .i64 2, .int .i64 life, .int .i64 0, .int .i64 frm, .int .i64 dst, .int .i64 fp, .int .i64 tp, .int .i64 0, .int .i64 lab, .bool false, .int .i64 0, .slice none 0 0, .slice Ad d.length cd])] [(.slice (some ⟨gb, 0, none⟩) N cb, ((List.replicate N 0).set 0 2).set 1 life)]) := ⟨HS.out.rset 0 rfl (bytes_put HS.r0 1 _).1 (bytes_put HS.r0 1 _).2⟩
 clear HS
 generalize (w6.setCell ⟨gb, 1, none⟩ (.int .u8 life)) = w7 at n_ ⊢
 have HS := n_
 clear n_
 refine hK.out _ _ ⟨HS.c 0 0, HS.c 0 1, HS.c 0 2⟩ (fun hHeld => ?_)
 clear hK K
 refine zP 16 76 (tf 17 1) ?_
 refine zo 17 (tf 18 0) fun K hK => ?_
 obtain ⟨hx_, hf_⟩ := bytes_get HS.r0 12 vO
 refine skip_ (w1 := (w7.setCell ⟨gb, 12, none⟩ (.int .u8 0))) (by rfl) rfl ?_ ?_
 ·go_simp
  first | done | rfl
 clear hHeld hx_ hf_
 have n_ : Aside0 (St (fun _ => False) W (w7.setCell ⟨gb, 12, none⟩ (.int .u8 0)) [(g, 45, #[.int .i64 2, .int .i64 life, .int .i64 0, .int .i64 frm, .int .i64 dst, .int .i64 fp, .int .i64 tp, .int .i64 0, .int .i64 lab, .bool false, .int .i64 0, .slice none 0 0, .slice Ad d.length cd])] [(.slice (some ⟨gb, 0, none⟩) N cb, (((List.replicate N 0).set 0 2).set 1 life).set 12 0)]) := ⟨HS.out.rset 0 rfl (bytes_put HS.r0 12 _).1 (bytes_put HS.r0 12 _).2⟩
 clear HS
 generalize (w7.setCell ⟨gb, 12, none⟩ (.int .u8 0)) = w8 at n_ ⊢
 have HS := n_
 clear n_
 refine hK.out _ _ ⟨HS.c 0 0, HS.c 0 1, HS.c 0 2⟩ (fun hHeld => ?_)
 clear hK K
 refine done_ uW ?_
 clear hHeld
 replace HS : Aside0 (St (fun _ => False) W w8 [(g, 45, #[.int .i64 2, .int .i64 life, .int .i64 0, .int .i64 frm, .int .i64 dst, .int .i64 fp, .int .i64 tp, .int .i64 0, .int .i64 lab, .bool false, .int .i64 0, .slice none 0 0, .slice Ad d.length cd])] [(.slice (some ⟨gb, 0, none⟩) N cb, b1)]) := ⟨by rw [HB1.out]; exact HS.out⟩
 have c_g_0 := HS.c 0 0
 have c_g_3 := HS.c 0 3
 have c_g_4 := HS.c 0 4
 have c_g_5 := HS.c 0 5
 have c_g_6 := HS.c 0 6
 have c_g_8 := HS.c 0 8
 have c_g_9 := HS.c 0 9
 have c_g_12 := HS.c 0 12
 go_upto_region 19 with (first
  | (go_at_call 41; (with_reducible refine (put_c 2 2 ((N : Int)) uJ uJ uJ uJ (by have h_ := HF1.out.1; have h2_ := HN.out; omega) HS.nb HS.r0).mono ?_); rintro e_ w9 ⟨rfl, hr_, hg_⟩; clear c_g_0 c_g_3 c_g_4 c_g_5 c_g_6 c_g_8 c_g_9 c_g_12; replace HS := HS.rs 0 b2 hg_ (hr := by rw [HB2.out]; exact hr_); clear hr_ hg_; have c_g_0 := HS.c 0 0; have c_g_3 := HS.c 0 3; have c_g_4 := HS.c 0 4; have c_g_5 := HS.c 0 5; have c_g_6 := HS.c 0 6; have c_g_8 := HS.c 0 8; have c_g_9 := HS.c 0 9; have c_g_12 := HS.c 0 12)
  | (go_at_call 41; (with_reducible refine (put_c 4 4 (frm) uJ uJ uJ uJ (by have h_ := HF2.out.1; have h2_ := HN.out; omega) HS.nb HS.r0).mono ?_); rintro e_ wA ⟨rfl, hr_, hg_⟩; clear c_g_0 c_g_3 c_g_4 c_g_5 c_g_6 c_g_8 c_g_9 c_g_12; replace HS := HS.rs 0 b3 hg_ (hr := by rw [HB3.out]; exact hr_); clear hr_ hg_; have c_g_0 := HS.c 0 0; have c_g_3 := HS.c 0 3; have c_g_4 := HS.c 0 4; have c_g_5 := HS.c 0 5; have c_g_6 := HS.c 0 6; have c_g_8 := HS.c 0 8; have c_g_9 := HS.c 0 9; have c_g_12 := HS.c 0 12)
  | (go_at_call 41; (with_reducible refine (put_c 8 4 (dst) uJ uJ uJ uJ (by have h_ := HF3.out.1; have h2_ := HN.out; omega) HS.nb HS.r0).mono ?_); rintro e_ wB ⟨rfl, hr_, hg_⟩; clear c_g_0 c_g_3 c_g_4 c_g_5 c_g_6 c_g_8 c_g_9 c_g_12; replace HS := HS.rs 0 b4 hg_ (hr := by rw [HB4.out]; exact hr_); clear hr_ hg_; have c_g_0 := HS.c 0 0; have c_g_3 := HS.c 0 3; have c_g_4 := HS.c 0 4; have c_g_5 := HS.c 0 5; have c_g_6 := HS.c 0 6; have c_g_8 := HS.c 0 8; have c_g_9 := HS.c 0 9; have c_g_12 := HS.c 0 12))
 have HCB : Aside0 (N ≤ cb) := ⟨(Kd.R_reads' HS.r0).2.1⟩
 have k1_ : ((16 : Int) ≤ (cb : Int)) = True := eq_true (by have h_ := HCB.out; have h2_ := HN.out; omega)
 have k2_ : (16 ≤ cb) = True := eq_true (by have h_ := HCB.out; have h2_ := HN.out; omega)
 go_upto_region 20 with (first
  | (go_at_call 14; refine (of_c (l := b4.take 16) (by rw [List.length_take]; have h_ := HF4.out.1; have h2_ := HN.out; omega) wW (front_C HS.r0 16 (by have h_ := HF4.out.1; have h2_ := HN.out; omega)) (by rw [List.length_take]; have h_ := HCB.out; have h2_ := HN.out; omega)).mono ?_; rintro e_ wC ⟨rfl, hb_⟩; clear c_g_0 c_g_3 c_g_4 c_g_5 c_g_6 c_g_8 c_g_9 c_g_12; replace HS := HS.bl hb_; clear hb_; have c_g_0 := HS.c 0 0; have c_g_3 := HS.c 0 3; have c_g_4 := HS.c 0 4; have c_g_5 := HS.c 0 5; have c_g_6 := HS.c 0 6; have c_g_8 := HS.c 0 8; have c_g_9 := HS.c 0 9; have c_g_12 := HS.c 0 12)
  | (go_at_call 41; refine (put_c 14 2 (ofF (b4.take 16)) uJ uJ uJ uJ (by have h_ := HF4.out.1; have h2_ := HN.out; omega) HS.nb HS.r0).mono ?_; rintro e_ wD ⟨rfl, hr_, hg_⟩; clear c_g_0 c_g_3 c_g_4 c_g_5 c_g_6 c_g_8 c_g_9 c_g_12; replace HS := HS.rs 0 b5 hg_ (hr := by rw [HB5.out]; exact hr_); clear hr_ hg_; have c_g_0 := HS.c 0 0; have c_g_3 := HS.c 0 3; have c_g_4 := HS.c 0 4; have c_g_5 := HS.c 0 5; have c_g_6 := HS.c 0 6; have c_g_8 := HS.c 0 8; have c_g_9 := HS.c 0 9; have c_g_12 := HS.c 0 12))
 go_upto_region 30 with (first
  | (go_at_call 41; (with_reducible refine (put_c 16 2 (fp) uJ uJ uJ uJ (by have h_ := HF5.out.1; have h2_ := HN.out; omega) HS.nb HS.r0).mono ?_); rintro e_ wE ⟨rfl, hr_, hg_⟩; clear c_g_0 c_g_3 c_g_4 c_g_5 c_g_6 c_g_8 c_g_9 c_g_12; replace HS := HS.rs 0 b6 hg_ (hr := by rw [HB6.out]; exact hr_); clear hr_ hg_; have c_g_0 := HS.c 0 0; have c_g_3 := HS.c 0 3; have c_g_4 := HS.c 0 4; have c_g_5 := HS.c 0 5; have c_g_6 := HS.c 0 6; have c_g_8 := HS.c 0 8; have c_g_9 := HS.c 0 9; have c_g_12 := HS.c 0 12)
  | (go_at_call 41; (with_reducible refine (put_c 18 2 (tp) uJ uJ uJ uJ (by have h_ := HF6.out.1; have h2_ := HN.out; omega) HS.nb HS.r0).mono ?_); rintro e_ wF ⟨rfl, hr_, hg_⟩; clear c_g_0 c_g_3 c_g_4 c_g_5 c_g_6 c_g_8 c_g_9 c_g_12; replace HS := HS.rs 0 b7 hg_ (hr := by rw [HB7.out]; exact hr_); clear hr_ hg_; have c_g_0 := HS.c 0 0; have c_g_3 := HS.c 0 3; have c_g_4 := HS.c 0 4; have c_g_5 := HS.c 0 5; have c_g_6 := HS.c 0 6; have c_g_8 := HS.c 0 8; have c_g_9 := HS.c 0 9; have c_g_12 := HS.c 0 12)
  | (go_at_call 41; (with_reducible refine (put_c 20 2 (lab) uJ uJ uJ uJ (by have h_ := HF7.out.1; have h2_ := HN.out; omega) HS.nb HS.r0).mono ?_); rintro e_ wG ⟨rfl, hr_, hg_⟩; clear c_g_0 c_g_3 c_g_4 c_g_5 c_g_6 c_g_8 c_g_9 c_g_12; replace HS := HS.rs 0 b8 hg_ (hr := by rw [HB8.out]; exact hr_); clear hr_ hg_; have c_g_0 := HS.c 0 0; have c_g_3 := HS.c 0 3; have c_g_4 := HS.c 0 4; have c_g_5 := HS.c 0 5; have c_g_6 := HS.c 0 6; have c_g_8 := HS.c 0 8; have c_g_9 := HS.c 0 9; have c_g_12 := HS.c 0 12))
 clear c_g_0 c_g_3 c_g_4 c_g_5 c_g_6 c_g_8 c_g_9 c_g_12 k1_ k2_
 replace HS := HS.dr
 refine zT 10 (fun w' => w'.cell? ⟨g, 12, none⟩ = some (.slice Ad d.length cd)) (HS.c 0 12) fun hHeld => ?_
 generalize wG.drew = wH at HS hHeld ⊢
 refine run_ [(0, 135), (1, 136), (2, 137), (7, 142), (3, 138), (4, 139), (5, 140), (6, 141), (8, 143)] (fuel := 1) (a2 := ?_) rfl uW (fun _ _ _ _ _ h => h) hHeld ?_ ?_
 rotate_left
 ·iterate 7
   refine Steps.on (v := ?_) (a1 := ?_) rfl rfl (by rfl) ?_ ?_ ?_
   rotate_left
   ·exact jK
   rotate_left
   ·exact zU
  refine Steps.on (v := ?_) (a1 := ?_) rfl rfl (by rfl) ?_ ?_ ?_
  rotate_left
  ·intro w' _
   refine (run_sliceT _ _ w' (.tmp 135) (.tmp 140) rfl gb N cb 24 ?_ ?_ HCB.out vO).trans ?_
   ·rfl
   ·rfl
   ·with_reducible rfl
  rotate_left
  ·exact zU
  refine Steps.on (v := ?_) (a1 := ?_) rfl rfl (by rfl) ?_ ?_ ?_
  rotate_left
  ·exact jK
  rotate_left
  ·exact zU
  exact Steps.end_
 refine zO 9 (tf 10 0) fun K hK => ?_
 refine value_ (w1 := (wH.setCells gb 24 (d.map (Value.int .u8)))) (by rfl) rfl (run_copyT _ _ _ (.tmp 141) (.tmp 143) rfl Ad d.length cd rfl rfl rfl HS.r0 (Kd.C_below HC.out HS.nb) vO) ?_
 clear hHeld
 have n_ : Aside0 (St (fun _ => False) W (wH.setCells gb 24 (d.map (Value.int .u8))) [(g, 45, #[.int .i64 2, .int .i64 life, .int .i64 0, .int .i64 frm, .int .i64 dst, .int .i64 fp, .int .i64 tp, .int .i64 0, .int .i64 lab, .bool false, .int .i64 0, .slice none 0 0, .slice Ad d.length cd])] [(.slice (some ⟨gb, 0, none⟩) N cb, b9)]) := ⟨HS.out.rset 0 rfl (by rw [HB9.out]; exact (bytes_many d _ 24 _ HS.r0).1) (bytes_many d _ 24 _ HS.r0).2⟩
 clear HS
 generalize (wH.setCells gb 24 (d.map (Value.int .u8))) = wI at n_ ⊢
 have HS := n_
 clear n_
 refine hK.out _ _ (HS.c 0 12) (fun hHeld => ?_)
 clear hK K
 refine zN ?_
 refine done_ uW ?_
 clear hHeld
 have c_g_0 := HS.c 0 0
 have c_g_3 := HS.c 0 3
 have c_g_4 := HS.c 0 4
 have c_g_5 := HS.c 0 5
 have c_g_6 := HS.c 0 6
 have c_g_8 := HS.c 0 8
 have c_g_9 := HS.c 0 9
 have c_g_12 := HS.c 0 12
 go_upto_region 32 with (first
  | (go_at_call 42; refine (summed_c (l := b9) HF9.out.1.symm vF (by have h_ := HF9.out.1; have h2_ := HN.out; have h3_ := HDL.out; omega) HF9.out.2.2 (Kd.R_reads' HS.r0).2.2 (by have h_ := HF9.out.1; have h2_ := HCB.out; omega)).mono ?_; rintro e_ wJ ⟨A2, c2, rfl, hl2_, hC2_, hb_⟩; have HL2 := mA hl2_; have HC2 := mA hC2_; clear hl2_ hC2_ c_g_0 c_g_3 c_g_4 c_g_5 c_g_6 c_g_8 c_g_9 c_g_12; replace HS := HS.bl hb_; clear hb_; have c_g_0 := HS.c 0 0; have c_g_3 := HS.c 0 3; have c_g_4 := HS.c 0 4; have c_g_5 := HS.c 0 5; have c_g_6 := HS.c 0 6; have c_g_8 := HS.c 0 8; have c_g_9 := HS.c 0 9; have c_g_12 := HS.c 0 12)
  | (go_at_call 14; refine (of_c (l := sumF b9) rfl (summed_some (l := b9) vF (by have h_ := HF9.out.1; have h2_ := HN.out; have h3_ := HDL.out; omega) HF9.out.2.2).2 HC2.out HL2.out).mono ?_; rintro e_ wK ⟨rfl, hb_⟩; rw [← HSV.out]; clear HC2 HL2 c_g_0 c_g_3 c_g_4 c_g_5 c_g_6 c_g_8 c_g_9 c_g_12; replace HS := HS.bl hb_; clear hb_; have c_g_0 := HS.c 0 0; have c_g_3 := HS.c 0 3; have c_g_4 := HS.c 0 4; have c_g_5 := HS.c 0 5; have c_g_6 := HS.c 0 6; have c_g_8 := HS.c 0 8; have c_g_9 := HS.c 0 9; have c_g_12 := HS.c 0 12))
 by_cases h0 : sv = 0
 ·skip
  have ks : (sv == 0) = true := beq_iff_eq.2 h0
  have HV : Aside0 (s2 = 65535) := ⟨by rw [HS2.out, if_pos h0]⟩
  clear h0
  go_wp2_with (first
   | (go_at_call 43; refine (place_c 2 _).mono ?_; rintro e_ wL ⟨rfl, hb_⟩; rw [show plc 2 = 22 from rfl]; clear c_g_0 c_g_3 c_g_4 c_g_5 c_g_6 c_g_8 c_g_9 c_g_12; replace HS := HS.bl hb_; clear hb_; have c_g_0 := HS.c 0 0; have c_g_3 := HS.c 0 3; have c_g_4 := HS.c 0 4; have c_g_5 := HS.c 0 5; have c_g_6 := HS.c 0 6; have c_g_8 := HS.c 0 8; have c_g_9 := HS.c 0 9; have c_g_12 := HS.c 0 12)
   | (go_at_call 41; refine (put_c 22 2 (65535) uJ uJ uJ uJ vF HS.nb HS.r0).mono ?_; rintro e_ wM ⟨rfl, hr_, hg_⟩; clear c_g_0 c_g_3 c_g_4 c_g_5 c_g_6 c_g_8 c_g_9 c_g_12; replace HS := HS.rs 0 b10 hg_ (hr := by rw [HB10.out, HV.out]; exact hr_); clear hr_ hg_))
  go_ret2
  exact ⟨_, rfl, HS.out.row 0 rfl, HF10.out.2.1, HF10.out.2.2, HS.nb⟩
 ·skip
  have ks : (sv == 0) = false := beq_eq_false_iff_ne.2 h0
  have HV : Aside0 (s2 = sv) := ⟨by rw [HS2.out, if_neg h0]⟩
  clear h0
  go_wp2_with (first
   | (go_at_call 43; refine (place_c 2 _).mono ?_; rintro e_ wL ⟨rfl, hb_⟩; rw [show plc 2 = 22 from rfl]; clear c_g_0 c_g_3 c_g_4 c_g_5 c_g_6 c_g_8 c_g_9 c_g_12; replace HS := HS.bl hb_; clear hb_; have c_g_0 := HS.c 0 0; have c_g_3 := HS.c 0 3; have c_g_4 := HS.c 0 4; have c_g_5 := HS.c 0 5; have c_g_6 := HS.c 0 6; have c_g_8 := HS.c 0 8; have c_g_9 := HS.c 0 9; have c_g_12 := HS.c 0 12)
   | (go_at_call 41; refine (put_c 22 2 (sv) uJ uJ uJ uJ vF HS.nb HS.r0).mono ?_; rintro e_ wM ⟨rfl, hr_, hg_⟩; clear c_g_0 c_g_3 c_g_4 c_g_5 c_g_6 c_g_8 c_g_9 c_g_12; replace HS := HS.rs 0 b10 hg_ (hr := by rw [HB10.out, HV.out]; exact hr_); clear hr_ hg_))
  go_ret2
  exact ⟨_, rfl, HS.out.row 0 rfl, HF10.out.2.1, HF10.out.2.2, HS.nb⟩
end Go.Proofs.YtkpfojpmigchlaaGreat.Own
namespace Go.Proofs.YtkpfojpmigchlaaGreat.Q
open Go.RowKit Go.Proofs.YtkpfojpmigchlaaGreatW.PrintWords Go.Proofs.YtkpfojpmigchlaaGreatW.PrintLast Go.Proofs.YtkpfojpmigchlaaGreatW.PrintMore Go.Proofs.YtkpfojpmigchlaaGreat.Own
open Go.Proofs.YtkpfojpmigchlaaGreat.Zip
open Go.Proofs.YtkpfojpmigchlaaGreat.Zap
section
set_option maxHeartbeats 8000000
set_option maxRecDepth 100000
attribute [local go_sem] max2_int min2_int max_two min_two max_three min_three max_four min_four
def cookie_sum.f (k : Nat) (a0_0 : Int) (a0_1 : Int) (a1 : Int) (a2_0 : Int) (a2_1 : Int) (a2_2 : Int) (a2_3 : Int) (a3 : Int) (a4 : Int) : Option (Int) := (sip_Words.f k a0_0 a0_1 (([a1, a2_0, a2_1, a2_2, a2_3, a3, a4] : List Int))).bind fun t185 => (some t185)
theorem cookie_sum.calls (k : Nat) (a0_0 : Int) (a0_1 : Int) (a1 : Int) (a2_0 : Int) (a2_1 : Int) (a2_2 : Int) (a2_3 : Int) (a3 : Int) (a4 : Int) (r : Int) (w : World) (h : cookie_sum.f k a0_0 a0_1 a1 a2_0 a2_1 a2_2 a2_3 a3 a4 = some r) :
 Calls Tryz.prog 119 #[.agg #[.int .u64 a0_0, .int .u64 a0_1], .int .i64 a1, .agg #[.int .i64 a2_0, .int .i64 a2_1, .int .i64 a2_2, .int .i64 a2_3], .int .i64 a3, .int .i64 a4] w fun e w' => e = .returned (.int .u64 r) ∧ Below w.heap.size w w' := by
 have hu29 := Tryz.underlying29
 have hu89 := Tryz.underlying89
 have HB := mA (Below.refl w.heap.size w)
 have H := h
 unfold cookie_sum.f at H
 clear h
 obtain ⟨y182, hy182⟩ : ∃ y_ : List Int, y_ = (([a1, a2_0, a2_1, a2_2, a2_3, a3, a4] : List Int)) := ⟨_, rfl⟩
 replace H : ((sip_Words.f k a0_0 a0_1 y182).bind fun t185 => (some t185)) = some r := zyy hy182 H
 have Ny182 := mA hy182
 clear hy182
 replace H := Option.bind_eq_some_iff.mp H
 obtain ⟨t185, A60, H⟩ := H
 have A6 := mA A60
 clear A60
 obtain rfl := Option.some.inj H
 go_enter Tryz.func119, Tryz.ntmps119
 go_wp2_with (first | (refine zx 5 #[.int .u64 a0_0, .int .u64 a0_1] 29 ?_; clear HB; intro gb180 w7 BK180 HB GE180) | (refine zX 7 #[.int .i64 a2_0, .int .i64 a2_1, .int .i64 a2_2, .int .i64 a2_3] 89 ?_; clear HB; intro gb181 w8 BK181 HB GE181 hb hg; have NB180_181 := mA ((by rw [hg]; exact Nat.ne_of_lt (blk_lt (g := gb180) (o := .cells #[.int .u64 a0_0, .int .u64 a0_1] 29 (0, 0)) uX) : gb180 ≠ gb181)); have NB181_180 := mA ((by rw [hg]; exact Nat.ne_of_gt (blk_lt (g := gb180) (o := .cells #[.int .u64 a0_0, .int .u64 a0_1] 29 (0, 0)) uX) : gb181 ≠ gb180)); replace BK180 := mA (blk_below (g := gb180) (o := .cells #[.int .u64 a0_0, .int .u64 a0_1] 29 (0, 0)) uX hb); clear hb hg; have hnb9 := NB180_181.out; have hnc9 := NB181_180.out; obtain ⟨hcz10_0, hcz10_1⟩ := bk2 BK180.out; have hfz10_0 := BK180.fz 0; have hfz10_1 := BK180.fz 1; obtain ⟨hcz11_0, hcz11_1, hcz11_2, hcz11_3⟩ := bk4 BK181.out; have hfz11_0 := BK181.fz 0; have hfz11_1 := BK181.fz 1; have hfz11_2 := BK181.fz 2; have hfz11_3 := BK181.fz 3) | ((with_reducible refine zd 23 ?_); refine zl .i64 3 23 [a1, a2_0, a2_1, a2_2, a2_3, a3, a4] ?_; intro v183 w12 ho13 hb hg_ hnew_; clear hg_ hnew_; (first | rw [← Ny182.out] at ho13 | (simp only [Int.reduceToNat] at ho13; rw [← Ny182.out] at ho13)); have HO184 := mA (Kd.R_lower ho13 (below_size uQ)); replace BK180 := mA (blk_below (g := gb180) (o := .cells #[.int .u64 a0_0, .int .u64 a0_1] 29 (0, 0)) uX hb); replace BK181 := mA (blk_below (g := gb181) (o := .cells #[.int .i64 a2_0, .int .i64 a2_1, .int .i64 a2_2, .int .i64 a2_3] 89 (0, 0)) uX hb); replace HB := mA (below_step uQ hb); clear hb ho13; obtain ⟨Ao14, co14, eo14⟩ := Kd.R_slice HO184.out; subst eo14) | ((with_reducible refine zd 24 ?_); refine zL 24 Tryz.func15 #[.agg #[.int .u64 a0_0, .int .u64 a0_1], .slice Ao14 y182.length co14] ?_; (with_reducible refine (sip_Words.calls k a0_0 a0_1 _ _ y182 t185 _ ?side1 ?side2 A6.out).mono ?_); (case side1 => repeat (first | exact (Kd.R_reads' HO184.out).2.2 | (with_reducible refine Kd.C_alloc ?_ _) | (with_reducible refine Kd.C_drewN ?_ _) | (with_reducible refine Kd.C_drew ?_))); (case side2 => exact (Kd.R_reads' HO184.out).2.1); rintro e w15 ⟨rfl, hb⟩; refine ⟨_, rfl, ?_⟩; replace HO184 := mA (Kd.R_below (zkr HO184) hb); replace BK180 := mA (blk_below (g := gb180) (o := .cells #[.int .u64 a0_0, .int .u64 a0_1] 29 (0, 0)) uX hb); replace BK181 := mA (blk_below (g := gb181) (o := .cells #[.int .i64 a2_0, .int .i64 a2_1, .int .i64 a2_2, .int .i64 a2_3] 89 (0, 0)) uX hb); replace HB := mA (below_step uQ hb); clear hb))
 go_ret
 exact ⟨yO, yI⟩
def cookie_veil.f (k : Nat) (a0_0 : Int) (a0_1 : Int) (a1 : Int) (a2_0 : Int) (a2_1 : Int) (a2_2 : Int) (a2_3 : Int) (a3 : Int) : Option (Int) := (cookie_sum.f k a0_0 a0_1 a1 a2_0 a2_1 a2_2 a2_3 64 a3).bind fun t188 => (some (wrap64 (Go.bits .and .u64 t188 63)))
theorem cookie_veil.calls (k : Nat) (a0_0 : Int) (a0_1 : Int) (a1 : Int) (a2_0 : Int) (a2_1 : Int) (a2_2 : Int) (a2_3 : Int) (a3 : Int) (r : Int) (w : World) (h : cookie_veil.f k a0_0 a0_1 a1 a2_0 a2_1 a2_2 a2_3 a3 = some r) :
 Calls Tryz.prog 106 #[.agg #[.int .u64 a0_0, .int .u64 a0_1], .int .i64 a1, .agg #[.int .i64 a2_0, .int .i64 a2_1, .int .i64 a2_2, .int .i64 a2_3], .int .i64 a3] w fun e w' => e = .returned (.int .i64 r) ∧ Below w.heap.size w w' := by
 have hu29 := Tryz.underlying29
 have hu89 := Tryz.underlying89
 have HB := mA (Below.refl w.heap.size w)
 have H := h
 unfold cookie_veil.f at H
 clear h
 replace H := Option.bind_eq_some_iff.mp H
 obtain ⟨t188, A50, H⟩ := H
 have A5 := mA A50
 clear A50
 obtain rfl := Option.some.inj H
 go_enter Tryz.func106, Tryz.ntmps106
 go_wp2_with (first | (refine zx 4 #[.int .u64 a0_0, .int .u64 a0_1] 29 ?_; clear HB; intro gb186 w6 BK186 HB GE186) | (refine zX 6 #[.int .i64 a2_0, .int .i64 a2_1, .int .i64 a2_2, .int .i64 a2_3] 89 ?_; clear HB; intro gb187 w7 BK187 HB GE187 hb hg; have NB186_187 := mA ((by rw [hg]; exact Nat.ne_of_lt (blk_lt (g := gb186) (o := .cells #[.int .u64 a0_0, .int .u64 a0_1] 29 (0, 0)) uX) : gb186 ≠ gb187)); have NB187_186 := mA ((by rw [hg]; exact Nat.ne_of_gt (blk_lt (g := gb186) (o := .cells #[.int .u64 a0_0, .int .u64 a0_1] 29 (0, 0)) uX) : gb187 ≠ gb186)); replace BK186 := mA (blk_below (g := gb186) (o := .cells #[.int .u64 a0_0, .int .u64 a0_1] 29 (0, 0)) uX hb); clear hb hg; have hnb8 := NB186_187.out; have hnc8 := NB187_186.out; obtain ⟨hcz9_0, hcz9_1⟩ := bk2 BK186.out; have hfz9_0 := BK186.fz 0; have hfz9_1 := BK186.fz 1; obtain ⟨hcz10_0, hcz10_1, hcz10_2, hcz10_3⟩ := bk4 BK187.out; have hfz10_0 := BK187.fz 0; have hfz10_1 := BK187.fz 1; have hfz10_2 := BK187.fz 2; have hfz10_3 := BK187.fz 3) | ((with_reducible refine zd 13 ?_); refine zL 13 Tryz.func119 #[.agg #[.int .u64 a0_0, .int .u64 a0_1], .int .i64 a1, .agg #[.int .i64 a2_0, .int .i64 a2_1, .int .i64 a2_2, .int .i64 a2_3], .int .i64 64, .int .i64 a3] ?_; (with_reducible refine (cookie_sum.calls k a0_0 a0_1 a1 a2_0 a2_1 a2_2 a2_3 64 a3 t188 _ A5.out).mono ?_); rintro e w11 ⟨rfl, hb⟩; refine ⟨_, rfl, ?_⟩; replace BK186 := mA (blk_below (g := gb186) (o := .cells #[.int .u64 a0_0, .int .u64 a0_1] 29 (0, 0)) uX hb); replace BK187 := mA (blk_below (g := gb187) (o := .cells #[.int .i64 a2_0, .int .i64 a2_1, .int .i64 a2_2, .int .i64 a2_3] 89 (0, 0)) uX hb); replace HB := mA (below_step uQ hb); clear hb))
 go_ret
 exact ⟨yO, yI⟩
def cookie_tagBits.f (a0 : Int) : Option (Int) := if a0 = 2 then (some 8) else (some 12)
theorem cookie_tagBits.calls (a0 : Int) (r : Int) (w : World) (h : cookie_tagBits.f a0 = some r) :
 Calls Tryz.prog 115 #[.int .i64 a0] w fun e w' => e = .returned (.int .i64 r) ∧ Drawn0 w w' := by
 have H := h
 unfold cookie_tagBits.f at H
 clear h
 by_cases c2 : a0 = 2
 ·rw [if_pos c2] at H
  have c2b0 : (a0 == 2) = true := beq_iff_eq.mpr c2
  have c2b1 : (a0 != 2) = false := bne_eq_false_iff_eq.mpr c2
  clear c2
  obtain rfl := Option.some.inj H
  go_enter Tryz.func115, Tryz.ntmps115
  go_wp2
  go_ret
  exact jO
 ·rw [if_neg c2] at H
  have c2b0 : (a0 == 2) = false := beq_eq_false_iff_ne.mpr c2
  have c2b1 : (a0 != 2) = true := bne_iff_ne.mpr c2
  obtain rfl := Option.some.inj H
  go_enter Tryz.func115, Tryz.ntmps115
  go_wp2
  go_ret
  exact jO
def cookie_tag.f (k : Nat) (a0_0 : Int) (a0_1 : Int) (a1 : Int) (a2_0 : Int) (a2_1 : Int) (a2_2 : Int) (a2_3 : Int) (a3 : Int) (a4 : Int) : Option (Int) := (cookie_sum.f k a0_0 a0_1 a1 a2_0 a2_1 a2_2 a2_3 a3 a4).bind fun t191 => ((cookie_tagBits.f a1).bind fun t192 => (if 0 ≤ t192 then (some (wrap64 (Go.bits .and .u64 t191 (IntKind.u64.wrap ((shl .u64 1 t192) - 1))))) else (none)))
theorem cookie_tag.calls (k : Nat) (a0_0 : Int) (a0_1 : Int) (a1 : Int) (a2_0 : Int) (a2_1 : Int) (a2_2 : Int) (a2_3 : Int) (a3 : Int) (a4 : Int) (r : Int) (w : World) (h : cookie_tag.f k a0_0 a0_1 a1 a2_0 a2_1 a2_2 a2_3 a3 a4 = some r) :
 Calls Tryz.prog 107 #[.agg #[.int .u64 a0_0, .int .u64 a0_1], .int .i64 a1, .agg #[.int .i64 a2_0, .int .i64 a2_1, .int .i64 a2_2, .int .i64 a2_3], .int .i64 a3, .int .i64 a4] w fun e w' => e = .returned (.int .i64 r) ∧ Below w.heap.size w w' := by
 have hu29 := Tryz.underlying29
 have hu89 := Tryz.underlying89
 have HB := mA (Below.refl w.heap.size w)
 have H := h
 unfold cookie_tag.f at H
 clear h
 replace H := Option.bind_eq_some_iff.mp H
 obtain ⟨t191, A60, H⟩ := H
 have A6 := mA A60
 clear A60
 replace H := Option.bind_eq_some_iff.mp H
 obtain ⟨t192, A70, H⟩ := H
 have A7 := mA A70
 clear A70
 by_cases c8 : 0 ≤ t192
 ·rw [if_pos c8] at H
  have c8b0 := eq_true c8
  have c8b1 := decide_eq_true c8
  clear c8
  obtain ⟨ji9, hji9⟩ : ∃ j_ : Int, (shl .u64 1 t192) = j_ := ⟨_, rfl⟩
  replace H : (some (wrap64 (Go.bits .and .u64 t191 (IntKind.u64.wrap ((ji9) - 1))))) = some r := by first | (rw [hji9] at H; exact H) | (simp only [hji9] at H ⊢; exact H)
  (try rw [hji9] at A6)
  (try rw [hji9] at A7)
  have hji9_ : (IntKind.u64.wrap (1 * 2 ^ min t192.toNat 64)) = ji9 := hji9
  have hji9z : t192 ≤ 64 → (IntKind.u64.wrap (1 * 2 ^ t192.toNat)) = ji9 := shl_small hji9
  have hji9u : (IntKind.u64.wrap (2 ^ min t192.toNat 64)) = ji9 := by have h_ := hji9_; rw [Int.one_mul] at h_; exact h_
  have hji9v : t192 ≤ 64 → (IntKind.u64.wrap (2 ^ t192.toNat)) = ji9 := fun hle_ => by have h_ := hji9z hle_; rw [Int.one_mul] at h_; exact h_
  obtain rfl := Option.some.inj H
  go_enter Tryz.func107, Tryz.ntmps107
  go_wp2_with (first | (refine zx 5 #[.int .u64 a0_0, .int .u64 a0_1] 29 ?_; clear HB; intro gb189 w10 BK189 HB GE189) | (refine zX 7 #[.int .i64 a2_0, .int .i64 a2_1, .int .i64 a2_2, .int .i64 a2_3] 89 ?_; clear HB; intro gb190 w11 BK190 HB GE190 hb hg; have NB189_190 := mA ((by rw [hg]; exact Nat.ne_of_lt (blk_lt (g := gb189) (o := .cells #[.int .u64 a0_0, .int .u64 a0_1] 29 (0, 0)) uX) : gb189 ≠ gb190)); have NB190_189 := mA ((by rw [hg]; exact Nat.ne_of_gt (blk_lt (g := gb189) (o := .cells #[.int .u64 a0_0, .int .u64 a0_1] 29 (0, 0)) uX) : gb190 ≠ gb189)); replace BK189 := mA (blk_below (g := gb189) (o := .cells #[.int .u64 a0_0, .int .u64 a0_1] 29 (0, 0)) uX hb); clear hb hg; have hnb12 := NB189_190.out; have hnc12 := NB190_189.out; obtain ⟨hcz13_0, hcz13_1⟩ := bk2 BK189.out; have hfz13_0 := BK189.fz 0; have hfz13_1 := BK189.fz 1; obtain ⟨hcz14_0, hcz14_1, hcz14_2, hcz14_3⟩ := bk4 BK190.out; have hfz14_0 := BK190.fz 0; have hfz14_1 := BK190.fz 1; have hfz14_2 := BK190.fz 2; have hfz14_3 := BK190.fz 3) | ((with_reducible refine zd 16 ?_); refine zL 16 Tryz.func119 #[.agg #[.int .u64 a0_0, .int .u64 a0_1], .int .i64 a1, .agg #[.int .i64 a2_0, .int .i64 a2_1, .int .i64 a2_2, .int .i64 a2_3], .int .i64 a3, .int .i64 a4] ?_; (with_reducible refine (cookie_sum.calls k a0_0 a0_1 a1 a2_0 a2_1 a2_2 a2_3 a3 a4 t191 _ A6.out).mono ?_); rintro e w15 ⟨rfl, hb⟩; refine ⟨_, rfl, ?_⟩; replace BK189 := mA (blk_below (g := gb189) (o := .cells #[.int .u64 a0_0, .int .u64 a0_1] 29 (0, 0)) uX hb); replace BK190 := mA (blk_below (g := gb190) (o := .cells #[.int .i64 a2_0, .int .i64 a2_1, .int .i64 a2_2, .int .i64 a2_3] 89 (0, 0)) uX hb); replace HB := mA (below_step uQ hb); clear hb) | ((with_reducible refine zd 18 ?_); refine zL 18 Tryz.func115 #[.int .i64 a1] ?_; (with_reducible refine (cookie_tagBits.calls a1 t192 _ A7.out).mono ?_); rintro e w' ⟨rfl, ⟨nd, rfl⟩⟩; refine ⟨_, rfl, ?_⟩))
  go_ret
  exact ⟨by first | rfl | (simp [errW_none, errW_some] <;> rfl) | (simp only [← hji9]; first | rfl | (simp [errW_none, errW_some] <;> rfl)) | (simp [*, errW_none, errW_some] <;> rfl), yI⟩
 ·rw [if_neg c8] at H
  exact absurd H xU
def cookie_turn.f (a0 : Int) : Option (Int) := some (Go.bits .and .i64 a0 3)
theorem cookie_turn.calls (a0 : Int) (r : Int) (w : World) (h : cookie_turn.f a0 = some r) :
 Calls Tryz.prog 105 #[.int .i64 a0] w fun e w' => e = .returned (.int .i64 r) ∧ Drawn0 w w' := by
 have H := h
 unfold cookie_turn.f at H
 clear h
 obtain rfl := Option.some.inj H
 go_enter Tryz.func105, Tryz.ntmps105
 go_wp2
 go_ret
 exact jO
def pool_may.l0 : Nat → List Int → Int → Int → Int → Int → Int → Int → Int → Option (Bool)
 | 0, _, _, _, _, _, _, _, _ => none
 | k + 1, x7, x8, x9, x205000, x205001, x205002, x205003, x205004 => if x9 < x8 then (if 0 ≤ x9 then (if x9 < (x7.length : Int) then (if x205000 = (rd x7 x9) then (some true) else (pool_may.l0 k x7 x8 (wrap64 (x9 + 1)) x205000 x205001 x205002 x205003 x205004)) else (none)) else (none)) else (some false)
def pool_may.f (k : Nat) (a0_0 : Int) (a0_1 : Int) (a0_2 : Int) (a0_3 : Int) (a0_4 : Int) (l1 : List Int) : Option (Bool) := pool_may.l0 k l1 (l1.length : Int) 0 a0_0 a0_1 a0_2 a0_3 a0_4
theorem pool_may.calls (k : Nat) (a0_0 : Int) (a0_1 : Int) (a0_2 : Int) (a0_3 : Int) (a0_4 : Int) (A1 : Option Addr) (c1 : Nat) (l1 : List Int) (r : Bool) (w : World) (hr1 : Kd.C (Kd.int .i64) w A1 l1.length l1) (hc1 : l1.length ≤ c1) (h : pool_may.f k a0_0 a0_1 a0_2 a0_3 a0_4 l1 = some r) :
 Calls Tryz.prog 73 #[.agg #[.int .i64 a0_0, .int .i64 a0_1, .int .i64 a0_2, .int .i64 a0_3, .int .i64 a0_4], .slice A1 l1.length c1] w fun e w' => e = .returned (.bool r) ∧ Below w.heap.size w w' := by
 have hu25 := Tryz.underlying25
 have HR1 := mA hr1
 have HC1 := mA hc1
 clear hr1 hc1
 have HB := mA (Below.refl w.heap.size w)
 have H := h
 unfold pool_may.f at H
 clear h
 have H' := mA H
 clear H
 go_enter Tryz.func73, Tryz.ntmps73
 go_wp2_with (first | (refine zx 2 #[.int .i64 a0_0, .int .i64 a0_1, .int .i64 a0_2, .int .i64 a0_3, .int .i64 a0_4] 25 ?_; clear HB; intro gb204 w3 BK204 HB GE204))
 go_loopg [9] k (fun kq v9 w' => ∃ (x9_1 : Int), v9 = .int .i64 x9_1 ∧ Aside0 (pool_may.l0 kq l1 (l1.length : Int) x9_1 a0_0 a0_1 a0_2 a0_3 a0_4 = some r) ∧ Aside0 (kq ≤ k) ∧ Aside0 (w'.heap[gb204]? = some (.cells #[.int .i64 a0_0, .int .i64 a0_1, .int .i64 a0_2, .int .i64 a0_3, .int .i64 a0_4] 25 (0, 0))) ∧ Aside0 (Below w.heap.size w w'))
 case atStart => exact ⟨(0), uN, H', ⟨Nat.le_refl _⟩, ⟨kN⟩, ⟨yI⟩⟩
 case round =>
  clear H'
  obtain ⟨x9_1, rfl, HA, HK1, BK204, HB⟩ := hrel
  cases gk with
  | zero => exact absurd HA.out (by simp [pool_may.l0])
  | succ k1 =>
   have H := HA.out
   clear HA
   simp only [pool_may.l0] at H
   by_cases c4 : x9_1 < (l1.length : Int)
   ·rw [if_pos c4] at H
    have c4b0 := decide_eq_true c4
    clear c4
    obtain ⟨c5, H⟩ := zif H
    have c5b0 := decide_eq_true c5
    clear c5
    obtain ⟨c6, H⟩ := zif H
    have c6b0 := decide_eq_true c6
    clear c6
    by_cases c7 : a0_0 = (rd l1 x9_1)
    ·rw [if_pos c7] at H
     have c7b0 : (a0_0 == (rd l1 x9_1)) = true := beq_iff_eq.mpr c7
     have c7b1 : (a0_0 != (rd l1 x9_1)) = false := bne_eq_false_iff_eq.mpr c7
     clear c7
     obtain rfl := Option.some.inj H
     have p205 : 0 ≤ (x9_1 : Int) := of_decide_eq_true uV
     have q205 : x9_1 < (l1.length : Int) := of_decide_eq_true uV
     obtain ⟨ad205, e205, hx205_0⟩ := Kd.at_int HR1.out x9_1 p205 q205
     cases e205
     replace hx205_0 := (HB.out.cell (World.block_lt_of_cell? w _ hx205_0)).trans hx205_0
     replace p205 := eq_true p205
     replace q205 := eq_true q205
     obtain ⟨hcz8_0, hcz8_1, hcz8_2, hcz8_3, hcz8_4⟩ := bk5 BK204.out
     have hfz8_0 := BK204.fz 0
     have hfz8_1 := BK204.fz 1
     have hfz8_2 := BK204.fz 2
     have hfz8_3 := BK204.fz 3
     have hfz8_4 := BK204.fz 4
     go_wp2
     go_ret
     exact ⟨yO, yI⟩
    ·rw [if_neg c7] at H
     have c7b0 : (a0_0 == (rd l1 x9_1)) = false := beq_eq_false_iff_ne.mpr c7
     have c7b1 : (a0_0 != (rd l1 x9_1)) = true := bne_iff_ne.mpr c7
     have H' := mA H
     clear H
     have p205 : 0 ≤ (x9_1 : Int) := of_decide_eq_true uV
     have q205 : x9_1 < (l1.length : Int) := of_decide_eq_true uV
     obtain ⟨ad205, e205, hx205_0⟩ := Kd.at_int HR1.out x9_1 p205 q205
     cases e205
     replace hx205_0 := (HB.out.cell (World.block_lt_of_cell? w _ hx205_0)).trans hx205_0
     replace p205 := eq_true p205
     replace q205 := eq_true q205
     obtain ⟨hcz9_0, hcz9_1, hcz9_2, hcz9_3, hcz9_4⟩ := bk5 BK204.out
     have hfz9_0 := BK204.fz 0
     have hfz9_1 := BK204.fz 1
     have hfz9_2 := BK204.fz 2
     have hfz9_3 := BK204.fz 3
     have hfz9_4 := BK204.fz 4
     go_wp2
     go_roundg k1
     case measure => have := HK1.out; omega
     case rel => exact ⟨(wrap64 (x9_1 + 1)), uN, H', ⟨kH⟩, ⟨kN⟩, ⟨yI⟩⟩
   ·rw [if_neg c4] at H
    have c4b0 := decide_eq_false c4
    clear c4
    obtain rfl := Option.some.inj H
    go_wp2
    go_ret
    exact ⟨yO, yI⟩
def pool_Takes.f (k : Nat) (a0_0 : Int) (a0_1 : Int) (a0_2 : Int) (a0_3 : Int) (a0_4 : Int) : Option (Bool) := (pool_may.f k a0_0 a0_1 a0_2 a0_3 a0_4 (([1, 2, 3] : List Int))).bind fun t210 => (some t210)
theorem pool_Takes.calls (k : Nat) (a0_0 : Int) (a0_1 : Int) (a0_2 : Int) (a0_3 : Int) (a0_4 : Int) (r : Bool) (w : World) (h : pool_Takes.f k a0_0 a0_1 a0_2 a0_3 a0_4 = some r) :
 Calls Tryz.prog 68 #[.agg #[.int .i64 a0_0, .int .i64 a0_1, .int .i64 a0_2, .int .i64 a0_3, .int .i64 a0_4]] w fun e w' => e = .returned (.bool r) ∧ Below w.heap.size w w' := by
 have hu25 := Tryz.underlying25
 have HB := mA (Below.refl w.heap.size w)
 have H := h
 unfold pool_Takes.f at H
 clear h
 obtain ⟨y207, hy207⟩ : ∃ y_ : List Int, y_ = (([1, 2, 3] : List Int)) := ⟨_, rfl⟩
 replace H : ((pool_may.f k a0_0 a0_1 a0_2 a0_3 a0_4 y207).bind fun t210 => (some t210)) = some r := zyy hy207 H
 have Ny207 := mA hy207
 clear hy207
 replace H := Option.bind_eq_some_iff.mp H
 obtain ⟨t210, A20, H⟩ := H
 have A2 := mA A20
 clear A20
 obtain rfl := Option.some.inj H
 go_enter Tryz.func68, Tryz.ntmps68
 go_wp2_with (first | (refine zx 1 #[.int .i64 a0_0, .int .i64 a0_1, .int .i64 a0_2, .int .i64 a0_3, .int .i64 a0_4] 25 ?_; clear HB; intro gb206 w3 BK206 HB GE206; obtain ⟨hcz4_0, hcz4_1, hcz4_2, hcz4_3, hcz4_4⟩ := bk5 BK206.out; have hfz4_0 := BK206.fz 0; have hfz4_1 := BK206.fz 1; have hfz4_2 := BK206.fz 2; have hfz4_3 := BK206.fz 3; have hfz4_4 := BK206.fz 4) | ((with_reducible refine zd 4 ?_); refine zl .i64 3 4 [1, 2, 3] ?_; intro v208 w5 ho6 hb hg_ hnew_; clear hg_ hnew_; (first | rw [← Ny207.out] at ho6 | (simp only [Int.reduceToNat] at ho6; rw [← Ny207.out] at ho6)); have HO209 := mA (Kd.R_lower ho6 (below_size uQ)); replace BK206 := mA (blk_below (g := gb206) (o := .cells #[.int .i64 a0_0, .int .i64 a0_1, .int .i64 a0_2, .int .i64 a0_3, .int .i64 a0_4] 25 (0, 0)) uX hb); replace HB := mA (below_step uQ hb); clear hb ho6; obtain ⟨Ao7, co7, eo7⟩ := Kd.R_slice HO209.out; subst eo7) | ((with_reducible refine zd 5 ?_); refine zL 5 Tryz.func73 #[.agg #[.int .i64 a0_0, .int .i64 a0_1, .int .i64 a0_2, .int .i64 a0_3, .int .i64 a0_4], .slice Ao7 y207.length co7] ?_; (with_reducible refine (pool_may.calls k a0_0 a0_1 a0_2 a0_3 a0_4 _ _ y207 t210 _ ?side1 ?side2 A2.out).mono ?_); (case side1 => repeat (first | exact (Kd.R_reads' HO209.out).2.2 | (with_reducible refine Kd.C_alloc ?_ _) | (with_reducible refine Kd.C_drewN ?_ _) | (with_reducible refine Kd.C_drew ?_))); (case side2 => exact (Kd.R_reads' HO209.out).2.1); rintro e w8 ⟨rfl, hb⟩; refine ⟨_, rfl, ?_⟩; replace HO209 := mA (Kd.R_below (zkr HO209) hb); replace BK206 := mA (blk_below (g := gb206) (o := .cells #[.int .i64 a0_0, .int .i64 a0_1, .int .i64 a0_2, .int .i64 a0_3, .int .i64 a0_4] 25 (0, 0)) uX hb); replace HB := mA (below_step uQ hb); clear hb))
 go_ret
 exact ⟨yO, yI⟩
def cookie_parts_number.f (a0_0 : Int) (a0_1 : Int) (a0_2 : Int) (a1 : Int) : Option (Int) := (cookie_tagBits.f a1).bind fun t215 => (if 0 ≤ t215 then (some (Go.bits .or .i64 (shl .i64 (Go.bits .or .i64 (wrap64 (a0_0 * 64)) a0_1) t215) a0_2)) else (none))
theorem cookie_parts_number.calls (a0_0 : Int) (a0_1 : Int) (a0_2 : Int) (a1 : Int) (r : Int) (w : World) (h : cookie_parts_number.f a0_0 a0_1 a0_2 a1 = some r) :
 Calls Tryz.prog 108 #[.agg #[.int .i64 a0_0, .int .i64 a0_1, .int .i64 a0_2], .int .i64 a1] w fun e w' => e = .returned (.int .i64 r) ∧ Below w.heap.size w w' := by
 have hu170 := Tryz.underlying170
 have HB := mA (Below.refl w.heap.size w)
 have H := h
 unfold cookie_parts_number.f at H
 clear h
 replace H := Option.bind_eq_some_iff.mp H
 obtain ⟨t215, A30, H⟩ := H
 have A3 := mA A30
 clear A30
 by_cases c4 : 0 ≤ t215
 ·rw [if_pos c4] at H
  have c4b0 := eq_true c4
  have c4b1 := decide_eq_true c4
  clear c4
  obtain ⟨ji5, hji5⟩ : ∃ j_ : Int, (shl .i64 (Go.bits .or .i64 (wrap64 (a0_0 * 64)) a0_1) t215) = j_ := ⟨_, rfl⟩
  replace H : (some (Go.bits .or .i64 (ji5) a0_2)) = some r := by first | (rw [hji5] at H; exact H) | (simp only [hji5] at H ⊢; exact H)
  (try rw [hji5] at A3)
  have hji5_ : (IntKind.i64.wrap ((Go.bits .or .i64 (wrap64 (a0_0 * 64)) a0_1) * 2 ^ min t215.toNat 64)) = ji5 := hji5
  have hji5z : t215 ≤ 64 → (IntKind.i64.wrap ((Go.bits .or .i64 (wrap64 (a0_0 * 64)) a0_1) * 2 ^ t215.toNat)) = ji5 := shl_small hji5
  have hji5y : (wrap64 ((Go.bits .or .i64 (wrap64 (a0_0 * 64)) a0_1) * 2 ^ min t215.toNat 64)) = ji5 := (i64_w _).symm.trans hji5_
  have hji5x : t215 ≤ 64 → (wrap64 ((Go.bits .or .i64 (wrap64 (a0_0 * 64)) a0_1) * 2 ^ t215.toNat)) = ji5 := fun h_ => (i64_w _).symm.trans (hji5z h_)
  obtain rfl := Option.some.inj H
  go_enter Tryz.func108, Tryz.ntmps108
  go_wp2_with (first | (refine zx 2 #[.int .i64 a0_0, .int .i64 a0_1, .int .i64 a0_2] 170 ?_; clear HB; intro gb214 w6 BK214 HB GE214; obtain ⟨hcz7_0, hcz7_1, hcz7_2⟩ := bk3 BK214.out; have hfz7_0 := BK214.fz 0; have hfz7_1 := BK214.fz 1; have hfz7_2 := BK214.fz 2) | (go_at_call 115; (with_reducible refine (cookie_tagBits.calls a1 t215 _ A3.out).mono ?_); rintro e w' ⟨rfl, ⟨nd, rfl⟩⟩; (try first | exact ⟨rfl, _, World.drewN_drewN _ _ _⟩ | exact ⟨rfl, _, Eq.trans (World.drewN_drewN _ _ _) (congrArg (World.drewN _) (Nat.add_assoc _ _ _))⟩)))
  repeat (go_quiet (first | (refine zx 2 #[.int .i64 a0_0, .int .i64 a0_1, .int .i64 a0_2] 170 ?_; clear HB; intro gb214 w6 BK214 HB GE214; obtain ⟨hcz7_0, hcz7_1, hcz7_2⟩ := bk3 BK214.out; have hfz7_0 := BK214.fz 0; have hfz7_1 := BK214.fz 1; have hfz7_2 := BK214.fz 2) | (go_at_call 115; (with_reducible refine (cookie_tagBits.calls a1 t215 _ A3.out).mono ?_); rintro e w' ⟨rfl, ⟨nd, rfl⟩⟩; (try first | exact ⟨rfl, _, World.drewN_drewN _ _ _⟩ | exact ⟨rfl, _, Eq.trans (World.drewN_drewN _ _ _) (congrArg (World.drewN _) (Nat.add_assoc _ _ _))⟩))); try go_wp2_with (first | (refine zx 2 #[.int .i64 a0_0, .int .i64 a0_1, .int .i64 a0_2] 170 ?_; clear HB; intro gb214 w6 BK214 HB GE214; obtain ⟨hcz7_0, hcz7_1, hcz7_2⟩ := bk3 BK214.out; have hfz7_0 := BK214.fz 0; have hfz7_1 := BK214.fz 1; have hfz7_2 := BK214.fz 2) | (go_at_call 115; (with_reducible refine (cookie_tagBits.calls a1 t215 _ A3.out).mono ?_); rintro e w' ⟨rfl, ⟨nd, rfl⟩⟩; (try first | exact ⟨rfl, _, World.drewN_drewN _ _ _⟩ | exact ⟨rfl, _, Eq.trans (World.drewN_drewN _ _ _) (congrArg (World.drewN _) (Nat.add_assoc _ _ _))⟩))))
  go_ret
  exact ⟨by first | rfl | (simp [errW_none, errW_some] <;> rfl) | (simp only [← hji5]; first | rfl | (simp [errW_none, errW_some] <;> rfl)) | (simp [*, errW_none, errW_some] <;> rfl), yI⟩
 ·exact zJ
def cookie_Make.f (k : Nat) (a0_0 : Int) (a0_1 : Int) (a0_2 : Int) (a0_3 : Int) (a0_4 : Int) (a0_5 : Int) (a0_6 : Int) (a1 : Int) (a2_0 : Int) (a2_1 : Int) (a2_2 : Int) (a2_3 : Int) (a3 : Int) : Option (Int) := (cookie_turn.f a0_0).bind fun t218 => ((cookie_veil.f k a0_3 a0_4 a1 a2_0 a2_1 a2_2 a2_3 t218).bind fun t219 => ((cookie_tag.f k a0_3 a0_4 a1 a2_0 a2_1 a2_2 a2_3 a3 t218).bind fun t220 => ((cookie_parts_number.f t218 (Go.bits .xor .i64 a3 t219) t220 a1).bind fun t221 => (some t221))))
def cookie_Make.T2 : Bool × List (List Nat × List Nat) := (true, [([], []), ([], []), ([], []), ([2], [2]), ([], []), ([], []), ([], []), ([3, 4, 5, 6], [3, 4, 5, 6]), ([1, 7], [1, 7]), ([], []), ([9], [9]), ([], []), ([], []), ([], []), ([], []), ([10, 11, 12, 13, 14, 7], [10, 11, 12, 13, 14]), ([0, 8, 15], [0, 8, 15]), ([], []), ([16, 17, 15], [16, 17]), ([18, 18, 0, 1, 2, 3, 4, 5, 6, 7, 8, 9, 10, 11, 12, 13, 14, 15, 16, 17, 18], [18])])
def cookie_Make.B2 : List Nat := [0, 0, 0, 4, 0, 0, 0, 124, 254, 0, 512, 0, 0, 0, 0, 32508, 65535, 0, 262143, 524287]
theorem cookie_Make.tab2 : rtab .any (opsOf Tryz.f74 2) = cookie_Make.T2 := by kernel_rfl
theorem cookie_Make.bits2 : waitsOk cookie_Make.T2.2 cookie_Make.B2 = true := by kernel_rfl
theorem cookie_Make.calls (k : Nat) (a0_0 : Int) (a0_1 : Int) (a0_2 : Int) (a0_3 : Int) (a0_4 : Int) (a0_5 : Int) (a0_6 : Int) (a1 : Int) (a2_0 : Int) (a2_1 : Int) (a2_2 : Int) (a2_3 : Int) (a3 : Int) (r : Int) (w : World) (h : cookie_Make.f k a0_0 a0_1 a0_2 a0_3 a0_4 a0_5 a0_6 a1 a2_0 a2_1 a2_2 a2_3 a3 = some r) :
 Calls Tryz.prog 74 #[.agg #[.int .i64 a0_0, .int .u64 a0_1, .int .u64 a0_2, .int .u64 a0_3, .int .u64 a0_4, .int .u64 a0_5, .int .u64 a0_6], .int .i64 a1, .agg #[.int .i64 a2_0, .int .i64 a2_1, .int .i64 a2_2, .int .i64 a2_3], .int .i64 a3] w fun e w' => e = .returned (.int .i64 r) ∧ Below w.heap.size w w' := by
 have hu31 := Tryz.underlying31
 have hu89 := Tryz.underlying89
 have hu29 := Tryz.underlying29
 have hu170 := Tryz.underlying170
 have HB := mA (Below.refl w.heap.size w)
 have H := h
 unfold cookie_Make.f at H
 clear h
 replace H := Option.bind_eq_some_iff.mp H
 obtain ⟨t218, A50, H⟩ := H
 have A5 := mA A50
 clear A50
 replace H := Option.bind_eq_some_iff.mp H
 obtain ⟨t219, A60, H⟩ := H
 have A6 := mA A60
 clear A60
 replace H := Option.bind_eq_some_iff.mp H
 obtain ⟨t220, A70, H⟩ := H
 have A7 := mA A70
 clear A70
 replace H := Option.bind_eq_some_iff.mp H
 obtain ⟨t221, A80, H⟩ := H
 have A8 := mA A80
 clear A80
 obtain rfl := Option.some.inj H
 go_enter Tryz.func74, Tryz.ntmps74
 try go_wp2_with (first | (refine zx 4 #[.int .i64 a0_0, .int .u64 a0_1, .int .u64 a0_2, .int .u64 a0_3, .int .u64 a0_4, .int .u64 a0_5, .int .u64 a0_6] 31 ?_; clear HB; intro gb216 w9 BK216 HB GE216) | (refine zX 6 #[.int .i64 a2_0, .int .i64 a2_1, .int .i64 a2_2, .int .i64 a2_3] 89 ?_; clear HB; intro gb217 w10 BK217 HB GE217 hb hg; have NB216_217 := mA ((by rw [hg]; exact Nat.ne_of_lt (blk_lt (g := gb216) (o := .cells #[.int .i64 a0_0, .int .u64 a0_1, .int .u64 a0_2, .int .u64 a0_3, .int .u64 a0_4, .int .u64 a0_5, .int .u64 a0_6] 31 (0, 0)) uX) : gb216 ≠ gb217)); have NB217_216 := mA ((by rw [hg]; exact Nat.ne_of_gt (blk_lt (g := gb216) (o := .cells #[.int .i64 a0_0, .int .u64 a0_1, .int .u64 a0_2, .int .u64 a0_3, .int .u64 a0_4, .int .u64 a0_5, .int .u64 a0_6] 31 (0, 0)) uX) : gb217 ≠ gb216)); replace BK216 := mA (blk_below (g := gb216) (o := .cells #[.int .i64 a0_0, .int .u64 a0_1, .int .u64 a0_2, .int .u64 a0_3, .int .u64 a0_4, .int .u64 a0_5, .int .u64 a0_6] 31 (0, 0)) uX hb); clear hb hg; have hnb11 := NB216_217.out; have hnc11 := NB217_216.out; obtain ⟨hcz12_0, hcz12_1, hcz12_2, hcz12_3, hcz12_4, hcz12_5, hcz12_6⟩ := bk7 BK216.out; have hfz12_0 := BK216.fz 0; have hfz12_1 := BK216.fz 1; have hfz12_2 := BK216.fz 2; have hfz12_3 := BK216.fz 3; have hfz12_4 := BK216.fz 4; have hfz12_5 := BK216.fz 5; have hfz12_6 := BK216.fz 6) | ((with_reducible refine zd 12 ?_); refine zL 12 Tryz.func105 #[.int .i64 a0_0] ?_; (with_reducible refine (cookie_turn.calls a0_0 t218 _ A5.out).mono ?_); rintro e w' ⟨rfl, ⟨nd, rfl⟩⟩; refine ⟨_, rfl, ?_⟩))
 (try (rw [drewN_self w10]; generalize hq_ : World.drewN w10 _ = w10; have n0_ : Aside0 (w10.heap[gb216]? = some (.cells #[.int .i64 a0_0, .int .u64 a0_1, .int .u64 a0_2, .int .u64 a0_3, .int .u64 a0_4, .int .u64 a0_5, .int .u64 a0_6] 31 (0, 0))) := ⟨qE⟩; have n1_ : Aside0 (w10.heap[gb217]? = some (.cells #[.int .i64 a2_0, .int .i64 a2_1, .int .i64 a2_2, .int .i64 a2_3] 89 (0, 0))) := ⟨qE⟩; have n2_ : Aside0 (Below w.heap.size w w10) := ⟨by rw [← hq_]; exact uQ⟩; clear BK216 BK217 HB hq_; have BK216 := n0_; have BK217 := n1_; have HB := n2_; clear n0_ n1_ n2_))
 replace BK216 := mA (blk_drew BK216.out)
 replace BK217 := mA (blk_drew BK217.out)
 replace HB := mA (below_drew1 HB.out)
 refine start_ (n := 20) (S := fun w' => w'.cell? ⟨gb216, 0, none⟩ = some (.int .i64 a0_0) ∧ w'.cell? ⟨gb216, 1, none⟩ = some (.int .u64 a0_1) ∧ w'.cell? ⟨gb216, 2, none⟩ = some (.int .u64 a0_2) ∧ w'.cell? ⟨gb216, 3, none⟩ = some (.int .u64 a0_3) ∧ w'.cell? ⟨gb216, 4, none⟩ = some (.int .u64 a0_4) ∧ w'.cell? ⟨gb216, 5, none⟩ = some (.int .u64 a0_5) ∧ w'.cell? ⟨gb216, 6, none⟩ = some (.int .u64 a0_6) ∧ w'.cell? ⟨gb217, 0, none⟩ = some (.int .i64 a2_0) ∧ w'.cell? ⟨gb217, 1, none⟩ = some (.int .i64 a2_1) ∧ w'.cell? ⟨gb217, 2, none⟩ = some (.int .i64 a2_2) ∧ w'.cell? ⟨gb217, 3, none⟩ = some (.int .i64 a2_3)) (ds := []) (tf 0 20) uW rfl rfl ⟨BK216.cz 0, BK216.cz 1, BK216.cz 2, BK216.cz 3, BK216.cz 4, BK216.cz 5, BK216.cz 6, BK217.cz 0, BK217.cz 1, BK217.cz 2, BK217.cz 3⟩ (fun hHeld => ?_); refine with_tabW cookie_Make.tab2 cookie_Make.bits2 (fun HT_ HW_ => ?_)
 generalize w10.drew = w13 at BK216 BK217 HB hHeld ⊢
 refine zP 0 13 (tf 1 19) ?_
 refine zP 1 14 (tf 2 18) ?_
 refine zP 2 15 (tf 3 17) ?_
 refine zP 4 17 (mb 20 23) ?_
 refine zP 6 19 (mb 20 87) ?_
 refine zP 9 22 (mb 20 599) ?_
 refine zP 11 24 (mb 20 2647) ?_
 refine zP 13 26 (mb 20 10839) ?_
 refine zP 14 27 (mb 20 27223) ?_
 refine zP 17 30 (mb 20 158295) ?_
 refine take_ (i := 3) (N := some 16) (v := ?_) (a' := ?_) (mb 20 158303) rfl rfl (take_ofW HT_.out HW_.out uW) (fun _ _ _ h => h) (Or.inl ⟨by rfl, ?_⟩) hHeld ?_ ?_
 rotate_left
 ·exact zH
 rotate_left
 ·exact zU
 refine take_ (i := 5) (N := some 18) (v := ?_) (a' := ?_) (mb 20 158335) rfl rfl (take_ofW HT_.out HW_.out uW) (fun _ _ _ h => h) (Or.inl ⟨by rfl, ?_⟩) hHeld ?_ ?_
 rotate_left
 ·exact zH
 rotate_left
 ·exact zU
 refine take_ (i := 10) (N := some 23) (v := ?_) (a' := ?_) (mb 20 159359) rfl rfl (take_ofW HT_.out HW_.out uW) (fun _ _ _ h => h) (Or.inl ⟨by rfl, ?_⟩) hHeld ?_ ?_
 rotate_left
 ·exact zH
 rotate_left
 ·exact zU
 refine take_ (i := 12) (N := some 25) (v := ?_) (a' := ?_) (mb 20 163455) rfl rfl (take_ofW HT_.out HW_.out uW) (fun _ _ _ h => h) (Or.inl ⟨by rfl, ?_⟩) hHeld ?_ ?_
 rotate_left
 ·exact zH
 rotate_left
 ·exact zU
 refine one_ (i := 7) (N := some 20) (mb 20 163583) rfl rfl (one_of HT_.out uW) uJ (fun K hK => ?_)
 refine goes_ Tryz.func106 uW rfl #[.agg #[.int .u64 a0_3, .int .u64 a0_4], .int .i64 a1, .agg #[.int .i64 a2_0, .int .i64 a2_1, .int .i64 a2_2, .int .i64 a2_3], .int .i64 t218] (by rfl) rfl rfl uE ?_
 with_reducible refine (cookie_veil.calls k a0_3 a0_4 a1 a2_0 a2_1 a2_2 a2_3 t218 t219 _ A6.out).mono ?_
 rintro e w14 ⟨rfl, hb⟩
 refine ⟨_, rfl, ?_⟩
 have n0_ := mA (blk_below (g := gb216) (o := .cells #[.int .i64 a0_0, .int .u64 a0_1, .int .u64 a0_2, .int .u64 a0_3, .int .u64 a0_4, .int .u64 a0_5, .int .u64 a0_6] 31 (0, 0)) uX hb)
 have n1_ := mA (blk_below (g := gb217) (o := .cells #[.int .i64 a2_0, .int .i64 a2_1, .int .i64 a2_2, .int .i64 a2_3] 89 (0, 0)) uX hb)
 have n2_ := mA (below_step uQ hb)
 clear BK216 BK217 HB
 have BK216 := n0_
 have BK217 := n1_
 have HB := n2_
 clear n0_ n1_ n2_ hb
 refine hK.out _ _ ⟨BK216.cz 0, BK216.cz 1, BK216.cz 2, BK216.cz 3, BK216.cz 4, BK216.cz 5, BK216.cz 6, BK217.cz 0, BK217.cz 1, BK217.cz 2, BK217.cz 3⟩ (fun hHeld => ?_)
 clear hK K
 refine zN ?_
 refine zP 8 21 (mb 20 163839) ?_
 refine one_ (i := 15) (N := some 28) (mb 20 196607) rfl rfl (one_of HT_.out uW) uJ (fun K hK => ?_)
 refine goes_ Tryz.func107 uW rfl #[.agg #[.int .u64 a0_3, .int .u64 a0_4], .int .i64 a1, .agg #[.int .i64 a2_0, .int .i64 a2_1, .int .i64 a2_2, .int .i64 a2_3], .int .i64 a3, .int .i64 t218] (by rfl) rfl rfl uE ?_
 with_reducible refine (cookie_tag.calls k a0_3 a0_4 a1 a2_0 a2_1 a2_2 a2_3 a3 t218 t220 _ A7.out).mono ?_
 rintro e w15 ⟨rfl, hb⟩
 refine ⟨_, rfl, ?_⟩
 have n0_ := mA (blk_below (g := gb216) (o := .cells #[.int .i64 a0_0, .int .u64 a0_1, .int .u64 a0_2, .int .u64 a0_3, .int .u64 a0_4, .int .u64 a0_5, .int .u64 a0_6] 31 (0, 0)) uX hb)
 have n1_ := mA (blk_below (g := gb217) (o := .cells #[.int .i64 a2_0, .int .i64 a2_1, .int .i64 a2_2, .int .i64 a2_3] 89 (0, 0)) uX hb)
 have n2_ := mA (below_step uQ hb)
 clear BK216 BK217 HB
 have BK216 := n0_
 have BK217 := n1_
 have HB := n2_
 clear n0_ n1_ n2_ hb
 refine hK.out _ _ ⟨BK216.cz 0, BK216.cz 1, BK216.cz 2, BK216.cz 3, BK216.cz 4, BK216.cz 5, BK216.cz 6, BK217.cz 0, BK217.cz 1, BK217.cz 2, BK217.cz 3⟩ (fun hHeld => ?_)
 clear hK K
 refine zN ?_
 refine zP 16 29 (tf 18 2) ?_
 refine one_ (i := 18) (N := some 31) (tf 19 1) rfl rfl (one_of HT_.out uW) uJ (fun K hK => ?_)
 refine goes_ Tryz.func108 uW rfl #[.agg #[.int .i64 t218, .int .i64 (Go.bits .xor .i64 a3 t219), .int .i64 t220], .int .i64 a1] (by rfl) rfl rfl uE ?_
 with_reducible refine (cookie_parts_number.calls t218 (Go.bits .xor .i64 a3 t219) t220 a1 t221 _ A8.out).mono ?_
 rintro e w16 ⟨rfl, hb⟩
 refine ⟨_, rfl, ?_⟩
 have n0_ := mA (blk_below (g := gb216) (o := .cells #[.int .i64 a0_0, .int .u64 a0_1, .int .u64 a0_2, .int .u64 a0_3, .int .u64 a0_4, .int .u64 a0_5, .int .u64 a0_6] 31 (0, 0)) uX hb)
 have n1_ := mA (blk_below (g := gb217) (o := .cells #[.int .i64 a2_0, .int .i64 a2_1, .int .i64 a2_2, .int .i64 a2_3] 89 (0, 0)) uX hb)
 have n2_ := mA (below_step uQ hb)
 clear BK216 BK217 HB
 have BK216 := n0_
 have BK217 := n1_
 have HB := n2_
 clear n0_ n1_ n2_ hb
 refine hK.out _ _ ⟨BK216.cz 0, BK216.cz 1, BK216.cz 2, BK216.cz 3, BK216.cz 4, BK216.cz 5, BK216.cz 6, BK217.cz 0, BK217.cz 1, BK217.cz 2, BK217.cz 3⟩ (fun hHeld => ?_)
 clear hK K
 refine zN ?_
 refine zP 19 8 (tf 20 0) ?_
 refine done_ (done_of HT_.out uW) ?_
 try go_wp2
 go_ret
 exact ⟨yO, yI⟩
def rtp_within.f (a0 : Int) (a1 : Int) : Option (Int) := if a1 = 0 then (none) else (if (Int.tmod a0 a1) < 0 then (some (wrap64 ((Int.tmod a0 a1) + a1))) else (some (Int.tmod a0 a1)))
theorem rtp_within.calls (a0 : Int) (a1 : Int) (r : Int) (w : World) (h : rtp_within.f a0 a1 = some r) :
 Calls Tryz.prog 11 #[.int .i64 a0, .int .i64 a1] w fun e w' => e = .returned (.int .i64 r) ∧ Drawn0 w w' := by
 have H := h
 unfold rtp_within.f at H
 clear h
 obtain ⟨c3, H⟩ := zin H
 have c3b0 : (a1 == 0) = false := beq_eq_false_iff_ne.mpr c3
 have c3b1 : (a1 != 0) = true := bne_iff_ne.mpr c3
 by_cases c4 : (Int.tmod a0 a1) < 0
 ·rw [if_pos c4] at H
  have c4b0 := decide_eq_true c4
  clear c4
  obtain rfl := Option.some.inj H
  go_enter Tryz.func11, Tryz.ntmps11
  go_wp2
  go_ret
  exact jO
 ·rw [if_neg c4] at H
  have c4b0 := decide_eq_false c4
  clear c4
  obtain rfl := Option.some.inj H
  go_enter Tryz.func11, Tryz.ntmps11
  go_wp2
  go_ret
  exact jO
end
section
attribute [local go_sem] max2_int min2_int max_two min_two max_three min_three max_four min_four
theorem eqA170 (d : Nat) (w : World) (x0 y0 : Int) (x1 y1 : Int) (x2 y2 : Int) :
 (Op.equalIn (d + 2) 170 (.agg #[.int .i64 x0, .int .i64 x1, .int .i64 x2]) (.agg #[.int .i64 y0, .int .i64 y1, .int .i64 y2])).run Tryz.prog w = .ok (x0 == y0 && (x1 == y1 && (x2 == y2))) w := by
 refine eqA_of Tryz.underlying170 uW ?_
 refine eqf_cons (by rfl) vS vS (by go_simp) ?_
 refine eqf_cons (by rfl) vS vS (by go_simp) ?_
 exact eqf_last (by rfl) vS vS (by go_simp)
end
end Go.Proofs.YtkpfojpmigchlaaGreat.Q
