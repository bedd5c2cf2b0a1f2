/- Parts of the proof of TopSwap, laid together and made shorter by a program of this claim. -/
import Derived.RowKit
import Derived.Laws.Entries
import Derived.Laws.BitsLemmas
import Derived.StillTailTactics
import Derived.RegionTactic
import Derived.Deep.DeepCutAuto
import Derived.ScopeJumps
import Derived.WalkMore
import Derived.Laws.MakeOwn
import Derived.LoopTactic
import Derived.Deep.QuietTactic
import Derived.BigQuiet
import Derived.Below
import Derived.Deep.Draws
import Derived.Deep.AppendLies
import Derived.Maps.AppendAt
import Derived.OwnWalk
import Derived.Laws.BytesArg
import Derived.Laws.OwnMore
import Derived.Deep.OwnRows
import Derived.Tactics
import Derived.Lib.ConvBytes
import Derived.Laws.Slices
import Derived.WalkKit
import Derived.KernelRfl
import Derived.RowKit3
import Derived.Deep.LoopGhost
import Derived.WideLaws
import Derived.Deep.CutBlock
import Derived.Deep.RegionHeld3
import Derived.Laws.Rows
import Derived.Lib.AppendStr
import Derived.ArgAppend
import Derived.Laws.IdiomCopy
import Derived.OrdersHeld
import Derived.Deep.MidRow
import Derived.Laws.CopyOwn
import Derived.Scope
import Derived.ChangeKeysEq
import Derived.Laws.Tables
import Derived.Test.YtkpfojpmigchlaaGreatProg
import Derived.Test.YtkpfojpmigchlaaGreatK00
set_option linter.unusedVariables false
set_option linter.unusedSimpArgs false
namespace Go.Proofs.YtkpfojpmigchlaaGreat.Own
open Go.RowKit
def rotl (x : Int) (n : Nat) : Int := Go.bits .or .u64 (IntKind.u64.wrap (x * 2 ^ n)) (x / 2 ^ (64 - n))
def add64 (x y : Int) : Int := IntKind.u64.wrap (x + y)
def xor64 (x y : Int) : Int := Go.bits .xor .u64 x y
def rnd (v : Int × Int × Int × Int) : Int × Int × Int × Int :=
 let a := add64 v.1 v.2.1
 let b := xor64 (rotl v.2.1 13) a
 let a := rotl a 32
 let c := add64 v.2.2.1 v.2.2.2
 let d := xor64 (rotl v.2.2.2 16) c
 let a := add64 a d
 let d := xor64 (rotl d 21) a
 let c := add64 c b
 let b := xor64 (rotl b 17) c
 (a, b, rotl c 32, d)
def rndN : Nat → Int × Int × Int × Int → Int × Int × Int × Int
 | 0, v => v
 | n + 1, v => rnd (rndN n v)
def eat (v : Int × Int × Int × Int) (n : Int) : Int × Int × Int × Int :=
 let r := rnd (rnd (v.1, v.2.1, v.2.2.1, xor64 v.2.2.2 n))
 (xor64 r.1 n, r.2.1, r.2.2.1, r.2.2.2)
def numTo (l : List Int) : Nat → Int
 | 0 => 0
 | k + 1 => Go.bits .or .u64 (numTo l k) (IntKind.u64.wrap (IntKind.u64.wrap (l.getD k 0) * 2 ^ (8 * k)))
def num (l : List Int) : Int := numTo l (min l.length 8)
def sipInit (a b : Int) : Int × Int × Int × Int := (xor64 a 8317987319222330741, xor64 b 7237128888997146477, xor64 a 7816392313619706465, xor64 b 8387220255154660723)
def blks (v : Int × Int × Int × Int) (l : List Int) : Nat → Int × Int × Int × Int
 | 0 => v
 | j + 1 => eat (blks v l j) (num ((l.drop (8 * j)).take 8))
def lastNum (l : List Int) : Int := Go.bits .or .u64 (num (l.drop (8 * (l.length / 8)))) (IntKind.u64.wrap (IntKind.u64.wrap l.length * 2 ^ 56))
def fin (v : Int × Int × Int × Int) : Int :=
 let r := rndN 4 (v.1, v.2.1, xor64 v.2.2.1 255, v.2.2.2)
 xor64 (xor64 (xor64 r.1 r.2.1) r.2.2.1) r.2.2.2
def sipOf (a b : Int) (l : List Int) : Int := fin (eat (blks (sipInit a b) l (l.length / 8)) (lastNum l))
def byteAt (x : Int) (j : Nat) : Int := (IntKind.u64.wrap x / 2 ^ (8 * j)) % 256
def wordTo (x : Int) (j : Nat) : List Int := (List.range j).map (byteAt x)
def wordBytes (l : List Int) : List Int := l.flatMap fun x => wordTo x 8
def sipWords (a b : Int) (l : List Int) : Int := sipOf a b (wordBytes l)
theorem u64_wrap (x : Int) : IntKind.u64.wrap x = x % 18446744073709551616 := by simp [IntKind.wrap, IntKind.bits, IntKind.signed]
theorem u64_in (x : Int) (h0 : 0 ≤ x) (h : x < 18446744073709551616) : IntKind.u64.wrap x = x := by rw [u64_wrap]; omega
theorem wordTo_succ (x : Int) (j : Nat) : wordTo x (j + 1) = wordTo x j ++ [byteAt x j] := by simp [wordTo, List.range_succ]
theorem wordTo_length (x : Int) (j : Nat) : (wordTo x j).length = j := by simp [wordTo]
theorem wordBytes_append (l m : List Int) : wordBytes (l ++ m) = wordBytes l ++ wordBytes m := by simp [wordBytes]
theorem wordBytes_length (l : List Int) : (wordBytes l).length = 8 * l.length := by
 induction l with
 | nil => rfl
 | cons x l ih => simp only [wordBytes, List.flatMap_cons, List.length_append, wordTo_length, List.length_cons] at ih ⊢; omega
theorem wordBytes_take (l : List Int) (j : Nat) (h : j < l.length) : wordBytes (l.take (j + 1)) = wordBytes (l.take j) ++ wordTo (l.getD j 0) 8 := by
 rw [List.take_succ_eq_append_getElem h, wordBytes_append, List.getD_eq_getElem?_getD, List.getElem?_eq_getElem h]
 simp [wordBytes]
theorem len_and (n : Nat) (h : n ≤ 9223372036854775807) : Go.bits .and .i64 (n : Int) 255 = ((n % 256 : Nat) : Int) := by
 have := bits_mask .i64 63 (by decide) (fun m h0 h1 => by rw [IntKind.wrap_i64]; omega) 8 (by decide) (n : Int) (by omega) (by omega)
 rw [show ((2 : Int) ^ 8 - 1) = 255 from rfl] at this
 rw [this]; omega
theorem len_top (n : Nat) : IntKind.u64.wrap (IntKind.u64.wrap ((n % 256 : Nat) : Int) * 2 ^ 56) = IntKind.u64.wrap (IntKind.u64.wrap (n : Int) * 2 ^ 56) := by
 simp only [u64_wrap]; omega
end Go.Proofs.YtkpfojpmigchlaaGreat.Own
-- Short names.
namespace Go.Proofs.YtkpfojpmigchlaaGreat.Zip
variable {P : Prop}
open Go Go.RowKit Go.Proofs.YtkpfojpmigchlaaGreatW.PrintWords Go.Proofs.YtkpfojpmigchlaaGreatW.PrintMore Go.Proofs.YtkpfojpmigchlaaGreatW.PrintLast
theorem uQ (h : P := by (repeat (first | (with_reducible first | exact HB.out | apply below_alloc | apply pw_below_drewN | apply below_drew1 | refine below_set ?_ (Aside0.out (by assumption))) | exact HB.out))) : P := h
theorem uJ (h : P := by (decide)) : P := h
theorem uX (h : P := by ((with_reducible repeat (first | refine blk_drewN ?_ _ | refine blk_drew ?_ | refine blk_alloc ?_ _)); exact Aside0.out (by assumption))) : P := h
theorem uY (h : P := by (omega)) : P := h
theorem uV (h : P := by (first | (with_reducible assumption) | assumption)) : P := h
theorem uW (h : P := by (kernel_rfl)) : P := h
theorem uK (h : P := by (refine blk_put (cs := #[.int .i64 q, .int .u64 y0, .int .u64 y1, .int .u64 y2, .int .u64 y3, .int .u64 y4, .int .u64 0]) ?_ 6 _ rfl; refine blk_put (cs := #[.int .i64 q, .int .u64 y0, .int .u64 y1, .int .u64 y2, .int .u64 y3, .int .u64 0, .int .u64 0]) ?_ 5 _ rfl; refine blk_put (cs := #[.int .i64 q, .int .u64 y0, .int .u64 y1, .int .u64 y2, .int .u64 0, .int .u64 0, .int .u64 0]) ?_ 4 _ rfl; refine blk_put (cs := #[.int .i64 q, .int .u64 y0, .int .u64 y1, .int .u64 0, .int .u64 0, .int .u64 0, .int .u64 0]) ?_ 3 _ rfl; refine blk_put (cs := #[.int .i64 q, .int .u64 y0, .int .u64 0, .int .u64 0, .int .u64 0, .int .u64 0, .int .u64 0]) ?_ 2 _ rfl; refine blk_put (cs := #[.int .i64 q, .int .u64 0, .int .u64 0, .int .u64 0, .int .u64 0, .int .u64 0, .int .u64 0]) ?_ 1 _ rfl; refine blk_put (cs := #[.int .i64 0, .int .u64 0, .int .u64 0, .int .u64 0, .int .u64 0, .int .u64 0, .int .u64 0]) ?_ 0 _ rfl; exact BR.out)) : P := h
theorem uN (h : P := by (first | rfl | (simp; done) | (simp [*]; done))) : P := h
theorem uH (h : P := by (have h_ := HL24.out; omega)) : P := h
theorem uU (h : P := by (assumption)) : P := h
theorem uG (h : P := by (have h_ := HBC.out 20 _ (by have h_ := HL.out; omega) HS.nb; rw [← show ad.add 20 = ⟨ad.block, ad.off + 20, none⟩ from by simp [Addr.add]]; exact h_)) : P := h
theorem uB (h : P := by (have h_ := HL.out; omega)) : P := h
theorem uD (h : P := by (have h_ := H16.out; omega)) : P := h
theorem uC (h : P := by ((try simp only [List.map_toArray, List.map_cons, List.map_nil]); first | done | (rw [show (l0.take 16).length = 16 from (by rw [List.length_take]; have h_ : (16 : Int) ≤ (l0.length : Int) := of_decide_eq_true (by first | (with_reducible assumption) | assumption); omega)] <;> rfl) | rfl | (simp only [List.length_drop, List.length_take]; rfl))) : P := h
theorem uF (h : P := by (have h_ := HBC.out 12 _ (by have h_ := HL24.out; omega) HS.out.C; rw [← show ad.add 12 = ⟨ad.block, ad.off + 12, none⟩ from by simp [Addr.add]]; exact h_)) : P := h
theorem uL (h : P := by (have h_ := HBC.out 1 _ (by have h_ := HL24.out; omega) HS.out.C; rw [← show ad.add 1 = ⟨ad.block, ad.off + 1, none⟩ from by simp [Addr.add]]; exact h_)) : P := h
theorem uM (h : P := by (have h_ := HBC.out 12 _ (by have h_ := H16.out; omega) HS.nb; rw [← show ad.add 12 = ⟨ad.block, ad.off + 12, none⟩ from by simp [Addr.add]]; exact h_)) : P := h
theorem uP (h : P := by (first | with_reducible exact (out_calls _ _ _ false HS.out _) | with_reducible exact (out_calls _ _ _ false (by decide) _))) : P := h
theorem uR (h : P := by (first | with_reducible exact (out_calls _ _ _ true HS.out _) | with_reducible exact (out_calls _ _ _ false (by decide) _))) : P := h
theorem uS (h : P := by (have h_ := HBC.out 1 _ (by have h_ := H16.out; omega) HS.nb; rw [← show ad.add 1 = ⟨ad.block, ad.off + 1, none⟩ from by simp [Addr.add]]; exact h_)) : P := h
theorem uT (h : P := by (have h_ := HBC.out 0 _ (by have h_ := H16.out; omega) HS.nb; rw [Addr.add_zero'] at h_; exact h_)) : P := h
theorem uE (h : P := by ((try simp only [List.map_toArray, List.map_cons, List.map_nil]); first | done | rfl | (simp only [List.length_drop, List.length_take]; rfl))) : P := h
theorem uA (h : P := by (first | (go_simp; done) | (go_simp; rfl))) : P := h
theorem uI (h : P := by (have h_ := HBC.out 0 _ (by have h_ := HL24.out; omega) HS.out.C; rw [Addr.add_zero'] at h_; exact h_)) : P := h
theorem uO (h : P := by (first | with_reducible exact (out_calls _ _ _ false HS.out _) | with_reducible exact (out_calls _ _ _ false HA.out _) | with_reducible exact (out_calls _ _ _ false HBB.out _) | with_reducible exact (out_calls _ _ _ false HC.out _) | with_reducible exact (out_calls _ _ _ false (by decide) _))) : P := h
theorem xZ (h : P := by (first | with_reducible exact (out_calls _ _ _ true HS.out _) | with_reducible exact (out_calls _ _ _ false HA.out _) | with_reducible exact (out_calls _ _ _ false HBB.out _) | with_reducible exact (out_calls _ _ _ false HC.out _) | with_reducible exact (out_calls _ _ _ false (by decide) _))) : P := h
theorem xQ (h : P := by (have h_ := HLN.out; omega)) : P := h
theorem xJ (h : P := by (rw [pcs_size ({ p with ver := wrap64 (p.ver + 1) } : PL) HP.out]; have h_ := hlt_.out; simp only [List.size_toArray, List.length_cons, List.length_nil]; omega)) : P := h
theorem xX (h : P := by (have h_ := HBC.out 16 _ (by have h_ := HL.out; omega) HS.nb; rw [← show ad.add 16 = ⟨ad.block, ad.off + 16, none⟩ from by simp [Addr.add]]; exact h_)) : P := h
theorem xY (h : P := by (rw [List.length_take]; have h_ : (16 : Int) ≤ (l0.length : Int) := of_decide_eq_true (by first | (with_reducible assumption) | assumption); omega)) : P := h
theorem xV (h : P := by (simp only [List.map_toArray, List.map_cons, List.map_nil]; rfl)) : P := h
theorem xW (h : P := by (have h_ := HZ.out; exact h_.2.2.1)) : P := h
theorem xK (h : P := by (rw [List.length_drop, List.length_take]; have h_ : (12 : Int) ≤ (l0.length : Int) := of_decide_eq_true (by first | (with_reducible assumption) | assumption); omega)) : P := h
theorem xN (h : P := by (have h1_ := HN.out; omega)) : P := h
theorem xH (h : P := by (have h_ := Hj.out; simp; omega)) : P := h
theorem xU (h : P := by (simp)) : P := h
theorem xG (h : P := by (have h_ := HZ.out; exact h_.2.1)) : P := h
theorem xB (h : P := by (repeat (first | (with_reducible first | exact HB.out | apply below_alloc | apply pw_below_drewN | apply below_drew1 | refine below_set ?_ (below_size HB.out)) | exact HB.out))) : P := h
theorem xD (h : P := by (rw [show setMany #[.int .i64 0, .int .i64 0, .bool false, .slice none 0 0] 0 (#[.int .i64 dx, .int .i64 sx, .bool bx, .slice Ax nx cx] : Array Value).toList = #[.int .i64 dx, .int .i64 sx, .bool bx, .slice Ax nx cx] from many4 .. ] at hb_; exact hb_)) : P := h
theorem xC (h : P := by (have h_ := HZ.out; omega)) : P := h
theorem xF (h : P := by (have h_ := HA.out; omega)) : P := h
theorem xL (h : P := by ((with_reducible repeat (first | apply Kd.R_alloc | apply Kd.R_drewN | apply Kd.R_drew)); exact Kd.R_mono HO117.out (fun _ hk => ⟨hk.2, hk.1.2⟩))) : P := h
theorem xM (h : P := by ((with_reducible repeat (first | apply Kd.R_alloc | apply Kd.R_drewN | apply Kd.R_drew)); exact Kd.R_mono HO121.out (fun _ hk => ⟨hk.2, hk.1.2⟩))) : P := h
theorem xP (h : P := by (have h_ : (x56_5 : Int) < ((x5_7.length : Int) : Int) := of_decide_eq_true (by first | (with_reducible assumption) | assumption); first | exact h_ | (have e_ := (Kd.R_reads' HO_5.out).1; omega) | simpa using h_)) : P := h
theorem xR (h : P := by (simp only [putAll, Act.put, List.setIfInBounds_toArray, List.set_cons_zero, List.set_cons_succ])) : P := h
theorem xS (h : P := by (first | omega | exact of_decide_eq_true (by first | (with_reducible assumption) | assumption))) : P := h
theorem xT (h : P := by (repeat (first | (with_reducible first | exact HK.out | apply Kept.alloc | apply Kept.drewN | apply Kept.drew) | exact HK.out))) : P := h
theorem xE (h : P := by (have h_ := HPK.out.2.2; omega)) : P := h
theorem xA (h : P := by (first | exact List.Sublist.refl _ | (repeat (first | exact List.nil_sublist _ | exact List.Sublist.refl _ | apply List.Sublist.cons_cons | apply List.Sublist.cons)))) : P := h
theorem xI (h : P := by (have h_ : (12 : Int) ≤ (l0.length : Int) := of_decide_eq_true (by first | (with_reducible assumption) | assumption); rw [List.length_drop, List.length_take]; omega)) : P := h
theorem xO (h : P := by (have h_ := HBC.out 17 _ (by have h_ := HL24.out; omega) HS.out.C; rw [← show ad.add 17 = ⟨ad.block, ad.off + 17, none⟩ from by simp [Addr.add]]; exact h_)) : P := h
theorem vZ (h : P := by (have h_ := HBC.out 21 _ (by have h_ := HL24.out; omega) HS.out.C; rw [← show ad.add 21 = ⟨ad.block, ad.off + 21, none⟩ from by simp [Addr.add]]; exact h_)) : P := h
theorem vQ (h : P := by (have h_ := HBC.out 13 _ (by have h_ := H16.out; omega) HS.nb; rw [← show ad.add 13 = ⟨ad.block, ad.off + 13, none⟩ from by simp [Addr.add]]; exact h_)) : P := h
theorem vJ (h : P := by (have h1_ := HN.out; have h2_ := HL2.out; omega)) : P := h
theorem vX (h : P := by (have h1_ := HN.out; have h2_ := HNB.out; omega)) : P := h
theorem vY (h : P := by (have h_ := HN0.out; omega)) : P := h
theorem vV (h : P := by (rw [HP.out]; exact H01.out.2)) : P := h
theorem vW (h : P := by ((with_reducible repeat (first | apply Kd.R_alloc | apply Kd.R_drewN | apply Kd.R_drew)); exact Kd.R_mono HO_3.out (fun _ hk => ⟨hk.1.2, hk.2⟩))) : P := h
theorem vK (h : P := by (have h_ := HI.out; omega)) : P := h
theorem vN (h : P := by (simp [Value.oneCell'])) : P := h
theorem vH (h : P := by (have h_ := HLEN.out; first | omega | (unfold wrap64; omega))) : P := h
theorem vU (h : P := by (have h_ := HL.out; have h2_ := HM.out; simp only [List.length_nil]; omega)) : P := h
theorem vG (h : P := by (have h_ := H1.out; omega)) : P := h
theorem vB (h : P := by (rw [Array.length_toList, hs]; kernel_rfl)) : P := h
theorem vD (h : P := by (first | with_reducible exact (out_calls _ _ _ false (by decide) _))) : P := h
theorem vC (h : P := by (rw [pcs_size p HP.out]; decide)) : P := h
theorem vF (h : P := by (have h_ := HF9.out.1; have h2_ := HN.out; omega)) : P := h
theorem vL (h : P := by (have h_ := HA.out; have h2_ := HZ.out; omega)) : P := h
theorem vM (h : P := by (rw [HP.out]; exact H0.out.2)) : P := h
theorem vP (h : P := by (simpa using h0)) : P := h
theorem vR (h : P := by (have h_ := HNB.out; omega)) : P := h
theorem vS (h : P := by (go_simp; rfl)) : P := h
theorem vT (h : P := by (rw [X5_len]; omega)) : P := h
theorem vE (h : P := by (simp only [List.length_nil]; omega)) : P := h
theorem vA (h : P := by (have h1_ := HN.out; have h2_ := HN0.out; omega)) : P := h
theorem vI (h : P := by (have h_ := HDL.out; omega)) : P := h
theorem vO (h : P := by (have h_ := HN.out; omega)) : P := h
theorem wQ (h : P := by (have h2_ := (Kd.R_reads' HO_3.out).1; omega)) : P := h
theorem wV (h : P := by (simpa using h1)) : P := h
theorem wW (h : P := by (rw [List.length_take]; omega)) : P := h
theorem wN (h : P := by (simp; omega)) : P := h
theorem zZ (h : P := by
  obtain rfl : j = 8 := by omega
  have HO2 := mA HO.out
  go_wp2
  go_roundw
  case rel => exact ⟨k + 1, by omega, by go_num, ⟨by rw [← words_in l k hlt]; exact HO2.out⟩, HB⟩
  case measure => simp [intOf]; omega) : P := h
theorem zQ (h : P := by
  rw [if_neg c8] at H
  have c8b0 := decide_eq_false c8
  rw [HLN.out] at c8b0
  clear c8
  obtain rfl := Option.some.inj H
  go_wp2
  go_ret
  exact ⟨by first | rfl | (simp; done) | (simp [*]; done), by repeat (first | exact Drawn0.refl _ | apply Drawn0.step)⟩) : P := h
theorem zJ (h : P := by
  rw [if_neg c4] at H
  exact absurd H (by simp)) : P := h
theorem zY (h : P := by
  rw [if_neg c5] at H
  have c5b0 : decide (0 ≤ x8_1) = false := decide_eq_false c5
  clear c5
  obtain rfl := Option.some.inj H
  go_wp2
  first | go_end0 | ((try simp only [Exit.inBlock, Exit.then]); refine bodyPost_ret (results_none rfl _ _ _) rfl ?_)
  exact ⟨by first | rfl | (simp [errW_none, errW_some] <;> rfl) | (simp [*, errW_none, errW_some] <;> rfl), by (with_reducible repeat (first | apply Kd.R_alloc | apply Kd.R_drewN | apply Kd.R_drew)); exact HO_0.out, by repeat (first | (with_reducible first | exact HB.out | apply below_alloc | apply pw_below_drewN | apply below_drew1 | refine below_set ?_ (Aside0.out (by assumption))) | exact HB.out), by repeat (first | (with_reducible first | exact HK.out | apply Kept.alloc | apply Kept.drewN | apply Kept.drew) | exact HK.out)⟩) : P := h
theorem zV (h : P := by
  rw [if_neg c2] at H
  exact absurd H (by simp)) : P := h
theorem zK (h : P := by
  simp only [putAll, Act.put, List.setIfInBounds_toArray, List.set_cons_zero, List.set_cons_succ]
  rfl) : P := h
theorem zH (h : P := by
  rintro w' ⟨s0, s1, s2, s3, s4, s5, s6, s7, s8, s9, s10⟩
  go_simp
  with_reducible rfl) : P := h
theorem zU (h : P := by
  simp only [q_s]
  rfl) : P := h
theorem zD (h : P := by
  iterate 4
   refine Steps.on (v := ?_) (a1 := ?_) rfl rfl (by rfl) ?_ ?_ ?_
   rotate_left
   ·rintro w' ⟨s0, s1, s2, s3⟩
    go_simp
    with_reducible rfl
   rotate_left
   ·simp only [q_s]
    rfl
  refine Steps.on (v := ?_) (a1 := ?_) rfl rfl (by rfl) ?_ ?_ ?_
  rotate_left
  ·intro w' hs
   refine (run_ld29 _ _ w' gk #[.int .u64 ka, .int .u64 kb] (.tmp 12) ?_ ?_ hs.2.2.1 rfl).trans ?_
   ·rfl
   ·rfl
   ·with_reducible rfl
  rotate_left
  ·simp only [q_s]
   rfl
  refine Steps.on (v := ?_) (a1 := ?_) rfl rfl (by rfl) ?_ ?_ ?_
  rotate_left
  ·intro w' hs
   refine (run_ld89 _ _ w' gf #[.int .i64 a, .int .i64 b, .int .i64 c, .int .i64 d] (.tmp 6) ?_ ?_ hs.2.2.2 rfl).trans ?_
   ·rfl
   ·rfl
   ·with_reducible rfl
  rotate_left
  ·simp only [q_s]
   rfl
  refine Steps.on (v := ?_) (a1 := ?_) rfl rfl (by rfl) ?_ ?_ ?_
  rotate_left
  ·rintro w' ⟨s0, s1, s2, s3⟩
   go_simp
   with_reducible rfl
  rotate_left
  ·simp only [q_s]
   rfl
  exact Steps.end_) : P := h
theorem zF (h : P := by
  iterate 7
   refine Steps.on (v := ?_) (a1 := ?_) rfl rfl (by rfl) ?_ ?_ ?_
   rotate_left
   ·rintro w' ⟨s0, s1, s2, s3⟩
    go_simp
    with_reducible rfl
   rotate_left
   ·simp only [q_s]
    rfl
  refine Steps.on (v := ?_) (a1 := ?_) rfl rfl (by rfl) ?_ ?_ ?_
  rotate_left
  ·intro w' hs
   refine (run_ld29 _ _ w' gk #[.int .u64 ka, .int .u64 kb] (.tmp 12) ?_ ?_ hs.2.2.1 rfl).trans ?_
   ·rfl
   ·rfl
   ·with_reducible rfl
  rotate_left
  ·simp only [q_s]
   rfl
  refine Steps.on (v := ?_) (a1 := ?_) rfl rfl (by rfl) ?_ ?_ ?_
  rotate_left
  ·intro w' hs
   refine (run_ld89 _ _ w' gf #[.int .i64 a, .int .i64 b, .int .i64 c, .int .i64 d] (.tmp 6) ?_ ?_ hs.2.2.2 rfl).trans ?_
   ·rfl
   ·rfl
   ·with_reducible rfl
  rotate_left
  ·simp only [q_s]
   rfl
  refine Steps.on (v := ?_) (a1 := ?_) rfl rfl (by rfl) ?_ ?_ ?_
  rotate_left
  ·rintro w' ⟨s0, s1, s2, s3⟩
   go_simp
   with_reducible rfl
  rotate_left
  ·simp only [q_s]
   rfl
  exact Steps.end_) : P := h
theorem zM (h : P := by
  skip
  have d0_ : decide (x < 0) = true := decide_eq_true (by omega)
  clear H1 h1
  go_wp2_with fail
  go_ret2
  exact ⟨rfl, HS.nb⟩) : P := h
theorem zE (h : P := by
  rintro w' ⟨s0, s1, s2, s3⟩
  go_simp
  with_reducible rfl) : P := h
theorem zI (h : P := by
  intro w' hs
  refine (run_ld31 _ _ w' gr #[.int .i64 p.ep, .int .u64 p.k1, .int .u64 p.k2, .int .u64 p.k3, .int .u64 p.k4, .int .u64 p.k5, .int .u64 p.k6] (.tmp 6) ?_ ?_ hs.1 rfl).trans ?_
  ·rfl
  ·rfl
  ·with_reducible rfl) : P := h
theorem jZ (h : P := by
  intro w' hs
  refine (run_ld89 _ _ w' gf #[.int .i64 a, .int .i64 b, .int .i64 c, .int .i64 d] (.tmp 3) ?_ ?_ hs.2.1 rfl).trans ?_
  ·rfl
  ·rfl
  ·with_reducible rfl) : P := h
theorem jQ (h : P := by
  rintro w' ⟨s0, s1, s2⟩
  go_simp
  with_reducible rfl) : P := h
theorem jJ (h : P := by
  iterate 7
   refine Steps.on (v := ?_) (a1 := ?_) rfl rfl (by rfl) ?_ ?_ ?_
   rotate_left
   ·rintro w' ⟨s0, s1, s2⟩
    go_simp
    with_reducible rfl
   rotate_left
   ·simp only [q_s]
    rfl
  refine Steps.on (v := ?_) (a1 := ?_) rfl rfl (by rfl) ?_ ?_ ?_
  rotate_left
  ·intro w' hs
   refine (run_ld89 _ _ w' gf #[.int .i64 q.frm, .int .i64 q.fp, .int .i64 p.addr, .int .i64 p.port] (.tmp 4) ?_ ?_ hs.2.2 rfl).trans ?_
   ·rfl
   ·rfl
   ·with_reducible rfl
  rotate_left
  ·simp only [q_s]
   rfl
  exact Steps.end_) : P := h
theorem jX (h : P := by
  skip
  have d0 : decide (sl < 0) = true := decide_eq_true hn
  have HNEG := mA hn
  clear hn
  go_wp2_with (first
   | (go_at_call 23; refine (drop_c 9 _).mono ?_; rintro e_ wa ⟨Ax, nx, cx, rfl, hR_, hb_⟩; replace HV := HV.rb hb_; replace HS := HS.rw_ hR_ hb_; clear hR_ hb_)
   | (refine zS 41 2 HS 2 ?_; clear HS; intro wb HS z_; replace HV := z_ HV; clear z_))
  refine bodyPost_ret (results_cell_row rfl _ _ _ _ _ (0, 0) _ rfl HS.b2 Tryz.underlying41 rfl (by kernel_rfl)) rfl ?_
  exact ⟨⟨_, _, _, _, _, _, _, rfl, Kd.R_lower HS.r0 (Nat.zero_le _), fun h => by rw [HG.out h, inT_n HNEG.out]⟩, HS.out.C⟩) : P := h
theorem jY (h : P := by
  skip
  have HI := mA hi
  clear hi
  have d0 : decide ((i : Int) < 0) = false := decide_eq_false (by omega)
  have d1 : decide (64 ≤ (i : Int)) = false := decide_eq_false (by have h_ := HI.out; omega)
  have q0 : ((i : Int) < 64) = True := eq_true (by have h_ := HI.out; omega)
  have q1 : (0 ≤ (i : Int)) = True := eq_true (by omega)
  obtain ⟨sv, hsv⟩ : ∃ x : S25, x = rd_T25 p.sl (i : Int) := ⟨_, rfl⟩
  have HSV := mA hsv
  clear hsv
  obtain ⟨er, l1, hn⟩ : ∃ er l1, natF l false sv.f1 sv.f2 = (er, l1) := ⟨_, _, rfl⟩
  have HN := mA hn
  clear hn
  obtain ⟨x0_, x1_, x2_, x3_, x4_⟩ := slot_c HS.b1 HU.out.L i HI.out HSV.out
  go_upto_region 10 with (first
   | (refine zB 7 HS (run_al25 _ _ _ rfl) ?_; clear HS; intro gs wa HS z_; replace HV := z_ HV; clear z_ x0_ x1_ x2_ x3_ x4_)
   | (refine zS 25 7 HS 0 ?_; clear HS; intro wb HS z_; replace HV := z_ HV; clear z_))
  replace HS := HS.dr
  replace HV := mA (Kd.R_below HV.out (below_drew1 (Below.refl wb.heap.size wb)))
  refine start_ (n := 13) (S := fun w' => w'.cell? ⟨k, 14, none⟩ = some (.slice A l.length c) ∧ w'.cell? ⟨gs, 1, none⟩ = some (.int .i64 sv.f1) ∧ w'.cell? ⟨gs, 2, none⟩ = some (.int .i64 sv.f2)) (ds := [12]) (tf 0 13) (by kernel_rfl) rfl rfl ⟨(blk_cell HS.b4 14).trans rfl, (blk_cell HS.b0 1).trans rfl, (blk_cell HS.b0 2).trans rfl⟩ (fun hHeld => ?_)
  generalize wb.drew = wc at HS HV hHeld ⊢
  refine zR [(0,70),(1,71),(2,72),(3,73),(5,75),(7,77),(4,74),(6,76),(8,78)] 4 ?_ ?_
  refine zO 9 (tf 10 3) fun K hK => ?_
  refine zG Tryz.func69 ((nat_c _ _ _ _ HV.out (byl HBY.out) false sv.f1 sv.f2 HN.out).mono ?_)
  rintro e_ wd ⟨A1, c1, rfl, hR_, hy_, hb_⟩
  refine ⟨_, rfl, ?_⟩
  have HY1 : Aside0 (∀ x ∈ l1, 0 ≤ x ∧ x ≤ 255) := ⟨hy_⟩
  clear hy_
  replace HV := HV.rb hb_
  replace HS := HS.rw_ hR_ hb_
  clear hR_ hb_ hHeld
  refine hK.out _ _ ⟨(blk_cell HS.b4 14).trans rfl, (blk_cell HS.b0 1).trans rfl, (blk_cell HS.b0 2).trans rfl⟩ (fun hHeld => ?_)
  clear hK K
  refine zN ?_
  refine zR [(10,80),(11,81)] 1 ?_ ?_
  refine last_ (i := 12) (N := some 82) (tf 13 0) rfl rfl (by kernel_rfl) (by decide) (fun K hK => ?_)
  refine zG Tryz.func25 ((then_calls k q _ _ _ _ _ _ _ _ _ _ _ HS.b4).mono ?_)
  rintro e_ we ⟨rfl, hk_, hc_⟩
  refine ⟨_, rfl, ?_⟩
  obtain ⟨A2, c2, l2, ht_, hv_, hl_⟩ := thenB_row er (bytes_chg HS.r0 HS.b4 (by decide) hc_) (bytes_chg HV.out HS.b4 (by decide) hc_)
  rw [ht_] at hk_
  replace HBY : Aside0 (∀ x ∈ l2, 0 ≤ x ∧ x ≤ 255) := ⟨by rw [hl_]; exact thenL_by HY1.out HBY.out⟩
  have HL_l2 := mA hl_
  replace HV := mA hv_
  clear ht_ hv_ hl_
  replace HS := mA (HS.out.upd 4 rfl hk_ hc_)
  simp only [List.set_cons_zero, List.set_cons_succ] at HS
  clear hk_ hc_ hHeld
  refine hK.out _ _ ?_
  clear hK K
  refine zN ?_
  refine done_ (by kernel_rfl) ?_
  have k11_ := bc HS.b4 11
  go_upto_region 12 with (first
   | (go_at_call 70; refine (Opt.stamp_any Ao co q.opts _ (Kd.R_reads' (HS.out.C.rowR HO.out HOK.out)).2.2 HNC.out (by have h_ := HOL.out; omega) HOB.out).mono ?_; rintro e_ wf ⟨sp, sv2, sx, sb, rfl, hse_, hb_⟩; clear hse_; replace HV := HV.rb hb_; clear k11_; replace HS := HS.bl hb_; clear hb_; have k0_ := bc HS.b4 0))
  cases sb with
  | false =>
   have k14_ := bc HS.b4 14
   go_wp2_with (first
    | (refine zS 41 2 HS 3 ?_; clear HS; intro wg HS z_; replace HV := z_ HV; clear z_ k0_ k14_))
   refine bodyPost_ret (results_cell_row rfl _ _ _ _ _ (0, 0) _ rfl HS.b3 Tryz.underlying41 rfl (by kernel_rfl)) rfl ?_
   exact ⟨⟨_, _, _, _, _, _, _, rfl, HV.out, fun h => by rw [HG.out h, HL_l2.out]; exact (inT_p HSV.out HN.out).symm⟩, HS.out.C⟩
  | true =>
   rcases HKD.out with hk | hk
   ·skip
    have kb : (q.kind == 1) = false := by rw [hk]; rfl
    clear hk
    have k14_ := bc HS.b4 14
    go_wp2_with (first
     | (refine zS 41 2 HS 3 ?_; clear HS; intro wg HS z_; replace HV := z_ HV; clear z_ k0_ k14_))
    refine bodyPost_ret (results_cell_row rfl _ _ _ _ _ (0, 0) _ rfl HS.b3 Tryz.underlying41 rfl (by kernel_rfl)) rfl ?_
    exact ⟨⟨_, _, _, _, _, _, _, rfl, HV.out, fun h => by rw [HG.out h, HL_l2.out]; exact (inT_p HSV.out HN.out).symm⟩, HS.out.C⟩
   ·skip
    have HK1 := mA hk
    have kb : (q.kind == 1) = true := by rw [hk]; rfl
    clear hk
    by_cases hx : sx = 0
    ·skip
     have kx : (sx != 0) = false := by rw [hx]; rfl
     clear hx
     have k14_ := bc HS.b4 14
     go_wp2_with (first
      | (refine zS 41 2 HS 3 ?_; clear HS; intro wg HS z_; replace HV := z_ HV; clear z_ k0_ k14_))
     refine bodyPost_ret (results_cell_row rfl _ _ _ _ _ (0, 0) _ rfl HS.b3 Tryz.underlying41 rfl (by kernel_rfl)) rfl ?_
     exact ⟨⟨_, _, _, _, _, _, _, rfl, HV.out, fun h => absurd (h.symm.trans HK1.out) (by decide)⟩, HS.out.C⟩
    ·skip
     have kx : (sx != 0) = true := bne_iff_ne.2 hx
     clear hx
     have k13_ := bc HS.b4 13
     go_upto_region 15 with (first
      | (go_at_call 71; refine (near_calls (HU.out.chg HS.out.C HGK.out HWK.out) i HI.out).mono ?_; rintro e_ wg ⟨⟨nx, nb, rfl⟩, hb_⟩; replace HV := HV.rb hb_; clear k0_ k13_; replace HS := HS.bl hb_; clear hb_))
     cases nb with
     | false =>
      have k14_ := bc HS.b4 14
      obtain ⟨er2, l3, hn2⟩ : ∃ er2 l3, writeF l2 (wrap64 (wrap64 (24 + sp) + 4)) 4 0 4294967296 = (er2, l3) := ⟨_, _, rfl⟩
      have HN2 := mA hn2
      clear hn2
      go_upto_region 18 with (first
       | (go_at_call 65; refine (write4_c _ _ _ _ HV.out (byl HBY.out) _ _ HN2.out).mono ?_; rintro e_ wi ⟨A3, c3, rfl, hR_, hy_, hb_⟩; have HY3 : Aside0 (∀ x ∈ l3, 0 ≤ x ∧ x ≤ 255) := ⟨hy_⟩; clear hy_; replace HV := HV.rb hb_; clear k14_; replace HS := HS.rw_ hR_ hb_; clear hR_ hb_)
       | (go_at_call 25; refine (then_calls k q _ _ _ _ _ _ _ _ _ _ _ HS.b4).mono ?_; rintro e_ wj ⟨rfl, hk_, hc_⟩; obtain ⟨A4, c4, l4, ht_, hv_, hl_⟩ := thenB_row er2 (bytes_chg HS.r0 HS.b4 (by decide) hc_) (bytes_chg HV.out HS.b4 (by decide) hc_); rw [ht_] at hk_; replace HBY : Aside0 (∀ x ∈ l4, 0 ≤ x ∧ x ≤ 255) := ⟨by rw [hl_]; exact thenL_by HY3.out HBY.out⟩; have HL_l4 := mA hl_; replace HV := mA hv_; clear ht_ hv_ hl_; replace HS := mA (HS.out.upd 4 rfl hk_ hc_); simp only [List.set_cons_zero, List.set_cons_succ] at HS; clear hk_ hc_))
      have k14_ := bc HS.b4 14
      go_wp2_with (first
       | (refine zS 41 2 HS 3 ?_; clear HS; intro wk HS z_; replace HV := z_ HV; clear z_ k14_))
      refine bodyPost_ret (results_cell_row rfl _ _ _ _ _ (0, 0) _ rfl HS.b3 Tryz.underlying41 rfl (by kernel_rfl)) rfl ?_
      exact ⟨⟨_, _, _, _, _, _, _, rfl, HV.out, fun h => absurd (h.symm.trans HK1.out) (by decide)⟩, HS.out.C⟩
     | true =>
      have k14_ := bc HS.b4 14
      obtain ⟨bk, hbk⟩ := back_some sx nx
      have HBK := mA hbk
      clear hbk
      obtain ⟨er2, l3, hn2⟩ : ∃ er2 l3, writeF l2 (wrap64 (wrap64 (24 + sp) + 4)) 4 (wrap64 bk) 4294967296 = (er2, l3) := ⟨_, _, rfl⟩
      have HN2 := mA hn2
      clear hn2
      go_upto_region 18 with (first
       | (go_at_call 72; refine (cookie_Back.calls sx nx bk _ HBK.out).mono ?_; rintro e_ wh ⟨rfl, hd_⟩; have hb_ := hd_.below; clear hd_; replace HV := HV.rb hb_; clear k14_; replace HS := HS.bl hb_; clear hb_; have k14_ := bc HS.b4 14)
       | (go_at_call 65; refine (write4_c _ _ _ _ HV.out (byl HBY.out) _ _ HN2.out).mono ?_; rintro e_ wi ⟨A3, c3, rfl, hR_, hy_, hb_⟩; have HY3 : Aside0 (∀ x ∈ l3, 0 ≤ x ∧ x ≤ 255) := ⟨hy_⟩; clear hy_; replace HV := HV.rb hb_; clear k14_; replace HS := HS.rw_ hR_ hb_; clear hR_ hb_)
       | (go_at_call 25; refine (then_calls k q _ _ _ _ _ _ _ _ _ _ _ HS.b4).mono ?_; rintro e_ wj ⟨rfl, hk_, hc_⟩; obtain ⟨A4, c4, l4, ht_, hv_, hl_⟩ := thenB_row er2 (bytes_chg HS.r0 HS.b4 (by decide) hc_) (bytes_chg HV.out HS.b4 (by decide) hc_); rw [ht_] at hk_; replace HBY : Aside0 (∀ x ∈ l4, 0 ≤ x ∧ x ≤ 255) := ⟨by rw [hl_]; exact thenL_by HY3.out HBY.out⟩; have HL_l4 := mA hl_; replace HV := mA hv_; clear ht_ hv_ hl_; replace HS := mA (HS.out.upd 4 rfl hk_ hc_); simp only [List.set_cons_zero, List.set_cons_succ] at HS; clear hk_ hc_))
      have k14_ := bc HS.b4 14
      go_wp2_with (first
       | (refine zS 41 2 HS 3 ?_; clear HS; intro wk HS z_; replace HV := z_ HV; clear z_ k14_))
      refine bodyPost_ret (results_cell_row rfl _ _ _ _ _ (0, 0) _ rfl HS.b3 Tryz.underlying41 rfl (by kernel_rfl)) rfl ?_
      exact ⟨⟨_, _, _, _, _, _, _, rfl, HV.out, fun h => absurd (h.symm.trans HK1.out) (by decide)⟩, HS.out.C⟩) : P := h
theorem jV (h : P := by
  skip
  have kb : (q.kind == 1) = false := by rw [hk]; rfl
  clear hk
  have k14_ := bc HS.b4 14
  go_wp2_with (first
   | (refine zS 41 2 HS 3 ?_; clear HS; intro wg HS z_; replace HV := z_ HV; clear z_ k0_ k14_))
  refine bodyPost_ret (results_cell_row rfl _ _ _ _ _ (0, 0) _ rfl HS.b3 Tryz.underlying41 rfl (by kernel_rfl)) rfl ?_
  exact ⟨⟨_, _, _, _, _, _, _, rfl, HV.out, fun h => by rw [HG.out h, HL_l2.out]; exact (inT_p HSV.out HN.out).symm⟩, HS.out.C⟩) : P := h
theorem jW (h : P := by
  skip
  have HK1 := mA hk
  have kb : (q.kind == 1) = true := by rw [hk]; rfl
  clear hk
  by_cases hx : sx = 0
  ·skip
   have kx : (sx != 0) = false := by rw [hx]; rfl
   clear hx
   have k14_ := bc HS.b4 14
   go_wp2_with (first
    | (refine zS 41 2 HS 3 ?_; clear HS; intro wg HS z_; replace HV := z_ HV; clear z_ k0_ k14_))
   refine bodyPost_ret (results_cell_row rfl _ _ _ _ _ (0, 0) _ rfl HS.b3 Tryz.underlying41 rfl (by kernel_rfl)) rfl ?_
   exact ⟨⟨_, _, _, _, _, _, _, rfl, HV.out, fun h => absurd (h.symm.trans HK1.out) (by decide)⟩, HS.out.C⟩
  ·skip
   have kx : (sx != 0) = true := bne_iff_ne.2 hx
   clear hx
   have k13_ := bc HS.b4 13
   go_upto_region 15 with (first
    | (go_at_call 71; refine (near_calls (HU.out.chg HS.out.C HGK.out HWK.out) i HI.out).mono ?_; rintro e_ wg ⟨⟨nx, nb, rfl⟩, hb_⟩; replace HV := HV.rb hb_; clear k0_ k13_; replace HS := HS.bl hb_; clear hb_))
   cases nb with
   | false =>
    have k14_ := bc HS.b4 14
    obtain ⟨er2, l3, hn2⟩ : ∃ er2 l3, writeF l2 (wrap64 (wrap64 (24 + sp) + 4)) 4 0 4294967296 = (er2, l3) := ⟨_, _, rfl⟩
    have HN2 := mA hn2
    clear hn2
    go_upto_region 18 with (first
     | (go_at_call 65; refine (write4_c _ _ _ _ HV.out (byl HBY.out) _ _ HN2.out).mono ?_; rintro e_ wi ⟨A3, c3, rfl, hR_, hy_, hb_⟩; have HY3 : Aside0 (∀ x ∈ l3, 0 ≤ x ∧ x ≤ 255) := ⟨hy_⟩; clear hy_; replace HV := HV.rb hb_; clear k14_; replace HS := HS.rw_ hR_ hb_; clear hR_ hb_)
     | (go_at_call 25; refine (then_calls k q _ _ _ _ _ _ _ _ _ _ _ HS.b4).mono ?_; rintro e_ wj ⟨rfl, hk_, hc_⟩; obtain ⟨A4, c4, l4, ht_, hv_, hl_⟩ := thenB_row er2 (bytes_chg HS.r0 HS.b4 (by decide) hc_) (bytes_chg HV.out HS.b4 (by decide) hc_); rw [ht_] at hk_; replace HBY : Aside0 (∀ x ∈ l4, 0 ≤ x ∧ x ≤ 255) := ⟨by rw [hl_]; exact thenL_by HY3.out HBY.out⟩; have HL_l4 := mA hl_; replace HV := mA hv_; clear ht_ hv_ hl_; replace HS := mA (HS.out.upd 4 rfl hk_ hc_); simp only [List.set_cons_zero, List.set_cons_succ] at HS; clear hk_ hc_))
    have k14_ := bc HS.b4 14
    go_wp2_with (first
     | (refine zS 41 2 HS 3 ?_; clear HS; intro wk HS z_; replace HV := z_ HV; clear z_ k14_))
    refine bodyPost_ret (results_cell_row rfl _ _ _ _ _ (0, 0) _ rfl HS.b3 Tryz.underlying41 rfl (by kernel_rfl)) rfl ?_
    exact ⟨⟨_, _, _, _, _, _, _, rfl, HV.out, fun h => absurd (h.symm.trans HK1.out) (by decide)⟩, HS.out.C⟩
   | true =>
    have k14_ := bc HS.b4 14
    obtain ⟨bk, hbk⟩ := back_some sx nx
    have HBK := mA hbk
    clear hbk
    obtain ⟨er2, l3, hn2⟩ : ∃ er2 l3, writeF l2 (wrap64 (wrap64 (24 + sp) + 4)) 4 (wrap64 bk) 4294967296 = (er2, l3) := ⟨_, _, rfl⟩
    have HN2 := mA hn2
    clear hn2
    go_upto_region 18 with (first
     | (go_at_call 72; refine (cookie_Back.calls sx nx bk _ HBK.out).mono ?_; rintro e_ wh ⟨rfl, hd_⟩; have hb_ := hd_.below; clear hd_; replace HV := HV.rb hb_; clear k14_; replace HS := HS.bl hb_; clear hb_; have k14_ := bc HS.b4 14)
     | (go_at_call 65; refine (write4_c _ _ _ _ HV.out (byl HBY.out) _ _ HN2.out).mono ?_; rintro e_ wi ⟨A3, c3, rfl, hR_, hy_, hb_⟩; have HY3 : Aside0 (∀ x ∈ l3, 0 ≤ x ∧ x ≤ 255) := ⟨hy_⟩; clear hy_; replace HV := HV.rb hb_; clear k14_; replace HS := HS.rw_ hR_ hb_; clear hR_ hb_)
     | (go_at_call 25; refine (then_calls k q _ _ _ _ _ _ _ _ _ _ _ HS.b4).mono ?_; rintro e_ wj ⟨rfl, hk_, hc_⟩; obtain ⟨A4, c4, l4, ht_, hv_, hl_⟩ := thenB_row er2 (bytes_chg HS.r0 HS.b4 (by decide) hc_) (bytes_chg HV.out HS.b4 (by decide) hc_); rw [ht_] at hk_; replace HBY : Aside0 (∀ x ∈ l4, 0 ≤ x ∧ x ≤ 255) := ⟨by rw [hl_]; exact thenL_by HY3.out HBY.out⟩; have HL_l4 := mA hl_; replace HV := mA hv_; clear ht_ hv_ hl_; replace HS := mA (HS.out.upd 4 rfl hk_ hc_); simp only [List.set_cons_zero, List.set_cons_succ] at HS; clear hk_ hc_))
    have k14_ := bc HS.b4 14
    go_wp2_with (first
     | (refine zS 41 2 HS 3 ?_; clear HS; intro wk HS z_; replace HV := z_ HV; clear z_ k14_))
    refine bodyPost_ret (results_cell_row rfl _ _ _ _ _ (0, 0) _ rfl HS.b3 Tryz.underlying41 rfl (by kernel_rfl)) rfl ?_
    exact ⟨⟨_, _, _, _, _, _, _, rfl, HV.out, fun h => absurd (h.symm.trans HK1.out) (by decide)⟩, HS.out.C⟩) : P := h
theorem jK (h : P := by
  intro w' s0
  go_simp
  with_reducible rfl) : P := h
theorem jN (h : P := by
  cases b
  ·exact Or.inr ⟨by rfl, H30.out⟩
  ·exact Or.inl ⟨by rfl, by rw [show v30 = Value.int .i64 kd from H30.out]; intro w'; go_simp; try with_reducible rfl⟩) : P := h
theorem jH (h : P := by
  cases b
  ·exact Or.inr ⟨by rfl, H31.out⟩
  ·have e_ : v30 = Value.int .i64 kd := H30.out
   subst e_
   exact Or.inl ⟨by rfl, by rw [show v31 = Value.bool (kd != 2) from H31.out]; intro w'; go_simp; try with_reducible rfl⟩) : P := h
theorem jU (h : P := by
  iterate 12
   refine Steps.on (v := ?_) (a1 := ?_) rfl rfl (by rfl) ?_ ?_ ?_
   rotate_left
   ·intro w' s0
    go_simp
    with_reducible rfl
   rotate_left
   ·simp only [q_s]
    rfl
  exact Steps.end_) : P := h
theorem jG (h : P := by
  iterate 10
   refine Steps.on (v := ?_) (a1 := ?_) rfl rfl (by rfl) ?_ ?_ ?_
   rotate_left
   ·intro w' s0
    go_simp
    with_reducible rfl
   rotate_left
   ·simp only [q_s]
    rfl
  exact Steps.end_) : P := h
theorem jB (h : P := by
  iterate 17
   refine Steps.on (v := ?_) (a1 := ?_) rfl rfl (by rfl) ?_ ?_ ?_
   rotate_left
   ·intro w' s0
    go_simp
    with_reducible rfl
   rotate_left
   ·simp only [q_s]
    rfl
  exact Steps.end_) : P := h
theorem jD (h : P := by
  iterate 14
   refine Steps.on (v := ?_) (a1 := ?_) rfl rfl (by rfl) ?_ ?_ ?_
   rotate_left
   ·intro w' s0
    go_simp
    with_reducible rfl
   rotate_left
   ·simp only [q_s]
    rfl
  exact Steps.end_) : P := h
theorem jC (h : P := by
  iterate 6
   refine Steps.on (v := ?_) (a1 := ?_) rfl rfl (by rfl) ?_ ?_ ?_
   rotate_left
   ·rintro w' ⟨s0, s1, s2⟩
    go_simp
    with_reducible rfl
   rotate_left
   ·simp only [q_s]
    rfl
  refine Steps.on (v := ?_) (a1 := ?_) rfl rfl (by rfl) ?_ ?_ ?_
  rotate_left
  ·intro w' hs
   refine (run_ldu (p := p) (b := true) (nr := nr) (ws := .slice Aw nw cw) _ _ w' gu (.tmp 89) ?_ ?_ hs.2.2 HU.out.L).trans ?_
   ·rfl
   ·rfl
   ·with_reducible rfl
  rotate_left
  ·simp only [q_s]
   rfl
  iterate 2
   refine Steps.on (v := ?_) (a1 := ?_) rfl rfl (by rfl) ?_ ?_ ?_
   rotate_left
   ·rintro w' ⟨s0, s1, s2⟩
    go_simp
    with_reducible rfl
   rotate_left
   ·simp only [q_s]
    rfl
  exact Steps.end_) : P := h
theorem jF (h : P := by
  rintro w' ⟨s0, s1, s2, s3, s4⟩
  go_simp
  with_reducible rfl) : P := h
theorem jL (h : P := by
  rintro w' ⟨s0, s1, s2, s3, s4, s5, s6, s7⟩
  go_simp
  with_reducible rfl) : P := h
theorem jM (h : P := by
  simp only [wheel_Make.l4]
  rw [if_neg (by omega), show wrap64 ((k : Int) + 1) = ((k + 1 : Nat) : Int) from by rw [w64 _ (by omega) (by omega)]; omega]) : P := h
theorem jP (h : P := by
  rw [hb, Option.bind_some, h1, Option.bind_some, if_pos (by decide), if_pos (by decide), h2, Option.bind_some, Option.bind_some]
  exact ⟨_, rfl⟩) : P := h
theorem jR (h : P := by
  skip
  go_wp2_with (first
   | (go_at_call 77; refine (out3_c _ _ _).mono ?_; rintro e_ _ ⟨rfl, hb_⟩; clear c0_ c1_ c2_ c3_ c4_ c5_ c6_ c7_ c8_ c9_ c10_ c11_ c12_; replace HS := HS.bl hb_; clear hb_; obtain ⟨c0_, c1_, c2_, c3_, c4_, c5_, c6_, c7_, c8_, c9_, c10_, c11_, c12_⟩ := cells13 HS.b0))
  go_ret2
  exact B3.nil rfl HS.nb) : P := h
theorem jS (h : P := by
  skip
  go_upto_region 13 with (first
   | (go_at_call 31; refine (within9_c _ _ (by decide) (by decide) _).mono ?_; rintro e_ _ ⟨rfl, hb_⟩; clear c0_ c1_ c2_ c3_ c4_ c5_ c6_ c7_ c8_ c9_ c10_ c11_ c12_; replace HS := HS.bl hb_; clear hb_; obtain ⟨c0_, c1_, c2_, c3_, c4_, c5_, c6_, c7_, c8_, c9_, c10_, c11_, c12_⟩ := cells13 HS.b1))
  cases kb : (kd0 == 2) with
  | true =>
   go_wp2_with (first
    | ((with_reducible refine zst 3 108 ?_); refine sc3_event HS.out 1 rfl rfl rfl (.tmp 108) (.tmp 103) rfl 8 rfl rfl rfl ?_; intro _ h1_; replace HS := mA h1_; simp only [List.setIfInBounds_toArray, List.set_cons_zero, List.set_cons_succ] at HS; clear h1_)
    | ((with_reducible refine zst 4 109 ?_); refine sc4_event HS.out 1 rfl rfl rfl (.tmp 109) (.tmp 107) rfl 9 rfl rfl rfl ?_; intro _ h1_; replace HS := mA h1_; simp only [List.setIfInBounds_toArray, List.set_cons_zero, List.set_cons_succ] at HS; clear h1_)
    | ((with_reducible refine zd 110 ?_); refine Kd.event_run rfl (run_ldpk _ _ _ gp _ (.tmp 8) rfl rfl HS.b1 rfl) ?_)
    | (refine zS 45 6 HS 2 ?_; clear HS; intro _ HS z_; clear z_))
   refine bodyPost_ret (results_cell_row rfl _ _ tr 45 _ (0, 0) _ rfl HS.b2 Tryz.underlying45 rfl (by kernel_rfl)) rfl ?_
   first | exact ⟨_, _, _, _, _, _, _, _, _, _, _, _, _, _, _, _, _, [], ([k % 256, q7 % 256] : List Int).take j, rfl, rfl, by rw [List.length_take]; have h_ := Hj.out; simp; omega, ⟨HKD.out, rfl, rfl, HFR.out.1, HFR.out.2, rfl, rfl, Hfp0.out.1, by have h_ := Hfp0.out; omega, Hj.out⟩, BY.nil, BY.take (fun x hx => by simp only [List.mem_cons, List.not_mem_nil, or_false] at hx; omega) _, by decide, by have h_ := Hj.out; omega, Kd.R_nil _ _ _ _ _, Kd.R_take HS.r0 (by have h_ := Hj.out; simp; omega), nil_apart _, HS.nb⟩ | exact ⟨_, _, _, _, _, _, _, _, _, _, _, _, _, _, _, _, _, lo, ([k % 256, q7 % 256] : List Int).take j, rfl, rfl, by rw [List.length_take]; have h_ := Hj.out; simp; omega, ⟨HKD.out, rfl, rfl, HFR.out.1, HFR.out.2, rfl, rfl, Hfp0.out.1, by have h_ := Hfp0.out; omega, Hj.out⟩, HY4.out, BY.take (fun x hx => by simp only [List.mem_cons, List.not_mem_nil, or_false] at hx; omega) _, by rw [HL4.out]; decide, by have h_ := Hj.out; omega, HS.out.row 0 rfl, Kd.R_take HS.r1 (by have h_ := Hj.out; simp; omega), (List.pairwise_cons.1 HS.out.E).1 _ (List.mem_of_getElem? (i := 0) rfl), HS.nb⟩ | exact ⟨_, _, _, _, _, _, _, _, _, _, _, _, _, _, _, _, _, lo, ([k % 256, q7 % 256] : List Int).take j, rfl, rfl, by rw [List.length_take]; have h_ := Hj.out; simp; omega, ⟨HKD.out, rfl, rfl, HFR.out.1, HFR.out.2, rfl, rfl, Hfp0.out.1, by have h_ := Hfp0.out; omega, Hj.out⟩, HY4.out, BY.take (fun x hx => by simp only [List.mem_cons, List.not_mem_nil, or_false] at hx; omega) _, by rw [HL4.out]; decide, by have h_ := Hj.out; omega, HS.out.row 0 rfl, Kd.R_take HS.r2 (by have h_ := Hj.out; simp; omega), (List.pairwise_cons.1 HS.out.E).1 _ (List.mem_of_getElem? (i := 1) rfl), HS.nb⟩
  | false =>
   cases fa : decide (0 < x5) <;> cases fb : (x31 == 1) <;>
   (go_wp2_with (first
    | ((with_reducible refine zst 3 114 ?_); refine sc3_event HS.out 1 rfl rfl rfl (.tmp 114) (.tmp 113) rfl 7 rfl rfl rfl ?_; intro _ h1_; replace HS := mA h1_; simp only [List.setIfInBounds_toArray, List.set_cons_zero, List.set_cons_succ] at HS; clear h1_)
    | (go_at_call 38; refine (put5_c _ _ _).mono ?_; rintro e_ _ ⟨⟨pv, rfl⟩, hb_⟩; replace HS := HS.bl hb_; clear hb_)
    | (go_at_call 37; refine (make4_c _ _ _).mono ?_; rintro e_ _ ⟨Ao, co, lo, rfl, hl4_, hy4_, hr_, hb_⟩; have HL4 := mA hl4_; have HY4 := mA hy4_; clear hl4_ hy4_; replace HS := HS.rw_ hr_ hb_; clear hr_ hb_)
    | ((with_reducible refine zst 39 127 ?_); refine sc39_event HS.out 1 rfl rfl rfl (.tmp 127) (.tmp 126) rfl 11 rfl rfl rfl ?_; intro _ h1_; replace HS := mA h1_; simp only [List.setIfInBounds_toArray, List.set_cons_zero, List.set_cons_succ] at HS; clear h1_)
    | ((with_reducible refine zst 39 135 ?_); refine sc39_event HS.out 1 rfl rfl rfl (.tmp 135) (.tmp 134) rfl 11 rfl rfl rfl ?_; intro _ h1_; replace HS := mA h1_; simp only [List.setIfInBounds_toArray, List.set_cons_zero, List.set_cons_succ] at HS; clear h1_)
    | ((with_reducible refine zd 136 ?_); refine Kd.event_run rfl (run_ldpk _ _ _ gp _ (.tmp 8) rfl rfl HS.b1 rfl) ?_)
    | (refine zS 45 6 HS 2 ?_; clear HS; intro _ HS z_; clear z_))
    refine bodyPost_ret (results_cell_row rfl _ _ tr 45 _ (0, 0) _ rfl HS.b2 Tryz.underlying45 rfl (by kernel_rfl)) rfl ?_
    first | exact ⟨_, _, _, _, _, _, _, _, _, _, _, _, _, _, _, _, _, [], ([k % 256, q7 % 256] : List Int).take j, rfl, rfl, by rw [List.length_take]; have h_ := Hj.out; simp; omega, ⟨HKD.out, rfl, rfl, HFR.out.1, HFR.out.2, rfl, rfl, Hfp0.out.1, by have h_ := Hfp0.out; omega, Hj.out⟩, BY.nil, BY.take (fun x hx => by simp only [List.mem_cons, List.not_mem_nil, or_false] at hx; omega) _, by decide, by have h_ := Hj.out; omega, Kd.R_nil _ _ _ _ _, Kd.R_take HS.r0 (by have h_ := Hj.out; simp; omega), nil_apart _, HS.nb⟩ | exact ⟨_, _, _, _, _, _, _, _, _, _, _, _, _, _, _, _, _, lo, ([k % 256, q7 % 256] : List Int).take j, rfl, rfl, by rw [List.length_take]; have h_ := Hj.out; simp; omega, ⟨HKD.out, rfl, rfl, HFR.out.1, HFR.out.2, rfl, rfl, Hfp0.out.1, by have h_ := Hfp0.out; omega, Hj.out⟩, HY4.out, BY.take (fun x hx => by simp only [List.mem_cons, List.not_mem_nil, or_false] at hx; omega) _, by rw [HL4.out]; decide, by have h_ := Hj.out; omega, HS.out.row 0 rfl, Kd.R_take HS.r1 (by have h_ := Hj.out; simp; omega), (List.pairwise_cons.1 HS.out.E).1 _ (List.mem_of_getElem? (i := 0) rfl), HS.nb⟩ | exact ⟨_, _, _, _, _, _, _, _, _, _, _, _, _, _, _, _, _, lo, ([k % 256, q7 % 256] : List Int).take j, rfl, rfl, by rw [List.length_take]; have h_ := Hj.out; simp; omega, ⟨HKD.out, rfl, rfl, HFR.out.1, HFR.out.2, rfl, rfl, Hfp0.out.1, by have h_ := Hfp0.out; omega, Hj.out⟩, HY4.out, BY.take (fun x hx => by simp only [List.mem_cons, List.not_mem_nil, or_false] at hx; omega) _, by rw [HL4.out]; decide, by have h_ := Hj.out; omega, HS.out.row 0 rfl, Kd.R_take HS.r2 (by have h_ := Hj.out; simp; omega), (List.pairwise_cons.1 HS.out.E).1 _ (List.mem_of_getElem? (i := 1) rfl), HS.nb⟩)) : P := h
theorem jT (h : P := by
  skip
  refine ap_step HS.out HS.nb (by rfl) (.tmp 42) (.tmp 47) rfl 0 rfl rfl rfl (Kd.R_reads' (Kd.R_nil (Kd.int .u8) 5 _ 0 (fun _ => True))).2.2 (by simp only [List.length_nil]; omega) ?_
  intro A1 n1 c1 l1 _ hl_ hn_ h1_
  have HL1_ : Aside0 (l1 = [] ∧ n1 = 0) := ⟨by rw [hn_, hl_]; exact ⟨rfl, rfl⟩⟩
  replace HS := mA (h1_)
  simp only [List.set_cons_zero, List.set_cons_succ] at HS
  clear hl_ hn_ h1_ hHeld
  refine hK.out _ _ ⟨HS.c 0 0, HS.c 0 1, HS.c 0 2⟩ (fun hHeld => ?_)
  clear hK K
  refine zN ?_
  refine zP 20 49 (tf 21 2) ?_
  refine zO 21 (tf 22 1) fun K hK => ?_
  refine box_step (by rfl) (N := 9) rfl (run_pk _ _ _ rfl) ?_
  intro gp hg_ _ hbx_ hb_
  replace HS := HS.nw hg_ hbx_ hb_
  clear hg_ hbx_ hb_ hHeld
  refine hK.out _ _ ⟨HS.c 1 0, HS.c 1 1, HS.c 1 2⟩ (fun hHeld => ?_)
  clear hK K
  refine zN ?_
  exact norm_ (by simp only [putAll, Act.put, List.setIfInBounds_toArray, List.set_cons_zero, List.set_cons_succ]) (hCont ((gl, A1, n1, c1), gp) _ ⟨hHeld, HL1_.out.2, by rw [← HL1_.out.1]; exact HS.out⟩)) : P := h
theorem jE (h : P := by
  skip
  refine box_step (by rfl) (N := 9) rfl (run_pk _ _ _ rfl) ?_
  intro gp hg_ _ hbx_ hb_
  replace HS := HS.nw hg_ hbx_ hb_
  clear hg_ hbx_ hb_ hHeld
  refine hK.out _ _ ⟨HS.c 1 0, HS.c 1 1, HS.c 1 2⟩ (fun hHeld => ?_)
  clear hK K
  refine zN ?_
  refine zO 19 (mb 23 3145727) fun K hK => ?_
  refine ap_step HS.out HS.nb (by rfl) (.tmp 42) (.tmp 47) rfl 0 rfl rfl rfl (Kd.R_reads' (Kd.R_nil (Kd.int .u8) 5 _ 0 (fun _ => True))).2.2 (by simp only [List.length_nil]; omega) ?_
  intro A1 n1 c1 l1 _ hl_ hn_ h1_
  have HL1_ : Aside0 (l1 = [] ∧ n1 = 0) := ⟨by rw [hn_, hl_]; exact ⟨rfl, rfl⟩⟩
  replace HS := mA (h1_)
  simp only [List.set_cons_zero, List.set_cons_succ] at HS
  clear hl_ hn_ h1_ hHeld
  refine hK.out _ _ ⟨HS.c 1 0, HS.c 1 1, HS.c 1 2⟩ (fun hHeld => ?_)
  clear hK K
  refine zN ?_
  refine zP 20 49 (tf 22 1) ?_
  exact norm_ (by simp only [putAll, Act.put, List.setIfInBounds_toArray, List.set_cons_zero, List.set_cons_succ]) (hCont ((gl, A1, n1, c1), gp) _ ⟨hHeld, HL1_.out.2, by rw [← HL1_.out.1]; exact HS.out⟩)) : P := h
theorem jA (h : P := by
  skip
  obtain ⟨j, hj⟩ : ∃ j : Nat, m % (lb.length : Int) = (j : Int) := ⟨(m % (lb.length : Int)).toNat, by have h_ := Int.emod_nonneg m (show (lb.length : Int) ≠ 0 by omega); omega⟩
  have HJ : Aside0 (j < lb.length) := ⟨by have h_ := Int.emod_lt_of_pos m (show (0 : Int) < (lb.length : Int) by omega); omega⟩
  obtain ⟨gb, cc, e_, _⟩ := Kd.R_form HS.r0 hz
  injection e_ with e1_ e2_ e3_
  subst e1_
  subst e3_
  clear e2_
  have z1 : decide (0 < (lb.length : Int)) = true := decide_eq_true (by omega)
  have z1b : decide (0 < lb.length) = true := decide_eq_true hz
  have HZ := mA hz
  have qa : ((j : Int) < (lb.length : Int)) = True := eq_true (by have h_ := HJ.out; omega)
  have qb : (0 ≤ (j : Int)) = True := eq_true (by omega)
  have qc : (j < lb.length) = True := eq_true HJ.out
  clear hz
  go_wp2_with (first
   | (go_at_call 31; refine (within9_c _ _ (by have h_ := HZ.out; omega) (by have h_ := HLB.out.2; omega) _).mono ?_; rintro e_ _ ⟨rfl, hb_⟩; rw [hj]; replace HS := HS.bl hb_; clear hb_; have bj_ := (bytes_get HS.r0 j HJ.out).1)
   | ((with_reducible refine zst 5 117 ?_); refine sb_event HS.out 0 rfl rfl rfl (.tmp 117) (.tmp 116) rfl rfl rfl HJ.out ?_; intro _ h1_; replace HS := mA h1_; simp only [List.set_cons_zero] at HS; clear h1_))
  go_ret
  first | exact ⟨_, _, _, lb, rfl, rfl, HLB.out.1, HS.out.row 0 rfl, HS.nb⟩ | exact ⟨_, _, _, _, rfl, List.length_set.symm, HLB.out.1.set _ (by first | exact (w8 _).1 | omega) (by first | exact (w8 _).2 | omega), HS.out.row 0 rfl, HS.nb⟩) : P := h
theorem jI (h : P := by exact ⟨A', fun W => by rw [h4 W, e2], ⟨e2, by omega, Kd.C_of_reads (h1 := fun _ => rfl) (h5 _ (Kd.reads_of_C h))⟩⟩) : P := h
theorem jO (h : P := by exact ⟨by first | rfl | (simp; done) | (simp [*]; done), by repeat (first | exact Drawn0.refl _ | apply Drawn0.step)⟩) : P := h
theorem yZ (h : P := by exact ⟨rfl, by repeat (first | exact Below.refl _ _ | apply below_alloc | apply pw_below_drewN | apply below_drew1)⟩) : P := h
theorem yQ (h : P := by exact norm_ (by simp only [putAll, Act.put, List.setIfInBounds_toArray, List.set_cons_zero, List.set_cons_succ]) (hCont g _ ⟨hHeld, HS.out⟩)) : P := h
theorem yJ (h : P := by exact ⟨.slice none 0 0, .slice none 0 0, rfl, Kd.R_nil _ _ _ _ _, Kd.R_nil _ _ _ _ _, HS.nb⟩) : P := h
theorem yX (h : P := by exact ⟨_, _, rfl, Kd.R_nil _ _ _ _ _, (by rw [← HE.out]; exact HS.out.row 0 rfl), HS.nb⟩) : P := h
theorem yY (h : P := by exact norm_ (by simp only [putAll, Act.put, List.setIfInBounds_toArray, List.set_cons_zero, List.set_cons_succ]) (hCont gq _ ⟨hHeld, HS.out⟩)) : P := h
theorem yV (h : P := by exact ⟨_, rfl, v_of_nil _ _, below_alloc HB.out _⟩) : P := h
theorem yW (h : P := by exact ⟨rfl, by rw [HDF.out]; exact Kd.R_below HR.out HD.out, Chg.of_below HD.out _⟩) : P := h
theorem yK (h : P := by exact ⟨_, rfl, (by rw [HN.out]; exact HS.out.row 0 rfl), HS.nb⟩) : P := h
theorem yN (h : P := by exact ⟨_, rfl, Kd.R_nil _ _ _ _ _, hB⟩) : P := h
theorem yH (h : P := by exact ⟨⟨_, _, _, _, _, _, _, rfl, Kd.R_lower HS.r0 (Nat.zero_le _), fun h => h.elim⟩, HS.out.C⟩) : P := h
theorem yU (h : P := by exact ⟨⟨_, _, _, _, _, _, _, rfl, Kd.R_lower HS.r0 (Nat.zero_le _), fun _ => HT.out.symm⟩, ⟨nr, (HU.out.below HS.nb)⟩, HS.out.C.mono (fun _ h => h.elim)⟩) : P := h
theorem yG (h : P := by exact ⟨⟨_, _, _, _, _, _, _, rfl, HV.out, fun h => (HI_.out (HZ.out.2.2.2.1.trans h)).trans HT.out.symm⟩, HN_.out, HS.out.C⟩) : P := h
theorem yB (h : P := by exact ⟨by rw [hres.out]; rfl, H.out.below⟩) : P := h
theorem yD (h : P := by exact norm_ (by simp only [putAll, Act.put, List.setIfInBounds_toArray, List.set_cons_zero, List.set_cons_succ]) (hCont s8 _ ⟨hHeld, H.out, HS8.out, HLT.out⟩)) : P := h
theorem yC (h : P := by exact ⟨_, by first | rfl | (simp; done), Kd.R_lower HO2.out HB0.out.size, below_step HB0.out HB2.out⟩) : P := h
theorem yF (h : P := by exact ⟨A', h.1, fun w hw => Kd.C_of_reads (h1 := fun _ => rfl) (h.2.1 w (Kd.reads_of_C (h1 := fun _ => rfl) hw))⟩) : P := h
theorem yL (h : P := by exact ⟨_, _, _, rfl, rfl, by simp [Value.oneCell'], rfl, fun h => absurd h (by decide), HS.nb⟩) : P := h
theorem yM (h : P := by exact norm_ (by simp only [putAll, Act.put, List.setIfInBounds_toArray, List.set_cons_zero, List.set_cons_succ]) (hCont gp _ ⟨hHeld, HS.out⟩)) : P := h
theorem yP (h : P := by exact ⟨_, _, _, rfl, rfl, by simp [Value.oneCell'], rfl, fun _ => ⟨by have h_ := HL.out; omega, by have h_ := HL.out; omega⟩, HS.nb⟩) : P := h
theorem yR (h : P := by exact norm_ (by simp only [putAll, Act.put, List.setIfInBounds_toArray, List.set_cons_zero, List.set_cons_succ]) (hCont gl _ ⟨trivial, HS.out⟩)) : P := h
theorem yS (h : P := by exact norm_ (by simp only [putAll, Act.put, List.setIfInBounds_toArray, List.set_cons_zero, List.set_cons_succ]) (hCont ((g0, A1, n1, c1), g1) _ ⟨hHeld, HS.out.sub (List.Sublist.refl _) (List.Sublist.cons_cons _ (List.nil_sublist _))⟩)) : P := h
theorem yT (h : P := by exact ⟨_, _, _, _, _, rfl, HN.out.1.symm, by have h1_ := HN.out; have h2_ := HNB.out; omega, HYB.out, HS.out.row 0 rfl, HS.nb⟩) : P := h
theorem yE (h : P := by exact norm_ (by simp only [putAll, Act.put, List.setIfInBounds_toArray, List.set_cons_zero, List.set_cons_succ]) (hCont (gl, gp) _ ⟨hHeld, HS.out⟩)) : P := h
theorem yA (h : P := by exact norm_ (by simp only [putAll, Act.put, List.setIfInBounds_toArray, List.set_cons_zero, List.set_cons_succ]) (hCont ((gl, A1, n1, c1), gp) _ ⟨hHeld, HL1_.out.2, by rw [← HL1_.out.1]; exact HS.out⟩)) : P := h
theorem yI (h : P := by (repeat (first | (with_reducible first | exact HB.out | apply below_alloc | apply pw_below_drewN | apply below_drew1 | refine below_set ?_ (Aside0.out (by assumption))) | exact HB.out))) : P := h
theorem yO (h : P := by (first | rfl | (simp [errW_none, errW_some] <;> rfl) | (simp [*, errW_none, errW_some] <;> rfl))) : P := h
theorem qZ (h : P := by (repeat (first | (with_reducible first | exact HB.out | apply below_alloc | apply pw_below_drewN | apply below_drew1 | refine below_set ?_ (below_size HB.out)) | exact HB.out))) : P := h
theorem qQ (h : P := by ((with_reducible repeat (first | apply Kd.R_alloc | apply Kd.R_drewN | apply Kd.R_drew)); exact Kd.R_mono (Kd.R_far (p := ⟨gb114, 4, none⟩) (Kd.R_far (p := ⟨gb114, 3, none⟩) (Kd.R_far (p := ⟨gb114, 2, none⟩) (Kd.R_far (p := ⟨gb114, 1, none⟩) (Kd.R_far (p := ⟨gb114, 0, none⟩) (Kd.R_types HO_3.out BK114.out (by decide)) (fun _ hk => hk.2) (.int .i64 ((rd_T25 l0 x19_2).f0))) (fun _ hk => hk.2) (.int .i64 ((rd_T25 l0 x19_2).f1))) (fun _ hk => hk.2) (.int .i64 ((rd_T25 l0 x19_2).f2))) (fun _ hk => hk.2) (.int .i64 ((rd_T25 l0 x19_2).f3))) (fun _ hk => hk.2) (.int .i64 ((rd_T25 l0 x19_2).f4))) (fun _ hk => trivial))) : P := h
theorem qJ (h : P := by ((with_reducible repeat (first | apply Kd.R_alloc | apply Kd.R_drewN | apply Kd.R_drew)); exact Kd.R_mono (Kd.R_far (p := ⟨gb114, 4, none⟩) (Kd.R_far (p := ⟨gb114, 3, none⟩) (Kd.R_far (p := ⟨gb114, 2, none⟩) (Kd.R_far (p := ⟨gb114, 1, none⟩) (Kd.R_far (p := ⟨gb114, 0, none⟩) (Kd.R_types HO_5.out BK114.out (by decide)) (fun _ hk => hk.2) (.int .i64 ((rd_T25 l0 x19_2).f0))) (fun _ hk => hk.2) (.int .i64 ((rd_T25 l0 x19_2).f1))) (fun _ hk => hk.2) (.int .i64 ((rd_T25 l0 x19_2).f2))) (fun _ hk => hk.2) (.int .i64 ((rd_T25 l0 x19_2).f3))) (fun _ hk => hk.2) (.int .i64 ((rd_T25 l0 x19_2).f4))) (fun _ hk => trivial))) : P := h
theorem qX (h : P := by (repeat (first | (with_reducible first | exact HK.out | apply Kept.alloc | apply Kept.drewN | apply Kept.drew) | exact HK.out))) : P := h
theorem qY (h : P := by (rw [List.length_take]; have h_ := Hj.out; simp; omega)) : P := h
theorem qV (h : P := by (have h_ := HS.out; unfold outB at h_; simp only [decide_eq_false_iff_not] at h_; omega)) : P := h
theorem qW (h : P := by ((try simp only [hl5_4]); (try simp only [hl5_5]); (try simp only [hl5_6]); (try simp only [hl5_7]); (with_reducible repeat (first | apply Kd.R_alloc | apply Kd.R_drewN | apply Kd.R_drew)); exact Kd.R_mono (Kd.R_far (p := ⟨gw, (((rd_T64 x5_7 x56_5).f1) : Int).toNat, none⟩) (Kd.R_types HO_5.out GG56.out (by decide)) (fun _ hk => hk.2) (.int .i64 ((rd_T64 x5_7 x56_5).f0))) (fun _ hk => trivial))) : P := h
theorem qK (h : P := by (repeat (first | exact Drawn0.refl _ | apply Drawn0.step))) : P := h
theorem qN (h : P := by (omega)) : P := h
theorem qH (h : P := by ((with_reducible repeat (first | apply Kd.R_alloc | apply Kd.R_drewN | apply Kd.R_drew)); exact HO0.out)) : P := h
theorem qU (h : P := by (rw [hn_, hl_]; have h1_ := HN.out; simp only [List.length_append, List.length_replicate, List.length_cons, List.length_nil]; omega)) : P := h
theorem qG (h : P := by ((with_reducible repeat (first | apply Kd.R_alloc | apply Kd.R_drewN | apply Kd.R_drew)); exact HO_3.out)) : P := h
theorem qB (h : P := by (repeat (first | exact HB.out | apply below_alloc | (refine below_set ?_ (Nat.le_add_right _ _))))) : P := h
theorem qD (h : P := by (have h_ := Hj.out; omega)) : P := h
theorem qC (h : P := by ((with_reducible repeat (first | refine blk_drewN ?_ _ | refine blk_drew ?_ | refine blk_alloc ?_ _)); exact BK316.out)) : P := h
theorem qF (h : P := by (rw [hn_, hl_]; have h1_ := HN.out; have h2_ := HNN.out; simp only [List.length_append, List.length_replicate, List.length_cons, List.length_nil]; omega)) : P := h
theorem qL (h : P := by (obtain ⟨nr2, h_⟩ := HN_.out; exact ⟨nr2, h_.chg (Chg.of_grown hg_) (fun e => blk_ne h_.B HS.b0 (by decide) (Option.some.inj e)) (fun j hj e => Kd.R_ne h_.R HS.b0 (by decide) (by rw [hj, ← e]))⟩)) : P := h
theorem qM (h : P := by (have := HK1.out; have := HK2.out; have := HJ36.out; have := HK4.out; have := HK5.out; have := HK6.out; have := HK7.out; omega)) : P := h
theorem qP (h : P := by ((try simp only [hl5_4]); (try simp only [hl5_5]); (try simp only [hl5_6]); (with_reducible repeat (first | apply Kd.R_alloc | apply Kd.R_drewN | apply Kd.R_drew)); exact HO_5.out)) : P := h
theorem qR (h : P := by (have h_ := Hfp0.out; omega)) : P := h
theorem qS (h : P := by (rw [show wrap64 ((i : Int) + 1) = ((i + 1 : Nat) : Int) from by unfold wrap64; have h1_ := of_eq_true hi; omega])) : P := h
theorem qT (h : P := by (rw [hlb]; exact (((BY.rep 16).set 0 (w8 _).1 (w8 _).2).set 1 (w8 _).1 (w8 _).2).set 12 (w8 _).1 (w8 _).2)) : P := h
theorem qE (h : P := by (rw [← hq_]; exact (by (with_reducible repeat (first | refine blk_drewN ?_ _ | refine blk_drew ?_ | refine blk_alloc ?_ _)); exact Aside0.out (by assumption)))) : P := h
theorem qA (h : P := by ((with_reducible repeat (first | apply Kd.R_alloc | apply Kd.R_drewN | apply Kd.R_drew)); exact HO_5.out)) : P := h
theorem qI (h : P := by (have h_ := HF.out; rw [fndL, if_pos HI.out, if_neg (by rw [← HX.out, HB.out]; decide)] at h_; exact h_)) : P := h
theorem qO (h : P := by ((try simp only [hl5_4]); (try simp only [hl5_5]); (with_reducible repeat (first | apply Kd.R_alloc | apply Kd.R_drewN | apply Kd.R_drew)); exact HO_3.out)) : P := h
theorem kZ (h : P := by ((try simp only [hl5_4]); (try simp only [hl5_5]); (with_reducible repeat (first | apply Kd.R_alloc | apply Kd.R_drewN | apply Kd.R_drew)); exact HO_5.out)) : P := h
theorem kQ (h : P := by (first | exact Kd.R_nil _ _ _ _ _ | exact Kd.N_nil _ _ _ _ _ | exact Kd.V_nil _ _ _ _ _ | exact Kd.Q_nil _ _ _ _ _ | exact Kd.S_nil _ _ _ _ _)) : P := h
theorem kJ (h : P := by (rw [HL4.out]; decide)) : P := h
theorem kX (h : P := by (have h_ := HI.out; omega)) : P := h
theorem kY (h : P := by (simp only [List.length_set]; exact HP.out)) : P := h
theorem kV (h : P := by (with_reducible repeat (first | (refine below_set ?_ (Nat.le_refl _)) | exact HB.out))) : P := h
theorem kW (h : P := by (rw [show wrap64 ((i : Int) + 1) = ((i + 1 : Nat) : Int) from by unfold wrap64; have h_ := HI3.out; have h2_ := HM.out; omega])) : P := h
theorem kK (h : P := by (rw [hn_, hl_, List.length_append]; have h_ := HI.out; exact ⟨by simp only [List.length_cons, List.length_nil]; omega, rfl⟩)) : P := h
theorem kN (h : P := by ((with_reducible repeat (first | refine blk_drewN ?_ _ | refine blk_drew ?_ | refine blk_alloc ?_ _)); exact BK204.out)) : P := h
theorem kH (h : P := by (have := HK1.out; omega)) : P := h
theorem kU (h : P := by (rw [← add_field _ _ 1 (by omega)]; exact hc 1 _ rfl)) : P := h
theorem kG (h : P := by ((with_reducible repeat (first | apply Kd.R_alloc | apply Kd.R_drewN | apply Kd.R_drew)); exact HO_0.out)) : P := h
theorem kB (h : P := by (first | omega | exact Nat.le_refl _)) : P := h
theorem kD (h : P := by (repeat (first | exact HB.out | apply below_alloc | (refine below_set ?_ (Nat.le_refl _))))) : P := h
theorem kC (h : P := by (decide)) : P := h
theorem kF (h : P := by (rw [hs1]; exact H.out.hr.lt)) : P := h
theorem kL (h : P := by (rw [hl_]; exact thenL_by HY1.out HBY.out)) : P := h
theorem kM (h : P := by (rw [hn_, hl_]; exact ⟨rfl, rfl⟩)) : P := h
theorem kP (h : P := by (have h1_ := HK.out; have h2_ := of_eq_true hi; omega)) : P := h
theorem kR (h : P := by (rw [← ht_]; exact thenB_own (fun j hj => Or.inr (Kd.R_base HS.r0 j hj)) HBK.out)) : P := h
theorem kS (h : P := by (rw [← add_field _ _ 2 (by omega)]; exact hc 2 _ rfl)) : P := h
theorem kT (h : P := by (rw [H0.out, H1.out, H2.out, H3.out, H4.out, H5.out])) : P := h
theorem kE (h : P := by (have h_ := H0.out; omega)) : P := h
theorem kA (h : P := by (have h1_ := HK.out; have h2_ := HI.out; omega)) : P := h
theorem kI (h : P := by (simp [nextPool, nextSlot])) : P := h
theorem kO (h : P := by (rw [hl_]; exact BY.app HYB.out HYD.out)) : P := h
theorem uZ (h : P := by (have h_ := Hr4.out; omega)) : P := h
end Go.Proofs.YtkpfojpmigchlaaGreat.Zip
namespace Go.Proofs.YtkpfojpmigchlaaGreat.Own
open Go.RowKit Go.Proofs.YtkpfojpmigchlaaGreatW.PrintWords Go.Proofs.YtkpfojpmigchlaaGreatW.PrintMore
open Go.Proofs.YtkpfojpmigchlaaGreat.Zip
set_option maxHeartbeats 8000000
set_option maxRecDepth 100000
structure Stt (T : TypeId) (w0 : World) (g : Nat) (v : Int × Int × Int × Int) (w : World) : Prop where
 blk : w.heap[g]? = some (.cells #[.int .u64 v.1, .int .u64 v.2.1, .int .u64 v.2.2.1, .int .u64 v.2.2.2] T (0, 0))
 below : Below w0.heap.size w0 w
 ge : w0.heap.size ≤ g
theorem Stt.c0 {T w0 g v w} (h : Stt T w0 g v w) : w.cell? ⟨g, 0, none⟩ = some (.int .u64 v.1) := (blk_cell h.blk 0).trans rfl
theorem Stt.c1 {T w0 g v w} (h : Stt T w0 g v w) : w.cell? ⟨g, 1, none⟩ = some (.int .u64 v.2.1) := (blk_cell h.blk 1).trans rfl
theorem Stt.c2 {T w0 g v w} (h : Stt T w0 g v w) : w.cell? ⟨g, 2, none⟩ = some (.int .u64 v.2.2.1) := (blk_cell h.blk 2).trans rfl
theorem Stt.c3 {T w0 g v w} (h : Stt T w0 g v w) : w.cell? ⟨g, 3, none⟩ = some (.int .u64 v.2.2.2) := (blk_cell h.blk 3).trans rfl
theorem Stt.fz {T w0 g v w} (h : Stt T w0 g v w) (i : Nat) : w.frozen? ⟨g, i, none⟩ = false := blk_frozen h.blk i
theorem Stt.drew {T w0 g v w} (h : Stt T w0 g v w) : Stt T w0 g v w.drew := ⟨h.blk, below_drew h.below, h.ge⟩
theorem Stt.drewN {T w0 g v w} (h : Stt T w0 g v w) (n : Nat) : Stt T w0 g v (w.drewN n) := ⟨h.blk, pw_below_drewN h.below n, h.ge⟩
theorem Stt.s0 {T w0 g a b c d w} (h : Stt T w0 g (a, b, c, d) w) (x : Int) : Stt T w0 g (x, b, c, d) (w.setCell ⟨g, 0, none⟩ (.int .u64 x)) := ⟨by simpa using blk_set h.blk 0 (.int .u64 x), below_set h.below h.ge, h.ge⟩
theorem Stt.s1 {T w0 g a b c d w} (h : Stt T w0 g (a, b, c, d) w) (x : Int) : Stt T w0 g (a, x, c, d) (w.setCell ⟨g, 1, none⟩ (.int .u64 x)) := ⟨by simpa using blk_set h.blk 1 (.int .u64 x), below_set h.below h.ge, h.ge⟩
theorem Stt.s2 {T w0 g a b c d w} (h : Stt T w0 g (a, b, c, d) w) (x : Int) : Stt T w0 g (a, b, x, d) (w.setCell ⟨g, 2, none⟩ (.int .u64 x)) := ⟨by simpa using blk_set h.blk 2 (.int .u64 x), below_set h.below h.ge, h.ge⟩
theorem Stt.s3 {T w0 g a b c d w} (h : Stt T w0 g (a, b, c, d) w) (x : Int) : Stt T w0 g (a, b, c, x) (w.setCell ⟨g, 3, none⟩ (.int .u64 x)) := ⟨by simpa using blk_set h.blk 3 (.int .u64 x), below_set h.below h.ge, h.ge⟩
theorem Stt.by_below {T w0 g v w w'} (h : Stt T w0 g v w) (hb : Below w.heap.size w w') : Stt T w0 g v w' := ⟨blk_below h.blk hb, below_step h.below hb, h.ge⟩
theorem rot (n : Nat) (hn : n = 13 ∨ n = 16 ∨ n = 17 ∨ n = 21 ∨ n = 32) (x : Int) (w : World) : Calls Tryz.prog 114 #[.int .u64 x, .int .i64 n] w fun e w' => e = .returned (.int .u64 (rotl x n)) ∧ w' = w := by
 have h13 : Go.bits .and .u64 13 63 = 13 := by decide
 have h16 : Go.bits .and .u64 16 63 = 16 := by decide
 have h17 : Go.bits .and .u64 17 63 = 17 := by decide
 have h21 : Go.bits .and .u64 21 63 = 21 := by decide
 have h32 : Go.bits .and .u64 32 63 = 32 := by decide
 rcases hn with rfl | rfl | rfl | rfl | rfl
 all_goals
  go_enter Tryz.func114, Tryz.ntmps114
  go_wp2
  go_ret
  exact ⟨rfl, rfl⟩
theorem round (g : Nat) (a b c d : Int) (w0 w : World) (H : Stt 103 w0 g (a, b, c, d) w) :
 Calls Tryz.prog 93 #[.pointer (some ⟨g, 0, none⟩)] w fun e w' => e = .returned (.tuple #[]) ∧ Stt 103 w0 g (rnd (a, b, c, d)) w' := by
 have HS := mA H
 clear H
 go_enter Tryz.func93, Tryz.ntmps93
 go_upto_region 0 with fail
 go_cut [] (fun wx => Stt 103 w0 g ((add64 a b), b, c, d) wx)
 case first =>
  have c0 := HS.out.c0
  have c1 := HS.out.c1
  have c2 := HS.out.c2
  have c3 := HS.out.c3
  have fz := HS.out.fz
  refine wp_region_still_tail 11 uW uW ?_
  simp only [List.take_succ_cons, List.take_zero, List.drop_succ_cons, List.drop_zero]
  repeat still_step
  refine wpStill_nil ?_
  go_wp2
  go_meet
  case rel => exact (HS.out.s0 _).drew
 case rest =>
 replace HS := mA hcut
 clear hcut
 go_upto_region 1 with fail
 go_cut [] (fun wx => Stt 103 w0 g ((add64 a b), (xor64 (rotl b 13) (add64 a b)), c, d) wx)
 case first =>
  have c0 := HS.out.c0
  have c1 := HS.out.c1
  have c2 := HS.out.c2
  have c3 := HS.out.c3
  have fz := HS.out.fz
  refine wp_region_still_tail 13 uW uW ?_
  simp only [List.take_succ_cons, List.take_zero, List.drop_succ_cons, List.drop_zero]
  repeat still_step
  still_call (rot 13 uJ _ _)
  repeat still_step
  refine wpStill_nil ?_
  go_wp2
  go_meet
  case rel => exact (HS.out.s1 _).drew
 case rest =>
 replace HS := mA hcut
 clear hcut
 go_upto_region 2 with fail
 go_cut [] (fun wx => Stt 103 w0 g ((rotl (add64 a b) 32), (xor64 (rotl b 13) (add64 a b)), c, d) wx)
 case first =>
  have c0 := HS.out.c0
  have c1 := HS.out.c1
  have c2 := HS.out.c2
  have c3 := HS.out.c3
  have fz := HS.out.fz
  go_wp2_with (go_at_call 114; refine (rot 32 uJ _ _).mono ?_; rintro e w' ⟨rfl, rfl⟩)
  go_wp2
  go_meet
  case rel => exact (HS.out.s0 _)
 case rest =>
 replace HS := mA hcut
 clear hcut
 go_upto_region 3 with fail
 go_cut [] (fun wx => Stt 103 w0 g ((rotl (add64 a b) 32), (xor64 (rotl b 13) (add64 a b)), (add64 c d), d) wx)
 case first =>
  have c0 := HS.out.c0
  have c1 := HS.out.c1
  have c2 := HS.out.c2
  have c3 := HS.out.c3
  have fz := HS.out.fz
  refine wp_region_still_tail 11 uW uW ?_
  simp only [List.take_succ_cons, List.take_zero, List.drop_succ_cons, List.drop_zero]
  repeat still_step
  refine wpStill_nil ?_
  go_wp2
  go_meet
  case rel => exact (HS.out.s2 _).drew
 case rest =>
 replace HS := mA hcut
 clear hcut
 go_upto_region 4 with fail
 go_cut [] (fun wx => Stt 103 w0 g ((rotl (add64 a b) 32), (xor64 (rotl b 13) (add64 a b)), (add64 c d), (xor64 (rotl d 16) (add64 c d))) wx)
 case first =>
  have c0 := HS.out.c0
  have c1 := HS.out.c1
  have c2 := HS.out.c2
  have c3 := HS.out.c3
  have fz := HS.out.fz
  refine wp_region_still_tail 13 uW uW ?_
  simp only [List.take_succ_cons, List.take_zero, List.drop_succ_cons, List.drop_zero]
  repeat still_step
  still_call (rot 16 uJ _ _)
  repeat still_step
  refine wpStill_nil ?_
  go_wp2
  go_meet
  case rel => exact (HS.out.s3 _).drew
 case rest =>
 replace HS := mA hcut
 clear hcut
 go_upto_region 5 with fail
 go_cut [] (fun wx => Stt 103 w0 g ((add64 (rotl (add64 a b) 32) (xor64 (rotl d 16) (add64 c d))), (xor64 (rotl b 13) (add64 a b)), (add64 c d), (xor64 (rotl d 16) (add64 c d))) wx)
 case first =>
  have c0 := HS.out.c0
  have c1 := HS.out.c1
  have c2 := HS.out.c2
  have c3 := HS.out.c3
  have fz := HS.out.fz
  refine wp_region_still_tail 11 uW uW ?_
  simp only [List.take_succ_cons, List.take_zero, List.drop_succ_cons, List.drop_zero]
  repeat still_step
  refine wpStill_nil ?_
  go_wp2
  go_meet
  case rel => exact (HS.out.s0 _).drew
 case rest =>
 replace HS := mA hcut
 clear hcut
 go_upto_region 6 with fail
 go_cut [] (fun wx => Stt 103 w0 g ((add64 (rotl (add64 a b) 32) (xor64 (rotl d 16) (add64 c d))), (xor64 (rotl b 13) (add64 a b)), (add64 c d), (xor64 (rotl (xor64 (rotl d 16) (add64 c d)) 21) (add64 (rotl (add64 a b) 32) (xor64 (rotl d 16) (add64 c d))))) wx)
 case first =>
  have c0 := HS.out.c0
  have c1 := HS.out.c1
  have c2 := HS.out.c2
  have c3 := HS.out.c3
  have fz := HS.out.fz
  refine wp_region_still_tail 13 uW uW ?_
  simp only [List.take_succ_cons, List.take_zero, List.drop_succ_cons, List.drop_zero]
  repeat still_step
  still_call (rot 21 uJ _ _)
  repeat still_step
  refine wpStill_nil ?_
  go_wp2
  go_meet
  case rel => exact (HS.out.s3 _).drew
 case rest =>
 replace HS := mA hcut
 clear hcut
 go_upto_region 7 with fail
 go_cut [] (fun wx => Stt 103 w0 g ((add64 (rotl (add64 a b) 32) (xor64 (rotl d 16) (add64 c d))), (xor64 (rotl b 13) (add64 a b)), (add64 (add64 c d) (xor64 (rotl b 13) (add64 a b))), (xor64 (rotl (xor64 (rotl d 16) (add64 c d)) 21) (add64 (rotl (add64 a b) 32) (xor64 (rotl d 16) (add64 c d))))) wx)
 case first =>
  have c0 := HS.out.c0
  have c1 := HS.out.c1
  have c2 := HS.out.c2
  have c3 := HS.out.c3
  have fz := HS.out.fz
  refine wp_region_still_tail 11 uW uW ?_
  simp only [List.take_succ_cons, List.take_zero, List.drop_succ_cons, List.drop_zero]
  repeat still_step
  refine wpStill_nil ?_
  go_wp2
  go_meet
  case rel => exact (HS.out.s2 _).drew
 case rest =>
 replace HS := mA hcut
 clear hcut
 go_upto_region 8 with fail
 go_cut [] (fun wx => Stt 103 w0 g ((add64 (rotl (add64 a b) 32) (xor64 (rotl d 16) (add64 c d))), (xor64 (rotl (xor64 (rotl b 13) (add64 a b)) 17) (add64 (add64 c d) (xor64 (rotl b 13) (add64 a b)))), (add64 (add64 c d) (xor64 (rotl b 13) (add64 a b))), (xor64 (rotl (xor64 (rotl d 16) (add64 c d)) 21) (add64 (rotl (add64 a b) 32) (xor64 (rotl d 16) (add64 c d))))) wx)
 case first =>
  have c0 := HS.out.c0
  have c1 := HS.out.c1
  have c2 := HS.out.c2
  have c3 := HS.out.c3
  have fz := HS.out.fz
  refine wp_region_still_tail 13 uW uW ?_
  simp only [List.take_succ_cons, List.take_zero, List.drop_succ_cons, List.drop_zero]
  repeat still_step
  still_call (rot 17 uJ _ _)
  repeat still_step
  refine wpStill_nil ?_
  go_wp2
  go_meet
  case rel => exact (HS.out.s1 _).drew
 case rest =>
 replace HS := mA hcut
 clear hcut
 have c0 := HS.out.c0
 have c1 := HS.out.c1
 have c2 := HS.out.c2
 have c3 := HS.out.c3
 have fz := HS.out.fz
 go_wp2_with (go_at_call 114; refine (rot 32 uJ _ _).mono ?_; rintro e w' ⟨rfl, rfl⟩)
 go_end0
 exact ⟨rfl, HS.out.s2 _⟩
theorem lft (n : Nat) (hn : n = 13 ∨ n = 16 ∨ n = 17 ∨ n = 21 ∨ n = 32) (x : Int) (w : World) : Calls Tryz.prog 126 #[.int .u64 x, .int .u64 n] w fun e w' => e = .returned (.int .u64 (rotl x n)) ∧ w' = w := by
 rcases hn with rfl | rfl | rfl | rfl | rfl
 all_goals
  go_enter Tryz.func126, Tryz.ntmps126
  go_wp2
  go_ret
  exact ⟨rfl, rfl⟩
theorem rround (g : Nat) (a b c d : Int) (w0 w : World) (H : Stt 183 w0 g (a, b, c, d) w) :
 Calls Tryz.prog 125 #[.pointer (some ⟨g, 0, none⟩)] w fun e w' => e = .returned (.tuple #[]) ∧ Stt 183 w0 g (rnd (a, b, c, d)) w' := by
 have HS := mA H
 clear H
 go_enter Tryz.func125, Tryz.ntmps125
 go_upto_region 0 with fail
 go_cut [] (fun wx => Stt 183 w0 g ((add64 a b), b, c, d) wx)
 case first =>
  have c0 := HS.out.c0
  have c1 := HS.out.c1
  have c2 := HS.out.c2
  have c3 := HS.out.c3
  have fz := HS.out.fz
  refine wp_region_still_tail 12 uW uW ?_
  simp only [List.take_succ_cons, List.take_zero, List.drop_succ_cons, List.drop_zero]
  repeat still_step
  refine wpStill_nil ?_
  go_wp2
  go_meet
  case rel => exact (HS.out.s0 _).drew
 case rest =>
 replace HS := mA hcut
 clear hcut
 go_upto_region 1 with fail
 go_cut [] (fun wx => Stt 183 w0 g ((add64 a b), (xor64 (rotl b 13) (add64 a b)), c, d) wx)
 case first =>
  have c0 := HS.out.c0
  have c1 := HS.out.c1
  have c2 := HS.out.c2
  have c3 := HS.out.c3
  have fz := HS.out.fz
  refine wp_region_still_tail 13 uW uW ?_
  simp only [List.take_succ_cons, List.take_zero, List.drop_succ_cons, List.drop_zero]
  repeat still_step
  still_call (lft 13 uJ _ _)
  repeat still_step
  refine wpStill_nil ?_
  go_wp2
  go_meet
  case rel => exact (HS.out.s1 _).drew
 case rest =>
 replace HS := mA hcut
 clear hcut
 go_upto_region 2 with fail
 go_cut [] (fun wx => Stt 183 w0 g ((rotl (add64 a b) 32), (xor64 (rotl b 13) (add64 a b)), c, d) wx)
 case first =>
  have c0 := HS.out.c0
  have c1 := HS.out.c1
  have c2 := HS.out.c2
  have c3 := HS.out.c3
  have fz := HS.out.fz
  go_wp2_with (go_at_call 126; refine (lft 32 uJ _ _).mono ?_; rintro e w' ⟨rfl, rfl⟩)
  go_wp2
  go_meet
  case rel => exact (HS.out.s0 _)
 case rest =>
 replace HS := mA hcut
 clear hcut
 go_upto_region 3 with fail
 go_cut [] (fun wx => Stt 183 w0 g ((rotl (add64 a b) 32), (xor64 (rotl b 13) (add64 a b)), (add64 c d), d) wx)
 case first =>
  have c0 := HS.out.c0
  have c1 := HS.out.c1
  have c2 := HS.out.c2
  have c3 := HS.out.c3
  have fz := HS.out.fz
  refine wp_region_still_tail 12 uW uW ?_
  simp only [List.take_succ_cons, List.take_zero, List.drop_succ_cons, List.drop_zero]
  repeat still_step
  refine wpStill_nil ?_
  go_wp2
  go_meet
  case rel => exact (HS.out.s2 _).drew
 case rest =>
 replace HS := mA hcut
 clear hcut
 go_upto_region 4 with fail
 go_cut [] (fun wx => Stt 183 w0 g ((rotl (add64 a b) 32), (xor64 (rotl b 13) (add64 a b)), (add64 c d), (xor64 (rotl d 16) (add64 c d))) wx)
 case first =>
  have c0 := HS.out.c0
  have c1 := HS.out.c1
  have c2 := HS.out.c2
  have c3 := HS.out.c3
  have fz := HS.out.fz
  refine wp_region_still_tail 13 uW uW ?_
  simp only [List.take_succ_cons, List.take_zero, List.drop_succ_cons, List.drop_zero]
  repeat still_step
  still_call (lft 16 uJ _ _)
  repeat still_step
  refine wpStill_nil ?_
  go_wp2
  go_meet
  case rel => exact (HS.out.s3 _).drew
 case rest =>
 replace HS := mA hcut
 clear hcut
 go_upto_region 5 with fail
 go_cut [] (fun wx => Stt 183 w0 g ((add64 (rotl (add64 a b) 32) (xor64 (rotl d 16) (add64 c d))), (xor64 (rotl b 13) (add64 a b)), (add64 c d), (xor64 (rotl d 16) (add64 c d))) wx)
 case first =>
  have c0 := HS.out.c0
  have c1 := HS.out.c1
  have c2 := HS.out.c2
  have c3 := HS.out.c3
  have fz := HS.out.fz
  refine wp_region_still_tail 12 uW uW ?_
  simp only [List.take_succ_cons, List.take_zero, List.drop_succ_cons, List.drop_zero]
  repeat still_step
  refine wpStill_nil ?_
  go_wp2
  go_meet
  case rel => exact (HS.out.s0 _).drew
 case rest =>
 replace HS := mA hcut
 clear hcut
 go_upto_region 6 with fail
 go_cut [] (fun wx => Stt 183 w0 g ((add64 (rotl (add64 a b) 32) (xor64 (rotl d 16) (add64 c d))), (xor64 (rotl b 13) (add64 a b)), (add64 c d), (xor64 (rotl (xor64 (rotl d 16) (add64 c d)) 21) (add64 (rotl (add64 a b) 32) (xor64 (rotl d 16) (add64 c d))))) wx)
 case first =>
  have c0 := HS.out.c0
  have c1 := HS.out.c1
  have c2 := HS.out.c2
  have c3 := HS.out.c3
  have fz := HS.out.fz
  refine wp_region_still_tail 13 uW uW ?_
  simp only [List.take_succ_cons, List.take_zero, List.drop_succ_cons, List.drop_zero]
  repeat still_step
  still_call (lft 21 uJ _ _)
  repeat still_step
  refine wpStill_nil ?_
  go_wp2
  go_meet
  case rel => exact (HS.out.s3 _).drew
 case rest =>
 replace HS := mA hcut
 clear hcut
 go_upto_region 7 with fail
 go_cut [] (fun wx => Stt 183 w0 g ((add64 (rotl (add64 a b) 32) (xor64 (rotl d 16) (add64 c d))), (xor64 (rotl b 13) (add64 a b)), (add64 (add64 c d) (xor64 (rotl b 13) (add64 a b))), (xor64 (rotl (xor64 (rotl d 16) (add64 c d)) 21) (add64 (rotl (add64 a b) 32) (xor64 (rotl d 16) (add64 c d))))) wx)
 case first =>
  have c0 := HS.out.c0
  have c1 := HS.out.c1
  have c2 := HS.out.c2
  have c3 := HS.out.c3
  have fz := HS.out.fz
  refine wp_region_still_tail 12 uW uW ?_
  simp only [List.take_succ_cons, List.take_zero, List.drop_succ_cons, List.drop_zero]
  repeat still_step
  refine wpStill_nil ?_
  go_wp2
  go_meet
  case rel => exact (HS.out.s2 _).drew
 case rest =>
 replace HS := mA hcut
 clear hcut
 go_upto_region 8 with fail
 go_cut [] (fun wx => Stt 183 w0 g ((add64 (rotl (add64 a b) 32) (xor64 (rotl d 16) (add64 c d))), (xor64 (rotl (xor64 (rotl b 13) (add64 a b)) 17) (add64 (add64 c d) (xor64 (rotl b 13) (add64 a b)))), (add64 (add64 c d) (xor64 (rotl b 13) (add64 a b))), (xor64 (rotl (xor64 (rotl d 16) (add64 c d)) 21) (add64 (rotl (add64 a b) 32) (xor64 (rotl d 16) (add64 c d))))) wx)
 case first =>
  have c0 := HS.out.c0
  have c1 := HS.out.c1
  have c2 := HS.out.c2
  have c3 := HS.out.c3
  have fz := HS.out.fz
  refine wp_region_still_tail 13 uW uW ?_
  simp only [List.take_succ_cons, List.take_zero, List.drop_succ_cons, List.drop_zero]
  repeat still_step
  still_call (lft 17 uJ _ _)
  repeat still_step
  refine wpStill_nil ?_
  go_wp2
  go_meet
  case rel => exact (HS.out.s1 _).drew
 case rest =>
 replace HS := mA hcut
 clear hcut
 have c0 := HS.out.c0
 have c1 := HS.out.c1
 have c2 := HS.out.c2
 have c3 := HS.out.c3
 have fz := HS.out.fz
 go_wp2_with (go_at_call 126; refine (lft 32 uJ _ _).mono ?_; rintro e w' ⟨rfl, rfl⟩)
 go_end0
 exact ⟨rfl, HS.out.s2 _⟩
end Go.Proofs.YtkpfojpmigchlaaGreat.Own
namespace Go.Proofs.YtkpfojpmigchlaaGreat.Own
open Go Go.RowKit Go.Proofs.YtkpfojpmigchlaaGreatW.PrintWords Go.Proofs.YtkpfojpmigchlaaGreatW.PrintMore Go.Proofs.YtkpfojpmigchlaaGreatW.PrintLast
open Go.Proofs.YtkpfojpmigchlaaGreat.Zip
set_option maxHeartbeats 16000000
set_option maxRecDepth 100000
theorem wp_scope_loop {P : Program} {a : Act} {w : World} {Q : Exit → Act → World → Prop} {c rest : Code} (l : Nat) (J : Act → World → Prop) (μ : Act → World → Nat) (hf : findLabel c l = some (Code.skip.seq rest))
 (enter : (∀ a w, J a w → rest.wp P (Exit.jump l J Q) a w) → c.wp P (Exit.jump l J Q) a w)
 (pass : ∀ a w, J a w → rest.wp P (Exit.jump l (fun a' w' => J a' w' ∧ μ a' w' < μ a w) Q) a w) : (Code.scope c).wp P Q a w := by
 refine wp_scope_jumps l J μ hf (enter fun a w h => wp_mono (pass a w h) ?_) (fun a w h => ?_)
 ·intro e a' w' hq
  cases e <;> first | exact hq | exact ⟨hq.1, hq.2.1⟩
 ·exact wp_seq (wp_skip (pass a w h))
def plusI (a b : Int) : Int := wrap64 ((Go.bits .and .i64 (wrap64 (a + b)) 65535) + (Go.bits .and .i64 ((wrap64 (a + b)) / 65536) 65535))
theorem plus_calls (a b : Int) (w : World) : Calls Tryz.prog 92 #[.int .i64 a, .int .i64 b] w fun e w' => e = .returned (.int .i64 (plusI a b)) ∧ w = w' := by
 go_enter Tryz.func92, Tryz.ntmps92
 go_wp2
 go_ret
 exact ⟨rfl, rfl⟩
def sumAdd (l : List Int) : Nat → Nat → Int → Option Int
 | 0, _, _ => none
 | k + 1, i, s =>
  if i < l.length then
   if i + 1 < l.length then sumAdd l k (i + 2) (plusI s (wrap64 (wrap64 (wrap64 (rd l (i : Int)) * 256) + wrap64 (rd l ((i + 1 : Nat) : Int)))))
   else sumAdd l k (i + 2) (plusI s (wrap64 (wrap64 (rd l (i : Int)) * 256)))
  else some s
def AddAt (A : Option Addr) (n c : Nat) (s : Int) (i : Nat) (a : Act) : Prop := ∃ (u5 u6 u7 u8 u9 u10 u11 u12 u13 u14 u15 u16 u17 u18 u19 u20 u21 u22 u23 u24 u25 u26 u27 u28 u29 u30 u31 u32 u33 u34 : Value), a = { tmps := #[.slice A n c, undef, .int .i64 0, .int .i64 s, .int .i64 i, u5, u6, u7, u8, u9, u10, u11, u12, u13, u14, u15, u16, u17, u18, u19, u20, u21, u22, u23, u24, u25, u26, u27, u28, u29, u30, u31, u32, u33, u34], defers := [] }
theorem add_calls (k : Nat) (A : Option Addr) (c : Nat) (l : List Int) (r : Int) (w : World) (hr : Kd.C (Kd.int .u8) w A l.length l) (hc : l.length ≤ c) (hl : l.length ≤ 1048576) (h : sumAdd l k 0 0 = some r) :
 Calls Tryz.prog 46 #[.slice A l.length c] w fun e w' => e = .returned (.int .i64 r) ∧ w = w' := by
 have HR := mA hr
 have HF := mA h
 have HL := mA hl
 clear hr h hl
 go_enter Tryz.func46, Tryz.ntmps46
 go_wp2
 refine wp_scope_loop 0 (fun a' w' => ∃ (gk : Nat) (s : Int) (i : Nat), AddAt A l.length c s i a' ∧ Aside0 (i ≤ l.length + 1 ∧ sumAdd l gk i s = some r) ∧ w = w') (fun a' _ => l.length + 2 - (intOf (a'.tmps.getD 4 undef)).toNat) rfl ?_ ?_
 ·intro H
  go_wp2
  go_step3
  rename_i hK
  refine hK _ _ (H _ _ ⟨k, 0, 0, ⟨_, _, _, _, _, _, _, _, _, _, _, _, _, _, _, _, _, _, _, _, _, _, _, _, _, _, _, _, _, _, rfl⟩, ⟨qN, HF.out⟩, rfl⟩)
 ·rintro a' w' ⟨gk, s, i, ⟨u5, u6, u7, u8, u9, u10, u11, u12, u13, u14, u15, u16, u17, u18, u19, u20, u21, u22, u23, u24, u25, u26, u27, u28, u29, u30, u31, u32, u33, u34, rfl⟩, HI, rfl⟩
  dsimp only
  cases gk with
  | zero => exact absurd HI.out.2 (by simp [sumAdd])
  | succ gk =>
  have hstep := HI.out.2
  simp only [sumAdd] at hstep
  by_cases c1 : i < l.length
  ·rw [if_pos c1] at hstep
   have c1b : decide ((i : Int) < (l.length : Int)) = true := decide_eq_true uY
   have p1 : ((0 : Int) ≤ (i : Int)) = True := eq_true uY
   have p2 : ((i : Int) < (l.length : Int)) = True := eq_true uY
   have p3 : (i < l.length) = True := eq_true c1
   obtain ⟨ad, rfl, hx⟩ := Kd.at_int HR.out i uY uY
   rw [Int.toNat_natCast] at hx
   have hw1 : wrap64 ((i : Int) + 1) = (i : Int) + 1 := by have h_ := HL.out; unfold wrap64; omega
   have hw2 : wrap64 ((i : Int) + 2) = (i : Int) + 2 := by have h_ := HL.out; unfold wrap64; omega
   by_cases c2 : i + 1 < l.length
   ·rw [if_pos c2] at hstep
    have c2b : decide ((i : Int) + 1 < (l.length : Int)) = true := decide_eq_true uY
    have p4 : ((0 : Int) ≤ (i : Int) + 1) = True := eq_true uY
    have p5 : ((i : Int) + 1 < (l.length : Int)) = True := eq_true uY
    have p6 : (i + 1 < l.length) = True := eq_true c2
    obtain ⟨ad2, ha2, hx1⟩ := Kd.at_int HR.out ((i + 1 : Nat) : Int) uY uY
    obtain rfl := Option.some.inj ha2
    rw [Int.toNat_natCast] at hx1
    have hz : w.cell? ⟨ad.block, ad.off + (i + 1), none⟩ = some (.int .u8 (rd l ((i + 1 : Nat) : Int))) := by rw [show (⟨ad.block, ad.off + (i + 1), none⟩ : Addr) = ad.add (i + 1) from by simp [Addr.add]]; exact hx1
    have HN : Aside0 (i + 2 ≤ l.length + 1 ∧ sumAdd l gk (i + 2) (plusI s (wrap64 (wrap64 (wrap64 (rd l (i : Int)) * 256) + wrap64 (rd l ((i + 1 : Nat) : Int))))) = some r) := ⟨qN, hstep⟩
    have HI2 := mA c1
    clear hstep ha2 c1 c2
    go_wp2_with (go_at_call 92; refine (plus_calls _ _ _).mono ?_; rintro e w' ⟨rfl, rfl⟩)
    go_step3
    rw [hw2, show (i : Int) + 2 = ((i + 2 : Nat) : Int) from by omega]
    refine ⟨rfl, ⟨gk, _, i + 2, ⟨_, _, _, _, _, _, _, _, _, _, _, _, _, _, _, _, _, _, _, _, _, _, _, _, _, _, _, _, _, _, rfl⟩, HN, rfl⟩, ?_⟩
    have h_ := HI2.out
    simp [intOf]
    omega
   ·rw [if_neg c2] at hstep
    have c2b : decide ((i : Int) + 1 < (l.length : Int)) = false := decide_eq_false uY
    have p5 : ((i : Int) + 1 < (l.length : Int)) = False := eq_false uY
    have p6 : (i + 1 < l.length) = False := eq_false c2
    have HN : Aside0 (i + 2 ≤ l.length + 1 ∧ sumAdd l gk (i + 2) (plusI s (wrap64 (wrap64 (rd l (i : Int)) * 256))) = some r) := ⟨qN, hstep⟩
    have HI2 := mA c1
    clear hstep c1 c2
    go_wp2_with (go_at_call 92; refine (plus_calls _ _ _).mono ?_; rintro e w' ⟨rfl, rfl⟩)
    go_step3
    rw [hw2, show (i : Int) + 2 = ((i + 2 : Nat) : Int) from by omega]
    refine ⟨rfl, ⟨gk, _, i + 2, ⟨_, _, _, _, _, _, _, _, _, _, _, _, _, _, _, _, _, _, _, _, _, _, _, _, _, _, _, _, _, _, rfl⟩, HN, rfl⟩, ?_⟩
    have h_ := HI2.out
    simp [intOf]
    omega
  ·rw [if_neg c1] at hstep
   obtain rfl := Option.some.inj hstep
   have c1b : decide ((i : Int) < (l.length : Int)) = false := decide_eq_false uY
   have p3 : (i < l.length) = False := eq_false c1
   clear hstep c1
   go_wp2
   simp only [Exit.jump]
   go_ret
   exact ⟨rfl, rfl⟩
end Go.Proofs.YtkpfojpmigchlaaGreat.Own
namespace Go.Proofs.YtkpfojpmigchlaaGreat.Own
open Go Go.RowKit Go.Proofs.YtkpfojpmigchlaaGreatW.PrintWords Go.Proofs.YtkpfojpmigchlaaGreatW.PrintLast
section
section
variable {P : Program} {ops : Array Oper} {Q : Exit → Act → World → Prop} {md : Region.Mode} {S : World → Prop} {ds : List Nat}
def Steps (P : Program) (ops : Array Oper) (S : World → Prop) : List (Nat × Nat) → Act → Act → Prop
 | [], a, a' => a = a'
 | i :: is, a, a' => ∃ oi v, ops[i.1]? = some oi ∧ oi.dst = some i.2 ∧ YieldsIf P ops S oi v a ∧ Steps P ops S is (a.put (some i.2) v) a'
theorem Steps.on {i : Nat} {is : List (Nat × Nat)} {N : Tmp} {oi : Oper} {v : Value} {a : Act} {a2 : Act} (hi : ops[i]? = some oi) (hN : oi.dst = some N) (hw : Region.wanted oi (yielded ops a.tmps) = true)
 (hr : ∀ w, S w → (execOp a.eval oi).run P w = .ok (.value v) w) {a1 : Act} (ha : a.put (some N) v = a1) (h : Steps P ops S is a1 a2) : Steps P ops S ((i, N) :: is) a a2 := by
 subst ha
 exact ⟨oi, v, hi, hN, Or.inl ⟨hw, hr⟩, h⟩
theorem Steps.off {i : Nat} {is : List (Nat × Nat)} {N : Tmp} {oi : Oper} {a : Act} {a2 : Act} (hi : ops[i]? = some oi) (hN : oi.dst = some N) (hw : Region.wanted oi (yielded ops a.tmps) = false)
 {a1 : Act} (ha : a.put (some N) undef = a1) (h : Steps P ops S is a1 a2) : Steps P ops S ((i, N) :: is) a a2 := by
 subst ha
 exact ⟨oi, undef, hi, hN, Or.inr ⟨hw, rfl⟩, h⟩
theorem Steps.end_ {a : Act} : Steps P ops S [] a a := rfl
def runB (md : Region.Mode) (ops : Array Oper) (ds : List Nat) : Array Bool → List (Nat × Nat) → Bool
 | _, [] => true
 | l, i :: is => Region.free md ops l i.1 && (Region.ready md ops l).contains i.1 && Region.closedB md ops l && Region.lastB md ops l ds i.1 && runB md ops ds (l.setIfInBounds i.1 true) is
def setL : Array Bool → List (Nat × Nat) → Array Bool
 | l, [] => l
 | l, i :: is => setL (l.setIfInBounds i.1 true) is
theorem run_go (hn : Region.noSelect ops = true) (hQ : ∀ c a (d : Tmp) (v : Value) w, Q (.panic c) (a.put (some d) v) w → Q (.panic c) a w) {w : World} (hS : S w) : ∀ (is : List (Nat × Nat)) (l : Array Bool) (a a2 : Act) (fuel : Nat), runB md ops ds l is = true → Steps P ops S is a a2 → wpAnyLast P md ops Q S ds fuel (setL l is) a2 w → wpAnyLast P md ops Q S ds (fuel + is.length) l a w
 | [], l, a, a2, fuel, _, hs, h => by
  have e : a = a2 := hs
  subst e
  exact h
 | i :: is, l, a, a2, fuel, hc, ⟨oi, v, hi, hd, hy, hs⟩, h => by
  simp only [runB, Bool.and_eq_true] at hc
  obtain ⟨⟨⟨⟨h2, h3⟩, h4⟩, h5⟩, h6⟩ := hc
  refine wpAnyLast_take hi hn h2 h3 h4 h5 (fun c b w hq => ?_) hy hS ?_
  ·rw [hd] at hq; exact hQ c b i.2 v w hq
  ·rw [hd]; exact run_go hn hQ hS is _ _ _ fuel h6 hs h
theorem run_ (is : List (Nat × Nat)) {l : Array Bool} {a a2 : Act} {w : World} {fuel n : Nat} (hf : fuel + is.length = n) (hc : (Region.noSelect ops && runB md ops ds l is) = true) (hQ : ∀ c a (d : Tmp) (v : Value) w, Q (.panic c) (a.put (some d) v) w → Q (.panic c) a w) (hS : S w)
 (hs : Steps P ops S is a a2) (h : wpAnyLast P md ops Q S ds fuel (setL l is) a2 w) : wpAnyLast P md ops Q S ds n l a w := by
 subst hf
 rw [Bool.and_eq_true] at hc
 exact run_go hc.1 hQ hS is l a a2 fuel hc.2 hs h
end
end
end Go.Proofs.YtkpfojpmigchlaaGreat.Own
namespace Go.Proofs.YtkpfojpmigchlaaGreat.Zap
open Go Go.RowKit Go.Proofs.YtkpfojpmigchlaaGreatW.PrintWords Go.Proofs.YtkpfojpmigchlaaGreatW.PrintMore Go.Proofs.YtkpfojpmigchlaaGreatW.PrintLast Go.Proofs.YtkpfojpmigchlaaGreat.Own
abbrev tf (a b : Nat) : Array Bool := (List.replicate a true ++ List.replicate b false).toArray
theorem q_s : (∀ (a : Act) (t : Nat) (v : Value), a.put t v = { a with tmps := a.tmps.setIfInBounds t v }) ∧ (∀ (l : List Value) (i : Nat) (v : Value), l.toArray.setIfInBounds i v = (l.set i v).toArray) ∧ (∀ (x v : Value) (l : List Value), (x :: l).set 0 v = v :: l) ∧ (∀ (x v : Value) (l : List Value) (n : Nat), (x :: l).set (n + 1) v = x :: l.set n v) ∧ (∀ n : Int, IntKind.i64.wrap n = wrap64 n) ∧ (∀ n : Int, IntKind.i32.wrap n = wrap32 n) :=
  ⟨fun _ _ _ => rfl, fun _ _ _ => List.setIfInBounds_toArray .., fun _ _ _ => rfl, fun _ _ _ _ => rfl, i64_w, i32_w⟩
theorem bc {w : World} {g t : Nat} {cs : Array Value} (h : w.heap[g]? = some (.cells cs t (0, 0))) (j : Nat) {v : Value} (hv : cs.toList[j]? = some v := by with_unfolding_all exact rfl) : w.cell? ⟨g, j, none⟩ = some v := by
  rw [blk_cell h j, ← hv, Array.getElem?_toList]
theorem bk2 {w : World} {g t : Nat} {a0 a1 : Value} {r : List Value} (h : w.heap[g]? = some (.cells (List.toArray (a0 :: a1 :: r)) t (0, 0))) : w.cell? ⟨g, 0, none⟩ = some a0 ∧ w.cell? ⟨g, 1, none⟩ = some a1 :=
  ⟨bc h 0, bc h 1⟩
theorem bk3 {w : World} {g t : Nat} {a0 a1 a2 : Value} {r : List Value} (h : w.heap[g]? = some (.cells (List.toArray (a0 :: a1 :: a2 :: r)) t (0, 0))) : w.cell? ⟨g, 0, none⟩ = some a0 ∧ w.cell? ⟨g, 1, none⟩ = some a1 ∧ w.cell? ⟨g, 2, none⟩ = some a2 :=
  ⟨bc h 0, bc h 1, bc h 2⟩
theorem bk4 {w : World} {g t : Nat} {a0 a1 a2 a3 : Value} {r : List Value} (h : w.heap[g]? = some (.cells (List.toArray (a0 :: a1 :: a2 :: a3 :: r)) t (0, 0))) : w.cell? ⟨g, 0, none⟩ = some a0 ∧ w.cell? ⟨g, 1, none⟩ = some a1 ∧ w.cell? ⟨g, 2, none⟩ = some a2 ∧ w.cell? ⟨g, 3, none⟩ = some a3 :=
  ⟨bc h 0, bc h 1, bc h 2, bc h 3⟩
theorem bk5 {w : World} {g t : Nat} {a0 a1 a2 a3 a4 : Value} {r : List Value} (h : w.heap[g]? = some (.cells (List.toArray (a0 :: a1 :: a2 :: a3 :: a4 :: r)) t (0, 0))) : w.cell? ⟨g, 0, none⟩ = some a0 ∧ w.cell? ⟨g, 1, none⟩ = some a1 ∧ w.cell? ⟨g, 2, none⟩ = some a2 ∧ w.cell? ⟨g, 3, none⟩ = some a3 ∧ w.cell? ⟨g, 4, none⟩ = some a4 :=
  ⟨bc h 0, bc h 1, bc h 2, bc h 3, bc h 4⟩
theorem bk7 {w : World} {g t : Nat} {a0 a1 a2 a3 a4 a5 a6 : Value} {r : List Value} (h : w.heap[g]? = some (.cells (List.toArray (a0 :: a1 :: a2 :: a3 :: a4 :: a5 :: a6 :: r)) t (0, 0))) : w.cell? ⟨g, 0, none⟩ = some a0 ∧ w.cell? ⟨g, 1, none⟩ = some a1 ∧ w.cell? ⟨g, 2, none⟩ = some a2 ∧ w.cell? ⟨g, 3, none⟩ = some a3 ∧ w.cell? ⟨g, 4, none⟩ = some a4 ∧ w.cell? ⟨g, 5, none⟩ = some a5 ∧ w.cell? ⟨g, 6, none⟩ = some a6 :=
  ⟨bc h 0, bc h 1, bc h 2, bc h 3, bc h 4, bc h 5, bc h 6⟩
theorem bk13 {w : World} {g t : Nat} {a0 a1 a2 a3 a4 a5 a6 a7 a8 a9 a10 a11 a12 : Value} {r : List Value} (h : w.heap[g]? = some (.cells (List.toArray (a0 :: a1 :: a2 :: a3 :: a4 :: a5 :: a6 :: a7 :: a8 :: a9 :: a10 :: a11 :: a12 :: r)) t (0, 0))) : w.cell? ⟨g, 0, none⟩ = some a0 ∧ w.cell? ⟨g, 1, none⟩ = some a1 ∧ w.cell? ⟨g, 2, none⟩ = some a2 ∧ w.cell? ⟨g, 3, none⟩ = some a3 ∧ w.cell? ⟨g, 4, none⟩ = some a4 ∧ w.cell? ⟨g, 5, none⟩ = some a5 ∧ w.cell? ⟨g, 6, none⟩ = some a6 ∧ w.cell? ⟨g, 7, none⟩ = some a7 ∧ w.cell? ⟨g, 8, none⟩ = some a8 ∧ w.cell? ⟨g, 9, none⟩ = some a9 ∧ w.cell? ⟨g, 10, none⟩ = some a10 ∧ w.cell? ⟨g, 11, none⟩ = some a11 ∧ w.cell? ⟨g, 12, none⟩ = some a12 :=
  ⟨bc h 0, bc h 1, bc h 2, bc h 3, bc h 4, bc h 5, bc h 6, bc h 7, bc h 8, bc h 9, bc h 10, bc h 11, bc h 12⟩
theorem zyy {α : Type} {P R : Prop} {x y : α} (hy : x = y) (H : R) (h : x = y → R → P := by (intro hy_ H; first | (rw [hy_]; with_reducible exact H) | (have H2_ := (Option.bind_some _ _).symm.trans H; rw [hy_]; with_reducible exact H2_) | (have H2_ := (Option.bind_some _ _).symm.trans H; with_reducible exact H2_) | with_reducible exact H | (rw [hy_]; exact H) | exact H)) : P := h hy H
theorem zkr {α P : Prop} (x : Aside0 α) (h : α → P := by (intro x_; (with_reducible repeat (first | apply Kd.R_alloc | apply Kd.R_drewN | apply Kd.R_drew)); exact x_)) : P := h x.out
theorem zif {α : Type} {c : Prop} [Decidable c] {x : Option α} {r : α} (H : (if c then x else none) = some r) : c ∧ x = some r := by
  by_cases h : c
  · rw [if_pos h] at H
    exact ⟨h, H⟩
  · rw [if_neg h] at H
    exact absurd H (by simp)
theorem zin {α : Type} {c : Prop} [Decidable c] {x : Option α} {r : α} (H : (if c then none else x) = some r) : ¬ c ∧ x = some r := by
  by_cases h : c
  · rw [if_pos h] at H
    exact absurd H (by simp)
  · rw [if_neg h] at H
    exact ⟨h, H⟩
section
variable {P : Program} {ops : Array Oper} {Q : Exit → Act → World → Prop} {md : Region.Mode} {S : World → Prop} {ds : List Nat}
abbrev mb (n k : Nat) : Array Bool := ((List.range n).map k.testBit).toArray
theorem tf_new (n : Nat) : Array.replicate n false = tf 0 n := by
  apply Array.toList_inj.1
  simp [tf]
theorem zT {id : Nat} {a : Act} {w : World} (n : Nat) (S : World → Prop) (hS : S w.drew) (h : S w.drew → wpAnyLast P .any ops Q S [] n (tf 0 n) a w.drew) (hm : P.follows .mixedOrders = true := by kernel_rfl) (hn : ops.size = n := by exact rfl) : (Code.region id ops true).wp P Q a w := start_ (tf 0 n) hm hn (tf_new n) hS h
theorem zo (i : Nat) {oi : Oper} {fuel : Nat} {l : Array Bool} {a : Act} {w : World} (l' : Array Bool) (h : ∀ K : Act → World → Prop, Shut (∀ a' w', S w' → (S w' → wpAnyLast P md ops Q S ds fuel l' a' w') → K a' w') → if Region.wanted oi (yielded ops a.tmps) = true then Oper.wp P oi a w K Q else K (a.put none undef) w)
  (hi : ops[i]? = some oi := by exact rfl) (hN : oi.dst = none := by exact rfl) (hc : readyB md ops l l' i = true := by kernel_rfl) (hd : i ∉ ds := by decide) : wpAnyLast P md ops Q S ds (fuel + 1) l a w := one_ l' hi hN hc hd h
theorem zN {fuel : Nat} {l : Array Bool} {a a' : Act} {w : World} (h : wpAnyLast P md ops Q S ds fuel l a' w)
  (ha : a = a' := by (show Act.put _ (some _) _ = _; simp only [q_s]; rfl)) : wpAnyLast P md ops Q S ds fuel l a w := norm_ ha h
theorem zP (i N : Nat) {oi : Oper} {v : Value} {fuel : Nat} {l : Array Bool} {a : Act} {w : World} (l' : Array Bool) {a' : Act} (h : wpAnyLast P md ops Q S ds fuel l' a' w)
  (hi : ops[i]? = some oi := by exact rfl) (hN : oi.dst = some N := by exact rfl) (hc : anyB md ops l l' i = true := by first | exact any_of HT_.out (by kernel_rfl) | kernel_rfl) (hQ : ∀ c a w, Q (.panic c) (a.put oi.dst v) w → Q (.panic c) a w := by exact fun _ _ _ h => h) (hw : Region.wanted oi (yielded ops a.tmps) = true := by rfl) (hr : ∀ w', (execOp a.eval oi).run P w' = .ok (.value v) w' := by (intro w'; go_simp; with_reducible rfl)) (ha : a.put (some N) v = a' := by (simp only [q_s]; rfl)) : wpAnyLast P md ops Q S ds (fuel + 1) l a w := pure_ l' hi hN hc hQ (Or.inl ⟨hw, hr⟩) ha h
theorem zO (i : Nat) {N : Nat} {oi : Oper} {fuel : Nat} {l : Array Bool} {a : Act} {w : World} (l' : Array Bool) (h : ∀ K : Act → World → Prop, Shut (∀ a' w', S w' → (S w' → wpAnyLast P md ops Q S ds fuel l' a' w') → K a' w') → if Region.wanted oi (yielded ops a.tmps) = true then Oper.wp P oi a w K Q else K (a.put (some N) undef) w)
  (hi : ops[i]? = some oi := by exact rfl) (hN : oi.dst = some N := by exact rfl) (hc : readyB md ops l l' i = true := by kernel_rfl) (hd : i ∉ ds := by decide) : wpAnyLast P md ops Q S ds (fuel + 1) l a w := one_ l' hi hN hc hd h
theorem zR (is : List (Nat × Nat)) (fuel : Nat) (a2 : Act) {l : Array Bool} {a : Act} {w : World} {n : Nat} (h : wpAnyLast P md ops Q S ds fuel (setL l is) a2 w)
  (hf : fuel + is.length = n := by exact rfl) (hc : (Region.noSelect ops && runB md ops ds l is) = true := by kernel_rfl) (hQ : ∀ c a (d : Tmp) (v : Value) w, Q (.panic c) (a.put (some d) v) w → Q (.panic c) a w := by exact fun _ _ _ _ _ h => h) (hS : S w := by exact hHeld) (hs : Own.Steps P ops S is a a2 := by (
    repeat first
      | (refine Own.Steps.on (v := ?_) (a1 := ?_) rfl rfl (by rfl) ?_ ?_ ?_
         rotate_left
         · intro w' hs
           repeat (obtain ⟨s_, hs⟩ := (show _ ∧ _ from hs))
           go_simp
           with_reducible rfl
         rotate_left
         · simp only [q_s]
           rfl)
      | (refine Own.Steps.off (a1 := ?_) rfl rfl (by rfl) ?_ ?_
         rotate_left
         · simp only [q_s]
           rfl)
    exact Own.Steps.end_)) : wpAnyLast P md ops Q S ds n l a w := run_ is hf hc hQ hS hs h
theorem zd {o : Oper} {rest : List Oper} {a : Act} {w : World} (N : Tmp) (h : wpList P ops Q (o :: rest) a w) (_hN : o.dst = some N := by exact rfl) : wpList P ops Q (o :: rest) a w := h
theorem zst {o : Oper} {rest : List Oper} {a : Act} {w : World} (t : TypeId) (p : Tmp) {v : Operand} (h : wpList P ops Q (o :: rest) a w) (_ho : o.op = .store t (.tmp p) v := by exact rfl) : wpList P ops Q (o :: rest) a w := h
theorem reps_int {w : World} {b : Nat} {ok : Nat → Prop} (ik : IntKind) : ∀ xs : List Int, Reps ((Kd.int ik).M w b ok) 1 xs (xs.map (Value.int ik))
  | [] => Reps.none _ _
  | x :: r => Reps.one (show (Kd.int ik).M w b ok x [.int ik x] from rfl) (reps_int ik r)
theorem zl {o : Oper} {rest : List Oper} {a : Act} {W : World} (ik : IntKind) (e N : Nat) (xs : List Int) (h : ∀ v1 w1, Kd.R (Kd.int ik) e w1 W.heap.size (fun _ => True) v1 xs → Below W.heap.size W w1 → W.grownBy w1 none → (∃ b, v1.ownBlock = some b ∧ W.heap.size ≤ b) → wpList P ops Q rest (a.put o.dst v1) w1)
  (hd : o.dst = some N := by exact rfl) (hgd : o.guard = none := by exact rfl) (hrun : (execOp a.eval o).run P W = .ok (.value (.slice (some ⟨W.heap.size, 0, none⟩) xs.length xs.length)) (W.alloc (.cells (xs.map (Value.int ik)).toArray e (0, 0))) := by (simp only [List.map_cons, List.map_nil]; first | (go_simp; done) | (go_simp; rfl))) (hm : xs.length ≤ 9223372036854775807 := by simp) : wpList P ops Q (o :: rest) a W :=
  Kd.R_lit (Kd.int ik) _ e hgd hd hrun (reps_int ik xs) (fun _ hk => hk) trivial (Below.refl _ _) (Nat.le_refl _) hm h
theorem zL {rest : List Oper} {oi : Oper} {a : Act} {w : World} (N : Tmp) {f : FuncId} {fn : Func} (hf : P.funcs[f]? = some fn) (args : Array Value) {as_ : Array Operand} {ts : Array TypeId}
  (h : Calls P f args w fun e w' => ∃ v, e = .returned v ∧ wpList P ops Q rest (a.put (some N) v) w') (hop : oi.op = .call { callee := .value (.func f), args := as_, argTypes := ts } := by exact rfl) (hd : oi.dst = some N := by exact rfl) (hg : oi.guard = none := by exact rfl) (hname : (fn.name == "runtime.NumGoroutine") = false := by kernel_rfl) (hb : fn.body.isSome = true := by exact rfl)
  (hargs : as_.map a.eval = args := by (try simp only [List.map_toArray, List.map_cons, List.map_nil]); first | done | rfl | (simp only [List.length_drop, List.length_take]; rfl)) : wpList P ops Q (oi :: rest) a w := goesL_ (some N) hd hg hf hname hb args hop hargs h
theorem zG {oi : Oper} {N : Option Tmp} {a : Act} {w : World} {K : Act → World → Prop} {f : FuncId} {fn : Func} {args : Array Value} {as_ : Array Operand} {ts : Array TypeId} (hf : P.funcs[f]? = some fn)
  (h : Calls P f args w fun e w' => ∃ v, e = .returned v ∧ K (a.put N v) w') (hop : oi.op = .call { callee := .value (.func f), args := as_, argTypes := ts } := by exact rfl) (hname : (fn.name == "runtime.NumGoroutine") = false := by kernel_rfl) (hb : fn.body.isSome = true := by exact rfl)
  (hw : Region.wanted oi (yielded ops a.tmps) = true := by rfl) (hN : oi.dst = N := by exact rfl) (hargs : as_.map a.eval = args := by (simp only [List.map_toArray, List.map_cons, List.map_nil]; rfl)) : if Region.wanted oi (yielded ops a.tmps) = true then Oper.wp P oi a w K Q else K (a.put N undef) w := goes_ hf hname hb args hw hN hop hargs h
theorem zX {o : Oper} {rest : List Oper} {a : Act} {w0 w : World} (N : Nat) (cs : Array Value) (t : Nat) (h : ∀ g w1, Aside0 (w1.heap[g]? = some (.cells cs t (0, 0))) → Aside0 (Below w0.heap.size w0 w1) → Aside0 (w0.heap.size ≤ g) → Below w.heap.size w w1 → g = w.heap.size → wpList P ops Q rest (a.put o.dst (.pointer (some ⟨g, 0, none⟩))) w1)
  (hd : o.dst = some N := by exact rfl) (hgd : o.guard = none := by exact rfl) (hrun : (execOp a.eval o).run P w = .ok (.value (.pointer (some ⟨w.heap.size, 0, none⟩))) (w.alloc (.cells cs t (0, 0))) := by first | (go_simp; done) | (go_simp; rfl)) (hB : Below w0.heap.size w0 w := by repeat (first | (with_reducible first | exact HB.out | apply below_alloc | apply pw_below_drewN | apply below_drew1 | refine below_set ?_ (Aside0.out (by assumption))) | exact HB.out)) : wpList P ops Q (o :: rest) a w :=
  box_event hgd hd hrun fun g hg w1 hb hb2 => h g w1 ⟨hb⟩ ⟨below_step hB hb2⟩ ⟨hg ▸ below_size hB⟩ hb2 hg
theorem zx {o : Oper} {rest : List Oper} {a : Act} {w0 w : World} (N : Nat) (cs : Array Value) (t : Nat) (h : ∀ g w1, Aside0 (w1.heap[g]? = some (.cells cs t (0, 0))) → Aside0 (Below w0.heap.size w0 w1) → Aside0 (w0.heap.size ≤ g) → wpList P ops Q rest (a.put o.dst (.pointer (some ⟨g, 0, none⟩))) w1)
  (hd : o.dst = some N := by exact rfl) (hgd : o.guard = none := by exact rfl) (hrun : (execOp a.eval o).run P w = .ok (.value (.pointer (some ⟨w.heap.size, 0, none⟩))) (w.alloc (.cells cs t (0, 0))) := by first | (go_simp; done) | (go_simp; rfl)) (hB : Below w0.heap.size w0 w := by repeat (first | (with_reducible first | exact HB.out | apply below_alloc | apply pw_below_drewN | apply below_drew1 | refine below_set ?_ (Aside0.out (by assumption))) | exact HB.out)) : wpList P ops Q (o :: rest) a w :=
  box_event hgd hd hrun fun g hg w1 hb hb2 => h g w1 ⟨hb⟩ ⟨below_step hB hb2⟩ ⟨hg ▸ below_size hB⟩
end
end Go.Proofs.YtkpfojpmigchlaaGreat.Zap
namespace Go.Proofs.YtkpfojpmigchlaaGreatW.PrintWords.Aside0
open Go Go.Proofs.YtkpfojpmigchlaaGreatW.PrintWords
theorem cz {w : World} {g t : Nat} {cs : Array Value} (h : Aside0 (w.heap[g]? = some (.cells cs t (0, 0)))) (j : Nat) {v : Value} (hv : cs.toList[j]? = some v := by with_unfolding_all exact rfl) : w.cell? ⟨g, j, none⟩ = some v := by
  rw [blk_cell h.out j, ← hv, Array.getElem?_toList]
theorem fz {w : World} {g t : Nat} {cs : Array Value} (h : Aside0 (w.heap[g]? = some (.cells cs t (0, 0)))) (j : Nat) : w.frozen? ⟨g, j, none⟩ = false := blk_frozen h.out j
end Go.Proofs.YtkpfojpmigchlaaGreatW.PrintWords.Aside0
namespace Go.Proofs.YtkpfojpmigchlaaGreat.Own
open Go Go.RowKit Go.Proofs.YtkpfojpmigchlaaGreatW.PrintWords Go.Proofs.YtkpfojpmigchlaaGreatW.PrintMore Go.Proofs.YtkpfojpmigchlaaGreatW.PrintLast
open Go.Proofs.YtkpfojpmigchlaaGreat.Zip
open Go.Proofs.YtkpfojpmigchlaaGreat.Zap
section
set_option maxHeartbeats 4000000
set_option maxRecDepth 100000
theorem infoB8 : (Tryz.prog.info? 5).map (fun i => (i.zero, i.size, i.bytes)) = some (some (.int .u8 0), 1, 1) := by kernel_rfl
section
variable {ops : Array Oper} {rest : List Oper} {o : Oper} {a : Act} {Q : Exit → Act → World → Prop}
theorem make_cap {w0 W : World} (base : Nat) (hgd : o.guard = none) {N : Tmp} (hd : o.dst = some N) (x y : Operand) (ho : o.op = .makeSlice 39 x y) (m : Int) (hx : a.eval x = .int .i64 0) (hy : a.eval y = .int .i64 m) (h0 : 0 ≤ m) (hm : m ≤ 281474976710656)
 {ok : Nat → Prop} (hok : ok W.heap.size) (HB : Below base w0 W) (hbase : base ≤ W.heap.size)
 (h : ∀ v1 w1, Kd.R (Kd.int .u8) 5 w1 base ok v1 (List.replicate (0 : Int).toNat 0) → Below base w0 w1 → W.grownBy w1 none → (∃ b, v1.ownBlock = some b ∧ W.heap.size ≤ b) → wpList Tryz.prog ops Q rest (a.put o.dst v1) w1) : wpList Tryz.prog ops Q (o :: rest) a W := by
 obtain ⟨n, rfl⟩ := Int.eq_ofNat_of_zero_le h0
 obtain ⟨i0, hi, hzz⟩ := Option.map_eq_some_iff.1 infoB8
 simp only [Prod.mk.injEq] at hzz
 obtain ⟨hz0, hz1, hz2⟩ := hzz
 obtain ⟨W2, hmk, hown, hgrow⟩ := run_make_own (P := Tryz.prog) W base 39 5 i0 _ 1 Tryz.underlying39 hi hz0 hz1 .i64 .i64 n (by rw [hz2]; omega) (by unfold maxLen; omega) hbase
 have HB0 : Below W.heap.size W W2 := ⟨hgrow.os, hgrow.tape, hgrow.output, hgrow.size, fun i h => hgrow.block i h xU⟩
 have HO0 : Kd.R (Kd.int .u8) 5 W2 base ok (.slice (some ⟨W.heap.size, 0, none⟩) 0 n) [] := Kd.R_of_own (by simpa [encs] using hown) (fun k hk => by
  have : W.heap.size = k := by simpa [Value.ownBlock] using hk
  subst this
  exact hok)
 refine wpList_plain hgd fun K hK => ?_
 unfold Oper.wp execOp
 simp only [ho, hx, hy, hmk, Sem.run_bind, Sem.run_pure, Result.andThen_ok]
 exact hK _ _ (h _ _ HO0 (HB.trans ⟨HB0.os, HB0.tape, HB0.output, HB0.size, fun i hi => HB0.block i uY⟩) hgrow ⟨_, by simp [Value.ownBlock], Nat.le_refl _⟩)
end
def sum_Add.f (k : Nat) (l : List Int) : Option Int := if l.length ≤ 1048576 then sumAdd l k 0 0 else none
theorem sum_Add.calls (k : Nat) (A : Option Addr) (c : Nat) (l : List Int) (r : Int) (w : World) (hr : Kd.C (Kd.int .u8) w A l.length l) (hc : l.length ≤ c) (h : sum_Add.f k l = some r) :
 Calls Tryz.prog 46 #[.slice A l.length c] w fun e w' => e = .returned (.int .i64 r) ∧ Drawn0 w w' := by
 unfold sum_Add.f at h
 split at h
 ·rename_i hl
  refine (add_calls k A c l r w hr hc hl h).mono ?_
  rintro e w' ⟨rfl, rfl⟩
  exact ⟨rfl, 0, rfl⟩
 ·exact absurd h xU
theorem clone_calls (A : Option Addr) (c : Nat) (l : List Int) (w : World) (hr : Kd.C (Kd.int .u8) w A l.length l) (hc : l.length ≤ c) (hl : l.length ≤ 1048576) :
 Calls Tryz.prog 59 #[.slice A l.length c] w fun e w' => ∃ v0_ : Value, e = .returned (v0_) ∧ Kd.R (Kd.int .u8) 5 w' w.heap.size (fun _ => True) v0_ l ∧ Below w.heap.size w w' := by
 have HR := mA hr
 have HL := mA hl
 clear hr hl
 by_cases h0 : l.length = 0
 ·have hb : ((l.length : Int) == 0) = true := beq_iff_eq.2 uY
  have HE : Aside0 (l = []) := ⟨List.eq_nil_of_length_eq_zero h0⟩
  clear h0
  go_enter Tryz.func59, Tryz.ntmps59
  go_wp2
  go_ret
  exact ⟨_, rfl, by rw [HE.out]; exact Kd.R_nil _ _ _ _ _, Below.refl _ _⟩
 ·have hb : ((l.length : Int) == 0) = false := beq_eq_false_iff_ne.2 uY
  clear h0
  go_enter Tryz.func59, Tryz.ntmps59
  go_wp2_with (first
   | ((with_reducible refine zd 9 ?_); refine Kd.R_make (Kd.int .u8) _ 5 rfl (N := 9) rfl 39 _ _ rfl (l.length : Int) rfl rfl Tryz.underlying39 (.int .u8 0) 1 infoB8 rfl uJ uJ 0 (ok := fun _ => True) (okp := fun _ => True) rfl (fun _ hk => hk) trivial uY uB (Below.refl _ _) (Nat.le_refl _) ?_; intro v9 w1 ho hB hg_ hat_; rw [Int.toNat_natCast] at ho; have HO := mA ho; have HB := mA hB; clear ho hB hg_ hat_)
   | ((with_reducible refine gate_builtin (b := .copy) (xs := #[.tmp 10, .tmp 11]) rfl ?_); refine Kd.R_copy (enc := Value.int .u8) (h1 := fun _ => rfl) (0 : Int) (w0 := w) w.heap.size rfl (.tmp 10) (.tmp 11) 39 39 5 rfl Tryz.underlying39 uW v9 (List.replicate l.length 0) l A l.length c (fun _ => True) rfl rfl HO.out (Kd.C_below HR.out HB.out) HB.out HB.out.size ?_; intro w2 ho hB hg_; rw [show List.take (min l.length (List.replicate l.length (0 : Int)).length) l ++ List.drop (min l.length (List.replicate l.length (0 : Int)).length) (List.replicate l.length 0) = l from by simp] at ho; replace HO := mA ho; replace HB := mA hB; clear ho hB hg_))
  go_ret
  exact ⟨_, rfl, HO.out, HB.out⟩
def wire_clone.f (k : Nat) (l : List Int) : Option (List Int) := match k with
 | 0 => none
 | _ + 1 => if l.length ≤ 1048576 then some l else none
end
end Go.Proofs.YtkpfojpmigchlaaGreat.Own
namespace Go.Proofs.YtkpfojpmigchlaaGreat.Own
open Go.RowKit Go.Proofs.YtkpfojpmigchlaaGreatW.PrintWords Go.Proofs.YtkpfojpmigchlaaGreatW.PrintMore Go.Proofs.YtkpfojpmigchlaaGreatW.PrintLast
open Go.Proofs.YtkpfojpmigchlaaGreat.Zip
set_option maxHeartbeats 4000000
set_option maxRecDepth 100000
theorem rounds (n : Nat) (hn : n ≤ 4) (g : Nat) (v : Int × Int × Int × Int) (w0 w : World) (H : Stt 103 w0 g v w) :
 Calls Tryz.prog 49 #[.pointer (some ⟨g, 0, none⟩), .int .i64 n] w fun e w' => e = .returned (.tuple #[]) ∧ Stt 103 w0 g (rndN n v) w' := by
 have HS := mA H
 clear H
 go_enter Tryz.func49, Tryz.ntmps49
 go_wp2
 go_loopw [5] (fun i wr => ∃ j : Nat, j ≤ n ∧ i = .int .i64 j ∧ Aside0 (Stt 103 w0 g (rndN j v) wr)) (fun i _ => n - (intOf i).toNat)
 case atStart => exact ⟨0, Nat.zero_le _, rfl, HS⟩
 case round =>
  obtain ⟨j, hj, rfl, HJ⟩ := hrel
  by_cases hlt : j < n
  ·go_wp2_with (go_at_call 93; refine (round g _ _ _ _ w0 _ HJ.out).mono ?_; rintro e w' ⟨rfl, hS⟩; have HS' := mA hS; clear hS)
   go_roundw
   case rel => exact ⟨j + 1, hlt, by go_num, HS'⟩
   case measure => simp [intOf]; omega
  ·go_wp2
   go_end0
   obtain rfl : j = n := by omega
   exact ⟨rfl, HJ.out⟩
theorem take (g : Nat) (v : Int × Int × Int × Int) (n : Int) (w0 w : World) (H : Stt 103 w0 g v w) :
 Calls Tryz.prog 47 #[.pointer (some ⟨g, 0, none⟩), .int .u64 n] w fun e w' => e = .returned (.tuple #[]) ∧ Stt 103 w0 g (eat v n) w' := by
 obtain ⟨a, b, c, d⟩ := v
 have HS := mA H
 have c3 := H.c3
 have f3 := H.fz 3
 clear H
 go_enter Tryz.func47, Tryz.ntmps47
 go_wp2_with (go_at_call 49; refine (rounds 2 uJ g _ w0 _ (HS.out.s3 _)).mono ?_; rintro e w' ⟨rfl, hS⟩; have d0 := hS.c0; have g0 := hS.fz 0; have HS' := mA hS; clear hS)
 go_end0
 exact ⟨rfl, HS'.out.s0 _⟩
theorem rd_nat (l : List Int) (k : Nat) : rd l (k : Int) = l.getD k 0 := by simp [rd]
theorem number (A : Option Addr) (c : Nat) (l : List Int) (w : World) (hr : Kd.C (Kd.int .u8) w A l.length l) (hc : l.length ≤ c) :
 Calls Tryz.prog 48 #[.slice A l.length c] w fun e w' => e = .returned (.int .u64 (num l)) ∧ w = w' := by
 have HR := mA hr
 clear hr
 by_cases h8 : (8 : Int) < l.length
 all_goals
  go_enter Tryz.func48, Tryz.ntmps48
  go_wp2
  go_loop [3, 8] (fun o i => ∃ k : Nat, k ≤ min l.length 8 ∧ i = .int .i64 k ∧ o = .int .u64 (numTo l k)) (fun _ i => 8 - (intOf i).toNat)
  case atStart => exact ⟨0, Nat.zero_le _, rfl, rfl⟩
  case round =>
   obtain ⟨k, hk, rfl, rfl⟩ := hrel
   by_cases hlt : k < min l.length 8
   ·have h1 : k < 8 := by omega
    have h2 : k < l.length := by omega
    obtain ⟨ad, rfl, hx⟩ := Kd.at_int HR.out k uY uY
    rw [Int.toNat_natCast] at hx
    have h3 : 0 ≤ 8 * (k : Int) := by omega
    have h4 : 8 * (k : Int) ≤ 64 := by omega
    clear hk hlt
    go_wp2
    go_round
    case rel => exact ⟨k + 1, qN, by go_num, by rw [numTo, ← rd_nat]⟩
    case measure => simp [intOf]; omega
   ·have h2 : ¬ (k < 8 ∧ k < l.length) := by omega
    have h3 : k = min l.length 8 := by omega
    have HN : Hid (numTo l k = num l) := by rw [h3]; exact rfl
    clear h3 hlt
    go_wp2
    go_ret
    exact ⟨by rw [HN.out]; rfl, rfl⟩
theorem infoU8 : (Tryz.prog.info? 5).map (fun i => (i.zero, i.size, i.bytes)) = some (some (.int .u8 0), 1, 1) := by kernel_rfl
theorem Stt.s2' {T w0 g v w} (h : Stt T w0 g v w) (x : Int) : Stt T w0 g (v.1, v.2.1, x, v.2.2.2) (w.setCell ⟨g, 2, none⟩ (.int .u64 x)) := Stt.s2 (a := v.1) (b := v.2.1) (c := v.2.2.1) (d := v.2.2.2) h x
structure Bs (w : World) (A : Option Addr) (n c : Nat) (l : List Int) : Prop where
 len : l.length = n
 cap : n ≤ c
 reads : Kd.C (Kd.int .u8) w A l.length l
theorem Bs.below {w w' A n c l} (h : Bs w A n c l) (hb : Below w.heap.size w w') : Bs w' A n c l := ⟨h.len, h.cap, Kd.C_below h.reads hb⟩
theorem number_n (A : Option Addr) (n c : Nat) (l : List Int) (w : World) (h : Bs w A n c l) : Calls Tryz.prog 48 #[.slice A n c] w fun e w' => e = .returned (.int .u64 (num l)) ∧ w = w' := by
 obtain ⟨rfl, hc, hr⟩ := h
 exact number A c l w hr hc
theorem cut8 (A : Option Addr) (n c : Nat) (m : List Int) (w : World) (h : Bs w A n c m) (h8 : 8 ≤ n) :
 ∃ A' : Option Addr, (∀ W : World, (Instr.slice 39 (.slice A n c) none (some (.int .i64 8)) none).run Tryz.prog W = .ok (.slice A 8 c) W) ∧
  (∀ W : World, (Instr.slice 39 (.slice A n c) (some (.int .i64 8)) none none).run Tryz.prog W = .ok (.slice A' (n - 8) (c - 8)) W) ∧
  Bs w A 8 c (m.take 8) ∧ Bs w A' (n - 8) (c - 8) (m.drop 8) := by
 obtain ⟨rfl, hc, h⟩ := h
 obtain ⟨i0, hi, _, hsz, _⟩ := info_parts infoU8
 obtain ⟨h1, h2, h3⟩ := print_take_of (P := Tryz.prog) (Value.int .u8) 0 39 5 .i64 Tryz.underlying39 hi hsz A c m 8 uY uY hc
 obtain ⟨A', h4, h5, h6⟩ := print_drop_of (P := Tryz.prog) (Value.int .u8) 0 39 5 .i64 Tryz.underlying39 hi hsz A c m 8 uY uY hc
 have e1 : (m.take (8 : Int).toNat).length = 8 := by rw [List.length_take]; omega
 have e2 : (m.drop (8 : Int).toNat).length = m.length - 8 := List.length_drop
 refine ⟨A', fun W => by rw [h1 W, e1], fun W => by rw [h4 W, e2]; rfl, ⟨e1, qN, Kd.C_of_reads (h1 := fun _ => rfl) (h2 _ (Kd.reads_of_C h))⟩, ⟨e2, qN, Kd.C_of_reads (h1 := fun _ => rfl) (h5 _ (Kd.reads_of_C h))⟩⟩
theorem heap_two (w : World) (o1 o2 : Obj) : ((w.alloc o1).alloc o2).heap[w.heap.size + 1]? = some o2 := by
 have h := heap_alloc_new (w.alloc o1) o2
 rwa [show (w.alloc o1).heap.size = w.heap.size + 1 from by simp] at h
def lenOf : Value → Nat
 | .slice _ n _ => n
 | _ => 0
theorem drop8 {l m : List Int} {j : Nat} (h : m = l.drop (8 * j)) : m.drop 8 = l.drop (8 * (j + 1)) := by rw [h, List.drop_drop]; congr 1
theorem blks_succ {v : Int × Int × Int × Int} {l m : List Int} {j : Nat} (h : m = l.drop (8 * j)) : blks v l (j + 1) = eat (blks v l j) (num (m.take 8)) := by rw [h]; rfl
theorem last_of {l m : List Int} {j n : Nat} (h : m = l.drop (8 * j)) (hn : m.length = n) (h0 : 8 * j ≤ l.length) (h8 : n < 8) : j = l.length / 8 := by
 rw [h, List.length_drop] at hn
 omega
theorem lastNum_of {l m : List Int} {j : Nat} (h : m = l.drop (8 * j)) (hj : j = l.length / 8) : lastNum l = Go.bits .or .u64 (num m) (IntKind.u64.wrap (IntKind.u64.wrap l.length * 2 ^ 56)) := by rw [lastNum, h, hj]
theorem sof (a b : Int) (A : Option Addr) (c : Nat) (l : List Int) (w : World) (hr : Kd.C (Kd.int .u8) w A l.length l) (hc : l.length ≤ c) :
 Calls Tryz.prog 16 #[.agg #[.int .u64 a, .int .u64 b], .slice A l.length c] w fun e w' => e = .returned (.int .u64 (sipOf a b l)) ∧ Below w.heap.size w w' := by
 have HR : Aside0 (Bs w A l.length c l) := ⟨⟨rfl, hc, hr⟩⟩
 clear hr hc
 go_enter Tryz.func16, Tryz.ntmps16
 go_wp2
 go_loopw [6] (fun v6 wr => ∃ (j : Nat) (m : List Int) (n : Nat) (A' : Option Addr) (c' : Nat), v6 = .slice A' n c' ∧ Aside0 (m = l.drop (8 * j) ∧ 8 * j ≤ l.length) ∧ Aside0 (Bs w A' n c' m) ∧ Aside0 (Stt 103 w (w.heap.size + 1) (blks (sipInit a b) l j) wr)) (fun v6 _ => lenOf v6)
 case atStart =>
  exact ⟨0, l, l.length, A, c, rfl, ⟨by simp, qN⟩, HR, ⟨heap_two _ _ _, below_alloc (below_alloc (Below.refl _ _) _) _, qN⟩⟩
 case round =>
  obtain ⟨j, m, n, A', c', rfl, HM, HB, HS⟩ := hrel
  by_cases h8 : (8 : Int) ≤ n
  ·obtain ⟨A2, hc1, hc2, hk1, hk2⟩ := cut8 A' n c' m w HB.out uY
   have HK1 := mA hk1
   have HK2 := mA hk2
   clear hk1 hk2
   go_wp2_with (first | (go_at_call 48; refine (number_n _ _ _ _ _ (HK1.out.below HS.out.below)).mono ?_; rintro e w' ⟨rfl, rfl⟩) | (go_at_call 47; refine (take _ _ _ w _ HS.out).mono ?_; rintro e w' ⟨rfl, hS⟩; have HS' := mA hS; clear hS))
   go_roundw
   case rel => exact ⟨j + 1, m.drop 8, n - 8, A2, c' - 8, rfl, ⟨drop8 HM.out.1, by have := HM.out; have := HB.out.len; have e := congrArg List.length HM.out.1; rw [List.length_drop] at e; omega⟩, HK2, ⟨by rw [blks_succ HM.out.1]; exact HS'.out⟩⟩
   case measure => simp [lenOf]; omega
  ·have HJ := mA (last_of HM.out.1 HB.out.len HM.out.2 uY)
   have HL := mA (lastNum_of HM.out.1 HJ.out)
   go_wp2_with (first | (go_at_call 48; refine (number_n _ _ _ _ _ (HB.out.below HS.out.below)).mono ?_; rintro e w' ⟨rfl, rfl⟩) | (go_at_call 47; refine (take _ _ _ w _ HS.out).mono ?_; rintro e w' ⟨rfl, hS⟩; have HS' := mA hS; clear hS; have d2 := HS'.out.c2; have f2 := HS'.out.fz 2) | (go_at_call 49; refine (rounds 4 uJ _ _ w _ (HS'.out.s2' _)).mono ?_; rintro e w' ⟨rfl, hS⟩; have e0 := hS.c0; have e1 := hS.c1; have e2 := hS.c2; have e3 := hS.c3; have HS2 := mA hS; clear hS))
   go_quiet (fail)
   go_wp2
   go_ret
   refine ⟨?_, pw_below_drewN HS2.out.below _⟩
   rw [sipOf, ← HJ.out, HL.out]
   rfl
theorem words_in (l : List Int) (k : Nat) (h : k < l.length) : wordBytes (l.take k) ++ wordTo (rd l k) 8 = wordBytes (l.take (k + 1)) := by rw [wordBytes_take l k h, rd_nat]
theorem swords (a b : Int) (A : Option Addr) (c : Nat) (l : List Int) (w : World) (hr : Kd.C (Kd.int .i64) w A l.length l) (hc : l.length ≤ c) (hl : l.length ≤ 1048576) :
 Calls Tryz.prog 15 #[.agg #[.int .u64 a, .int .u64 b], .slice A l.length c] w fun e w' => e = .returned (.int .u64 (sipWords a b l)) ∧ Below w.heap.size w w' := by
 have HR := mA hr
 clear hr
 obtain ⟨i0, hi, hz0, hz1, hz2⟩ := info_parts infoU8
 obtain ⟨W1, hW1⟩ : ∃ W1, W1 = w.alloc (.cells #[.int .u64 a, .int .u64 b] 29) := ⟨_, rfl⟩
 have hs1 : W1.heap.size = w.heap.size + 1 := by rw [hW1]; simp
 obtain ⟨W2, hmk, hown, hgrow⟩ := run_make_own (P := Tryz.prog) W1 (w.heap.size + 1) 39 5 i0 _ 1 Tryz.underlying39 hi hz0 hz1 .i64 .i64 (8 * l.length) (by rw [hz2]; omega) (by unfold maxLen; omega) uY
 have HB0 : Below (w.heap.size + 1) W1 W2 := by rw [← hs1]; exact ⟨hgrow.os, hgrow.tape, hgrow.output, hgrow.size, fun i h => hgrow.block i h xU⟩
 have HO0 : Kd.R (Kd.int .u8) 5 W2 (w.heap.size + 1) (fun _ => True) (.slice (some ⟨W1.heap.size, 0, none⟩) 0 (8 * l.length)) [] := Kd.R_of_own (by simpa [encs] using hown) (fun _ _ => trivial)
 have HB := mA HB0
 have HO := mA HO0
 clear hi hz0 hz1 hz2 hown hgrow HB0 HO0
 rw [show ((8 * l.length : Nat) : Int) = 8 * (l.length : Int) from by omega, hs1] at hmk
 rw [hs1] at HO
 have HW1 := mA hW1
 rw [hW1] at hmk
 clear hW1 hs1
 go_enter Tryz.func15, Tryz.ntmps15
 go_wp2
 go_loopw [5, 15] (fun v5 v15 wr => ∃ k : Nat, k ≤ l.length ∧ v15 = .int .i64 k ∧ Aside0 (Kd.R (Kd.int .u8) 5 wr (w.heap.size + 1) (fun _ => True) v5 (wordBytes (l.take k))) ∧ Aside0 (Below (w.heap.size + 1) W1 wr)) (fun _ v15 _ => l.length - (intOf v15).toNat)
 case atStart => exact ⟨0, Nat.zero_le _, rfl, ⟨by simpa [wordBytes] using HO.out⟩, HB⟩
 case round =>
  clear HO HB
  obtain ⟨k, hk, rfl, HO, HB⟩ := hrel
  by_cases hlt : k < l.length
  ·obtain ⟨ad, rfl, hx⟩ := Kd.at_int HR.out k uY uY
   rw [Int.toNat_natCast] at hx
   have hlt1 := World.block_lt_of_cell? w _ hx
   have hx1 : W1.cell? (ad.add k) = some (.int .i64 (rd l k)) := by
    rw [HW1.out]
    exact ((below_alloc (Below.refl _ _) _).cell hlt1).trans hx
   replace hx := (HB.out.cell (p := ad.add k) uY).trans hx1
   clear hx1 hlt1
   go_wp2
   obtain ⟨wo, hwo⟩ : ∃ wo : World, wo = wr := ⟨_, rfl⟩
   go_loopw [5, 19] (fun v5 v19 wr => ∃ j : Nat, j ≤ 8 ∧ v19 = .int .i64 j ∧ Aside0 (Kd.R (Kd.int .u8) 5 wr (w.heap.size + 1) (fun _ => True) v5 (wordBytes (l.take k) ++ wordTo (rd l k) j)) ∧ Aside0 (Below (w.heap.size + 1) W1 wr)) (fun _ v19 _ => 8 - (intOf v19).toNat)
   case atStart => exact ⟨0, qN, rfl, ⟨by simpa [wordTo] using HO.out⟩, HB⟩
   case round =>
    clear HO HB
    obtain ⟨j, hj, rfl, HO, HB⟩ := hrel
    by_cases hj8 : j < 8
    ·have h3 : 0 ≤ 8 * (j : Int) := by omega
     have h4 : 8 * (j : Int) ≤ 64 := by omega
     have HL : Hid ((wordBytes (l.take k) ++ wordTo (rd l k) j).length ≤ 8388616) := by
      unfold Hid
      rw [List.length_append, wordBytes_length, wordTo_length, List.length_take]; omega
     go_wp2_with (first | ((with_reducible refine gate_builtin (b := .append) (xs := #[.tmp 22, .tmp 29]) rfl ?_); at_builtin; refine Kd.R_append (Kd.int .u8) (w0 := W1) (w.heap.size + 1) rfl (.tmp 22) (.tmp 29) 39 5 (.int .u8 0) 1 rfl Tryz.underlying39 infoU8 rfl uJ uY u5 (wordBytes (l.take k) ++ wordTo (rd l k) j) (byteAt (rd l k) j) [.int .u8 (byteAt (rd l k) j)] (fun _ => True) (fun _ => False) rfl rfl ?aP (fun _ hk => hk.elim) ?aF ?aO ?aB ?aS ?aL ?_; (case aP => exact rfl); (case aB => exact HB.out); (case aF => exact (fun _ _ => trivial)); (case aO => exact HO.out); (case aS => (have := HB.out.size; rw [HW1.out] at this; simp at this; omega)); (case aL => (have := HL.out; omega)); intro v112 w13 ho hb hg hat; have HO' := mA ho; have HB' := mA hb; clear ho hb hg hat HO HB))
     go_roundw
     case rel => exact ⟨j + 1, qN, by go_num, ⟨by rw [wordTo_succ, ← List.append_assoc]; exact HO'.out⟩, HB'⟩
     case measure => simp [intOf]; omega
    ·exact zZ
  ·obtain rfl : k = l.length := by omega
   obtain ⟨bs, hbs⟩ : ∃ bs, bs = wordBytes l := ⟨_, rfl⟩
   have HR2 : Kd.R (Kd.int .u8) 5 wr (w.heap.size + 1) (fun _ => True) u5 bs := by rw [hbs, ← List.take_length (l := l)]; exact HO.out
   have HBS := mA hbs
   clear hbs HO
   obtain ⟨A2, c2, rfl, hl2, hC⟩ := Kd.R_reads HR2
   have hb0 : wr.heap[w.heap.size]? = some (.cells #[.int .u64 a, .int .u64 b] 29 (0, 0)) := by
    rw [HB.out.block _ uY, HW1.out]
    exact heap_alloc_new _ _
   have hc0 : wr.cell? ⟨w.heap.size, 0, none⟩ = some (.int .u64 a) := (blk_cell hb0 0).trans rfl
   have hc1 : wr.cell? ⟨w.heap.size, 1, none⟩ = some (.int .u64 b) := (blk_cell hb0 1).trans rfl
   have HC := mA hC
   have HL2 := mA hl2
   have HBW : Aside0 (Below w.heap.size w wr) := ⟨by
    have h1 : Below w.heap.size w W1 := by rw [HW1.out]; exact below_alloc (Below.refl _ _) _
    exact h1.trans ⟨HB.out.os, HB.out.tape, HB.out.output, HB.out.size, fun i hi => HB.out.block i uY⟩⟩
   clear HR2 hb0 hC hl2
   go_wp2_with (go_at_call 16; refine (sof a b A2 c2 bs _ HC.out HL2.out).mono ?_; rintro e w' ⟨rfl, hb⟩; have HE := mA (below_step HBW.out hb); clear hb)
   go_ret
   exact ⟨by rw [HBS.out]; rfl, HE.out⟩
theorem rroundv (g : Nat) (v : Int × Int × Int × Int) (w0 w : World) (H : Stt 183 w0 g v w) :
 Calls Tryz.prog 125 #[.pointer (some ⟨g, 0, none⟩)] w fun e w' => e = .returned (.tuple #[]) ∧ Stt 183 w0 g (rnd v) w' := rround g v.1 v.2.1 v.2.2.1 v.2.2.2 w0 w H
theorem reat (g : Nat) (v : Int × Int × Int × Int) (n : Int) (w0 w : World) (H : Stt 183 w0 g v w) :
 Calls Tryz.prog 123 #[.pointer (some ⟨g, 0, none⟩), .int .u64 n] w fun e w' => e = .returned (.tuple #[]) ∧ Stt 183 w0 g (eat v n) w' := by
 obtain ⟨a, b, c, d⟩ := v
 have c3 := H.c3
 have f3 := H.fz 3
 have HS := mA (H.s3 (xor64 d n))
 clear H
 go_enter Tryz.func123, Tryz.ntmps123
 go_wp2_with fail
 refine (rround g _ _ _ _ w0 _ HS.out).mono ?_
 rintro e w' ⟨rfl, hS⟩
 replace HS := mA hS
 clear hS c3 f3
 go_wp2_with fail
 refine (rround g _ _ _ _ w0 _ HS.out).mono ?_
 rintro e w' ⟨rfl, hS⟩
 have d0 := hS.c0
 have g0 := hS.fz 0
 replace HS := mA hS
 clear hS
 go_wp2
 go_end0
 exact ⟨rfl, HS.out.s0 _⟩
theorem low (A : Option Addr) (n c : Nat) (l : List Int) (w : World) (h : Bs w A n c l) (h8 : n ≤ 8) :
 Calls Tryz.prog 124 #[.slice A n c] w fun e w' => e = .returned (.int .u64 (num l)) ∧ w = w' := by
 obtain ⟨rfl, hc, hr⟩ := h
 have HR := mA hr
 clear hr
 go_enter Tryz.func124, Tryz.ntmps124
 go_wp2
 go_loop [3, 4] (fun o i => ∃ k : Nat, k ≤ l.length ∧ i = .int .i64 k ∧ o = .int .u64 (numTo l k)) (fun _ i => 8 - (intOf i).toNat)
 case atStart => exact ⟨0, Nat.zero_le _, rfl, rfl⟩
 case round =>
  obtain ⟨k, hk, rfl, rfl⟩ := hrel
  by_cases hlt : k < l.length
  ·have h1 : k < 8 := by omega
   obtain ⟨ad, rfl, hx⟩ := Kd.at_int HR.out k uY uY
   rw [Int.toNat_natCast] at hx
   have h3 : 0 ≤ 8 * (k : Int) := by omega
   have h4 : 8 * (k : Int) ≤ 64 := by omega
   have h5 : IntKind.u64.wrap (k : Int) = k := u64_in _ uY uY
   have h6 : IntKind.u64.wrap (8 * (k : Int)) = 8 * (k : Int) := u64_in _ uY uY
   clear hk
   go_wp2
   go_round
   case rel => exact ⟨k + 1, qN, by go_num, by rw [numTo, ← rd_nat]⟩
   case measure => simp [intOf]; omega
  ·have h3 : k = min l.length 8 := by omega
   have HN : Hid (numTo l k = num l) := by rw [h3]; exact rfl
   clear h3
   go_wp2
   go_ret
   exact ⟨by rw [HN.out]; rfl, rfl⟩
theorem mid8 (A : Option Addr) (c : Nat) (l : List Int) (w : World) (h : Bs w A l.length c l) (j : Nat) (hj : j + 8 ≤ l.length) :
 ∃ A' : Option Addr, (∀ W : World, (Instr.slice 39 (.slice A l.length c) (some (.int .i64 (j : Int))) (some (.int .i64 ((j : Int) + 8))) none).run Tryz.prog W = .ok (.slice A' 8 (c - j)) W) ∧
  Bs w A' 8 (c - j) ((l.drop j).take 8) := by
 obtain ⟨_, hc, h⟩ := h
 have e0 : ((j : Int) + 8).toNat = j + 8 := by omega
 have e3 : ((l.take ((j : Int) + 8).toNat).drop (j : Int).toNat) = (l.drop j).take 8 := by rw [e0, Int.toNat_natCast, List.drop_take]; congr 1; omega
 have e2 : ((l.drop j).take 8).length = 8 := by rw [List.length_take, List.length_drop]; omega
 obtain ⟨i0, hi, _, hsz, _⟩ := info_parts infoU8
 obtain ⟨A', h4, h5, h6⟩ := print_mid_of (P := Tryz.prog) (Value.int .u8) 0 39 5 .i64 .i64 Tryz.underlying39 hi hsz A c l j ((j : Int) + 8) uY uY uY hc
 rw [e3] at h4 h5 h6
 rw [Int.toNat_natCast] at h4
 exact jI
theorem dropN (A : Option Addr) (c : Nat) (l : List Int) (w : World) (h : Bs w A l.length c l) (j : Nat) (hj : j ≤ l.length) :
 ∃ A' : Option Addr, (∀ W : World, (Instr.slice 39 (.slice A l.length c) (some (.int .i64 (j : Int))) none none).run Tryz.prog W = .ok (.slice A' (l.length - j) (c - j)) W) ∧
  Bs w A' (l.length - j) (c - j) (l.drop j) := by
 obtain ⟨_, hc, h⟩ := h
 obtain ⟨i0, hi, _, hsz, _⟩ := info_parts infoU8
 obtain ⟨A', h4, h5, h6⟩ := print_drop_of (P := Tryz.prog) (Value.int .u8) 0 39 5 .i64 Tryz.underlying39 hi hsz A c l j uY uY hc
 have e2 : (l.drop j).length = l.length - j := List.length_drop
 rw [Int.toNat_natCast] at h4 h5 h6
 exact jI
theorem rof (a b : Int) (A : Option Addr) (c : Nat) (l : List Int) (w : World) (hr : Kd.C (Kd.int .u8) w A l.length l) (hc : l.length ≤ c) (hm : l.length ≤ 9223372036854775000) :
 Calls Tryz.prog 122 #[.agg #[.int .u64 a, .int .u64 b], .slice A l.length c] w fun e w' => e = .returned (.int .u64 (sipOf a b l)) ∧ Below w.heap.size w w' := by
 have HR : Aside0 (Bs w A l.length c l) := ⟨⟨rfl, hc, hr⟩⟩
 clear hr hc
 have HA := mA (len_and l.length uY)
 have HT := mA (len_top l.length)
 go_enter Tryz.func122, Tryz.ntmps122
 go_wp2
 go_loopw [6] (fun v6 wr => ∃ (j : Nat), v6 = .int .i64 (8 * j : Nat) ∧ Aside0 (8 * j ≤ l.length) ∧ Aside0 (Stt 183 w (w.heap.size + 1) (blks (sipInit a b) l j) wr)) (fun v6 _ => l.length - (intOf v6).toNat)
 case atStart =>
  exact ⟨0, rfl, ⟨qN⟩, ⟨heap_two _ _ _, below_alloc (below_alloc (Below.refl _ _) _) _, qN⟩⟩
 case round =>
  obtain ⟨j, rfl, HM, HS⟩ := hrel
  have hmj := HM.out
  by_cases h8 : 8 * j + 8 ≤ l.length
  ·obtain ⟨A2, hc1, hk1⟩ := mid8 A c l w HR.out (8 * j) h8
   obtain ⟨i, hi⟩ : ∃ i, i = 8 * j := ⟨_, rfl⟩
   rw [← hi] at hc1 h8 hmj hk1
   have HK1 := mA hk1
   clear hk1
   have HI := mA hi
   rw [← hi]
   clear hi
   go_wp2_with (first | (go_at_call 124; refine (low _ _ _ _ _ (HK1.out.below HS.out.below) uJ).mono ?_; rintro e w' ⟨rfl, rfl⟩) | (go_at_call 123; refine (reat _ _ _ w _ HS.out).mono ?_; rintro e w' ⟨rfl, hS⟩; have HS' := mA hS; clear hS))
   go_roundw
   case rel => exact ⟨j + 1, by rw [HI.out]; go_num, ⟨by rw [HI.out] at h8; omega⟩, ⟨by have h := HS'.out; rw [HI.out] at h; exact h⟩⟩
   case measure => simp [intOf]; omega
  ·have hJ : j = l.length / 8 := by omega
   have HL := mA (lastNum_of (l := l) rfl hJ)
   have HJ := mA hJ
   clear hJ
   obtain ⟨A2, hc1, hk1⟩ := dropN A c l w HR.out (8 * j) hmj
   obtain ⟨i, hi⟩ : ∃ i, i = 8 * j := ⟨_, rfl⟩
   rw [← hi] at hc1 h8 hmj hk1
   have HK1 := mA hk1
   clear hk1
   have HI := mA hi
   rw [← hi]
   clear hi
   have HD := HK1
   clear HK1
   go_wp2_with (first | (go_at_call 124; refine (low _ _ _ _ _ (HD.out.below HS.out.below) uY).mono ?_; rintro e w' ⟨rfl, rfl⟩) | (go_at_call 123; refine (reat _ _ _ w _ HS.out).mono ?_; rintro e w' ⟨rfl, hS⟩; have HS' := mA hS; clear hS; have d2 := HS'.out.c2; have f2 := HS'.out.fz 2))
   refine (rroundv _ _ w _ (HS'.out.s2' _)).mono ?_
   rintro e w' ⟨rfl, hS⟩
   have HS1 := mA hS
   clear hS d2 f2
   go_wp2_with fail
   refine (rroundv _ _ w _ HS1.out).mono ?_
   rintro e w' ⟨rfl, hS⟩
   have HS2 := mA hS
   clear hS
   go_wp2_with fail
   refine (rroundv _ _ w _ HS2.out).mono ?_
   rintro e w' ⟨rfl, hS⟩
   have HS3 := mA hS
   clear hS
   go_wp2_with fail
   refine (rroundv _ _ w _ HS3.out).mono ?_
   rintro e w' ⟨rfl, hS⟩
   have HS4 := mA hS
   have e0 := hS.c0
   have e1 := hS.c1
   have e2 := hS.c2
   have e3 := hS.c3
   clear hS
   go_wp2
   go_quiet (fail)
   go_wp2
   go_ret
   refine ⟨?_, pw_below_drewN HS4.out.below _⟩
   rw [sipOf, ← HJ.out, HL.out, ← HT.out, ← HA.out, HI.out]
   rfl
theorem rwords (a b : Int) (A : Option Addr) (c : Nat) (l : List Int) (w : World) (hr : Kd.C (Kd.int .i64) w A l.length l) (hc : l.length ≤ c) (hl : l.length ≤ 1048576) :
 Calls Tryz.prog 120 #[.agg #[.int .u64 a, .int .u64 b], .slice A l.length c] w fun e w' => e = .returned (.int .u64 (sipWords a b l)) ∧ Below w.heap.size w w' := by
 have HR := mA hr
 clear hr
 obtain ⟨W1, hW1⟩ : ∃ W1, W1 = w.alloc (.cells #[.int .u64 a, .int .u64 b] 29) := ⟨_, rfl⟩
 have hs1 : W1.heap.size = w.heap.size + 1 := by rw [hW1]; simp
 have HS1 := mA hs1
 have HB : Aside0 (Below (w.heap.size + 1) W1 W1) := ⟨by rw [← hs1]; exact Below.refl _ _⟩
 have HO : Aside0 (Kd.R (Kd.int .u8) 5 W1 (w.heap.size + 1) (fun _ => True) (.slice none 0 0) []) := ⟨Kd.R_nil _ _ _ _ _⟩
 have HW1 := mA hW1
 clear hW1 hs1
 go_enter Tryz.func120, Tryz.ntmps120
 go_wp2
 rw [← HW1.out]
 go_loopw [5, 6] (fun v5 v15 wr => ∃ k : Nat, k ≤ l.length ∧ v15 = .int .i64 k ∧ Aside0 (Kd.R (Kd.int .u8) 5 wr (w.heap.size + 1) (fun _ => True) v5 (wordBytes (l.take k))) ∧ Aside0 (Below (w.heap.size + 1) W1 wr)) (fun _ v15 _ => l.length - (intOf v15).toNat)
 case atStart => exact ⟨0, Nat.zero_le _, rfl, ⟨by simpa [wordBytes] using HO.out⟩, HB⟩
 case round =>
  clear HO HB
  obtain ⟨k, hk, rfl, HO, HB⟩ := hrel
  by_cases hlt : k < l.length
  ·obtain ⟨ad, rfl, hx⟩ := Kd.at_int HR.out k uY uY
   rw [Int.toNat_natCast] at hx
   have hlt1 := World.block_lt_of_cell? w _ hx
   have hx1 : W1.cell? (ad.add k) = some (.int .i64 (rd l k)) := by
    rw [HW1.out]
    exact ((below_alloc (Below.refl _ _) _).cell hlt1).trans hx
   have HX : Aside0 (∀ wr, Below (w.heap.size + 1) W1 wr → wr.cell? (ad.add k) = some (.int .i64 (rd l k))) := ⟨fun wr hb => (hb.cell (p := ad.add k) uY).trans hx1⟩
   clear hx hx1 hlt1
   go_wp2
   obtain ⟨wo, hwo⟩ : ∃ wo : World, wo = wr := ⟨_, rfl⟩
   go_loopw [5, 7] (fun v5 v19 wr => ∃ j : Nat, j ≤ 8 ∧ v19 = .int .i64 j ∧ Aside0 (Kd.R (Kd.int .u8) 5 wr (w.heap.size + 1) (fun _ => True) v5 (wordBytes (l.take k) ++ wordTo (rd l k) j)) ∧ Aside0 (Below (w.heap.size + 1) W1 wr)) (fun _ v19 _ => 8 - (intOf v19).toNat)
   case atStart => exact ⟨0, qN, rfl, ⟨by simpa [wordTo] using HO.out⟩, HB⟩
   case round =>
    clear HO HB
    obtain ⟨j, hj, rfl, HO, HB⟩ := hrel
    by_cases hj8 : j < 8
    ·have h3 : 0 ≤ 8 * (j : Int) := by omega
     have h4 : 8 * (j : Int) ≤ 64 := by omega
     have h5 : IntKind.u64.wrap (j : Int) = j := u64_in _ uY uY
     have h6 : IntKind.u64.wrap (8 * (j : Int)) = 8 * (j : Int) := u64_in _ uY uY
     have HL : Hid ((wordBytes (l.take k) ++ wordTo (rd l k) j).length ≤ 8388616) := by
      unfold Hid
      rw [List.length_append, wordBytes_length, wordTo_length, List.length_take]; omega
     have hx := HX.out wr HB.out
     go_wp2_with (first | ((with_reducible refine gate_builtin (b := .append) (xs := #[.tmp 18, .tmp 29]) rfl ?_); at_builtin; refine Kd.R_append (Kd.int .u8) (w0 := W1) (w.heap.size + 1) rfl (.tmp 18) (.tmp 29) 39 5 (.int .u8 0) 1 rfl Tryz.underlying39 infoU8 rfl uJ uY u5 (wordBytes (l.take k) ++ wordTo (rd l k) j) (byteAt (rd l k) j) [.int .u8 (byteAt (rd l k) j)] (fun _ => True) (fun _ => False) rfl rfl ?aP (fun _ hk => hk.elim) ?aF ?aO ?aB ?aS ?aL ?_; (case aP => exact rfl); (case aB => exact HB.out); (case aF => exact (fun _ _ => trivial)); (case aO => exact HO.out); (case aS => (have := HB.out.size; rw [HS1.out] at this; omega)); (case aL => (have := HL.out; omega)); intro v112 w13 ho hb hg hat; have HO' := mA ho; have HB' := mA hb; clear ho hb hg hat HO HB))
     go_roundw
     case rel => exact ⟨j + 1, qN, by go_num, ⟨by rw [wordTo_succ, ← List.append_assoc]; exact HO'.out⟩, HB'⟩
     case measure => simp [intOf]; omega
    ·exact zZ
  ·obtain rfl : k = l.length := by omega
   obtain ⟨bs, hbs⟩ : ∃ bs, bs = wordBytes l := ⟨_, rfl⟩
   have HR2 : Kd.R (Kd.int .u8) 5 wr (w.heap.size + 1) (fun _ => True) u5 bs := by rw [hbs, ← List.take_length (l := l)]; exact HO.out
   have HBL : Aside0 (bs.length ≤ 9223372036854775000) := ⟨by rw [hbs, wordBytes_length]; omega⟩
   have HBS := mA hbs
   clear hbs HO
   obtain ⟨A2, c2, rfl, hl2, hC⟩ := Kd.R_reads HR2
   have hb0 : wr.heap[w.heap.size]? = some (.cells #[.int .u64 a, .int .u64 b] 29 (0, 0)) := by
    rw [HB.out.block _ uY, HW1.out]
    exact heap_alloc_new _ _
   have hc0 : wr.cell? ⟨w.heap.size, 0, none⟩ = some (.int .u64 a) := (blk_cell hb0 0).trans rfl
   have hc1 : wr.cell? ⟨w.heap.size, 1, none⟩ = some (.int .u64 b) := (blk_cell hb0 1).trans rfl
   have HC := mA hC
   have HL2 := mA hl2
   have HBW : Aside0 (Below w.heap.size w wr) := ⟨by
    have h1 : Below w.heap.size w W1 := by rw [HW1.out]; exact below_alloc (Below.refl _ _) _
    exact h1.trans ⟨HB.out.os, HB.out.tape, HB.out.output, HB.out.size, fun i hi => HB.out.block i uY⟩⟩
   clear HR2 hb0 hC hl2
   go_wp2_with (go_at_call 122; refine (rof a b A2 c2 bs _ HC.out HL2.out HBL.out).mono ?_; rintro e w' ⟨rfl, hb⟩; have HE := mA (below_step HBW.out hb); clear hb)
   go_ret
   exact ⟨by rw [HBS.out]; rfl, HE.out⟩
def sip_Of.f (k : Nat) (a b : Int) (l : List Int) : Option Int := match k with
 | 0 => none
 | _ + 1 => some (sipOf a b l)
theorem sip_Of.calls (k : Nat) (a b : Int) (A : Option Addr) (c : Nat) (l : List Int) (r : Int) (w : World) (hr : Kd.C (Kd.int .u8) w A l.length l) (hc : l.length ≤ c) (h : sip_Of.f k a b l = some r) :
 Calls Tryz.prog 16 #[.agg #[.int .u64 a, .int .u64 b], .slice A l.length c] w fun e w' => e = .returned (.int .u64 r) ∧ Below w.heap.size w w' := by
 cases k with
 | zero => exact absurd h (by simp [sip_Of.f])
 | succ k =>
  have h2 : some (sipOf a b l) = some r := h
  obtain rfl := Option.some.inj h2
  exact sof a b A c l w hr hc
def sip_Words.f (k : Nat) (a b : Int) (l : List Int) : Option Int := match k with
 | 0 => none
 | _ + 1 => if l.length ≤ 1048576 then some (sipWords a b l) else none
theorem sip_Words.calls (k : Nat) (a b : Int) (A : Option Addr) (c : Nat) (l : List Int) (r : Int) (w : World) (hr : Kd.C (Kd.int .i64) w A l.length l) (hc : l.length ≤ c) (h : sip_Words.f k a b l = some r) :
 Calls Tryz.prog 15 #[.agg #[.int .u64 a, .int .u64 b], .slice A l.length c] w fun e w' => e = .returned (.int .u64 r) ∧ Below w.heap.size w w' := by
 cases k with
 | zero => exact absurd h (by simp [sip_Words.f])
 | succ k =>
  have h2 : (if l.length ≤ 1048576 then some (sipWords a b l) else none) = some r := h
  split at h2
  ·obtain rfl := Option.some.inj h2
   exact swords a b A c l w hr hc uY
  ·exact absurd h2 xU
def rr2_Of.f (k : Nat) (a b : Int) (l : List Int) : Option Int := match k with
 | 0 => none
 | _ + 1 => if l.length ≤ 8388608 then some (sipOf a b l) else none
def rr2_Words.f (k : Nat) (a b : Int) (l : List Int) : Option Int := match k with
 | 0 => none
 | _ + 1 => if l.length ≤ 1048576 then some (sipWords a b l) else none
theorem rr2_Words.calls (k : Nat) (a b : Int) (A : Option Addr) (c : Nat) (l : List Int) (r : Int) (w : World) (hr : Kd.C (Kd.int .i64) w A l.length l) (hc : l.length ≤ c) (h : rr2_Words.f k a b l = some r) :
 Calls Tryz.prog 120 #[.agg #[.int .u64 a, .int .u64 b], .slice A l.length c] w fun e w' => e = .returned (.int .u64 r) ∧ Below w.heap.size w w' := by
 cases k with
 | zero => exact absurd h (by simp [rr2_Words.f])
 | succ k =>
  have h2 : (if l.length ≤ 1048576 then some (sipWords a b l) else none) = some r := h
  split at h2
  ·obtain rfl := Option.some.inj h2
   exact rwords a b A c l w hr hc uY
  ·exact absurd h2 xU
end Go.Proofs.YtkpfojpmigchlaaGreat.Own
namespace Go.Proofs.YtkpfojpmigchlaaGreat.Q
open Go.RowKit Go.Proofs.YtkpfojpmigchlaaGreatW.PrintWords Go.Proofs.YtkpfojpmigchlaaGreatW.PrintLast Go.Proofs.YtkpfojpmigchlaaGreatW.PrintMore Go.Proofs.YtkpfojpmigchlaaGreat.Own
open Go.Proofs.YtkpfojpmigchlaaGreat.Zip
section
attribute [local go_sem] max2_int min2_int max_two min_two max_three min_three max_four min_four
def errW : Option Int → Value
 | none => .nilIface
 | some c => .iface 0 (.int .i64 c)
theorem errW_none : errW none = .nilIface := rfl
theorem errW_some (c : Int) : errW (some c) = .iface 0 (.int .i64 c) := rfl
theorem info3 : (Tryz.prog.info? 3).map (fun i => (i.zero, i.size, i.bytes)) = some (some (.int .i64 0), 1, 8) := by kernel_rfl
theorem info5 : (Tryz.prog.info? 5).map (fun i => (i.zero, i.size, i.bytes)) = some (some (.int .u8 0), 1, 1) := by kernel_rfl
structure S29 where
 f0 : Int
 f1 : Int
def z29 : S29 := ⟨(0 : Int), (0 : Int)⟩
def k29 : Kd S29 := Kd.iso (Kd.pair (Kd.int .u64) (Kd.int .u64)) (fun x : S29 => (x.f0, x.f1))
theorem k29_open {w : World} {x : S29} {cs : List Value} (h : k29.K w x cs) : cs = [.int .u64 x.f0, .int .u64 x.f1] := by
 obtain ⟨_, _, rfl, rfl, rfl⟩ := h
 exact rfl
theorem k29_mk (w : World) (x : S29)  : k29.K w x [.int .u64 x.f0, .int .u64 x.f1] := ⟨[.int .u64 x.f0], [.int .u64 x.f1], rfl, rfl, rfl⟩
def rd_T29 (xs : List S29) (i : Int) : S29 := xs.getD i.toNat z29
theorem at_T29 {w : World} {A : Option Addr} {n : Nat} {xs : List S29} (h : Kd.C k29 w A n xs) (i : Int) (h0 : 0 ≤ i) (h1 : i < n) : ∃ ad , A = some ad ∧ w.cell? (ad.add (i.toNat * 2)) = some (.int .u64 (rd_T29 xs i).f0) ∧ w.cell? ⟨(ad.add (i.toNat * 2)).block, (ad.add (i.toNat * 2)).off + 1, none⟩ = some (.int .u64 (rd_T29 xs i).f1) := by
 obtain ⟨ad, c, e, _, hK, hc0⟩ := Kd.C_get h z29 i h0 h1
 have hc : ∀ j u, c[j]? = some u → w.cell? (ad.add (i.toNat * 2 + j)) = some u := hc0
 obtain rfl := k29_open hK
 exact ⟨ad, e, hc 0 _ rfl, kU⟩
structure S31 where
 f0 : Int
 f1 : S29
 f2 : S29
 f3 : S29
structure S45 where
 f0 : Int
 f1 : Int
 f2 : Int
 f3 : Int
 f4 : Int
 f5 : Int
 f6 : Int
 f7 : Int
 f8 : Int
 f9 : Bool
 f10 : Int
 f11 : (List Int)
 f12 : (List Int)
end
section
open Go.Proofs.YtkpfojpmigchlaaGreat.Zap
set_option maxHeartbeats 8000000
set_option maxRecDepth 100000
attribute [local go_sem] max2_int min2_int max_two min_two max_three min_three max_four min_four
def wheel_spun.f (k : Nat) (a0 : Int) (l1 : List Int) : Option (Int) := (sip_Words.f k 0 0 l1).bind fun t108 => (if a0 = 0 then (none) else (some (wrap64 (Int.tmod t108 a0))))
theorem wheel_spun.calls (k : Nat) (a0 : Int) (A1 : Option Addr) (c1 : Nat) (l1 : List Int) (r : Int) (w : World) (hr1 : Kd.C (Kd.int .i64) w A1 l1.length l1) (hc1 : l1.length ≤ c1) (h : wheel_spun.f k a0 l1 = some r) :
 Calls Tryz.prog 56 #[.int .u64 a0, .slice A1 l1.length c1] w fun e w' => e = .returned (.int .i64 r) ∧ Below w.heap.size w w' := by
 have hu29 := Tryz.underlying29
 have HR1 := mA hr1
 have HC1 := mA hc1
 clear hr1 hc1
 have HB := mA (Below.refl w.heap.size w)
 have H := h
 unfold wheel_spun.f at H
 clear h
 replace H := Option.bind_eq_some_iff.mp H
 obtain ⟨t108, A30, H⟩ := H
 have A3 := mA A30
 clear A30
 obtain ⟨c4, H⟩ := zin H
 have c4b0 : (a0 == 0) = false := beq_eq_false_iff_ne.mpr c4
 have c4b1 : (a0 != 0) = true := bne_iff_ne.mpr c4
 obtain rfl := Option.some.inj H
 go_enter Tryz.func56, Tryz.ntmps56
 go_wp2_with (first | ((with_reducible refine zd 7 ?_); refine zL 7 Tryz.func15 #[.agg #[.int .u64 0, .int .u64 0], .slice A1 l1.length c1] ?_; (with_reducible refine (sip_Words.calls k 0 0 _ _ l1 t108 _ ?side1 ?side2 A3.out).mono ?_); (case side1 => repeat (first | exact HR1.out | (with_reducible refine Kd.C_alloc ?_ _) | (with_reducible refine Kd.C_drewN ?_ _) | (with_reducible refine Kd.C_drew ?_))); (case side2 => exact HC1.out); rintro e w5 ⟨rfl, hb⟩; refine ⟨_, rfl, ?_⟩; replace HB := mA (below_step uQ hb); clear hb))
 go_ret
 exact ⟨yO, yI⟩

def plane_drop.f (a0 : Int) : Option (Int × Int × Bool × List Int) := some (a0, (-1), false, ([] : List Int))
theorem plane_drop.calls (a0 : Int) (r1 : Int) (r2 : Int) (r3 : Bool) (r4 : List Int) (w : World) (h : plane_drop.f a0 = some (r1, r2, r3, r4)) :
 Calls Tryz.prog 23 #[.int .i64 a0] w fun e w' => ∃ v3_ : Value, e = .returned (.agg #[.int .i64 r1, .int .i64 r2, .bool r3, v3_]) ∧ Kd.R (Kd.int .u8) 5 w' w.heap.size (fun _ => True) v3_ r4 ∧ Below w.heap.size w w' := by
 have hu41 := Tryz.underlying41
 have HB := mA (Below.refl w.heap.size w)
 have H : (some (a0, (-1), false, ([] : List Int))) = some (r1, r2, r3, r4) := h
 clear h
 simp only [Option.some.injEq, Prod.mk.injEq] at H
 obtain ⟨rfl, rfl, rfl, rfl⟩ := H
 go_enter Tryz.func23, Tryz.ntmps23
 go_wp2_with (first | (refine zx 2 #[.int .i64 0, .int .i64 0, .bool false, .slice none 0 0] 41 ?_; clear HB; intro gb109 w2 BK109 HB GE109; obtain ⟨hcz3_0, hcz3_1, hcz3_2, hcz3_3⟩ := bk4 BK109.out; have hfz3_0 := BK109.fz 0; have hfz3_1 := BK109.fz 1; have hfz3_2 := BK109.fz 2; have hfz3_3 := BK109.fz 3))
 refine bodyPost_ret (results_cell_row rfl _ _ gb109 41 #[.int .i64 a0, .int .i64 (-1), .bool false, .slice none 0 0] (0, 0) _ rfl ((blk_put (blk_put (blk_put (blk_put BK109.out 0 _ rfl) 1 _ rfl) 2 _ rfl) 3 _ rfl)) Tryz.underlying41 rfl uW) rfl ?_
 exact ⟨_, yO, kQ, yI⟩
def wire_known.f (a0 : Int) : Option (Bool) := if a0 ≥ 1 then (some (decide (a0 ≤ 3))) else (some false)
theorem wire_known.calls (a0 : Int) (r : Bool) (w : World) (h : wire_known.f a0 = some r) :
 Calls Tryz.prog 39 #[.int .i64 a0] w fun e w' => e = .returned (.bool r) ∧ Drawn0 w w' := by
 have H := h
 unfold wire_known.f at H
 clear h
 by_cases c2 : a0 ≥ 1
 ·rw [if_pos c2] at H
  have c2b0 : decide (1 ≤ a0) = true := decide_eq_true c2
  clear c2
  obtain rfl := Option.some.inj H
  go_enter Tryz.func39, Tryz.ntmps39
  go_wp2
  go_ret
  exact jO
 ·rw [if_neg c2] at H
  have c2b0 : decide (1 ≤ a0) = false := decide_eq_false c2
  clear c2
  obtain rfl := Option.some.inj H
  go_enter Tryz.func39, Tryz.ntmps39
  go_wp2
  go_ret
  exact jO
def wire_get.l0 : Nat → Int → List Int → Int → Int → Option (Int)
 | 0, _, _, _, _ => none
 | k + 1, x7, x15, x16, x17 => if x17 < x16 then (if 0 ≤ x17 then (if x17 < (x15.length : Int) then (wire_get.l0 k (Go.bits .or .i64 (wrap64 (x7 * 256)) (wrap64 (rd x15 x17))) x15 x16 (wrap64 (x17 + 1))) else (none)) else (none)) else (some x7)
def wire_get.f (k : Nat) (l0 : List Int) (a1 : Int) (a2 : Int) : Option (Int) := if 0 ≤ a1 then (if a1 ≤ (wrap64 (a1 + a2)) then (if (wrap64 (a1 + a2)) ≤ (l0.length : Int) then (wire_get.l0 k 0 ((l0.take ((wrap64 (a1 + a2)) : Int).toNat).drop (a1 : Int).toNat) (((l0.take ((wrap64 (a1 + a2)) : Int).toNat).drop (a1 : Int).toNat).length : Int) 0) else (none)) else (none)) else (none)
theorem wire_get.calls (k : Nat) (A0 : Option Addr) (c0 : Nat) (l0 : List Int) (a1 : Int) (a2 : Int) (r : Int) (w : World) (hr0 : Kd.C (Kd.int .u8) w A0 l0.length l0) (hc0 : l0.length ≤ c0) (h : wire_get.f k l0 a1 a2 = some r) :
 Calls Tryz.prog 58 #[.slice A0 l0.length c0, .int .i64 a1, .int .i64 a2] w fun e w' => e = .returned (.int .i64 r) ∧ Drawn0 w w' := by
 have HR0 := mA hr0
 have HC0 := mA hc0
 clear hr0 hc0
 have H := h
 unfold wire_get.f at H
 clear h
 by_cases c4 : 0 ≤ a1
 ·rw [if_pos c4] at H
  have c4b0 := eq_true c4
  have c4b1 := decide_eq_true c4
  clear c4
  obtain ⟨c5, H⟩ := zif H
  have c5b0 := eq_true c5
  have c5b1 := decide_eq_true c5
  obtain ⟨c6, H⟩ := zif H
  have c6b0 := eq_true c6
  have c6b1 := decide_eq_true c6
  have HLN : Aside0 (((l0.take ((wrap64 (a1 + a2)) : Int).toNat).drop (a1 : Int).toNat).length = (wrap64 (a1 + a2)).toNat - a1.toNat) := ⟨by rw [List.length_drop, List.length_take, Nat.min_eq_left uY]⟩
  have H' := mA H
  clear H
  obtain ⟨i07, hi07, _, hsz7, _⟩ := info_parts info5
  obtain ⟨A7, hcut7, hA7, hC7⟩ := print_mid_of (P := Tryz.prog) (Value.int .u8) 0 39 5 .i64 .i64 Tryz.underlying39 hi07 hsz7 A0 c0 l0 a1 (wrap64 (a1 + a2)) (of_decide_eq_true uV) xS (of_decide_eq_true uV) HC0.out
  have HR110 := mA (Kd.C_of_reads (h1 := fun _ => rfl) (hA7 _ (Kd.reads_of_C HR0.out)))
  have HC110 := mA hC7
  clear hA7 hC7 hi07 hsz7
  go_enter Tryz.func58, Tryz.ntmps58
  go_wp2
  go_loopg [7, 17] k (fun kq v7 v17 w' => ∃ (x7_1 : Int) (x17_1 : Int), v7 = .int .i64 x7_1 ∧ v17 = .int .i64 x17_1 ∧ Aside0 (wire_get.l0 kq x7_1 ((l0.take ((wrap64 (a1 + a2)) : Int).toNat).drop (a1 : Int).toNat) (((l0.take ((wrap64 (a1 + a2)) : Int).toNat).drop (a1 : Int).toNat).length : Int) x17_1 = some r) ∧ Aside0 (kq ≤ k) ∧ Drawn0 w w')
  case atStart => exact ⟨(0), (0), uN, uN, H', ⟨Nat.le_refl _⟩, qK⟩
  case round =>
   clear H' c4b0 c4b1 c5 c5b0 c5b1 c6 c6b0 c6b1
   obtain ⟨x7_1, x17_1, rfl, rfl, HA, HK1, ⟨m1, rfl⟩⟩ := hrel
   cases gk with
   | zero => exact absurd HA.out (by simp [wire_get.l0])
   | succ k1 =>
    have H := HA.out
    clear HA
    simp only [wire_get.l0] at H
    by_cases c8 : x17_1 < (((l0.take ((wrap64 (a1 + a2)) : Int).toNat).drop (a1 : Int).toNat).length : Int)
    ·rw [if_pos c8] at H
     have c8b0 := decide_eq_true c8
     rw [HLN.out] at c8b0
     clear c8
     obtain ⟨c9, H⟩ := zif H
     have c9b0 := decide_eq_true c9
     clear c9
     obtain ⟨c10, H⟩ := zif H
     have c10b0 := decide_eq_true c10
     rw [HLN.out] at c10b0
     clear c10
     have H' := mA H
     clear H
     have p111 : 0 ≤ (x17_1 : Int) := of_decide_eq_true uV
     have q111 : x17_1 < (((l0.take ((wrap64 (a1 + a2)) : Int).toNat).drop (a1 : Int).toNat).length : Int) := by rw [HLN.out]; exact of_decide_eq_true uV
     obtain ⟨ad111, e111, hx111_0⟩ := Kd.at_int HR110.out x17_1 p111 q111
     cases e111
     rw [HLN.out] at q111
     replace p111 := eq_true p111
     replace q111 := eq_true q111
     go_wp2
     go_roundg k1
     case measure => have := HK1.out; omega
     case rel => exact ⟨(Go.bits .or .i64 (wrap64 (x7_1 * 256)) (wrap64 (rd ((l0.take ((wrap64 (a1 + a2)) : Int).toNat).drop (a1 : Int).toNat) x17_1))), (wrap64 (x17_1 + 1)), uN, uN, H', ⟨kH⟩, qK⟩
    ·exact zQ
 ·exact zJ
def sum_Plus.f (a0 : Int) (a1 : Int) : Option (Int) := some (wrap64 ((Go.bits .and .i64 (wrap64 (a0 + a1)) 65535) + (Go.bits .and .i64 ((wrap64 (a0 + a1)) / 65536) 65535)))
theorem sum_Plus.calls (a0 : Int) (a1 : Int) (r : Int) (w : World) (h : sum_Plus.f a0 a1 = some r) :
 Calls Tryz.prog 92 #[.int .i64 a0, .int .i64 a1] w fun e w' => e = .returned (.int .i64 r) ∧ Drawn0 w w' := by
 have H := h
 unfold sum_Plus.f at H
 clear h
 obtain rfl := Option.some.inj H
 go_enter Tryz.func92, Tryz.ntmps92
 go_wp2
 go_ret
 exact jO
def sum_Right.f (k : Nat) (l0 : List Int) : Option (Bool) := (sum_Add.f k l0).bind fun t112 => (some (t112 == 65535))
theorem sum_Right.calls (k : Nat) (A0 : Option Addr) (c0 : Nat) (l0 : List Int) (r : Bool) (w : World) (hr0 : Kd.C (Kd.int .u8) w A0 l0.length l0) (hc0 : l0.length ≤ c0) (h : sum_Right.f k l0 = some r) :
 Calls Tryz.prog 95 #[.slice A0 l0.length c0] w fun e w' => e = .returned (.bool r) ∧ Drawn0 w w' := by
 have HR0 := mA hr0
 have HC0 := mA hc0
 clear hr0 hc0
 have H := h
 unfold sum_Right.f at H
 clear h
 replace H := Option.bind_eq_some_iff.mp H
 obtain ⟨t112, A20, H⟩ := H
 have A2 := mA A20
 clear A20
 obtain rfl := Option.some.inj H
 go_enter Tryz.func95, Tryz.ntmps95
 go_wp2_with (first | ((with_reducible refine zd 4 ?_); refine zL 4 Tryz.func46 #[.slice A0 l0.length c0] ?_; (with_reducible refine (sum_Add.calls k _ _ l0 t112 _ ?side1 ?side2 A2.out).mono ?_); (case side1 => repeat (first | exact HR0.out | (with_reducible refine Kd.C_alloc ?_ _) | (with_reducible refine Kd.C_drewN ?_ _) | (with_reducible refine Kd.C_drew ?_))); (case side2 => exact HC0.out); rintro e w' ⟨rfl, ⟨nd, rfl⟩⟩; refine ⟨_, rfl, ?_⟩))
 go_ret
 exact jO
def wire_head.j0 : Nat → List Int → Bool → Option (Int)
 | 0, _, _ => none
 | k + 1, x0, x14 => if x14 = true then (some 3) else (if 16 ≤ (x0.length : Int) then ((sum_Right.f k (x0.take 16)).bind fun t118 => (if t118 = true then (if (x0.length : Int) < 24 then (some 1) else (if 0 < (x0.length : Int) then (if (wrap64 (rd x0 0)) = 3 then (if (x0.length : Int) < 44 then (some 1) else (some 0)) else (some 0)) else (none))) else (some 4))) else (none))
def wire_head.f (k : Nat) (l0 : List Int) : Option (Int) := if (l0.length : Int) < 16 then (some 1) else (if 0 < (l0.length : Int) then ((wire_known.f (wrap64 (rd l0 0))).bind fun t114 => (if t114 = true then ((wire_get.f k l0 2 2).bind fun t115 => (if t115 = (l0.length : Int) then (if (l0.length : Int) > 1500 then (wire_head.j0 k l0 true) else (if 13 < (l0.length : Int) then (wire_head.j0 k l0 ((rd l0 13) != 0)) else (none))) else (wire_head.j0 k l0 true))) else (some 2))) else (none))
theorem wire_head.calls (k : Nat) (A0 : Option Addr) (c0 : Nat) (l0 : List Int) (r : Int) (w : World) (hr0 : Kd.C (Kd.int .u8) w A0 l0.length l0) (hc0 : l0.length ≤ c0) (h : wire_head.f k l0 = some r) :
 Calls Tryz.prog 57 #[.slice A0 l0.length c0] w fun e w' => e = .returned (.int .i64 r) ∧ Drawn0 w w' := by
 have HR0 := mA hr0
 have HC0 := mA hc0
 clear hr0 hc0
 have H := h
 unfold wire_head.f at H
 clear h
 by_cases c2 : (l0.length : Int) < 16
 ·rw [if_pos c2] at H
  have c2b0 := decide_eq_true c2
  have c2b1 : decide (l0.length < 16) = true := decide_eq_true uY
  clear c2
  obtain rfl := Option.some.inj H
  go_enter Tryz.func57, Tryz.ntmps57
  go_wp2
  go_ret
  exact jO
 ·rw [if_neg c2] at H
  have c2b0 := decide_eq_false c2
  have c2b1 : decide (l0.length < 16) = false := decide_eq_false uY
  clear c2
  by_cases c3 : 0 < (l0.length : Int)
  ·rw [if_pos c3] at H
   have c3b0 := decide_eq_true c3
   have c3b1 : decide (0 < l0.length) = true := decide_eq_true uY
   clear c3
   replace H := Option.bind_eq_some_iff.mp H
   obtain ⟨t114, A40, H⟩ := H
   have A4 := mA A40
   clear A40
   by_cases c5 : t114 = true
   ·subst c5
    have H1 : ((wire_get.f k l0 2 2).bind fun t115 => (if t115 = (l0.length : Int) then (if (l0.length : Int) > 1500 then (wire_head.j0 k l0 true) else (if 13 < (l0.length : Int) then (wire_head.j0 k l0 ((rd l0 13) != 0)) else (none))) else (wire_head.j0 k l0 true))) = some r := by rw [if_pos rfl] at H; exact H
    clear H
    have H := H1
    clear H1
    have HC6 := mA H
    clear H
    have p113 : 0 ≤ (0 : Int) := uY
    have q113 : 0 < (l0.length : Int) := of_decide_eq_true uV
    obtain ⟨ad113, e113, hx113_0⟩ := Kd.at_int HR0.out 0 p113 q113
    cases e113
    have qi113 : (0 < l0.length) = True := eq_true uY
    (try rw [show ((0 : Int)).toNat = 0 from rfl] at hx113_0)
    (try rw [Addr.add_zero'] at hx113_0)
    replace p113 := eq_true p113
    replace q113 := eq_true q113
    go_enter Tryz.func57, Tryz.ntmps57
    go_upto_region 5 with (first | ((with_reducible refine zd 12 ?_); refine zL 12 Tryz.func39 #[.int .i64 (wrap64 (rd l0 0))] ?_; (with_reducible refine (wire_known.calls (wrap64 (rd l0 0)) true _ A4.out).mono ?_); rintro e w' ⟨rfl, ⟨nd, rfl⟩⟩; refine ⟨_, rfl, ?_⟩))
    (try simp only [Act.put, List.setIfInBounds_toArray, List.set_cons_zero, List.set_cons_succ])
    go_cut [14] (fun v14 wc => ∃ (kq : Nat) (x14_5 : Bool), v14 = .bool x14_5 ∧ Aside0 (wire_head.j0 kq l0 x14_5 = some r) ∧ Aside0 (kq ≤ k) ∧ Drawn0 w wc)
    case first =>
     have H := HC6.out
     clear HC6
     replace H := Option.bind_eq_some_iff.mp H
     obtain ⟨t115, A70, H⟩ := H
     have A7 := mA A70
     clear A70
     by_cases c8 : t115 = (l0.length : Int)
     ·rw [if_pos c8] at H
      have c8b0 : (t115 == (l0.length : Int)) = true := beq_iff_eq.mpr c8
      have c8b1 : (t115 != (l0.length : Int)) = false := bne_eq_false_iff_eq.mpr c8
      clear c8
      (first | rw [c8b0] | (simp only [i64_w, i32_w]; rw [c8b0]) | skip)
      by_cases c9 : (l0.length : Int) > 1500
      ·rw [if_pos c9] at H
       have c9b0 : decide (1500 < (l0.length : Int)) = true := decide_eq_true c9
       have c9b1 : decide (1500 < l0.length) = true := decide_eq_true uY
       clear c9
       have H' := mA H
       clear H
       go_wp2_with (first | ((with_reducible refine zd 16 ?_); refine zL 16 Tryz.func58 #[.slice (some ad113) l0.length c0, .int .i64 2, .int .i64 2] ?_; (with_reducible refine (wire_get.calls k _ _ l0 2 2 t115 _ ?side1 ?side2 A7.out).mono ?_); (case side1 => repeat (first | exact HR0.out | (with_reducible refine Kd.C_alloc ?_ _) | (with_reducible refine Kd.C_drewN ?_ _) | (with_reducible refine Kd.C_drew ?_))); (case side2 => exact HC0.out); rintro e w' ⟨rfl, ⟨nd, rfl⟩⟩; refine ⟨_, rfl, ?_⟩))
       go_meet
       case rel => exact ⟨_, (true), uN, H', ⟨kB⟩, qK⟩
      ·rw [if_neg c9] at H
       have c9b0 : decide (1500 < (l0.length : Int)) = false := decide_eq_false c9
       have c9b1 : decide (1500 < l0.length) = false := decide_eq_false uY
       clear c9
       obtain ⟨c10, H⟩ := zif H
       have c10b0 := decide_eq_true c10
       have c10b1 : decide (13 < l0.length) = true := decide_eq_true uY
       clear c10
       have H' := mA H
       clear H
       go_wp2_with (first | ((with_reducible refine zd 16 ?_); refine zL 16 Tryz.func58 #[.slice (some ad113) l0.length c0, .int .i64 2, .int .i64 2] ?_; (with_reducible refine (wire_get.calls k _ _ l0 2 2 t115 _ ?side1 ?side2 A7.out).mono ?_); (case side1 => repeat (first | exact HR0.out | (with_reducible refine Kd.C_alloc ?_ _) | (with_reducible refine Kd.C_drewN ?_ _) | (with_reducible refine Kd.C_drew ?_))); (case side2 => exact HC0.out); rintro e w' ⟨rfl, ⟨nd, rfl⟩⟩; refine ⟨_, rfl, ?_⟩; have p116 : 0 ≤ (13 : Int) := uY; have q116 : 13 < (l0.length : Int) := of_decide_eq_true uV; obtain ⟨ad116, e116, hx116_0⟩ := Kd.at_int HR0.out 13 p116 q116; obtain rfl : ad113 = ad116 := (by injection e116); (try simp only [show (13 : Int).toNat = 13 from rfl, Nat.reduceMul, Nat.reduceEqDiff, Go.Addr.add, ↓reduceIte] at hx116_0); have qi116 : (13 < l0.length) = True := eq_true uY; (try rw [show ((13 : Int)).toNat = 13 from rfl] at hx116_0); replace p116 := eq_true p116; replace q116 := eq_true q116))
       go_meet
       case rel => exact ⟨_, (((rd l0 13) != 0)), uN, H', ⟨kB⟩, qK⟩
     ·rw [if_neg c8] at H
      have c8b0 : (t115 == (l0.length : Int)) = false := beq_eq_false_iff_ne.mpr c8
      have c8b1 : (t115 != (l0.length : Int)) = true := bne_iff_ne.mpr c8
      (first | rw [c8b0] | (simp only [i64_w, i32_w]; rw [c8b0]) | skip)
      have H' := mA H
      clear H
      go_wp2_with (first | ((with_reducible refine zd 16 ?_); refine zL 16 Tryz.func58 #[.slice (some ad113) l0.length c0, .int .i64 2, .int .i64 2] ?_; (with_reducible refine (wire_get.calls k _ _ l0 2 2 t115 _ ?side1 ?side2 A7.out).mono ?_); (case side1 => repeat (first | exact HR0.out | (with_reducible refine Kd.C_alloc ?_ _) | (with_reducible refine Kd.C_drewN ?_ _) | (with_reducible refine Kd.C_drew ?_))); (case side2 => exact HC0.out); rintro e w' ⟨rfl, ⟨nd, rfl⟩⟩; refine ⟨_, rfl, ?_⟩))
      go_meet
      case rel => exact ⟨_, (true), uN, H', ⟨kB⟩, qK⟩
    case rest =>
     clear HC6 c2b0 c2b1 c3b0 c3b1 hx113_0 p113 q113
     obtain ⟨kq, x14_5, rfl, HA, HJ5, ⟨mc5, rfl⟩⟩ := hcut
     cases kq with
     | zero => exact absurd HA.out (by simp [wire_head.j0])
     | succ kj5 =>
      have H := HA.out
      clear HA
      simp only [wire_head.j0] at H
      by_cases c11 : x14_5 = true
      ·subst c11
       have H1 : (some 3) = some r := by rw [if_pos rfl] at H; exact H
       clear H
       have H := H1
       clear H1
       obtain rfl := Option.some.inj H
       go_wp2
       go_ret
       exact jO
      ·replace c11 := Bool.eq_false_iff.mpr c11
       subst c11
       have H1 : (if 16 ≤ (l0.length : Int) then ((sum_Right.f kj5 (l0.take 16)).bind fun t118 => (if t118 = true then (if (l0.length : Int) < 24 then (some 1) else (if 0 < (l0.length : Int) then (if (wrap64 (rd l0 0)) = 3 then (if (l0.length : Int) < 44 then (some 1) else (some 0)) else (some 0)) else (none))) else (some 4))) else (none)) = some r := by rw [if_neg (show ¬ (false = true) by decide)] at H; exact H
       clear H
       have H := H1
       clear H1
       obtain ⟨c12, H⟩ := zif H
       have c12b0 := eq_true c12
       have c12b1 := decide_eq_true c12
       clear c12
       replace H := Option.bind_eq_some_iff.mp H
       obtain ⟨t118, A130, H⟩ := H
       have A13 := mA A130
       clear A130
       by_cases c14 : t118 = true
       ·subst c14
        have H1 : (if (l0.length : Int) < 24 then (some 1) else (if 0 < (l0.length : Int) then (if (wrap64 (rd l0 0)) = 3 then (if (l0.length : Int) < 44 then (some 1) else (some 0)) else (some 0)) else (none))) = some r := by rw [if_pos rfl] at H; exact H
        clear H
        have H := H1
        clear H1
        by_cases c15 : (l0.length : Int) < 24
        ·rw [if_pos c15] at H
         have c15b0 := decide_eq_true c15
         have c15b1 : decide (l0.length < 24) = true := decide_eq_true uY
         clear c15
         obtain rfl := Option.some.inj H
         obtain ⟨i016, hi016, _, hsz16, _⟩ := info_parts info5
         obtain ⟨hcut16, hA16, hC16⟩ := print_take_of (P := Tryz.prog) (Value.int .u8) 0 39 5 .i64 Tryz.underlying39 hi016 hsz16 (some ad113) c0 l0 16 uY (of_decide_eq_true uV) HC0.out
         have HR117 := mA (Kd.C_of_reads (h1 := fun _ => rfl) (hA16 _ (Kd.reads_of_C HR0.out)))
         have HC117 := mA hC16
         clear hA16 hC16 hi016 hsz16
         go_wp2_with (first | ((with_reducible refine gate_callee (f := 95) rfl ?_); refine goesL_ (some 34) rfl rfl Tryz.func95 uW rfl #[.slice (some ad113) (l0.take 16).length c0] rfl uC ?_; (with_reducible refine (sum_Right.calls kj5 _ _ (l0.take 16) true _ ?side1 ?side2 A13.out).mono ?_); (case side1 => repeat (first | exact HR117.out | (with_reducible refine Kd.C_alloc ?_ _) | (with_reducible refine Kd.C_drewN ?_ _) | (with_reducible refine Kd.C_drew ?_))); (case side2 => exact HC117.out); rintro e w' ⟨rfl, ⟨nd, rfl⟩⟩; refine ⟨_, rfl, ?_⟩))
         go_ret
         exact jO
        ·rw [if_neg c15] at H
         have c15b0 := decide_eq_false c15
         have c15b1 : decide (l0.length < 24) = false := decide_eq_false uY
         clear c15
         obtain ⟨c17, H⟩ := zif H
         have c17b0 := decide_eq_true c17
         have c17b1 : decide (0 < l0.length) = true := decide_eq_true uY
         clear c17
         by_cases c18 : (wrap64 (rd l0 0)) = 3
         ·rw [if_pos c18] at H
          have c18b0 : ((wrap64 (rd l0 0)) == 3) = true := beq_iff_eq.mpr c18
          have c18b1 : ((wrap64 (rd l0 0)) != 3) = false := bne_eq_false_iff_eq.mpr c18
          clear c18
          by_cases c19 : (l0.length : Int) < 44
          ·rw [if_pos c19] at H
           have c19b0 := decide_eq_true c19
           have c19b1 : decide (l0.length < 44) = true := decide_eq_true uY
           clear c19
           obtain rfl := Option.some.inj H
           obtain ⟨i020, hi020, _, hsz20, _⟩ := info_parts info5
           obtain ⟨hcut20, hA20, hC20⟩ := print_take_of (P := Tryz.prog) (Value.int .u8) 0 39 5 .i64 Tryz.underlying39 hi020 hsz20 (some ad113) c0 l0 16 uY (of_decide_eq_true uV) HC0.out
           have HR117 := mA (Kd.C_of_reads (h1 := fun _ => rfl) (hA20 _ (Kd.reads_of_C HR0.out)))
           have HC117 := mA hC20
           clear hA20 hC20 hi020 hsz20
           go_wp2_with (first | ((with_reducible refine gate_callee (f := 95) rfl ?_); refine goesL_ (some 34) rfl rfl Tryz.func95 uW rfl #[.slice (some ad113) (l0.take 16).length c0] rfl uC ?_; (with_reducible refine (sum_Right.calls kj5 _ _ (l0.take 16) true _ ?side1 ?side2 A13.out).mono ?_); (case side1 => repeat (first | exact HR117.out | (with_reducible refine Kd.C_alloc ?_ _) | (with_reducible refine Kd.C_drewN ?_ _) | (with_reducible refine Kd.C_drew ?_))); (case side2 => exact HC117.out); rintro e w' ⟨rfl, ⟨nd, rfl⟩⟩; refine ⟨_, rfl, ?_⟩; have p119 : 0 ≤ (0 : Int) := uY; have q119 : 0 < (l0.length : Int) := of_decide_eq_true uV; obtain ⟨ad119, e119, hx119_0⟩ := Kd.at_int HR0.out 0 p119 q119; obtain rfl : ad113 = ad119 := (by injection e119); have qi119 : (0 < l0.length) = True := eq_true uY; (try rw [show ((0 : Int)).toNat = 0 from rfl] at hx119_0); (try rw [Addr.add_zero'] at hx119_0); replace p119 := eq_true p119; replace q119 := eq_true q119))
           go_ret
           exact jO
          ·rw [if_neg c19] at H
           have c19b0 := decide_eq_false c19
           have c19b1 : decide (l0.length < 44) = false := decide_eq_false uY
           clear c19
           obtain rfl := Option.some.inj H
           obtain ⟨i021, hi021, _, hsz21, _⟩ := info_parts info5
           obtain ⟨hcut21, hA21, hC21⟩ := print_take_of (P := Tryz.prog) (Value.int .u8) 0 39 5 .i64 Tryz.underlying39 hi021 hsz21 (some ad113) c0 l0 16 uY (of_decide_eq_true uV) HC0.out
           have HR117 := mA (Kd.C_of_reads (h1 := fun _ => rfl) (hA21 _ (Kd.reads_of_C HR0.out)))
           have HC117 := mA hC21
           clear hA21 hC21 hi021 hsz21
           go_wp2_with (first | ((with_reducible refine gate_callee (f := 95) rfl ?_); refine goesL_ (some 34) rfl rfl Tryz.func95 uW rfl #[.slice (some ad113) (l0.take 16).length c0] rfl uC ?_; (with_reducible refine (sum_Right.calls kj5 _ _ (l0.take 16) true _ ?side1 ?side2 A13.out).mono ?_); (case side1 => repeat (first | exact HR117.out | (with_reducible refine Kd.C_alloc ?_ _) | (with_reducible refine Kd.C_drewN ?_ _) | (with_reducible refine Kd.C_drew ?_))); (case side2 => exact HC117.out); rintro e w' ⟨rfl, ⟨nd, rfl⟩⟩; refine ⟨_, rfl, ?_⟩; have p119 : 0 ≤ (0 : Int) := uY; have q119 : 0 < (l0.length : Int) := of_decide_eq_true uV; obtain ⟨ad119, e119, hx119_0⟩ := Kd.at_int HR0.out 0 p119 q119; obtain rfl : ad113 = ad119 := (by injection e119); have qi119 : (0 < l0.length) = True := eq_true uY; (try rw [show ((0 : Int)).toNat = 0 from rfl] at hx119_0); (try rw [Addr.add_zero'] at hx119_0); replace p119 := eq_true p119; replace q119 := eq_true q119))
           go_ret
           exact jO
         ·rw [if_neg c18] at H
          have c18b0 : ((wrap64 (rd l0 0)) == 3) = false := beq_eq_false_iff_ne.mpr c18
          have c18b1 : ((wrap64 (rd l0 0)) != 3) = true := bne_iff_ne.mpr c18
          obtain rfl := Option.some.inj H
          obtain ⟨i022, hi022, _, hsz22, _⟩ := info_parts info5
          obtain ⟨hcut22, hA22, hC22⟩ := print_take_of (P := Tryz.prog) (Value.int .u8) 0 39 5 .i64 Tryz.underlying39 hi022 hsz22 (some ad113) c0 l0 16 uY (of_decide_eq_true uV) HC0.out
          have HR117 := mA (Kd.C_of_reads (h1 := fun _ => rfl) (hA22 _ (Kd.reads_of_C HR0.out)))
          have HC117 := mA hC22
          clear hA22 hC22 hi022 hsz22
          go_wp2_with (first | ((with_reducible refine gate_callee (f := 95) rfl ?_); refine goesL_ (some 34) rfl rfl Tryz.func95 uW rfl #[.slice (some ad113) (l0.take 16).length c0] rfl uC ?_; (with_reducible refine (sum_Right.calls kj5 _ _ (l0.take 16) true _ ?side1 ?side2 A13.out).mono ?_); (case side1 => repeat (first | exact HR117.out | (with_reducible refine Kd.C_alloc ?_ _) | (with_reducible refine Kd.C_drewN ?_ _) | (with_reducible refine Kd.C_drew ?_))); (case side2 => exact HC117.out); rintro e w' ⟨rfl, ⟨nd, rfl⟩⟩; refine ⟨_, rfl, ?_⟩; have p119 : 0 ≤ (0 : Int) := uY; have q119 : 0 < (l0.length : Int) := of_decide_eq_true uV; obtain ⟨ad119, e119, hx119_0⟩ := Kd.at_int HR0.out 0 p119 q119; obtain rfl : ad113 = ad119 := (by injection e119); have qi119 : (0 < l0.length) = True := eq_true uY; (try rw [show ((0 : Int)).toNat = 0 from rfl] at hx119_0); (try rw [Addr.add_zero'] at hx119_0); replace p119 := eq_true p119; replace q119 := eq_true q119))
          go_ret
          exact jO
       ·replace c14 := Bool.eq_false_iff.mpr c14
        subst c14
        have H1 : (some 4) = some r := by rw [if_neg (show ¬ (false = true) by decide)] at H; exact H
        clear H
        have H := H1
        clear H1
        obtain rfl := Option.some.inj H
        obtain ⟨i023, hi023, _, hsz23, _⟩ := info_parts info5
        obtain ⟨hcut23, hA23, hC23⟩ := print_take_of (P := Tryz.prog) (Value.int .u8) 0 39 5 .i64 Tryz.underlying39 hi023 hsz23 (some ad113) c0 l0 16 uY (of_decide_eq_true uV) HC0.out
        have HR117 := mA (Kd.C_of_reads (h1 := fun _ => rfl) (hA23 _ (Kd.reads_of_C HR0.out)))
        have HC117 := mA hC23
        clear hA23 hC23 hi023 hsz23
        go_wp2_with (first | ((with_reducible refine gate_callee (f := 95) rfl ?_); refine goesL_ (some 34) rfl rfl Tryz.func95 uW rfl #[.slice (some ad113) (l0.take 16).length c0] rfl uC ?_; (with_reducible refine (sum_Right.calls kj5 _ _ (l0.take 16) false _ ?side1 ?side2 A13.out).mono ?_); (case side1 => repeat (first | exact HR117.out | (with_reducible refine Kd.C_alloc ?_ _) | (with_reducible refine Kd.C_drewN ?_ _) | (with_reducible refine Kd.C_drew ?_))); (case side2 => exact HC117.out); rintro e w' ⟨rfl, ⟨nd, rfl⟩⟩; refine ⟨_, rfl, ?_⟩))
        go_ret
        exact jO
   ·replace c5 := Bool.eq_false_iff.mpr c5
    subst c5
    have H1 : (some 2) = some r := by rw [if_neg (show ¬ (false = true) by decide)] at H; exact H
    clear H
    have H := H1
    clear H1
    obtain rfl := Option.some.inj H
    have p113 : 0 ≤ (0 : Int) := uY
    have q113 : 0 < (l0.length : Int) := of_decide_eq_true uV
    obtain ⟨ad113, e113, hx113_0⟩ := Kd.at_int HR0.out 0 p113 q113
    cases e113
    have qi113 : (0 < l0.length) = True := eq_true uY
    (try rw [show ((0 : Int)).toNat = 0 from rfl] at hx113_0)
    (try rw [Addr.add_zero'] at hx113_0)
    replace p113 := eq_true p113
    replace q113 := eq_true q113
    go_enter Tryz.func57, Tryz.ntmps57
    go_wp2_with (first | ((with_reducible refine zd 12 ?_); refine zL 12 Tryz.func39 #[.int .i64 (wrap64 (rd l0 0))] ?_; (with_reducible refine (wire_known.calls (wrap64 (rd l0 0)) false _ A4.out).mono ?_); rintro e w' ⟨rfl, ⟨nd, rfl⟩⟩; refine ⟨_, rfl, ?_⟩))
    go_ret
    exact jO
  ·rw [if_neg c3] at H
   exact absurd H xU
def wire_put.l0 : Nat → List Int → Int → Int → Int → Option (List Int)
 | 0, _, _, _, _ => none
 | k + 1, x0, x1, x3, x8 => if x8 ≥ 0 then (if 0 ≤ (wrap64 (x1 + x8)) then (if (wrap64 (x1 + x8)) < (x0.length : Int) then (wire_put.l0 k (x0.set ((wrap64 (x1 + x8)) : Int).toNat ((x3) % 256)) x1 (x3 / 256) (wrap64 (x8 - 1))) else (none)) else (none)) else (some x0)
def wire_put.f (k : Nat) (l0 : List Int) (a1 : Int) (a2 : Int) (a3 : Int) : Option (List Int) := wire_put.l0 k l0 a1 a3 (wrap64 (a2 - 1))
theorem wire_put.calls (k : Nat) (P0_ : Nat → Prop) (u9000_ : Value) (l0 : List Int) (a1 : Int) (a2 : Int) (a3 : Int) (r : List Int) (w0 w : World) (hB : Below w0.heap.size w0 w) (ho0 : Kd.R (Kd.int .u8) 5 w w0.heap.size P0_ u9000_ l0) (h : wire_put.f k l0 a1 a2 a3 = some r) :
 Calls Tryz.prog 41 #[u9000_, .int .i64 a1, .int .i64 a2, .int .i64 a3] w fun e w' => e = .returned (.tuple #[]) ∧ Kd.R (Kd.int .u8) 5 w' w0.heap.size (fun k_ => (P0_ k_ ∨ w.heap.size ≤ k_)) u9000_ r ∧ Below w0.heap.size w0 w' ∧ Kept w w' (fun k_ => P0_ k_) := by
 have HO0 := mA (show Kd.R (Kd.int .u8) 5 w w0.heap.size (fun k_ => (P0_ k_ ∨ w.heap.size ≤ k_)) u9000_ l0 from Kd.R_mono ho0 (fun k_ hk => (.inl hk)))
 have HK := mA (Kept.refl w (fun k_ => P0_ k_))
 have HW0 := mA hB.size
 have HB := mA hB
 clear hB
 have H := h
 unfold wire_put.f at H
 clear h
 have H' := mA H
 clear H
 go_enter Tryz.func41, Tryz.ntmps41
 go_wp2
 go_loopg [3, 8] k (fun kq v3 v8 w' => ∃ (x0_1 : List Int) (x3_1 : Int) (x8_1 : Int), v3 = .int .i64 x3_1 ∧ v8 = .int .i64 x8_1 ∧ Aside0 (wire_put.l0 kq x0_1 a1 x3_1 x8_1 = some r) ∧ Aside0 (kq ≤ k) ∧ Aside0 (Kd.R (Kd.int .u8) 5 w' w0.heap.size (fun k_ => (P0_ k_ ∨ w.heap.size ≤ k_)) u9000_ x0_1) ∧ Aside0 (Kept w w' (fun k_ => P0_ k_)) ∧ Aside0 (Below w0.heap.size w0 w'))
 case atStart => exact ⟨(l0), (a3), (wrap64 (a2 - 1)), uN, uN, H', ⟨Nat.le_refl _⟩, ⟨qH⟩, ⟨qX⟩, ⟨yI⟩⟩
 case round =>
  clear H'
  obtain ⟨x0_1, x3_1, x8_1, rfl, rfl, HA, HK1, HO_0, HK, HB⟩ := hrel
  cases gk with
  | zero => exact absurd HA.out (by simp [wire_put.l0])
  | succ k1 =>
   have H := HA.out
   clear HA
   simp only [wire_put.l0] at H
   by_cases c5 : x8_1 ≥ 0
   ·rw [if_pos c5] at H
    have c5b0 : decide (0 ≤ x8_1) = true := decide_eq_true c5
    clear c5
    obtain ⟨ji6, hji6⟩ : ∃ j_ : Int, (wrap64 (a1 + x8_1)) = j_ := ⟨_, rfl⟩
    replace H : (if 0 ≤ (ji6) then (if (ji6) < (x0_1.length : Int) then (wire_put.l0 k1 (x0_1.set ((ji6) : Int).toNat ((x3_1) % 256)) a1 (x3_1 / 256) (wrap64 (x8_1 - 1))) else (none)) else (none)) = some r := by first | (rw [hji6] at H; exact H) | (simp only [hji6] at H ⊢; exact H)
    have hji6w : (IntKind.i64.wrap (a1 + x8_1)) = ji6 := (i64_w _).trans hji6
    obtain ⟨c7, H⟩ := zif H
    have c7b0 := decide_eq_true c7
    clear c7
    obtain ⟨c8, H⟩ := zif H
    have c8b0 := decide_eq_true c8
    clear c8
    obtain ⟨y155, hy155⟩ : ∃ y_ : List Int, y_ = (x0_1.set ((ji6) : Int).toNat ((x3_1) % 256)) := ⟨_, rfl⟩
    replace H : (wire_put.l0 k1 y155 a1 (x3_1 / 256) (wrap64 (x8_1 - 1))) = some r := zyy hy155 H
    have Ny155 := mA hy155
    clear hy155
    have H' := mA H
    clear H
    have p9 : 0 ≤ ((ji6) : Int) := of_decide_eq_true uV
    have q9 : ((ji6) : Int) < ((x0_1.length : Int) : Int) := of_decide_eq_true uV
    obtain ⟨go9, co9, eo9, gb9, gl9, cl9, HG9⟩ := Kd.R_form HO_0.out uY
    (first | cases eo9 | (injection eo9 with ea_ en_ ec_; (first | subst ea_ | (injection ea_ with ea_; subst ea_)); subst ec_; clear en_))
    have GB9 := mA gb9
    have GG9 := mA HG9
    clear gb9 gl9 HG9
    have HMgo9 := mA (show (P0_ go9 ∨ w.heap.size ≤ go9) from (HO_0.out.1 _ rfl))
    obtain ⟨hx9_0, hf9_0⟩ := Kd.R_celln 0 HO_0.out ((ji6) : Int) p9 q9
    replace p9 := eq_true p9
    replace q9 := eq_true q9
    have HP10 := Kd.R_putg HO_0.out ((ji6) : Int) ((x3_1) % 256)
    go_wp2_with (first | ((with_reducible refine zst 5 21 ?_); refine store_event (t := 5) (p := 21) (v := ?vo_w11) (w1 := (wr.setCell ⟨go9, ((ji6) : Int).toNat, none⟩ (.int .u8 ((x3_1) % 256)))) ?hg ?ho ?hn ?hr ?_; (case ho => rfl); (case hg => rfl); (case hn => rfl); (case hr => first | (go_simp; done) | (go_simp; rfl)); intro w11 hw; have hg : wr.grownBy w11 (some go9) := (by rw [hw]; exact HP10.2); have hp_ : Kd.R (Kd.int .u8) 5 w11 w0.heap.size (fun k_ => (P0_ k_ ∨ w.heap.size ≤ k_)) (.slice (some ⟨go9, 0, none⟩) x0_1.length co9) y155 := (by rw [hw, Ny155.out]; exact HP10.1); clear HP10; replace HB := mA ((by rw [hw]; exact below_set (HB.out) GB9.out : Below w0.heap.size w0 w11)); replace HK := mA (Kept.of_grown (S := (fun k_ => P0_ k_)) hg xT (fun k_ e_ => (HO_0.out.1 k_ e_))); replace HO_0 := mA (hp_); clear hg hw hp_))
    go_roundg k1
    case measure => have := HK1.out; omega
    case rel => exact ⟨(y155), (x3_1 / 256), (wrap64 (x8_1 - 1)), uN, uN, H', ⟨kH⟩, ⟨kG⟩, ⟨qX⟩, ⟨yI⟩⟩
   ·exact zY
def sum_Turn.f (a0 : Int) (a1 : Int) (a2 : Int) : Option (Int) := (sum_Plus.f (wrap64 (65535 - a1)) a2).bind fun t156 => ((sum_Plus.f (wrap64 (65535 - a0)) t156).bind fun t157 => (some (wrap64 (65535 - t157))))
theorem sum_Turn.calls (a0 : Int) (a1 : Int) (a2 : Int) (r : Int) (w : World) (h : sum_Turn.f a0 a1 a2 = some r) :
 Calls Tryz.prog 66 #[.int .i64 a0, .int .i64 a1, .int .i64 a2] w fun e w' => e = .returned (.int .i64 r) ∧ Drawn0 w w' := by
 have H := h
 unfold sum_Turn.f at H
 clear h
 replace H := Option.bind_eq_some_iff.mp H
 obtain ⟨t156, A40, H⟩ := H
 have A4 := mA A40
 clear A40
 replace H := Option.bind_eq_some_iff.mp H
 obtain ⟨t157, A50, H⟩ := H
 have A5 := mA A50
 clear A50
 obtain rfl := Option.some.inj H
 go_enter Tryz.func66, Tryz.ntmps66
 go_wp2_with (first | ((with_reducible refine zd 12 ?_); refine zL 12 Tryz.func92 #[.int .i64 (wrap64 (65535 - a1)), .int .i64 a2] ?_; (with_reducible refine (sum_Plus.calls (wrap64 (65535 - a1)) a2 t156 _ A4.out).mono ?_); rintro e w' ⟨rfl, ⟨nd, rfl⟩⟩; refine ⟨_, rfl, ?_⟩) | ((with_reducible refine zd 13 ?_); refine zL 13 Tryz.func92 #[.int .i64 (wrap64 (65535 - a0)), .int .i64 t156] ?_; (with_reducible refine (sum_Plus.calls (wrap64 (65535 - a0)) t156 t157 _ A5.out).mono ?_); rintro e w' ⟨rfl, ⟨nd, rfl⟩⟩; refine ⟨_, rfl, ?_⟩))
 go_ret
 exact jO
def wire_pair.f (k : Nat) (l0 : List Int) (a1 : Int) : Option (Int) := if (wrap64 (a1 + 1)) = (l0.length : Int) then (if 0 ≤ a1 then (if a1 < (l0.length : Int) then (some (wrap64 ((wrap64 (rd l0 a1)) * 256))) else (none)) else (none)) else ((wire_get.f k l0 a1 2).bind fun t159 => (some t159))
theorem wire_pair.calls (k : Nat) (A0 : Option Addr) (c0 : Nat) (l0 : List Int) (a1 : Int) (r : Int) (w : World) (hr0 : Kd.C (Kd.int .u8) w A0 l0.length l0) (hc0 : l0.length ≤ c0) (h : wire_pair.f k l0 a1 = some r) :
 Calls Tryz.prog 96 #[.slice A0 l0.length c0, .int .i64 a1] w fun e w' => e = .returned (.int .i64 r) ∧ Drawn0 w w' := by
 have HR0 := mA hr0
 have HC0 := mA hc0
 clear hr0 hc0
 have H := h
 unfold wire_pair.f at H
 clear h
 by_cases c3 : (wrap64 (a1 + 1)) = (l0.length : Int)
 ·rw [if_pos c3] at H
  have c3b0 : ((wrap64 (a1 + 1)) == (l0.length : Int)) = true := beq_iff_eq.mpr c3
  have c3b1 : ((wrap64 (a1 + 1)) != (l0.length : Int)) = false := bne_eq_false_iff_eq.mpr c3
  clear c3
  obtain ⟨c4, H⟩ := zif H
  have c4b0 := decide_eq_true c4
  clear c4
  obtain ⟨c5, H⟩ := zif H
  have c5b0 := decide_eq_true c5
  clear c5
  obtain rfl := Option.some.inj H
  have p158 : 0 ≤ (a1 : Int) := of_decide_eq_true uV
  have q158 : a1 < (l0.length : Int) := of_decide_eq_true uV
  obtain ⟨ad158, e158, hx158_0⟩ := Kd.at_int HR0.out a1 p158 q158
  cases e158
  replace p158 := eq_true p158
  replace q158 := eq_true q158
  go_enter Tryz.func96, Tryz.ntmps96
  go_wp2
  go_ret
  exact jO
 ·rw [if_neg c3] at H
  have c3b0 : ((wrap64 (a1 + 1)) == (l0.length : Int)) = false := beq_eq_false_iff_ne.mpr c3
  have c3b1 : ((wrap64 (a1 + 1)) != (l0.length : Int)) = true := bne_iff_ne.mpr c3
  replace H := Option.bind_eq_some_iff.mp H
  obtain ⟨t159, A60, H⟩ := H
  have A6 := mA A60
  clear A60
  obtain rfl := Option.some.inj H
  go_enter Tryz.func96, Tryz.ntmps96
  go_wp2_with (first | ((with_reducible refine zd 18 ?_); refine zL 18 Tryz.func58 #[.slice A0 l0.length c0, .int .i64 a1, .int .i64 2] ?_; (with_reducible refine (wire_get.calls k _ _ l0 a1 2 t159 _ ?side1 ?side2 A6.out).mono ?_); (case side1 => repeat (first | exact HR0.out | (with_reducible refine Kd.C_alloc ?_ _) | (with_reducible refine Kd.C_drewN ?_ _) | (with_reducible refine Kd.C_drew ?_))); (case side2 => exact HC0.out); rintro e w' ⟨rfl, ⟨nd, rfl⟩⟩; refine ⟨_, rfl, ?_⟩))
  go_ret
  exact jO
def plane_number.l0 : Nat → Int → List Int → Int → Int → Option (Int)
 | 0, _, _, _, _ => none
 | k + 1, x7, x15, x16, x17 => if x17 < x16 then (if 0 ≤ x17 then (if x17 < (x15.length : Int) then (plane_number.l0 k (Go.bits .or .i64 (wrap64 (x7 * 256)) (wrap64 (rd x15 x17))) x15 x16 (wrap64 (x17 + 1))) else (none)) else (none)) else (some x7)
def plane_number.f (k : Nat) (l0 : List Int) (a1 : Int) (a2 : Int) : Option (Int) := if 0 ≤ a1 then (if a1 ≤ (wrap64 (a1 + a2)) then (if (wrap64 (a1 + a2)) ≤ (l0.length : Int) then (plane_number.l0 k 0 ((l0.take ((wrap64 (a1 + a2)) : Int).toNat).drop (a1 : Int).toNat) (((l0.take ((wrap64 (a1 + a2)) : Int).toNat).drop (a1 : Int).toNat).length : Int) 0) else (none)) else (none)) else (none)
theorem plane_number.calls (k : Nat) (A0 : Option Addr) (c0 : Nat) (l0 : List Int) (a1 : Int) (a2 : Int) (r : Int) (w : World) (hr0 : Kd.C (Kd.int .u8) w A0 l0.length l0) (hc0 : l0.length ≤ c0) (h : plane_number.f k l0 a1 a2 = some r) :
 Calls Tryz.prog 63 #[.slice A0 l0.length c0, .int .i64 a1, .int .i64 a2] w fun e w' => e = .returned (.int .i64 r) ∧ Drawn0 w w' := by
 have HR0 := mA hr0
 have HC0 := mA hc0
 clear hr0 hc0
 have H := h
 unfold plane_number.f at H
 clear h
 by_cases c4 : 0 ≤ a1
 ·rw [if_pos c4] at H
  have c4b0 := eq_true c4
  have c4b1 := decide_eq_true c4
  clear c4
  obtain ⟨c5, H⟩ := zif H
  have c5b0 := eq_true c5
  have c5b1 := decide_eq_true c5
  obtain ⟨c6, H⟩ := zif H
  have c6b0 := eq_true c6
  have c6b1 := decide_eq_true c6
  have HLN : Aside0 (((l0.take ((wrap64 (a1 + a2)) : Int).toNat).drop (a1 : Int).toNat).length = (wrap64 (a1 + a2)).toNat - a1.toNat) := ⟨by rw [List.length_drop, List.length_take, Nat.min_eq_left uY]⟩
  have H' := mA H
  clear H
  obtain ⟨i07, hi07, _, hsz7, _⟩ := info_parts info5
  obtain ⟨A7, hcut7, hA7, hC7⟩ := print_mid_of (P := Tryz.prog) (Value.int .u8) 0 39 5 .i64 .i64 Tryz.underlying39 hi07 hsz7 A0 c0 l0 a1 (wrap64 (a1 + a2)) (of_decide_eq_true uV) xS (of_decide_eq_true uV) HC0.out
  have HR166 := mA (Kd.C_of_reads (h1 := fun _ => rfl) (hA7 _ (Kd.reads_of_C HR0.out)))
  have HC166 := mA hC7
  clear hA7 hC7 hi07 hsz7
  go_enter Tryz.func63, Tryz.ntmps63
  go_wp2
  go_loopg [7, 17] k (fun kq v7 v17 w' => ∃ (x7_1 : Int) (x17_1 : Int), v7 = .int .i64 x7_1 ∧ v17 = .int .i64 x17_1 ∧ Aside0 (plane_number.l0 kq x7_1 ((l0.take ((wrap64 (a1 + a2)) : Int).toNat).drop (a1 : Int).toNat) (((l0.take ((wrap64 (a1 + a2)) : Int).toNat).drop (a1 : Int).toNat).length : Int) x17_1 = some r) ∧ Aside0 (kq ≤ k) ∧ Drawn0 w w')
  case atStart => exact ⟨(0), (0), uN, uN, H', ⟨Nat.le_refl _⟩, qK⟩
  case round =>
   clear H' c4b0 c4b1 c5 c5b0 c5b1 c6 c6b0 c6b1
   obtain ⟨x7_1, x17_1, rfl, rfl, HA, HK1, ⟨m1, rfl⟩⟩ := hrel
   cases gk with
   | zero => exact absurd HA.out (by simp [plane_number.l0])
   | succ k1 =>
    have H := HA.out
    clear HA
    simp only [plane_number.l0] at H
    by_cases c8 : x17_1 < (((l0.take ((wrap64 (a1 + a2)) : Int).toNat).drop (a1 : Int).toNat).length : Int)
    ·rw [if_pos c8] at H
     have c8b0 := decide_eq_true c8
     rw [HLN.out] at c8b0
     clear c8
     obtain ⟨c9, H⟩ := zif H
     have c9b0 := decide_eq_true c9
     clear c9
     obtain ⟨c10, H⟩ := zif H
     have c10b0 := decide_eq_true c10
     rw [HLN.out] at c10b0
     clear c10
     have H' := mA H
     clear H
     have p167 : 0 ≤ (x17_1 : Int) := of_decide_eq_true uV
     have q167 : x17_1 < (((l0.take ((wrap64 (a1 + a2)) : Int).toNat).drop (a1 : Int).toNat).length : Int) := by rw [HLN.out]; exact of_decide_eq_true uV
     obtain ⟨ad167, e167, hx167_0⟩ := Kd.at_int HR166.out x17_1 p167 q167
     cases e167
     rw [HLN.out] at q167
     replace p167 := eq_true p167
     replace q167 := eq_true q167
     go_wp2
     go_roundg k1
     case measure => have := HK1.out; omega
     case rel => exact ⟨(Go.bits .or .i64 (wrap64 (x7_1 * 256)) (wrap64 (rd ((l0.take ((wrap64 (a1 + a2)) : Int).toNat).drop (a1 : Int).toNat) x17_1))), (wrap64 (x17_1 + 1)), uN, uN, H', ⟨kH⟩, qK⟩
    ·exact zQ
 ·exact zJ
def wheel_Pick.f (k : Nat) (l0 : List Int) (a1_0 : Int) (a1_1 : Int) (a1_2 : Int) (a1_3 : Int) : Option (Int) := (wheel_spun.f k 127 (([3, a1_0, a1_1, a1_2, a1_3] : List Int))).bind fun t172 => (if t172 ≥ (l0.length : Int) then (some (-1)) else (if 0 ≤ t172 then (if t172 < (l0.length : Int) then (some (rd l0 t172)) else (none)) else (none)))
theorem wheel_Pick.calls (k : Nat) (A0 : Option Addr) (c0 : Nat) (l0 : List Int) (a1_0 : Int) (a1_1 : Int) (a1_2 : Int) (a1_3 : Int) (r : Int) (w : World) (hr0 : Kd.C (Kd.int .i64) w A0 l0.length l0) (hc0 : l0.length ≤ c0) (h : wheel_Pick.f k l0 a1_0 a1_1 a1_2 a1_3 = some r) :
 Calls Tryz.prog 64 #[.slice A0 l0.length c0, .agg #[.int .i64 a1_0, .int .i64 a1_1, .int .i64 a1_2, .int .i64 a1_3]] w fun e w' => e = .returned (.int .i64 r) ∧ Below w.heap.size w w' := by
 have hu89 := Tryz.underlying89
 have HR0 := mA hr0
 have HC0 := mA hc0
 clear hr0 hc0
 have HB := mA (Below.refl w.heap.size w)
 have H := h
 unfold wheel_Pick.f at H
 clear h
 obtain ⟨y169, hy169⟩ : ∃ y_ : List Int, y_ = (([3, a1_0, a1_1, a1_2, a1_3] : List Int)) := ⟨_, rfl⟩
 replace H : ((wheel_spun.f k 127 y169).bind fun t172 => (if t172 ≥ (l0.length : Int) then (some (-1)) else (if 0 ≤ t172 then (if t172 < (l0.length : Int) then (some (rd l0 t172)) else (none)) else (none)))) = some r := zyy hy169 H
 have Ny169 := mA hy169
 clear hy169
 replace H := Option.bind_eq_some_iff.mp H
 obtain ⟨t172, A30, H⟩ := H
 have A3 := mA A30
 clear A30
 by_cases c4 : t172 ≥ (l0.length : Int)
 ·rw [if_pos c4] at H
  have c4b0 : decide ((l0.length : Int) ≤ t172) = true := decide_eq_true c4
  clear c4
  obtain rfl := Option.some.inj H
  go_enter Tryz.func64, Tryz.ntmps64
  go_wp2_with (first | (refine zx 3 #[.int .i64 a1_0, .int .i64 a1_1, .int .i64 a1_2, .int .i64 a1_3] 89 ?_; clear HB; intro gb168 w5 BK168 HB GE168; obtain ⟨hcz6_0, hcz6_1, hcz6_2, hcz6_3⟩ := bk4 BK168.out; have hfz6_0 := BK168.fz 0; have hfz6_1 := BK168.fz 1; have hfz6_2 := BK168.fz 2; have hfz6_3 := BK168.fz 3) | ((with_reducible refine zd 14 ?_); refine zl .i64 3 14 [3, a1_0, a1_1, a1_2, a1_3] ?_; intro v170 w7 ho8 hb hg_ hnew_; clear hg_ hnew_; (first | rw [← Ny169.out] at ho8 | (simp only [Int.reduceToNat] at ho8; rw [← Ny169.out] at ho8)); have HO171 := mA (Kd.R_lower ho8 (below_size uQ)); replace BK168 := mA (blk_below (g := gb168) (o := .cells #[.int .i64 a1_0, .int .i64 a1_1, .int .i64 a1_2, .int .i64 a1_3] 89 (0, 0)) uX hb); replace HB := mA (below_step uQ hb); clear hb ho8; obtain ⟨Ao9, co9, eo9⟩ := Kd.R_slice HO171.out; subst eo9) | ((with_reducible refine zd 15 ?_); refine zL 15 Tryz.func56 #[.int .u64 127, .slice Ao9 y169.length co9] ?_; (with_reducible refine (wheel_spun.calls k 127 _ _ y169 t172 _ ?side1 ?side2 A3.out).mono ?_); (case side1 => repeat (first | exact (Kd.R_reads' HO171.out).2.2 | (with_reducible refine Kd.C_alloc ?_ _) | (with_reducible refine Kd.C_drewN ?_ _) | (with_reducible refine Kd.C_drew ?_))); (case side2 => exact (Kd.R_reads' HO171.out).2.1); rintro e w10 ⟨rfl, hb⟩; refine ⟨_, rfl, ?_⟩; replace HO171 := mA (Kd.R_below (zkr HO171) hb); replace BK168 := mA (blk_below (g := gb168) (o := .cells #[.int .i64 a1_0, .int .i64 a1_1, .int .i64 a1_2, .int .i64 a1_3] 89 (0, 0)) uX hb); replace HB := mA (below_step uQ hb); clear hb))
  go_ret
  exact ⟨yO, yI⟩
 ·rw [if_neg c4] at H
  have c4b0 : decide ((l0.length : Int) ≤ t172) = false := decide_eq_false c4
  clear c4
  by_cases c11 : 0 ≤ t172
  ·rw [if_pos c11] at H
   have c11b0 := decide_eq_true c11
   clear c11
   obtain ⟨c12, H⟩ := zif H
   have c12b0 := decide_eq_true c12
   clear c12
   obtain rfl := Option.some.inj H
   go_enter Tryz.func64, Tryz.ntmps64
   go_wp2_with (first | (refine zx 3 #[.int .i64 a1_0, .int .i64 a1_1, .int .i64 a1_2, .int .i64 a1_3] 89 ?_; clear HB; intro gb168 w13 BK168 HB GE168; obtain ⟨hcz14_0, hcz14_1, hcz14_2, hcz14_3⟩ := bk4 BK168.out; have hfz14_0 := BK168.fz 0; have hfz14_1 := BK168.fz 1; have hfz14_2 := BK168.fz 2; have hfz14_3 := BK168.fz 3) | ((with_reducible refine zd 14 ?_); refine zl .i64 3 14 [3, a1_0, a1_1, a1_2, a1_3] ?_; intro v170 w15 ho16 hb hg_ hnew_; clear hg_ hnew_; (first | rw [← Ny169.out] at ho16 | (simp only [Int.reduceToNat] at ho16; rw [← Ny169.out] at ho16)); have HO171 := mA (Kd.R_lower ho16 (below_size uQ)); replace BK168 := mA (blk_below (g := gb168) (o := .cells #[.int .i64 a1_0, .int .i64 a1_1, .int .i64 a1_2, .int .i64 a1_3] 89 (0, 0)) uX hb); replace HB := mA (below_step uQ hb); clear hb ho16; obtain ⟨Ao17, co17, eo17⟩ := Kd.R_slice HO171.out; subst eo17) | ((with_reducible refine zd 15 ?_); refine zL 15 Tryz.func56 #[.int .u64 127, .slice Ao17 y169.length co17] ?_; (with_reducible refine (wheel_spun.calls k 127 _ _ y169 t172 _ ?side1 ?side2 A3.out).mono ?_); (case side1 => repeat (first | exact (Kd.R_reads' HO171.out).2.2 | (with_reducible refine Kd.C_alloc ?_ _) | (with_reducible refine Kd.C_drewN ?_ _) | (with_reducible refine Kd.C_drew ?_))); (case side2 => exact (Kd.R_reads' HO171.out).2.1); rintro e w18 ⟨rfl, hb⟩; refine ⟨_, rfl, ?_⟩; replace HO171 := mA (Kd.R_below (zkr HO171) hb); replace BK168 := mA (blk_below (g := gb168) (o := .cells #[.int .i64 a1_0, .int .i64 a1_1, .int .i64 a1_2, .int .i64 a1_3] 89 (0, 0)) uX hb); replace HB := mA (below_step uQ hb); clear hb; have p173 : 0 ≤ (t172 : Int) := of_decide_eq_true uV; have q173 : t172 < (l0.length : Int) := of_decide_eq_true uV; obtain ⟨ad173, e173, hx173_0⟩ := Kd.at_int HR0.out t172 p173 q173; cases e173; replace hx173_0 := (HB.out.cell (World.block_lt_of_cell? w _ hx173_0)).trans hx173_0; replace p173 := eq_true p173; replace q173 := eq_true q173))
   go_ret
   exact ⟨yO, yI⟩
  ·rw [if_neg c11] at H
   exact absurd H xU
def wire_sumPlace.f (a0 : Int) : Option (Int) := if a0 = 3 then (some 18) else (some 22)
theorem wire_sumPlace.calls (a0 : Int) (r : Int) (w : World) (h : wire_sumPlace.f a0 = some r) :
 Calls Tryz.prog 43 #[.int .i64 a0] w fun e w' => e = .returned (.int .i64 r) ∧ Drawn0 w w' := by
 have H := h
 unfold wire_sumPlace.f at H
 clear h
 by_cases c2 : a0 = 3
 ·rw [if_pos c2] at H
  have c2b0 : (a0 == 3) = true := beq_iff_eq.mpr c2
  have c2b1 : (a0 != 3) = false := bne_eq_false_iff_eq.mpr c2
  clear c2
  obtain rfl := Option.some.inj H
  go_enter Tryz.func43, Tryz.ntmps43
  go_wp2
  go_ret
  exact jO
 ·rw [if_neg c2] at H
  have c2b0 : (a0 == 3) = false := beq_eq_false_iff_ne.mpr c2
  have c2b1 : (a0 != 3) = true := bne_iff_ne.mpr c2
  obtain rfl := Option.some.inj H
  go_enter Tryz.func43, Tryz.ntmps43
  go_wp2
  go_ret
  exact jO
def opts_number.f (l0 : List Int) : Option (Int) := if 0 < (l0.length : Int) then (if 1 < (l0.length : Int) then (if 2 < (l0.length : Int) then (if 3 < (l0.length : Int) then (some (Go.bits .or .u32 (Go.bits .or .u32 (Go.bits .or .u32 ((((rd l0 0) % 4294967296) * 16777216) % 4294967296) ((((rd l0 1) % 4294967296) * 65536) % 4294967296)) ((((rd l0 2) % 4294967296) * 256) % 4294967296)) ((rd l0 3) % 4294967296))) else (none)) else (none)) else (none)) else (none)
def cookie_Get.f (a0 : Int) : Option (Int × Int) := some (wrap64 (a0 / 1048576), wrap64 (Go.bits .and .u32 a0 1048575))
theorem cookie_Get.calls (a0 : Int) (r1 : Int) (r2 : Int) (w : World) (h : cookie_Get.f a0 = some (r1, r2)) :
 Calls Tryz.prog 99 #[.int .u32 a0] w fun e w' => e = .returned (.tuple #[.int .i64 r1, .int .i64 r2]) ∧ Drawn0 w w' := by
 have H : (some (wrap64 (a0 / 1048576), wrap64 (Go.bits .and .u32 a0 1048575))) = some (r1, r2) := h
 clear h
 simp only [Option.some.injEq, Prod.mk.injEq] at H
 obtain ⟨rfl, rfl⟩ := H
 go_enter Tryz.func99, Tryz.ntmps99
 go_wp2
 go_ret2
 exact jO
def wire_within.f (a0 : Int) (a1 : Int) : Option (Bool) := if a0 ≥ 0 then (some (decide (a0 ≤ a1))) else (some false)
theorem wire_within.calls (a0 : Int) (a1 : Int) (r : Bool) (w : World) (h : wire_within.f a0 a1 = some r) :
 Calls Tryz.prog 91 #[.int .i64 a0, .int .i64 a1] w fun e w' => e = .returned (.bool r) ∧ Drawn0 w w' := by
 have H := h
 unfold wire_within.f at H
 clear h
 by_cases c3 : a0 ≥ 0
 ·rw [if_pos c3] at H
  have c3b0 : decide (0 ≤ a0) = true := decide_eq_true c3
  clear c3
  obtain rfl := Option.some.inj H
  go_enter Tryz.func91, Tryz.ntmps91
  go_wp2
  go_ret
  exact jO
 ·rw [if_neg c3] at H
  have c3b0 : decide (0 ≤ a0) = false := decide_eq_false c3
  clear c3
  obtain rfl := Option.some.inj H
  go_enter Tryz.func91, Tryz.ntmps91
  go_wp2
  go_ret
  exact jO
def opts_Far.f (a0 : Int) (a1 : Int) : Option (Int) := some (wrap64 (wrap32 ((a1 - a0) % 4294967296)))
theorem opts_Far.calls (a0 : Int) (a1 : Int) (r : Int) (w : World) (h : opts_Far.f a0 a1 = some r) :
 Calls Tryz.prog 104 #[.int .u32 a0, .int .u32 a1] w fun e w' => e = .returned (.int .i64 r) ∧ Drawn0 w w' := by
 have H := h
 unfold opts_Far.f at H
 clear h
 obtain rfl := Option.some.inj H
 go_enter Tryz.func104, Tryz.ntmps104
 go_wp2
 go_ret
 exact jO
def cookie_Back.f (a0 : Int) (a1 : Int) : Option (Int) := (cookie_Get.f a0).bind fun bt211 => ((opts_Far.f (Go.bits .and .u32 (Go.bits .andNot .u32 a1 255) 1048575) ((((bt211.1) % 4294967296) * 256) % 4294967296)).bind fun t213 => (if t213 ≥ 524288 then (some (((Go.bits .andNot .u32 a1 255) + ((wrap64 (t213 - 1048576)) % 4294967296)) % 4294967296)) else (if t213 < (-524288) then (some (((Go.bits .andNot .u32 a1 255) + ((wrap64 (t213 + 1048576)) % 4294967296)) % 4294967296)) else (some (((Go.bits .andNot .u32 a1 255) + ((t213) % 4294967296)) % 4294967296)))))
theorem cookie_Back.calls (a0 : Int) (a1 : Int) (r : Int) (w : World) (h : cookie_Back.f a0 a1 = some r) :
 Calls Tryz.prog 72 #[.int .u32 a0, .int .u32 a1] w fun e w' => e = .returned (.int .u32 r) ∧ Drawn0 w w' := by
 have H := h
 unfold cookie_Back.f at H
 clear h
 replace H := Option.bind_eq_some_iff.mp H
 obtain ⟨⟨t211, t212⟩, A30, H⟩ := H
 have A3 := mA A30
 clear A30
 replace H := Option.bind_eq_some_iff.mp H
 obtain ⟨t213, A40, H⟩ := H
 have A4 := mA A40
 clear A40
 by_cases c5 : t213 ≥ 524288
 ·rw [if_pos c5] at H
  have c5b0 : decide (524288 ≤ t213) = true := decide_eq_true c5
  clear c5
  obtain rfl := Option.some.inj H
  go_enter Tryz.func72, Tryz.ntmps72
  go_wp2_with (first | ((with_reducible refine zd 11 ?_); refine zL 11 Tryz.func99 #[.int .u32 a0] ?_; (with_reducible refine (cookie_Get.calls a0 t211 t212 _ A3.out).mono ?_); rintro e w' ⟨rfl, ⟨nd, rfl⟩⟩; refine ⟨_, rfl, ?_⟩) | ((with_reducible refine zd 22 ?_); refine zL 22 Tryz.func104 #[.int .u32 (Go.bits .and .u32 (Go.bits .andNot .u32 a1 255) 1048575), .int .u32 ((((t211) % 4294967296) * 256) % 4294967296)] ?_; (with_reducible refine (opts_Far.calls (Go.bits .and .u32 (Go.bits .andNot .u32 a1 255) 1048575) ((((t211) % 4294967296) * 256) % 4294967296) t213 _ A4.out).mono ?_); rintro e w' ⟨rfl, ⟨nd, rfl⟩⟩; refine ⟨_, rfl, ?_⟩))
  go_ret
  exact jO
 ·rw [if_neg c5] at H
  have c5b0 : decide (524288 ≤ t213) = false := decide_eq_false c5
  clear c5
  by_cases c6 : t213 < (-524288)
  ·rw [if_pos c6] at H
   have c6b0 := decide_eq_true c6
   clear c6
   obtain rfl := Option.some.inj H
   go_enter Tryz.func72, Tryz.ntmps72
   go_wp2_with (first | ((with_reducible refine zd 11 ?_); refine zL 11 Tryz.func99 #[.int .u32 a0] ?_; (with_reducible refine (cookie_Get.calls a0 t211 t212 _ A3.out).mono ?_); rintro e w' ⟨rfl, ⟨nd, rfl⟩⟩; refine ⟨_, rfl, ?_⟩) | ((with_reducible refine zd 22 ?_); refine zL 22 Tryz.func104 #[.int .u32 (Go.bits .and .u32 (Go.bits .andNot .u32 a1 255) 1048575), .int .u32 ((((t211) % 4294967296) * 256) % 4294967296)] ?_; (with_reducible refine (opts_Far.calls (Go.bits .and .u32 (Go.bits .andNot .u32 a1 255) 1048575) ((((t211) % 4294967296) * 256) % 4294967296) t213 _ A4.out).mono ?_); rintro e w' ⟨rfl, ⟨nd, rfl⟩⟩; refine ⟨_, rfl, ?_⟩))
   go_ret
   exact jO
  ·rw [if_neg c6] at H
   have c6b0 := decide_eq_false c6
   clear c6
   obtain rfl := Option.some.inj H
   go_enter Tryz.func72, Tryz.ntmps72
   go_wp2_with (first | ((with_reducible refine zd 11 ?_); refine zL 11 Tryz.func99 #[.int .u32 a0] ?_; (with_reducible refine (cookie_Get.calls a0 t211 t212 _ A3.out).mono ?_); rintro e w' ⟨rfl, ⟨nd, rfl⟩⟩; refine ⟨_, rfl, ?_⟩) | ((with_reducible refine zd 22 ?_); refine zL 22 Tryz.func104 #[.int .u32 (Go.bits .and .u32 (Go.bits .andNot .u32 a1 255) 1048575), .int .u32 ((((t211) % 4294967296) * 256) % 4294967296)] ?_; (with_reducible refine (opts_Far.calls (Go.bits .and .u32 (Go.bits .andNot .u32 a1 255) 1048575) ((((t211) % 4294967296) * 256) % 4294967296) t213 _ A4.out).mono ?_); rintro e w' ⟨rfl, ⟨nd, rfl⟩⟩; refine ⟨_, rfl, ?_⟩))
   go_ret
   exact jO
def cookie_Put.f (a0 : Int) (a1 : Int) : Option (Int) := some (Go.bits .or .u32 (((a0 / 256) * 1048576) % 4294967296) (Go.bits .and .u32 ((a1) % 4294967296) 1048575))
theorem cookie_Put.calls (a0 : Int) (a1 : Int) (r : Int) (w : World) (h : cookie_Put.f a0 a1 = some r) :
 Calls Tryz.prog 75 #[.int .u32 a0, .int .i64 a1] w fun e w' => e = .returned (.int .u32 r) ∧ Drawn0 w w' := by
 have H := h
 unfold cookie_Put.f at H
 clear h
 obtain rfl := Option.some.inj H
 go_enter Tryz.func75, Tryz.ntmps75
 go_wp2
 go_ret
 exact jO
def sum_Of.f (k : Nat) (l0 : List Int) : Option (Int) := (sum_Add.f k l0).bind fun t222 => (some (wrap64 (65535 - t222)))
theorem sum_Of.calls (k : Nat) (A0 : Option Addr) (c0 : Nat) (l0 : List Int) (r : Int) (w : World) (hr0 : Kd.C (Kd.int .u8) w A0 l0.length l0) (hc0 : l0.length ≤ c0) (h : sum_Of.f k l0 = some r) :
 Calls Tryz.prog 14 #[.slice A0 l0.length c0] w fun e w' => e = .returned (.int .i64 r) ∧ Drawn0 w w' := by
 have HR0 := mA hr0
 have HC0 := mA hc0
 clear hr0 hc0
 have H := h
 unfold sum_Of.f at H
 clear h
 replace H := Option.bind_eq_some_iff.mp H
 obtain ⟨t222, A20, H⟩ := H
 have A2 := mA A20
 clear A20
 obtain rfl := Option.some.inj H
 go_enter Tryz.func14, Tryz.ntmps14
 go_wp2_with (first | ((with_reducible refine zd 4 ?_); refine zL 4 Tryz.func46 #[.slice A0 l0.length c0] ?_; (with_reducible refine (sum_Add.calls k _ _ l0 t222 _ ?side1 ?side2 A2.out).mono ?_); (case side1 => repeat (first | exact HR0.out | (with_reducible refine Kd.C_alloc ?_ _) | (with_reducible refine Kd.C_drewN ?_ _) | (with_reducible refine Kd.C_drew ?_))); (case side2 => exact HC0.out); rintro e w' ⟨rfl, ⟨nd, rfl⟩⟩; refine ⟨_, rfl, ?_⟩))
 go_ret
 exact jO
def wire_summed.f (l0 : List Int) : Option (List Int) := if 0 ≤ 281474976710656 then ((some (List.replicate 0 0 : List Int)).bind fun y233 => (if 0 < (l0.length : Int) then (if (wrap64 (rd l0 0)) = 3 then ((some (([0, rd l0 0, ((wrap64 ((l0.length : Int) - 16)) / 256) % 256, (wrap64 ((l0.length : Int) - 16)) % 256] : List Int) : List Int)).bind fun y238 => (if y233.length + y238.length < 140737488355328 then ((some (y233 ++ y238 : List Int)).bind fun y241 => (if 16 ≤ (l0.length : Int) then (if y241.length + (l0.drop 16).length < 140737488355328 then (some (y241 ++ (l0.drop 16))) else (none)) else (none))) else (none))) else (if 4 ≤ 12 then (if 12 ≤ (l0.length : Int) then (if y233.length + ((l0.take 12).drop 4).length < 140737488355328 then ((some (y233 ++ ((l0.take 12).drop 4) : List Int)).bind fun y249 => ((some (([0, rd l0 0, ((wrap64 ((l0.length : Int) - 16)) / 256) % 256, (wrap64 ((l0.length : Int) - 16)) % 256] : List Int) : List Int)).bind fun y253 => (if y249.length + y253.length < 140737488355328 then ((some (y249 ++ y253 : List Int)).bind fun y256 => (if 16 ≤ (l0.length : Int) then (if y256.length + (l0.drop 16).length < 140737488355328 then (some (y256 ++ (l0.drop 16))) else (none)) else (none))) else (none)))) else (none)) else (none)) else (none))) else (none))) else (none)
theorem wire_summed_len {l0 r : List Int} (h : wire_summed.f l0 = some r) : l0.length ≤ 140737488355400 := by
 unfold wire_summed.f at h
 simp only [Option.bind_some, List.length_append, List.length_drop, List.length_take, List.length_cons, List.length_nil] at h
 repeat' (split at h)
 all_goals first | omega | exact absurd h xU
theorem wire_summed.calls (A0 : Option Addr) (c0 : Nat) (l0 : List Int) (r : List Int) (w : World) (hr0 : Kd.C (Kd.int .u8) w A0 l0.length l0) (hc0 : l0.length ≤ c0) (h : wire_summed.f l0 = some r) :
 Calls Tryz.prog 42 #[.slice A0 l0.length c0] w fun e w' => ∃ v0_ : Value, e = .returned (v0_) ∧ Kd.R (Kd.int .u8) 5 w' w.heap.size (fun _ => True) v0_ r ∧ Below w.heap.size w w' := by
 have HLEN := mA (wire_summed_len h)
 have HR0 := mA hr0
 have HC0 := mA hc0
 clear hr0 hc0
 have HB := mA (Below.refl w.heap.size w)
 have H := h
 unfold wire_summed.f at H
 clear h
 by_cases c2 : 0 ≤ 281474976710656
 ·rw [if_pos c2] at H
  have c2b0 := eq_true c2
  have c2b1 := decide_eq_true c2
  clear c2
  obtain ⟨y233, hy233⟩ : ∃ y_ : List Int, y_ = (List.replicate 0 0) := ⟨_, rfl⟩
  replace H : (if 0 < (l0.length : Int) then (if (wrap64 (rd l0 0)) = 3 then ((some (([0, rd l0 0, ((wrap64 ((l0.length : Int) - 16)) / 256) % 256, (wrap64 ((l0.length : Int) - 16)) % 256] : List Int) : List Int)).bind fun y238 => (if y233.length + y238.length < 140737488355328 then ((some (y233 ++ y238 : List Int)).bind fun y241 => (if 16 ≤ (l0.length : Int) then (if y241.length + (l0.drop 16).length < 140737488355328 then (some (y241 ++ (l0.drop 16))) else (none)) else (none))) else (none))) else (if 4 ≤ 12 then (if 12 ≤ (l0.length : Int) then (if y233.length + ((l0.take 12).drop 4).length < 140737488355328 then ((some (y233 ++ ((l0.take 12).drop 4) : List Int)).bind fun y249 => ((some (([0, rd l0 0, ((wrap64 ((l0.length : Int) - 16)) / 256) % 256, (wrap64 ((l0.length : Int) - 16)) % 256] : List Int) : List Int)).bind fun y253 => (if y249.length + y253.length < 140737488355328 then ((some (y249 ++ y253 : List Int)).bind fun y256 => (if 16 ≤ (l0.length : Int) then (if y256.length + (l0.drop 16).length < 140737488355328 then (some (y256 ++ (l0.drop 16))) else (none)) else (none))) else (none)))) else (none)) else (none)) else (none))) else (none)) = some r := zyy hy233 H
  have Ny233 := mA hy233
  clear hy233
  obtain ⟨c3, H⟩ := zif H
  have c3b0 := decide_eq_true c3
  have c3b1 : decide (0 < l0.length) = true := decide_eq_true uY
  clear c3
  by_cases c4 : (wrap64 (rd l0 0)) = 3
  ·rw [if_pos c4] at H
   have c4b0 : ((wrap64 (rd l0 0)) == 3) = true := beq_iff_eq.mpr c4
   have c4b1 : ((wrap64 (rd l0 0)) != 3) = false := bne_eq_false_iff_eq.mpr c4
   clear c4
   obtain ⟨y238, hy238⟩ : ∃ y_ : List Int, y_ = (([0, rd l0 0, ((wrap64 ((l0.length : Int) - 16)) / 256) % 256, (wrap64 ((l0.length : Int) - 16)) % 256] : List Int)) := ⟨_, rfl⟩
   replace H : (if y233.length + y238.length < 140737488355328 then ((some (y233 ++ y238 : List Int)).bind fun y241 => (if 16 ≤ (l0.length : Int) then (if y241.length + (l0.drop 16).length < 140737488355328 then (some (y241 ++ (l0.drop 16))) else (none)) else (none))) else (none)) = some r := zyy hy238 H
   have Ny238 := mA hy238
   clear hy238
   obtain ⟨c5, H⟩ := zif H
   have LMc5 := mA c5
   clear c5
   obtain ⟨y241, hy241⟩ : ∃ y_ : List Int, y_ = (y233 ++ y238) := ⟨_, rfl⟩
   replace H : (if 16 ≤ (l0.length : Int) then (if y241.length + (l0.drop 16).length < 140737488355328 then (some (y241 ++ (l0.drop 16))) else (none)) else (none)) = some r := zyy hy241 H
   have Ny241 := mA hy241
   clear hy241
   obtain ⟨c6, H⟩ := zif H
   have c6b0 := eq_true c6
   have c6b1 := decide_eq_true c6
   clear c6
   obtain ⟨c7, H⟩ := zif H
   have LMc7 := mA c7
   clear c7
   obtain ⟨y245, hy245⟩ : ∃ y_ : List Int, y_ = (y241 ++ (l0.drop 16)) := ⟨_, rfl⟩
   replace H : (some y245) = some r := zyy hy245 H
   have Ny245 := mA hy245
   clear hy245
   obtain rfl := Option.some.inj H
   go_enter Tryz.func42, Tryz.ntmps42
   go_wp2_with (first | ((with_reducible refine zd 8 ?_); refine make_cap _ rfl (N := 8) rfl _ _ rfl _ rfl rfl vH vH (ok := fun _ => True) trivial (Below.refl _ _) (Nat.le_refl _) ?_; intro v234 w8 ho9 hb hg_ hnew_; clear hg_ hnew_; (first | rw [← Ny233.out] at ho9 | (simp only [Int.reduceToNat] at ho9; rw [← Ny233.out] at ho9)); have HO235 := mA (Kd.R_lower ho9 (below_size uQ)); replace HB := mA (below_step uQ hb); clear hb ho9; have p236 : 0 ≤ (0 : Int) := uY; have q236 : 0 < (l0.length : Int) := of_decide_eq_true uV; obtain ⟨ad236, e236, hx236_0⟩ := Kd.at_int HR0.out 0 p236 q236; cases e236; have qi236 : (0 < l0.length) = True := eq_true uY; (try rw [show ((0 : Int)).toNat = 0 from rfl] at hx236_0); (try rw [Addr.add_zero'] at hx236_0); replace hx236_0 := (HB.out.cell (World.block_lt_of_cell? w _ hx236_0)).trans hx236_0; replace p236 := eq_true p236; replace q236 := eq_true q236; have p237 : 0 ≤ (0 : Int) := uY; have q237 : 0 < (l0.length : Int) := of_decide_eq_true uV; obtain ⟨ad237, e237, hx237_0⟩ := Kd.at_int HR0.out 0 p237 q237; obtain rfl : ad236 = ad237 := (by injection e237); have qi237 : (0 < l0.length) = True := eq_true uY; (try rw [show ((0 : Int)).toNat = 0 from rfl] at hx237_0); (try rw [Addr.add_zero'] at hx237_0); replace hx237_0 := (HB.out.cell (World.block_lt_of_cell? w _ hx237_0)).trans hx237_0; replace p237 := eq_true p237; replace q237 := eq_true q237) | ((with_reducible refine zd 30 ?_); refine zl .u8 5 30 [0, rd l0 0, ((wrap64 ((l0.length : Int) - 16)) / 256) % 256, (wrap64 ((l0.length : Int) - 16)) % 256] ?_; intro v239 w10 ho11 hb hg_ hnew_; clear hg_ hnew_; (first | rw [← Ny238.out] at ho11 | (simp only [Int.reduceToNat] at ho11; rw [← Ny238.out] at ho11)); have HO240 := mA (Kd.R_lower (Kd.R_new' ho11 (Kd.R_lt (zkr HO235))) (below_size uQ)); replace HO235 := mA (Kd.R_elder' (zkr HO235) (Kd.R_base ho11) hb); replace HB := mA (below_step uQ hb); clear hb ho11; obtain ⟨Ao13, co13, eo13⟩ := Kd.R_slice HO240.out; subst eo13) | ((with_reducible refine gate_builtin (b := .append) (xs := #[.tmp 21, .tmp 30]) rfl ?_); at_builtin; refine Kd.R_append_rows (Kd.int .u8) (w0 := w) w.heap.size rfl (.tmp 21) (.tmp 30) 39 5 (.int .u8 0) 1 rfl Tryz.underlying39 info5 rfl uJ uY v234 y233 y238 _ _ _ (fun k_ => some k_ ≠ (.slice Ao13 y238.length co13 : Value).ownBlock) (fun _ => False) rfl rfl ?aO ?aR (fun _ _ h => h) (fun _ h => h.elim) ?aF ?aB ?aS ?aL ?_; (case aR => repeat (first | exact (Kd.R_reads' HO240.out).2.2 | (with_reducible refine Kd.C_alloc ?_ _) | (with_reducible refine Kd.C_drewN ?_ _) | (with_reducible refine Kd.C_drew ?_))); (case aB => exact uQ); (case aF => exact (fun k_ hk => Kd.fresh' (Kd.R_lt (zkr HO240)) k_ hk)); (case aO => exact (by (with_reducible repeat (first | apply Kd.R_alloc | apply Kd.R_drewN | apply Kd.R_drew)); exact Kd.R_mono HO235.out (fun _ hk => hk.2))); (case aS => exact (below_size uQ)); (case aL => have := LMc5.out; omega); intro v242 w12 ho hb hg hat; rw [← Ny241.out] at ho; replace HO240 := mA (Kd.R_after (ok := (fun _ => True)) (zkr HO240) hg hat); replace HB := mA (hb); have HO243 := mA (ho); clear HO235 ho hb hg hat; obtain ⟨i014, hi014, _, hsz14, _⟩ := info_parts info5; obtain ⟨A14, hcut14, hA14, hC14⟩ := print_drop_of (P := Tryz.prog) (Value.int .u8) 0 39 5 .i64 Tryz.underlying39 hi014 hsz14 (some ad236) c0 l0 16 uY (of_decide_eq_true uV) HC0.out; have HR244 := mA (Kd.C_of_reads (h1 := fun _ => rfl) (hA14 _ (Kd.reads_of_C HR0.out))); have HC244 := mA hC14; clear hA14 hC14 hi014 hsz14) | ((with_reducible refine gate_builtin (b := .append) (xs := #[.tmp 32, .tmp 34]) rfl ?_); at_builtin; refine Kd.R_append_rows (Kd.int .u8) (w0 := w) w.heap.size rfl (.tmp 32) (.tmp 34) 39 5 (.int .u8 0) 1 rfl Tryz.underlying39 info5 rfl uJ uY v242 y241 (l0.drop 16) _ _ _ (fun k_ => some k_ ≠ (.slice Ao13 y238.length co13 : Value).ownBlock) (fun _ => False) rfl rfl ?aO ?aR (fun _ _ h => h) (fun _ h => h.elim) ?aF ?aB ?aS ?aL ?_; (case aR => first | (rw [← show (l0.drop 16).length = (l0.length - 16) from List.length_drop]; repeat (first | exact (Kd.C_below HR244.out HB.out) | (with_reducible refine Kd.C_alloc ?_ _) | (with_reducible refine Kd.C_drewN ?_ _) | (with_reducible refine Kd.C_drew ?_))) | (repeat (first | exact (Kd.C_below HR244.out HB.out) | (with_reducible refine Kd.C_alloc ?_ _) | (with_reducible refine Kd.C_drewN ?_ _) | (with_reducible refine Kd.C_drew ?_)))); (case aB => exact uQ); (case aF => exact (fun k_ hk => Kd.fresh' (Kd.R_lt (zkr HO240)) k_ hk)); (case aO => exact (zkr HO243)); (case aS => exact (below_size uQ)); (case aL => have := LMc7.out; have hlx_ := (show (l0.drop 16).length = (l0.length - 16) from List.length_drop); omega); intro v246 w15 ho hb hg hat; rw [← Ny245.out] at ho; replace HO240 := mA (Kd.R_after (ok := (fun _ => True)) (zkr HO240) hg hat); replace HB := mA (hb); have HO247 := mA (ho); clear HO243 ho hb hg hat))
   go_ret
   exact ⟨_, yO, by (with_reducible repeat (first | apply Kd.R_alloc | apply Kd.R_drewN | apply Kd.R_drew)); exact Kd.R_mono HO247.out (fun _ hk => trivial), yI⟩
  ·rw [if_neg c4] at H
   have c4b0 : ((wrap64 (rd l0 0)) == 3) = false := beq_eq_false_iff_ne.mpr c4
   have c4b1 : ((wrap64 (rd l0 0)) != 3) = true := bne_iff_ne.mpr c4
   obtain ⟨c16, H⟩ := zif H
   have c16b0 := eq_true c16
   have c16b1 := decide_eq_true c16
   clear c16
   obtain ⟨c17, H⟩ := zif H
   have c17b0 := eq_true c17
   have c17b1 := decide_eq_true c17
   clear c17
   obtain ⟨c18, H⟩ := zif H
   have LMc18 := mA c18
   clear c18
   obtain ⟨y249, hy249⟩ : ∃ y_ : List Int, y_ = (y233 ++ ((l0.take 12).drop 4)) := ⟨_, rfl⟩
   replace H : ((some (([0, rd l0 0, ((wrap64 ((l0.length : Int) - 16)) / 256) % 256, (wrap64 ((l0.length : Int) - 16)) % 256] : List Int) : List Int)).bind fun y253 => (if y249.length + y253.length < 140737488355328 then ((some (y249 ++ y253 : List Int)).bind fun y256 => (if 16 ≤ (l0.length : Int) then (if y256.length + (l0.drop 16).length < 140737488355328 then (some (y256 ++ (l0.drop 16))) else (none)) else (none))) else (none))) = some r := zyy hy249 H
   have Ny249 := mA hy249
   clear hy249
   obtain ⟨y253, hy253⟩ : ∃ y_ : List Int, y_ = (([0, rd l0 0, ((wrap64 ((l0.length : Int) - 16)) / 256) % 256, (wrap64 ((l0.length : Int) - 16)) % 256] : List Int)) := ⟨_, rfl⟩
   replace H : (if y249.length + y253.length < 140737488355328 then ((some (y249 ++ y253 : List Int)).bind fun y256 => (if 16 ≤ (l0.length : Int) then (if y256.length + (l0.drop 16).length < 140737488355328 then (some (y256 ++ (l0.drop 16))) else (none)) else (none))) else (none)) = some r := zyy hy253 H
   have Ny253 := mA hy253
   clear hy253
   obtain ⟨c19, H⟩ := zif H
   have LMc19 := mA c19
   clear c19
   obtain ⟨y256, hy256⟩ : ∃ y_ : List Int, y_ = (y249 ++ y253) := ⟨_, rfl⟩
   replace H : (if 16 ≤ (l0.length : Int) then (if y256.length + (l0.drop 16).length < 140737488355328 then (some (y256 ++ (l0.drop 16))) else (none)) else (none)) = some r := zyy hy256 H
   have Ny256 := mA hy256
   clear hy256
   obtain ⟨c20, H⟩ := zif H
   have c20b0 := eq_true c20
   have c20b1 := decide_eq_true c20
   clear c20
   obtain ⟨c21, H⟩ := zif H
   have LMc21 := mA c21
   clear c21
   obtain ⟨y260, hy260⟩ : ∃ y_ : List Int, y_ = (y256 ++ (l0.drop 16)) := ⟨_, rfl⟩
   replace H : (some y260) = some r := zyy hy260 H
   have Ny260 := mA hy260
   clear hy260
   obtain rfl := Option.some.inj H
   go_enter Tryz.func42, Tryz.ntmps42
   go_wp2_with (first | ((with_reducible refine zd 8 ?_); refine make_cap _ rfl (N := 8) rfl _ _ rfl _ rfl rfl vH vH (ok := fun _ => True) trivial (Below.refl _ _) (Nat.le_refl _) ?_; intro v234 w22 ho23 hb hg_ hnew_; clear hg_ hnew_; (first | rw [← Ny233.out] at ho23 | (simp only [Int.reduceToNat] at ho23; rw [← Ny233.out] at ho23)); have HO235 := mA (Kd.R_lower ho23 (below_size uQ)); replace HB := mA (below_step uQ hb); clear hb ho23; have p236 : 0 ≤ (0 : Int) := uY; have q236 : 0 < (l0.length : Int) := of_decide_eq_true uV; obtain ⟨ad236, e236, hx236_0⟩ := Kd.at_int HR0.out 0 p236 q236; cases e236; have qi236 : (0 < l0.length) = True := eq_true uY; (try rw [show ((0 : Int)).toNat = 0 from rfl] at hx236_0); (try rw [Addr.add_zero'] at hx236_0); replace hx236_0 := (HB.out.cell (World.block_lt_of_cell? w _ hx236_0)).trans hx236_0; replace p236 := eq_true p236; replace q236 := eq_true q236; obtain ⟨i024, hi024, _, hsz24, _⟩ := info_parts info5; obtain ⟨A24, hcut24, hA24, hC24⟩ := print_mid_of (P := Tryz.prog) (Value.int .u8) 0 39 5 .i64 .i64 Tryz.underlying39 hi024 hsz24 (some ad236) c0 l0 4 12 uY xS (of_decide_eq_true uV) HC0.out; have hl24_ : ((l0.take (12 : Int).toNat).drop (4 : Int).toNat).length = 8 := xI; simp only [hl24_] at hcut24; have HR248 := mA (Kd.C_of_reads (h1 := fun _ => rfl) (hA24 _ (Kd.reads_of_C HR0.out))); have HC248 := mA hC24; clear hA24 hC24 hi024 hsz24) | ((with_reducible refine gate_builtin (b := .append) (xs := #[.tmp 14, .tmp 16]) rfl ?_); at_builtin; refine Kd.R_append_rows (Kd.int .u8) (w0 := w) w.heap.size rfl (.tmp 14) (.tmp 16) 39 5 (.int .u8 0) 1 rfl Tryz.underlying39 info5 rfl uJ uY v234 y233 ((l0.take 12).drop 4) _ _ _ (fun _ => True) (fun _ => False) rfl rfl ?aO ?aR (fun _ _ h => h) (fun _ h => h.elim) ?aF ?aB ?aS ?aL ?_; (case aR => first | (rw [← hl24_]; exact Kd.C_below HR248.out HB.out) | (rw [← show ((l0.take 12).drop 4).length = (12 - 4) from xK]; repeat (first | exact (Kd.C_below HR248.out HB.out) | (with_reducible refine Kd.C_alloc ?_ _) | (with_reducible refine Kd.C_drewN ?_ _) | (with_reducible refine Kd.C_drew ?_))) | (repeat (first | exact (Kd.C_below HR248.out HB.out) | (with_reducible refine Kd.C_alloc ?_ _) | (with_reducible refine Kd.C_drewN ?_ _) | (with_reducible refine Kd.C_drew ?_)))); (case aB => exact uQ); (case aF => exact (fun _ _ => trivial)); (case aO => exact (zkr HO235)); (case aS => exact (below_size uQ)); (case aL => have := LMc18.out; have hlx_ := (show ((l0.take 12).drop 4).length = (12 - 4) from xK); omega); intro v250 w25 ho hb hg hat; rw [← Ny249.out] at ho; replace HB := mA (hb); have HO251 := mA (ho); clear HO235 ho hb hg hat; have p252 : 0 ≤ (0 : Int) := uY; have q252 : 0 < (l0.length : Int) := of_decide_eq_true uV; obtain ⟨ad252, e252, hx252_0⟩ := Kd.at_int HR0.out 0 p252 q252; obtain rfl : ad236 = ad252 := (by injection e252); have qi252 : (0 < l0.length) = True := eq_true uY; (try rw [show ((0 : Int)).toNat = 0 from rfl] at hx252_0); (try rw [Addr.add_zero'] at hx252_0); replace hx252_0 := (HB.out.cell (World.block_lt_of_cell? w _ hx252_0)).trans hx252_0; replace p252 := eq_true p252; replace q252 := eq_true q252) | ((with_reducible refine zd 30 ?_); refine zl .u8 5 30 [0, rd l0 0, ((wrap64 ((l0.length : Int) - 16)) / 256) % 256, (wrap64 ((l0.length : Int) - 16)) % 256] ?_; intro v254 w26 ho27 hb hg_ hnew_; clear hg_ hnew_; (first | rw [← Ny253.out] at ho27 | (simp only [Int.reduceToNat] at ho27; rw [← Ny253.out] at ho27)); have HO255 := mA (Kd.R_lower (Kd.R_new' ho27 (Kd.R_lt (zkr HO251))) (below_size uQ)); replace HO251 := mA (Kd.R_elder' (zkr HO251) (Kd.R_base ho27) hb); replace HB := mA (below_step uQ hb); clear hb ho27; obtain ⟨Ao29, co29, eo29⟩ := Kd.R_slice HO255.out; subst eo29) | ((with_reducible refine gate_builtin (b := .append) (xs := #[.tmp 21, .tmp 30]) rfl ?_); at_builtin; refine Kd.R_append_rows (Kd.int .u8) (w0 := w) w.heap.size rfl (.tmp 21) (.tmp 30) 39 5 (.int .u8 0) 1 rfl Tryz.underlying39 info5 rfl uJ uY v250 y249 y253 _ _ _ (fun k_ => some k_ ≠ (.slice Ao29 y253.length co29 : Value).ownBlock) (fun _ => False) rfl rfl ?aO ?aR (fun _ _ h => h) (fun _ h => h.elim) ?aF ?aB ?aS ?aL ?_; (case aR => repeat (first | exact (Kd.R_reads' HO255.out).2.2 | (with_reducible refine Kd.C_alloc ?_ _) | (with_reducible refine Kd.C_drewN ?_ _) | (with_reducible refine Kd.C_drew ?_))); (case aB => exact uQ); (case aF => exact (fun k_ hk => Kd.fresh' (Kd.R_lt (zkr HO255)) k_ hk)); (case aO => exact (by (with_reducible repeat (first | apply Kd.R_alloc | apply Kd.R_drewN | apply Kd.R_drew)); exact Kd.R_mono HO251.out (fun _ hk => hk.2))); (case aS => exact (below_size uQ)); (case aL => have := LMc19.out; omega); intro v257 w28 ho hb hg hat; rw [← Ny256.out] at ho; replace HO255 := mA (Kd.R_after (ok := (fun _ => True)) (zkr HO255) hg hat); replace HB := mA (hb); have HO258 := mA (ho); clear HO251 ho hb hg hat; obtain ⟨i030, hi030, _, hsz30, _⟩ := info_parts info5; obtain ⟨A30, hcut30, hA30, hC30⟩ := print_drop_of (P := Tryz.prog) (Value.int .u8) 0 39 5 .i64 Tryz.underlying39 hi030 hsz30 (some ad236) c0 l0 16 uY (of_decide_eq_true uV) HC0.out; have HR259 := mA (Kd.C_of_reads (h1 := fun _ => rfl) (hA30 _ (Kd.reads_of_C HR0.out))); have HC259 := mA hC30; clear hA30 hC30 hi030 hsz30) | ((with_reducible refine gate_builtin (b := .append) (xs := #[.tmp 32, .tmp 34]) rfl ?_); at_builtin; refine Kd.R_append_rows (Kd.int .u8) (w0 := w) w.heap.size rfl (.tmp 32) (.tmp 34) 39 5 (.int .u8 0) 1 rfl Tryz.underlying39 info5 rfl uJ uY v257 y256 (l0.drop 16) _ _ _ (fun k_ => some k_ ≠ (.slice Ao29 y253.length co29 : Value).ownBlock) (fun _ => False) rfl rfl ?aO ?aR (fun _ _ h => h) (fun _ h => h.elim) ?aF ?aB ?aS ?aL ?_; (case aR => first | (rw [← show (l0.drop 16).length = (l0.length - 16) from List.length_drop]; repeat (first | exact (Kd.C_below HR259.out HB.out) | (with_reducible refine Kd.C_alloc ?_ _) | (with_reducible refine Kd.C_drewN ?_ _) | (with_reducible refine Kd.C_drew ?_))) | (repeat (first | exact (Kd.C_below HR259.out HB.out) | (with_reducible refine Kd.C_alloc ?_ _) | (with_reducible refine Kd.C_drewN ?_ _) | (with_reducible refine Kd.C_drew ?_)))); (case aB => exact uQ); (case aF => exact (fun k_ hk => Kd.fresh' (Kd.R_lt (zkr HO255)) k_ hk)); (case aO => exact (zkr HO258)); (case aS => exact (below_size uQ)); (case aL => have := LMc21.out; have hlx_ := (show (l0.drop 16).length = (l0.length - 16) from List.length_drop); omega); intro v261 w31 ho hb hg hat; rw [← Ny260.out] at ho; replace HO255 := mA (Kd.R_after (ok := (fun _ => True)) (zkr HO255) hg hat); replace HB := mA (hb); have HO262 := mA (ho); clear HO258 ho hb hg hat))
   go_ret
   exact ⟨_, yO, by (with_reducible repeat (first | apply Kd.R_alloc | apply Kd.R_drewN | apply Kd.R_drew)); exact Kd.R_mono HO262.out (fun _ hk => trivial), yI⟩
 ·exact zV
def pool_placed.f (a0 : Int) (a1 : Int) : Option (Bool) := if a0 ≥ 0 then (if a0 ≤ 4294967295 then (if a1 ≥ 0 then (some (decide (a1 ≤ 65535))) else (some false)) else (some false)) else (some false)
theorem pool_placed.calls (a0 : Int) (a1 : Int) (r : Bool) (w : World) (h : pool_placed.f a0 a1 = some r) :
 Calls Tryz.prog 44 #[.int .i64 a0, .int .i64 a1] w fun e w' => e = .returned (.bool r) ∧ Drawn0 w w' := by
 have H := h
 unfold pool_placed.f at H
 clear h
 by_cases c3 : a0 ≥ 0
 ·rw [if_pos c3] at H
  have c3b0 : decide (0 ≤ a0) = true := decide_eq_true c3
  clear c3
  by_cases c4 : a0 ≤ 4294967295
  ·rw [if_pos c4] at H
   have c4b0 := decide_eq_true c4
   clear c4
   by_cases c5 : a1 ≥ 0
   ·rw [if_pos c5] at H
    have c5b0 : decide (0 ≤ a1) = true := decide_eq_true c5
    clear c5
    obtain rfl := Option.some.inj H
    go_enter Tryz.func44, Tryz.ntmps44
    go_wp2
    go_ret
    exact jO
   ·rw [if_neg c5] at H
    have c5b0 : decide (0 ≤ a1) = false := decide_eq_false c5
    clear c5
    obtain rfl := Option.some.inj H
    go_enter Tryz.func44, Tryz.ntmps44
    go_wp2
    go_ret
    exact jO
  ·rw [if_neg c4] at H
   have c4b0 := decide_eq_false c4
   clear c4
   obtain rfl := Option.some.inj H
   go_enter Tryz.func44, Tryz.ntmps44
   go_wp2
   go_ret
   exact jO
 ·rw [if_neg c3] at H
  have c3b0 : decide (0 ≤ a0) = false := decide_eq_false c3
  clear c3
  obtain rfl := Option.some.inj H
  go_enter Tryz.func44, Tryz.ntmps44
  go_wp2
  go_ret
  exact jO
end
end Go.Proofs.YtkpfojpmigchlaaGreat.Q
