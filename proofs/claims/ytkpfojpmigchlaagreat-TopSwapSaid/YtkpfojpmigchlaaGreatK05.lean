/- Parts of the proof of TopSwap, laid together and made shorter by a program of this claim. -/
import Derived.Scope
import Derived.Test.YtkpfojpmigchlaaGreatK01
import Derived.Test.YtkpfojpmigchlaaGreatK03
set_option linter.unusedVariables false
set_option linter.unusedSimpArgs false
namespace Go.Proofs.YtkpfojpmigchlaaGreat.Q
open Go.RowKit Go.Proofs.YtkpfojpmigchlaaGreatW.PrintWords Go.Proofs.YtkpfojpmigchlaaGreatW.PrintLast Go.Proofs.YtkpfojpmigchlaaGreatW.PrintMore Go.Proofs.YtkpfojpmigchlaaGreat.Own
open Go.Proofs.YtkpfojpmigchlaaGreat.Zip
open Go.Proofs.YtkpfojpmigchlaaGreat.Zap
section
set_option maxHeartbeats 8000000
set_option maxRecDepth 100000
attribute [local go_sem] max2_int min2_int max_two min_two max_three min_three max_four min_four
structure S64 where
 f0 : Int
 f1 : Int
 f2 : Int
 f3 : Int
def z64 : S64 := ⟨(0 : Int), (0 : Int), (0 : Int), (0 : Int)⟩
def k64 : Kd S64 := Kd.iso (Kd.pair (Kd.int .i64) (Kd.pair (Kd.int .i64) (Kd.pair (Kd.int .i64) (Kd.int .i64)))) (fun x : S64 => (x.f0, x.f1, x.f2, x.f3))
theorem k64_open {w : World} {x : S64} {cs : List Value} (h : k64.K w x cs) : cs = [.int .i64 x.f0, .int .i64 x.f1, .int .i64 x.f2, .int .i64 x.f3] := by
 obtain ⟨_, _, rfl, rfl, ⟨_, _, rfl, rfl, ⟨_, _, rfl, rfl, rfl⟩⟩⟩ := h
 exact rfl
theorem k64_openM {w : World} {base : Nat} {ok : Nat → Prop} {x : S64} {cs : List Value} (h : k64.M w base ok x cs) : cs = [.int .i64 x.f0, .int .i64 x.f1, .int .i64 x.f2, .int .i64 x.f3] := by
 obtain ⟨_, _, rfl, rfl, ⟨_, _, rfl, rfl, ⟨_, _, rfl, rfl, rfl⟩⟩⟩ := h
 exact rfl
theorem k64_mkM (w : World) (base : Nat) (ok : Nat → Prop) (x : S64) : k64.M w base ok x [.int .i64 x.f0, .int .i64 x.f1, .int .i64 x.f2, .int .i64 x.f3] := ⟨[.int .i64 x.f0], [.int .i64 x.f1, .int .i64 x.f2, .int .i64 x.f3], rfl, rfl, ⟨[.int .i64 x.f1], [.int .i64 x.f2, .int .i64 x.f3], rfl, rfl, ⟨[.int .i64 x.f2], [.int .i64 x.f3], rfl, rfl, rfl⟩⟩⟩
def rd_T64 (xs : List S64) (i : Int) : S64 := xs.getD i.toNat z64
theorem at_T64 {w : World} {A : Option Addr} {n : Nat} {xs : List S64} (h : Kd.C k64 w A n xs) (i : Int) (h0 : 0 ≤ i) (h1 : i < n) : ∃ ad, A = some ad ∧ w.cell? (ad.add (i.toNat * 4)) = some (.int .i64 (rd_T64 xs i).f0) ∧ w.cell? ⟨(ad.add (i.toNat * 4)).block, (ad.add (i.toNat * 4)).off + 1, none⟩ = some (.int .i64 (rd_T64 xs i).f1) ∧ w.cell? ⟨(ad.add (i.toNat * 4)).block, (ad.add (i.toNat * 4)).off + 2, none⟩ = some (.int .i64 (rd_T64 xs i).f2) ∧ w.cell? ⟨(ad.add (i.toNat * 4)).block, (ad.add (i.toNat * 4)).off + 3, none⟩ = some (.int .i64 (rd_T64 xs i).f3) := by
 obtain ⟨ad, c, e, _, hK, hc0⟩ := Kd.C_get h z64 i h0 h1
 have hc : ∀ j u, c[j]? = some u → w.cell? (ad.add (i.toNat * 4 + j)) = some u := hc0
 obtain rfl := k64_open hK
 exact ⟨ad, e, hc 0 _ rfl, kU, kS, by rw [← add_field _ _ 3 uY]; exact hc 3 _ rfl⟩
theorem info64 : (Tryz.prog.info? 118).map (fun i => (i.zero, i.size, i.bytes)) = some (some (.agg #[(.int .i64 0), (.int .i64 0), (.int .i64 0), (.int .i64 0)]), 4, 32) := by kernel_rfl
mutual
def wheel_Make.l0 : Nat → List (S25) → List Int → Int → Option (List Int)
 | 0, _, _, _ => none
 | k + 1, x1, x3, x11 => if x11 < 127 then (if 0 ≤ x11 then (if x11 < (x3.length : Int) then (wheel_Make.l0 k x1 (x3.set (x11 : Int).toNat (-1)) (wrap64 (x11 + 1))) else (none)) else (none)) else (wheel_Make.l1 k x3 ([] : List (S64)) x1 0)
def wheel_Make.l1 : Nat → List Int → List (S64) → List (S25) → Int → Option (List Int)
 | 0, _, _, _, _ => none
 | k + 1, x3, x5, x18, x19 => if x19 < 64 then (if 0 ≤ x19 then (if x19 < (x18.length : Int) then (if ((rd_T25 x18 x19).f0) = 2 then ((wheel_spun.f k 127 (([1, (rd_T25 x18 x19).f1, (rd_T25 x18 x19).f2] : List Int))).bind fun t118 => ((wheel_spun.f k 126 (([2, (rd_T25 x18 x19).f1, (rd_T25 x18 x19).f2] : List Int))).bind fun t122 => (if x5.length < 4398046511104 then (wheel_Make.l1 k x3 (x5 ++ [(⟨x19, t118, wrap64 (1 + t122), mn (mx ((rd_T25 x18 x19).f3) 1) 8⟩ : S64)]) x18 (wrap64 (x19 + 1))) else (none)))) else (wheel_Make.l1 k x3 x5 x18 (wrap64 (x19 + 1)))) else (none)) else (none)) else (if (x5.length : Int) = 0 then (wheel_Make.j2 k x3 x5 0) else (wheel_Make.j2 k x3 x5 127))
def wheel_Make.j2 : Nat → List Int → List (S64) → Int → Option (List Int)
 | 0, _, _, _ => none
 | k + 1, x3, x5, x8 => wheel_Make.l2 k x3 x5 x8
def wheel_Make.l2 : Nat → List Int → List (S64) → Int → Option (List Int)
 | 0, _, _, _ => none
 | k + 1, x3, x5, x8 => if x8 > 0 then (wheel_Make.l3 k x3 x5 x8 (x5.length : Int) 0) else (some x3)
def wheel_Make.l3 : Nat → List Int → List (S64) → Int → Int → Int → Option (List Int)
 | 0, _, _, _, _, _ => none
 | k + 1, x3, x5, x8, x55, x56 => if x56 < x55 then (if 0 ≤ x56 then (if x56 < (x5.length : Int) then (wheel_Make.l4 k x3 x5 x8 x56 x55 x56 ((rd_T64 x5 x56).f3) 0) else (none)) else (none)) else (wheel_Make.l2 k x3 x5 x8)
def wheel_Make.l4 : Nat → List Int → List (S64) → Int → Int → Int → Int → Int → Int → Option (List Int)
 | 0, _, _, _, _, _, _, _, _ => none
 | k + 1, x3, x5, x8, x9, x55, x56, x63, x64 => if x64 < x63 then (if x8 = 0 then (some x3) else ((some (([] : List Int) : List Int)).bind fun y127 => (if y127.length + x3.length < 17592186044416 then (wheel_Make.l5 k x3 x5 x8 x9 (y127 ++ x3) x55 x56 x63 x64) else (none)))) else (wheel_Make.l3 k x3 x5 x8 x55 (wrap64 (x56 + 1)))
def wheel_Make.l5 : Nat → List Int → List (S64) → Int → Int → List Int → Int → Int → Int → Int → Option (List Int)
 | 0, _, _, _, _, _, _, _, _, _ => none
 | k + 1, x3, x5, x8, x9, x10, x55, x56, x63, x64 => if 0 ≤ x9 then (if x9 < (x5.length : Int) then (if 0 ≤ ((rd_T64 x5 x9).f1) then (if ((rd_T64 x5 x9).f1) < (x3.length : Int) then (if (rd x3 ((rd_T64 x5 x9).f1)) = (-1) then ((some (x3.set (((rd_T64 x5 x9).f1) : Int).toNat ((rd_T64 x5 x9).f0) : List Int)).bind fun y137 => (if 0 < arrNe y137 x10 then (wheel_Make.l4 k y137 x5 (wrap64 (x8 - 1)) x9 x55 x56 x63 (wrap64 (x64 + 1))) else (wheel_Make.l4 k y137 x5 x8 x9 x55 x56 x63 (wrap64 (x64 + 1))))) else (wheel_Make.l5 k x3 (x5.set (x9 : Int).toNat (⟨(rd_T64 x5 x9).f0, Int.tmod (wrap64 (((rd_T64 x5 x9).f1) + ((rd_T64 x5 x9).f2))) 127, (rd_T64 x5 x9).f2, (rd_T64 x5 x9).f3⟩ : S64)) x8 x9 x10 x55 x56 x63 x64)) else (none)) else (none)) else (none)) else (none)
end
def wheel_Make.f (k : Nat) (l0 : List (S25)) : Option (List Int) := if 127 ≤ 35184372088832 then (wheel_Make.l0 k l0 (List.replicate 127 0) 0) else (none)
def wheel_Make.T12 : Bool × List (List Nat × List Nat) := (true, [([], []), ([], []), ([], []), ([2], [2]), ([], []), ([4], [4]), ([3, 5], [3, 5]), ([6], [6]), ([], []), ([8], [8]), ([], []), ([10], [10]), ([9, 11], [9, 11]), ([12, 7], [12]), ([13], [13]), ([], []), ([15], [15]), ([16], [16]), ([17], [17]), ([1, 7, 14, 18], [1, 7, 14, 18]), ([19], [19]), ([0, 20, 13], [0, 20]), ([21, 21, 0, 1, 2, 3, 4, 5, 6, 7, 8, 9, 10, 11, 12, 13, 14, 15, 16, 17, 18, 19, 20, 21], [0, 21])])
def wheel_Make.B12 : List Nat := [0, 0, 0, 4, 0, 16, 60, 124, 0, 256, 0, 1024, 3840, 8188, 16380, 0, 32768, 98304, 229376, 524286, 1048574, 2097151, 4194303]
theorem wheel_Make.tab12 : rtab .any (opsOf Tryz.f22 12) = wheel_Make.T12 := by kernel_rfl
theorem wheel_Make.bits12 : waitsOk wheel_Make.T12.2 wheel_Make.B12 = true := by kernel_rfl
def wheel_Make.T26 : Bool × List (List Nat × List Nat) := (true, [([], []), ([], []), ([], []), ([], []), ([2, 3], [2, 3]), ([4], [4]), ([5], [5]), ([], []), ([], []), ([7, 8], [7, 8]), ([9], [9]), ([10], [10]), ([6, 11], [6, 11]), ([12], [12]), ([0, 1, 0, 1, 2, 3, 4, 5, 6, 7, 8, 9, 10, 11, 12, 13], [0, 1]), ([14, 0, 1, 2, 3, 4, 5, 6, 7, 8, 9, 10, 11, 12, 13], [14]), ([15, 13, 0, 1, 2, 3, 4, 5, 6, 7, 8, 9, 10, 11, 12, 13], [13, 15])])
def wheel_Make.B26 : List Nat := [0, 0, 0, 0, 12, 28, 60, 0, 0, 384, 896, 1920, 4092, 8188, 16383, 32767, 65535]
theorem wheel_Make.tab26 : rtab .any (opsOf Tryz.f22 26) = wheel_Make.T26 := by kernel_rfl
theorem wheel_Make.bits26 : waitsOk wheel_Make.T26.2 wheel_Make.B26 = true := by kernel_rfl
def wheel_Make.T27 : Bool × List (List Nat × List Nat) := (true, [([], []), ([], []), ([0, 1], [0, 1]), ([2], [2]), ([3], [3]), ([], []), ([], []), ([5, 6], [5, 6]), ([7], [7]), ([8], [8]), ([4, 0, 1, 2, 3, 4, 5, 6, 7, 8, 9], [4]), ([10, 9, 0, 1, 2, 3, 4, 5, 6, 7, 8, 9], [9, 10])])
def wheel_Make.B27 : List Nat := [0, 0, 3, 7, 15, 0, 0, 96, 224, 480, 1023, 2047]
theorem wheel_Make.tab27 : rtab .any (opsOf Tryz.f22 27) = wheel_Make.T27 := by kernel_rfl
theorem wheel_Make.bits27 : waitsOk wheel_Make.T27.2 wheel_Make.B27 = true := by kernel_rfl
theorem wheel_Make.calls (k : Nat) (cs : Array Value) (l0 : List (S25)) (r : List Int) (w0 : World) (hsl : IsSlots cs l0) (h : wheel_Make.f k l0 = some r) :
 Calls Tryz.prog 22 #[.agg cs] w0 fun e w' => ∃ v0_ : Value, e = .returned (v0_) ∧ Kd.R (Kd.int .i64) 3 w' w0.heap.size (fun _ => True) v0_ r ∧ Below w0.heap.size w0 w' := by
 have hu25 := Tryz.underlying25
 have hu64 := Tryz.underlying118
 have hu33 := pool33
 have hu60 := under60
 have HSL := mA hsl
 clear hsl
 have HL0 := mA HSL.out.2.1
 have H : (if 127 ≤ 35184372088832 then (wheel_Make.l0 k l0 (List.replicate 127 0) 0) else (none)) = some r := h
 clear h
 by_cases c2 : 127 ≤ 35184372088832
 ·rw [if_pos c2] at H
  have c2b0 := eq_true c2
  have c2b1 := decide_eq_true c2
  clear c2
  obtain ⟨y109, hy109⟩ : ∃ y_ : List Int, y_ = (List.replicate 127 0) := ⟨_, rfl⟩
  replace H : (wheel_Make.l0 k l0 y109 0) = some r := zyy hy109 H
  have Ny109 := mA hy109
  clear hy109
  have H' := mA H
  clear H
  go_enter Tryz.func22, Tryz.ntmps22
  go_wp2_with (first | ((with_reducible refine zd 1 ?_); refine box_event (W := w0) ?hg (N := 1) ?hd (cs := cs) (t := 33) ?hr ?_; (case hd => rfl); (case hg => rfl); (case hr => first | (go_simp; done) | (go_simp; rfl)); intro gp hgp w hbox hb; have HR0 := mA (slots_C hbox HSL.out); have HB0 := mA hb; have HB := mA (Below.refl w.heap.size w); clear hgp hbox hb))
  refine wp_scope_straight ?_
  go_wp2_with (first | ((with_reducible refine zd 3 ?_); refine box_event ?hg (N := 3) ?hd (cs := Array.replicate 127 (.int .i64 0)) (t := 114) ?hr ?_; (case hd => rfl); (case hg => rfl); (case hr => exact run60 _ _ _ rfl); intro gw hgw w3 hbox hb; have ho4 := arr_R hbox (Nat.le_of_eq hgw.symm) uJ; clear hgw hbox; (first | rw [← Ny109.out] at ho4 | (simp only [Int.reduceToNat] at ho4; rw [← Ny109.out] at ho4)); have HO111 := mA (Kd.R_lower ho4 (below_size uQ)); replace HB := mA (below_step uQ hb); clear hb ho4))
  go_loopg [11] k (fun kq v11 w' => ∃ (x3_1 : List Int) (x11_1 : Int), v11 = .int .i64 x11_1 ∧ Aside0 (wheel_Make.l0 kq l0 x3_1 x11_1 = some r) ∧ Aside0 (kq ≤ k) ∧ Aside0 (Kd.R (Kd.int .i64) 114 w' w.heap.size (fun _ => True) (.slice (some ⟨gw, 0, none⟩) 127 127) x3_1) ∧ Aside0 (Below w.heap.size w w'))
  case atStart => exact ⟨(y109), (0), uN, H', ⟨Nat.le_refl _⟩, ⟨by (with_reducible repeat (first | apply Kd.R_alloc | apply Kd.R_drewN | apply Kd.R_drew)); exact HO111.out⟩, ⟨yI⟩⟩
  case round =>
   clear H' c2b0 c2b1
   obtain ⟨x3_1, x11_1, rfl, HA, HK1, HO_3, HB⟩ := hrel
   cases gk with
   | zero => exact absurd HA.out (by simp [wheel_Make.l0])
   | succ k1 =>
    have H := HA.out
    clear HA
    simp only [wheel_Make.l0] at H
    by_cases c5 : x11_1 < 127
    ·rw [if_pos c5] at H
     have c5b0 := decide_eq_true c5
     clear c5
     obtain ⟨c6, H⟩ := zif H
     have c6b0 := decide_eq_true c6
     clear c6
     obtain ⟨c7, H⟩ := zif H
     have c7b0 := decide_eq_true c7
     clear c7
     obtain ⟨y112, hy112⟩ : ∃ y_ : List Int, y_ = (x3_1.set (x11_1 : Int).toNat (-1)) := ⟨_, rfl⟩
     replace H : (wheel_Make.l0 k1 l0 y112 (wrap64 (x11_1 + 1))) = some r := zyy hy112 H
     have Ny112 := mA hy112
     clear hy112
     have H' := mA H
     clear H
     have p8 : 0 ≤ (x11_1 : Int) := of_decide_eq_true uV
     have q8 : (x11_1 : Int) < ((x3_1.length : Int) : Int) := of_decide_eq_true uV
     obtain ⟨go_, co_, eo_, gb8, gl8, cl8, HG8⟩ := Kd.R_form HO_3.out uY
     injection eo_ with ea_ en_ ec_; injection ea_ with ea_; injection ea_ with ea_; subst ea_; subst ec_; clear en_
     have GB8 := mA gb8
     have GG8 := mA HG8
     clear gb8 gl8 HG8
     obtain ⟨hx8_0, hf8_0⟩ := Kd.R_celln 0 HO_3.out (x11_1 : Int) p8 wQ
     replace p8 := eq_true p8
     replace q8 := eq_true q8
     have q8a := eq_true (show x11_1 < (127 : Int) from by have h1_ := of_eq_true q8; have h2_ := (Kd.R_reads' HO_3.out).1; omega)
     have HP9 := Kd.R_putg HO_3.out (x11_1 : Int) (-1)
     go_wp2_with (first | ((with_reducible refine zst 3 15 ?_); refine store_event (t := 3) (p := 15) (v := ?vo_w10) (w1 := (wr.setCell ⟨gw, (x11_1 : Int).toNat, none⟩ (.int .i64 (-1)))) ?hg ?ho ?hn ?hr ?_; (case ho => rfl); (case hg => rfl); (case hn => rfl); (case hr => first | (go_simp; done) | (go_simp; rfl)); intro w10 hw; have hg : wr.grownBy w10 (some gw) := (by rw [hw]; exact HP9.2); have hp_ : Kd.R (Kd.int .i64) 114 w10 w.heap.size (fun _ => True) (.slice (some ⟨gw, 0, none⟩) 127 127) y112 := (by rw [hw, Ny112.out]; exact HP9.1); clear HP9; replace HO_3 := mA (hp_); replace HB := mA ((by rw [hw]; exact below_set (HB.out) GB8.out : Below w.heap.size w w10)); clear hg hw hp_))
     go_roundg k1
     case measure => have := HK1.out; omega
     case rel => exact ⟨(y112), (wrap64 (x11_1 + 1)), uN, H', ⟨kH⟩, ⟨qG⟩, ⟨yI⟩⟩
    ·rw [if_neg c5] at H
     have c5b0 := decide_eq_false c5
     clear c5
     have H' := mA H
     clear H
     go_wp2
     refine wp_ld26 (x := .tmp 17) rfl rfl (Kd.C_below HR0.out HB.out) HL0.out ?_
     go_wp2
     go_loopg [5, 19] k1 (fun kq v5 v19 w' => ∃ (x5_2 : List (S64)) (x19_2 : Int), v19 = .int .i64 x19_2 ∧ Aside0 (wheel_Make.l1 kq x3_1 x5_2 l0 x19_2 = some r) ∧ Aside0 (kq ≤ k1) ∧ Aside0 (Kd.R (Kd.int .i64) 114 w' w.heap.size (fun _ => True) (.slice (some ⟨gw, 0, none⟩) 127 127) x3_1) ∧ Aside0 (Kd.R k64 118 w' w.heap.size (fun _ => True) v5 x5_2) ∧ Aside0 (Below w.heap.size w w'))
     case atStart => exact ⟨(([] : List (S64))), (0), uN, H', ⟨Nat.le_refl _⟩, ⟨qG⟩, ⟨kQ⟩, ⟨yI⟩⟩
     case round =>
      clear H' c5b0
      obtain ⟨x5_2, x19_2, rfl, HA, HK2, HO_3, HO_5, HB⟩ := hrel
      cases gk with
      | zero => exact absurd HA.out (by simp [wheel_Make.l1])
      | succ k2 =>
       have H := HA.out
       clear HA
       simp only [wheel_Make.l1] at H
       by_cases c11 : x19_2 < 64
       ·rw [if_pos c11] at H
        have c11b0 := decide_eq_true c11
        clear c11
        obtain ⟨c12, H⟩ := zif H
        have c12b0 := decide_eq_true c12
        clear c12
        obtain ⟨c13, H⟩ := zif H
        have c13b0 := decide_eq_true c13
        clear c13
        by_cases c14 : ((rd_T25 l0 x19_2).f0) = 2
        ·rw [if_pos c14] at H
         have c14b0 : (((rd_T25 l0 x19_2).f0) == 2) = true := beq_iff_eq.mpr c14
         have c14b1 : (((rd_T25 l0 x19_2).f0) != 2) = false := bne_eq_false_iff_eq.mpr c14
         clear c14
         obtain ⟨y115, hy115⟩ : ∃ y_ : List Int, y_ = (([1, (rd_T25 l0 x19_2).f1, (rd_T25 l0 x19_2).f2] : List Int)) := ⟨_, rfl⟩
         replace H : ((wheel_spun.f k2 127 y115).bind fun t118 => ((wheel_spun.f k2 126 (([2, (rd_T25 l0 x19_2).f1, (rd_T25 l0 x19_2).f2] : List Int))).bind fun t122 => (if x5_2.length < 4398046511104 then (wheel_Make.l1 k2 x3_1 (x5_2 ++ [(⟨x19_2, t118, wrap64 (1 + t122), mn (mx ((rd_T25 l0 x19_2).f3) 1) 8⟩ : S64)]) l0 (wrap64 (x19_2 + 1))) else (none)))) = some r := zyy hy115 H
         have Ny115 := mA hy115
         clear hy115
         replace H := Option.bind_eq_some_iff.mp H
         obtain ⟨t118, A150, H⟩ := H
         have A15 := mA A150
         clear A150
         obtain ⟨y119, hy119⟩ : ∃ y_ : List Int, y_ = (([2, (rd_T25 l0 x19_2).f1, (rd_T25 l0 x19_2).f2] : List Int)) := ⟨_, rfl⟩
         replace H : ((wheel_spun.f k2 126 y119).bind fun t122 => (if x5_2.length < 4398046511104 then (wheel_Make.l1 k2 x3_1 (x5_2 ++ [(⟨x19_2, t118, wrap64 (1 + t122), mn (mx ((rd_T25 l0 x19_2).f3) 1) 8⟩ : S64)]) l0 (wrap64 (x19_2 + 1))) else (none))) = some r := zyy hy119 H
         have Ny119 := mA hy119
         clear hy119
         replace H := Option.bind_eq_some_iff.mp H
         obtain ⟨t122, A160, H⟩ := H
         have A16 := mA A160
         clear A160
         obtain ⟨ji17, hji17⟩ : ∃ j_ : Int, (mx ((rd_T25 l0 x19_2).f3) 1) = j_ := ⟨_, rfl⟩
         replace H : (if x5_2.length < 4398046511104 then (wheel_Make.l1 k2 x3_1 (x5_2 ++ [(⟨x19_2, t118, wrap64 (1 + t122), mn (ji17) 8⟩ : S64)]) l0 (wrap64 (x19_2 + 1))) else (none)) = some r := by first | (rw [hji17] at H; exact H) | (simp only [hji17] at H ⊢; exact H)
         (try rw [hji17] at A15)
         (try rw [hji17] at A16)
         have hji17_ : (if ((rd_T25 l0 x19_2).f3) < 1 then 1 else ((rd_T25 l0 x19_2).f3)) = ji17 := hji17
         obtain ⟨ji18, hji18⟩ : ∃ j_ : Int, (mn (ji17) 8) = j_ := ⟨_, rfl⟩
         replace H : (if x5_2.length < 4398046511104 then (wheel_Make.l1 k2 x3_1 (x5_2 ++ [(⟨x19_2, t118, wrap64 (1 + t122), ji18⟩ : S64)]) l0 (wrap64 (x19_2 + 1))) else (none)) = some r := by first | (rw [hji18] at H; exact H) | (simp only [hji18] at H ⊢; exact H)
         (try rw [hji18] at A15)
         (try rw [hji18] at A16)
         have hji18_ : (if 8 < (ji17) then 8 else (ji17)) = ji18 := hji18
         obtain ⟨c19, H⟩ := zif H
         have LMc19 := mA c19
         clear c19
         obtain ⟨y123, hy123⟩ : ∃ y_ : List (S64), y_ = (x5_2 ++ [(⟨x19_2, t118, wrap64 (1 + t122), ji18⟩ : S64)]) := ⟨_, rfl⟩
         replace H : (wheel_Make.l1 k2 x3_1 y123 l0 (wrap64 (x19_2 + 1))) = some r := zyy hy123 H
         have Ny123 := mA hy123
         clear hy123
         have H' := mA H
         clear H
         have p113 : 0 ≤ (x19_2 : Int) := of_decide_eq_true uV
         have q113 : x19_2 < (l0.length : Int) := of_decide_eq_true uV
         obtain ⟨ad113, e113, hx113_0, hx113_1, hx113_2, hx113_3, hx113_4⟩ := at_T25 HR0.out x19_2 p113 q113
         cases e113
         replace hx113_0 := (HB.out.cell (World.block_lt_of_cell? w _ hx113_0)).trans hx113_0
         replace hx113_1 := (HB.out.cell (World.block_lt_of_cell? w _ hx113_1)).trans hx113_1
         replace hx113_2 := (HB.out.cell (World.block_lt_of_cell? w _ hx113_2)).trans hx113_2
         replace hx113_3 := (HB.out.cell (World.block_lt_of_cell? w _ hx113_3)).trans hx113_3
         replace hx113_4 := (HB.out.cell (World.block_lt_of_cell? w _ hx113_4)).trans hx113_4
         replace p113 := eq_true p113
         replace q113 := eq_true q113
         have hix := index26 l0 HL0.out x19_2 (of_eq_true p113) (by have h1_ := of_eq_true q113; have h2_ := HL0.out; omega)
         try go_wp2_with (first | (refine zX 7 #[.int .i64 0, .int .i64 0, .int .i64 0, .int .i64 0, .int .i64 0] 25 ?_; clear HB; intro gb114 w20 BK114 HB GE114 hb hg; replace HO_3 := mA (Kd.R_below (zkr HO_3) hb); replace HO_5 := mA (Kd.R_below (zkr HO_5) hb); clear hb hg; obtain ⟨hcz21_0, hcz21_1, hcz21_2, hcz21_3, hcz21_4⟩ := bk5 BK114.out; have hfz21_0 := BK114.fz 0; have hfz21_1 := BK114.fz 1; have hfz21_2 := BK114.fz 2; have hfz21_3 := BK114.fz 3; have hfz21_4 := BK114.fz 4; obtain ⟨Ao22, co22, eo22⟩ := Kd.R_slice HO_5.out; subst eo22))
         have n0_ : Aside0 (Kd.R (Kd.int .i64) 114 (((((w20.setCell ⟨gb114, 0, none⟩ (.int .i64 ((rd_T25 l0 x19_2).f0))).setCell ⟨gb114, 1, none⟩ (.int .i64 ((rd_T25 l0 x19_2).f1))).setCell ⟨gb114, 2, none⟩ (.int .i64 ((rd_T25 l0 x19_2).f2))).setCell ⟨gb114, 3, none⟩ (.int .i64 ((rd_T25 l0 x19_2).f3))).setCell ⟨gb114, 4, none⟩ (.int .i64 ((rd_T25 l0 x19_2).f4))) w.heap.size (fun _ => True) (.slice (some ⟨gw, 0, none⟩) 127 127) x3_1) := ⟨qQ⟩
         have n1_ : Aside0 (Kd.R k64 118 (((((w20.setCell ⟨gb114, 0, none⟩ (.int .i64 ((rd_T25 l0 x19_2).f0))).setCell ⟨gb114, 1, none⟩ (.int .i64 ((rd_T25 l0 x19_2).f1))).setCell ⟨gb114, 2, none⟩ (.int .i64 ((rd_T25 l0 x19_2).f2))).setCell ⟨gb114, 3, none⟩ (.int .i64 ((rd_T25 l0 x19_2).f3))).setCell ⟨gb114, 4, none⟩ (.int .i64 ((rd_T25 l0 x19_2).f4))) w.heap.size (fun _ => True) (.slice Ao22 x5_2.length co22) x5_2) := ⟨qJ⟩
         have n2_ : Aside0 ((((((w20.setCell ⟨gb114, 0, none⟩ (.int .i64 ((rd_T25 l0 x19_2).f0))).setCell ⟨gb114, 1, none⟩ (.int .i64 ((rd_T25 l0 x19_2).f1))).setCell ⟨gb114, 2, none⟩ (.int .i64 ((rd_T25 l0 x19_2).f2))).setCell ⟨gb114, 3, none⟩ (.int .i64 ((rd_T25 l0 x19_2).f3))).setCell ⟨gb114, 4, none⟩ (.int .i64 ((rd_T25 l0 x19_2).f4))).heap[gb114]? = some (.cells #[.int .i64 ((rd_T25 l0 x19_2).f0), .int .i64 ((rd_T25 l0 x19_2).f1), .int .i64 ((rd_T25 l0 x19_2).f2), .int .i64 ((rd_T25 l0 x19_2).f3), .int .i64 ((rd_T25 l0 x19_2).f4)] 25 (0, 0))) := ⟨blk_put (blk_put (blk_put (blk_put (blk_put BK114.out 0 _ rfl) 1 _ rfl) 2 _ rfl) 3 _ rfl) 4 _ rfl⟩
         have n3_ : Aside0 (Below w.heap.size w (((((w20.setCell ⟨gb114, 0, none⟩ (.int .i64 ((rd_T25 l0 x19_2).f0))).setCell ⟨gb114, 1, none⟩ (.int .i64 ((rd_T25 l0 x19_2).f1))).setCell ⟨gb114, 2, none⟩ (.int .i64 ((rd_T25 l0 x19_2).f2))).setCell ⟨gb114, 3, none⟩ (.int .i64 ((rd_T25 l0 x19_2).f3))).setCell ⟨gb114, 4, none⟩ (.int .i64 ((rd_T25 l0 x19_2).f4)))) := ⟨yI⟩
         clear HO_3 HO_5 BK114 HB
         generalize (((((w20.setCell ⟨gb114, 0, none⟩ (.int .i64 ((rd_T25 l0 x19_2).f0))).setCell ⟨gb114, 1, none⟩ (.int .i64 ((rd_T25 l0 x19_2).f1))).setCell ⟨gb114, 2, none⟩ (.int .i64 ((rd_T25 l0 x19_2).f2))).setCell ⟨gb114, 3, none⟩ (.int .i64 ((rd_T25 l0 x19_2).f3))).setCell ⟨gb114, 4, none⟩ (.int .i64 ((rd_T25 l0 x19_2).f4))) = w23 at n0_ n1_ n2_ n3_ ⊢
         have HO_3 := n0_
         have HO_5 := n1_
         have BK114 := n2_
         have HB := n3_
         clear n0_ n1_ n2_ n3_
         replace HO_3 := mA (Kd.R_drew HO_3.out)
         replace HO_5 := mA (Kd.R_drew HO_5.out)
         replace BK114 := mA (blk_drew BK114.out)
         replace HB := mA (below_drew1 HB.out)
         refine start_ (n := 23) (S := fun w' => w'.cell? ⟨gb114, 0, none⟩ = some (.int .i64 ((rd_T25 l0 x19_2).f0)) ∧ w'.cell? ⟨gb114, 1, none⟩ = some (.int .i64 ((rd_T25 l0 x19_2).f1)) ∧ w'.cell? ⟨gb114, 2, none⟩ = some (.int .i64 ((rd_T25 l0 x19_2).f2)) ∧ w'.cell? ⟨gb114, 3, none⟩ = some (.int .i64 ((rd_T25 l0 x19_2).f3)) ∧ w'.cell? ⟨gb114, 4, none⟩ = some (.int .i64 ((rd_T25 l0 x19_2).f4))) (ds := []) (tf 0 23) uW rfl rfl ⟨BK114.cz 0, BK114.cz 1, BK114.cz 2, BK114.cz 3, BK114.cz 4⟩ (fun hHeld => ?_); refine with_tabW wheel_Make.tab12 wheel_Make.bits12 (fun HT_ HW_ => ?_)
         generalize w23.drew = w24 at HO_3 HO_5 BK114 HB hHeld ⊢
         refine zP 0 26 (tf 1 22) ?_
         refine zP 1 27 (tf 2 21) ?_
         refine zP 2 28 (tf 3 20) ?_
         refine zP 4 30 (mb 23 23) ?_
         refine zP 8 34 (mb 23 279) ?_
         refine zP 10 36 (mb 23 1303) ?_
         refine zP 15 41 (mb 23 34071) ?_
         refine take_ (i := 3) (N := some 29) (v := ?_) (a' := ?_) (mb 23 34079) rfl rfl (take_ofW HT_.out HW_.out uW) (fun _ _ _ h => h) (Or.inl ⟨by rfl, ?_⟩) hHeld ?_ ?_
         rotate_left
         ·exact jF
         rotate_left
         ·exact zU
         refine take_ (i := 5) (N := some 31) (v := ?_) (a' := ?_) (mb 23 34111) rfl rfl (take_ofW HT_.out HW_.out uW) (fun _ _ _ h => h) (Or.inl ⟨by rfl, ?_⟩) hHeld ?_ ?_
         rotate_left
         ·exact jF
         rotate_left
         ·exact zU
         refine take_ (i := 9) (N := some 35) (v := ?_) (a' := ?_) (mb 23 34623) rfl rfl (take_ofW HT_.out HW_.out uW) (fun _ _ _ h => h) (Or.inl ⟨by rfl, ?_⟩) hHeld ?_ ?_
         rotate_left
         ·exact jF
         rotate_left
         ·exact zU
         refine take_ (i := 11) (N := some 37) (v := ?_) (a' := ?_) (mb 23 36671) rfl rfl (take_ofW HT_.out HW_.out uW) (fun _ _ _ h => h) (Or.inl ⟨by rfl, ?_⟩) hHeld ?_ ?_
         rotate_left
         ·exact jF
         rotate_left
         ·exact zU
         refine take_ (i := 16) (N := some 42) (v := ?_) (a' := ?_) (mb 23 102207) rfl rfl (take_ofW HT_.out HW_.out uW) (fun _ _ _ h => h) (Or.inl ⟨by rfl, ?_⟩) hHeld ?_ ?_
         rotate_left
         ·exact jF
         rotate_left
         ·exact zU
         refine zP 17 43 (mb 23 233279) ?_
         refine zP 18 44 (mb 23 495423) ?_
         refine join_ (σ := Value × Value) 6 (mb 23 499711) (fun s_ => [(32, s_.1), (33, .int .i64 t118), (38, s_.2)]) (fun s_ w' => (w'.cell? ⟨gb114, 0, none⟩ = some (.int .i64 ((rd_T25 l0 x19_2).f0)) ∧ w'.cell? ⟨gb114, 1, none⟩ = some (.int .i64 ((rd_T25 l0 x19_2).f1)) ∧ w'.cell? ⟨gb114, 2, none⟩ = some (.int .i64 ((rd_T25 l0 x19_2).f2)) ∧ w'.cell? ⟨gb114, 3, none⟩ = some (.int .i64 ((rd_T25 l0 x19_2).f3)) ∧ w'.cell? ⟨gb114, 4, none⟩ = some (.int .i64 ((rd_T25 l0 x19_2).f4))) ∧ (Kd.R (Kd.int .i64) 3 w' w.heap.size (fun k_ => some k_ ≠ (s_.2 : Value).ownBlock ∧ some k_ ≠ ((.slice (some ⟨gw, 0, none⟩) 127 127) : Value).ownBlock) s_.1 y115) ∧ (Kd.R (Kd.int .i64) 3 w' w.heap.size (fun k_ => some k_ ≠ (s_.1 : Value).ownBlock ∧ some k_ ≠ ((.slice (some ⟨gw, 0, none⟩) 127 127) : Value).ownBlock) s_.2 y119) ∧ (Kd.R (Kd.int .i64) 114 w' w.heap.size (fun k_ => some k_ ≠ (s_.1 : Value).ownBlock ∧ some k_ ≠ (s_.2 : Value).ownBlock) (.slice (some ⟨gw, 0, none⟩) 127 127) x3_1) ∧ (Kd.R k64 118 w' w.heap.size (fun _ => True) (.slice Ao22 x5_2.length co22) x5_2) ∧ (w'.heap[gb114]? = some (.cells #[.int .i64 ((rd_T25 l0 x19_2).f0), .int .i64 ((rd_T25 l0 x19_2).f1), .int .i64 ((rd_T25 l0 x19_2).f2), .int .i64 ((rd_T25 l0 x19_2).f3), .int .i64 ((rd_T25 l0 x19_2).f4)] 25 (0, 0))) ∧ (Below w.heap.size w w')) ?_ ?_
         rotate_left
         ·intro hCont
          refine two_ (i := 6) (j := 12) (Ni := some 32) (Nj := some 38) (mb 23 495487) (mb 23 499519) rfl rfl rfl rfl (two_of HT_.out uW) uJ uJ (fun K hK => ?_) (fun K hK => ?_)
          ·skip
           refine Kd.R_lit_step (Kd.int .i64) _ 3 ?hg (N := 32) ?hd (xs := ([1, (rd_T25 l0 x19_2).f1, (rd_T25 l0 x19_2).f2] : List Int)) (inner := [.int .i64 1, .int .i64 ((rd_T25 l0 x19_2).f1), .int .i64 ((rd_T25 l0 x19_2).f2)]) (ok := fun _ => True) (okp := fun _ => True) ?hr ?hp (fun _ hk => hk) trivial (Below.refl _ _) (Nat.le_refl _) xU ?_; (case hd => rfl); (case hg => rfl); (case hr => first | (go_simp; done) | (go_simp; rfl)); (case hp => exact (Reps.one (show Kd.M (Kd.int .i64) _ _ _ 1 [.int .i64 1] from rfl) (Reps.one (show Kd.M (Kd.int .i64) _ _ _ ((rd_T25 l0 x19_2).f1) [.int .i64 ((rd_T25 l0 x19_2).f1)] from rfl) (Reps.one (show Kd.M (Kd.int .i64) _ _ _ ((rd_T25 l0 x19_2).f2) [.int .i64 ((rd_T25 l0 x19_2).f2)] from rfl) (Reps.none _ _)))))
           intro v116 w25 ho26 hb hg_ hnew_
           clear hg_ hnew_
           (first | rw [← Ny115.out] at ho26 | (simp only [Int.reduceToNat] at ho26; rw [← Ny115.out] at ho26))
           have n0_ := mA (Kd.R_elder' (zkr HO_3) (Kd.R_base ho26) hb)
           have n1_ := mA (Kd.R_below (zkr HO_5) hb)
           have n2_ := mA (Kd.R_lower (Kd.R_new' ho26 (Kd.R_lt (zkr HO_3))) (below_size uQ))
           have n3_ := mA (blk_below (g := gb114) (o := .cells #[.int .i64 ((rd_T25 l0 x19_2).f0), .int .i64 ((rd_T25 l0 x19_2).f1), .int .i64 ((rd_T25 l0 x19_2).f2), .int .i64 ((rd_T25 l0 x19_2).f3), .int .i64 ((rd_T25 l0 x19_2).f4)] 25 (0, 0)) uX hb)
           have n4_ := mA (below_step uQ hb)
           clear HO_3 HO_5 BK114 HB
           have HO_3 := n0_
           have HO_5 := n1_
           have HO117 := n2_
           have BK114 := n3_
           have HB := n4_
           clear n0_ n1_ n2_ n3_ n4_ hb ho26
           obtain ⟨Ao27, co27, eo27⟩ := Kd.R_slice HO117.out
           (first | subst eo27 | (injection eo27 with f1_ f2_ f3_; have f4_ := f1_.symm; have f5_ := f3_.symm; clear f1_ f2_ f3_; subst f4_; subst f5_))
           refine hK.out _ _ ⟨BK114.cz 0, BK114.cz 1, BK114.cz 2, BK114.cz 3, BK114.cz 4⟩ (fun hHeld => ?_)
           clear hK K
           refine zN ?_
           refine two_ (i := 7) (j := 12) (Ni := some 33) (Nj := some 38) (mb 23 495615) (mb 23 499583) rfl rfl rfl rfl (two_of HT_.out uW) uJ uJ (fun K hK => ?_) (fun K hK => ?_)
           ·skip
            refine goes_ Tryz.func56 uW rfl #[.int .u64 127, .slice Ao27 y115.length co27] (by rfl) rfl rfl uE ?_
            with_reducible refine (wheel_spun.calls k2 127 _ _ y115 t118 _ ?side1 ?side2 A15.out).mono ?_
            (case side1 => repeat (first | exact (Kd.R_reads' HO117.out).2.2 | (with_reducible refine Kd.C_alloc ?_ _) | (with_reducible refine Kd.C_drewN ?_ _) | (with_reducible refine Kd.C_drew ?_)))
            (case side2 => exact (Kd.R_reads' HO117.out).2.1)
            rintro e w28 ⟨rfl, hb⟩
            refine ⟨_, rfl, ?_⟩
            have n0_ := mA (Kd.R_below (zkr HO_3) hb)
            have n1_ := mA (Kd.R_below (zkr HO_5) hb)
            have n2_ := mA (Kd.R_below (zkr HO117) hb)
            have n3_ := mA (blk_below (g := gb114) (o := .cells #[.int .i64 ((rd_T25 l0 x19_2).f0), .int .i64 ((rd_T25 l0 x19_2).f1), .int .i64 ((rd_T25 l0 x19_2).f2), .int .i64 ((rd_T25 l0 x19_2).f3), .int .i64 ((rd_T25 l0 x19_2).f4)] 25 (0, 0)) uX hb)
            have n4_ := mA (below_step uQ hb)
            clear HO_3 HO_5 HO117 BK114 HB
            have HO_3 := n0_
            have HO_5 := n1_
            have HO117 := n2_
            have BK114 := n3_
            have HB := n4_
            clear n0_ n1_ n2_ n3_ n4_ hb
            refine hK.out _ _ ⟨BK114.cz 0, BK114.cz 1, BK114.cz 2, BK114.cz 3, BK114.cz 4⟩ (fun hHeld => ?_)
            clear hK K
            refine zN ?_
            refine one_ (i := 12) (N := some 38) (mb 23 499711) rfl rfl (one_of HT_.out uW) uJ (fun K hK => ?_)
            refine Kd.R_lit_step (Kd.int .i64) _ 3 ?hg (N := 38) ?hd (xs := ([2, (rd_T25 l0 x19_2).f1, (rd_T25 l0 x19_2).f2] : List Int)) (inner := [.int .i64 2, .int .i64 ((rd_T25 l0 x19_2).f1), .int .i64 ((rd_T25 l0 x19_2).f2)]) (ok := fun _ => True) (okp := fun _ => True) ?hr ?hp (fun _ hk => hk) trivial (Below.refl _ _) (Nat.le_refl _) xU ?_; (case hd => rfl); (case hg => rfl); (case hr => first | (go_simp; done) | (go_simp; rfl)); (case hp => exact (Reps.one (show Kd.M (Kd.int .i64) _ _ _ 2 [.int .i64 2] from rfl) (Reps.one (show Kd.M (Kd.int .i64) _ _ _ ((rd_T25 l0 x19_2).f1) [.int .i64 ((rd_T25 l0 x19_2).f1)] from rfl) (Reps.one (show Kd.M (Kd.int .i64) _ _ _ ((rd_T25 l0 x19_2).f2) [.int .i64 ((rd_T25 l0 x19_2).f2)] from rfl) (Reps.none _ _)))))
            intro v120 w29 ho30 hb hg_ hnew_
            clear hg_ hnew_
            (first | rw [← Ny119.out] at ho30 | (simp only [Int.reduceToNat] at ho30; rw [← Ny119.out] at ho30))
            have n0_ := mA (Kd.R_elder' (zkr HO_3) (Kd.R_base ho30) hb)
            have n1_ := mA (Kd.R_below (zkr HO_5) hb)
            have n2_ := mA (Kd.R_elder' (zkr HO117) (Kd.R_base ho30) hb)
            have n3_ := mA (Kd.R_lower (Kd.R_new' (Kd.R_new' ho30 (Kd.R_lt (zkr HO_3))) (Kd.R_lt (zkr HO117))) (below_size uQ))
            have n4_ := mA (blk_below (g := gb114) (o := .cells #[.int .i64 ((rd_T25 l0 x19_2).f0), .int .i64 ((rd_T25 l0 x19_2).f1), .int .i64 ((rd_T25 l0 x19_2).f2), .int .i64 ((rd_T25 l0 x19_2).f3), .int .i64 ((rd_T25 l0 x19_2).f4)] 25 (0, 0)) uX hb)
            have n5_ := mA (below_step uQ hb)
            clear HO_3 HO_5 HO117 BK114 HB
            have HO_3 := n0_
            have HO_5 := n1_
            have HO117 := n2_
            have HO121 := n3_
            have BK114 := n4_
            have HB := n5_
            clear n0_ n1_ n2_ n3_ n4_ n5_ hb ho30
            refine hK.out _ _ ⟨BK114.cz 0, BK114.cz 1, BK114.cz 2, BK114.cz 3, BK114.cz 4⟩ (fun hHeld => ?_)
            clear hK K
            refine zN ?_
            exact norm_ xR (hCont (.slice Ao27 y115.length co27, v120) _ ⟨hHeld, xL, xM, vW, (zkr HO_5), uX, uQ⟩)
           ·skip
            refine Kd.R_lit_step (Kd.int .i64) _ 3 ?hg (N := 38) ?hd (xs := ([2, (rd_T25 l0 x19_2).f1, (rd_T25 l0 x19_2).f2] : List Int)) (inner := [.int .i64 2, .int .i64 ((rd_T25 l0 x19_2).f1), .int .i64 ((rd_T25 l0 x19_2).f2)]) (ok := fun _ => True) (okp := fun _ => True) ?hr ?hp (fun _ hk => hk) trivial (Below.refl _ _) (Nat.le_refl _) xU ?_; (case hd => rfl); (case hg => rfl); (case hr => first | (go_simp; done) | (go_simp; rfl)); (case hp => exact (Reps.one (show Kd.M (Kd.int .i64) _ _ _ 2 [.int .i64 2] from rfl) (Reps.one (show Kd.M (Kd.int .i64) _ _ _ ((rd_T25 l0 x19_2).f1) [.int .i64 ((rd_T25 l0 x19_2).f1)] from rfl) (Reps.one (show Kd.M (Kd.int .i64) _ _ _ ((rd_T25 l0 x19_2).f2) [.int .i64 ((rd_T25 l0 x19_2).f2)] from rfl) (Reps.none _ _)))))
            intro v120 w27 ho28 hb hg_ hnew_
            clear hg_ hnew_
            (first | rw [← Ny119.out] at ho28 | (simp only [Int.reduceToNat] at ho28; rw [← Ny119.out] at ho28))
            have n0_ := mA (Kd.R_elder' (zkr HO_3) (Kd.R_base ho28) hb)
            have n1_ := mA (Kd.R_below (zkr HO_5) hb)
            have n2_ := mA (Kd.R_elder' (zkr HO117) (Kd.R_base ho28) hb)
            have n3_ := mA (Kd.R_lower (Kd.R_new' (Kd.R_new' ho28 (Kd.R_lt (zkr HO_3))) (Kd.R_lt (zkr HO117))) (below_size uQ))
            have n4_ := mA (blk_below (g := gb114) (o := .cells #[.int .i64 ((rd_T25 l0 x19_2).f0), .int .i64 ((rd_T25 l0 x19_2).f1), .int .i64 ((rd_T25 l0 x19_2).f2), .int .i64 ((rd_T25 l0 x19_2).f3), .int .i64 ((rd_T25 l0 x19_2).f4)] 25 (0, 0)) uX hb)
            have n5_ := mA (below_step uQ hb)
            clear HO_3 HO_5 HO117 BK114 HB
            have HO_3 := n0_
            have HO_5 := n1_
            have HO117 := n2_
            have HO121 := n3_
            have BK114 := n4_
            have HB := n5_
            clear n0_ n1_ n2_ n3_ n4_ n5_ hb ho28
            obtain ⟨Ao29, co29, eo29⟩ := Kd.R_slice HO117.out
            (first | subst eo29 | (injection eo29 with f1_ f2_ f3_; have f4_ := f1_.symm; have f5_ := f3_.symm; clear f1_ f2_ f3_; subst f4_; subst f5_))
            refine hK.out _ _ ⟨BK114.cz 0, BK114.cz 1, BK114.cz 2, BK114.cz 3, BK114.cz 4⟩ (fun hHeld => ?_)
            clear hK K
            refine zN ?_
            refine one_ (i := 7) (N := some 33) (mb 23 499711) rfl rfl (one_of HT_.out uW) uJ (fun K hK => ?_)
            refine goes_ Tryz.func56 uW rfl #[.int .u64 127, .slice Ao29 y115.length co29] (by rfl) rfl rfl uE ?_
            with_reducible refine (wheel_spun.calls k2 127 _ _ y115 t118 _ ?side1 ?side2 A15.out).mono ?_
            (case side1 => repeat (first | exact (Kd.R_reads' HO117.out).2.2 | (with_reducible refine Kd.C_alloc ?_ _) | (with_reducible refine Kd.C_drewN ?_ _) | (with_reducible refine Kd.C_drew ?_)))
            (case side2 => exact (Kd.R_reads' HO117.out).2.1)
            rintro e w30 ⟨rfl, hb⟩
            refine ⟨_, rfl, ?_⟩
            have n0_ := mA (Kd.R_below (zkr HO_3) hb)
            have n1_ := mA (Kd.R_below (zkr HO_5) hb)
            have n2_ := mA (Kd.R_below (zkr HO117) hb)
            have n3_ := mA (Kd.R_below (zkr HO121) hb)
            have n4_ := mA (blk_below (g := gb114) (o := .cells #[.int .i64 ((rd_T25 l0 x19_2).f0), .int .i64 ((rd_T25 l0 x19_2).f1), .int .i64 ((rd_T25 l0 x19_2).f2), .int .i64 ((rd_T25 l0 x19_2).f3), .int .i64 ((rd_T25 l0 x19_2).f4)] 25 (0, 0)) uX hb)
            have n5_ := mA (below_step uQ hb)
            clear HO_3 HO_5 HO117 HO121 BK114 HB
            have HO_3 := n0_
            have HO_5 := n1_
            have HO117 := n2_
            have HO121 := n3_
            have BK114 := n4_
            have HB := n5_
            clear n0_ n1_ n2_ n3_ n4_ n5_ hb
            refine hK.out _ _ ⟨BK114.cz 0, BK114.cz 1, BK114.cz 2, BK114.cz 3, BK114.cz 4⟩ (fun hHeld => ?_)
            clear hK K
            refine zN ?_
            exact norm_ xR (hCont (.slice Ao29 y115.length co29, v120) _ ⟨hHeld, xL, xM, vW, (zkr HO_5), uX, uQ⟩)
          ·skip
           refine Kd.R_lit_step (Kd.int .i64) _ 3 ?hg (N := 38) ?hd (xs := ([2, (rd_T25 l0 x19_2).f1, (rd_T25 l0 x19_2).f2] : List Int)) (inner := [.int .i64 2, .int .i64 ((rd_T25 l0 x19_2).f1), .int .i64 ((rd_T25 l0 x19_2).f2)]) (ok := fun _ => True) (okp := fun _ => True) ?hr ?hp (fun _ hk => hk) trivial (Below.refl _ _) (Nat.le_refl _) xU ?_; (case hd => rfl); (case hg => rfl); (case hr => first | (go_simp; done) | (go_simp; rfl)); (case hp => exact (Reps.one (show Kd.M (Kd.int .i64) _ _ _ 2 [.int .i64 2] from rfl) (Reps.one (show Kd.M (Kd.int .i64) _ _ _ ((rd_T25 l0 x19_2).f1) [.int .i64 ((rd_T25 l0 x19_2).f1)] from rfl) (Reps.one (show Kd.M (Kd.int .i64) _ _ _ ((rd_T25 l0 x19_2).f2) [.int .i64 ((rd_T25 l0 x19_2).f2)] from rfl) (Reps.none _ _)))))
           intro v120 w25 ho26 hb hg_ hnew_
           clear hg_ hnew_
           (first | rw [← Ny119.out] at ho26 | (simp only [Int.reduceToNat] at ho26; rw [← Ny119.out] at ho26))
           have n0_ := mA (Kd.R_elder' (zkr HO_3) (Kd.R_base ho26) hb)
           have n1_ := mA (Kd.R_below (zkr HO_5) hb)
           have n2_ := mA (Kd.R_lower (Kd.R_new' ho26 (Kd.R_lt (zkr HO_3))) (below_size uQ))
           have n3_ := mA (blk_below (g := gb114) (o := .cells #[.int .i64 ((rd_T25 l0 x19_2).f0), .int .i64 ((rd_T25 l0 x19_2).f1), .int .i64 ((rd_T25 l0 x19_2).f2), .int .i64 ((rd_T25 l0 x19_2).f3), .int .i64 ((rd_T25 l0 x19_2).f4)] 25 (0, 0)) uX hb)
           have n4_ := mA (below_step uQ hb)
           clear HO_3 HO_5 BK114 HB
           have HO_3 := n0_
           have HO_5 := n1_
           have HO121 := n2_
           have BK114 := n3_
           have HB := n4_
           clear n0_ n1_ n2_ n3_ n4_ hb ho26
           refine hK.out _ _ ⟨BK114.cz 0, BK114.cz 1, BK114.cz 2, BK114.cz 3, BK114.cz 4⟩ (fun hHeld => ?_)
           clear hK K
           refine zN ?_
           refine one_ (i := 6) (N := some 32) (mb 23 499583) rfl rfl (one_of HT_.out uW) uJ (fun K hK => ?_)
           refine Kd.R_lit_step (Kd.int .i64) _ 3 ?hg (N := 32) ?hd (xs := ([1, (rd_T25 l0 x19_2).f1, (rd_T25 l0 x19_2).f2] : List Int)) (inner := [.int .i64 1, .int .i64 ((rd_T25 l0 x19_2).f1), .int .i64 ((rd_T25 l0 x19_2).f2)]) (ok := fun _ => True) (okp := fun _ => True) ?hr ?hp (fun _ hk => hk) trivial (Below.refl _ _) (Nat.le_refl _) xU ?_; (case hd => rfl); (case hg => rfl); (case hr => first | (go_simp; done) | (go_simp; rfl)); (case hp => exact (Reps.one (show Kd.M (Kd.int .i64) _ _ _ 1 [.int .i64 1] from rfl) (Reps.one (show Kd.M (Kd.int .i64) _ _ _ ((rd_T25 l0 x19_2).f1) [.int .i64 ((rd_T25 l0 x19_2).f1)] from rfl) (Reps.one (show Kd.M (Kd.int .i64) _ _ _ ((rd_T25 l0 x19_2).f2) [.int .i64 ((rd_T25 l0 x19_2).f2)] from rfl) (Reps.none _ _)))))
           intro v116 w27 ho28 hb hg_ hnew_
           clear hg_ hnew_
           (first | rw [← Ny115.out] at ho28 | (simp only [Int.reduceToNat] at ho28; rw [← Ny115.out] at ho28))
           have n0_ := mA (Kd.R_elder' (zkr HO_3) (Kd.R_base ho28) hb)
           have n1_ := mA (Kd.R_below (zkr HO_5) hb)
           have n2_ := mA (Kd.R_elder' (zkr HO121) (Kd.R_base ho28) hb)
           have n3_ := mA (Kd.R_lower (Kd.R_new' (Kd.R_new' ho28 (Kd.R_lt (zkr HO_3))) (Kd.R_lt (zkr HO121))) (below_size uQ))
           have n4_ := mA (blk_below (g := gb114) (o := .cells #[.int .i64 ((rd_T25 l0 x19_2).f0), .int .i64 ((rd_T25 l0 x19_2).f1), .int .i64 ((rd_T25 l0 x19_2).f2), .int .i64 ((rd_T25 l0 x19_2).f3), .int .i64 ((rd_T25 l0 x19_2).f4)] 25 (0, 0)) uX hb)
           have n5_ := mA (below_step uQ hb)
           clear HO_3 HO_5 HO121 BK114 HB
           have HO_3 := n0_
           have HO_5 := n1_
           have HO121 := n2_
           have HO117 := n3_
           have BK114 := n4_
           have HB := n5_
           clear n0_ n1_ n2_ n3_ n4_ n5_ hb ho28
           obtain ⟨Ao29, co29, eo29⟩ := Kd.R_slice HO117.out
           (first | subst eo29 | (injection eo29 with f1_ f2_ f3_; have f4_ := f1_.symm; have f5_ := f3_.symm; clear f1_ f2_ f3_; subst f4_; subst f5_))
           refine hK.out _ _ ⟨BK114.cz 0, BK114.cz 1, BK114.cz 2, BK114.cz 3, BK114.cz 4⟩ (fun hHeld => ?_)
           clear hK K
           refine zN ?_
           refine one_ (i := 7) (N := some 33) (mb 23 499711) rfl rfl (one_of HT_.out uW) uJ (fun K hK => ?_)
           refine goes_ Tryz.func56 uW rfl #[.int .u64 127, .slice Ao29 y115.length co29] (by rfl) rfl rfl uE ?_
           with_reducible refine (wheel_spun.calls k2 127 _ _ y115 t118 _ ?side1 ?side2 A15.out).mono ?_
           (case side1 => repeat (first | exact (Kd.R_reads' HO117.out).2.2 | (with_reducible refine Kd.C_alloc ?_ _) | (with_reducible refine Kd.C_drewN ?_ _) | (with_reducible refine Kd.C_drew ?_)))
           (case side2 => exact (Kd.R_reads' HO117.out).2.1)
           rintro e w30 ⟨rfl, hb⟩
           refine ⟨_, rfl, ?_⟩
           have n0_ := mA (Kd.R_below (zkr HO_3) hb)
           have n1_ := mA (Kd.R_below (zkr HO_5) hb)
           have n2_ := mA (Kd.R_below (zkr HO121) hb)
           have n3_ := mA (Kd.R_below (zkr HO117) hb)
           have n4_ := mA (blk_below (g := gb114) (o := .cells #[.int .i64 ((rd_T25 l0 x19_2).f0), .int .i64 ((rd_T25 l0 x19_2).f1), .int .i64 ((rd_T25 l0 x19_2).f2), .int .i64 ((rd_T25 l0 x19_2).f3), .int .i64 ((rd_T25 l0 x19_2).f4)] 25 (0, 0)) uX hb)
           have n5_ := mA (below_step uQ hb)
           clear HO_3 HO_5 HO121 HO117 BK114 HB
           have HO_3 := n0_
           have HO_5 := n1_
           have HO121 := n2_
           have HO117 := n3_
           have BK114 := n4_
           have HB := n5_
           clear n0_ n1_ n2_ n3_ n4_ n5_ hb
           refine hK.out _ _ ⟨BK114.cz 0, BK114.cz 1, BK114.cz 2, BK114.cz 3, BK114.cz 4⟩ (fun hHeld => ?_)
           clear hK K
           refine zN ?_
           exact norm_ xR (hCont (.slice Ao29 y115.length co29, v120) _ ⟨hHeld, xL, xM, (by (with_reducible repeat (first | apply Kd.R_alloc | apply Kd.R_drewN | apply Kd.R_drew)); exact Kd.R_mono HO_3.out (fun _ hk => ⟨hk.2, hk.1.2⟩)), (zkr HO_5), uX, uQ⟩)
         rintro ⟨v116, v120⟩ w31 ⟨hS_, h0_, h1_, h2_, h3_, h4_, h5_⟩
         have HO117 : Aside0 (Kd.R (Kd.int .i64) 3 w31 w.heap.size (fun k_ => some k_ ≠ (v120 : Value).ownBlock ∧ some k_ ≠ ((.slice (some ⟨gw, 0, none⟩) 127 127) : Value).ownBlock) v116 y115) := ⟨h0_⟩
         have HO121 : Aside0 (Kd.R (Kd.int .i64) 3 w31 w.heap.size (fun k_ => some k_ ≠ (v116 : Value).ownBlock ∧ some k_ ≠ ((.slice (some ⟨gw, 0, none⟩) 127 127) : Value).ownBlock) v120 y119) := ⟨h1_⟩
         replace HO_3 : Aside0 (Kd.R (Kd.int .i64) 114 w31 w.heap.size (fun k_ => some k_ ≠ (v116 : Value).ownBlock ∧ some k_ ≠ (v120 : Value).ownBlock) (.slice (some ⟨gw, 0, none⟩) 127 127) x3_1) := ⟨h2_⟩
         replace HO_5 : Aside0 (Kd.R k64 118 w31 w.heap.size (fun _ => True) (.slice Ao22 x5_2.length co22) x5_2) := ⟨h3_⟩
         replace BK114 : Aside0 (w31.heap[gb114]? = some (.cells #[.int .i64 ((rd_T25 l0 x19_2).f0), .int .i64 ((rd_T25 l0 x19_2).f1), .int .i64 ((rd_T25 l0 x19_2).f2), .int .i64 ((rd_T25 l0 x19_2).f3), .int .i64 ((rd_T25 l0 x19_2).f4)] 25 (0, 0))) := ⟨h4_⟩
         replace HB : Aside0 (Below w.heap.size w w31) := ⟨h5_⟩
         clear h0_ h1_ h2_ h3_ h4_ h5_
         have hHeld : w31.cell? ⟨gb114, 0, none⟩ = some (.int .i64 ((rd_T25 l0 x19_2).f0)) ∧ w31.cell? ⟨gb114, 1, none⟩ = some (.int .i64 ((rd_T25 l0 x19_2).f1)) ∧ w31.cell? ⟨gb114, 2, none⟩ = some (.int .i64 ((rd_T25 l0 x19_2).f2)) ∧ w31.cell? ⟨gb114, 3, none⟩ = some (.int .i64 ((rd_T25 l0 x19_2).f3)) ∧ w31.cell? ⟨gb114, 4, none⟩ = some (.int .i64 ((rd_T25 l0 x19_2).f4)) := hS_
         obtain ⟨Ao32, co32, eo32⟩ := Kd.R_slice HO121.out
         (first | subst eo32 | (injection eo32 with f1_ f2_ f3_; have f4_ := f1_.symm; have f5_ := f3_.symm; clear f1_ f2_ f3_; subst f4_; subst f5_))
         refine norm_ (a' := ?_) ?_ ?_
         rotate_left
         ·exact zK
         refine one_ (i := 13) (N := some 39) (mb 23 507903) rfl rfl (one_of HT_.out uW) uJ (fun K hK => ?_)
         refine goes_ Tryz.func56 uW rfl #[.int .u64 126, .slice Ao32 y119.length co32] (by rfl) rfl rfl uE ?_
         with_reducible refine (wheel_spun.calls k2 126 _ _ y119 t122 _ ?side1 ?side2 A16.out).mono ?_
         (case side1 => repeat (first | exact (Kd.R_reads' HO121.out).2.2 | (with_reducible refine Kd.C_alloc ?_ _) | (with_reducible refine Kd.C_drewN ?_ _) | (with_reducible refine Kd.C_drew ?_)))
         (case side2 => exact (Kd.R_reads' HO121.out).2.1)
         rintro e w33 ⟨rfl, hb⟩
         refine ⟨_, rfl, ?_⟩
         have n0_ := mA (Kd.R_below (zkr HO_3) hb)
         have n1_ := mA (Kd.R_below (zkr HO_5) hb)
         have n2_ := mA (Kd.R_below (zkr HO117) hb)
         have n3_ := mA (Kd.R_below (zkr HO121) hb)
         have n4_ := mA (blk_below (g := gb114) (o := .cells #[.int .i64 ((rd_T25 l0 x19_2).f0), .int .i64 ((rd_T25 l0 x19_2).f1), .int .i64 ((rd_T25 l0 x19_2).f2), .int .i64 ((rd_T25 l0 x19_2).f3), .int .i64 ((rd_T25 l0 x19_2).f4)] 25 (0, 0)) uX hb)
         have n5_ := mA (below_step uQ hb)
         clear HO_3 HO_5 HO117 HO121 BK114 HB
         have HO_3 := n0_
         have HO_5 := n1_
         have HO117 := n2_
         have HO121 := n3_
         have BK114 := n4_
         have HB := n5_
         clear n0_ n1_ n2_ n3_ n4_ n5_ hb
         refine hK.out _ _ ⟨BK114.cz 0, BK114.cz 1, BK114.cz 2, BK114.cz 3, BK114.cz 4⟩ (fun hHeld => ?_)
         clear hK K
         refine zN ?_
         refine zP 14 40 (tf 19 4) ?_
         refine zP 19 45 (tf 20 3) ?_
         refine one_ (i := 20) (N := some 46) (tf 21 2) rfl rfl (one_of HT_.out uW) uJ (fun K hK => ?_)
         refine value_ (w1 := ?_) (v := ?_) (by rfl) rfl ?_ ?_
         rotate_left 2
         ·go_simp
          constructor
          ·rfl
          ·rfl
         refine hK.out _ _ ⟨(blk_cell (blk_alloc BK114.out _) 0).trans rfl, (blk_cell (blk_alloc BK114.out _) 1).trans rfl, (blk_cell (blk_alloc BK114.out _) 2).trans rfl, (blk_cell (blk_alloc BK114.out _) 3).trans rfl, (blk_cell (blk_alloc BK114.out _) 4).trans rfl⟩ (fun hHeld => ?_)
         clear hK K
         refine zN ?_
         refine one_ (i := 21) (N := some 47) (tf 22 1) rfl rfl (one_of HT_.out uW) uJ (fun K hK => ?_)
         refine Kd.R_append_step k64 (w0 := w) w.heap.size (by rfl) (.tmp 26) (.tmp 46) 115 118 (.agg #[(.int .i64 0), (.int .i64 0), (.int .i64 0), (.int .i64 0)]) 32 rfl Tryz.underlying115 info64 rfl uJ uY (.slice Ao22 x5_2.length co22) x5_2 (⟨x19_2, t118, wrap64 (1 + t122), ji18⟩ : S64) [.int .i64 x19_2, .int .i64 t118, .int .i64 (wrap64 (1 + t122)), .int .i64 ji18] (fun _ => True) (fun _ => False) rfl rfl ?aP (fun _ hk => hk.elim) ?aF ?aO ?aB ?aS ?aL ?_
         (case aP => exact k64_mkM _ _ _ (⟨x19_2, t118, wrap64 (1 + t122), ji18⟩ : S64))
         (case aB => exact uQ)
         (case aF => exact (fun _ _ => trivial))
         (case aO => exact (zkr HO_5))
         (case aS => exact (below_size uQ))
         (case aL => have := LMc19.out; omega)
         intro v124 w34 ho hb hg hat
         rw [← Ny123.out] at ho
         have n0_ := mA (Kd.R_over' (zkr HO_3) (Kd.R_typed (zkr HO_5)) uJ hg)
         have n1_ := mA (blk_grown (g := gb114) (o := .cells #[.int .i64 ((rd_T25 l0 x19_2).f0), .int .i64 ((rd_T25 l0 x19_2).f1), .int .i64 ((rd_T25 l0 x19_2).f2), .int .i64 ((rd_T25 l0 x19_2).f3), .int .i64 ((rd_T25 l0 x19_2).f4)] 25 (0, 0)) uX hg (Kd.R_ne HO_5.out BK114.out uJ))
         have n2_ := mA (Kd.R_over' (zkr HO117) (Kd.R_typed (zkr HO_5)) uJ hg)
         have n3_ := mA (Kd.R_over' (zkr HO121) (Kd.R_typed (zkr HO_5)) uJ hg)
         have n4_ := mA (hb)
         have n5_ := mA (ho)
         clear HO_3 BK114 HO117 HO121 HB HO_5
         have HO_3 := n0_
         have BK114 := n1_
         have HO117 := n2_
         have HO121 := n3_
         have HB := n4_
         have HO125 := n5_
         clear n0_ n1_ n2_ n3_ n4_ n5_ ho hb hg hat
         refine hK.out _ _ ⟨BK114.cz 0, BK114.cz 1, BK114.cz 2, BK114.cz 3, BK114.cz 4⟩ (fun hHeld => ?_)
         clear hK K
         refine zN ?_
         refine zP 22 5 (tf 23 0) ?_
         refine done_ (done_of HT_.out uW) ?_
         try go_wp2
         go_roundg k2
         case measure => have := HK1.out; have := HK2.out; omega
         case rel => exact ⟨(y123), (wrap64 (x19_2 + 1)), uN, H', ⟨by have := HK1.out; have := HK2.out; omega⟩, ⟨by (with_reducible repeat (first | apply Kd.R_alloc | apply Kd.R_drewN | apply Kd.R_drew)); exact Kd.R_mono HO_3.out (fun _ hk => trivial)⟩, ⟨by (with_reducible repeat (first | apply Kd.R_alloc | apply Kd.R_drewN | apply Kd.R_drew)); exact HO125.out⟩, ⟨yI⟩⟩
        ·rw [if_neg c14] at H
         have c14b0 : (((rd_T25 l0 x19_2).f0) == 2) = false := beq_eq_false_iff_ne.mpr c14
         have c14b1 : (((rd_T25 l0 x19_2).f0) != 2) = true := bne_iff_ne.mpr c14
         have H' := mA H
         clear H
         have p113 : 0 ≤ (x19_2 : Int) := of_decide_eq_true uV
         have q113 : x19_2 < (l0.length : Int) := of_decide_eq_true uV
         obtain ⟨ad113, e113, hx113_0, hx113_1, hx113_2, hx113_3, hx113_4⟩ := at_T25 HR0.out x19_2 p113 q113
         cases e113
         replace hx113_0 := (HB.out.cell (World.block_lt_of_cell? w _ hx113_0)).trans hx113_0
         replace hx113_1 := (HB.out.cell (World.block_lt_of_cell? w _ hx113_1)).trans hx113_1
         replace hx113_2 := (HB.out.cell (World.block_lt_of_cell? w _ hx113_2)).trans hx113_2
         replace hx113_3 := (HB.out.cell (World.block_lt_of_cell? w _ hx113_3)).trans hx113_3
         replace hx113_4 := (HB.out.cell (World.block_lt_of_cell? w _ hx113_4)).trans hx113_4
         replace p113 := eq_true p113
         replace q113 := eq_true q113
         have hix := index26 l0 HL0.out x19_2 (of_eq_true p113) (by have h1_ := of_eq_true q113; have h2_ := HL0.out; omega)
         go_wp2_with (first | (refine zX 7 #[.int .i64 0, .int .i64 0, .int .i64 0, .int .i64 0, .int .i64 0] 25 ?_; clear HB; intro gb114 w35 BK114 HB GE114 hb hg; replace HO_3 := mA (Kd.R_below (zkr HO_3) hb); replace HO_5 := mA (Kd.R_below (zkr HO_5) hb); clear hb hg; obtain ⟨hcz36_0, hcz36_1, hcz36_2, hcz36_3, hcz36_4⟩ := bk5 BK114.out; have hfz36_0 := BK114.fz 0; have hfz36_1 := BK114.fz 1; have hfz36_2 := BK114.fz 2; have hfz36_3 := BK114.fz 3; have hfz36_4 := BK114.fz 4))
         go_roundg k2
         case measure => have := HK1.out; have := HK2.out; omega
         case rel => exact ⟨(x5_2), (wrap64 (x19_2 + 1)), uN, H', ⟨by have := HK1.out; have := HK2.out; omega⟩, ⟨qQ⟩, ⟨qJ⟩, ⟨yI⟩⟩
       ·rw [if_neg c11] at H
        have c11b0 := decide_eq_false c11
        clear c11
        have HC37 := mA H
        clear H
        obtain ⟨Ao38, co38, eo38⟩ := Kd.R_slice HO_5.out
        subst eo38
        go_upto_if 51 with (fail)
        go_cut [8] (fun v8 wc => ∃ (kq : Nat) (x8_36 : Int), v8 = .int .i64 x8_36 ∧ Aside0 (wheel_Make.j2 kq x3_1 x5_2 x8_36 = some r) ∧ Aside0 (kq ≤ k2) ∧ Aside0 (Kd.R (Kd.int .i64) 114 wc w.heap.size (fun _ => True) (.slice (some ⟨gw, 0, none⟩) 127 127) x3_1) ∧ Aside0 (Kd.R k64 118 wc w.heap.size (fun _ => True) (.slice Ao38 x5_2.length co38) x5_2) ∧ Aside0 (Below w.heap.size w wc))
        case first =>
         have H := HC37.out
         clear HC37
         by_cases c39 : (x5_2.length : Int) = 0
         ·rw [if_pos c39] at H
          have c39b0 : ((x5_2.length : Int) == 0) = true := beq_iff_eq.mpr c39
          have c39b1 : ((x5_2.length : Int) != 0) = false := bne_eq_false_iff_eq.mpr c39
          clear c39
          (first | rw [c39b0] | (simp only [i64_w, i32_w]; rw [c39b0]) | skip)
          have H' := mA H
          clear H
          go_wp2
          go_meet
          case rel => exact ⟨_, (0), uN, H', ⟨by have := HK1.out; have := HK2.out; first | omega | exact Nat.le_refl _⟩, ⟨qG⟩, ⟨qA⟩, ⟨yI⟩⟩
         ·rw [if_neg c39] at H
          have c39b0 : ((x5_2.length : Int) == 0) = false := beq_eq_false_iff_ne.mpr c39
          have c39b1 : ((x5_2.length : Int) != 0) = true := bne_iff_ne.mpr c39
          have c39b2 : ¬ (x5_2 = []) := fun h_ => c39 (by rw [h_]; rfl)
          (first | rw [c39b0] | (simp only [i64_w, i32_w]; rw [c39b0]) | skip)
          have H' := mA H
          clear H
          go_wp2
          go_meet
          case rel => exact ⟨_, (127), uN, H', ⟨by have := HK1.out; have := HK2.out; first | omega | exact Nat.le_refl _⟩, ⟨qG⟩, ⟨qA⟩, ⟨yI⟩⟩
        case rest =>
         clear HC37 c11b0
         obtain ⟨kq, x8_36, rfl, HA, HJ36, HO_3, HO_5, HB⟩ := hcut
         cases kq with
         | zero => exact absurd HA.out (by simp [wheel_Make.j2])
         | succ kj36 =>
          have H := HA.out
          clear HA
          simp only [wheel_Make.j2] at H
          have H' := mA H
          clear H
          go_wp2
          refine wp_label ?_
          go_wp2
          go_loopg [8] kj36 (fun kq v8 w' => ∃ (x3_4 : List Int) (x5_4 : List (S64)) (x8_4 : Int), v8 = .int .i64 x8_4 ∧ Aside0 (wheel_Make.l2 kq x3_4 x5_4 x8_4 = some r) ∧ Aside0 (kq ≤ kj36) ∧ Aside0 (Kd.R (Kd.int .i64) 114 w' w.heap.size (fun _ => True) (.slice (some ⟨gw, 0, none⟩) 127 127) x3_4) ∧ Aside0 (Kd.R k64 118 w' w.heap.size (fun _ => True) (.slice Ao38 x5_2.length co38) x5_4) ∧ Aside0 (Below w.heap.size w w'))
          case atStart => exact ⟨(x3_1), (x5_2), (x8_36), uN, H', ⟨Nat.le_refl _⟩, ⟨qG⟩, ⟨qA⟩, ⟨yI⟩⟩
          case round =>
           clear H'
           obtain ⟨x3_4, x5_4, x8_4, rfl, HA, HK4, HO_3, HO_5, HB⟩ := hrel
           have hl5_4 := (Kd.R_reads' HO_5.out).1
           rw [hl5_4] at HO_5
           (try simp only [hl5_4])
           (try simp only [hl5_4] at HO_3)
           cases gk with
           | zero => exact absurd HA.out (by simp [wheel_Make.l2])
           | succ k4 =>
            have H := HA.out
            clear HA
            simp only [wheel_Make.l2] at H
            by_cases c40 : x8_4 > 0
            ·rw [if_pos c40] at H
             have c40b0 : decide (0 < x8_4) = true := decide_eq_true c40
             clear c40
             have H' := mA H
             clear H
             go_wp2
             go_loopg [8, 56] k4 (fun kq v8 v56 w' => ∃ (x3_5 : List Int) (x5_5 : List (S64)) (x8_5 : Int) (x56_5 : Int), v8 = .int .i64 x8_5 ∧ v56 = .int .i64 x56_5 ∧ Aside0 (wheel_Make.l3 kq x3_5 x5_5 x8_5 (x5_4.length : Int) x56_5 = some r) ∧ Aside0 (kq ≤ k4) ∧ Aside0 (Kd.R (Kd.int .i64) 114 w' w.heap.size (fun _ => True) (.slice (some ⟨gw, 0, none⟩) 127 127) x3_5) ∧ Aside0 (Kd.R k64 118 w' w.heap.size (fun _ => True) (.slice Ao38 x5_4.length co38) x5_5) ∧ Aside0 (Below w.heap.size w w'))
             case atStart => exact ⟨(x3_4), (x5_4), (x8_4), (0), uN, uN, H', ⟨Nat.le_refl _⟩, ⟨by (try simp only [hl5_4]); (with_reducible repeat (first | apply Kd.R_alloc | apply Kd.R_drewN | apply Kd.R_drew)); exact HO_3.out⟩, ⟨by (try simp only [hl5_4]); (with_reducible repeat (first | apply Kd.R_alloc | apply Kd.R_drewN | apply Kd.R_drew)); exact HO_5.out⟩, ⟨yI⟩⟩
             case round =>
              clear H' c40b0
              obtain ⟨x3_5, x5_5, x8_5, x56_5, rfl, rfl, HA, HK5, HO_3, HO_5, HB⟩ := hrel
              have hl5_5 := (Kd.R_reads' HO_5.out).1
              rw [hl5_5] at HO_5
              (try simp only [hl5_5])
              (try simp only [hl5_5] at HO_3)
              cases gk with
              | zero => exact absurd HA.out (by simp [wheel_Make.l3])
              | succ k5 =>
               have H := HA.out
               clear HA
               simp only [wheel_Make.l3] at H
               by_cases c41 : x56_5 < (x5_4.length : Int)
               ·rw [if_pos c41] at H
                have c41b0 := decide_eq_true c41
                clear c41
                obtain ⟨c42, H⟩ := zif H
                have c42b0 := decide_eq_true c42
                clear c42
                obtain ⟨c43, H⟩ := zif H
                have c43b0 := decide_eq_true c43
                clear c43
                have H' := mA H
                clear H
                have p126 : 0 ≤ (x56_5 : Int) := of_decide_eq_true uV
                have q126 : x56_5 < (x5_5.length : Int) := of_decide_eq_true uV
                obtain ⟨ad126, e126, hx126_0, hx126_1, hx126_2, hx126_3⟩ := at_T64 (Kd.R_reads' HO_5.out).2.2 x56_5 p126 q126
                cases e126
                replace p126 := eq_true p126
                replace q126 := eq_true q126
                go_wp2
                go_loopg [8, 64] k5 (fun kq v8 v64 w' => ∃ (x3_6 : List Int) (x5_6 : List (S64)) (x8_6 : Int) (x64_6 : Int), v8 = .int .i64 x8_6 ∧ v64 = .int .i64 x64_6 ∧ Aside0 (wheel_Make.l4 kq x3_6 x5_6 x8_6 x56_5 (x5_4.length : Int) x56_5 ((rd_T64 x5_5 x56_5).f3) x64_6 = some r) ∧ Aside0 (kq ≤ k5) ∧ Aside0 (Kd.R (Kd.int .i64) 114 w' w.heap.size (fun _ => True) (.slice (some ⟨gw, 0, none⟩) 127 127) x3_6) ∧ Aside0 (Kd.R k64 118 w' w.heap.size (fun _ => True) (.slice (some ad126) x5_5.length co38) x5_6) ∧ Aside0 (Below w.heap.size w w'))
                case atStart => exact ⟨(x3_5), (x5_5), (x8_5), (0), uN, uN, H', ⟨Nat.le_refl _⟩, ⟨qO⟩, ⟨kZ⟩, ⟨yI⟩⟩
                case round =>
                 clear H' c41b0 c42b0 c43b0 hx126_0 hx126_1 hx126_2 hx126_3 p126 q126
                 obtain ⟨x3_6, x5_6, x8_6, x64_6, rfl, rfl, HA, HK6, HO_3, HO_5, HB⟩ := hrel
                 have hl5_6 := (Kd.R_reads' HO_5.out).1
                 rw [hl5_6] at HO_5
                 (try simp only [hl5_6])
                 (try simp only [hl5_6] at HO_3)
                 cases gk with
                 | zero => exact absurd HA.out (by simp [wheel_Make.l4])
                 | succ k6 =>
                  have H := HA.out
                  clear HA
                  simp only [wheel_Make.l4] at H
                  by_cases c44 : x64_6 < ((rd_T64 x5_5 x56_5).f3)
                  ·rw [if_pos c44] at H
                   have c44b0 := decide_eq_true c44
                   clear c44
                   by_cases c45 : x8_6 = 0
                   ·rw [if_pos c45] at H
                    have c45b0 : (x8_6 == 0) = true := beq_iff_eq.mpr c45
                    have c45b1 : (x8_6 != 0) = false := bne_eq_false_iff_eq.mpr c45
                    clear c45
                    obtain rfl := Option.some.inj H
                    have hs60 := slice60 gw
                    go_wp2_with (first | ((with_reducible refine gate_builtin (b := .append) (xs := #[.const (.slice none 0 0), .tmp 111]) rfl ?_); at_builtin; refine Kd.R_append_rows (Kd.int .i64) (w0 := w) w.heap.size rfl (.const (.slice none 0 0)) (.tmp 111) 22 3 (.int .i64 0) 8 rfl Tryz.underlying22 info3 rfl uJ uY (.slice none 0 0) ([] : List Int) x3_6 _ _ _ (fun _ => True) (fun _ => False) rfl rfl ?aO ?aR (fun _ _ h => h) (fun _ h => h.elim) ?aF ?aB ?aS ?aL ?_; (case aR => exact c127 HO_3.out); (case aB => exact uQ); (case aF => exact (fun _ _ => trivial)); (case aO => exact Kd.R_nil _ _ _ _ _); (case aS => exact (below_size uQ)); (case aL => decide); intro v2 w2 ho hb hg hat; have HO2 := mA ho; have HB2 := mA hb; clear ho hb hg hat))
                    go_ret
                    exact yC
                   ·rw [if_neg c45] at H
                    have c45b0 : (x8_6 == 0) = false := beq_eq_false_iff_ne.mpr c45
                    have c45b1 : (x8_6 != 0) = true := bne_iff_ne.mpr c45
                    obtain ⟨y127, hy127⟩ : ∃ y_ : List Int, y_ = (([] : List Int)) := ⟨_, rfl⟩
                    replace H : (if y127.length + x3_6.length < 17592186044416 then (wheel_Make.l5 k6 x3_6 x5_6 x8_6 x56_5 (y127 ++ x3_6) (x5_4.length : Int) x56_5 ((rd_T64 x5_5 x56_5).f3) x64_6) else (none)) = some r := zyy hy127 H
                    have Ny127 := mA hy127
                    clear hy127
                    obtain ⟨c46, H⟩ := zif H
                    have LMc46 := mA c46
                    clear c46
                    obtain ⟨y130, hy130⟩ : ∃ y_ : List Int, y_ = (y127 ++ x3_6) := ⟨_, rfl⟩
                    replace H : (wheel_Make.l5 k6 x3_6 x5_6 x8_6 x56_5 y130 (x5_4.length : Int) x56_5 ((rd_T64 x5_5 x56_5).f3) x64_6) = some r := zyy hy130 H
                    have Ny130 := mA hy130
                    clear hy130
                    have H' := mA H
                    clear H
                    go_wp2
                    refine wp_ld60 (x := .tmp 3) rfl rfl HO_3.out ?_
                    go_wp2_with (first | ((with_reducible refine zd 10 ?_); refine box_event ?hg (N := 10) ?hd (cs := Array.replicate 127 (.int .i64 0)) (t := 114) ?hr ?_; (case hd => rfl); (case hg => rfl); (case hr => exact run60 _ _ _ rfl); intro gq hgq w47 hbox hb; have ho48 := arr_R hbox (Nat.le_of_eq hgq.symm) uJ; clear hgq hbox; replace HO_5 := mA (Kd.R_below (zkr HO_5) hb); have HO129 := mA (Kd.R_lower (Kd.R_new' ho48 (Kd.R_lt (zkr HO_3))) (below_size uQ)); replace HO_3 := mA (Kd.R_elder' (zkr HO_3) (Kd.R_base ho48) hb); replace HB := mA (below_step uQ hb); clear hb ho48) | ((with_reducible refine zst 114 10 ?_); have hpa_ := put_allA HO129.out (new := x3_6) (by have h_ := (Kd.R_reads' HO_3.out).1; omega) uJ; refine store_event (t := 114) (p := 10) (v := (.tmp 68)) (w1 := (w47.setRow gq (ints x3_6))) ?hg ?ho ?hn ?hr ?_; (case ho => rfl); (case hg => rfl); (case hn => rfl); (case hr => exact run_put60 _ _ _ 10 68 gq _ _ _ x3_6 rfl rfl rfl HO129.out (by have h_ := (Kd.R_reads' HO_3.out).1; omega)); intro w49 hw; have ho := Kd.R_mono hpa_.1 (fun _ hk => hk.2); have hg : w47.grownBy w49 ((.slice (some ⟨gq, 0, none⟩) 127 127) : Value).ownBlock := (by rw [hw]; exact hpa_.2); rw [← hw] at ho; clear hpa_ hw; have hat : ((.slice (some ⟨gq, 0, none⟩) 127 127) : Value).ownBlock = ((.slice (some ⟨gq, 0, none⟩) 127 127) : Value).ownBlock ∨ ∃ b, ((.slice (some ⟨gq, 0, none⟩) 127 127) : Value).ownBlock = some b ∧ w47.heap.size ≤ b := .inl rfl; have hb : Below w.heap.size w w49 := HB.out.grown hg (below_size HB.out) (fun k hk => by injection hk with hk; subst hk; exact (arr_block HO129.out).1); rw [show x3_6 = y130 from by rw [Ny130.out, Ny127.out]; rfl] at ho; replace HO_3 := mA (Kd.R_after (ok := (fun _ => True)) (zkr HO_3) hg hat); replace HO_5 := mA (Kd.R_over' (zkr HO_5) (Kd.R_typed (zkr HO129)) uJ hg); replace HB := mA (hb); have HO132 := mA (ho); clear HO129 ho hb hg hat))
                    go_loopg [] k6 (fun kq w' => ∃ (x5_7 : List (S64)), Aside0 (wheel_Make.l5 kq x3_6 x5_7 x8_6 x56_5 y130 (x5_4.length : Int) x56_5 ((rd_T64 x5_5 x56_5).f3) x64_6 = some r) ∧ Aside0 (kq ≤ k6) ∧ Aside0 (Kd.R (Kd.int .i64) 114 w' w.heap.size (fun k_ => some k_ ≠ ((.slice (some ⟨gq, 0, none⟩) 127 127) : Value).ownBlock) (.slice (some ⟨gw, 0, none⟩) 127 127) x3_6) ∧ Aside0 (Kd.R k64 118 w' w.heap.size (fun _ => True) (.slice (some ad126) x5_6.length co38) x5_7) ∧ Aside0 (Kd.R (Kd.int .i64) 114 w' w.heap.size (fun k_ => some k_ ≠ ((.slice (some ⟨gw, 0, none⟩) 127 127) : Value).ownBlock) (.slice (some ⟨gq, 0, none⟩) 127 127) y130) ∧ Aside0 (Below w.heap.size w w'))
                    case atStart => exact ⟨(x5_6), H', ⟨Nat.le_refl _⟩, ⟨by (try simp only [hl5_4]); (try simp only [hl5_5]); (try simp only [hl5_6]); (with_reducible repeat (first | apply Kd.R_alloc | apply Kd.R_drewN | apply Kd.R_drew)); exact Kd.R_mono HO_3.out (fun _ hk => hk.2)⟩, ⟨qP⟩, ⟨by (try simp only [hl5_4]); (try simp only [hl5_5]); (try simp only [hl5_6]); (with_reducible repeat (first | apply Kd.R_alloc | apply Kd.R_drewN | apply Kd.R_drew)); exact HO132.out⟩, ⟨yI⟩⟩
                    case round =>
                     clear H' c44b0 c45 c45b0 c45b1
                     obtain ⟨x5_7, HA, HK7, HO_3, HO_5, HO_10, HB⟩ := hrel
                     have hl5_7 := (Kd.R_reads' HO_5.out).1
                     rw [hl5_7] at HO_5
                     (try simp only [hl5_7])
                     (try simp only [hl5_7] at HO_3)
                     (try simp only [hl5_7] at HO_10)
                     cases gk with
                     | zero => exact absurd HA.out (by simp [wheel_Make.l5])
                     | succ k7 =>
                      have H := HA.out
                      clear HA
                      simp only [wheel_Make.l5] at H
                      obtain ⟨c51, H⟩ := zif H
                      have c51b0 := decide_eq_true c51
                      clear c51
                      obtain ⟨c52, H⟩ := zif H
                      have c52b0 := decide_eq_true c52
                      clear c52
                      obtain ⟨c53, H⟩ := zif H
                      have c53b0 := decide_eq_true c53
                      clear c53
                      obtain ⟨c54, H⟩ := zif H
                      have c54b0 := decide_eq_true c54
                      clear c54
                      by_cases c55 : (rd x3_6 ((rd_T64 x5_7 x56_5).f1)) = (-1)
                      ·rw [if_pos c55] at H
                       have c55b0 : ((rd x3_6 ((rd_T64 x5_7 x56_5).f1)) == (-1)) = true := beq_iff_eq.mpr c55
                       have c55b1 : ((rd x3_6 ((rd_T64 x5_7 x56_5).f1)) != (-1)) = false := bne_eq_false_iff_eq.mpr c55
                       clear c55
                       obtain ⟨y137, hy137⟩ : ∃ y_ : List Int, y_ = (x3_6.set (((rd_T64 x5_7 x56_5).f1) : Int).toNat ((rd_T64 x5_7 x56_5).f0)) := ⟨_, rfl⟩
                       replace H : (if 0 < arrNe y137 y130 then (wheel_Make.l4 k7 y137 x5_7 (wrap64 (x8_6 - 1)) x56_5 (x5_4.length : Int) x56_5 ((rd_T64 x5_5 x56_5).f3) (wrap64 (x64_6 + 1))) else (wheel_Make.l4 k7 y137 x5_7 x8_6 x56_5 (x5_4.length : Int) x56_5 ((rd_T64 x5_5 x56_5).f3) (wrap64 (x64_6 + 1)))) = some r := zyy hy137 H
                       have Ny137 := mA hy137
                       clear hy137
                       by_cases c57 : 0 < arrNe y137 y130
                       ·rw [if_pos c57] at H
                        have c57b0 := decide_eq_true c57
                        have c57c : decide (y137 = y130) = false := decide_eq_false ((arrNe_pos _ _).1 c57)
                        clear c57
                        have H' := mA H
                        clear H
                        have p133 : 0 ≤ (x56_5 : Int) := of_decide_eq_true uV
                        have q133 : x56_5 < (x5_7.length : Int) := of_decide_eq_true uV
                        obtain ⟨ad133, e133, hx133_0, hx133_1, hx133_2, hx133_3⟩ := at_T64 (Kd.R_reads' HO_5.out).2.2 x56_5 p133 q133
                        obtain rfl : ad126 = ad133 := (by injection e133)
                        replace p133 := eq_true p133
                        replace q133 := eq_true q133
                        have p134 : 0 ≤ (((rd_T64 x5_7 x56_5).f1) : Int) := of_decide_eq_true uV
                        have q134 : ((rd_T64 x5_7 x56_5).f1) < (x3_6.length : Int) := of_decide_eq_true uV
                        obtain ⟨ad134, e134, hx134_0⟩ := Kd.at_int (Kd.R_reads' HO_3.out).2.2 ((rd_T64 x5_7 x56_5).f1) p134 q134
                        cases e134
                        (first | simp only [add_plain] at hx134_0 | skip)
                        replace p134 := eq_true p134
                        replace q134 := eq_true q134
                        have q134a := eq_true (show ((rd_T64 x5_7 x56_5).f1) < (127 : Int) from by have h1_ := of_eq_true q134; have h2_ := (Kd.R_reads' HO_3.out).1; omega)
                        try go_wp2
                        replace HO_3 := mA (Kd.R_drew HO_3.out)
                        replace HO_5 := mA (Kd.R_drew HO_5.out)
                        replace HO_10 := mA (Kd.R_drew HO_10.out)
                        replace HB := mA (below_drew1 HB.out)
                        have p135 : 0 ≤ (x56_5 : Int) := of_decide_eq_true uV
                        have q135 : x56_5 < (x5_7.length : Int) := of_decide_eq_true uV
                        obtain ⟨ad135, e135, hx135_0, hx135_1, hx135_2, hx135_3⟩ := at_T64 (Kd.R_reads' HO_5.out).2.2 x56_5 p135 q135
                        obtain rfl : ad126 = ad135 := (by injection e135)
                        replace p135 := eq_true p135
                        replace q135 := eq_true q135
                        have p136 : 0 ≤ (x56_5 : Int) := of_decide_eq_true uV
                        have q136 : x56_5 < (x5_7.length : Int) := of_decide_eq_true uV
                        obtain ⟨ad136, e136, hx136_0, hx136_1, hx136_2, hx136_3⟩ := at_T64 (Kd.R_reads' HO_5.out).2.2 x56_5 p136 q136
                        obtain rfl : ad126 = ad136 := (by injection e136)
                        replace p136 := eq_true p136
                        replace q136 := eq_true q136
                        have p56 : 0 ≤ (((rd_T64 x5_7 x56_5).f1) : Int) := of_decide_eq_true uV
                        have q56 : (((rd_T64 x5_7 x56_5).f1) : Int) < ((x3_6.length : Int) : Int) := of_decide_eq_true uV
                        obtain ⟨go_, co_, eo_, gb56, gl56, cl56, HG56⟩ := Kd.R_form HO_3.out uY
                        injection eo_ with ea_ en_ ec_; injection ea_ with ea_; injection ea_ with ea_; subst ea_; subst ec_; clear en_
                        have GB56 := mA gb56
                        have GG56 := mA HG56
                        clear gb56 gl56 HG56
                        (first | simp only [add_plain] at hx134_0 | skip)
                        obtain ⟨hx56_0, hf56_0⟩ := Kd.R_celln 0 HO_3.out (((rd_T64 x5_7 x56_5).f1) : Int) p56 wQ
                        replace p56 := eq_true p56
                        replace q56 := eq_true q56
                        have q56a := eq_true (show ((rd_T64 x5_7 x56_5).f1) < (127 : Int) from by have h1_ := of_eq_true q56; have h2_ := (Kd.R_reads' HO_3.out).1; omega)
                        have HP59 := Kd.R_putn HO_3.out (((rd_T64 x5_7 x56_5).f1) : Int) ((rd_T64 x5_7 x56_5).f0)
                        rw [← Ny137.out] at HP59
                        have HQ59 := mA HP59
                        clear HP59
                        refine start_ (n := 12) (S := fun w' => w'.cell? (ad126.add ((x56_5).toNat * 4)) = some (.int .i64 ((rd_T64 x5_7 x56_5).f0)) ∧ w'.cell? ⟨(ad126.add ((x56_5).toNat * 4)).block, (ad126.add ((x56_5).toNat * 4)).off + 1, none⟩ = some (.int .i64 ((rd_T64 x5_7 x56_5).f1)) ∧ w'.cell? ⟨(ad126.add ((x56_5).toNat * 4)).block, (ad126.add ((x56_5).toNat * 4)).off + 2, none⟩ = some (.int .i64 ((rd_T64 x5_7 x56_5).f2)) ∧ w'.cell? ⟨(ad126.add ((x56_5).toNat * 4)).block, (ad126.add ((x56_5).toNat * 4)).off + 3, none⟩ = some (.int .i64 ((rd_T64 x5_7 x56_5).f3)) ∧ w'.cell? (ad126.add ((x56_5).toNat * 4)) = some (.int .i64 ((rd_T64 x5_7 x56_5).f0)) ∧ w'.cell? ⟨(ad126.add ((x56_5).toNat * 4)).block, (ad126.add ((x56_5).toNat * 4)).off + 1, none⟩ = some (.int .i64 ((rd_T64 x5_7 x56_5).f1)) ∧ w'.cell? ⟨(ad126.add ((x56_5).toNat * 4)).block, (ad126.add ((x56_5).toNat * 4)).off + 2, none⟩ = some (.int .i64 ((rd_T64 x5_7 x56_5).f2)) ∧ w'.cell? ⟨(ad126.add ((x56_5).toNat * 4)).block, (ad126.add ((x56_5).toNat * 4)).off + 3, none⟩ = some (.int .i64 ((rd_T64 x5_7 x56_5).f3))) (ds := [11]) (tf 0 12) uW rfl rfl ⟨hx135_0, hx135_1, hx135_2, hx135_3, hx136_0, hx136_1, hx136_2, hx136_3⟩ (fun hHeld => ?_); refine with_tabW wheel_Make.tab27 wheel_Make.bits27 (fun HT_ HW_ => ?_)
                        generalize wr.drew = w58 at HO_3 HO_5 HO_10 HB GG56 HQ59 hf56_0 hx134_0 hx135_0 hx135_1 hx135_2 hx135_3 hx136_0 hx136_1 hx136_2 hx136_3 hx56_0 hHeld ⊢
                        refine zP 0 93 (tf 1 11) ?_
                        refine zP 1 94 (tf 2 10) ?_
                        refine zP 2 95 (tf 3 9) ?_
                        refine zP 3 96 (tf 4 8) ?_
                        refine zP 5 98 (mb 12 47) ?_
                        refine zP 6 99 (mb 12 111) ?_
                        refine zP 7 100 (mb 12 239) ?_
                        refine zP 8 101 (mb 12 495) ?_
                        refine take_ (i := 4) (N := some 97) (v := ?_) (a' := ?_) (tf 9 3) rfl rfl (take_ofW HT_.out HW_.out uW) (fun _ _ _ h => h) (Or.inl ⟨by rfl, ?_⟩) hHeld ?_ ?_
                        rotate_left
                        ·exact jL
                        rotate_left
                        ·exact zU
                        refine take_ (i := 9) (N := some 102) (v := ?_) (a' := ?_) (tf 10 2) rfl rfl (take_ofW HT_.out HW_.out uW) (fun _ _ _ h => h) (Or.inl ⟨by rfl, ?_⟩) hHeld ?_ ?_
                        rotate_left
                        ·exact jL
                        rotate_left
                        ·exact zU
                        refine zP 10 103 (tf 11 1) ?_
                        refine last_ (i := 11) (N := none) (tf 12 0) rfl rfl (one_of HT_.out uW) uJ (fun K hK => ?_)
                        refine skip_ (w1 := ?_) (by rfl) rfl ?_ ?_
                        rotate_left
                        ·go_simp
                         rfl
                        refine hK.out _ _ ?_
                        clear hK K
                        refine done_ (done_of HT_.out uW) ?_
                        go_wp2
                        refine wp_ld60 (x := .tmp 3) rfl rfl HQ59.out ?_
                        go_wp2
                        have HQ10 := mA (Kd.R_far (p := ⟨gw, (((rd_T64 x5_7 x56_5).f1) : Int).toNat, none⟩) HO_10.out (fun k hk e => hk (by rw [e]; rfl)) (.int .i64 ((rd_T64 x5_7 x56_5).f0)))
                        refine wp_ld60 (x := .tmp 10) rfl rfl HQ10.out ?_
                        have heq60 := fun W => eq60 9998 y137 y130 W (Kd.R_reads' HQ59.out).1.symm (Kd.R_reads' HQ10.out).1.symm
                        go_wp2
                        (try simp only [← hl5_6, ← hl5_7])
                        go_roundg k7
                        case measure => have := HK1.out; have := HK2.out; have := HJ36.out; have := HK4.out; have := HK5.out; have := HK6.out; have := HK7.out; omega
                        case rel => exact ⟨(y137), (x5_7), (wrap64 (x8_6 - 1)), (wrap64 (x64_6 + 1)), uN, uN, H', ⟨qM⟩, ⟨by (try simp only [hl5_4]); (try simp only [hl5_5]); (try simp only [hl5_6]); (try simp only [hl5_7]); (with_reducible repeat (first | apply Kd.R_alloc | apply Kd.R_drewN | apply Kd.R_drew)); exact Kd.R_mono HQ59.out (fun _ hk => trivial)⟩, ⟨qW⟩, ⟨yI⟩⟩
                       ·rw [if_neg c57] at H
                        have c57b0 := decide_eq_false c57
                        have c57c : decide (y137 = y130) = true := decide_eq_true (Classical.byContradiction fun h_ => c57 ((arrNe_pos _ _).2 h_))
                        clear c57
                        have H' := mA H
                        clear H
                        have p133 : 0 ≤ (x56_5 : Int) := of_decide_eq_true uV
                        have q133 : x56_5 < (x5_7.length : Int) := of_decide_eq_true uV
                        obtain ⟨ad133, e133, hx133_0, hx133_1, hx133_2, hx133_3⟩ := at_T64 (Kd.R_reads' HO_5.out).2.2 x56_5 p133 q133
                        obtain rfl : ad126 = ad133 := (by injection e133)
                        replace p133 := eq_true p133
                        replace q133 := eq_true q133
                        have p134 : 0 ≤ (((rd_T64 x5_7 x56_5).f1) : Int) := of_decide_eq_true uV
                        have q134 : ((rd_T64 x5_7 x56_5).f1) < (x3_6.length : Int) := of_decide_eq_true uV
                        obtain ⟨ad134, e134, hx134_0⟩ := Kd.at_int (Kd.R_reads' HO_3.out).2.2 ((rd_T64 x5_7 x56_5).f1) p134 q134
                        cases e134
                        (first | simp only [add_plain] at hx134_0 | skip)
                        replace p134 := eq_true p134
                        replace q134 := eq_true q134
                        have q134a := eq_true (show ((rd_T64 x5_7 x56_5).f1) < (127 : Int) from by have h1_ := of_eq_true q134; have h2_ := (Kd.R_reads' HO_3.out).1; omega)
                        try go_wp2
                        replace HO_3 := mA (Kd.R_drew HO_3.out)
                        replace HO_5 := mA (Kd.R_drew HO_5.out)
                        replace HO_10 := mA (Kd.R_drew HO_10.out)
                        replace HB := mA (below_drew1 HB.out)
                        have p135 : 0 ≤ (x56_5 : Int) := of_decide_eq_true uV
                        have q135 : x56_5 < (x5_7.length : Int) := of_decide_eq_true uV
                        obtain ⟨ad135, e135, hx135_0, hx135_1, hx135_2, hx135_3⟩ := at_T64 (Kd.R_reads' HO_5.out).2.2 x56_5 p135 q135
                        obtain rfl : ad126 = ad135 := (by injection e135)
                        replace p135 := eq_true p135
                        replace q135 := eq_true q135
                        have p136 : 0 ≤ (x56_5 : Int) := of_decide_eq_true uV
                        have q136 : x56_5 < (x5_7.length : Int) := of_decide_eq_true uV
                        obtain ⟨ad136, e136, hx136_0, hx136_1, hx136_2, hx136_3⟩ := at_T64 (Kd.R_reads' HO_5.out).2.2 x56_5 p136 q136
                        obtain rfl : ad126 = ad136 := (by injection e136)
                        replace p136 := eq_true p136
                        replace q136 := eq_true q136
                        have p56 : 0 ≤ (((rd_T64 x5_7 x56_5).f1) : Int) := of_decide_eq_true uV
                        have q56 : (((rd_T64 x5_7 x56_5).f1) : Int) < ((x3_6.length : Int) : Int) := of_decide_eq_true uV
                        obtain ⟨go_, co_, eo_, gb56, gl56, cl56, HG56⟩ := Kd.R_form HO_3.out uY
                        injection eo_ with ea_ en_ ec_; injection ea_ with ea_; injection ea_ with ea_; subst ea_; subst ec_; clear en_
                        have GB56 := mA gb56
                        have GG56 := mA HG56
                        clear gb56 gl56 HG56
                        (first | simp only [add_plain] at hx134_0 | skip)
                        obtain ⟨hx56_0, hf56_0⟩ := Kd.R_celln 0 HO_3.out (((rd_T64 x5_7 x56_5).f1) : Int) p56 wQ
                        replace p56 := eq_true p56
                        replace q56 := eq_true q56
                        have q56a := eq_true (show ((rd_T64 x5_7 x56_5).f1) < (127 : Int) from by have h1_ := of_eq_true q56; have h2_ := (Kd.R_reads' HO_3.out).1; omega)
                        have HP62 := Kd.R_putn HO_3.out (((rd_T64 x5_7 x56_5).f1) : Int) ((rd_T64 x5_7 x56_5).f0)
                        rw [← Ny137.out] at HP62
                        have HQ62 := mA HP62
                        clear HP62
                        refine start_ (n := 12) (S := fun w' => w'.cell? (ad126.add ((x56_5).toNat * 4)) = some (.int .i64 ((rd_T64 x5_7 x56_5).f0)) ∧ w'.cell? ⟨(ad126.add ((x56_5).toNat * 4)).block, (ad126.add ((x56_5).toNat * 4)).off + 1, none⟩ = some (.int .i64 ((rd_T64 x5_7 x56_5).f1)) ∧ w'.cell? ⟨(ad126.add ((x56_5).toNat * 4)).block, (ad126.add ((x56_5).toNat * 4)).off + 2, none⟩ = some (.int .i64 ((rd_T64 x5_7 x56_5).f2)) ∧ w'.cell? ⟨(ad126.add ((x56_5).toNat * 4)).block, (ad126.add ((x56_5).toNat * 4)).off + 3, none⟩ = some (.int .i64 ((rd_T64 x5_7 x56_5).f3)) ∧ w'.cell? (ad126.add ((x56_5).toNat * 4)) = some (.int .i64 ((rd_T64 x5_7 x56_5).f0)) ∧ w'.cell? ⟨(ad126.add ((x56_5).toNat * 4)).block, (ad126.add ((x56_5).toNat * 4)).off + 1, none⟩ = some (.int .i64 ((rd_T64 x5_7 x56_5).f1)) ∧ w'.cell? ⟨(ad126.add ((x56_5).toNat * 4)).block, (ad126.add ((x56_5).toNat * 4)).off + 2, none⟩ = some (.int .i64 ((rd_T64 x5_7 x56_5).f2)) ∧ w'.cell? ⟨(ad126.add ((x56_5).toNat * 4)).block, (ad126.add ((x56_5).toNat * 4)).off + 3, none⟩ = some (.int .i64 ((rd_T64 x5_7 x56_5).f3))) (ds := [11]) (tf 0 12) uW rfl rfl ⟨hx135_0, hx135_1, hx135_2, hx135_3, hx136_0, hx136_1, hx136_2, hx136_3⟩ (fun hHeld => ?_); refine with_tabW wheel_Make.tab27 wheel_Make.bits27 (fun HT_ HW_ => ?_)
                        generalize wr.drew = w61 at HO_3 HO_5 HO_10 HB GG56 HQ62 hf56_0 hx134_0 hx135_0 hx135_1 hx135_2 hx135_3 hx136_0 hx136_1 hx136_2 hx136_3 hx56_0 hHeld ⊢
                        refine zP 0 93 (tf 1 11) ?_
                        refine zP 1 94 (tf 2 10) ?_
                        refine zP 2 95 (tf 3 9) ?_
                        refine zP 3 96 (tf 4 8) ?_
                        refine zP 5 98 (mb 12 47) ?_
                        refine zP 6 99 (mb 12 111) ?_
                        refine zP 7 100 (mb 12 239) ?_
                        refine zP 8 101 (mb 12 495) ?_
                        refine take_ (i := 4) (N := some 97) (v := ?_) (a' := ?_) (tf 9 3) rfl rfl (take_ofW HT_.out HW_.out uW) (fun _ _ _ h => h) (Or.inl ⟨by rfl, ?_⟩) hHeld ?_ ?_
                        rotate_left
                        ·exact jL
                        rotate_left
                        ·exact zU
                        refine take_ (i := 9) (N := some 102) (v := ?_) (a' := ?_) (tf 10 2) rfl rfl (take_ofW HT_.out HW_.out uW) (fun _ _ _ h => h) (Or.inl ⟨by rfl, ?_⟩) hHeld ?_ ?_
                        rotate_left
                        ·exact jL
                        rotate_left
                        ·exact zU
                        refine zP 10 103 (tf 11 1) ?_
                        refine last_ (i := 11) (N := none) (tf 12 0) rfl rfl (one_of HT_.out uW) uJ (fun K hK => ?_)
                        refine skip_ (w1 := ?_) (by rfl) rfl ?_ ?_
                        rotate_left
                        ·go_simp
                         rfl
                        refine hK.out _ _ ?_
                        clear hK K
                        refine done_ (done_of HT_.out uW) ?_
                        go_wp2
                        refine wp_ld60 (x := .tmp 3) rfl rfl HQ62.out ?_
                        go_wp2
                        have HQ10 := mA (Kd.R_far (p := ⟨gw, (((rd_T64 x5_7 x56_5).f1) : Int).toNat, none⟩) HO_10.out (fun k hk e => hk (by rw [e]; rfl)) (.int .i64 ((rd_T64 x5_7 x56_5).f0)))
                        refine wp_ld60 (x := .tmp 10) rfl rfl HQ10.out ?_
                        have heq60 := fun W => eq60 9998 y137 y130 W (Kd.R_reads' HQ62.out).1.symm (Kd.R_reads' HQ10.out).1.symm
                        go_wp2
                        (try simp only [← hl5_6, ← hl5_7])
                        go_roundg k7
                        case measure => have := HK1.out; have := HK2.out; have := HJ36.out; have := HK4.out; have := HK5.out; have := HK6.out; have := HK7.out; omega
                        case rel => exact ⟨(y137), (x5_7), (x8_6), (wrap64 (x64_6 + 1)), uN, uN, H', ⟨qM⟩, ⟨by (try simp only [hl5_4]); (try simp only [hl5_5]); (try simp only [hl5_6]); (try simp only [hl5_7]); (with_reducible repeat (first | apply Kd.R_alloc | apply Kd.R_drewN | apply Kd.R_drew)); exact Kd.R_mono HQ62.out (fun _ hk => trivial)⟩, ⟨qW⟩, ⟨yI⟩⟩
                      ·rw [if_neg c55] at H
                       have c55b0 : ((rd x3_6 ((rd_T64 x5_7 x56_5).f1)) == (-1)) = false := beq_eq_false_iff_ne.mpr c55
                       have c55b1 : ((rd x3_6 ((rd_T64 x5_7 x56_5).f1)) != (-1)) = true := bne_iff_ne.mpr c55
                       obtain ⟨y140, hy140⟩ : ∃ y_ : List (S64), y_ = (x5_7.set (x56_5 : Int).toNat (⟨(rd_T64 x5_7 x56_5).f0, Int.tmod (wrap64 (((rd_T64 x5_7 x56_5).f1) + ((rd_T64 x5_7 x56_5).f2))) 127, (rd_T64 x5_7 x56_5).f2, (rd_T64 x5_7 x56_5).f3⟩ : S64)) := ⟨_, rfl⟩
                       replace H : (wheel_Make.l5 k7 x3_6 y140 x8_6 x56_5 y130 (x5_4.length : Int) x56_5 ((rd_T64 x5_5 x56_5).f3) x64_6) = some r := zyy hy140 H
                       have Ny140 := mA hy140
                       clear hy140
                       have H' := mA H
                       clear H
                       have p133 : 0 ≤ (x56_5 : Int) := of_decide_eq_true uV
                       have q133 : x56_5 < (x5_7.length : Int) := of_decide_eq_true uV
                       obtain ⟨ad133, e133, hx133_0, hx133_1, hx133_2, hx133_3⟩ := at_T64 (Kd.R_reads' HO_5.out).2.2 x56_5 p133 q133
                       obtain rfl : ad126 = ad133 := (by injection e133)
                       replace p133 := eq_true p133
                       replace q133 := eq_true q133
                       have p134 : 0 ≤ (((rd_T64 x5_7 x56_5).f1) : Int) := of_decide_eq_true uV
                       have q134 : ((rd_T64 x5_7 x56_5).f1) < (x3_6.length : Int) := of_decide_eq_true uV
                       obtain ⟨ad134, e134, hx134_0⟩ := Kd.at_int (Kd.R_reads' HO_3.out).2.2 ((rd_T64 x5_7 x56_5).f1) p134 q134
                       cases e134
                       (first | simp only [add_plain] at hx134_0 | skip)
                       replace p134 := eq_true p134
                       replace q134 := eq_true q134
                       have q134a := eq_true (show ((rd_T64 x5_7 x56_5).f1) < (127 : Int) from by have h1_ := of_eq_true q134; have h2_ := (Kd.R_reads' HO_3.out).1; omega)
                       try go_wp2
                       replace HO_3 := mA (Kd.R_drew HO_3.out)
                       replace HO_5 := mA (Kd.R_drew HO_5.out)
                       replace HO_10 := mA (Kd.R_drew HO_10.out)
                       replace HB := mA (below_drew1 HB.out)
                       have p138 : 0 ≤ (x56_5 : Int) := of_decide_eq_true uV
                       have q138 : x56_5 < (x5_7.length : Int) := of_decide_eq_true uV
                       obtain ⟨ad138, e138, hx138_0, hx138_1, hx138_2, hx138_3⟩ := at_T64 (Kd.R_reads' HO_5.out).2.2 x56_5 p138 q138
                       obtain rfl : ad126 = ad138 := (by injection e138)
                       replace p138 := eq_true p138
                       replace q138 := eq_true q138
                       have p139 : 0 ≤ (x56_5 : Int) := of_decide_eq_true uV
                       have q139 : x56_5 < (x5_7.length : Int) := of_decide_eq_true uV
                       obtain ⟨ad139, e139, hx139_0, hx139_1, hx139_2, hx139_3⟩ := at_T64 (Kd.R_reads' HO_5.out).2.2 x56_5 p139 q139
                       obtain rfl : ad126 = ad139 := (by injection e139)
                       replace p139 := eq_true p139
                       replace q139 := eq_true q139
                       have p64 : 0 ≤ (x56_5 : Int) := of_decide_eq_true uV
                       have q64 : (x56_5 : Int) < ((x5_7.length : Int) : Int) := of_decide_eq_true uV
                       obtain ⟨go64, co64, eo64, gb64, gl64, cl64, HG64⟩ := Kd.R_form HO_5.out uY
                       (first | cases eo64 | (injection eo64 with ea_ en_ ec_; (first | subst ea_ | (injection ea_ with ea_; subst ea_)); subst ec_; clear en_))
                       have GB64 := mA gb64
                       have GG64 := mA HG64
                       clear gb64 gl64 HG64
                       (first | simp only [add_plain] at hx126_0 | skip)
                       (first | simp only [add_plain] at hx126_1 | skip)
                       (first | simp only [add_plain] at hx126_2 | skip)
                       (first | simp only [add_plain] at hx126_3 | skip)
                       (first | simp only [add_plain] at hx133_0 | skip)
                       (first | simp only [add_plain] at hx133_1 | skip)
                       (first | simp only [add_plain] at hx133_2 | skip)
                       (first | simp only [add_plain] at hx133_3 | skip)
                       (first | simp only [add_plain] at hx135_0 | skip)
                       (first | simp only [add_plain] at hx135_1 | skip)
                       (first | simp only [add_plain] at hx135_2 | skip)
                       (first | simp only [add_plain] at hx135_3 | skip)
                       (first | simp only [add_plain] at hx136_0 | skip)
                       (first | simp only [add_plain] at hx136_1 | skip)
                       (first | simp only [add_plain] at hx136_2 | skip)
                       (first | simp only [add_plain] at hx136_3 | skip)
                       (first | simp only [add_plain] at hx138_0 | skip)
                       (first | simp only [add_plain] at hx138_1 | skip)
                       (first | simp only [add_plain] at hx138_2 | skip)
                       (first | simp only [add_plain] at hx138_3 | skip)
                       (first | simp only [add_plain] at hx139_0 | skip)
                       (first | simp only [add_plain] at hx139_1 | skip)
                       (first | simp only [add_plain] at hx139_2 | skip)
                       (first | simp only [add_plain] at hx139_3 | skip)
                       obtain ⟨ce64, hcl64, hM64, hcc64, hfr64⟩ := Kd.R_elem HO_5.out z64 (x56_5 : Int) p64 q64
                       obtain rfl := k64_openM hM64
                       have hx64_0 : World.cell? _ ⟨go64, (x56_5 : Int).toNat * 4, none⟩ = some (.int .i64 ((rd_T64 x5_7 x56_5).f0)) := hcc64 0 _ rfl
                       have hx64_1 : World.cell? _ ⟨go64, (x56_5 : Int).toNat * 4 + 1, none⟩ = some (.int .i64 ((rd_T64 x5_7 x56_5).f1)) := hcc64 1 _ rfl
                       have hx64_2 : World.cell? _ ⟨go64, (x56_5 : Int).toNat * 4 + 2, none⟩ = some (.int .i64 ((rd_T64 x5_7 x56_5).f2)) := hcc64 2 _ rfl
                       have hx64_3 : World.cell? _ ⟨go64, (x56_5 : Int).toNat * 4 + 3, none⟩ = some (.int .i64 ((rd_T64 x5_7 x56_5).f3)) := hcc64 3 _ rfl
                       have hf64_0 : World.frozen? _ ⟨go64, (x56_5 : Int).toNat * 4, none⟩ = false := hfr64 0
                       have hf64_1 : World.frozen? _ ⟨go64, (x56_5 : Int).toNat * 4 + 1, none⟩ = false := hfr64 1
                       have hf64_2 : World.frozen? _ ⟨go64, (x56_5 : Int).toNat * 4 + 2, none⟩ = false := hfr64 2
                       have hf64_3 : World.frozen? _ ⟨go64, (x56_5 : Int).toNat * 4 + 3, none⟩ = false := hfr64 3
                       clear hcl64 hcc64 hfr64 hM64
                       replace p64 := eq_true p64
                       replace q64 := eq_true q64
                       obtain ⟨ce66, hcl66, hM66, hcc66, hfr66⟩ := Kd.R_elem HO_5.out z64 (x56_5 : Int) (of_decide_eq_true uV) xP
                       obtain rfl := k64_openM hM66
                       have HP66 := (Kd.R_seg HO_5.out (x56_5 : Int) (of_decide_eq_true uV) xP (seg := [.int .i64 (Int.tmod (wrap64 (((rd_T64 x5_7 x56_5).f1) + ((rd_T64 x5_7 x56_5).f2))) 127)]) (j := 1) hcl66 hcc66 (show 2 ≤ 4 from by decide) (x' := (⟨(rd_T64 x5_7 x56_5).f0, Int.tmod (wrap64 (((rd_T64 x5_7 x56_5).f1) + ((rd_T64 x5_7 x56_5).f2))) 127, (rd_T64 x5_7 x56_5).f2, (rd_T64 x5_7 x56_5).f3⟩ : S64)) (k64_mkM _ _ _ (⟨(rd_T64 x5_7 x56_5).f0, Int.tmod (wrap64 (((rd_T64 x5_7 x56_5).f1) + ((rd_T64 x5_7 x56_5).f2))) 127, (rd_T64 x5_7 x56_5).f2, (rd_T64 x5_7 x56_5).f3⟩ : S64) ) (fun _ hk => hk)).1
                       rw [← Ny140.out] at HP66
                       have HQ66 := mA HP66
                       clear hcl66 hcc66 hfr66 hM66 HP66
                       refine start_ (n := 17) (S := fun w' => w'.cell? ⟨go64, ((x56_5).toNat * 4), none⟩ = some (.int .i64 ((rd_T64 x5_7 x56_5).f0)) ∧ w'.cell? ⟨go64, ((x56_5).toNat * 4) + 1, none⟩ = some (.int .i64 ((rd_T64 x5_7 x56_5).f1)) ∧ w'.cell? ⟨go64, ((x56_5).toNat * 4) + 2, none⟩ = some (.int .i64 ((rd_T64 x5_7 x56_5).f2)) ∧ w'.cell? ⟨go64, ((x56_5).toNat * 4) + 3, none⟩ = some (.int .i64 ((rd_T64 x5_7 x56_5).f3)) ∧ w'.cell? ⟨go64, ((x56_5).toNat * 4), none⟩ = some (.int .i64 ((rd_T64 x5_7 x56_5).f0)) ∧ w'.cell? ⟨go64, ((x56_5).toNat * 4) + 1, none⟩ = some (.int .i64 ((rd_T64 x5_7 x56_5).f1)) ∧ w'.cell? ⟨go64, ((x56_5).toNat * 4) + 2, none⟩ = some (.int .i64 ((rd_T64 x5_7 x56_5).f2)) ∧ w'.cell? ⟨go64, ((x56_5).toNat * 4) + 3, none⟩ = some (.int .i64 ((rd_T64 x5_7 x56_5).f3))) (ds := [16]) (tf 0 17) uW rfl rfl ⟨hx138_0, hx138_1, hx138_2, hx138_3, hx139_0, hx139_1, hx139_2, hx139_3⟩ (fun hHeld => ?_); refine with_tabW wheel_Make.tab26 wheel_Make.bits26 (fun HT_ HW_ => ?_)
                       generalize wr.drew = w65 at HO_3 HO_5 HO_10 HB GG64 HQ66 hf64_0 hf64_1 hf64_2 hf64_3 hx133_0 hx133_1 hx133_2 hx133_3 hx138_0 hx138_1 hx138_2 hx138_3 hx139_0 hx139_1 hx139_2 hx139_3 hx64_0 hx64_1 hx64_2 hx64_3 hHeld ⊢
                       refine zP 0 77 (tf 1 16) ?_
                       refine zP 1 78 (tf 2 15) ?_
                       refine zP 2 79 (tf 3 14) ?_
                       refine zP 3 80 (tf 4 13) ?_
                       refine zP 4 81 (tf 5 12) ?_
                       refine zP 5 82 (tf 6 11) ?_
                       refine zP 7 84 (mb 17 191) ?_
                       refine zP 8 85 (mb 17 447) ?_
                       refine zP 9 86 (mb 17 959) ?_
                       refine zP 10 87 (mb 17 1983) ?_
                       refine take_ (i := 6) (N := some 83) (v := ?_) (a' := ?_) (tf 11 6) rfl rfl (take_ofW HT_.out HW_.out uW) (fun _ _ _ h => h) (Or.inl ⟨by rfl, ?_⟩) hHeld ?_ ?_
                       rotate_left
                       ·exact jL
                       rotate_left
                       ·exact zU
                       refine take_ (i := 11) (N := some 88) (v := ?_) (a' := ?_) (tf 12 5) rfl rfl (take_ofW HT_.out HW_.out uW) (fun _ _ _ h => h) (Or.inl ⟨by rfl, ?_⟩) hHeld ?_ ?_
                       rotate_left
                       ·exact jL
                       rotate_left
                       ·exact zU
                       refine zP 12 89 (tf 13 4) ?_
                       refine zP 13 90 (tf 14 3) ?_
                       refine zP 14 91 (tf 15 2) ?_
                       refine zP 15 92 (tf 16 1) ?_
                       refine last_ (i := 16) (N := none) (tf 17 0) rfl rfl (one_of HT_.out uW) uJ (fun K hK => ?_)
                       refine skip_ (w1 := ?_) (by rfl) rfl ?_ ?_
                       rotate_left
                       ·go_simp
                        rfl
                       refine hK.out _ _ ?_
                       clear hK K
                       refine done_ (done_of HT_.out uW) ?_
                       try go_wp2
                       (try simp only [← hl5_7])
                       have hz61 : (⟨go64, (x56_5 : Int).toNat * 4, none⟩ : Addr) = (⟨go64, 0, none⟩ : Addr).add ((x56_5 : Int).toNat * 4) := by simp [add_plain]
                       have hz62 : (⟨go64, (x56_5 : Int).toNat * 4 + 3, none⟩ : Addr) = ⟨((⟨go64, 0, none⟩ : Addr).add ((x56_5 : Int).toNat * 4)).block, ((⟨go64, 0, none⟩ : Addr).add ((x56_5 : Int).toNat * 4)).off + 3, none⟩ := by simp [add_plain]
                       rw [hz62, hz61]
                       go_roundg k7
                       case measure => have := HK1.out; have := HK2.out; have := HJ36.out; have := HK4.out; have := HK5.out; have := HK6.out; have := HK7.out; omega
                       case rel => exact ⟨(y140), H', ⟨qM⟩, ⟨by (try simp only [hl5_4]); (try simp only [hl5_5]); (try simp only [hl5_6]); (try simp only [hl5_7]); (with_reducible repeat (first | apply Kd.R_alloc | apply Kd.R_drewN | apply Kd.R_drew)); exact Kd.R_mono (Kd.R_far (p := ⟨go64, (x56_5 : Int).toNat * 4 + 1, none⟩) (Kd.R_types HO_3.out GG64.out uJ) (fun _ hk => hk.2) (.int .i64 (Int.tmod (wrap64 (((rd_T64 x5_7 x56_5).f1) + ((rd_T64 x5_7 x56_5).f2))) 127))) (fun _ hk => hk.1)⟩, ⟨by (try simp only [hl5_4]); (try simp only [hl5_5]); (try simp only [hl5_6]); (try simp only [hl5_7]); (with_reducible repeat (first | apply Kd.R_alloc | apply Kd.R_drewN | apply Kd.R_drew)); exact HQ66.out⟩, ⟨by (try simp only [hl5_4]); (try simp only [hl5_5]); (try simp only [hl5_6]); (try simp only [hl5_7]); (with_reducible repeat (first | apply Kd.R_alloc | apply Kd.R_drewN | apply Kd.R_drew)); exact Kd.R_mono (Kd.R_far (p := ⟨go64, (x56_5 : Int).toNat * 4 + 1, none⟩) (Kd.R_types HO_10.out GG64.out uJ) (fun _ hk => hk.2) (.int .i64 (Int.tmod (wrap64 (((rd_T64 x5_7 x56_5).f1) + ((rd_T64 x5_7 x56_5).f2))) 127))) (fun _ hk => hk.1)⟩, ⟨yI⟩⟩
                  ·rw [if_neg c44] at H
                   have c44b0 := decide_eq_false c44
                   clear c44
                   have H' := mA H
                   clear H
                   go_wp2
                   (try simp only [← hl5_5, ← hl5_6])
                   go_roundg k6
                   case measure => have := HK1.out; have := HK2.out; have := HJ36.out; have := HK4.out; have := HK5.out; have := HK6.out; omega
                   case rel => exact ⟨(x3_6), (x5_6), (x8_6), (wrap64 (x56_5 + 1)), uN, uN, H', ⟨by have := HK1.out; have := HK2.out; have := HJ36.out; have := HK4.out; have := HK5.out; have := HK6.out; omega⟩, ⟨by (try simp only [hl5_4]); (try simp only [hl5_5]); (try simp only [hl5_6]); (with_reducible repeat (first | apply Kd.R_alloc | apply Kd.R_drewN | apply Kd.R_drew)); exact HO_3.out⟩, ⟨qP⟩, ⟨yI⟩⟩
               ·rw [if_neg c41] at H
                have c41b0 := decide_eq_false c41
                have c41b2 : decide (x56_5 < (x5_5.length : Int)) = false := decide_eq_false (by have h_ := of_decide_eq_false c41b0; omega)
                have c41b3 : decide (x56_5 < (x5_2.length : Int)) = false := decide_eq_false (by have h_ := of_decide_eq_false c41b0; omega)
                clear c41
                have H' := mA H
                clear H
                go_wp2
                (try simp only [← hl5_4, ← hl5_5])
                go_roundg k5
                case measure => have := HK1.out; have := HK2.out; have := HJ36.out; have := HK4.out; have := HK5.out; omega
                case rel => exact ⟨(x3_5), (x5_5), (x8_5), uN, H', ⟨by have := HK1.out; have := HK2.out; have := HJ36.out; have := HK4.out; have := HK5.out; omega⟩, ⟨qO⟩, ⟨kZ⟩, ⟨yI⟩⟩
            ·rw [if_neg c40] at H
             have c40b0 : decide (0 < x8_4) = false := decide_eq_false c40
             clear c40
             obtain rfl := Option.some.inj H
             have hs60 := slice60 gw
             go_wp2_with (first | ((with_reducible refine gate_builtin (b := .append) (xs := #[.const (.slice none 0 0), .tmp 111]) rfl ?_); at_builtin; refine Kd.R_append_rows (Kd.int .i64) (w0 := w) w.heap.size rfl (.const (.slice none 0 0)) (.tmp 111) 22 3 (.int .i64 0) 8 rfl Tryz.underlying22 info3 rfl uJ uY (.slice none 0 0) ([] : List Int) x3_4 _ _ _ (fun _ => True) (fun _ => False) rfl rfl ?aO ?aR (fun _ _ h => h) (fun _ h => h.elim) ?aF ?aB ?aS ?aL ?_; (case aR => exact c127 HO_3.out); (case aB => exact uQ); (case aF => exact (fun _ _ => trivial)); (case aO => exact Kd.R_nil _ _ _ _ _); (case aS => exact (below_size uQ)); (case aL => decide); intro v2 w2 ho hb hg hat; have HO2 := mA ho; have HB2 := mA hb; clear ho hb hg hat))
             go_ret
             exact yC
 ·exact zV
end
end Go.Proofs.YtkpfojpmigchlaaGreat.Q
