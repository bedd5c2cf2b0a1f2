/-
  The walk of the program's keyed sum: its rounds, numbers out of bytes, the sum of bytes, the sum of numbers (a million of them at the most).
-/
import Derived.Test.YtkpfojpmigchlaaSipA
import Derived.Test.YtkpfojpmigchlaaWLast
import Derived.LoopTactic
import Derived.Deep.QuietTactic
import Derived.BigQuiet
namespace Go.Proofs.Ytkpfojpmigchlaa.Own
open Go.RowKit Go.Proofs.YtkpfojpmigchlaaW.PrintWords Go.Proofs.YtkpfojpmigchlaaW.PrintMore Go.Proofs.YtkpfojpmigchlaaW.PrintLast
set_option linter.unusedVariables false
set_option linter.unusedSimpArgs false

theorem rounds (n : Nat) (hn : n ≤ 4) (g : Nat) (v : Int × Int × Int × Int) (w0 w : World) (H : Stt 107 w0 g v w) :
    Calls Try.prog 51 #[.pointer (some ⟨g, 0, none⟩), .int .i64 n] w fun e w' => e = .returned (.tuple #[]) ∧ Stt 107 w0 g (rndN n v) w' := by
  have HS := Aside0.mk H
  clear H
  go_enter Try.func51, Try.ntmps51
  go_wp2
  go_loopw [5] (fun i wr => ∃ j : Nat, j ≤ n ∧ i = .int .i64 j ∧ Aside0 (Stt 107 w0 g (rndN j v) wr)) (fun i _ => n - (intOf i).toNat)
  case atStart => exact ⟨0, Nat.zero_le _, rfl, HS⟩
  case round =>
    obtain ⟨j, hj, rfl, HJ⟩ := hrel
    by_cases hlt : j < n
    · go_wp2_with (go_at_call 81; refine (round g _ _ _ _ w0 _ HJ.out).mono ?_; rintro e w' ⟨rfl, hS⟩; have HS' := Aside0.mk hS; clear hS)
      go_roundw
      case rel => exact ⟨j + 1, hlt, by go_num, HS'⟩
      case measure => simp [intOf]; omega
    · go_wp2
      go_end0
      obtain rfl : j = n := by omega
      exact ⟨rfl, HJ.out⟩

theorem take (g : Nat) (v : Int × Int × Int × Int) (n : Int) (w0 w : World) (H : Stt 107 w0 g v w) :
    Calls Try.prog 49 #[.pointer (some ⟨g, 0, none⟩), .int .u64 n] w fun e w' => e = .returned (.tuple #[]) ∧ Stt 107 w0 g (eat v n) w' := by
  obtain ⟨a, b, c, d⟩ := v
  have HS := Aside0.mk H
  have c3 := H.c3
  have f3 := H.fz 3
  clear H
  go_enter Try.func49, Try.ntmps49
  go_wp2_with (go_at_call 51; refine (rounds 2 (by decide) g _ w0 _ (HS.out.s3 _)).mono ?_; rintro e w' ⟨rfl, hS⟩; have d0 := hS.c0; have g0 := hS.fz 0; have HS' := Aside0.mk hS; clear hS)
  go_end0
  exact ⟨rfl, HS'.out.s0 _⟩

theorem rd_nat (l : List Int) (k : Nat) : rd l (k : Int) = l.getD k 0 := by simp [rd]

theorem number (A : Option Addr) (c : Nat) (l : List Int) (w : World) (hr : Kd.C (Kd.int .u8) w A l.length l) (hc : l.length ≤ c) :
    Calls Try.prog 50 #[.slice A l.length c] w fun e w' => e = .returned (.int .u64 (num l)) ∧ w = w' := by
  have HR := Aside0.mk hr
  clear hr
  by_cases h8 : (8 : Int) < l.length
  all_goals
    go_enter Try.func50, Try.ntmps50
    go_wp2
    go_loop [3, 8] (fun o i => ∃ k : Nat, k ≤ min l.length 8 ∧ i = .int .i64 k ∧ o = .int .u64 (numTo l k)) (fun _ i => 8 - (intOf i).toNat)
    case atStart => exact ⟨0, Nat.zero_le _, rfl, rfl⟩
    case round =>
      obtain ⟨k, hk, rfl, rfl⟩ := hrel
      by_cases hlt : k < min l.length 8
      · have h1 : k < 8 := by omega
        have h2 : k < l.length := by omega
        obtain ⟨ad, rfl, hx⟩ := Kd.at_int HR.out k (by omega) (by omega)
        rw [Int.toNat_natCast] at hx
        have h3 : 0 ≤ 8 * (k : Int) := by omega
        have h4 : 8 * (k : Int) ≤ 64 := by omega
        clear hk hlt
        go_wp2
        go_round
        case rel => exact ⟨k + 1, by omega, by go_num, by rw [numTo, ← rd_nat]⟩
        case measure => simp [intOf]; omega
      · have h2 : ¬ (k < 8 ∧ k < l.length) := by omega
        have h3 : k = min l.length 8 := by omega
        have HN : Hid (numTo l k = num l) := by rw [h3]; exact rfl
        clear h3 hlt
        go_wp2
        go_ret
        exact ⟨by rw [HN.out]; rfl, rfl⟩

theorem infoU8 : (Try.prog.info? 5).map (fun i => (i.zero, i.size, i.bytes)) = some (some (.int .u8 0), 1, 1) := by kernel_rfl
theorem Stt.s2' {T w0 g v w} (h : Stt T w0 g v w) (x : Int) : Stt T w0 g (v.1, v.2.1, x, v.2.2.2) (w.setCell ⟨g, 2, none⟩ (.int .u64 x)) := Stt.s2 (a := v.1) (b := v.2.1) (c := v.2.2.1) (d := v.2.2.2) h x
/-- A slice of n bytes that reads as a list. -/
structure Bs (w : World) (A : Option Addr) (n c : Nat) (l : List Int) : Prop where
  len : l.length = n
  cap : n ≤ c
  reads : Kd.C (Kd.int .u8) w A l.length l
theorem Bs.below {w w' A n c l} (h : Bs w A n c l) (hb : Below w.heap.size w w') : Bs w' A n c l := ⟨h.len, h.cap, Kd.C_below h.reads hb⟩
theorem number_n (A : Option Addr) (n c : Nat) (l : List Int) (w : World) (h : Bs w A n c l) : Calls Try.prog 50 #[.slice A n c] w fun e w' => e = .returned (.int .u64 (num l)) ∧ w = w' := by
  obtain ⟨rfl, hc, hr⟩ := h
  exact number A c l w hr hc
/-- A slice's front of eight bytes, and what is behind them. -/
theorem cut8 (A : Option Addr) (n c : Nat) (m : List Int) (w : World) (h : Bs w A n c m) (h8 : 8 ≤ n) :
    ∃ A' : Option Addr, (∀ W : World, (Instr.slice 54 (.slice A n c) none (some (.int .i64 8)) none).run Try.prog W = .ok (.slice A 8 c) W) ∧
      (∀ W : World, (Instr.slice 54 (.slice A n c) (some (.int .i64 8)) none none).run Try.prog W = .ok (.slice A' (n - 8) (c - 8)) W) ∧
      Bs w A 8 c (m.take 8) ∧ Bs w A' (n - 8) (c - 8) (m.drop 8) := by
  obtain ⟨rfl, hc, h⟩ := h
  obtain ⟨i0, hi, _, hsz, _⟩ := info_parts infoU8
  obtain ⟨h1, h2, h3⟩ := print_take_of (P := Try.prog) (Value.int .u8) 0 54 5 .i64 Try.underlying54 hi hsz A c m 8 (by omega) (by omega) hc
  obtain ⟨A', h4, h5, h6⟩ := print_drop_of (P := Try.prog) (Value.int .u8) 0 54 5 .i64 Try.underlying54 hi hsz A c m 8 (by omega) (by omega) hc
  have e1 : (m.take (8 : Int).toNat).length = 8 := by rw [List.length_take]; omega
  have e2 : (m.drop (8 : Int).toNat).length = m.length - 8 := List.length_drop
  refine ⟨A', fun W => by rw [h1 W, e1], fun W => by rw [h4 W, e2]; rfl, ⟨e1, by omega, Kd.C_of_reads (h1 := fun _ => rfl) (h2 _ (Kd.reads_of_C h))⟩, ⟨e2, by omega, Kd.C_of_reads (h1 := fun _ => rfl) (h5 _ (Kd.reads_of_C h))⟩⟩

theorem heap_two (w : World) (o1 o2 : Obj) : ((w.alloc o1).alloc o2).heap[w.heap.size + 1]? = some o2 := by
  have h := heap_alloc_new (w.alloc o1) o2
  rwa [show (w.alloc o1).heap.size = w.heap.size + 1 from by simp] at h

def lenOf : Value → Nat
  | .slice _ n _ => n
  | _ => 0
theorem drop8 {l m : List Int} {j : Nat} (h : m = l.drop (8 * j)) : m.drop 8 = l.drop (8 * (j + 1)) := by rw [h, List.drop_drop]; congr 1
theorem blks_succ {v : Int × Int × Int × Int} {l m : List Int} {j : Nat} (h : m = l.drop (8 * j)) : blks v l (j + 1) = eat (blks v l j) (num (m.take 8)) := by rw [h]; rfl
theorem last_of {l m : List Int} {j n : Nat} (h : m = l.drop (8 * j)) (hn : m.length = n) (h0 : 8 * j ≤ l.length) (h8 : n < 8) : j = l.length / 8 := by
  rw [h, List.length_drop] at hn
  omega
theorem lastNum_of {l m : List Int} {j : Nat} (h : m = l.drop (8 * j)) (hj : j = l.length / 8) : lastNum l = Go.bits .or .u64 (num m) (IntKind.u64.wrap (IntKind.u64.wrap l.length * 2 ^ 56)) := by rw [lastNum, h, hj]

set_option maxHeartbeats 2000000 in
theorem sof (a b : Int) (A : Option Addr) (c : Nat) (l : List Int) (w : World) (hr : Kd.C (Kd.int .u8) w A l.length l) (hc : l.length ≤ c) :
    Calls Try.prog 19 #[.agg #[.int .u64 a, .int .u64 b], .slice A l.length c] w fun e w' => e = .returned (.int .u64 (sipOf a b l)) ∧ Below w.heap.size w w' := by
  have HR : Aside0 (Bs w A l.length c l) := ⟨⟨rfl, hc, hr⟩⟩
  clear hr hc
  go_enter Try.func19, Try.ntmps19
  go_wp2
  go_loopw [6] (fun v6 wr => ∃ (j : Nat) (m : List Int) (n : Nat) (A' : Option Addr) (c' : Nat), v6 = .slice A' n c' ∧ Aside0 (m = l.drop (8 * j) ∧ 8 * j ≤ l.length) ∧ Aside0 (Bs w A' n c' m) ∧ Aside0 (Stt 107 w (w.heap.size + 1) (blks (sipInit a b) l j) wr)) (fun v6 _ => lenOf v6)
  case atStart =>
    exact ⟨0, l, l.length, A, c, rfl, ⟨by simp, by omega⟩, HR, ⟨heap_two _ _ _, below_alloc (below_alloc (Below.refl _ _) _) _, by omega⟩⟩
  case round =>
    obtain ⟨j, m, n, A', c', rfl, HM, HB, HS⟩ := hrel
    by_cases h8 : (8 : Int) ≤ n
    · obtain ⟨A2, hc1, hc2, hk1, hk2⟩ := cut8 A' n c' m w HB.out (by omega)
      have HK1 := Aside0.mk hk1
      have HK2 := Aside0.mk hk2
      clear hk1 hk2
      go_wp2_with (first | (go_at_call 50; refine (number_n _ _ _ _ _ (HK1.out.below HS.out.below)).mono ?_; rintro e w' ⟨rfl, rfl⟩) | (go_at_call 49; refine (take _ _ _ w _ HS.out).mono ?_; rintro e w' ⟨rfl, hS⟩; have HS' := Aside0.mk hS; clear hS))
      go_roundw
      case rel => exact ⟨j + 1, m.drop 8, n - 8, A2, c' - 8, rfl, ⟨drop8 HM.out.1, by have := HM.out; have := HB.out.len; have e := congrArg List.length HM.out.1; rw [List.length_drop] at e; omega⟩, HK2, ⟨by rw [blks_succ HM.out.1]; exact HS'.out⟩⟩
      case measure => simp [lenOf]; omega
    · have HJ := Aside0.mk (last_of HM.out.1 HB.out.len HM.out.2 (by omega))
      have HL := Aside0.mk (lastNum_of HM.out.1 HJ.out)
      go_wp2_with (first | (go_at_call 50; refine (number_n _ _ _ _ _ (HB.out.below HS.out.below)).mono ?_; rintro e w' ⟨rfl, rfl⟩) | (go_at_call 49; refine (take _ _ _ w _ HS.out).mono ?_; rintro e w' ⟨rfl, hS⟩; have HS' := Aside0.mk hS; clear hS; have d2 := HS'.out.c2; have f2 := HS'.out.fz 2) | (go_at_call 51; refine (rounds 4 (by decide) _ _ w _ (HS'.out.s2' _)).mono ?_; rintro e w' ⟨rfl, hS⟩; have e0 := hS.c0; have e1 := hS.c1; have e2 := hS.c2; have e3 := hS.c3; have HS2 := Aside0.mk hS; clear hS))
      go_quiet (fail)
      go_wp2
      go_ret
      refine ⟨?_, pw_below_drewN HS2.out.below _⟩
      rw [sipOf, ← HJ.out, HL.out]
      rfl

theorem words_in (l : List Int) (k : Nat) (h : k < l.length) : wordBytes (l.take k) ++ wordTo (rd l k) 8 = wordBytes (l.take (k + 1)) := by rw [wordBytes_take l k h, rd_nat]

set_option maxHeartbeats 4000000 in
set_option maxRecDepth 100000 in
theorem swords (a b : Int) (A : Option Addr) (c : Nat) (l : List Int) (w : World) (hr : Kd.C (Kd.int .i64) w A l.length l) (hc : l.length ≤ c) (hl : l.length ≤ 1048576) :
    Calls Try.prog 12 #[.agg #[.int .u64 a, .int .u64 b], .slice A l.length c] w fun e w' => e = .returned (.int .u64 (sipWords a b l)) ∧ Below w.heap.size w w' := by
  have HR := Aside0.mk hr
  clear hr
  obtain ⟨i0, hi, hz0, hz1, hz2⟩ := info_parts infoU8
  obtain ⟨W1, hW1⟩ : ∃ W1, W1 = w.alloc (.cells #[.int .u64 a, .int .u64 b] 29) := ⟨_, rfl⟩
  have hs1 : W1.heap.size = w.heap.size + 1 := by rw [hW1]; simp
  obtain ⟨W2, hmk, hown, hgrow⟩ := run_make_own (P := Try.prog) W1 (w.heap.size + 1) 54 5 i0 _ 1 Try.underlying54 hi hz0 hz1 .i64 .i64 (8 * l.length) (by rw [hz2]; omega) (by unfold maxLen; omega) (by omega)
  have HB0 : Below (w.heap.size + 1) W1 W2 := by rw [← hs1]; exact ⟨hgrow.os, hgrow.tape, hgrow.output, hgrow.size, fun i h => hgrow.block i h (by simp)⟩
  have HO0 : Kd.R (Kd.int .u8) 5 W2 (w.heap.size + 1) (fun _ => True) (.slice (some ⟨W1.heap.size, 0, none⟩) 0 (8 * l.length)) [] := Kd.R_of_own (by simpa [encs] using hown) (fun _ _ => trivial)
  have HB := Aside0.mk HB0
  have HO := Aside0.mk HO0
  clear hi hz0 hz1 hz2 hown hgrow HB0 HO0
  rw [show ((8 * l.length : Nat) : Int) = 8 * (l.length : Int) from by omega, hs1] at hmk
  rw [hs1] at HO
  have HW1 := Aside0.mk hW1
  rw [hW1] at hmk
  clear hW1 hs1
  go_enter Try.func12, Try.ntmps12
  go_wp2
  go_loopw [5, 15] (fun v5 v15 wr => ∃ k : Nat, k ≤ l.length ∧ v15 = .int .i64 k ∧ Aside0 (Kd.R (Kd.int .u8) 5 wr (w.heap.size + 1) (fun _ => True) v5 (wordBytes (l.take k))) ∧ Aside0 (Below (w.heap.size + 1) W1 wr)) (fun _ v15 _ => l.length - (intOf v15).toNat)
  case atStart => exact ⟨0, Nat.zero_le _, rfl, ⟨by simpa [wordBytes] using HO.out⟩, HB⟩
  case round =>
    clear HO HB
    obtain ⟨k, hk, rfl, HO, HB⟩ := hrel
    by_cases hlt : k < l.length
    · obtain ⟨ad, rfl, hx⟩ := Kd.at_int HR.out k (by omega) (by omega)
      rw [Int.toNat_natCast] at hx
      have hlt1 := World.block_lt_of_cell? w _ hx
      have hx1 : W1.cell? (ad.add k) = some (.int .i64 (rd l k)) := by
        rw [HW1.out]
        exact ((below_alloc (Below.refl _ _) _).cell hlt1).trans hx
      replace hx := (HB.out.cell (p := ad.add k) (by omega)).trans hx1
      clear hx1 hlt1
      go_wp2
      obtain ⟨wo, hwo⟩ : ∃ wo : World, wo = wr := ⟨_, rfl⟩
      go_loopw [5, 19] (fun v5 v19 wr => ∃ j : Nat, j ≤ 8 ∧ v19 = .int .i64 j ∧ Aside0 (Kd.R (Kd.int .u8) 5 wr (w.heap.size + 1) (fun _ => True) v5 (wordBytes (l.take k) ++ wordTo (rd l k) j)) ∧ Aside0 (Below (w.heap.size + 1) W1 wr)) (fun _ v19 _ => 8 - (intOf v19).toNat)
      case atStart => exact ⟨0, by omega, rfl, ⟨by simpa [wordTo] using HO.out⟩, HB⟩
      case round =>
        clear HO HB
        obtain ⟨j, hj, rfl, HO, HB⟩ := hrel
        by_cases hj8 : j < 8
        · have h3 : 0 ≤ 8 * (j : Int) := by omega
          have h4 : 8 * (j : Int) ≤ 64 := by omega
          have HL : Hid ((wordBytes (l.take k) ++ wordTo (rd l k) j).length ≤ 8388616) := by
            unfold Hid
            rw [List.length_append, wordBytes_length, wordTo_length, List.length_take]; omega
          go_wp2_with (first | ((with_reducible refine gate_builtin (b := .append) (xs := #[.tmp 22, .tmp 29]) rfl ?_); at_builtin; refine Kd.R_append (Kd.int .u8) (w0 := W1) (w.heap.size + 1) rfl (.tmp 22) (.tmp 29) 54 5 (.int .u8 0) 1 rfl Try.underlying54 infoU8 rfl (by decide) (by omega) u5 (wordBytes (l.take k) ++ wordTo (rd l k) j) (byteAt (rd l k) j) [.int .u8 (byteAt (rd l k) j)] (fun _ => True) (fun _ => False) rfl rfl ?aP (fun _ hk => hk.elim) ?aF ?aO ?aB ?aS ?aL ?_; (case aP => exact rfl); (case aB => exact HB.out); (case aF => exact (fun _ _ => trivial)); (case aO => exact HO.out); (case aS => (have := HB.out.size; rw [HW1.out] at this; simp at this; omega)); (case aL => (have := HL.out; omega)); intro v112 w13 ho hb hg hat; have HO' := Aside0.mk ho; have HB' := Aside0.mk hb; clear ho hb hg hat HO HB))
          go_roundw
          case rel => exact ⟨j + 1, by omega, by go_num, ⟨by rw [wordTo_succ, ← List.append_assoc]; exact HO'.out⟩, HB'⟩
          case measure => simp [intOf]; omega
        · obtain rfl : j = 8 := by omega
          have HO2 := Aside0.mk HO.out
          go_wp2
          go_roundw
          case rel => exact ⟨k + 1, by omega, by go_num, ⟨by rw [← words_in l k hlt]; exact HO2.out⟩, HB⟩
          case measure => simp [intOf]; omega
    · obtain rfl : k = l.length := by omega
      obtain ⟨bs, hbs⟩ : ∃ bs, bs = wordBytes l := ⟨_, rfl⟩
      have HR2 : Kd.R (Kd.int .u8) 5 wr (w.heap.size + 1) (fun _ => True) u5 bs := by rw [hbs, ← List.take_length (l := l)]; exact HO.out
      have HBS := Aside0.mk hbs
      clear hbs HO
      obtain ⟨A2, c2, rfl, hl2, hC⟩ := Kd.R_reads HR2
      have hb0 : wr.heap[w.heap.size]? = some (.cells #[.int .u64 a, .int .u64 b] 29 (0, 0)) := by
        rw [HB.out.block _ (by omega), HW1.out]
        exact heap_alloc_new _ _
      have hc0 : wr.cell? ⟨w.heap.size, 0, none⟩ = some (.int .u64 a) := (blk_cell hb0 0).trans rfl
      have hc1 : wr.cell? ⟨w.heap.size, 1, none⟩ = some (.int .u64 b) := (blk_cell hb0 1).trans rfl
      have HC := Aside0.mk hC
      have HL2 := Aside0.mk hl2
      have HBW : Aside0 (Below w.heap.size w wr) := ⟨by
        have h1 : Below w.heap.size w W1 := by rw [HW1.out]; exact below_alloc (Below.refl _ _) _
        exact h1.trans ⟨HB.out.os, HB.out.tape, HB.out.output, HB.out.size, fun i hi => HB.out.block i (by omega)⟩⟩
      clear HR2 hb0 hC hl2
      go_wp2_with (go_at_call 19; refine (sof a b A2 c2 bs _ HC.out HL2.out).mono ?_; rintro e w' ⟨rfl, hb⟩; have HE := Aside0.mk (below_step HBW.out hb); clear hb)
      go_ret
      exact ⟨by rw [HBS.out]; rfl, HE.out⟩
end Go.Proofs.Ytkpfojpmigchlaa.Own
