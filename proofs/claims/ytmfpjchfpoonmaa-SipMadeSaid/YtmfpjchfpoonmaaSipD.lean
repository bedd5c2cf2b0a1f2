/-
  The walk of the reference's keyed sum: numbers out of bytes, the sum of bytes, the sum of numbers (a million of them at the most).
-/
import Derived.Test.YtmfpjchfpoonmaaSipB
import Derived.Test.YtmfpjchfpoonmaaSipC
namespace Go.Proofs.Ytmfpjchfpoonmaa.Own
open Go.RowKit Go.Proofs.YtmfpjchfpoonmaaW.PrintWords Go.Proofs.YtmfpjchfpoonmaaW.PrintMore Go.Proofs.YtmfpjchfpoonmaaW.PrintLast
set_option linter.unusedVariables false
set_option linter.unusedSimpArgs false

theorem rroundv (g : Nat) (v : Int × Int × Int × Int) (w0 w : World) (H : Stt 52 w0 g v w) :
    Calls Try.prog 26 #[.pointer (some ⟨g, 0, none⟩)] w fun e w' => e = .returned (.tuple #[]) ∧ Stt 52 w0 g (rnd v) w' := rround g v.1 v.2.1 v.2.2.1 v.2.2.2 w0 w H

theorem reat (g : Nat) (v : Int × Int × Int × Int) (n : Int) (w0 w : World) (H : Stt 52 w0 g v w) :
    Calls Try.prog 24 #[.pointer (some ⟨g, 0, none⟩), .int .u64 n] w fun e w' => e = .returned (.tuple #[]) ∧ Stt 52 w0 g (eat v n) w' := by
  obtain ⟨a, b, c, d⟩ := v
  have c3 := H.c3
  have f3 := H.fz 3
  have HS := Aside0.mk (H.s3 (xor64 d n))
  clear H
  go_enter Try.func24, Try.ntmps24
  go_wp2_with fail
  refine (rround g _ _ _ _ w0 _ HS.out).mono ?_
  rintro e w' ⟨rfl, hS⟩
  replace HS := Aside0.mk hS
  clear hS c3 f3
  go_wp2_with fail
  refine (rround g _ _ _ _ w0 _ HS.out).mono ?_
  rintro e w' ⟨rfl, hS⟩
  have d0 := hS.c0
  have g0 := hS.fz 0
  replace HS := Aside0.mk hS
  clear hS
  go_wp2
  go_end0
  exact ⟨rfl, HS.out.s0 _⟩

theorem low (A : Option Addr) (n c : Nat) (l : List Int) (w : World) (h : Bs w A n c l) (h8 : n ≤ 8) :
    Calls Try.prog 25 #[.slice A n c] w fun e w' => e = .returned (.int .u64 (num l)) ∧ w = w' := by
  obtain ⟨rfl, hc, hr⟩ := h
  have HR := Aside0.mk hr
  clear hr
  go_enter Try.func25, Try.ntmps25
  go_wp2
  go_loop [3, 4] (fun o i => ∃ k : Nat, k ≤ l.length ∧ i = .int .i64 k ∧ o = .int .u64 (numTo l k)) (fun _ i => 8 - (intOf i).toNat)
  case atStart => exact ⟨0, Nat.zero_le _, rfl, rfl⟩
  case round =>
    obtain ⟨k, hk, rfl, rfl⟩ := hrel
    by_cases hlt : k < l.length
    · have h1 : k < 8 := by omega
      obtain ⟨ad, rfl, hx⟩ := Kd.at_int HR.out k (by omega) (by omega)
      rw [Int.toNat_natCast] at hx
      have h3 : 0 ≤ 8 * (k : Int) := by omega
      have h4 : 8 * (k : Int) ≤ 64 := by omega
      have h5 : IntKind.u64.wrap (k : Int) = k := u64_in _ (by omega) (by omega)
      have h6 : IntKind.u64.wrap (8 * (k : Int)) = 8 * (k : Int) := u64_in _ (by omega) (by omega)
      clear hk
      go_wp2
      go_round
      case rel => exact ⟨k + 1, by omega, by go_num, by rw [numTo, ← rd_nat]⟩
      case measure => simp [intOf]; omega
    · have h3 : k = min l.length 8 := by omega
      have HN : Hid (numTo l k = num l) := by rw [h3]; exact rfl
      clear h3
      go_wp2
      go_ret
      exact ⟨by rw [HN.out]; rfl, rfl⟩

/-- Eight bytes out of a slice, and what is behind. -/
theorem mid8 (A : Option Addr) (c : Nat) (l : List Int) (w : World) (h : Bs w A l.length c l) (j : Nat) (hj : j + 8 ≤ l.length) :
    ∃ A' : Option Addr, (∀ W : World, (Instr.slice 23 (.slice A l.length c) (some (.int .i64 (j : Int))) (some (.int .i64 ((j : Int) + 8))) none).run Try.prog W = .ok (.slice A' 8 (c - j)) W) ∧
      Bs w A' 8 (c - j) ((l.drop j).take 8) := by
  obtain ⟨_, hc, h⟩ := h
  obtain ⟨i0, hi, _, hsz, _⟩ := info_parts infoU8
  obtain ⟨A', h4, h5, h6⟩ := print_mid_of (P := Try.prog) (Value.int .u8) 0 23 5 .i64 .i64 Try.underlying23 hi hsz A c l j ((j : Int) + 8) (by omega) (by omega) (by omega) hc
  have e0 : ((j : Int) + 8).toNat = j + 8 := by omega
  have e3 : ((l.take ((j : Int) + 8).toNat).drop (j : Int).toNat) = (l.drop j).take 8 := by rw [e0, Int.toNat_natCast, List.drop_take]; congr 1; omega
  have e2 : ((l.drop j).take 8).length = 8 := by rw [List.length_take, List.length_drop]; omega
  rw [e3] at h4 h5 h6
  rw [Int.toNat_natCast] at h4
  exact ⟨A', fun W => by rw [h4 W, e2], ⟨e2, by omega, Kd.C_of_reads (h1 := fun _ => rfl) (h5 _ (Kd.reads_of_C h))⟩⟩
theorem dropN (A : Option Addr) (c : Nat) (l : List Int) (w : World) (h : Bs w A l.length c l) (j : Nat) (hj : j ≤ l.length) :
    ∃ A' : Option Addr, (∀ W : World, (Instr.slice 23 (.slice A l.length c) (some (.int .i64 (j : Int))) none none).run Try.prog W = .ok (.slice A' (l.length - j) (c - j)) W) ∧
      Bs w A' (l.length - j) (c - j) (l.drop j) := by
  obtain ⟨_, hc, h⟩ := h
  obtain ⟨i0, hi, _, hsz, _⟩ := info_parts infoU8
  obtain ⟨A', h4, h5, h6⟩ := print_drop_of (P := Try.prog) (Value.int .u8) 0 23 5 .i64 Try.underlying23 hi hsz A c l j (by omega) (by omega) hc
  have e2 : (l.drop j).length = l.length - j := List.length_drop
  rw [Int.toNat_natCast] at h4 h5 h6
  exact ⟨A', fun W => by rw [h4 W, e2], ⟨e2, by omega, Kd.C_of_reads (h1 := fun _ => rfl) (h5 _ (Kd.reads_of_C h))⟩⟩

set_option maxHeartbeats 2000000 in
theorem rof (a b : Int) (A : Option Addr) (c : Nat) (l : List Int) (w : World) (hr : Kd.C (Kd.int .u8) w A l.length l) (hc : l.length ≤ c) (hm : l.length ≤ 9223372036854775000) :
    Calls Try.prog 16 #[.agg #[.int .u64 a, .int .u64 b], .slice A l.length c] w fun e w' => e = .returned (.int .u64 (sipOf a b l)) ∧ Below w.heap.size w w' := by
  have HR : Aside0 (Bs w A l.length c l) := ⟨⟨rfl, hc, hr⟩⟩
  clear hr hc
  have HA := Aside0.mk (len_and l.length (by omega))
  have HT := Aside0.mk (len_top l.length)
  go_enter Try.func16, Try.ntmps16
  go_wp2
  go_loopw [6] (fun v6 wr => ∃ (j : Nat), v6 = .int .i64 (8 * j : Nat) ∧ Aside0 (8 * j ≤ l.length) ∧ Aside0 (Stt 52 w (w.heap.size + 1) (blks (sipInit a b) l j) wr)) (fun v6 _ => l.length - (intOf v6).toNat)
  case atStart =>
    exact ⟨0, rfl, ⟨by omega⟩, ⟨heap_two _ _ _, below_alloc (below_alloc (Below.refl _ _) _) _, by omega⟩⟩
  case round =>
    obtain ⟨j, rfl, HM, HS⟩ := hrel
    have hmj := HM.out
    by_cases h8 : 8 * j + 8 ≤ l.length
    · obtain ⟨A2, hc1, hk1⟩ := mid8 A c l w HR.out (8 * j) h8
      obtain ⟨i, hi⟩ : ∃ i, i = 8 * j := ⟨_, rfl⟩
      rw [← hi] at hc1 h8 hmj hk1
      have HK1 := Aside0.mk hk1
      clear hk1
      have HI := Aside0.mk hi
      rw [← hi]
      clear hi
      go_wp2_with (first | (go_at_call 25; refine (low _ _ _ _ _ (HK1.out.below HS.out.below) (by decide)).mono ?_; rintro e w' ⟨rfl, rfl⟩) | (go_at_call 24; refine (reat _ _ _ w _ HS.out).mono ?_; rintro e w' ⟨rfl, hS⟩; have HS' := Aside0.mk hS; clear hS))
      go_roundw
      case rel => exact ⟨j + 1, by rw [HI.out]; go_num, ⟨by rw [HI.out] at h8; omega⟩, ⟨by have h := HS'.out; rw [HI.out] at h; exact h⟩⟩
      case measure => simp [intOf]; omega
    · have hJ : j = l.length / 8 := by omega
      have HL := Aside0.mk (lastNum_of (l := l) rfl hJ)
      have HJ := Aside0.mk hJ
      clear hJ
      obtain ⟨A2, hc1, hk1⟩ := dropN A c l w HR.out (8 * j) hmj
      obtain ⟨i, hi⟩ : ∃ i, i = 8 * j := ⟨_, rfl⟩
      rw [← hi] at hc1 h8 hmj hk1
      have HK1 := Aside0.mk hk1
      clear hk1
      have HI := Aside0.mk hi
      rw [← hi]
      clear hi
      have HD := HK1
      clear HK1
      go_wp2_with (first | (go_at_call 25; refine (low _ _ _ _ _ (HD.out.below HS.out.below) (by omega)).mono ?_; rintro e w' ⟨rfl, rfl⟩) | (go_at_call 24; refine (reat _ _ _ w _ HS.out).mono ?_; rintro e w' ⟨rfl, hS⟩; have HS' := Aside0.mk hS; clear hS; have d2 := HS'.out.c2; have f2 := HS'.out.fz 2))
      refine (rroundv _ _ w _ (HS'.out.s2' _)).mono ?_
      rintro e w' ⟨rfl, hS⟩
      have HS1 := Aside0.mk hS
      clear hS d2 f2
      go_wp2_with fail
      refine (rroundv _ _ w _ HS1.out).mono ?_
      rintro e w' ⟨rfl, hS⟩
      have HS2 := Aside0.mk hS
      clear hS
      go_wp2_with fail
      refine (rroundv _ _ w _ HS2.out).mono ?_
      rintro e w' ⟨rfl, hS⟩
      have HS3 := Aside0.mk hS
      clear hS
      go_wp2_with fail
      refine (rroundv _ _ w _ HS3.out).mono ?_
      rintro e w' ⟨rfl, hS⟩
      have HS4 := Aside0.mk hS
      have e0 := hS.c0
      have e1 := hS.c1
      have e2 := hS.c2
      have e3 := hS.c3
      clear hS
      go_wp2
      go_quiet (fail)
      go_wp2
      go_ret
      refine ⟨?_, pw_below_drewN HS4.out.below _⟩
      rw [sipOf, ← HJ.out, HL.out, ← HT.out, ← HA.out, HI.out]
      rfl

set_option maxHeartbeats 4000000 in
theorem rwords (a b : Int) (A : Option Addr) (c : Nat) (l : List Int) (w : World) (hr : Kd.C (Kd.int .i64) w A l.length l) (hc : l.length ≤ c) (hl : l.length ≤ 1048576) :
    Calls Try.prog 20 #[.agg #[.int .u64 a, .int .u64 b], .slice A l.length c] w fun e w' => e = .returned (.int .u64 (sipWords a b l)) ∧ Below w.heap.size w w' := by
  have HR := Aside0.mk hr
  clear hr
  obtain ⟨W1, hW1⟩ : ∃ W1, W1 = w.alloc (.cells #[.int .u64 a, .int .u64 b] 26) := ⟨_, rfl⟩
  have hs1 : W1.heap.size = w.heap.size + 1 := by rw [hW1]; simp
  have HS1 := Aside0.mk hs1
  have HB : Aside0 (Below (w.heap.size + 1) W1 W1) := ⟨by rw [← hs1]; exact Below.refl _ _⟩
  have HO : Aside0 (Kd.R (Kd.int .u8) 5 W1 (w.heap.size + 1) (fun _ => True) (.slice none 0 0) []) := ⟨Kd.R_nil _ _ _ _ _⟩
  have HW1 := Aside0.mk hW1
  clear hW1 hs1
  go_enter Try.func20, Try.ntmps20
  go_wp2
  rw [← HW1.out]
  go_loopw [5, 6] (fun v5 v15 wr => ∃ k : Nat, k ≤ l.length ∧ v15 = .int .i64 k ∧ Aside0 (Kd.R (Kd.int .u8) 5 wr (w.heap.size + 1) (fun _ => True) v5 (wordBytes (l.take k))) ∧ Aside0 (Below (w.heap.size + 1) W1 wr)) (fun _ v15 _ => l.length - (intOf v15).toNat)
  case atStart => exact ⟨0, Nat.zero_le _, rfl, ⟨by simpa [wordBytes] using HO.out⟩, HB⟩
  case round =>
    clear HO HB
    obtain ⟨k, hk, rfl, HO, HB⟩ := hrel
    by_cases hlt : k < l.length
    · obtain ⟨ad, rfl, hx⟩ := Kd.at_int HR.out k (by omega) (by omega)
      rw [Int.toNat_natCast] at hx
      have hlt1 := World.block_lt_of_cell? w _ hx
      have hx1 : W1.cell? (ad.add k) = some (.int .i64 (rd l k)) := by
        rw [HW1.out]
        exact ((below_alloc (Below.refl _ _) _).cell hlt1).trans hx
      have HX : Aside0 (∀ wr, Below (w.heap.size + 1) W1 wr → wr.cell? (ad.add k) = some (.int .i64 (rd l k))) := ⟨fun wr hb => (hb.cell (p := ad.add k) (by omega)).trans hx1⟩
      clear hx hx1 hlt1
      go_wp2
      obtain ⟨wo, hwo⟩ : ∃ wo : World, wo = wr := ⟨_, rfl⟩
      go_loopw [5, 7] (fun v5 v19 wr => ∃ j : Nat, j ≤ 8 ∧ v19 = .int .i64 j ∧ Aside0 (Kd.R (Kd.int .u8) 5 wr (w.heap.size + 1) (fun _ => True) v5 (wordBytes (l.take k) ++ wordTo (rd l k) j)) ∧ Aside0 (Below (w.heap.size + 1) W1 wr)) (fun _ v19 _ => 8 - (intOf v19).toNat)
      case atStart => exact ⟨0, by omega, rfl, ⟨by simpa [wordTo] using HO.out⟩, HB⟩
      case round =>
        clear HO HB
        obtain ⟨j, hj, rfl, HO, HB⟩ := hrel
        by_cases hj8 : j < 8
        · have h3 : 0 ≤ 8 * (j : Int) := by omega
          have h4 : 8 * (j : Int) ≤ 64 := by omega
          have h5 : IntKind.u64.wrap (j : Int) = j := u64_in _ (by omega) (by omega)
          have h6 : IntKind.u64.wrap (8 * (j : Int)) = 8 * (j : Int) := u64_in _ (by omega) (by omega)
          have HL : Hid ((wordBytes (l.take k) ++ wordTo (rd l k) j).length ≤ 8388616) := by
            unfold Hid
            rw [List.length_append, wordBytes_length, wordTo_length, List.length_take]; omega
          have hx := HX.out wr HB.out
          go_wp2_with (first | ((with_reducible refine gate_builtin (b := .append) (xs := #[.tmp 18, .tmp 29]) rfl ?_); at_builtin; refine Kd.R_append (Kd.int .u8) (w0 := W1) (w.heap.size + 1) rfl (.tmp 18) (.tmp 29) 23 5 (.int .u8 0) 1 rfl Try.underlying23 infoU8 rfl (by decide) (by omega) u5 (wordBytes (l.take k) ++ wordTo (rd l k) j) (byteAt (rd l k) j) [.int .u8 (byteAt (rd l k) j)] (fun _ => True) (fun _ => False) rfl rfl ?aP (fun _ hk => hk.elim) ?aF ?aO ?aB ?aS ?aL ?_; (case aP => exact rfl); (case aB => exact HB.out); (case aF => exact (fun _ _ => trivial)); (case aO => exact HO.out); (case aS => (have := HB.out.size; rw [HS1.out] at this; omega)); (case aL => (have := HL.out; omega)); intro v112 w13 ho hb hg hat; have HO' := Aside0.mk ho; have HB' := Aside0.mk hb; clear ho hb hg hat HO HB))
          go_roundw
          case rel => exact ⟨j + 1, by omega, by go_num, ⟨by rw [wordTo_succ, ← List.append_assoc]; exact HO'.out⟩, HB'⟩
          case measure => simp [intOf]; omega
        · obtain rfl : j = 8 := by omega
          have HO2 := Aside0.mk HO.out
          go_wp2
          go_roundw
          case rel => exact ⟨k + 1, by omega, by go_num, ⟨by rw [← words_in l k hlt]; exact HO2.out⟩, HB⟩
          case measure => simp [intOf]; omega
    · obtain rfl : k = l.length := by omega
      obtain ⟨bs, hbs⟩ : ∃ bs, bs = wordBytes l := ⟨_, rfl⟩
      have HR2 : Kd.R (Kd.int .u8) 5 wr (w.heap.size + 1) (fun _ => True) u5 bs := by rw [hbs, ← List.take_length (l := l)]; exact HO.out
      have HBL : Aside0 (bs.length ≤ 9223372036854775000) := ⟨by rw [hbs, wordBytes_length]; omega⟩
      have HBS := Aside0.mk hbs
      clear hbs HO
      obtain ⟨A2, c2, rfl, hl2, hC⟩ := Kd.R_reads HR2
      have hb0 : wr.heap[w.heap.size]? = some (.cells #[.int .u64 a, .int .u64 b] 26 (0, 0)) := by
        rw [HB.out.block _ (by omega), HW1.out]
        exact heap_alloc_new _ _
      have hc0 : wr.cell? ⟨w.heap.size, 0, none⟩ = some (.int .u64 a) := (blk_cell hb0 0).trans rfl
      have hc1 : wr.cell? ⟨w.heap.size, 1, none⟩ = some (.int .u64 b) := (blk_cell hb0 1).trans rfl
      have HC := Aside0.mk hC
      have HL2 := Aside0.mk hl2
      have HBW : Aside0 (Below w.heap.size w wr) := ⟨by
        have h1 : Below w.heap.size w W1 := by rw [HW1.out]; exact below_alloc (Below.refl _ _) _
        exact h1.trans ⟨HB.out.os, HB.out.tape, HB.out.output, HB.out.size, fun i hi => HB.out.block i (by omega)⟩⟩
      clear HR2 hb0 hC hl2
      go_wp2_with (go_at_call 16; refine (rof a b A2 c2 bs _ HC.out HL2.out HBL.out).mono ?_; rintro e w' ⟨rfl, hb⟩; have HE := Aside0.mk (below_step HBW.out hb); clear hb)
      go_ret
      exact ⟨by rw [HBS.out]; rfl, HE.out⟩
end Go.Proofs.Ytmfpjchfpoonmaa.Own
