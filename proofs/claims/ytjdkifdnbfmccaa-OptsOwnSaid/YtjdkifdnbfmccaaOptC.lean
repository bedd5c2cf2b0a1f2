/-
  The walk of the program's opts.Make: twelve bytes, in memory of their own.
-/
import Derived.Test.YtjdkifdnbfmccaaQ0
namespace Go.Proofs.Ytjdkifdnbfmccaa.Own
open Go.RowKit Go.Proofs.YtjdkifdnbfmccaaW.PrintWords Go.Proofs.YtjdkifdnbfmccaaW.PrintMore Go.Proofs.YtjdkifdnbfmccaaW.PrintLast Go.Proofs.Ytjdkifdnbfmccaa.Q
set_option linter.unusedVariables false
set_option linter.unusedSimpArgs false

theorem clip33 (A : Option Addr) (n c : Nat) (hn : n ≤ c) (w : World) : Calls Try.prog 33 #[.slice A n c] w fun e w' => e = .returned (.slice A n n) ∧ w = w' := by
  go_enter Try.func33, Try.ntmps33
  go_wp2
  go_ret
  exact ⟨rfl, rfl⟩
/-- A number's four bytes, the highest first. -/
def be4 (n : Int) : List Int := [n / 16777216 % 256, n / 65536 % 256, n / 256 % 256, n % 256]
/-- Two empty options, and a stamp's. -/
def mk12 (v e : Int) : List Int := [1, 1, 8, 10] ++ be4 v ++ be4 e
def mkTo (v e : Int) : Nat → List Int
  | 0 => [1, 1, 8, 10]
  | 1 => [1, 1, 8, 10] ++ be4 v
  | _ => mk12 v e
set_option maxHeartbeats 4000000 in
theorem make22 (v e : Int) (w : World) : Calls Try.prog 22 #[.int .u32 v, .int .u32 e] w fun e' w' => ∃ v0_ : Value, e' = .returned v0_ ∧ Kd.R (Kd.int .u8) 5 w' w.heap.size (fun _ => True) v0_ (mk12 v e) ∧ Below w.heap.size w w' := by
  obtain ⟨i0, hi, hz0, hz1, hz2⟩ := info_parts info5
  obtain ⟨W1, hmk, hown, hgrow⟩ := run_make_own (P := Try.prog) w w.heap.size 23 5 i0 _ 1 Try.underlying23 hi hz0 hz1 .i64 .i64 12 (by rw [hz2]; omega) (by unfold maxLen; omega) (Nat.le_refl _)
  rw [show ((12 : Nat) : Int) = 12 from rfl] at hmk
  have HOW := Aside0.mk hown
  have HI := Aside0.mk hi
  have HZ := Aside0.mk hz1
  have HB := Aside0.mk (show Below w.heap.size w W1 from ⟨hgrow.os, hgrow.tape, hgrow.output, hgrow.size, fun i h => hgrow.block i h (by simp)⟩)
  have hlt : w.heap.size < W1.heap.size := own_lt hown _ rfl
  have HLT := Aside0.mk hlt
  clear hi hz0 hz1 hz2 hown hgrow hlt
  go_enter Try.func22, Try.ntmps22
  go_wp2_with (first | (at_builtin; refine wpList_append_fits _ rfl (.tmp 9) (.tmp 10) 23 rfl w.heap.size 5 i0 1 Try.underlying23 HI.out HZ.out w.heap.size 0 12 [] rfl (HOW.out.alloc _) ⟨W1.heap.size, 0, none⟩ 4 4 [.int .u8 1, .int .u8 1, .int .u8 8, .int .u8 10] rfl rfl ?c1 ?c2 (by omega) ?_; (case c1 => exact World.news_of_block (cs := #[.int .u8 1, .int .u8 1, .int .u8 8, .int .u8 10]) (t := 5) (fr := (0, 0)) (heap_alloc_new W1 _)); (case c2 => simp [Value.oneCell']); intro w2 ho hg; have HO2 := Aside0.mk ho; have HG2 := Aside0.mk hg; clear ho hg))
  have HB2 : Aside0 (Below w.heap.size w w2) := ⟨(below_alloc HB.out _).grown HG2.out (Nat.le_of_lt (by simp; have := HLT.out; omega)) (fun k hk => by cases hk; exact Nat.le_refl _)⟩
  have HO3 : Aside0 (w2.ownsRow w.heap.size 5 1 (.slice (some ⟨w.heap.size, 0, none⟩) (4 + 4 * 0) 12) (4 + 4 * 0) (nums .u8 (mkTo v e 0))) := HO2
  have HGT : Aside0 (w.heap.size < w2.heap.size) := ⟨by have := HG2.out.size; have h := HLT.out; simp at this; omega⟩
  clear HO2 HG2 HOW HB hmk
  go_loopw [5, 16] (fun v5 v16 wr => ∃ k : Nat, k ≤ 2 ∧ v16 = .int .i64 k ∧ v5 = .slice (some ⟨w.heap.size, 0, none⟩) (4 + 4 * k) 12 ∧ Aside0 (wr.ownsRow w.heap.size 5 1 (.slice (some ⟨w.heap.size, 0, none⟩) (4 + 4 * k) 12) (4 + 4 * k) (nums .u8 (mkTo v e k))) ∧ Aside0 (Below w.heap.size w wr) ∧ Aside0 (wr.heap[w2.heap.size]? = some (.cells #[.int .u32 v, .int .u32 e] 35 (0, 0)))) (fun _ v16 _ => 2 - (intOf v16).toNat)
  case atStart => exact ⟨0, by omega, rfl, rfl, ⟨HO3.out.alloc _⟩, ⟨below_alloc HB2.out _⟩, ⟨heap_alloc_new _ _⟩⟩
  case round =>
    clear HO3 HB2
    obtain ⟨k, hk, rfl, rfl, HO, HB, HN⟩ := hrel
    obtain ⟨x, hx⟩ : ∃ x : Int, x = if k = 0 then v else e := ⟨_, rfl⟩
    by_cases hlt : k < 2
    · have hc : wr.cell? ⟨w2.heap.size, k, none⟩ = some (.int .u32 x) := by
        rw [blk_cell HN.out k]
        rcases (show k = 0 ∨ k = 1 by omega) with rfl | rfl <;> (rw [hx]; rfl)
      have hm : mkTo v e (k + 1) = mkTo v e k ++ be4 x := by
        rcases (show k = 0 ∨ k = 1 by omega) with rfl | rfl <;> (rw [hx]; rfl)
      have HM := Aside0.mk hm
      have HWR : Aside0 (w.heap.size < wr.heap.size) := ⟨own_lt HO.out _ rfl⟩
      clear hx hm
      obtain ⟨n, hn⟩ : ∃ n, n = 4 + 4 * k := ⟨_, rfl⟩
      rw [← hn] at HO ⊢
      have HNN := Aside0.mk hn
      have hn8 : n + 4 ≤ 12 := by omega
      clear hn
      go_wp2_with (first | (at_builtin; refine wpList_append_fits _ rfl (.tmp 20) (.tmp 32) 23 rfl w.heap.size 5 i0 1 Try.underlying23 HI.out HZ.out w.heap.size n 12 (nums .u8 (mkTo v e k)) rfl (HO.out.alloc _) ⟨wr.heap.size, 0, none⟩ 4 4 (nums .u8 (be4 x)) rfl rfl ?c1 ?c2 hn8 ?_; (case c1 => exact World.news_of_block (cs := #[.int .u8 (x / 16777216 % 256), .int .u8 (x / 65536 % 256), .int .u8 (x / 256 % 256), .int .u8 (x % 256)]) (t := 5) (fr := (0, 0)) (heap_alloc_new wr _)); (case c2 => simp [nums, be4, Value.oneCell']); intro w3 ho hg; have HO4 := Aside0.mk ho; have HG4 := Aside0.mk hg; clear ho hg))
      have HB4 : Aside0 (Below w.heap.size w w3) := ⟨(below_alloc HB.out _).grown HG4.out (Nat.le_of_lt (by simp; have := HWR.out; omega)) (fun k hk => by cases hk; exact Nat.le_refl _)⟩
      have HN4 : Aside0 (w3.heap[w2.heap.size]? = some (.cells #[.int .u32 v, .int .u32 e] 35 (0, 0))) := ⟨blk_grown (blk_below HN.out (below_alloc (Below.refl _ _) _)) HG4.out (fun he => by injection he with he; have := HGT.out; omega)⟩
      have HO5 : Aside0 (w3.ownsRow w.heap.size 5 1 (.slice (some ⟨w.heap.size, 0, none⟩) (4 + 4 * (k + 1)) 12) (4 + 4 * (k + 1)) (nums .u8 (mkTo v e (k + 1)))) := by
        rw [HM.out, nums_append, show 4 + 4 * (k + 1) = n + 4 from by rw [HNN.out]; omega]
        exact HO4
      have e4 : 4 + 4 * (k + 1) = n + 4 := by rw [HNN.out]; omega
      have HE4 := Aside0.mk e4
      clear HO4 HG4 HO HB HN e4
      go_roundw
      case rel => exact ⟨k + 1, by omega, by go_num, by rw [HE4.out], HO5, HB4, HN4⟩
      case measure => simp [intOf]; omega
    · obtain rfl : k = 2 := by omega
      clear hx
      have HR : Aside0 (Kd.R (Kd.int .u8) 5 wr w.heap.size (fun _ => True) (.slice (some ⟨w.heap.size, 0, none⟩) 12 12) (mk12 v e)) := ⟨Kd.R_of_own HO.out (fun _ _ => trivial)⟩
      go_wp2_with (go_at_call 33; refine (clip33 _ _ _ (by decide) _).mono ?_; rintro e' w' ⟨rfl, rfl⟩)
      go_ret
      exact ⟨_, rfl, HR.out, HB.out⟩
end Go.Proofs.Ytjdkifdnbfmccaa.Own
