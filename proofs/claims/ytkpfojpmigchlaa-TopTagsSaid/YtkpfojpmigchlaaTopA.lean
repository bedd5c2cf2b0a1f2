/-
  sum.Add (a goto's loop) and wire.clone (a copy), as plain functions of bytes.
-/
import Derived.Test.YtkpfojpmigchlaaSipA
import Derived.ScopeJumps
import Derived.WalkMore
namespace Go.Proofs.Ytkpfojpmigchlaa.Own
open Go Go.RowKit Go.Proofs.YtkpfojpmigchlaaW.PrintWords Go.Proofs.YtkpfojpmigchlaaW.PrintMore Go.Proofs.YtkpfojpmigchlaaW.PrintLast
set_option linter.unusedVariables false
set_option linter.unusedSimpArgs false

theorem wp_scope_loop {P : Program} {a : Act} {w : World} {Q : Exit → Act → World → Prop} {c rest : Code} (l : Nat) (J : Act → World → Prop) (μ : Act → World → Nat) (hf : findLabel c l = some (Code.skip.seq rest))
    (enter : (∀ a w, J a w → rest.wp P (Exit.jump l J Q) a w) → c.wp P (Exit.jump l J Q) a w)
    (pass : ∀ a w, J a w → rest.wp P (Exit.jump l (fun a' w' => J a' w' ∧ μ a' w' < μ a w) Q) a w) : (Code.scope c).wp P Q a w := by
  refine wp_scope_jumps l J μ hf (enter fun a w h => wp_mono (pass a w h) ?_) (fun a w h => ?_)
  · intro e a' w' hq
    cases e <;> first | exact hq | exact ⟨hq.1, hq.2.1⟩
  · exact wp_seq (wp_skip (pass a w h))
/-- Two numbers of two bytes, added. -/
def plusI (a b : Int) : Int := wrap64 ((Go.bits .and .i64 (wrap64 (a + b)) 65535) + (Go.bits .and .i64 ((wrap64 (a + b)) / 65536) 65535))
theorem plus_calls (a b : Int) (w : World) : Calls Try.prog 80 #[.int .i64 a, .int .i64 b] w fun e w' => e = .returned (.int .i64 (plusI a b)) ∧ w = w' := by
  go_enter Try.func80, Try.ntmps80
  go_wp2
  go_ret
  exact ⟨rfl, rfl⟩
/-- Pairs of bytes, added, from one on. -/
def sumAdd (l : List Int) : Nat → Nat → Int → Option Int
  | 0, _, _ => none
  | k + 1, i, s =>
    if i < l.length then
      if i + 1 < l.length then sumAdd l k (i + 2) (plusI s (wrap64 (wrap64 (wrap64 (rd l (i : Int)) * 256) + wrap64 (rd l ((i + 1 : Nat) : Int)))))
      else sumAdd l k (i + 2) (plusI s (wrap64 (wrap64 (rd l (i : Int)) * 256)))
    else some s
/-- The frame at the label. -/
def AddAt (A : Option Addr) (n c : Nat) (s : Int) (i : Nat) (a : Act) : Prop := ∃ (u5 u6 u7 u8 u9 u10 u11 u12 u13 u14 u15 u16 u17 u18 u19 u20 u21 u22 u23 u24 u25 u26 u27 u28 u29 u30 u31 u32 u33 u34 : Value), a = { tmps := #[.slice A n c, undef, .int .i64 0, .int .i64 s, .int .i64 i, u5, u6, u7, u8, u9, u10, u11, u12, u13, u14, u15, u16, u17, u18, u19, u20, u21, u22, u23, u24, u25, u26, u27, u28, u29, u30, u31, u32, u33, u34], defers := [] }

set_option maxHeartbeats 16000000 in
set_option maxRecDepth 100000 in
theorem add_calls (k : Nat) (A : Option Addr) (c : Nat) (l : List Int) (r : Int) (w : World) (hr : Kd.C (Kd.int .u8) w A l.length l) (hc : l.length ≤ c) (hl : l.length ≤ 1048576) (h : sumAdd l k 0 0 = some r) :
    Calls Try.prog 48 #[.slice A l.length c] w fun e w' => e = .returned (.int .i64 r) ∧ w = w' := by
  have HR := Aside0.mk hr
  have HF := Aside0.mk h
  have HL := Aside0.mk hl
  clear hr h hl
  go_enter Try.func48, Try.ntmps48
  go_wp2
  refine wp_scope_loop 0 (fun a' w' => ∃ (gk : Nat) (s : Int) (i : Nat), AddAt A l.length c s i a' ∧ Aside0 (i ≤ l.length + 1 ∧ sumAdd l gk i s = some r) ∧ w = w') (fun a' _ => l.length + 2 - (intOf (a'.tmps.getD 4 undef)).toNat) rfl ?_ ?_
  · intro H
    go_wp2
    go_step3
    rename_i hK
    refine hK _ _ (H _ _ ⟨k, 0, 0, ⟨_, _, _, _, _, _, _, _, _, _, _, _, _, _, _, _, _, _, _, _, _, _, _, _, _, _, _, _, _, _, rfl⟩, ⟨by omega, HF.out⟩, rfl⟩)
  · rintro a' w' ⟨gk, s, i, ⟨u5, u6, u7, u8, u9, u10, u11, u12, u13, u14, u15, u16, u17, u18, u19, u20, u21, u22, u23, u24, u25, u26, u27, u28, u29, u30, u31, u32, u33, u34, rfl⟩, HI, rfl⟩
    dsimp only
    cases gk with
    | zero => exact absurd HI.out.2 (by simp [sumAdd])
    | succ gk =>
    have hstep := HI.out.2
    simp only [sumAdd] at hstep
    by_cases c1 : i < l.length
    · rw [if_pos c1] at hstep
      have c1b : decide ((i : Int) < (l.length : Int)) = true := decide_eq_true (by omega)
      have p1 : ((0 : Int) ≤ (i : Int)) = True := eq_true (by omega)
      have p2 : ((i : Int) < (l.length : Int)) = True := eq_true (by omega)
      have p3 : (i < l.length) = True := eq_true c1
      obtain ⟨ad, rfl, hx⟩ := Kd.at_int HR.out i (by omega) (by omega)
      rw [Int.toNat_natCast] at hx
      have hw1 : wrap64 ((i : Int) + 1) = (i : Int) + 1 := by have h_ := HL.out; unfold wrap64; omega
      have hw2 : wrap64 ((i : Int) + 2) = (i : Int) + 2 := by have h_ := HL.out; unfold wrap64; omega
      by_cases c2 : i + 1 < l.length
      · rw [if_pos c2] at hstep
        have c2b : decide ((i : Int) + 1 < (l.length : Int)) = true := decide_eq_true (by omega)
        have p4 : ((0 : Int) ≤ (i : Int) + 1) = True := eq_true (by omega)
        have p5 : ((i : Int) + 1 < (l.length : Int)) = True := eq_true (by omega)
        have p6 : (i + 1 < l.length) = True := eq_true c2
        obtain ⟨ad2, ha2, hx1⟩ := Kd.at_int HR.out ((i + 1 : Nat) : Int) (by omega) (by omega)
        obtain rfl := Option.some.inj ha2
        rw [Int.toNat_natCast] at hx1
        have hz : w.cell? ⟨ad.block, ad.off + (i + 1), none⟩ = some (.int .u8 (rd l ((i + 1 : Nat) : Int))) := by rw [show (⟨ad.block, ad.off + (i + 1), none⟩ : Addr) = ad.add (i + 1) from by simp [Addr.add]]; exact hx1
        have HN : Aside0 (i + 2 ≤ l.length + 1 ∧ sumAdd l gk (i + 2) (plusI s (wrap64 (wrap64 (wrap64 (rd l (i : Int)) * 256) + wrap64 (rd l ((i + 1 : Nat) : Int))))) = some r) := ⟨by omega, hstep⟩
        have HI2 := Aside0.mk c1
        clear hstep ha2 c1 c2
        go_wp2_with (go_at_call 80; refine (plus_calls _ _ _).mono ?_; rintro e w' ⟨rfl, rfl⟩)
        go_step3
        rw [hw2, show (i : Int) + 2 = ((i + 2 : Nat) : Int) from by omega]
        refine ⟨rfl, ⟨gk, _, i + 2, ⟨_, _, _, _, _, _, _, _, _, _, _, _, _, _, _, _, _, _, _, _, _, _, _, _, _, _, _, _, _, _, rfl⟩, HN, rfl⟩, ?_⟩
        have h_ := HI2.out
        simp [intOf]
        omega
      · rw [if_neg c2] at hstep
        have c2b : decide ((i : Int) + 1 < (l.length : Int)) = false := decide_eq_false (by omega)
        have p5 : ((i : Int) + 1 < (l.length : Int)) = False := eq_false (by omega)
        have p6 : (i + 1 < l.length) = False := eq_false c2
        have HN : Aside0 (i + 2 ≤ l.length + 1 ∧ sumAdd l gk (i + 2) (plusI s (wrap64 (wrap64 (rd l (i : Int)) * 256))) = some r) := ⟨by omega, hstep⟩
        have HI2 := Aside0.mk c1
        clear hstep c1 c2
        go_wp2_with (go_at_call 80; refine (plus_calls _ _ _).mono ?_; rintro e w' ⟨rfl, rfl⟩)
        go_step3
        rw [hw2, show (i : Int) + 2 = ((i + 2 : Nat) : Int) from by omega]
        refine ⟨rfl, ⟨gk, _, i + 2, ⟨_, _, _, _, _, _, _, _, _, _, _, _, _, _, _, _, _, _, _, _, _, _, _, _, _, _, _, _, _, _, rfl⟩, HN, rfl⟩, ?_⟩
        have h_ := HI2.out
        simp [intOf]
        omega
    · rw [if_neg c1] at hstep
      obtain rfl := Option.some.inj hstep
      have c1b : decide ((i : Int) < (l.length : Int)) = false := decide_eq_false (by omega)
      have p3 : (i < l.length) = False := eq_false c1
      clear hstep c1
      go_wp2
      simp only [Exit.jump]
      go_ret
      exact ⟨rfl, rfl⟩
end Go.Proofs.Ytkpfojpmigchlaa.Own
