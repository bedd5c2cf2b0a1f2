/-
  The keyed sums' contracts in the form in which a printed text calls them: a Lean function with an Option, and the call that comes to it.
-/
import Derived.Test.YtkpfojpmigchlaaSipC
namespace Go.Proofs.Ytkpfojpmigchlaa.Own
open Go.RowKit Go.Proofs.YtkpfojpmigchlaaW.PrintWords Go.Proofs.YtkpfojpmigchlaaW.PrintMore Go.Proofs.YtkpfojpmigchlaaW.PrintLast
set_option linter.unusedVariables false

def sip_Of.f (k : Nat) (a b : Int) (l : List Int) : Option Int := match k with
  | 0 => none
  | _ + 1 => some (sipOf a b l)
theorem sip_Of.mono : ∀ a b l k, LeO (sip_Of.f k a b l) (sip_Of.f (k + 1) a b l) := by
  intro a b l k
  cases k with
  | zero => exact LeO.none _
  | succ k => exact LeO.refl _
theorem sip_Of.calls (k : Nat) (a b : Int) (A : Option Addr) (c : Nat) (l : List Int) (r : Int) (w : World) (hr : Kd.C (Kd.int .u8) w A l.length l) (hc : l.length ≤ c) (h : sip_Of.f k a b l = some r) :
    Calls Try.prog 19 #[.agg #[.int .u64 a, .int .u64 b], .slice A l.length c] w fun e w' => e = .returned (.int .u64 r) ∧ Below w.heap.size w w' := by
  cases k with
  | zero => exact absurd h (by simp [sip_Of.f])
  | succ k =>
    have h2 : some (sipOf a b l) = some r := h
    obtain rfl := Option.some.inj h2
    exact sof a b A c l w hr hc
def sip_Words.f (k : Nat) (a b : Int) (l : List Int) : Option Int := match k with
  | 0 => none
  | _ + 1 => if l.length ≤ 1048576 then some (sipWords a b l) else none
theorem sip_Words.mono : ∀ a b l k, LeO (sip_Words.f k a b l) (sip_Words.f (k + 1) a b l) := by
  intro a b l k
  cases k with
  | zero => exact LeO.none _
  | succ k => exact LeO.refl _
theorem sip_Words.calls (k : Nat) (a b : Int) (A : Option Addr) (c : Nat) (l : List Int) (r : Int) (w : World) (hr : Kd.C (Kd.int .i64) w A l.length l) (hc : l.length ≤ c) (h : sip_Words.f k a b l = some r) :
    Calls Try.prog 12 #[.agg #[.int .u64 a, .int .u64 b], .slice A l.length c] w fun e w' => e = .returned (.int .u64 r) ∧ Below w.heap.size w w' := by
  cases k with
  | zero => exact absurd h (by simp [sip_Words.f])
  | succ k =>
    have h2 : (if l.length ≤ 1048576 then some (sipWords a b l) else none) = some r := h
    split at h2
    · obtain rfl := Option.some.inj h2
      exact swords a b A c l w hr hc (by omega)
    · exact absurd h2 (by simp)
end Go.Proofs.Ytkpfojpmigchlaa.Own
