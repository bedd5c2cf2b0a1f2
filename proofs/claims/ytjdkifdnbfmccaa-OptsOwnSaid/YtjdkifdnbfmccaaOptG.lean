/-
  The contracts of opts.Walk, opts.Stamp, opts.Make in the form in which a printed text calls them.
-/
import Derived.Test.YtjdkifdnbfmccaaOptB
import Derived.Test.YtjdkifdnbfmccaaOptC
namespace Go.Proofs.Ytjdkifdnbfmccaa.Own
open Go.RowKit Go.Proofs.YtjdkifdnbfmccaaW.PrintWords Go.Proofs.YtjdkifdnbfmccaaW.PrintMore Go.Proofs.YtjdkifdnbfmccaaW.PrintLast Go.Proofs.Ytjdkifdnbfmccaa.Q
set_option linter.unusedVariables false

theorem owalk_mono (l : List Int) : ∀ (k i : Nat) (out : List S42), LeO (owalk l k i out) (owalk l (k + 1) i out)
  | 0, _, _ => LeO.none _
  | k + 1, i, out => by
    unfold owalk
    refine LeO.ite (LeO.refl _) (LeO.ite (LeO.ite (LeO.refl _) (LeO.ite (LeO.refl _) (LeO.ite (LeO.refl _) (owalk_mono l k _ _)))) (LeO.ite (LeO.refl _) (owalk_mono l k _ _)))
def opts_Walk.f (k : Nat) (l : List Int) : Option (List S42 × Int) := if l.length ≤ 1048576 ∧ ∀ x ∈ l, 0 ≤ x ∧ x ≤ 255 then owalk l k 0 [] else none
theorem opts_Walk.mono : ∀ l k, LeO (opts_Walk.f k l) (opts_Walk.f (k + 1) l) := fun l k => LeO.ite (owalk_mono l k 0 []) (LeO.none _)
theorem opts_Walk.calls (k : Nat) (A : Option Addr) (c : Nat) (l : List Int) (r1 : List S42) (r2 : Int) (w : World) (hr : Kd.C (Kd.int .u8) w A l.length l) (hc : l.length ≤ c) (h : opts_Walk.f k l = some (r1, r2)) :
    Calls Try.prog 16 #[.slice A l.length c] w fun e w' => ∃ v0_ : Value, e = .returned (.tuple #[v0_, .int .i64 r2]) ∧ Kd.V k42 42 w' w.heap.size (fun k_ => (w.heap.size ≤ k_)) v0_ r1 ∧ Below w.heap.size w w' := by
  unfold opts_Walk.f at h
  split at h
  · exact walk16 k A c l (r1, r2) w hr hc (‹_ ∧ _›).1 (‹_ ∧ _›).2 h
  · exact absurd h (by simp)
def opts_Stamp.f (k : Nat) (l : List Int) : Option (Int × Int × Int × Bool) := (opts_Walk.f k l).bind (ostamp l)
theorem opts_Stamp.mono : ∀ l k, LeO (opts_Stamp.f k l) (opts_Stamp.f (k + 1) l) := fun l k => LeO.bind (opts_Walk.mono l k) (fun _ => LeO.refl _)
theorem opts_Stamp.calls (k : Nat) (A : Option Addr) (c : Nat) (l : List Int) (r1 r2 r3 : Int) (r4 : Bool) (w : World) (hr : Kd.C (Kd.int .u8) w A l.length l) (hc : l.length ≤ c) (h : opts_Stamp.f k l = some (r1, r2, r3, r4)) :
    Calls Try.prog 18 #[.slice A l.length c] w fun e w' => e = .returned (.tuple #[.int .i64 r1, .int .u32 r2, .int .u32 r3, .bool r4]) ∧ Below w.heap.size w w' := by
  obtain ⟨r, h1, h2⟩ := Option.bind_eq_some_iff.1 h
  unfold opts_Walk.f at h1
  split at h1
  · exact stamp18 k A c l r (r1, r2, r3, r4) w hr hc (‹_ ∧ _›).1 (‹_ ∧ _›).2 h1 h2
  · exact absurd h1 (by simp)
def opts_Make.f (k : Nat) (v e : Int) : Option (List Int) := match k with
  | 0 => none
  | _ + 1 => some (mk12 v e)
theorem opts_Make.mono : ∀ v e k, LeO (opts_Make.f k v e) (opts_Make.f (k + 1) v e) := by
  intro v e k
  cases k with
  | zero => exact LeO.none _
  | succ k => exact LeO.refl _
theorem opts_Make.calls (k : Nat) (v e : Int) (r : List Int) (w : World) (h : opts_Make.f k v e = some r) :
    Calls Try.prog 22 #[.int .u32 v, .int .u32 e] w fun e' w' => ∃ v0_ : Value, e' = .returned (v0_) ∧ Kd.R (Kd.int .u8) 5 w' w.heap.size (fun _ => True) v0_ r ∧ Below w.heap.size w w' := by
  cases k with
  | zero => exact absurd h (by simp [opts_Make.f])
  | succ k =>
    obtain rfl := Option.some.inj (show some (mk12 v e) = some r from h)
    exact make22 v e w
end Go.Proofs.Ytjdkifdnbfmccaa.Own
