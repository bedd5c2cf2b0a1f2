/-
  The walk of roundhouseref6.All.
-/
import Derived.Test.YtkpfojpmigchlaaWheL
namespace Go.Proofs.Ytkpfojpmigchlaa.Own
open Go Go.RowKit Go.Proofs.YtkpfojpmigchlaaW.PrintWords Go.Proofs.YtkpfojpmigchlaaW.PrintMore Go.Proofs.YtkpfojpmigchlaaW.PrintLast Go.Proofs.Ytkpfojpmigchlaa.Q
set_option linter.unusedVariables false
set_option linter.unusedSimpArgs false

/-- An entry. -/
structure EN where
  k : Int
  s : Int
  a : Int
  b : Int
  c : Int
  x : Int
  y : Int
def WFE (e : EN) : Prop := WF e.k e.s e.a e.b e.c e.x e.y
def apE (p : PL) (e : EN) : PL × Int := applyP p e.k e.s e.a e.b e.c e.x e.y
theorem apE_len (p : PL) (e : EN) (h : p.sl.length = 64) : (apE p e).1.sl.length = 64 := applyP_len _ _ _ _ _ _ _ _ h
theorem apE_calls (p : PL) (hp : p.sl.length = 64) (e : EN) (hwf : WFE e) (w0 : World) : Calls Try.prog 22 #[.agg (pcs p), .agg #[.int .i64 e.k, .int .i64 e.s, .int .i64 e.a, .int .i64 e.b, .int .i64 e.c, .int .u64 e.x, .int .u64 e.y]] w0 fun r w' => r = .returned (.tuple #[.agg (pcs (apE p e).1), .int .i64 (apE p e).2]) ∧ Below w0.heap.size w0 w' :=
  apply_calls p hp _ _ _ _ _ _ _ hwf w0
end Go.Proofs.Ytkpfojpmigchlaa.Own
