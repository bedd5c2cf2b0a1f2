/-
  No cell of these rows narrows 'for every input' (looked for: loops, veiled, ifaces, maps, wideKeys, modest, calm, conditions, laid).
  DERIVED. THE GIVEN ROWS OF THIS SEAT. 13 by the template 'for every input the law returns true; each argument reads behind the call as it read before'; 0 by the template 'total and deterministic' (their statements: YtnaplobnkmdfbaaTotals.lean).
  GIVEN WITH THE SEED: the statements are not yours to turn. If you find one false, say at which input.
  Laid BY PROGRAM, IN A SANDBOX (cutbox-rows.mjs): the forced cells as the released guide's own fill.sh prints them over the translation 8ee26c70022e3ac7… (all of the seat's roots in one cut). By AI agents, Wed Nov 11 2026. No macro, syntax, notation, axiom, sorry.
-/
import Derived.Test.YtnaplobnkmdfbaaChecked
import GoSem.Claim
import GoSem.ClaimJoined
import GoSem.ClaimMapViews
import Derived.JoinedTies
import Derived.KernelRfl
namespace Go.Proofs.Ytnaplobnkmdfbaa
/- THE CELL 'sum', in the pinned program and in every row, IS THE sha256 OF THE DUMP (.gsa) THAT YtnaplobnkmdfbaaProg.lean LOADS. Nothing in Lean hashes anything: it is a label: what it is worth is what the hold of that sum in a sandbox is worth. -/
noncomputable def Try.pinned : Pinned := { name := "ytnaplobnkmdfbaa", sum := "8ee26c70022e3ac79bb518a08fe6c551537da884a79f6a0e7a807118dae87a76", checked := Try.checked }
namespace Rows
def none {H : Type} : Left H := { results := [], args := [] }

/-- 'roundhouselaw5.CookieMakes': WHATEVER THE INPUT: true; the input reads as it did. -/
def cookieMakesSpec : ChangeSpec := { name := "cookieMakes", fn := fun _ => fun
  | [d1, d2, d3, d4, d5, d6] => { results := [.lit (.bool true)], args := [d1, d2, d3, d4, d5, d6] }
  | _ => none }
def cookieMakesRow : OpenClaim := { program := "ytnaplobnkmdfbaa", sum := "8ee26c70022e3ac79bb518a08fe6c551537da884a79f6a0e7a807118dae87a76", func := "roundhouse/roundhouselaw5.CookieMakes", spec := "cookieMakes", apart := false }
def CookieMakesSaid : Prop := cookieMakesRow.holds Try.pinned (OpenSpec.ofChange cookieMakesSpec)

/-- ITS FALSE NEIGHBOUR: 'it returns false'. Refute it at one input. -/
def cookieMakesWrong : ChangeSpec := { name := "cookieMakes", fn := fun _ => fun
  | [d1, d2, d3, d4, d5, d6] => { results := [.lit (.bool false)], args := [d1, d2, d3, d4, d5, d6] }
  | _ => none }
def CookieMakesWrongFalsely : Prop := cookieMakesRow.holds Try.pinned (OpenSpec.ofChange cookieMakesWrong)

/-- 'roundhouselaw5.CookieReads': WHATEVER THE INPUT: true; the input reads as it did. -/
def cookieReadsSpec : ChangeSpec := { name := "cookieReads", fn := fun _ => fun
  | [d1, d2, d3, d4, d5, d6, d7, d8, d9] => { results := [.lit (.bool true)], args := [d1, d2, d3, d4, d5, d6, d7, d8, d9] }
  | _ => none }
def cookieReadsRow : OpenClaim := { program := "ytnaplobnkmdfbaa", sum := "8ee26c70022e3ac79bb518a08fe6c551537da884a79f6a0e7a807118dae87a76", func := "roundhouse/roundhouselaw5.CookieReads", spec := "cookieReads", apart := false }
def CookieReadsSaid : Prop := cookieReadsRow.holds Try.pinned (OpenSpec.ofChange cookieReadsSpec)

/-- ITS FALSE NEIGHBOUR: 'it returns false'. Refute it at one input. -/
def cookieReadsWrong : ChangeSpec := { name := "cookieReads", fn := fun _ => fun
  | [d1, d2, d3, d4, d5, d6, d7, d8, d9] => { results := [.lit (.bool false)], args := [d1, d2, d3, d4, d5, d6, d7, d8, d9] }
  | _ => none }
def CookieReadsWrongFalsely : Prop := cookieReadsRow.holds Try.pinned (OpenSpec.ofChange cookieReadsWrong)

/-- 'roundhouselaw5.CookieAges': WHATEVER THE INPUT: true; the input reads as it did. -/
def cookieAgesSpec : ChangeSpec := { name := "cookieAges", fn := fun _ => fun
  | [d1, d2, d3, d4, d5, d6, d7] => { results := [.lit (.bool true)], args := [d1, d2, d3, d4, d5, d6, d7] }
  | _ => none }
def cookieAgesRow : OpenClaim := { program := "ytnaplobnkmdfbaa", sum := "8ee26c70022e3ac79bb518a08fe6c551537da884a79f6a0e7a807118dae87a76", func := "roundhouse/roundhouselaw5.CookieAges", spec := "cookieAges", apart := false }
def CookieAgesSaid : Prop := cookieAgesRow.holds Try.pinned (OpenSpec.ofChange cookieAgesSpec)

/-- ITS FALSE NEIGHBOUR: 'it returns false'. Refute it at one input. -/
def cookieAgesWrong : ChangeSpec := { name := "cookieAges", fn := fun _ => fun
  | [d1, d2, d3, d4, d5, d6, d7] => { results := [.lit (.bool false)], args := [d1, d2, d3, d4, d5, d6, d7] }
  | _ => none }
def CookieAgesWrongFalsely : Prop := cookieAgesRow.holds Try.pinned (OpenSpec.ofChange cookieAgesWrong)

/-- 'roundhouselaw5.CookieRings': WHATEVER THE INPUT: true; the input reads as it did. -/
def cookieRingsSpec : ChangeSpec := { name := "cookieRings", fn := fun _ => fun
  | [d1, d2, d3, d4] => { results := [.lit (.bool true)], args := [d1, d2, d3, d4] }
  | _ => none }
def cookieRingsRow : OpenClaim := { program := "ytnaplobnkmdfbaa", sum := "8ee26c70022e3ac79bb518a08fe6c551537da884a79f6a0e7a807118dae87a76", func := "roundhouse/roundhouselaw5.CookieRings", spec := "cookieRings", apart := false }
def CookieRingsSaid : Prop := cookieRingsRow.holds Try.pinned (OpenSpec.ofChange cookieRingsSpec)

/-- ITS FALSE NEIGHBOUR: 'it returns false'. Refute it at one input. -/
def cookieRingsWrong : ChangeSpec := { name := "cookieRings", fn := fun _ => fun
  | [d1, d2, d3, d4] => { results := [.lit (.bool false)], args := [d1, d2, d3, d4] }
  | _ => none }
def CookieRingsWrongFalsely : Prop := cookieRingsRow.holds Try.pinned (OpenSpec.ofChange cookieRingsWrong)

/-- 'roundhouselaw5.CookieOne': WHATEVER THE INPUT: true; the input reads as it did. -/
def cookieOneSpec : ChangeSpec := { name := "cookieOne", fn := fun _ => fun
  | [d1, d2, d3, d4, d5, d6, d7] => { results := [.lit (.bool true)], args := [d1, d2, d3, d4, d5, d6, d7] }
  | _ => none }
def cookieOneRow : OpenClaim := { program := "ytnaplobnkmdfbaa", sum := "8ee26c70022e3ac79bb518a08fe6c551537da884a79f6a0e7a807118dae87a76", func := "roundhouse/roundhouselaw5.CookieOne", spec := "cookieOne", apart := false }
def CookieOneSaid : Prop := cookieOneRow.holds Try.pinned (OpenSpec.ofChange cookieOneSpec)

/-- ITS FALSE NEIGHBOUR: 'it returns false'. Refute it at one input. -/
def cookieOneWrong : ChangeSpec := { name := "cookieOne", fn := fun _ => fun
  | [d1, d2, d3, d4, d5, d6, d7] => { results := [.lit (.bool false)], args := [d1, d2, d3, d4, d5, d6, d7] }
  | _ => none }
def CookieOneWrongFalsely : Prop := cookieOneRow.holds Try.pinned (OpenSpec.ofChange cookieOneWrong)

/-- 'roundhouselaw5.CookieOrder': WHATEVER THE INPUT: true; the input reads as it did. -/
def cookieOrderSpec : ChangeSpec := { name := "cookieOrder", fn := fun _ => fun
  | [d1, d2, d3, d4] => { results := [.lit (.bool true)], args := [d1, d2, d3, d4] }
  | _ => none }
def cookieOrderRow : OpenClaim := { program := "ytnaplobnkmdfbaa", sum := "8ee26c70022e3ac79bb518a08fe6c551537da884a79f6a0e7a807118dae87a76", func := "roundhouse/roundhouselaw5.CookieOrder", spec := "cookieOrder", apart := false }
def CookieOrderSaid : Prop := cookieOrderRow.holds Try.pinned (OpenSpec.ofChange cookieOrderSpec)

/-- ITS FALSE NEIGHBOUR: 'it returns false'. Refute it at one input. -/
def cookieOrderWrong : ChangeSpec := { name := "cookieOrder", fn := fun _ => fun
  | [d1, d2, d3, d4] => { results := [.lit (.bool false)], args := [d1, d2, d3, d4] }
  | _ => none }
def CookieOrderWrongFalsely : Prop := cookieOrderRow.holds Try.pinned (OpenSpec.ofChange cookieOrderWrong)

/-- 'roundhouselaw5.CookieParts': WHATEVER THE INPUT: true; the input reads as it did. -/
def cookiePartsSpec : ChangeSpec := { name := "cookieParts", fn := fun _ => fun
  | [d1, d2, d3, d4, d5, d6] => { results := [.lit (.bool true)], args := [d1, d2, d3, d4, d5, d6] }
  | _ => none }
def cookiePartsRow : OpenClaim := { program := "ytnaplobnkmdfbaa", sum := "8ee26c70022e3ac79bb518a08fe6c551537da884a79f6a0e7a807118dae87a76", func := "roundhouse/roundhouselaw5.CookieParts", spec := "cookieParts", apart := false }
def CookiePartsSaid : Prop := cookiePartsRow.holds Try.pinned (OpenSpec.ofChange cookiePartsSpec)

/-- ITS FALSE NEIGHBOUR: 'it returns false'. Refute it at one input. -/
def cookiePartsWrong : ChangeSpec := { name := "cookieParts", fn := fun _ => fun
  | [d1, d2, d3, d4, d5, d6] => { results := [.lit (.bool false)], args := [d1, d2, d3, d4, d5, d6] }
  | _ => none }
def CookiePartsWrongFalsely : Prop := cookiePartsRow.holds Try.pinned (OpenSpec.ofChange cookiePartsWrong)

/-- 'roundhouselaw5.CookieAll': WHATEVER THE INPUT: true; the input reads as it did. -/
def cookieAllSpec : ChangeSpec := { name := "cookieAll", fn := fun _ => fun
  | [d1, d2, d3, d4, d5] => { results := [.lit (.bool true)], args := [d1, d2, d3, d4, d5] }
  | _ => none }
def cookieAllRow : OpenClaim := { program := "ytnaplobnkmdfbaa", sum := "8ee26c70022e3ac79bb518a08fe6c551537da884a79f6a0e7a807118dae87a76", func := "roundhouse/roundhouselaw5.CookieAll", spec := "cookieAll", apart := false }
def CookieAllSaid : Prop := cookieAllRow.holds Try.pinned (OpenSpec.ofChange cookieAllSpec)

/-- ITS FALSE NEIGHBOUR: 'it returns false'. Refute it at one input. -/
def cookieAllWrong : ChangeSpec := { name := "cookieAll", fn := fun _ => fun
  | [d1, d2, d3, d4, d5] => { results := [.lit (.bool false)], args := [d1, d2, d3, d4, d5] }
  | _ => none }
def CookieAllWrongFalsely : Prop := cookieAllRow.holds Try.pinned (OpenSpec.ofChange cookieAllWrong)

/-- 'roundhouselaw5.CookieFourth': WHATEVER THE INPUT: true; the input reads as it did. -/
def cookieFourthSpec : ChangeSpec := { name := "cookieFourth", fn := fun _ => fun
  | [d1, d2, d3, d4, d5, d6] => { results := [.lit (.bool true)], args := [d1, d2, d3, d4, d5, d6] }
  | _ => none }
def cookieFourthRow : OpenClaim := { program := "ytnaplobnkmdfbaa", sum := "8ee26c70022e3ac79bb518a08fe6c551537da884a79f6a0e7a807118dae87a76", func := "roundhouse/roundhouselaw5.CookieFourth", spec := "cookieFourth", apart := false }
def CookieFourthSaid : Prop := cookieFourthRow.holds Try.pinned (OpenSpec.ofChange cookieFourthSpec)

/-- ITS FALSE NEIGHBOUR: 'it returns false'. Refute it at one input. -/
def cookieFourthWrong : ChangeSpec := { name := "cookieFourth", fn := fun _ => fun
  | [d1, d2, d3, d4, d5, d6] => { results := [.lit (.bool false)], args := [d1, d2, d3, d4, d5, d6] }
  | _ => none }
def CookieFourthWrongFalsely : Prop := cookieFourthRow.holds Try.pinned (OpenSpec.ofChange cookieFourthWrong)

/-- 'roundhouselaw5.CookieFlows': WHATEVER THE INPUT: true; the input reads as it did. -/
def cookieFlowsSpec : ChangeSpec := { name := "cookieFlows", fn := fun _ => fun
  | [d1, d2, d3, d4, d5, d6, d7] => { results := [.lit (.bool true)], args := [d1, d2, d3, d4, d5, d6, d7] }
  | _ => none }
def cookieFlowsRow : OpenClaim := { program := "ytnaplobnkmdfbaa", sum := "8ee26c70022e3ac79bb518a08fe6c551537da884a79f6a0e7a807118dae87a76", func := "roundhouse/roundhouselaw5.CookieFlows", spec := "cookieFlows", apart := false }
def CookieFlowsSaid : Prop := cookieFlowsRow.holds Try.pinned (OpenSpec.ofChange cookieFlowsSpec)

/-- ITS FALSE NEIGHBOUR: 'it returns false'. Refute it at one input. -/
def cookieFlowsWrong : ChangeSpec := { name := "cookieFlows", fn := fun _ => fun
  | [d1, d2, d3, d4, d5, d6, d7] => { results := [.lit (.bool false)], args := [d1, d2, d3, d4, d5, d6, d7] }
  | _ => none }
def CookieFlowsWrongFalsely : Prop := cookieFlowsRow.holds Try.pinned (OpenSpec.ofChange cookieFlowsWrong)

/-- 'roundhouselaw5.CookiePuts': WHATEVER THE INPUT: true; the input reads as it did. -/
def cookiePutsSpec : ChangeSpec := { name := "cookiePuts", fn := fun _ => fun
  | [d1, d2, d3, d4] => { results := [.lit (.bool true)], args := [d1, d2, d3, d4] }
  | _ => none }
def cookiePutsRow : OpenClaim := { program := "ytnaplobnkmdfbaa", sum := "8ee26c70022e3ac79bb518a08fe6c551537da884a79f6a0e7a807118dae87a76", func := "roundhouse/roundhouselaw5.CookiePuts", spec := "cookiePuts", apart := false }
def CookiePutsSaid : Prop := cookiePutsRow.holds Try.pinned (OpenSpec.ofChange cookiePutsSpec)

/-- ITS FALSE NEIGHBOUR: 'it returns false'. Refute it at one input. -/
def cookiePutsWrong : ChangeSpec := { name := "cookiePuts", fn := fun _ => fun
  | [d1, d2, d3, d4] => { results := [.lit (.bool false)], args := [d1, d2, d3, d4] }
  | _ => none }
def CookiePutsWrongFalsely : Prop := cookiePutsRow.holds Try.pinned (OpenSpec.ofChange cookiePutsWrong)

/-- 'roundhouselaw5.CookieNear': WHATEVER THE INPUT: true; the input reads as it did. -/
def cookieNearSpec : ChangeSpec := { name := "cookieNear", fn := fun _ => fun
  | [d1, d2] => { results := [.lit (.bool true)], args := [d1, d2] }
  | _ => none }
def cookieNearRow : OpenClaim := { program := "ytnaplobnkmdfbaa", sum := "8ee26c70022e3ac79bb518a08fe6c551537da884a79f6a0e7a807118dae87a76", func := "roundhouse/roundhouselaw5.CookieNear", spec := "cookieNear", apart := false }
def CookieNearSaid : Prop := cookieNearRow.holds Try.pinned (OpenSpec.ofChange cookieNearSpec)

/-- ITS FALSE NEIGHBOUR: 'it returns false'. Refute it at one input. -/
def cookieNearWrong : ChangeSpec := { name := "cookieNear", fn := fun _ => fun
  | [d1, d2] => { results := [.lit (.bool false)], args := [d1, d2] }
  | _ => none }
def CookieNearWrongFalsely : Prop := cookieNearRow.holds Try.pinned (OpenSpec.ofChange cookieNearWrong)

/-- 'roundhouselaw5.CookieKnown': WHATEVER THE INPUT: true; the input reads as it did. -/
def cookieKnownSpec : ChangeSpec := { name := "cookieKnown", fn := fun _ => fun
  | [d] => { results := [.lit (.bool true)], args := [d] }
  | _ => none }
def cookieKnownRow : OpenClaim := { program := "ytnaplobnkmdfbaa", sum := "8ee26c70022e3ac79bb518a08fe6c551537da884a79f6a0e7a807118dae87a76", func := "roundhouse/roundhouselaw5.CookieKnown", spec := "cookieKnown", apart := false }
def CookieKnownSaid : Prop := cookieKnownRow.holds Try.pinned (OpenSpec.ofChange cookieKnownSpec)

/-- ITS FALSE NEIGHBOUR: 'it returns false'. Refute it at one input. -/
def cookieKnownWrong : ChangeSpec := { name := "cookieKnown", fn := fun _ => fun
  | [d] => { results := [.lit (.bool false)], args := [d] }
  | _ => none }
def CookieKnownWrongFalsely : Prop := cookieKnownRow.holds Try.pinned (OpenSpec.ofChange cookieKnownWrong)

/- THE SECOND FORM. 'bulk': how many values and letters a reading holds, each counted each time it is reached (what is shared counts as often as it is met; a slice's spare places count too). A statement '..UptoSaid' is the law's where the arguments, and the package variables that the reading takes, are together of bulk at most 1048576: NARROWER than '..Said'. Prove '..Said' where nothing that the law and all that it calls make is longer than what came in: it says more and counts as full. Else prove '..UptoSaid'. A law counts once. -/
mutual
def uptoBulk {H : Type} : DataW H → Nat
  | .lit (.string bytes) => bytes.length + 1
  | .lit _ => 1
  | .nil => 1
  | .ptr d => uptoBulk d + 1
  | .slice elems spare => uptoBulkAll elems + uptoBulkAll spare + 1
  | .agg parts => uptoBulkAll parts + 1
  | .iface _ d => uptoBulk d + 1
  | .map entries => uptoBulkEntries entries + 1
  | .held _ => 1
def uptoBulkAll {H : Type} : List (DataW H) → Nat
  | [] => 0
  | d :: r => uptoBulk d + uptoBulkAll r
def uptoBulkEntries {H : Type} : List (Lit × DataW H) → Nat
  | [] => 0
  | x :: r => uptoBulkEntry x + uptoBulkEntries r
def uptoBulkEntry {H : Type} : Lit × DataW H → Nat
  | (.string bytes, d) => bytes.length + uptoBulk d + 1
  | (_, d) => uptoBulk d + 1
 end
def uptoSmall : (H : Type) → List (DataW H) → Bool := fun _ ds => decide (uptoBulkAll ds ≤ 1048576)
def OpenSpec.upto (s : _root_.Go.ChangeSpec) : _root_.Go.OpenSpec := { _root_.Go.OpenSpec.ofChange s with cond := some uptoSmall }

/-- 'roundhouselaw5.CookieMakes', WHERE WHAT IT READS IS OF BULK AT MOST 1048576: true; the input reads as it did. -/
def cookieMakesUptoRow : OpenClaim := { program := "ytnaplobnkmdfbaa", sum := "8ee26c70022e3ac79bb518a08fe6c551537da884a79f6a0e7a807118dae87a76", func := "roundhouse/roundhouselaw5.CookieMakes", spec := "cookieMakes", apart := false, narrowed := true }
def CookieMakesUptoSaid : Prop := cookieMakesUptoRow.holds Try.pinned (OpenSpec.upto cookieMakesSpec)

/-- 'roundhouselaw5.CookieReads', WHERE WHAT IT READS IS OF BULK AT MOST 1048576: true; the input reads as it did. -/
def cookieReadsUptoRow : OpenClaim := { program := "ytnaplobnkmdfbaa", sum := "8ee26c70022e3ac79bb518a08fe6c551537da884a79f6a0e7a807118dae87a76", func := "roundhouse/roundhouselaw5.CookieReads", spec := "cookieReads", apart := false, narrowed := true }
def CookieReadsUptoSaid : Prop := cookieReadsUptoRow.holds Try.pinned (OpenSpec.upto cookieReadsSpec)

/-- 'roundhouselaw5.CookieAges', WHERE WHAT IT READS IS OF BULK AT MOST 1048576: true; the input reads as it did. -/
def cookieAgesUptoRow : OpenClaim := { program := "ytnaplobnkmdfbaa", sum := "8ee26c70022e3ac79bb518a08fe6c551537da884a79f6a0e7a807118dae87a76", func := "roundhouse/roundhouselaw5.CookieAges", spec := "cookieAges", apart := false, narrowed := true }
def CookieAgesUptoSaid : Prop := cookieAgesUptoRow.holds Try.pinned (OpenSpec.upto cookieAgesSpec)

/-- 'roundhouselaw5.CookieRings', WHERE WHAT IT READS IS OF BULK AT MOST 1048576: true; the input reads as it did. -/
def cookieRingsUptoRow : OpenClaim := { program := "ytnaplobnkmdfbaa", sum := "8ee26c70022e3ac79bb518a08fe6c551537da884a79f6a0e7a807118dae87a76", func := "roundhouse/roundhouselaw5.CookieRings", spec := "cookieRings", apart := false, narrowed := true }
def CookieRingsUptoSaid : Prop := cookieRingsUptoRow.holds Try.pinned (OpenSpec.upto cookieRingsSpec)

/-- 'roundhouselaw5.CookieOne', WHERE WHAT IT READS IS OF BULK AT MOST 1048576: true; the input reads as it did. -/
def cookieOneUptoRow : OpenClaim := { program := "ytnaplobnkmdfbaa", sum := "8ee26c70022e3ac79bb518a08fe6c551537da884a79f6a0e7a807118dae87a76", func := "roundhouse/roundhouselaw5.CookieOne", spec := "cookieOne", apart := false, narrowed := true }
def CookieOneUptoSaid : Prop := cookieOneUptoRow.holds Try.pinned (OpenSpec.upto cookieOneSpec)

/-- 'roundhouselaw5.CookieOrder', WHERE WHAT IT READS IS OF BULK AT MOST 1048576: true; the input reads as it did. -/
def cookieOrderUptoRow : OpenClaim := { program := "ytnaplobnkmdfbaa", sum := "8ee26c70022e3ac79bb518a08fe6c551537da884a79f6a0e7a807118dae87a76", func := "roundhouse/roundhouselaw5.CookieOrder", spec := "cookieOrder", apart := false, narrowed := true }
def CookieOrderUptoSaid : Prop := cookieOrderUptoRow.holds Try.pinned (OpenSpec.upto cookieOrderSpec)

/-- 'roundhouselaw5.CookieParts', WHERE WHAT IT READS IS OF BULK AT MOST 1048576: true; the input reads as it did. -/
def cookiePartsUptoRow : OpenClaim := { program := "ytnaplobnkmdfbaa", sum := "8ee26c70022e3ac79bb518a08fe6c551537da884a79f6a0e7a807118dae87a76", func := "roundhouse/roundhouselaw5.CookieParts", spec := "cookieParts", apart := false, narrowed := true }
def CookiePartsUptoSaid : Prop := cookiePartsUptoRow.holds Try.pinned (OpenSpec.upto cookiePartsSpec)

/-- 'roundhouselaw5.CookieAll', WHERE WHAT IT READS IS OF BULK AT MOST 1048576: true; the input reads as it did. -/
def cookieAllUptoRow : OpenClaim := { program := "ytnaplobnkmdfbaa", sum := "8ee26c70022e3ac79bb518a08fe6c551537da884a79f6a0e7a807118dae87a76", func := "roundhouse/roundhouselaw5.CookieAll", spec := "cookieAll", apart := false, narrowed := true }
def CookieAllUptoSaid : Prop := cookieAllUptoRow.holds Try.pinned (OpenSpec.upto cookieAllSpec)

/-- 'roundhouselaw5.CookieFourth', WHERE WHAT IT READS IS OF BULK AT MOST 1048576: true; the input reads as it did. -/
def cookieFourthUptoRow : OpenClaim := { program := "ytnaplobnkmdfbaa", sum := "8ee26c70022e3ac79bb518a08fe6c551537da884a79f6a0e7a807118dae87a76", func := "roundhouse/roundhouselaw5.CookieFourth", spec := "cookieFourth", apart := false, narrowed := true }
def CookieFourthUptoSaid : Prop := cookieFourthUptoRow.holds Try.pinned (OpenSpec.upto cookieFourthSpec)

/-- 'roundhouselaw5.CookieFlows', WHERE WHAT IT READS IS OF BULK AT MOST 1048576: true; the input reads as it did. -/
def cookieFlowsUptoRow : OpenClaim := { program := "ytnaplobnkmdfbaa", sum := "8ee26c70022e3ac79bb518a08fe6c551537da884a79f6a0e7a807118dae87a76", func := "roundhouse/roundhouselaw5.CookieFlows", spec := "cookieFlows", apart := false, narrowed := true }
def CookieFlowsUptoSaid : Prop := cookieFlowsUptoRow.holds Try.pinned (OpenSpec.upto cookieFlowsSpec)

/-- 'roundhouselaw5.CookiePuts', WHERE WHAT IT READS IS OF BULK AT MOST 1048576: true; the input reads as it did. -/
def cookiePutsUptoRow : OpenClaim := { program := "ytnaplobnkmdfbaa", sum := "8ee26c70022e3ac79bb518a08fe6c551537da884a79f6a0e7a807118dae87a76", func := "roundhouse/roundhouselaw5.CookiePuts", spec := "cookiePuts", apart := false, narrowed := true }
def CookiePutsUptoSaid : Prop := cookiePutsUptoRow.holds Try.pinned (OpenSpec.upto cookiePutsSpec)

/-- 'roundhouselaw5.CookieNear', WHERE WHAT IT READS IS OF BULK AT MOST 1048576: true; the input reads as it did. -/
def cookieNearUptoRow : OpenClaim := { program := "ytnaplobnkmdfbaa", sum := "8ee26c70022e3ac79bb518a08fe6c551537da884a79f6a0e7a807118dae87a76", func := "roundhouse/roundhouselaw5.CookieNear", spec := "cookieNear", apart := false, narrowed := true }
def CookieNearUptoSaid : Prop := cookieNearUptoRow.holds Try.pinned (OpenSpec.upto cookieNearSpec)

/-- 'roundhouselaw5.CookieKnown', WHERE WHAT IT READS IS OF BULK AT MOST 1048576: true; the input reads as it did. -/
def cookieKnownUptoRow : OpenClaim := { program := "ytnaplobnkmdfbaa", sum := "8ee26c70022e3ac79bb518a08fe6c551537da884a79f6a0e7a807118dae87a76", func := "roundhouse/roundhouselaw5.CookieKnown", spec := "cookieKnown", apart := false, narrowed := true }
def CookieKnownUptoSaid : Prop := cookieKnownUptoRow.holds Try.pinned (OpenSpec.upto cookieKnownSpec)

end Rows
end Go.Proofs.Ytnaplobnkmdfbaa
