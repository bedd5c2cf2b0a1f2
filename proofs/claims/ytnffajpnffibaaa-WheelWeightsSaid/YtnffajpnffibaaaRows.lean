/-
  No cell of these rows narrows 'for every input' (looked for: loops, veiled, ifaces, maps, wideKeys, modest, calm, conditions, laid).
  DERIVED. THE GIVEN ROWS OF THIS SEAT. 10 by the template 'for every input the law returns true; each argument reads behind the call as it read before'; 0 by the template 'total and deterministic' (their statements: YtnffajpnffibaaaTotals.lean).
  GIVEN WITH THE SEED: the statements are not yours to turn. If you find one false, say at which input.
  Laid BY PROGRAM, IN A SANDBOX (cutbox-rows.mjs): the forced cells as the released guide's own fill.sh prints them over the translation 9a50bbe4633ae8a0… (all of the seat's roots in one cut). By AI agents, Wed Nov 11 2026. No macro, syntax, notation, axiom, sorry.
-/
import Derived.Test.YtnffajpnffibaaaChecked
import GoSem.Claim
import GoSem.ClaimJoined
import GoSem.ClaimMapViews
import Derived.JoinedTies
import Derived.KernelRfl
namespace Go.Proofs.Ytnffajpnffibaaa
/- THE CELL 'sum', in the pinned program and in every row, IS THE sha256 OF THE DUMP (.gsa) THAT YtnffajpnffibaaaProg.lean LOADS. Nothing in Lean hashes anything: it is a label: what it is worth is what the hold of that sum in a sandbox is worth. -/
noncomputable def Try.pinned : Pinned := { name := "ytnffajpnffibaaa", sum := "9a50bbe4633ae8a096054d162691e226ca26f3aa420a15beb9dfffe943f145fc", checked := Try.checked }
namespace Rows
def none {H : Type} : Left H := { results := [], args := [] }

/-- 'roundhouselaw7.WheelMakes': WHATEVER THE INPUT: true; the input reads as it did. -/
def wheelMakesSpec : ChangeSpec := { name := "wheelMakes", fn := fun _ => fun
  | [d1, d2, d3] => { results := [.lit (.bool true)], args := [d1, d2, d3] }
  | _ => none }
def wheelMakesRow : OpenClaim := { program := "ytnffajpnffibaaa", sum := "9a50bbe4633ae8a096054d162691e226ca26f3aa420a15beb9dfffe943f145fc", func := "roundhouse/roundhouselaw7.WheelMakes", spec := "wheelMakes", apart := false }
def WheelMakesSaid : Prop := wheelMakesRow.holds Try.pinned (OpenSpec.ofChange wheelMakesSpec)

/-- ITS FALSE NEIGHBOUR: 'it returns false'. Refute it at one input. -/
def wheelMakesWrong : ChangeSpec := { name := "wheelMakes", fn := fun _ => fun
  | [d1, d2, d3] => { results := [.lit (.bool false)], args := [d1, d2, d3] }
  | _ => none }
def WheelMakesWrongFalsely : Prop := wheelMakesRow.holds Try.pinned (OpenSpec.ofChange wheelMakesWrong)

/-- 'roundhouselaw7.WheelShares': WHATEVER THE INPUT: true; the input reads as it did. -/
def wheelSharesSpec : ChangeSpec := { name := "wheelShares", fn := fun _ => fun
  | [d] => { results := [.lit (.bool true)], args := [d] }
  | _ => none }
def wheelSharesRow : OpenClaim := { program := "ytnffajpnffibaaa", sum := "9a50bbe4633ae8a096054d162691e226ca26f3aa420a15beb9dfffe943f145fc", func := "roundhouse/roundhouselaw7.WheelShares", spec := "wheelShares", apart := false }
def WheelSharesSaid : Prop := wheelSharesRow.holds Try.pinned (OpenSpec.ofChange wheelSharesSpec)

/-- ITS FALSE NEIGHBOUR: 'it returns false'. Refute it at one input. -/
def wheelSharesWrong : ChangeSpec := { name := "wheelShares", fn := fun _ => fun
  | [d] => { results := [.lit (.bool false)], args := [d] }
  | _ => none }
def WheelSharesWrongFalsely : Prop := wheelSharesRow.holds Try.pinned (OpenSpec.ofChange wheelSharesWrong)

/-- 'roundhouselaw7.WheelSame': WHATEVER THE INPUT: true; the input reads as it did. -/
def wheelSameSpec : ChangeSpec := { name := "wheelSame", fn := fun _ => fun
  | [d1, d2] => { results := [.lit (.bool true)], args := [d1, d2] }
  | _ => none }
def wheelSameRow : OpenClaim := { program := "ytnffajpnffibaaa", sum := "9a50bbe4633ae8a096054d162691e226ca26f3aa420a15beb9dfffe943f145fc", func := "roundhouse/roundhouselaw7.WheelSame", spec := "wheelSame", apart := false }
def WheelSameSaid : Prop := wheelSameRow.holds Try.pinned (OpenSpec.ofChange wheelSameSpec)

/-- ITS FALSE NEIGHBOUR: 'it returns false'. Refute it at one input. -/
def wheelSameWrong : ChangeSpec := { name := "wheelSame", fn := fun _ => fun
  | [d1, d2] => { results := [.lit (.bool false)], args := [d1, d2] }
  | _ => none }
def WheelSameWrongFalsely : Prop := wheelSameRow.holds Try.pinned (OpenSpec.ofChange wheelSameWrong)

/-- 'roundhouselaw7.WheelPicks': WHATEVER THE INPUT: true; the input reads as it did. -/
def wheelPicksSpec : ChangeSpec := { name := "wheelPicks", fn := fun _ => fun
  | [d1, d2, d3] => { results := [.lit (.bool true)], args := [d1, d2, d3] }
  | _ => none }
def wheelPicksRow : OpenClaim := { program := "ytnffajpnffibaaa", sum := "9a50bbe4633ae8a096054d162691e226ca26f3aa420a15beb9dfffe943f145fc", func := "roundhouse/roundhouselaw7.WheelPicks", spec := "wheelPicks", apart := false }
def WheelPicksSaid : Prop := wheelPicksRow.holds Try.pinned (OpenSpec.ofChange wheelPicksSpec)

/-- ITS FALSE NEIGHBOUR: 'it returns false'. Refute it at one input. -/
def wheelPicksWrong : ChangeSpec := { name := "wheelPicks", fn := fun _ => fun
  | [d1, d2, d3] => { results := [.lit (.bool false)], args := [d1, d2, d3] }
  | _ => none }
def WheelPicksWrongFalsely : Prop := wheelPicksRow.holds Try.pinned (OpenSpec.ofChange wheelPicksWrong)

/-- 'roundhouselaw7.WheelKeeps': WHATEVER THE INPUT: true; the input reads as it did. -/
def wheelKeepsSpec : ChangeSpec := { name := "wheelKeeps", fn := fun _ => fun
  | [d1, d2, d3] => { results := [.lit (.bool true)], args := [d1, d2, d3] }
  | _ => none }
def wheelKeepsRow : OpenClaim := { program := "ytnffajpnffibaaa", sum := "9a50bbe4633ae8a096054d162691e226ca26f3aa420a15beb9dfffe943f145fc", func := "roundhouse/roundhouselaw7.WheelKeeps", spec := "wheelKeeps", apart := false }
def WheelKeepsSaid : Prop := wheelKeepsRow.holds Try.pinned (OpenSpec.ofChange wheelKeepsSpec)

/-- ITS FALSE NEIGHBOUR: 'it returns false'. Refute it at one input. -/
def wheelKeepsWrong : ChangeSpec := { name := "wheelKeeps", fn := fun _ => fun
  | [d1, d2, d3] => { results := [.lit (.bool false)], args := [d1, d2, d3] }
  | _ => none }
def WheelKeepsWrongFalsely : Prop := wheelKeepsRow.holds Try.pinned (OpenSpec.ofChange wheelKeepsWrong)

/-- 'roundhouselaw7.WheelFirst': WHATEVER THE INPUT: true; the input reads as it did. -/
def wheelFirstSpec : ChangeSpec := { name := "wheelFirst", fn := fun _ => fun
  | [d] => { results := [.lit (.bool true)], args := [d] }
  | _ => none }
def wheelFirstRow : OpenClaim := { program := "ytnffajpnffibaaa", sum := "9a50bbe4633ae8a096054d162691e226ca26f3aa420a15beb9dfffe943f145fc", func := "roundhouse/roundhouselaw7.WheelFirst", spec := "wheelFirst", apart := false }
def WheelFirstSaid : Prop := wheelFirstRow.holds Try.pinned (OpenSpec.ofChange wheelFirstSpec)

/-- ITS FALSE NEIGHBOUR: 'it returns false'. Refute it at one input. -/
def wheelFirstWrong : ChangeSpec := { name := "wheelFirst", fn := fun _ => fun
  | [d] => { results := [.lit (.bool false)], args := [d] }
  | _ => none }
def WheelFirstWrongFalsely : Prop := wheelFirstRow.holds Try.pinned (OpenSpec.ofChange wheelFirstWrong)

/-- 'roundhouselaw7.WheelWeights': WHATEVER THE INPUT: true; the input reads as it did. -/
def wheelWeightsSpec : ChangeSpec := { name := "wheelWeights", fn := fun _ => fun
  | [d1, d2, d3, d4] => { results := [.lit (.bool true)], args := [d1, d2, d3, d4] }
  | _ => none }
def wheelWeightsRow : OpenClaim := { program := "ytnffajpnffibaaa", sum := "9a50bbe4633ae8a096054d162691e226ca26f3aa420a15beb9dfffe943f145fc", func := "roundhouse/roundhouselaw7.WheelWeights", spec := "wheelWeights", apart := false }
def WheelWeightsSaid : Prop := wheelWeightsRow.holds Try.pinned (OpenSpec.ofChange wheelWeightsSpec)

/-- ITS FALSE NEIGHBOUR: 'it returns false'. Refute it at one input. -/
def wheelWeightsWrong : ChangeSpec := { name := "wheelWeights", fn := fun _ => fun
  | [d1, d2, d3, d4] => { results := [.lit (.bool false)], args := [d1, d2, d3, d4] }
  | _ => none }
def WheelWeightsWrongFalsely : Prop := wheelWeightsRow.holds Try.pinned (OpenSpec.ofChange wheelWeightsWrong)

/-- 'roundhouselaw7.WheelLess': WHATEVER THE INPUT: true; the input reads as it did. -/
def wheelLessSpec : ChangeSpec := { name := "wheelLess", fn := fun _ => fun
  | [d1, d2, d3, d4] => { results := [.lit (.bool true)], args := [d1, d2, d3, d4] }
  | _ => none }
def wheelLessRow : OpenClaim := { program := "ytnffajpnffibaaa", sum := "9a50bbe4633ae8a096054d162691e226ca26f3aa420a15beb9dfffe943f145fc", func := "roundhouse/roundhouselaw7.WheelLess", spec := "wheelLess", apart := false }
def WheelLessSaid : Prop := wheelLessRow.holds Try.pinned (OpenSpec.ofChange wheelLessSpec)

/-- ITS FALSE NEIGHBOUR: 'it returns false'. Refute it at one input. -/
def wheelLessWrong : ChangeSpec := { name := "wheelLess", fn := fun _ => fun
  | [d1, d2, d3, d4] => { results := [.lit (.bool false)], args := [d1, d2, d3, d4] }
  | _ => none }
def WheelLessWrongFalsely : Prop := wheelLessRow.holds Try.pinned (OpenSpec.ofChange wheelLessWrong)

/-- 'roundhouselaw7.WheelPlaces': WHATEVER THE INPUT: true; the input reads as it did. -/
def wheelPlacesSpec : ChangeSpec := { name := "wheelPlaces", fn := fun _ => fun
  | [d1, d2, d3] => { results := [.lit (.bool true)], args := [d1, d2, d3] }
  | _ => none }
def wheelPlacesRow : OpenClaim := { program := "ytnffajpnffibaaa", sum := "9a50bbe4633ae8a096054d162691e226ca26f3aa420a15beb9dfffe943f145fc", func := "roundhouse/roundhouselaw7.WheelPlaces", spec := "wheelPlaces", apart := false }
def WheelPlacesSaid : Prop := wheelPlacesRow.holds Try.pinned (OpenSpec.ofChange wheelPlacesSpec)

/-- ITS FALSE NEIGHBOUR: 'it returns false'. Refute it at one input. -/
def wheelPlacesWrong : ChangeSpec := { name := "wheelPlaces", fn := fun _ => fun
  | [d1, d2, d3] => { results := [.lit (.bool false)], args := [d1, d2, d3] }
  | _ => none }
def WheelPlacesWrongFalsely : Prop := wheelPlacesRow.holds Try.pinned (OpenSpec.ofChange wheelPlacesWrong)

/-- 'roundhouselaw7.WheelMany': WHATEVER THE INPUT: true; the input reads as it did. -/
def wheelManySpec : ChangeSpec := { name := "wheelMany", fn := fun _ => fun
  | [d1, d2] => { results := [.lit (.bool true)], args := [d1, d2] }
  | _ => none }
def wheelManyRow : OpenClaim := { program := "ytnffajpnffibaaa", sum := "9a50bbe4633ae8a096054d162691e226ca26f3aa420a15beb9dfffe943f145fc", func := "roundhouse/roundhouselaw7.WheelMany", spec := "wheelMany", apart := false }
def WheelManySaid : Prop := wheelManyRow.holds Try.pinned (OpenSpec.ofChange wheelManySpec)

/-- ITS FALSE NEIGHBOUR: 'it returns false'. Refute it at one input. -/
def wheelManyWrong : ChangeSpec := { name := "wheelMany", fn := fun _ => fun
  | [d1, d2] => { results := [.lit (.bool false)], args := [d1, d2] }
  | _ => none }
def WheelManyWrongFalsely : Prop := wheelManyRow.holds Try.pinned (OpenSpec.ofChange wheelManyWrong)

/- THE SECOND FORM. 'bulk': how many values and letters a reading holds, each counted each time it is reached (what is shared counts as often as it is met; a slice's spare places count too). A statement '..UptoSaid' is the law's where the arguments, and the package variables that the reading takes, are together of bulk at most 1048576: NARROWER than '..Said'. Prove '..Said' where nothing that the law and all that it calls make is longer than what came in: it says more and counts as full. Else prove '..UptoSaid'. A law counts once. -/
mutual
def uptoBulk {H : Type} : DataW H → Nat
  | .lit (.string bytes) => bytes.length + 1
  | .lit _ => 1
  | .nil => 1
  | .ptr d => uptoBulk d + 1
  | .slice elems spare => uptoBulkAll elems + uptoBulkAll spare + 1
  | .agg parts => uptoBulkAll parts + 1
  | .iface _ d => uptoBulk d + 1
  | .map entries => uptoBulkEntries entries + 1
  | .held _ => 1
def uptoBulkAll {H : Type} : List (DataW H) → Nat
  | [] => 0
  | d :: r => uptoBulk d + uptoBulkAll r
def uptoBulkEntries {H : Type} : List (Lit × DataW H) → Nat
  | [] => 0
  | x :: r => uptoBulkEntry x + uptoBulkEntries r
def uptoBulkEntry {H : Type} : Lit × DataW H → Nat
  | (.string bytes, d) => bytes.length + uptoBulk d + 1
  | (_, d) => uptoBulk d + 1
 end
def uptoSmall : (H : Type) → List (DataW H) → Bool := fun _ ds => decide (uptoBulkAll ds ≤ 1048576)
def OpenSpec.upto (s : _root_.Go.ChangeSpec) : _root_.Go.OpenSpec := { _root_.Go.OpenSpec.ofChange s with cond := some uptoSmall }

/-- 'roundhouselaw7.WheelMakes', WHERE WHAT IT READS IS OF BULK AT MOST 1048576: true; the input reads as it did. -/
def wheelMakesUptoRow : OpenClaim := { program := "ytnffajpnffibaaa", sum := "9a50bbe4633ae8a096054d162691e226ca26f3aa420a15beb9dfffe943f145fc", func := "roundhouse/roundhouselaw7.WheelMakes", spec := "wheelMakes", apart := false, narrowed := true }
def WheelMakesUptoSaid : Prop := wheelMakesUptoRow.holds Try.pinned (OpenSpec.upto wheelMakesSpec)

/-- 'roundhouselaw7.WheelShares', WHERE WHAT IT READS IS OF BULK AT MOST 1048576: true; the input reads as it did. -/
def wheelSharesUptoRow : OpenClaim := { program := "ytnffajpnffibaaa", sum := "9a50bbe4633ae8a096054d162691e226ca26f3aa420a15beb9dfffe943f145fc", func := "roundhouse/roundhouselaw7.WheelShares", spec := "wheelShares", apart := false, narrowed := true }
def WheelSharesUptoSaid : Prop := wheelSharesUptoRow.holds Try.pinned (OpenSpec.upto wheelSharesSpec)

/-- 'roundhouselaw7.WheelSame', WHERE WHAT IT READS IS OF BULK AT MOST 1048576: true; the input reads as it did. -/
def wheelSameUptoRow : OpenClaim := { program := "ytnffajpnffibaaa", sum := "9a50bbe4633ae8a096054d162691e226ca26f3aa420a15beb9dfffe943f145fc", func := "roundhouse/roundhouselaw7.WheelSame", spec := "wheelSame", apart := false, narrowed := true }
def WheelSameUptoSaid : Prop := wheelSameUptoRow.holds Try.pinned (OpenSpec.upto wheelSameSpec)

/-- 'roundhouselaw7.WheelPicks', WHERE WHAT IT READS IS OF BULK AT MOST 1048576: true; the input reads as it did. -/
def wheelPicksUptoRow : OpenClaim := { program := "ytnffajpnffibaaa", sum := "9a50bbe4633ae8a096054d162691e226ca26f3aa420a15beb9dfffe943f145fc", func := "roundhouse/roundhouselaw7.WheelPicks", spec := "wheelPicks", apart := false, narrowed := true }
def WheelPicksUptoSaid : Prop := wheelPicksUptoRow.holds Try.pinned (OpenSpec.upto wheelPicksSpec)

/-- 'roundhouselaw7.WheelKeeps', WHERE WHAT IT READS IS OF BULK AT MOST 1048576: true; the input reads as it did. -/
def wheelKeepsUptoRow : OpenClaim := { program := "ytnffajpnffibaaa", sum := "9a50bbe4633ae8a096054d162691e226ca26f3aa420a15beb9dfffe943f145fc", func := "roundhouse/roundhouselaw7.WheelKeeps", spec := "wheelKeeps", apart := false, narrowed := true }
def WheelKeepsUptoSaid : Prop := wheelKeepsUptoRow.holds Try.pinned (OpenSpec.upto wheelKeepsSpec)

/-- 'roundhouselaw7.WheelFirst', WHERE WHAT IT READS IS OF BULK AT MOST 1048576: true; the input reads as it did. -/
def wheelFirstUptoRow : OpenClaim := { program := "ytnffajpnffibaaa", sum := "9a50bbe4633ae8a096054d162691e226ca26f3aa420a15beb9dfffe943f145fc", func := "roundhouse/roundhouselaw7.WheelFirst", spec := "wheelFirst", apart := false, narrowed := true }
def WheelFirstUptoSaid : Prop := wheelFirstUptoRow.holds Try.pinned (OpenSpec.upto wheelFirstSpec)

/-- 'roundhouselaw7.WheelWeights', WHERE WHAT IT READS IS OF BULK AT MOST 1048576: true; the input reads as it did. -/
def wheelWeightsUptoRow : OpenClaim := { program := "ytnffajpnffibaaa", sum := "9a50bbe4633ae8a096054d162691e226ca26f3aa420a15beb9dfffe943f145fc", func := "roundhouse/roundhouselaw7.WheelWeights", spec := "wheelWeights", apart := false, narrowed := true }
def WheelWeightsUptoSaid : Prop := wheelWeightsUptoRow.holds Try.pinned (OpenSpec.upto wheelWeightsSpec)

/-- 'roundhouselaw7.WheelLess', WHERE WHAT IT READS IS OF BULK AT MOST 1048576: true; the input reads as it did. -/
def wheelLessUptoRow : OpenClaim := { program := "ytnffajpnffibaaa", sum := "9a50bbe4633ae8a096054d162691e226ca26f3aa420a15beb9dfffe943f145fc", func := "roundhouse/roundhouselaw7.WheelLess", spec := "wheelLess", apart := false, narrowed := true }
def WheelLessUptoSaid : Prop := wheelLessUptoRow.holds Try.pinned (OpenSpec.upto wheelLessSpec)

/-- 'roundhouselaw7.WheelPlaces', WHERE WHAT IT READS IS OF BULK AT MOST 1048576: true; the input reads as it did. -/
def wheelPlacesUptoRow : OpenClaim := { program := "ytnffajpnffibaaa", sum := "9a50bbe4633ae8a096054d162691e226ca26f3aa420a15beb9dfffe943f145fc", func := "roundhouse/roundhouselaw7.WheelPlaces", spec := "wheelPlaces", apart := false, narrowed := true }
def WheelPlacesUptoSaid : Prop := wheelPlacesUptoRow.holds Try.pinned (OpenSpec.upto wheelPlacesSpec)

/-- 'roundhouselaw7.WheelMany', WHERE WHAT IT READS IS OF BULK AT MOST 1048576: true; the input reads as it did. -/
def wheelManyUptoRow : OpenClaim := { program := "ytnffajpnffibaaa", sum := "9a50bbe4633ae8a096054d162691e226ca26f3aa420a15beb9dfffe943f145fc", func := "roundhouse/roundhouselaw7.WheelMany", spec := "wheelMany", apart := false, narrowed := true }
def WheelManyUptoSaid : Prop := wheelManyUptoRow.holds Try.pinned (OpenSpec.upto wheelManySpec)

end Rows
end Go.Proofs.Ytnffajpnffibaaa
