/-
  No cell of these rows narrows 'for every input' (looked for: loops, veiled, ifaces, maps, wideKeys, modest, calm, conditions, laid).
  DERIVED. THE GIVEN ROWS OF THIS SEAT. 10 by the template 'for every input the law returns true; each argument reads behind the call as it read before'; 0 by the template 'total and deterministic' (their statements: YtjdkifdnbfmccaaTotals.lean).
  GIVEN WITH THE SEED: the statements are not yours to turn. If you find one false, say at which input.
  Laid BY PROGRAM, IN A SANDBOX (cutbox-rows.mjs): the forced cells as the released guide's own fill.sh prints them over the translation b54c827f501348dc… (all of the seat's roots in one cut). By AI agents, Wed Nov 11 2026. No macro, syntax, notation, axiom, sorry.
-/
import Derived.Test.YtjdkifdnbfmccaaChecked
import GoSem.Claim
import GoSem.ClaimJoined
import GoSem.ClaimMapViews
import Derived.JoinedTies
import Derived.KernelRfl
namespace Go.Proofs.Ytjdkifdnbfmccaa
/- THE CELL 'sum', in the pinned program and in every row, IS THE sha256 OF THE DUMP (.gsa) THAT YtjdkifdnbfmccaaProg.lean LOADS. Nothing in Lean hashes anything: it is a label: what it is worth is what the hold of that sum in a sandbox is worth. -/
noncomputable def Try.pinned : Pinned := { name := "ytjdkifdnbfmccaa", sum := "b54c827f501348dcbdf5bf541e71537c9afff62612b6717548023d1c9423ca8a", checked := Try.checked }
namespace Rows
def none {H : Type} : Left H := { results := [], args := [] }

/-- 'roundhouselaw4.OptsWalks': WHATEVER THE INPUT: true; the input reads as it did. -/
def optsWalksSpec : ChangeSpec := { name := "optsWalks", fn := fun _ => fun
  | [d1, d2, d3, d4] => { results := [.lit (.bool true)], args := [d1, d2, d3, d4] }
  | _ => none }
def optsWalksRow : OpenClaim := { program := "ytjdkifdnbfmccaa", sum := "b54c827f501348dcbdf5bf541e71537c9afff62612b6717548023d1c9423ca8a", func := "roundhouse/roundhouselaw4.OptsWalks", spec := "optsWalks", unfollowed := true, recurses := true, apart := false }
def OptsWalksSaid : Prop := optsWalksRow.holds Try.pinned (OpenSpec.ofChange optsWalksSpec)

/-- ITS FALSE NEIGHBOUR: 'it returns false'. Refute it at one input. -/
def optsWalksWrong : ChangeSpec := { name := "optsWalks", fn := fun _ => fun
  | [d1, d2, d3, d4] => { results := [.lit (.bool false)], args := [d1, d2, d3, d4] }
  | _ => none }
def OptsWalksWrongFalsely : Prop := optsWalksRow.holds Try.pinned (OpenSpec.ofChange optsWalksWrong)

/-- 'roundhouselaw4.OptsTiles': WHATEVER THE INPUT: true; the input reads as it did. -/
def optsTilesSpec : ChangeSpec := { name := "optsTiles", fn := fun _ => fun
  | [d1, d2] => { results := [.lit (.bool true)], args := [d1, d2] }
  | _ => none }
def optsTilesRow : OpenClaim := { program := "ytjdkifdnbfmccaa", sum := "b54c827f501348dcbdf5bf541e71537c9afff62612b6717548023d1c9423ca8a", func := "roundhouse/roundhouselaw4.OptsTiles", spec := "optsTiles", unfollowed := true, recurses := true, apart := false }
def OptsTilesSaid : Prop := optsTilesRow.holds Try.pinned (OpenSpec.ofChange optsTilesSpec)

/-- ITS FALSE NEIGHBOUR: 'it returns false'. Refute it at one input. -/
def optsTilesWrong : ChangeSpec := { name := "optsTiles", fn := fun _ => fun
  | [d1, d2] => { results := [.lit (.bool false)], args := [d1, d2] }
  | _ => none }
def OptsTilesWrongFalsely : Prop := optsTilesRow.holds Try.pinned (OpenSpec.ofChange optsTilesWrong)

/-- 'roundhouselaw4.OptsStamps': WHATEVER THE INPUT: true; the input reads as it did. -/
def optsStampsSpec : ChangeSpec := { name := "optsStamps", fn := fun _ => fun
  | [d1, d2, d3] => { results := [.lit (.bool true)], args := [d1, d2, d3] }
  | _ => none }
def optsStampsRow : OpenClaim := { program := "ytjdkifdnbfmccaa", sum := "b54c827f501348dcbdf5bf541e71537c9afff62612b6717548023d1c9423ca8a", func := "roundhouse/roundhouselaw4.OptsStamps", spec := "optsStamps", unfollowed := true, recurses := true, apart := false }
def OptsStampsSaid : Prop := optsStampsRow.holds Try.pinned (OpenSpec.ofChange optsStampsSpec)

/-- ITS FALSE NEIGHBOUR: 'it returns false'. Refute it at one input. -/
def optsStampsWrong : ChangeSpec := { name := "optsStamps", fn := fun _ => fun
  | [d1, d2, d3] => { results := [.lit (.bool false)], args := [d1, d2, d3] }
  | _ => none }
def OptsStampsWrongFalsely : Prop := optsStampsRow.holds Try.pinned (OpenSpec.ofChange optsStampsWrong)

/-- 'roundhouselaw4.OptsFar': WHATEVER THE INPUT: true; the input reads as it did. -/
def optsFarSpec : ChangeSpec := { name := "optsFar", fn := fun _ => fun
  | [d1, d2, d3] => { results := [.lit (.bool true)], args := [d1, d2, d3] }
  | _ => none }
def optsFarRow : OpenClaim := { program := "ytjdkifdnbfmccaa", sum := "b54c827f501348dcbdf5bf541e71537c9afff62612b6717548023d1c9423ca8a", func := "roundhouse/roundhouselaw4.OptsFar", spec := "optsFar", unfollowed := true, recurses := true, apart := false }
def OptsFarSaid : Prop := optsFarRow.holds Try.pinned (OpenSpec.ofChange optsFarSpec)

/-- ITS FALSE NEIGHBOUR: 'it returns false'. Refute it at one input. -/
def optsFarWrong : ChangeSpec := { name := "optsFar", fn := fun _ => fun
  | [d1, d2, d3] => { results := [.lit (.bool false)], args := [d1, d2, d3] }
  | _ => none }
def OptsFarWrongFalsely : Prop := optsFarRow.holds Try.pinned (OpenSpec.ofChange optsFarWrong)

/-- 'roundhouselaw4.OptsKnown': WHATEVER THE INPUT: true; the input reads as it did. -/
def optsKnownSpec : ChangeSpec := { name := "optsKnown", fn := fun _ => fun
  | [d] => { results := [.lit (.bool true)], args := [d] }
  | _ => none }
def optsKnownRow : OpenClaim := { program := "ytjdkifdnbfmccaa", sum := "b54c827f501348dcbdf5bf541e71537c9afff62612b6717548023d1c9423ca8a", func := "roundhouse/roundhouselaw4.OptsKnown", spec := "optsKnown", unfollowed := true, recurses := true, apart := false }
def OptsKnownSaid : Prop := optsKnownRow.holds Try.pinned (OpenSpec.ofChange optsKnownSpec)

/-- ITS FALSE NEIGHBOUR: 'it returns false'. Refute it at one input. -/
def optsKnownWrong : ChangeSpec := { name := "optsKnown", fn := fun _ => fun
  | [d] => { results := [.lit (.bool false)], args := [d] }
  | _ => none }
def OptsKnownWrongFalsely : Prop := optsKnownRow.holds Try.pinned (OpenSpec.ofChange optsKnownWrong)

/-- 'roundhouselaw4.OptsFirst': WHATEVER THE INPUT: true; the input reads as it did. -/
def optsFirstSpec : ChangeSpec := { name := "optsFirst", fn := fun _ => fun
  | [d1, d2, d3, d4, d5] => { results := [.lit (.bool true)], args := [d1, d2, d3, d4, d5] }
  | _ => none }
def optsFirstRow : OpenClaim := { program := "ytjdkifdnbfmccaa", sum := "b54c827f501348dcbdf5bf541e71537c9afff62612b6717548023d1c9423ca8a", func := "roundhouse/roundhouselaw4.OptsFirst", spec := "optsFirst", unfollowed := true, recurses := true, apart := false }
def OptsFirstSaid : Prop := optsFirstRow.holds Try.pinned (OpenSpec.ofChange optsFirstSpec)

/-- ITS FALSE NEIGHBOUR: 'it returns false'. Refute it at one input. -/
def optsFirstWrong : ChangeSpec := { name := "optsFirst", fn := fun _ => fun
  | [d1, d2, d3, d4, d5] => { results := [.lit (.bool false)], args := [d1, d2, d3, d4, d5] }
  | _ => none }
def OptsFirstWrongFalsely : Prop := optsFirstRow.holds Try.pinned (OpenSpec.ofChange optsFirstWrong)

/-- 'roundhouselaw4.OptsBehind': WHATEVER THE INPUT: true; the input reads as it did. -/
def optsBehindSpec : ChangeSpec := { name := "optsBehind", fn := fun _ => fun
  | [d1, d2] => { results := [.lit (.bool true)], args := [d1, d2] }
  | _ => none }
def optsBehindRow : OpenClaim := { program := "ytjdkifdnbfmccaa", sum := "b54c827f501348dcbdf5bf541e71537c9afff62612b6717548023d1c9423ca8a", func := "roundhouse/roundhouselaw4.OptsBehind", spec := "optsBehind", unfollowed := true, recurses := true, apart := false }
def OptsBehindSaid : Prop := optsBehindRow.holds Try.pinned (OpenSpec.ofChange optsBehindSpec)

/-- ITS FALSE NEIGHBOUR: 'it returns false'. Refute it at one input. -/
def optsBehindWrong : ChangeSpec := { name := "optsBehind", fn := fun _ => fun
  | [d1, d2] => { results := [.lit (.bool false)], args := [d1, d2] }
  | _ => none }
def OptsBehindWrongFalsely : Prop := optsBehindRow.holds Try.pinned (OpenSpec.ofChange optsBehindWrong)

/-- 'roundhouselaw4.OptsRound': WHATEVER THE INPUT: true; the input reads as it did. -/
def optsRoundSpec : ChangeSpec := { name := "optsRound", fn := fun _ => fun
  | [d1, d2, d3] => { results := [.lit (.bool true)], args := [d1, d2, d3] }
  | _ => none }
def optsRoundRow : OpenClaim := { program := "ytjdkifdnbfmccaa", sum := "b54c827f501348dcbdf5bf541e71537c9afff62612b6717548023d1c9423ca8a", func := "roundhouse/roundhouselaw4.OptsRound", spec := "optsRound", unfollowed := true, recurses := true, apart := false }
def OptsRoundSaid : Prop := optsRoundRow.holds Try.pinned (OpenSpec.ofChange optsRoundSpec)

/-- ITS FALSE NEIGHBOUR: 'it returns false'. Refute it at one input. -/
def optsRoundWrong : ChangeSpec := { name := "optsRound", fn := fun _ => fun
  | [d1, d2, d3] => { results := [.lit (.bool false)], args := [d1, d2, d3] }
  | _ => none }
def OptsRoundWrongFalsely : Prop := optsRoundRow.holds Try.pinned (OpenSpec.ofChange optsRoundWrong)

/-- 'roundhouselaw4.OptsFronts': WHATEVER THE INPUT: true; the input reads as it did. -/
def optsFrontsSpec : ChangeSpec := { name := "optsFronts", fn := fun _ => fun
  | [d1, d2, d3] => { results := [.lit (.bool true)], args := [d1, d2, d3] }
  | _ => none }
def optsFrontsRow : OpenClaim := { program := "ytjdkifdnbfmccaa", sum := "b54c827f501348dcbdf5bf541e71537c9afff62612b6717548023d1c9423ca8a", func := "roundhouse/roundhouselaw4.OptsFronts", spec := "optsFronts", unfollowed := true, recurses := true, apart := false }
def OptsFrontsSaid : Prop := optsFrontsRow.holds Try.pinned (OpenSpec.ofChange optsFrontsSpec)

/-- ITS FALSE NEIGHBOUR: 'it returns false'. Refute it at one input. -/
def optsFrontsWrong : ChangeSpec := { name := "optsFronts", fn := fun _ => fun
  | [d1, d2, d3] => { results := [.lit (.bool false)], args := [d1, d2, d3] }
  | _ => none }
def OptsFrontsWrongFalsely : Prop := optsFrontsRow.holds Try.pinned (OpenSpec.ofChange optsFrontsWrong)

/-- 'roundhouselaw4.OptsOwn': WHATEVER THE INPUT: true; the input reads as it did. -/
def optsOwnSpec : ChangeSpec := { name := "optsOwn", fn := fun _ => fun
  | [d1, d2, d3] => { results := [.lit (.bool true)], args := [d1, d2, d3] }
  | _ => none }
def optsOwnRow : OpenClaim := { program := "ytjdkifdnbfmccaa", sum := "b54c827f501348dcbdf5bf541e71537c9afff62612b6717548023d1c9423ca8a", func := "roundhouse/roundhouselaw4.OptsOwn", spec := "optsOwn", unfollowed := true, recurses := true, apart := false }
def OptsOwnSaid : Prop := optsOwnRow.holds Try.pinned (OpenSpec.ofChange optsOwnSpec)

/-- ITS FALSE NEIGHBOUR: 'it returns false'. Refute it at one input. -/
def optsOwnWrong : ChangeSpec := { name := "optsOwn", fn := fun _ => fun
  | [d1, d2, d3] => { results := [.lit (.bool false)], args := [d1, d2, d3] }
  | _ => none }
def OptsOwnWrongFalsely : Prop := optsOwnRow.holds Try.pinned (OpenSpec.ofChange optsOwnWrong)

/- THE SECOND FORM. 'bulk': how many values and letters a reading holds, each counted each time it is reached (what is shared counts as often as it is met; a slice's spare places count too). A statement '..UptoSaid' is the law's where the arguments, and the package variables that the reading takes, are together of bulk at most 1048576: NARROWER than '..Said'. Prove '..Said' where nothing that the law and all that it calls make is longer than what came in: it says more and counts as full. Else prove '..UptoSaid'. A law counts once. -/
mutual
def uptoBulk {H : Type} : DataW H → Nat
  | .lit (.string bytes) => bytes.length + 1
  | .lit _ => 1
  | .nil => 1
  | .ptr d => uptoBulk d + 1
  | .slice elems spare => uptoBulkAll elems + uptoBulkAll spare + 1
  | .agg parts => uptoBulkAll parts + 1
  | .iface _ d => uptoBulk d + 1
  | .map entries => uptoBulkEntries entries + 1
  | .held _ => 1
def uptoBulkAll {H : Type} : List (DataW H) → Nat
  | [] => 0
  | d :: r => uptoBulk d + uptoBulkAll r
def uptoBulkEntries {H : Type} : List (Lit × DataW H) → Nat
  | [] => 0
  | x :: r => uptoBulkEntry x + uptoBulkEntries r
def uptoBulkEntry {H : Type} : Lit × DataW H → Nat
  | (.string bytes, d) => bytes.length + uptoBulk d + 1
  | (_, d) => uptoBulk d + 1
 end
def uptoSmall : (H : Type) → List (DataW H) → Bool := fun _ ds => decide (uptoBulkAll ds ≤ 1048576)
def OpenSpec.upto (s : _root_.Go.ChangeSpec) : _root_.Go.OpenSpec := { _root_.Go.OpenSpec.ofChange s with cond := some uptoSmall }

/-- 'roundhouselaw4.OptsWalks', WHERE WHAT IT READS IS OF BULK AT MOST 1048576: true; the input reads as it did. -/
def optsWalksUptoRow : OpenClaim := { program := "ytjdkifdnbfmccaa", sum := "b54c827f501348dcbdf5bf541e71537c9afff62612b6717548023d1c9423ca8a", func := "roundhouse/roundhouselaw4.OptsWalks", spec := "optsWalks", unfollowed := true, recurses := true, apart := false, narrowed := true }
def OptsWalksUptoSaid : Prop := optsWalksUptoRow.holds Try.pinned (OpenSpec.upto optsWalksSpec)

/-- 'roundhouselaw4.OptsTiles', WHERE WHAT IT READS IS OF BULK AT MOST 1048576: true; the input reads as it did. -/
def optsTilesUptoRow : OpenClaim := { program := "ytjdkifdnbfmccaa", sum := "b54c827f501348dcbdf5bf541e71537c9afff62612b6717548023d1c9423ca8a", func := "roundhouse/roundhouselaw4.OptsTiles", spec := "optsTiles", unfollowed := true, recurses := true, apart := false, narrowed := true }
def OptsTilesUptoSaid : Prop := optsTilesUptoRow.holds Try.pinned (OpenSpec.upto optsTilesSpec)

/-- 'roundhouselaw4.OptsStamps', WHERE WHAT IT READS IS OF BULK AT MOST 1048576: true; the input reads as it did. -/
def optsStampsUptoRow : OpenClaim := { program := "ytjdkifdnbfmccaa", sum := "b54c827f501348dcbdf5bf541e71537c9afff62612b6717548023d1c9423ca8a", func := "roundhouse/roundhouselaw4.OptsStamps", spec := "optsStamps", unfollowed := true, recurses := true, apart := false, narrowed := true }
def OptsStampsUptoSaid : Prop := optsStampsUptoRow.holds Try.pinned (OpenSpec.upto optsStampsSpec)

/-- 'roundhouselaw4.OptsFar', WHERE WHAT IT READS IS OF BULK AT MOST 1048576: true; the input reads as it did. -/
def optsFarUptoRow : OpenClaim := { program := "ytjdkifdnbfmccaa", sum := "b54c827f501348dcbdf5bf541e71537c9afff62612b6717548023d1c9423ca8a", func := "roundhouse/roundhouselaw4.OptsFar", spec := "optsFar", unfollowed := true, recurses := true, apart := false, narrowed := true }
def OptsFarUptoSaid : Prop := optsFarUptoRow.holds Try.pinned (OpenSpec.upto optsFarSpec)

/-- 'roundhouselaw4.OptsKnown', WHERE WHAT IT READS IS OF BULK AT MOST 1048576: true; the input reads as it did. -/
def optsKnownUptoRow : OpenClaim := { program := "ytjdkifdnbfmccaa", sum := "b54c827f501348dcbdf5bf541e71537c9afff62612b6717548023d1c9423ca8a", func := "roundhouse/roundhouselaw4.OptsKnown", spec := "optsKnown", unfollowed := true, recurses := true, apart := false, narrowed := true }
def OptsKnownUptoSaid : Prop := optsKnownUptoRow.holds Try.pinned (OpenSpec.upto optsKnownSpec)

/-- 'roundhouselaw4.OptsFirst', WHERE WHAT IT READS IS OF BULK AT MOST 1048576: true; the input reads as it did. -/
def optsFirstUptoRow : OpenClaim := { program := "ytjdkifdnbfmccaa", sum := "b54c827f501348dcbdf5bf541e71537c9afff62612b6717548023d1c9423ca8a", func := "roundhouse/roundhouselaw4.OptsFirst", spec := "optsFirst", unfollowed := true, recurses := true, apart := false, narrowed := true }
def OptsFirstUptoSaid : Prop := optsFirstUptoRow.holds Try.pinned (OpenSpec.upto optsFirstSpec)

/-- 'roundhouselaw4.OptsBehind', WHERE WHAT IT READS IS OF BULK AT MOST 1048576: true; the input reads as it did. -/
def optsBehindUptoRow : OpenClaim := { program := "ytjdkifdnbfmccaa", sum := "b54c827f501348dcbdf5bf541e71537c9afff62612b6717548023d1c9423ca8a", func := "roundhouse/roundhouselaw4.OptsBehind", spec := "optsBehind", unfollowed := true, recurses := true, apart := false, narrowed := true }
def OptsBehindUptoSaid : Prop := optsBehindUptoRow.holds Try.pinned (OpenSpec.upto optsBehindSpec)

/-- 'roundhouselaw4.OptsRound', WHERE WHAT IT READS IS OF BULK AT MOST 1048576: true; the input reads as it did. -/
def optsRoundUptoRow : OpenClaim := { program := "ytjdkifdnbfmccaa", sum := "b54c827f501348dcbdf5bf541e71537c9afff62612b6717548023d1c9423ca8a", func := "roundhouse/roundhouselaw4.OptsRound", spec := "optsRound", unfollowed := true, recurses := true, apart := false, narrowed := true }
def OptsRoundUptoSaid : Prop := optsRoundUptoRow.holds Try.pinned (OpenSpec.upto optsRoundSpec)

/-- 'roundhouselaw4.OptsFronts', WHERE WHAT IT READS IS OF BULK AT MOST 1048576: true; the input reads as it did. -/
def optsFrontsUptoRow : OpenClaim := { program := "ytjdkifdnbfmccaa", sum := "b54c827f501348dcbdf5bf541e71537c9afff62612b6717548023d1c9423ca8a", func := "roundhouse/roundhouselaw4.OptsFronts", spec := "optsFronts", unfollowed := true, recurses := true, apart := false, narrowed := true }
def OptsFrontsUptoSaid : Prop := optsFrontsUptoRow.holds Try.pinned (OpenSpec.upto optsFrontsSpec)

/-- 'roundhouselaw4.OptsOwn', WHERE WHAT IT READS IS OF BULK AT MOST 1048576: true; the input reads as it did. -/
def optsOwnUptoRow : OpenClaim := { program := "ytjdkifdnbfmccaa", sum := "b54c827f501348dcbdf5bf541e71537c9afff62612b6717548023d1c9423ca8a", func := "roundhouse/roundhouselaw4.OptsOwn", spec := "optsOwn", unfollowed := true, recurses := true, apart := false, narrowed := true }
def OptsOwnUptoSaid : Prop := optsOwnUptoRow.holds Try.pinned (OpenSpec.upto optsOwnSpec)

end Rows
end Go.Proofs.Ytjdkifdnbfmccaa
