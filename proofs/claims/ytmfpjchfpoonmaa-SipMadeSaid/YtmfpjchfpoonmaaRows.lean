/-
  No cell of these rows narrows 'for every input' (looked for: loops, veiled, ifaces, maps, wideKeys, modest, calm, conditions, laid).
  DERIVED. THE GIVEN ROWS OF THIS SEAT. 10 by the template 'for every input the law returns true; each argument reads behind the call as it read before'; 0 by the template 'total and deterministic' (their statements: YtmfpjchfpoonmaaTotals.lean).
  GIVEN WITH THE SEED: the statements are not yours to turn. If you find one false, say at which input.
  Laid BY PROGRAM, IN A SANDBOX (cutbox-rows.mjs): the forced cells as the released guide's own fill.sh prints them over the translation 3bb1a351d7ede017… (all of the seat's roots in one cut). By AI agents, Wed Nov 11 2026. No macro, syntax, notation, axiom, sorry.
-/
import Derived.Test.YtmfpjchfpoonmaaChecked
import GoSem.Claim
import GoSem.ClaimJoined
import GoSem.ClaimMapViews
import Derived.JoinedTies
import Derived.KernelRfl
namespace Go.Proofs.Ytmfpjchfpoonmaa
/- THE CELL 'sum', in the pinned program and in every row, IS THE sha256 OF THE DUMP (.gsa) THAT YtmfpjchfpoonmaaProg.lean LOADS. Nothing in Lean hashes anything: it is a label: what it is worth is what the hold of that sum in a sandbox is worth. -/
noncomputable def Try.pinned : Pinned := { name := "ytmfpjchfpoonmaa", sum := "3bb1a351d7ede017ed7b985b58d8cb28e1d665a3075d09dcf3ff843c6e7df240", checked := Try.checked }
namespace Rows
def none {H : Type} : Left H := { results := [], args := [] }

/-- 'roundhouselaw2.SipSums': WHATEVER THE INPUT: true; the input reads as it did. -/
def sipSumsSpec : ChangeSpec := { name := "sipSums", fn := fun _ => fun
  | [d1, d2, d3, d4] => { results := [.lit (.bool true)], args := [d1, d2, d3, d4] }
  | _ => none }
def sipSumsRow : OpenClaim := { program := "ytmfpjchfpoonmaa", sum := "3bb1a351d7ede017ed7b985b58d8cb28e1d665a3075d09dcf3ff843c6e7df240", func := "roundhouse/roundhouselaw2.SipSums", spec := "sipSums", apart := false }
def SipSumsSaid : Prop := sipSumsRow.holds Try.pinned (OpenSpec.ofChange sipSumsSpec)

/-- ITS FALSE NEIGHBOUR: 'it returns false'. Refute it at one input. -/
def sipSumsWrong : ChangeSpec := { name := "sipSums", fn := fun _ => fun
  | [d1, d2, d3, d4] => { results := [.lit (.bool false)], args := [d1, d2, d3, d4] }
  | _ => none }
def SipSumsWrongFalsely : Prop := sipSumsRow.holds Try.pinned (OpenSpec.ofChange sipSumsWrong)

/-- 'roundhouselaw2.SipKeys': WHATEVER THE INPUT: true; the input reads as it did. -/
def sipKeysSpec : ChangeSpec := { name := "sipKeys", fn := fun _ => fun
  | [d1, d2] => { results := [.lit (.bool true)], args := [d1, d2] }
  | _ => none }
def sipKeysRow : OpenClaim := { program := "ytmfpjchfpoonmaa", sum := "3bb1a351d7ede017ed7b985b58d8cb28e1d665a3075d09dcf3ff843c6e7df240", func := "roundhouse/roundhouselaw2.SipKeys", spec := "sipKeys", apart := false }
def SipKeysSaid : Prop := sipKeysRow.holds Try.pinned (OpenSpec.ofChange sipKeysSpec)

/-- ITS FALSE NEIGHBOUR: 'it returns false'. Refute it at one input. -/
def sipKeysWrong : ChangeSpec := { name := "sipKeys", fn := fun _ => fun
  | [d1, d2] => { results := [.lit (.bool false)], args := [d1, d2] }
  | _ => none }
def SipKeysWrongFalsely : Prop := sipKeysRow.holds Try.pinned (OpenSpec.ofChange sipKeysWrong)

/-- 'roundhouselaw2.SipKeeps': WHATEVER THE INPUT: true; the input reads as it did. -/
def sipKeepsSpec : ChangeSpec := { name := "sipKeeps", fn := fun _ => fun
  | [d1, d2, d3] => { results := [.lit (.bool true)], args := [d1, d2, d3] }
  | _ => none }
def sipKeepsRow : OpenClaim := { program := "ytmfpjchfpoonmaa", sum := "3bb1a351d7ede017ed7b985b58d8cb28e1d665a3075d09dcf3ff843c6e7df240", func := "roundhouse/roundhouselaw2.SipKeeps", spec := "sipKeeps", apart := false }
def SipKeepsSaid : Prop := sipKeepsRow.holds Try.pinned (OpenSpec.ofChange sipKeepsSpec)

/-- ITS FALSE NEIGHBOUR: 'it returns false'. Refute it at one input. -/
def sipKeepsWrong : ChangeSpec := { name := "sipKeeps", fn := fun _ => fun
  | [d1, d2, d3] => { results := [.lit (.bool false)], args := [d1, d2, d3] }
  | _ => none }
def SipKeepsWrongFalsely : Prop := sipKeepsRow.holds Try.pinned (OpenSpec.ofChange sipKeepsWrong)

/-- 'roundhouselaw2.SipKnown': WHATEVER THE INPUT: true; the input reads as it did. -/
def sipKnownSpec : ChangeSpec := { name := "sipKnown", fn := fun _ => fun
  | [d] => { results := [.lit (.bool true)], args := [d] }
  | _ => none }
def sipKnownRow : OpenClaim := { program := "ytmfpjchfpoonmaa", sum := "3bb1a351d7ede017ed7b985b58d8cb28e1d665a3075d09dcf3ff843c6e7df240", func := "roundhouse/roundhouselaw2.SipKnown", spec := "sipKnown", apart := false }
def SipKnownSaid : Prop := sipKnownRow.holds Try.pinned (OpenSpec.ofChange sipKnownSpec)

/-- ITS FALSE NEIGHBOUR: 'it returns false'. Refute it at one input. -/
def sipKnownWrong : ChangeSpec := { name := "sipKnown", fn := fun _ => fun
  | [d] => { results := [.lit (.bool false)], args := [d] }
  | _ => none }
def SipKnownWrongFalsely : Prop := sipKnownRow.holds Try.pinned (OpenSpec.ofChange sipKnownWrong)

/-- 'roundhouselaw2.SipMade': WHATEVER THE INPUT: true; the input reads as it did. -/
def sipMadeSpec : ChangeSpec := { name := "sipMade", fn := fun _ => fun
  | [d1, d2] => { results := [.lit (.bool true)], args := [d1, d2] }
  | _ => none }
def sipMadeRow : OpenClaim := { program := "ytmfpjchfpoonmaa", sum := "3bb1a351d7ede017ed7b985b58d8cb28e1d665a3075d09dcf3ff843c6e7df240", func := "roundhouse/roundhouselaw2.SipMade", spec := "sipMade", apart := false }
def SipMadeSaid : Prop := sipMadeRow.holds Try.pinned (OpenSpec.ofChange sipMadeSpec)

/-- ITS FALSE NEIGHBOUR: 'it returns false'. Refute it at one input. -/
def sipMadeWrong : ChangeSpec := { name := "sipMade", fn := fun _ => fun
  | [d1, d2] => { results := [.lit (.bool false)], args := [d1, d2] }
  | _ => none }
def SipMadeWrongFalsely : Prop := sipMadeRow.holds Try.pinned (OpenSpec.ofChange sipMadeWrong)

/-- 'roundhouselaw2.SipLong': WHATEVER THE INPUT: true; the input reads as it did. -/
def sipLongSpec : ChangeSpec := { name := "sipLong", fn := fun _ => fun
  | [d1, d2, d3, d4] => { results := [.lit (.bool true)], args := [d1, d2, d3, d4] }
  | _ => none }
def sipLongRow : OpenClaim := { program := "ytmfpjchfpoonmaa", sum := "3bb1a351d7ede017ed7b985b58d8cb28e1d665a3075d09dcf3ff843c6e7df240", func := "roundhouse/roundhouselaw2.SipLong", spec := "sipLong", apart := false }
def SipLongSaid : Prop := sipLongRow.holds Try.pinned (OpenSpec.ofChange sipLongSpec)

/-- ITS FALSE NEIGHBOUR: 'it returns false'. Refute it at one input. -/
def sipLongWrong : ChangeSpec := { name := "sipLong", fn := fun _ => fun
  | [d1, d2, d3, d4] => { results := [.lit (.bool false)], args := [d1, d2, d3, d4] }
  | _ => none }
def SipLongWrongFalsely : Prop := sipLongRow.holds Try.pinned (OpenSpec.ofChange sipLongWrong)

/-- 'roundhouselaw2.SipWords': WHATEVER THE INPUT: true; the input reads as it did. -/
def sipWordsSpec : ChangeSpec := { name := "sipWords", fn := fun _ => fun
  | [d1, d2, d3] => { results := [.lit (.bool true)], args := [d1, d2, d3] }
  | _ => none }
def sipWordsRow : OpenClaim := { program := "ytmfpjchfpoonmaa", sum := "3bb1a351d7ede017ed7b985b58d8cb28e1d665a3075d09dcf3ff843c6e7df240", func := "roundhouse/roundhouselaw2.SipWords", spec := "sipWords", apart := false }
def SipWordsSaid : Prop := sipWordsRow.holds Try.pinned (OpenSpec.ofChange sipWordsSpec)

/-- ITS FALSE NEIGHBOUR: 'it returns false'. Refute it at one input. -/
def sipWordsWrong : ChangeSpec := { name := "sipWords", fn := fun _ => fun
  | [d1, d2, d3] => { results := [.lit (.bool false)], args := [d1, d2, d3] }
  | _ => none }
def SipWordsWrongFalsely : Prop := sipWordsRow.holds Try.pinned (OpenSpec.ofChange sipWordsWrong)

/-- 'roundhouselaw2.SipLengths': WHATEVER THE INPUT: true; the input reads as it did. -/
def sipLengthsSpec : ChangeSpec := { name := "sipLengths", fn := fun _ => fun
  | [d1, d2, d3, d4] => { results := [.lit (.bool true)], args := [d1, d2, d3, d4] }
  | _ => none }
def sipLengthsRow : OpenClaim := { program := "ytmfpjchfpoonmaa", sum := "3bb1a351d7ede017ed7b985b58d8cb28e1d665a3075d09dcf3ff843c6e7df240", func := "roundhouse/roundhouselaw2.SipLengths", spec := "sipLengths", apart := false }
def SipLengthsSaid : Prop := sipLengthsRow.holds Try.pinned (OpenSpec.ofChange sipLengthsSpec)

/-- ITS FALSE NEIGHBOUR: 'it returns false'. Refute it at one input. -/
def sipLengthsWrong : ChangeSpec := { name := "sipLengths", fn := fun _ => fun
  | [d1, d2, d3, d4] => { results := [.lit (.bool false)], args := [d1, d2, d3, d4] }
  | _ => none }
def SipLengthsWrongFalsely : Prop := sipLengthsRow.holds Try.pinned (OpenSpec.ofChange sipLengthsWrong)

/-- 'roundhouselaw2.SipNumbers': WHATEVER THE INPUT: true; the input reads as it did. -/
def sipNumbersSpec : ChangeSpec := { name := "sipNumbers", fn := fun _ => fun
  | [d1, d2, d3, d4] => { results := [.lit (.bool true)], args := [d1, d2, d3, d4] }
  | _ => none }
def sipNumbersRow : OpenClaim := { program := "ytmfpjchfpoonmaa", sum := "3bb1a351d7ede017ed7b985b58d8cb28e1d665a3075d09dcf3ff843c6e7df240", func := "roundhouse/roundhouselaw2.SipNumbers", spec := "sipNumbers", apart := false }
def SipNumbersSaid : Prop := sipNumbersRow.holds Try.pinned (OpenSpec.ofChange sipNumbersSpec)

/-- ITS FALSE NEIGHBOUR: 'it returns false'. Refute it at one input. -/
def sipNumbersWrong : ChangeSpec := { name := "sipNumbers", fn := fun _ => fun
  | [d1, d2, d3, d4] => { results := [.lit (.bool false)], args := [d1, d2, d3, d4] }
  | _ => none }
def SipNumbersWrongFalsely : Prop := sipNumbersRow.holds Try.pinned (OpenSpec.ofChange sipNumbersWrong)

/-- 'roundhouselaw2.SipParts': WHATEVER THE INPUT: true; the input reads as it did. -/
def sipPartsSpec : ChangeSpec := { name := "sipParts", fn := fun _ => fun
  | [d1, d2, d3, d4] => { results := [.lit (.bool true)], args := [d1, d2, d3, d4] }
  | _ => none }
def sipPartsRow : OpenClaim := { program := "ytmfpjchfpoonmaa", sum := "3bb1a351d7ede017ed7b985b58d8cb28e1d665a3075d09dcf3ff843c6e7df240", func := "roundhouse/roundhouselaw2.SipParts", spec := "sipParts", apart := false }
def SipPartsSaid : Prop := sipPartsRow.holds Try.pinned (OpenSpec.ofChange sipPartsSpec)

/-- ITS FALSE NEIGHBOUR: 'it returns false'. Refute it at one input. -/
def sipPartsWrong : ChangeSpec := { name := "sipParts", fn := fun _ => fun
  | [d1, d2, d3, d4] => { results := [.lit (.bool false)], args := [d1, d2, d3, d4] }
  | _ => none }
def SipPartsWrongFalsely : Prop := sipPartsRow.holds Try.pinned (OpenSpec.ofChange sipPartsWrong)

/- THE SECOND FORM. 'bulk': how many values and letters a reading holds, each counted each time it is reached (what is shared counts as often as it is met; a slice's spare places count too). A statement '..UptoSaid' is the law's where the arguments, and the package variables that the reading takes, are together of bulk at most 1048576: NARROWER than '..Said'. Prove '..Said' where nothing that the law and all that it calls make is longer than what came in: it says more and counts as full. Else prove '..UptoSaid'. A law counts once. -/
mutual
def uptoBulk {H : Type} : DataW H → Nat
  | .lit (.string bytes) => bytes.length + 1
  | .lit _ => 1
  | .nil => 1
  | .ptr d => uptoBulk d + 1
  | .slice elems spare => uptoBulkAll elems + uptoBulkAll spare + 1
  | .agg parts => uptoBulkAll parts + 1
  | .iface _ d => uptoBulk d + 1
  | .map entries => uptoBulkEntries entries + 1
  | .held _ => 1
def uptoBulkAll {H : Type} : List (DataW H) → Nat
  | [] => 0
  | d :: r => uptoBulk d + uptoBulkAll r
def uptoBulkEntries {H : Type} : List (Lit × DataW H) → Nat
  | [] => 0
  | x :: r => uptoBulkEntry x + uptoBulkEntries r
def uptoBulkEntry {H : Type} : Lit × DataW H → Nat
  | (.string bytes, d) => bytes.length + uptoBulk d + 1
  | (_, d) => uptoBulk d + 1
 end
def uptoSmall : (H : Type) → List (DataW H) → Bool := fun _ ds => decide (uptoBulkAll ds ≤ 1048576)
def OpenSpec.upto (s : _root_.Go.ChangeSpec) : _root_.Go.OpenSpec := { _root_.Go.OpenSpec.ofChange s with cond := some uptoSmall }

/-- 'roundhouselaw2.SipSums', WHERE WHAT IT READS IS OF BULK AT MOST 1048576: true; the input reads as it did. -/
def sipSumsUptoRow : OpenClaim := { program := "ytmfpjchfpoonmaa", sum := "3bb1a351d7ede017ed7b985b58d8cb28e1d665a3075d09dcf3ff843c6e7df240", func := "roundhouse/roundhouselaw2.SipSums", spec := "sipSums", apart := false, narrowed := true }
def SipSumsUptoSaid : Prop := sipSumsUptoRow.holds Try.pinned (OpenSpec.upto sipSumsSpec)

/-- 'roundhouselaw2.SipKeys', WHERE WHAT IT READS IS OF BULK AT MOST 1048576: true; the input reads as it did. -/
def sipKeysUptoRow : OpenClaim := { program := "ytmfpjchfpoonmaa", sum := "3bb1a351d7ede017ed7b985b58d8cb28e1d665a3075d09dcf3ff843c6e7df240", func := "roundhouse/roundhouselaw2.SipKeys", spec := "sipKeys", apart := false, narrowed := true }
def SipKeysUptoSaid : Prop := sipKeysUptoRow.holds Try.pinned (OpenSpec.upto sipKeysSpec)

/-- 'roundhouselaw2.SipKeeps', WHERE WHAT IT READS IS OF BULK AT MOST 1048576: true; the input reads as it did. -/
def sipKeepsUptoRow : OpenClaim := { program := "ytmfpjchfpoonmaa", sum := "3bb1a351d7ede017ed7b985b58d8cb28e1d665a3075d09dcf3ff843c6e7df240", func := "roundhouse/roundhouselaw2.SipKeeps", spec := "sipKeeps", apart := false, narrowed := true }
def SipKeepsUptoSaid : Prop := sipKeepsUptoRow.holds Try.pinned (OpenSpec.upto sipKeepsSpec)

/-- 'roundhouselaw2.SipKnown', WHERE WHAT IT READS IS OF BULK AT MOST 1048576: true; the input reads as it did. -/
def sipKnownUptoRow : OpenClaim := { program := "ytmfpjchfpoonmaa", sum := "3bb1a351d7ede017ed7b985b58d8cb28e1d665a3075d09dcf3ff843c6e7df240", func := "roundhouse/roundhouselaw2.SipKnown", spec := "sipKnown", apart := false, narrowed := true }
def SipKnownUptoSaid : Prop := sipKnownUptoRow.holds Try.pinned (OpenSpec.upto sipKnownSpec)

/-- 'roundhouselaw2.SipMade', WHERE WHAT IT READS IS OF BULK AT MOST 1048576: true; the input reads as it did. -/
def sipMadeUptoRow : OpenClaim := { program := "ytmfpjchfpoonmaa", sum := "3bb1a351d7ede017ed7b985b58d8cb28e1d665a3075d09dcf3ff843c6e7df240", func := "roundhouse/roundhouselaw2.SipMade", spec := "sipMade", apart := false, narrowed := true }
def SipMadeUptoSaid : Prop := sipMadeUptoRow.holds Try.pinned (OpenSpec.upto sipMadeSpec)

/-- 'roundhouselaw2.SipLong', WHERE WHAT IT READS IS OF BULK AT MOST 1048576: true; the input reads as it did. -/
def sipLongUptoRow : OpenClaim := { program := "ytmfpjchfpoonmaa", sum := "3bb1a351d7ede017ed7b985b58d8cb28e1d665a3075d09dcf3ff843c6e7df240", func := "roundhouse/roundhouselaw2.SipLong", spec := "sipLong", apart := false, narrowed := true }
def SipLongUptoSaid : Prop := sipLongUptoRow.holds Try.pinned (OpenSpec.upto sipLongSpec)

/-- 'roundhouselaw2.SipWords', WHERE WHAT IT READS IS OF BULK AT MOST 1048576: true; the input reads as it did. -/
def sipWordsUptoRow : OpenClaim := { program := "ytmfpjchfpoonmaa", sum := "3bb1a351d7ede017ed7b985b58d8cb28e1d665a3075d09dcf3ff843c6e7df240", func := "roundhouse/roundhouselaw2.SipWords", spec := "sipWords", apart := false, narrowed := true }
def SipWordsUptoSaid : Prop := sipWordsUptoRow.holds Try.pinned (OpenSpec.upto sipWordsSpec)

/-- 'roundhouselaw2.SipLengths', WHERE WHAT IT READS IS OF BULK AT MOST 1048576: true; the input reads as it did. -/
def sipLengthsUptoRow : OpenClaim := { program := "ytmfpjchfpoonmaa", sum := "3bb1a351d7ede017ed7b985b58d8cb28e1d665a3075d09dcf3ff843c6e7df240", func := "roundhouse/roundhouselaw2.SipLengths", spec := "sipLengths", apart := false, narrowed := true }
def SipLengthsUptoSaid : Prop := sipLengthsUptoRow.holds Try.pinned (OpenSpec.upto sipLengthsSpec)

/-- 'roundhouselaw2.SipNumbers', WHERE WHAT IT READS IS OF BULK AT MOST 1048576: true; the input reads as it did. -/
def sipNumbersUptoRow : OpenClaim := { program := "ytmfpjchfpoonmaa", sum := "3bb1a351d7ede017ed7b985b58d8cb28e1d665a3075d09dcf3ff843c6e7df240", func := "roundhouse/roundhouselaw2.SipNumbers", spec := "sipNumbers", apart := false, narrowed := true }
def SipNumbersUptoSaid : Prop := sipNumbersUptoRow.holds Try.pinned (OpenSpec.upto sipNumbersSpec)

/-- 'roundhouselaw2.SipParts', WHERE WHAT IT READS IS OF BULK AT MOST 1048576: true; the input reads as it did. -/
def sipPartsUptoRow : OpenClaim := { program := "ytmfpjchfpoonmaa", sum := "3bb1a351d7ede017ed7b985b58d8cb28e1d665a3075d09dcf3ff843c6e7df240", func := "roundhouse/roundhouselaw2.SipParts", spec := "sipParts", apart := false, narrowed := true }
def SipPartsUptoSaid : Prop := sipPartsUptoRow.holds Try.pinned (OpenSpec.upto sipPartsSpec)

end Rows
end Go.Proofs.Ytmfpjchfpoonmaa
