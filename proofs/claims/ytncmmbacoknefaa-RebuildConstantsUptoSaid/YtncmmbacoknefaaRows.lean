/-
  No cell of these rows narrows 'for every input' (looked for: loops, veiled, ifaces, maps, wideKeys, modest, calm, conditions, laid).
  DERIVED. THE GIVEN ROWS OF THIS SEAT. 13 by the template 'for every input the law returns true; each argument reads behind the call as it read before'; 0 by the template 'total and deterministic' (their statements: YtncmmbacoknefaaTotals.lean).
  GIVEN WITH THE SEED: the statements are not yours to turn. If you find one false, say at which input.
  Laid BY PROGRAM, IN A SANDBOX (cutbox-rows.mjs): the forced cells as the released guide's own fill.sh prints them over the translation dad19a3746ececfc… (all of the seat's roots in one cut). By AI agents, Wed Nov 11 2026. No macro, syntax, notation, axiom, sorry.
-/
import Derived.Test.YtncmmbacoknefaaChecked
import GoSem.Claim
import GoSem.ClaimJoined
import GoSem.ClaimMapViews
import Derived.JoinedTies
import Derived.KernelRfl
namespace Go.Proofs.Ytncmmbacoknefaa
/- THE CELL 'sum', in the pinned program and in every row, IS THE sha256 OF THE DUMP (.gsa) THAT YtncmmbacoknefaaProg.lean LOADS. Nothing in Lean hashes anything: it is a label: what it is worth is what the hold of that sum in a sandbox is worth. -/
noncomputable def Try.pinned : Pinned := { name := "ytncmmbacoknefaa", sum := "dad19a3746ececfcb330bd2fe32417c3e7bf16a5438095b8966230248582fb33", checked := Try.checked }
namespace Rows
def none {H : Type} : Left H := { results := [], args := [] }

/-- 'tscodeclaw16.MeanWithin': WHATEVER THE INPUT: true; the input reads as it did. -/
def meanWithinSpec : ChangeSpec := { name := "meanWithin", fn := fun _ => fun
  | [d1, d2] => { results := [.lit (.bool true)], args := [d1, d2] }
  | _ => none }
def meanWithinRow : OpenClaim := { program := "ytncmmbacoknefaa", sum := "dad19a3746ececfcb330bd2fe32417c3e7bf16a5438095b8966230248582fb33", func := "tscodec/tscodeclaw16.MeanWithin", spec := "meanWithin", inPlace := ["math/bits.Add64", "math/bits.Sub64"], unfollowed := true, recurses := true, named := ["math/bits.divideError", "math/bits.overflowError"], apart := false }
def MeanWithinSaid : Prop := meanWithinRow.holds Try.pinned (OpenSpec.ofChange meanWithinSpec)

/-- ITS FALSE NEIGHBOUR: 'it returns false'. Refute it at one input. -/
def meanWithinWrong : ChangeSpec := { name := "meanWithin", fn := fun _ => fun
  | [d1, d2] => { results := [.lit (.bool false)], args := [d1, d2] }
  | _ => none }
def MeanWithinWrongFalsely : Prop := meanWithinRow.holds Try.pinned (OpenSpec.ofChange meanWithinWrong)

/-- 'tscodeclaw16.MeanMaximal': WHATEVER THE INPUT: true; the input reads as it did. -/
def meanMaximalSpec : ChangeSpec := { name := "meanMaximal", fn := fun _ => fun
  | [d] => { results := [.lit (.bool true)], args := [d] }
  | _ => none }
def meanMaximalRow : OpenClaim := { program := "ytncmmbacoknefaa", sum := "dad19a3746ececfcb330bd2fe32417c3e7bf16a5438095b8966230248582fb33", func := "tscodec/tscodeclaw16.MeanMaximal", spec := "meanMaximal", inPlace := ["math/bits.Add64", "math/bits.Sub64"], unfollowed := true, recurses := true, named := ["math/bits.divideError", "math/bits.overflowError"], apart := false }
def MeanMaximalSaid : Prop := meanMaximalRow.holds Try.pinned (OpenSpec.ofChange meanMaximalSpec)

/-- ITS FALSE NEIGHBOUR: 'it returns false'. Refute it at one input. -/
def meanMaximalWrong : ChangeSpec := { name := "meanMaximal", fn := fun _ => fun
  | [d] => { results := [.lit (.bool false)], args := [d] }
  | _ => none }
def MeanMaximalWrongFalsely : Prop := meanMaximalRow.holds Try.pinned (OpenSpec.ofChange meanMaximalWrong)

/-- 'tscodeclaw16.MeanAlls': WHATEVER THE INPUT: true; the input reads as it did. -/
def meanAllsSpec : ChangeSpec := { name := "meanAlls", fn := fun _ => fun
  | [d1, d2, d3] => { results := [.lit (.bool true)], args := [d1, d2, d3] }
  | _ => none }
def meanAllsRow : OpenClaim := { program := "ytncmmbacoknefaa", sum := "dad19a3746ececfcb330bd2fe32417c3e7bf16a5438095b8966230248582fb33", func := "tscodec/tscodeclaw16.MeanAlls", spec := "meanAlls", inPlace := ["math/bits.Add64", "math/bits.Sub64"], unfollowed := true, recurses := true, named := ["math/bits.divideError", "math/bits.overflowError"], apart := false }
def MeanAllsSaid : Prop := meanAllsRow.holds Try.pinned (OpenSpec.ofChange meanAllsSpec)

/-- ITS FALSE NEIGHBOUR: 'it returns false'. Refute it at one input. -/
def meanAllsWrong : ChangeSpec := { name := "meanAlls", fn := fun _ => fun
  | [d1, d2, d3] => { results := [.lit (.bool false)], args := [d1, d2, d3] }
  | _ => none }
def MeanAllsWrongFalsely : Prop := meanAllsRow.holds Try.pinned (OpenSpec.ofChange meanAllsWrong)

/-- 'tscodeclaw20.RebuildValues': WHATEVER THE INPUT: true; the input reads as it did. -/
def rebuildValuesSpec : ChangeSpec := { name := "rebuildValues", fn := fun _ => fun
  | [d1, d2, d3, d4] => { results := [.lit (.bool true)], args := [d1, d2, d3, d4] }
  | _ => none }
def rebuildValuesRow : OpenClaim := { program := "ytncmmbacoknefaa", sum := "dad19a3746ececfcb330bd2fe32417c3e7bf16a5438095b8966230248582fb33", func := "tscodec/tscodeclaw20.RebuildValues", spec := "rebuildValues", inPlace := ["math/bits.Add64", "math/bits.Sub64"], named := ["math/bits.divideError", "math/bits.overflowError"], apart := false }
def RebuildValuesSaid : Prop := rebuildValuesRow.holds Try.pinned (OpenSpec.ofChange rebuildValuesSpec)

/-- ITS FALSE NEIGHBOUR: 'it returns false'. Refute it at one input. -/
def rebuildValuesWrong : ChangeSpec := { name := "rebuildValues", fn := fun _ => fun
  | [d1, d2, d3, d4] => { results := [.lit (.bool false)], args := [d1, d2, d3, d4] }
  | _ => none }
def RebuildValuesWrongFalsely : Prop := rebuildValuesRow.holds Try.pinned (OpenSpec.ofChange rebuildValuesWrong)

/-- 'tscodeclaw20.RebuildConstants': WHATEVER THE INPUT: true; the input reads as it did. -/
def rebuildConstantsSpec : ChangeSpec := { name := "rebuildConstants", fn := fun _ => fun
  | [d1, d2] => { results := [.lit (.bool true)], args := [d1, d2] }
  | _ => none }
def rebuildConstantsRow : OpenClaim := { program := "ytncmmbacoknefaa", sum := "dad19a3746ececfcb330bd2fe32417c3e7bf16a5438095b8966230248582fb33", func := "tscodec/tscodeclaw20.RebuildConstants", spec := "rebuildConstants", inPlace := ["math/bits.Sub64", "math/bits.Add64"], named := ["math/bits.divideError", "math/bits.overflowError"], apart := false }
def RebuildConstantsSaid : Prop := rebuildConstantsRow.holds Try.pinned (OpenSpec.ofChange rebuildConstantsSpec)

/-- ITS FALSE NEIGHBOUR: 'it returns false'. Refute it at one input. -/
def rebuildConstantsWrong : ChangeSpec := { name := "rebuildConstants", fn := fun _ => fun
  | [d1, d2] => { results := [.lit (.bool false)], args := [d1, d2] }
  | _ => none }
def RebuildConstantsWrongFalsely : Prop := rebuildConstantsRow.holds Try.pinned (OpenSpec.ofChange rebuildConstantsWrong)

/-- 'tscodeclaw20.RebuildClamps': WHATEVER THE INPUT: true; the input reads as it did. -/
def rebuildClampsSpec : ChangeSpec := { name := "rebuildClamps", fn := fun _ => fun
  | [d1, d2, d3] => { results := [.lit (.bool true)], args := [d1, d2, d3] }
  | _ => none }
def rebuildClampsRow : OpenClaim := { program := "ytncmmbacoknefaa", sum := "dad19a3746ececfcb330bd2fe32417c3e7bf16a5438095b8966230248582fb33", func := "tscodec/tscodeclaw20.RebuildClamps", spec := "rebuildClamps", inPlace := ["math/bits.Add64", "math/bits.Sub64"], named := ["math/bits.divideError", "math/bits.overflowError"], apart := false }
def RebuildClampsSaid : Prop := rebuildClampsRow.holds Try.pinned (OpenSpec.ofChange rebuildClampsSpec)

/-- ITS FALSE NEIGHBOUR: 'it returns false'. Refute it at one input. -/
def rebuildClampsWrong : ChangeSpec := { name := "rebuildClamps", fn := fun _ => fun
  | [d1, d2, d3] => { results := [.lit (.bool false)], args := [d1, d2, d3] }
  | _ => none }
def RebuildClampsWrongFalsely : Prop := rebuildClampsRow.holds Try.pinned (OpenSpec.ofChange rebuildClampsWrong)

/-- 'tscodeclaw16.MeanForms': WHATEVER THE INPUT: true; the input reads as it did. -/
def meanFormsSpec : ChangeSpec := { name := "meanForms", fn := fun _ => fun
  | [d1, d2, d3, d4] => { results := [.lit (.bool true)], args := [d1, d2, d3, d4] }
  | _ => none }
def meanFormsRow : OpenClaim := { program := "ytncmmbacoknefaa", sum := "dad19a3746ececfcb330bd2fe32417c3e7bf16a5438095b8966230248582fb33", func := "tscodec/tscodeclaw16.MeanForms", spec := "meanForms", inPlace := ["math/bits.Add64", "math/bits.Sub64"], unfollowed := true, recurses := true, named := ["math/bits.divideError", "math/bits.overflowError"], apart := false }
def MeanFormsSaid : Prop := meanFormsRow.holds Try.pinned (OpenSpec.ofChange meanFormsSpec)

/-- ITS FALSE NEIGHBOUR: 'it returns false'. Refute it at one input. -/
def meanFormsWrong : ChangeSpec := { name := "meanForms", fn := fun _ => fun
  | [d1, d2, d3, d4] => { results := [.lit (.bool false)], args := [d1, d2, d3, d4] }
  | _ => none }
def MeanFormsWrongFalsely : Prop := meanFormsRow.holds Try.pinned (OpenSpec.ofChange meanFormsWrong)

/-- 'tscodeclaw13.ConeForms': WHATEVER THE INPUT: true; the input reads as it did. -/
def coneFormsSpec : ChangeSpec := { name := "coneForms", fn := fun _ => fun
  | [d1, d2, d3, d4] => { results := [.lit (.bool true)], args := [d1, d2, d3, d4] }
  | _ => none }
def coneFormsRow : OpenClaim := { program := "ytncmmbacoknefaa", sum := "dad19a3746ececfcb330bd2fe32417c3e7bf16a5438095b8966230248582fb33", func := "tscodec/tscodeclaw13.ConeForms", spec := "coneForms", inPlace := ["math/bits.Add64", "math/bits.Sub64"], recurses := true, named := ["math/bits.divideError", "math/bits.overflowError"], apart := false }
def ConeFormsSaid : Prop := coneFormsRow.holds Try.pinned (OpenSpec.ofChange coneFormsSpec)

/-- ITS FALSE NEIGHBOUR: 'it returns false'. Refute it at one input. -/
def coneFormsWrong : ChangeSpec := { name := "coneForms", fn := fun _ => fun
  | [d1, d2, d3, d4] => { results := [.lit (.bool false)], args := [d1, d2, d3, d4] }
  | _ => none }
def ConeFormsWrongFalsely : Prop := coneFormsRow.holds Try.pinned (OpenSpec.ofChange coneFormsWrong)

/-- 'tscodeclaw13.ConeThrough': WHATEVER THE INPUT: true; the input reads as it did. -/
def coneThroughSpec : ChangeSpec := { name := "coneThrough", fn := fun _ => fun
  | [d1, d2, d3, d4, d5] => { results := [.lit (.bool true)], args := [d1, d2, d3, d4, d5] }
  | _ => none }
def coneThroughRow : OpenClaim := { program := "ytncmmbacoknefaa", sum := "dad19a3746ececfcb330bd2fe32417c3e7bf16a5438095b8966230248582fb33", func := "tscodec/tscodeclaw13.ConeThrough", spec := "coneThrough", inPlace := ["math/bits.Add64", "math/bits.Sub64"], recurses := true, named := ["math/bits.divideError", "math/bits.overflowError"], apart := false }
def ConeThroughSaid : Prop := coneThroughRow.holds Try.pinned (OpenSpec.ofChange coneThroughSpec)

/-- ITS FALSE NEIGHBOUR: 'it returns false'. Refute it at one input. -/
def coneThroughWrong : ChangeSpec := { name := "coneThrough", fn := fun _ => fun
  | [d1, d2, d3, d4, d5] => { results := [.lit (.bool false)], args := [d1, d2, d3, d4, d5] }
  | _ => none }
def ConeThroughWrongFalsely : Prop := coneThroughRow.holds Try.pinned (OpenSpec.ofChange coneThroughWrong)

/-- 'tscodeclaw13.ConeFits': WHATEVER THE INPUT: true; the input reads as it did. -/
def coneFitsSpec : ChangeSpec := { name := "coneFits", fn := fun _ => fun
  | [d] => { results := [.lit (.bool true)], args := [d] }
  | _ => none }
def coneFitsRow : OpenClaim := { program := "ytncmmbacoknefaa", sum := "dad19a3746ececfcb330bd2fe32417c3e7bf16a5438095b8966230248582fb33", func := "tscodec/tscodeclaw13.ConeFits", spec := "coneFits", inPlace := ["math/bits.Add64", "math/bits.Sub64"], recurses := true, named := ["math/bits.divideError", "math/bits.overflowError"], apart := false }
def ConeFitsSaid : Prop := coneFitsRow.holds Try.pinned (OpenSpec.ofChange coneFitsSpec)

/-- ITS FALSE NEIGHBOUR: 'it returns false'. Refute it at one input. -/
def coneFitsWrong : ChangeSpec := { name := "coneFits", fn := fun _ => fun
  | [d] => { results := [.lit (.bool false)], args := [d] }
  | _ => none }
def ConeFitsWrongFalsely : Prop := coneFitsRow.holds Try.pinned (OpenSpec.ofChange coneFitsWrong)

/-- 'tscodeclaw13.ConeMeets': WHATEVER THE INPUT: true; the input reads as it did. -/
def coneMeetsSpec : ChangeSpec := { name := "coneMeets", fn := fun _ => fun
  | [d] => { results := [.lit (.bool true)], args := [d] }
  | _ => none }
def coneMeetsRow : OpenClaim := { program := "ytncmmbacoknefaa", sum := "dad19a3746ececfcb330bd2fe32417c3e7bf16a5438095b8966230248582fb33", func := "tscodec/tscodeclaw13.ConeMeets", spec := "coneMeets", inPlace := ["math/bits.Add64", "math/bits.Sub64"], recurses := true, named := ["math/bits.divideError", "math/bits.overflowError"], apart := false }
def ConeMeetsSaid : Prop := coneMeetsRow.holds Try.pinned (OpenSpec.ofChange coneMeetsSpec)

/-- ITS FALSE NEIGHBOUR: 'it returns false'. Refute it at one input. -/
def coneMeetsWrong : ChangeSpec := { name := "coneMeets", fn := fun _ => fun
  | [d] => { results := [.lit (.bool false)], args := [d] }
  | _ => none }
def ConeMeetsWrongFalsely : Prop := coneMeetsRow.holds Try.pinned (OpenSpec.ofChange coneMeetsWrong)

/-- 'tscodeclaw13.ConeChooses': WHATEVER THE INPUT: true; the input reads as it did. -/
def coneChoosesSpec : ChangeSpec := { name := "coneChooses", fn := fun _ => fun
  | [d] => { results := [.lit (.bool true)], args := [d] }
  | _ => none }
def coneChoosesRow : OpenClaim := { program := "ytncmmbacoknefaa", sum := "dad19a3746ececfcb330bd2fe32417c3e7bf16a5438095b8966230248582fb33", func := "tscodec/tscodeclaw13.ConeChooses", spec := "coneChooses", inPlace := ["math/bits.Add64", "math/bits.Sub64"], recurses := true, named := ["math/bits.divideError", "math/bits.overflowError"], apart := false }
def ConeChoosesSaid : Prop := coneChoosesRow.holds Try.pinned (OpenSpec.ofChange coneChoosesSpec)

/-- ITS FALSE NEIGHBOUR: 'it returns false'. Refute it at one input. -/
def coneChoosesWrong : ChangeSpec := { name := "coneChooses", fn := fun _ => fun
  | [d] => { results := [.lit (.bool false)], args := [d] }
  | _ => none }
def ConeChoosesWrongFalsely : Prop := coneChoosesRow.holds Try.pinned (OpenSpec.ofChange coneChoosesWrong)

/-- 'tscodeclaw19.PiecesKeys': WHATEVER THE INPUT: true; the input reads as it did. -/
def piecesKeysSpec : ChangeSpec := { name := "piecesKeys", fn := fun _ => fun
  | [d1, d2] => { results := [.lit (.bool true)], args := [d1, d2] }
  | _ => none }
def piecesKeysRow : OpenClaim := { program := "ytncmmbacoknefaa", sum := "dad19a3746ececfcb330bd2fe32417c3e7bf16a5438095b8966230248582fb33", func := "tscodec/tscodeclaw19.PiecesKeys", spec := "piecesKeys", inPlace := ["math/bits.Add64", "math/bits.Sub64"], unfollowed := true, recurses := true, apart := false }
def PiecesKeysSaid : Prop := piecesKeysRow.holds Try.pinned (OpenSpec.ofChange piecesKeysSpec)

/-- ITS FALSE NEIGHBOUR: 'it returns false'. Refute it at one input. -/
def piecesKeysWrong : ChangeSpec := { name := "piecesKeys", fn := fun _ => fun
  | [d1, d2] => { results := [.lit (.bool false)], args := [d1, d2] }
  | _ => none }
def PiecesKeysWrongFalsely : Prop := piecesKeysRow.holds Try.pinned (OpenSpec.ofChange piecesKeysWrong)

/- THE SECOND FORM. 'bulk': how many values and letters a reading holds, each counted each time it is reached (what is shared counts as often as it is met; a slice's spare places count too). A statement '..UptoSaid' is the law's where the arguments, and the package variables that the reading takes, are together of bulk at most 1048576: NARROWER than '..Said'. Prove '..Said' where nothing that the law and all that it calls make is longer than what came in: it says more and counts as full. Else prove '..UptoSaid'. A law counts once. -/
mutual
def uptoBulk {H : Type} : DataW H → Nat
  | .lit (.string bytes) => bytes.length + 1
  | .lit _ => 1
  | .nil => 1
  | .ptr d => uptoBulk d + 1
  | .slice elems spare => uptoBulkAll elems + uptoBulkAll spare + 1
  | .agg parts => uptoBulkAll parts + 1
  | .iface _ d => uptoBulk d + 1
  | .map entries => uptoBulkEntries entries + 1
  | .held _ => 1
def uptoBulkAll {H : Type} : List (DataW H) → Nat
  | [] => 0
  | d :: r => uptoBulk d + uptoBulkAll r
def uptoBulkEntries {H : Type} : List (Lit × DataW H) → Nat
  | [] => 0
  | x :: r => uptoBulkEntry x + uptoBulkEntries r
def uptoBulkEntry {H : Type} : Lit × DataW H → Nat
  | (.string bytes, d) => bytes.length + uptoBulk d + 1
  | (_, d) => uptoBulk d + 1
 end
def uptoSmall : (H : Type) → List (DataW H) → Bool := fun _ ds => decide (uptoBulkAll ds ≤ 1048576)
def OpenSpec.upto (s : _root_.Go.ChangeSpec) : _root_.Go.OpenSpec := { _root_.Go.OpenSpec.ofChange s with cond := some uptoSmall }

/-- 'tscodeclaw16.MeanWithin', WHERE WHAT IT READS IS OF BULK AT MOST 1048576: true; the input reads as it did. -/
def meanWithinUptoRow : OpenClaim := { program := "ytncmmbacoknefaa", sum := "dad19a3746ececfcb330bd2fe32417c3e7bf16a5438095b8966230248582fb33", func := "tscodec/tscodeclaw16.MeanWithin", spec := "meanWithin", inPlace := ["math/bits.Add64", "math/bits.Sub64"], unfollowed := true, recurses := true, named := ["math/bits.divideError", "math/bits.overflowError"], apart := false, narrowed := true }
def MeanWithinUptoSaid : Prop := meanWithinUptoRow.holds Try.pinned (OpenSpec.upto meanWithinSpec)

/-- 'tscodeclaw16.MeanMaximal', WHERE WHAT IT READS IS OF BULK AT MOST 1048576: true; the input reads as it did. -/
def meanMaximalUptoRow : OpenClaim := { program := "ytncmmbacoknefaa", sum := "dad19a3746ececfcb330bd2fe32417c3e7bf16a5438095b8966230248582fb33", func := "tscodec/tscodeclaw16.MeanMaximal", spec := "meanMaximal", inPlace := ["math/bits.Add64", "math/bits.Sub64"], unfollowed := true, recurses := true, named := ["math/bits.divideError", "math/bits.overflowError"], apart := false, narrowed := true }
def MeanMaximalUptoSaid : Prop := meanMaximalUptoRow.holds Try.pinned (OpenSpec.upto meanMaximalSpec)

/-- 'tscodeclaw16.MeanAlls', WHERE WHAT IT READS IS OF BULK AT MOST 1048576: true; the input reads as it did. -/
def meanAllsUptoRow : OpenClaim := { program := "ytncmmbacoknefaa", sum := "dad19a3746ececfcb330bd2fe32417c3e7bf16a5438095b8966230248582fb33", func := "tscodec/tscodeclaw16.MeanAlls", spec := "meanAlls", inPlace := ["math/bits.Add64", "math/bits.Sub64"], unfollowed := true, recurses := true, named := ["math/bits.divideError", "math/bits.overflowError"], apart := false, narrowed := true }
def MeanAllsUptoSaid : Prop := meanAllsUptoRow.holds Try.pinned (OpenSpec.upto meanAllsSpec)

/-- 'tscodeclaw20.RebuildValues', WHERE WHAT IT READS IS OF BULK AT MOST 1048576: true; the input reads as it did. -/
def rebuildValuesUptoRow : OpenClaim := { program := "ytncmmbacoknefaa", sum := "dad19a3746ececfcb330bd2fe32417c3e7bf16a5438095b8966230248582fb33", func := "tscodec/tscodeclaw20.RebuildValues", spec := "rebuildValues", inPlace := ["math/bits.Add64", "math/bits.Sub64"], named := ["math/bits.divideError", "math/bits.overflowError"], apart := false, narrowed := true }
def RebuildValuesUptoSaid : Prop := rebuildValuesUptoRow.holds Try.pinned (OpenSpec.upto rebuildValuesSpec)

/-- 'tscodeclaw20.RebuildConstants', WHERE WHAT IT READS IS OF BULK AT MOST 1048576: true; the input reads as it did. -/
def rebuildConstantsUptoRow : OpenClaim := { program := "ytncmmbacoknefaa", sum := "dad19a3746ececfcb330bd2fe32417c3e7bf16a5438095b8966230248582fb33", func := "tscodec/tscodeclaw20.RebuildConstants", spec := "rebuildConstants", inPlace := ["math/bits.Sub64", "math/bits.Add64"], named := ["math/bits.divideError", "math/bits.overflowError"], apart := false, narrowed := true }
def RebuildConstantsUptoSaid : Prop := rebuildConstantsUptoRow.holds Try.pinned (OpenSpec.upto rebuildConstantsSpec)

/-- 'tscodeclaw20.RebuildClamps', WHERE WHAT IT READS IS OF BULK AT MOST 1048576: true; the input reads as it did. -/
def rebuildClampsUptoRow : OpenClaim := { program := "ytncmmbacoknefaa", sum := "dad19a3746ececfcb330bd2fe32417c3e7bf16a5438095b8966230248582fb33", func := "tscodec/tscodeclaw20.RebuildClamps", spec := "rebuildClamps", inPlace := ["math/bits.Add64", "math/bits.Sub64"], named := ["math/bits.divideError", "math/bits.overflowError"], apart := false, narrowed := true }
def RebuildClampsUptoSaid : Prop := rebuildClampsUptoRow.holds Try.pinned (OpenSpec.upto rebuildClampsSpec)

/-- 'tscodeclaw16.MeanForms', WHERE WHAT IT READS IS OF BULK AT MOST 1048576: true; the input reads as it did. -/
def meanFormsUptoRow : OpenClaim := { program := "ytncmmbacoknefaa", sum := "dad19a3746ececfcb330bd2fe32417c3e7bf16a5438095b8966230248582fb33", func := "tscodec/tscodeclaw16.MeanForms", spec := "meanForms", inPlace := ["math/bits.Add64", "math/bits.Sub64"], unfollowed := true, recurses := true, named := ["math/bits.divideError", "math/bits.overflowError"], apart := false, narrowed := true }
def MeanFormsUptoSaid : Prop := meanFormsUptoRow.holds Try.pinned (OpenSpec.upto meanFormsSpec)

/-- 'tscodeclaw13.ConeForms', WHERE WHAT IT READS IS OF BULK AT MOST 1048576: true; the input reads as it did. -/
def coneFormsUptoRow : OpenClaim := { program := "ytncmmbacoknefaa", sum := "dad19a3746ececfcb330bd2fe32417c3e7bf16a5438095b8966230248582fb33", func := "tscodec/tscodeclaw13.ConeForms", spec := "coneForms", inPlace := ["math/bits.Add64", "math/bits.Sub64"], recurses := true, named := ["math/bits.divideError", "math/bits.overflowError"], apart := false, narrowed := true }
def ConeFormsUptoSaid : Prop := coneFormsUptoRow.holds Try.pinned (OpenSpec.upto coneFormsSpec)

/-- 'tscodeclaw13.ConeThrough', WHERE WHAT IT READS IS OF BULK AT MOST 1048576: true; the input reads as it did. -/
def coneThroughUptoRow : OpenClaim := { program := "ytncmmbacoknefaa", sum := "dad19a3746ececfcb330bd2fe32417c3e7bf16a5438095b8966230248582fb33", func := "tscodec/tscodeclaw13.ConeThrough", spec := "coneThrough", inPlace := ["math/bits.Add64", "math/bits.Sub64"], recurses := true, named := ["math/bits.divideError", "math/bits.overflowError"], apart := false, narrowed := true }
def ConeThroughUptoSaid : Prop := coneThroughUptoRow.holds Try.pinned (OpenSpec.upto coneThroughSpec)

/-- 'tscodeclaw13.ConeFits', WHERE WHAT IT READS IS OF BULK AT MOST 1048576: true; the input reads as it did. -/
def coneFitsUptoRow : OpenClaim := { program := "ytncmmbacoknefaa", sum := "dad19a3746ececfcb330bd2fe32417c3e7bf16a5438095b8966230248582fb33", func := "tscodec/tscodeclaw13.ConeFits", spec := "coneFits", inPlace := ["math/bits.Add64", "math/bits.Sub64"], recurses := true, named := ["math/bits.divideError", "math/bits.overflowError"], apart := false, narrowed := true }
def ConeFitsUptoSaid : Prop := coneFitsUptoRow.holds Try.pinned (OpenSpec.upto coneFitsSpec)

/-- 'tscodeclaw13.ConeMeets', WHERE WHAT IT READS IS OF BULK AT MOST 1048576: true; the input reads as it did. -/
def coneMeetsUptoRow : OpenClaim := { program := "ytncmmbacoknefaa", sum := "dad19a3746ececfcb330bd2fe32417c3e7bf16a5438095b8966230248582fb33", func := "tscodec/tscodeclaw13.ConeMeets", spec := "coneMeets", inPlace := ["math/bits.Add64", "math/bits.Sub64"], recurses := true, named := ["math/bits.divideError", "math/bits.overflowError"], apart := false, narrowed := true }
def ConeMeetsUptoSaid : Prop := coneMeetsUptoRow.holds Try.pinned (OpenSpec.upto coneMeetsSpec)

/-- 'tscodeclaw13.ConeChooses', WHERE WHAT IT READS IS OF BULK AT MOST 1048576: true; the input reads as it did. -/
def coneChoosesUptoRow : OpenClaim := { program := "ytncmmbacoknefaa", sum := "dad19a3746ececfcb330bd2fe32417c3e7bf16a5438095b8966230248582fb33", func := "tscodec/tscodeclaw13.ConeChooses", spec := "coneChooses", inPlace := ["math/bits.Add64", "math/bits.Sub64"], recurses := true, named := ["math/bits.divideError", "math/bits.overflowError"], apart := false, narrowed := true }
def ConeChoosesUptoSaid : Prop := coneChoosesUptoRow.holds Try.pinned (OpenSpec.upto coneChoosesSpec)

/-- 'tscodeclaw19.PiecesKeys', WHERE WHAT IT READS IS OF BULK AT MOST 1048576: true; the input reads as it did. -/
def piecesKeysUptoRow : OpenClaim := { program := "ytncmmbacoknefaa", sum := "dad19a3746ececfcb330bd2fe32417c3e7bf16a5438095b8966230248582fb33", func := "tscodec/tscodeclaw19.PiecesKeys", spec := "piecesKeys", inPlace := ["math/bits.Add64", "math/bits.Sub64"], unfollowed := true, recurses := true, apart := false, narrowed := true }
def PiecesKeysUptoSaid : Prop := piecesKeysUptoRow.holds Try.pinned (OpenSpec.upto piecesKeysSpec)

end Rows
end Go.Proofs.Ytncmmbacoknefaa
