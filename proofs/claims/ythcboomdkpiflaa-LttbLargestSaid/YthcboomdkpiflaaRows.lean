/-
  No cell of these rows narrows 'for every input' (looked for: loops, veiled, ifaces, maps, wideKeys, modest, calm, conditions, laid).
  DERIVED. THE GIVEN ROWS OF THIS SEAT. 8 by the template 'for every input the law returns true; each argument reads behind the call as it read before'; 0 by the template 'total and deterministic' (their statements: YthcboomdkpiflaaTotals.lean).
  GIVEN WITH THE SEED: the statements are not yours to turn. If you find one false, say at which input.
  Laid BY PROGRAM, IN A SANDBOX (cutbox-rows.mjs): the forced cells as the released guide's own fill.sh prints them over the translation a05defcf0bf08930… (all of the seat's roots in one cut). By AI agents, Wed Nov 11 2026. No macro, syntax, notation, axiom, sorry.
-/
import Derived.Test.YthcboomdkpiflaaChecked
import GoSem.Claim
import GoSem.ClaimJoined
import GoSem.ClaimMapViews
import Derived.JoinedTies
import Derived.KernelRfl
namespace Go.Proofs.Ythcboomdkpiflaa
/- THE CELL 'sum', in the pinned program and in every row, IS THE sha256 OF THE DUMP (.gsa) THAT YthcboomdkpiflaaProg.lean LOADS. Nothing in Lean hashes anything: it is a label: what it is worth is what the hold of that sum in a sandbox is worth. -/
noncomputable def Try.pinned : Pinned := { name := "ythcboomdkpiflaa", sum := "a05defcf0bf089302bbb3ce068e038a9edf63d5652508e9f8ad70a1a0c8923a6", checked := Try.checked }
namespace Rows
def none {H : Type} : Left H := { results := [], args := [] }

/-- 'tscodeclaw23.TriangleForms': WHATEVER THE INPUT: true; the input reads as it did. -/
def triangleFormsSpec : ChangeSpec := { name := "triangleForms", fn := fun _ => fun
  | [d1, d2, d3, d4, d5, d6, d7] => { results := [.lit (.bool true)], args := [d1, d2, d3, d4, d5, d6, d7] }
  | _ => none }
def triangleFormsRow : OpenClaim := { program := "ythcboomdkpiflaa", sum := "a05defcf0bf089302bbb3ce068e038a9edf63d5652508e9f8ad70a1a0c8923a6", func := "tscodec/tscodeclaw23.TriangleForms", spec := "triangleForms", inPlace := ["math/bits.Add64", "math/bits.Sub64"], apart := false }
def TriangleFormsSaid : Prop := triangleFormsRow.holds Try.pinned (OpenSpec.ofChange triangleFormsSpec)

/-- ITS FALSE NEIGHBOUR: 'it returns false'. Refute it at one input. -/
def triangleFormsWrong : ChangeSpec := { name := "triangleForms", fn := fun _ => fun
  | [d1, d2, d3, d4, d5, d6, d7] => { results := [.lit (.bool false)], args := [d1, d2, d3, d4, d5, d6, d7] }
  | _ => none }
def TriangleFormsWrongFalsely : Prop := triangleFormsRow.holds Try.pinned (OpenSpec.ofChange triangleFormsWrong)

/-- 'tscodeclaw23.TriangleTurns': WHATEVER THE INPUT: true; the input reads as it did. -/
def triangleTurnsSpec : ChangeSpec := { name := "triangleTurns", fn := fun _ => fun
  | [d1, d2, d3, d4] => { results := [.lit (.bool true)], args := [d1, d2, d3, d4] }
  | _ => none }
def triangleTurnsRow : OpenClaim := { program := "ythcboomdkpiflaa", sum := "a05defcf0bf089302bbb3ce068e038a9edf63d5652508e9f8ad70a1a0c8923a6", func := "tscodec/tscodeclaw23.TriangleTurns", spec := "triangleTurns", inPlace := ["math/bits.Add64", "math/bits.Sub64"], apart := false }
def TriangleTurnsSaid : Prop := triangleTurnsRow.holds Try.pinned (OpenSpec.ofChange triangleTurnsSpec)

/-- ITS FALSE NEIGHBOUR: 'it returns false'. Refute it at one input. -/
def triangleTurnsWrong : ChangeSpec := { name := "triangleTurns", fn := fun _ => fun
  | [d1, d2, d3, d4] => { results := [.lit (.bool false)], args := [d1, d2, d3, d4] }
  | _ => none }
def TriangleTurnsWrongFalsely : Prop := triangleTurnsRow.holds Try.pinned (OpenSpec.ofChange triangleTurnsWrong)

/-- 'tscodeclaw23.TriangleShifts': WHATEVER THE INPUT: true; the input reads as it did. -/
def triangleShiftsSpec : ChangeSpec := { name := "triangleShifts", fn := fun _ => fun
  | [d] => { results := [.lit (.bool true)], args := [d] }
  | _ => none }
def triangleShiftsRow : OpenClaim := { program := "ythcboomdkpiflaa", sum := "a05defcf0bf089302bbb3ce068e038a9edf63d5652508e9f8ad70a1a0c8923a6", func := "tscodec/tscodeclaw23.TriangleShifts", spec := "triangleShifts", inPlace := ["math/bits.Add64", "math/bits.Sub64"], apart := false }
def TriangleShiftsSaid : Prop := triangleShiftsRow.holds Try.pinned (OpenSpec.ofChange triangleShiftsSpec)

/-- ITS FALSE NEIGHBOUR: 'it returns false'. Refute it at one input. -/
def triangleShiftsWrong : ChangeSpec := { name := "triangleShifts", fn := fun _ => fun
  | [d] => { results := [.lit (.bool false)], args := [d] }
  | _ => none }
def TriangleShiftsWrongFalsely : Prop := triangleShiftsRow.holds Try.pinned (OpenSpec.ofChange triangleShiftsWrong)

/-- 'tscodeclaw23.TriangleWeighs': WHATEVER THE INPUT: true; the input reads as it did. -/
def triangleWeighsSpec : ChangeSpec := { name := "triangleWeighs", fn := fun _ => fun
  | [d1, d2] => { results := [.lit (.bool true)], args := [d1, d2] }
  | _ => none }
def triangleWeighsRow : OpenClaim := { program := "ythcboomdkpiflaa", sum := "a05defcf0bf089302bbb3ce068e038a9edf63d5652508e9f8ad70a1a0c8923a6", func := "tscodec/tscodeclaw23.TriangleWeighs", spec := "triangleWeighs", inPlace := ["math/bits.Add64", "math/bits.Sub64"], apart := false }
def TriangleWeighsSaid : Prop := triangleWeighsRow.holds Try.pinned (OpenSpec.ofChange triangleWeighsSpec)

/-- ITS FALSE NEIGHBOUR: 'it returns false'. Refute it at one input. -/
def triangleWeighsWrong : ChangeSpec := { name := "triangleWeighs", fn := fun _ => fun
  | [d1, d2] => { results := [.lit (.bool false)], args := [d1, d2] }
  | _ => none }
def TriangleWeighsWrongFalsely : Prop := triangleWeighsRow.holds Try.pinned (OpenSpec.ofChange triangleWeighsWrong)

/-- 'tscodeclaw25.LttbForms': WHATEVER THE INPUT: true; the input reads as it did. -/
def lttbFormsSpec : ChangeSpec := { name := "lttbForms", fn := fun _ => fun
  | [d1, d2, d3] => { results := [.lit (.bool true)], args := [d1, d2, d3] }
  | _ => none }
def lttbFormsRow : OpenClaim := { program := "ythcboomdkpiflaa", sum := "a05defcf0bf089302bbb3ce068e038a9edf63d5652508e9f8ad70a1a0c8923a6", func := "tscodec/tscodeclaw25.LttbForms", spec := "lttbForms", inPlace := ["math/bits.Add64", "math/bits.Sub64"], unfollowed := true, recurses := true, apart := false }
def LttbFormsSaid : Prop := lttbFormsRow.holds Try.pinned (OpenSpec.ofChange lttbFormsSpec)

/-- ITS FALSE NEIGHBOUR: 'it returns false'. Refute it at one input. -/
def lttbFormsWrong : ChangeSpec := { name := "lttbForms", fn := fun _ => fun
  | [d1, d2, d3] => { results := [.lit (.bool false)], args := [d1, d2, d3] }
  | _ => none }
def LttbFormsWrongFalsely : Prop := lttbFormsRow.holds Try.pinned (OpenSpec.ofChange lttbFormsWrong)

/-- 'tscodeclaw25.LttbKeeps': WHATEVER THE INPUT: true; the input reads as it did. -/
def lttbKeepsSpec : ChangeSpec := { name := "lttbKeeps", fn := fun _ => fun
  | [d] => { results := [.lit (.bool true)], args := [d] }
  | _ => none }
def lttbKeepsRow : OpenClaim := { program := "ythcboomdkpiflaa", sum := "a05defcf0bf089302bbb3ce068e038a9edf63d5652508e9f8ad70a1a0c8923a6", func := "tscodec/tscodeclaw25.LttbKeeps", spec := "lttbKeeps", inPlace := ["math/bits.Add64", "math/bits.Sub64"], unfollowed := true, recurses := true, apart := false }
def LttbKeepsSaid : Prop := lttbKeepsRow.holds Try.pinned (OpenSpec.ofChange lttbKeepsSpec)

/-- ITS FALSE NEIGHBOUR: 'it returns false'. Refute it at one input. -/
def lttbKeepsWrong : ChangeSpec := { name := "lttbKeeps", fn := fun _ => fun
  | [d] => { results := [.lit (.bool false)], args := [d] }
  | _ => none }
def LttbKeepsWrongFalsely : Prop := lttbKeepsRow.holds Try.pinned (OpenSpec.ofChange lttbKeepsWrong)

/-- 'tscodeclaw25.LttbLargest': WHATEVER THE INPUT: true; the input reads as it did. -/
def lttbLargestSpec : ChangeSpec := { name := "lttbLargest", fn := fun _ => fun
  | [d] => { results := [.lit (.bool true)], args := [d] }
  | _ => none }
def lttbLargestRow : OpenClaim := { program := "ythcboomdkpiflaa", sum := "a05defcf0bf089302bbb3ce068e038a9edf63d5652508e9f8ad70a1a0c8923a6", func := "tscodec/tscodeclaw25.LttbLargest", spec := "lttbLargest", inPlace := ["math/bits.Add64", "math/bits.Sub64"], unfollowed := true, recurses := true, apart := false }
def LttbLargestSaid : Prop := lttbLargestRow.holds Try.pinned (OpenSpec.ofChange lttbLargestSpec)

/-- ITS FALSE NEIGHBOUR: 'it returns false'. Refute it at one input. -/
def lttbLargestWrong : ChangeSpec := { name := "lttbLargest", fn := fun _ => fun
  | [d] => { results := [.lit (.bool false)], args := [d] }
  | _ => none }
def LttbLargestWrongFalsely : Prop := lttbLargestRow.holds Try.pinned (OpenSpec.ofChange lttbLargestWrong)

/-- 'tscodeclaw25.LttbShifts': WHATEVER THE INPUT: true; the input reads as it did. -/
def lttbShiftsSpec : ChangeSpec := { name := "lttbShifts", fn := fun _ => fun
  | [d1, d2, d3] => { results := [.lit (.bool true)], args := [d1, d2, d3] }
  | _ => none }
def lttbShiftsRow : OpenClaim := { program := "ythcboomdkpiflaa", sum := "a05defcf0bf089302bbb3ce068e038a9edf63d5652508e9f8ad70a1a0c8923a6", func := "tscodec/tscodeclaw25.LttbShifts", spec := "lttbShifts", inPlace := ["math/bits.Add64", "math/bits.Sub64"], unfollowed := true, recurses := true, apart := false }
def LttbShiftsSaid : Prop := lttbShiftsRow.holds Try.pinned (OpenSpec.ofChange lttbShiftsSpec)

/-- ITS FALSE NEIGHBOUR: 'it returns false'. Refute it at one input. -/
def lttbShiftsWrong : ChangeSpec := { name := "lttbShifts", fn := fun _ => fun
  | [d1, d2, d3] => { results := [.lit (.bool false)], args := [d1, d2, d3] }
  | _ => none }
def LttbShiftsWrongFalsely : Prop := lttbShiftsRow.holds Try.pinned (OpenSpec.ofChange lttbShiftsWrong)

/- THE SECOND FORM. 'bulk': how many values and letters a reading holds, each counted each time it is reached (what is shared counts as often as it is met; a slice's spare places count too). A statement '..UptoSaid' is the law's where the arguments, and the package variables that the reading takes, are together of bulk at most 1048576: NARROWER than '..Said'. Prove '..Said' where nothing that the law and all that it calls make is longer than what came in: it says more and counts as full. Else prove '..UptoSaid'. A law counts once. -/
mutual
def uptoBulk {H : Type} : DataW H → Nat
  | .lit (.string bytes) => bytes.length + 1
  | .lit _ => 1
  | .nil => 1
  | .ptr d => uptoBulk d + 1
  | .slice elems spare => uptoBulkAll elems + uptoBulkAll spare + 1
  | .agg parts => uptoBulkAll parts + 1
  | .iface _ d => uptoBulk d + 1
  | .map entries => uptoBulkEntries entries + 1
  | .held _ => 1
def uptoBulkAll {H : Type} : List (DataW H) → Nat
  | [] => 0
  | d :: r => uptoBulk d + uptoBulkAll r
def uptoBulkEntries {H : Type} : List (Lit × DataW H) → Nat
  | [] => 0
  | x :: r => uptoBulkEntry x + uptoBulkEntries r
def uptoBulkEntry {H : Type} : Lit × DataW H → Nat
  | (.string bytes, d) => bytes.length + uptoBulk d + 1
  | (_, d) => uptoBulk d + 1
 end
def uptoSmall : (H : Type) → List (DataW H) → Bool := fun _ ds => decide (uptoBulkAll ds ≤ 1048576)
def OpenSpec.upto (s : _root_.Go.ChangeSpec) : _root_.Go.OpenSpec := { _root_.Go.OpenSpec.ofChange s with cond := some uptoSmall }

/-- 'tscodeclaw23.TriangleForms', WHERE WHAT IT READS IS OF BULK AT MOST 1048576: true; the input reads as it did. -/
def triangleFormsUptoRow : OpenClaim := { program := "ythcboomdkpiflaa", sum := "a05defcf0bf089302bbb3ce068e038a9edf63d5652508e9f8ad70a1a0c8923a6", func := "tscodec/tscodeclaw23.TriangleForms", spec := "triangleForms", inPlace := ["math/bits.Add64", "math/bits.Sub64"], apart := false, narrowed := true }
def TriangleFormsUptoSaid : Prop := triangleFormsUptoRow.holds Try.pinned (OpenSpec.upto triangleFormsSpec)

/-- 'tscodeclaw23.TriangleTurns', WHERE WHAT IT READS IS OF BULK AT MOST 1048576: true; the input reads as it did. -/
def triangleTurnsUptoRow : OpenClaim := { program := "ythcboomdkpiflaa", sum := "a05defcf0bf089302bbb3ce068e038a9edf63d5652508e9f8ad70a1a0c8923a6", func := "tscodec/tscodeclaw23.TriangleTurns", spec := "triangleTurns", inPlace := ["math/bits.Add64", "math/bits.Sub64"], apart := false, narrowed := true }
def TriangleTurnsUptoSaid : Prop := triangleTurnsUptoRow.holds Try.pinned (OpenSpec.upto triangleTurnsSpec)

/-- 'tscodeclaw23.TriangleShifts', WHERE WHAT IT READS IS OF BULK AT MOST 1048576: true; the input reads as it did. -/
def triangleShiftsUptoRow : OpenClaim := { program := "ythcboomdkpiflaa", sum := "a05defcf0bf089302bbb3ce068e038a9edf63d5652508e9f8ad70a1a0c8923a6", func := "tscodec/tscodeclaw23.TriangleShifts", spec := "triangleShifts", inPlace := ["math/bits.Add64", "math/bits.Sub64"], apart := false, narrowed := true }
def TriangleShiftsUptoSaid : Prop := triangleShiftsUptoRow.holds Try.pinned (OpenSpec.upto triangleShiftsSpec)

/-- 'tscodeclaw23.TriangleWeighs', WHERE WHAT IT READS IS OF BULK AT MOST 1048576: true; the input reads as it did. -/
def triangleWeighsUptoRow : OpenClaim := { program := "ythcboomdkpiflaa", sum := "a05defcf0bf089302bbb3ce068e038a9edf63d5652508e9f8ad70a1a0c8923a6", func := "tscodec/tscodeclaw23.TriangleWeighs", spec := "triangleWeighs", inPlace := ["math/bits.Add64", "math/bits.Sub64"], apart := false, narrowed := true }
def TriangleWeighsUptoSaid : Prop := triangleWeighsUptoRow.holds Try.pinned (OpenSpec.upto triangleWeighsSpec)

/-- 'tscodeclaw25.LttbForms', WHERE WHAT IT READS IS OF BULK AT MOST 1048576: true; the input reads as it did. -/
def lttbFormsUptoRow : OpenClaim := { program := "ythcboomdkpiflaa", sum := "a05defcf0bf089302bbb3ce068e038a9edf63d5652508e9f8ad70a1a0c8923a6", func := "tscodec/tscodeclaw25.LttbForms", spec := "lttbForms", inPlace := ["math/bits.Add64", "math/bits.Sub64"], unfollowed := true, recurses := true, apart := false, narrowed := true }
def LttbFormsUptoSaid : Prop := lttbFormsUptoRow.holds Try.pinned (OpenSpec.upto lttbFormsSpec)

/-- 'tscodeclaw25.LttbKeeps', WHERE WHAT IT READS IS OF BULK AT MOST 1048576: true; the input reads as it did. -/
def lttbKeepsUptoRow : OpenClaim := { program := "ythcboomdkpiflaa", sum := "a05defcf0bf089302bbb3ce068e038a9edf63d5652508e9f8ad70a1a0c8923a6", func := "tscodec/tscodeclaw25.LttbKeeps", spec := "lttbKeeps", inPlace := ["math/bits.Add64", "math/bits.Sub64"], unfollowed := true, recurses := true, apart := false, narrowed := true }
def LttbKeepsUptoSaid : Prop := lttbKeepsUptoRow.holds Try.pinned (OpenSpec.upto lttbKeepsSpec)

/-- 'tscodeclaw25.LttbLargest', WHERE WHAT IT READS IS OF BULK AT MOST 1048576: true; the input reads as it did. -/
def lttbLargestUptoRow : OpenClaim := { program := "ythcboomdkpiflaa", sum := "a05defcf0bf089302bbb3ce068e038a9edf63d5652508e9f8ad70a1a0c8923a6", func := "tscodec/tscodeclaw25.LttbLargest", spec := "lttbLargest", inPlace := ["math/bits.Add64", "math/bits.Sub64"], unfollowed := true, recurses := true, apart := false, narrowed := true }
def LttbLargestUptoSaid : Prop := lttbLargestUptoRow.holds Try.pinned (OpenSpec.upto lttbLargestSpec)

/-- 'tscodeclaw25.LttbShifts', WHERE WHAT IT READS IS OF BULK AT MOST 1048576: true; the input reads as it did. -/
def lttbShiftsUptoRow : OpenClaim := { program := "ythcboomdkpiflaa", sum := "a05defcf0bf089302bbb3ce068e038a9edf63d5652508e9f8ad70a1a0c8923a6", func := "tscodec/tscodeclaw25.LttbShifts", spec := "lttbShifts", inPlace := ["math/bits.Add64", "math/bits.Sub64"], unfollowed := true, recurses := true, apart := false, narrowed := true }
def LttbShiftsUptoSaid : Prop := lttbShiftsUptoRow.holds Try.pinned (OpenSpec.upto lttbShiftsSpec)

end Rows
end Go.Proofs.Ythcboomdkpiflaa
