/-
  No cell of these rows narrows 'for every input' (looked for: loops, veiled, ifaces, maps, wideKeys, modest, calm, conditions, laid).
  DERIVED. THE GIVEN ROWS OF THIS SEAT. 11 by the template 'for every input the law returns true; each argument reads behind the call as it read before'; 0 by the template 'total and deterministic' (their statements: YtlanoclibdhpmaaTotals.lean).
  GIVEN WITH THE SEED: the statements are not yours to turn. If you find one false, say at which input.
  Laid BY PROGRAM, IN A SANDBOX (cutbox-rows.mjs): the forced cells as the released guide's own fill.sh prints them over the translation 79d8974e7a37887e… (all of the seat's roots in one cut). By AI agents, Wed Nov 11 2026. No macro, syntax, notation, axiom, sorry.
-/
import Derived.Test.YtlanoclibdhpmaaChecked
import GoSem.Claim
import GoSem.ClaimJoined
import GoSem.ClaimMapViews
import Derived.JoinedTies
import Derived.KernelRfl
namespace Go.Proofs.Ytlanoclibdhpmaa
/- THE CELL 'sum', in the pinned program and in every row, IS THE sha256 OF THE DUMP (.gsa) THAT YtlanoclibdhpmaaProg.lean LOADS. Nothing in Lean hashes anything: it is a label: what it is worth is what the hold of that sum in a sandbox is worth. -/
noncomputable def Try.pinned : Pinned := { name := "ytlanoclibdhpmaa", sum := "79d8974e7a37887e9fb1a21e657ad46fdebafe4ec94116c6a99877e3c274c4ac", checked := Try.checked }
namespace Rows
def none {H : Type} : Left H := { results := [], args := [] }

/-- 'tscodeclaw03.RatioMakes': WHATEVER THE INPUT: true; the input reads as it did. -/
def ratioMakesSpec : ChangeSpec := { name := "ratioMakes", fn := fun _ => fun
  | [d1, d2, d3] => { results := [.lit (.bool true)], args := [d1, d2, d3] }
  | _ => none }
def ratioMakesRow : OpenClaim := { program := "ytlanoclibdhpmaa", sum := "79d8974e7a37887e9fb1a21e657ad46fdebafe4ec94116c6a99877e3c274c4ac", func := "tscodec/tscodeclaw03.RatioMakes", spec := "ratioMakes", inPlace := ["math/bits.Sub64", "math/bits.Add64"], named := ["math/bits.divideError", "math/bits.overflowError"], apart := false }
def RatioMakesSaid : Prop := ratioMakesRow.holds Try.pinned (OpenSpec.ofChange ratioMakesSpec)

/-- ITS FALSE NEIGHBOUR: 'it returns false'. Refute it at one input. -/
def ratioMakesWrong : ChangeSpec := { name := "ratioMakes", fn := fun _ => fun
  | [d1, d2, d3] => { results := [.lit (.bool false)], args := [d1, d2, d3] }
  | _ => none }
def RatioMakesWrongFalsely : Prop := ratioMakesRow.holds Try.pinned (OpenSpec.ofChange ratioMakesWrong)

/-- 'tscodeclaw03.RatioRounds': WHATEVER THE INPUT: true; the input reads as it did. -/
def ratioRoundsSpec : ChangeSpec := { name := "ratioRounds", fn := fun _ => fun
  | [d] => { results := [.lit (.bool true)], args := [d] }
  | _ => none }
def ratioRoundsRow : OpenClaim := { program := "ytlanoclibdhpmaa", sum := "79d8974e7a37887e9fb1a21e657ad46fdebafe4ec94116c6a99877e3c274c4ac", func := "tscodec/tscodeclaw03.RatioRounds", spec := "ratioRounds", inPlace := ["math/bits.Add64", "math/bits.Sub64"], named := ["math/bits.divideError", "math/bits.overflowError"], apart := false }
def RatioRoundsSaid : Prop := ratioRoundsRow.holds Try.pinned (OpenSpec.ofChange ratioRoundsSpec)

/-- ITS FALSE NEIGHBOUR: 'it returns false'. Refute it at one input. -/
def ratioRoundsWrong : ChangeSpec := { name := "ratioRounds", fn := fun _ => fun
  | [d] => { results := [.lit (.bool false)], args := [d] }
  | _ => none }
def RatioRoundsWrongFalsely : Prop := ratioRoundsRow.holds Try.pinned (OpenSpec.ofChange ratioRoundsWrong)

/-- 'tscodeclaw03.RatioUnique': WHATEVER THE INPUT: true; the input reads as it did. -/
def ratioUniqueSpec : ChangeSpec := { name := "ratioUnique", fn := fun _ => fun
  | [d1, d2] => { results := [.lit (.bool true)], args := [d1, d2] }
  | _ => none }
def ratioUniqueRow : OpenClaim := { program := "ytlanoclibdhpmaa", sum := "79d8974e7a37887e9fb1a21e657ad46fdebafe4ec94116c6a99877e3c274c4ac", func := "tscodec/tscodeclaw03.RatioUnique", spec := "ratioUnique", inPlace := ["math/bits.Add64", "math/bits.Sub64"], named := ["math/bits.divideError", "math/bits.overflowError"], apart := false }
def RatioUniqueSaid : Prop := ratioUniqueRow.holds Try.pinned (OpenSpec.ofChange ratioUniqueSpec)

/-- ITS FALSE NEIGHBOUR: 'it returns false'. Refute it at one input. -/
def ratioUniqueWrong : ChangeSpec := { name := "ratioUnique", fn := fun _ => fun
  | [d1, d2] => { results := [.lit (.bool false)], args := [d1, d2] }
  | _ => none }
def RatioUniqueWrongFalsely : Prop := ratioUniqueRow.holds Try.pinned (OpenSpec.ofChange ratioUniqueWrong)

/-- 'tscodeclaw03.RatioOrder': WHATEVER THE INPUT: true; the input reads as it did. -/
def ratioOrderSpec : ChangeSpec := { name := "ratioOrder", fn := fun _ => fun
  | [d] => { results := [.lit (.bool true)], args := [d] }
  | _ => none }
def ratioOrderRow : OpenClaim := { program := "ytlanoclibdhpmaa", sum := "79d8974e7a37887e9fb1a21e657ad46fdebafe4ec94116c6a99877e3c274c4ac", func := "tscodec/tscodeclaw03.RatioOrder", spec := "ratioOrder", inPlace := ["math/bits.Add64", "math/bits.Sub64"], named := ["math/bits.divideError", "math/bits.overflowError"], apart := false }
def RatioOrderSaid : Prop := ratioOrderRow.holds Try.pinned (OpenSpec.ofChange ratioOrderSpec)

/-- ITS FALSE NEIGHBOUR: 'it returns false'. Refute it at one input. -/
def ratioOrderWrong : ChangeSpec := { name := "ratioOrder", fn := fun _ => fun
  | [d] => { results := [.lit (.bool false)], args := [d] }
  | _ => none }
def RatioOrderWrongFalsely : Prop := ratioOrderRow.holds Try.pinned (OpenSpec.ofChange ratioOrderWrong)

/-- 'tscodeclaw03.RatioNear': WHATEVER THE INPUT: true; the input reads as it did. -/
def ratioNearSpec : ChangeSpec := { name := "ratioNear", fn := fun _ => fun
  | [d1, d2] => { results := [.lit (.bool true)], args := [d1, d2] }
  | _ => none }
def ratioNearRow : OpenClaim := { program := "ytlanoclibdhpmaa", sum := "79d8974e7a37887e9fb1a21e657ad46fdebafe4ec94116c6a99877e3c274c4ac", func := "tscodec/tscodeclaw03.RatioNear", spec := "ratioNear", inPlace := ["math/bits.Add64", "math/bits.Sub64"], named := ["math/bits.divideError", "math/bits.overflowError"], apart := false }
def RatioNearSaid : Prop := ratioNearRow.holds Try.pinned (OpenSpec.ofChange ratioNearSpec)

/-- ITS FALSE NEIGHBOUR: 'it returns false'. Refute it at one input. -/
def ratioNearWrong : ChangeSpec := { name := "ratioNear", fn := fun _ => fun
  | [d1, d2] => { results := [.lit (.bool false)], args := [d1, d2] }
  | _ => none }
def RatioNearWrongFalsely : Prop := ratioNearRow.holds Try.pinned (OpenSpec.ofChange ratioNearWrong)

/-- 'tscodeclaw03.RatioForms': WHATEVER THE INPUT: true; the input reads as it did. -/
def ratioFormsSpec : ChangeSpec := { name := "ratioForms", fn := fun _ => fun
  | [d1, d2, d3, d4, d5] => { results := [.lit (.bool true)], args := [d1, d2, d3, d4, d5] }
  | _ => none }
def ratioFormsRow : OpenClaim := { program := "ytlanoclibdhpmaa", sum := "79d8974e7a37887e9fb1a21e657ad46fdebafe4ec94116c6a99877e3c274c4ac", func := "tscodec/tscodeclaw03.RatioForms", spec := "ratioForms", inPlace := ["math/bits.Add64", "math/bits.Sub64"], named := ["math/bits.divideError", "math/bits.overflowError"], apart := false }
def RatioFormsSaid : Prop := ratioFormsRow.holds Try.pinned (OpenSpec.ofChange ratioFormsSpec)

/-- ITS FALSE NEIGHBOUR: 'it returns false'. Refute it at one input. -/
def ratioFormsWrong : ChangeSpec := { name := "ratioForms", fn := fun _ => fun
  | [d1, d2, d3, d4, d5] => { results := [.lit (.bool false)], args := [d1, d2, d3, d4, d5] }
  | _ => none }
def RatioFormsWrongFalsely : Prop := ratioFormsRow.holds Try.pinned (OpenSpec.ofChange ratioFormsWrong)

/-- 'tscodeclaw04.SimplestForms': WHATEVER THE INPUT: true; the input reads as it did. -/
def simplestFormsSpec : ChangeSpec := { name := "simplestForms", fn := fun _ => fun
  | [d1, d2, d3] => { results := [.lit (.bool true)], args := [d1, d2, d3] }
  | _ => none }
def simplestFormsRow : OpenClaim := { program := "ytlanoclibdhpmaa", sum := "79d8974e7a37887e9fb1a21e657ad46fdebafe4ec94116c6a99877e3c274c4ac", func := "tscodec/tscodeclaw04.SimplestForms", spec := "simplestForms", inPlace := ["math/bits.Add64", "math/bits.Sub64"], recurses := true, named := ["math/bits.divideError", "math/bits.overflowError"], apart := false }
def SimplestFormsSaid : Prop := simplestFormsRow.holds Try.pinned (OpenSpec.ofChange simplestFormsSpec)

/-- ITS FALSE NEIGHBOUR: 'it returns false'. Refute it at one input. -/
def simplestFormsWrong : ChangeSpec := { name := "simplestForms", fn := fun _ => fun
  | [d1, d2, d3] => { results := [.lit (.bool false)], args := [d1, d2, d3] }
  | _ => none }
def SimplestFormsWrongFalsely : Prop := simplestFormsRow.holds Try.pinned (OpenSpec.ofChange simplestFormsWrong)

/-- 'tscodeclaw04.SimplestInside': WHATEVER THE INPUT: true; the input reads as it did. -/
def simplestInsideSpec : ChangeSpec := { name := "simplestInside", fn := fun _ => fun
  | [d] => { results := [.lit (.bool true)], args := [d] }
  | _ => none }
def simplestInsideRow : OpenClaim := { program := "ytlanoclibdhpmaa", sum := "79d8974e7a37887e9fb1a21e657ad46fdebafe4ec94116c6a99877e3c274c4ac", func := "tscodec/tscodeclaw04.SimplestInside", spec := "simplestInside", inPlace := ["math/bits.Add64", "math/bits.Sub64"], recurses := true, named := ["math/bits.divideError", "math/bits.overflowError"], apart := false }
def SimplestInsideSaid : Prop := simplestInsideRow.holds Try.pinned (OpenSpec.ofChange simplestInsideSpec)

/-- ITS FALSE NEIGHBOUR: 'it returns false'. Refute it at one input. -/
def simplestInsideWrong : ChangeSpec := { name := "simplestInside", fn := fun _ => fun
  | [d] => { results := [.lit (.bool false)], args := [d] }
  | _ => none }
def SimplestInsideWrongFalsely : Prop := simplestInsideRow.holds Try.pinned (OpenSpec.ofChange simplestInsideWrong)

/-- 'tscodeclaw04.SimplestLeast': WHATEVER THE INPUT: true; the input reads as it did. -/
def simplestLeastSpec : ChangeSpec := { name := "simplestLeast", fn := fun _ => fun
  | [d1, d2, d3, d4] => { results := [.lit (.bool true)], args := [d1, d2, d3, d4] }
  | _ => none }
def simplestLeastRow : OpenClaim := { program := "ytlanoclibdhpmaa", sum := "79d8974e7a37887e9fb1a21e657ad46fdebafe4ec94116c6a99877e3c274c4ac", func := "tscodec/tscodeclaw04.SimplestLeast", spec := "simplestLeast", inPlace := ["math/bits.Sub64", "math/bits.Add64"], recurses := true, named := ["math/bits.divideError", "math/bits.overflowError"], apart := false }
def SimplestLeastSaid : Prop := simplestLeastRow.holds Try.pinned (OpenSpec.ofChange simplestLeastSpec)

/-- ITS FALSE NEIGHBOUR: 'it returns false'. Refute it at one input. -/
def simplestLeastWrong : ChangeSpec := { name := "simplestLeast", fn := fun _ => fun
  | [d1, d2, d3, d4] => { results := [.lit (.bool false)], args := [d1, d2, d3, d4] }
  | _ => none }
def SimplestLeastWrongFalsely : Prop := simplestLeastRow.holds Try.pinned (OpenSpec.ofChange simplestLeastWrong)

/-- 'tscodeclaw04.SimplestZero': WHATEVER THE INPUT: true; the input reads as it did. -/
def simplestZeroSpec : ChangeSpec := { name := "simplestZero", fn := fun _ => fun
  | [d] => { results := [.lit (.bool true)], args := [d] }
  | _ => none }
def simplestZeroRow : OpenClaim := { program := "ytlanoclibdhpmaa", sum := "79d8974e7a37887e9fb1a21e657ad46fdebafe4ec94116c6a99877e3c274c4ac", func := "tscodec/tscodeclaw04.SimplestZero", spec := "simplestZero", inPlace := ["math/bits.Add64", "math/bits.Sub64"], recurses := true, named := ["math/bits.divideError", "math/bits.overflowError"], apart := false }
def SimplestZeroSaid : Prop := simplestZeroRow.holds Try.pinned (OpenSpec.ofChange simplestZeroSpec)

/-- ITS FALSE NEIGHBOUR: 'it returns false'. Refute it at one input. -/
def simplestZeroWrong : ChangeSpec := { name := "simplestZero", fn := fun _ => fun
  | [d] => { results := [.lit (.bool false)], args := [d] }
  | _ => none }
def SimplestZeroWrongFalsely : Prop := simplestZeroRow.holds Try.pinned (OpenSpec.ofChange simplestZeroWrong)

/-- 'tscodeclaw04.SimplestNests': WHATEVER THE INPUT: true; the input reads as it did. -/
def simplestNestsSpec : ChangeSpec := { name := "simplestNests", fn := fun _ => fun
  | [d] => { results := [.lit (.bool true)], args := [d] }
  | _ => none }
def simplestNestsRow : OpenClaim := { program := "ytlanoclibdhpmaa", sum := "79d8974e7a37887e9fb1a21e657ad46fdebafe4ec94116c6a99877e3c274c4ac", func := "tscodec/tscodeclaw04.SimplestNests", spec := "simplestNests", inPlace := ["math/bits.Add64", "math/bits.Sub64"], recurses := true, named := ["math/bits.divideError", "math/bits.overflowError"], apart := false }
def SimplestNestsSaid : Prop := simplestNestsRow.holds Try.pinned (OpenSpec.ofChange simplestNestsSpec)

/-- ITS FALSE NEIGHBOUR: 'it returns false'. Refute it at one input. -/
def simplestNestsWrong : ChangeSpec := { name := "simplestNests", fn := fun _ => fun
  | [d] => { results := [.lit (.bool false)], args := [d] }
  | _ => none }
def SimplestNestsWrongFalsely : Prop := simplestNestsRow.holds Try.pinned (OpenSpec.ofChange simplestNestsWrong)

/- THE SECOND FORM. 'bulk': how many values and letters a reading holds, each counted each time it is reached (what is shared counts as often as it is met; a slice's spare places count too). A statement '..UptoSaid' is the law's where the arguments, and the package variables that the reading takes, are together of bulk at most 1048576: NARROWER than '..Said'. Prove '..Said' where nothing that the law and all that it calls make is longer than what came in: it says more and counts as full. Else prove '..UptoSaid'. A law counts once. -/
mutual
def uptoBulk {H : Type} : DataW H → Nat
  | .lit (.string bytes) => bytes.length + 1
  | .lit _ => 1
  | .nil => 1
  | .ptr d => uptoBulk d + 1
  | .slice elems spare => uptoBulkAll elems + uptoBulkAll spare + 1
  | .agg parts => uptoBulkAll parts + 1
  | .iface _ d => uptoBulk d + 1
  | .map entries => uptoBulkEntries entries + 1
  | .held _ => 1
def uptoBulkAll {H : Type} : List (DataW H) → Nat
  | [] => 0
  | d :: r => uptoBulk d + uptoBulkAll r
def uptoBulkEntries {H : Type} : List (Lit × DataW H) → Nat
  | [] => 0
  | x :: r => uptoBulkEntry x + uptoBulkEntries r
def uptoBulkEntry {H : Type} : Lit × DataW H → Nat
  | (.string bytes, d) => bytes.length + uptoBulk d + 1
  | (_, d) => uptoBulk d + 1
 end
def uptoSmall : (H : Type) → List (DataW H) → Bool := fun _ ds => decide (uptoBulkAll ds ≤ 1048576)
def OpenSpec.upto (s : _root_.Go.ChangeSpec) : _root_.Go.OpenSpec := { _root_.Go.OpenSpec.ofChange s with cond := some uptoSmall }

/-- 'tscodeclaw03.RatioMakes', WHERE WHAT IT READS IS OF BULK AT MOST 1048576: true; the input reads as it did. -/
def ratioMakesUptoRow : OpenClaim := { program := "ytlanoclibdhpmaa", sum := "79d8974e7a37887e9fb1a21e657ad46fdebafe4ec94116c6a99877e3c274c4ac", func := "tscodec/tscodeclaw03.RatioMakes", spec := "ratioMakes", inPlace := ["math/bits.Sub64", "math/bits.Add64"], named := ["math/bits.divideError", "math/bits.overflowError"], apart := false, narrowed := true }
def RatioMakesUptoSaid : Prop := ratioMakesUptoRow.holds Try.pinned (OpenSpec.upto ratioMakesSpec)

/-- 'tscodeclaw03.RatioRounds', WHERE WHAT IT READS IS OF BULK AT MOST 1048576: true; the input reads as it did. -/
def ratioRoundsUptoRow : OpenClaim := { program := "ytlanoclibdhpmaa", sum := "79d8974e7a37887e9fb1a21e657ad46fdebafe4ec94116c6a99877e3c274c4ac", func := "tscodec/tscodeclaw03.RatioRounds", spec := "ratioRounds", inPlace := ["math/bits.Add64", "math/bits.Sub64"], named := ["math/bits.divideError", "math/bits.overflowError"], apart := false, narrowed := true }
def RatioRoundsUptoSaid : Prop := ratioRoundsUptoRow.holds Try.pinned (OpenSpec.upto ratioRoundsSpec)

/-- 'tscodeclaw03.RatioUnique', WHERE WHAT IT READS IS OF BULK AT MOST 1048576: true; the input reads as it did. -/
def ratioUniqueUptoRow : OpenClaim := { program := "ytlanoclibdhpmaa", sum := "79d8974e7a37887e9fb1a21e657ad46fdebafe4ec94116c6a99877e3c274c4ac", func := "tscodec/tscodeclaw03.RatioUnique", spec := "ratioUnique", inPlace := ["math/bits.Add64", "math/bits.Sub64"], named := ["math/bits.divideError", "math/bits.overflowError"], apart := false, narrowed := true }
def RatioUniqueUptoSaid : Prop := ratioUniqueUptoRow.holds Try.pinned (OpenSpec.upto ratioUniqueSpec)

/-- 'tscodeclaw03.RatioOrder', WHERE WHAT IT READS IS OF BULK AT MOST 1048576: true; the input reads as it did. -/
def ratioOrderUptoRow : OpenClaim := { program := "ytlanoclibdhpmaa", sum := "79d8974e7a37887e9fb1a21e657ad46fdebafe4ec94116c6a99877e3c274c4ac", func := "tscodec/tscodeclaw03.RatioOrder", spec := "ratioOrder", inPlace := ["math/bits.Add64", "math/bits.Sub64"], named := ["math/bits.divideError", "math/bits.overflowError"], apart := false, narrowed := true }
def RatioOrderUptoSaid : Prop := ratioOrderUptoRow.holds Try.pinned (OpenSpec.upto ratioOrderSpec)

/-- 'tscodeclaw03.RatioNear', WHERE WHAT IT READS IS OF BULK AT MOST 1048576: true; the input reads as it did. -/
def ratioNearUptoRow : OpenClaim := { program := "ytlanoclibdhpmaa", sum := "79d8974e7a37887e9fb1a21e657ad46fdebafe4ec94116c6a99877e3c274c4ac", func := "tscodec/tscodeclaw03.RatioNear", spec := "ratioNear", inPlace := ["math/bits.Add64", "math/bits.Sub64"], named := ["math/bits.divideError", "math/bits.overflowError"], apart := false, narrowed := true }
def RatioNearUptoSaid : Prop := ratioNearUptoRow.holds Try.pinned (OpenSpec.upto ratioNearSpec)

/-- 'tscodeclaw03.RatioForms', WHERE WHAT IT READS IS OF BULK AT MOST 1048576: true; the input reads as it did. -/
def ratioFormsUptoRow : OpenClaim := { program := "ytlanoclibdhpmaa", sum := "79d8974e7a37887e9fb1a21e657ad46fdebafe4ec94116c6a99877e3c274c4ac", func := "tscodec/tscodeclaw03.RatioForms", spec := "ratioForms", inPlace := ["math/bits.Add64", "math/bits.Sub64"], named := ["math/bits.divideError", "math/bits.overflowError"], apart := false, narrowed := true }
def RatioFormsUptoSaid : Prop := ratioFormsUptoRow.holds Try.pinned (OpenSpec.upto ratioFormsSpec)

/-- 'tscodeclaw04.SimplestForms', WHERE WHAT IT READS IS OF BULK AT MOST 1048576: true; the input reads as it did. -/
def simplestFormsUptoRow : OpenClaim := { program := "ytlanoclibdhpmaa", sum := "79d8974e7a37887e9fb1a21e657ad46fdebafe4ec94116c6a99877e3c274c4ac", func := "tscodec/tscodeclaw04.SimplestForms", spec := "simplestForms", inPlace := ["math/bits.Add64", "math/bits.Sub64"], recurses := true, named := ["math/bits.divideError", "math/bits.overflowError"], apart := false, narrowed := true }
def SimplestFormsUptoSaid : Prop := simplestFormsUptoRow.holds Try.pinned (OpenSpec.upto simplestFormsSpec)

/-- 'tscodeclaw04.SimplestInside', WHERE WHAT IT READS IS OF BULK AT MOST 1048576: true; the input reads as it did. -/
def simplestInsideUptoRow : OpenClaim := { program := "ytlanoclibdhpmaa", sum := "79d8974e7a37887e9fb1a21e657ad46fdebafe4ec94116c6a99877e3c274c4ac", func := "tscodec/tscodeclaw04.SimplestInside", spec := "simplestInside", inPlace := ["math/bits.Add64", "math/bits.Sub64"], recurses := true, named := ["math/bits.divideError", "math/bits.overflowError"], apart := false, narrowed := true }
def SimplestInsideUptoSaid : Prop := simplestInsideUptoRow.holds Try.pinned (OpenSpec.upto simplestInsideSpec)

/-- 'tscodeclaw04.SimplestLeast', WHERE WHAT IT READS IS OF BULK AT MOST 1048576: true; the input reads as it did. -/
def simplestLeastUptoRow : OpenClaim := { program := "ytlanoclibdhpmaa", sum := "79d8974e7a37887e9fb1a21e657ad46fdebafe4ec94116c6a99877e3c274c4ac", func := "tscodec/tscodeclaw04.SimplestLeast", spec := "simplestLeast", inPlace := ["math/bits.Sub64", "math/bits.Add64"], recurses := true, named := ["math/bits.divideError", "math/bits.overflowError"], apart := false, narrowed := true }
def SimplestLeastUptoSaid : Prop := simplestLeastUptoRow.holds Try.pinned (OpenSpec.upto simplestLeastSpec)

/-- 'tscodeclaw04.SimplestZero', WHERE WHAT IT READS IS OF BULK AT MOST 1048576: true; the input reads as it did. -/
def simplestZeroUptoRow : OpenClaim := { program := "ytlanoclibdhpmaa", sum := "79d8974e7a37887e9fb1a21e657ad46fdebafe4ec94116c6a99877e3c274c4ac", func := "tscodec/tscodeclaw04.SimplestZero", spec := "simplestZero", inPlace := ["math/bits.Add64", "math/bits.Sub64"], recurses := true, named := ["math/bits.divideError", "math/bits.overflowError"], apart := false, narrowed := true }
def SimplestZeroUptoSaid : Prop := simplestZeroUptoRow.holds Try.pinned (OpenSpec.upto simplestZeroSpec)

/-- 'tscodeclaw04.SimplestNests', WHERE WHAT IT READS IS OF BULK AT MOST 1048576: true; the input reads as it did. -/
def simplestNestsUptoRow : OpenClaim := { program := "ytlanoclibdhpmaa", sum := "79d8974e7a37887e9fb1a21e657ad46fdebafe4ec94116c6a99877e3c274c4ac", func := "tscodec/tscodeclaw04.SimplestNests", spec := "simplestNests", inPlace := ["math/bits.Add64", "math/bits.Sub64"], recurses := true, named := ["math/bits.divideError", "math/bits.overflowError"], apart := false, narrowed := true }
def SimplestNestsUptoSaid : Prop := simplestNestsUptoRow.holds Try.pinned (OpenSpec.upto simplestNestsSpec)

end Rows
end Go.Proofs.Ytlanoclibdhpmaa
