/-
  No cell of these rows narrows 'for every input' (looked for: loops, veiled, ifaces, maps, wideKeys, modest, calm, conditions, laid).
  DERIVED. THE GIVEN ROWS OF THIS SEAT. 12 by the template 'for every input the law returns true; each argument reads behind the call as it read before'; 0 by the template 'total and deterministic' (their statements: YtncmmbacoknefaaGreatTotals.lean).
  GIVEN WITH THE SEED: the statements are not yours to turn. If you find one false, say at which input.
  Laid BY PROGRAM, IN A SANDBOX (cutbox-rows.mjs): the forced cells as the released guide's own fill.sh prints them over the translation 864c14cc48405f5c… (all of the seat's roots in one cut). By AI agents, Wed Nov 11 2026. No macro, syntax, notation, axiom, sorry.
-/
import Derived.Test.YtncmmbacoknefaaGreatChecked
import GoSem.Claim
import GoSem.ClaimJoined
import GoSem.ClaimMapViews
import Derived.JoinedTies
import Derived.KernelRfl
namespace Go.Proofs.YtncmmbacoknefaaGreat
/- THE CELL 'sum', in the pinned program and in every row, IS THE sha256 OF THE DUMP (.gsa) THAT YtncmmbacoknefaaGreatProg.lean LOADS. Nothing in Lean hashes anything: it is a label: what it is worth is what the hold of that sum in a sandbox is worth. -/
noncomputable def Tryz.pinned : Pinned := { name := "ytncmmbacoknefaagreat", sum := "864c14cc48405f5c109b7d7c26c3e7482975345adbd876a82570f287d9a86f70", checked := Tryz.checked }
namespace Rows
def none {H : Type} : Left H := { results := [], args := [] }

/-- 'tscodeclaw20.RebuildLines': WHATEVER THE INPUT: true; the input reads as it did. -/
def rebuildLinesSpec : ChangeSpec := { name := "rebuildLines", fn := fun _ => fun
  | [d1, d2, d3] => { results := [.lit (.bool true)], args := [d1, d2, d3] }
  | _ => none }
def rebuildLinesRow : OpenClaim := { program := "ytncmmbacoknefaagreat", sum := "864c14cc48405f5c109b7d7c26c3e7482975345adbd876a82570f287d9a86f70", func := "tscodec/tscodeclaw20.RebuildLines", spec := "rebuildLines", inPlace := ["math/bits.Sub64", "math/bits.Add64"], recurses := true, named := ["math/bits.divideError", "math/bits.overflowError"], apart := false }
def RebuildLinesSaid : Prop := rebuildLinesRow.holds Tryz.pinned (OpenSpec.ofChange rebuildLinesSpec)

/-- ITS FALSE NEIGHBOUR: 'it returns false'. Refute it at one input. -/
def rebuildLinesWrong : ChangeSpec := { name := "rebuildLines", fn := fun _ => fun
  | [d1, d2, d3] => { results := [.lit (.bool false)], args := [d1, d2, d3] }
  | _ => none }
def RebuildLinesWrongFalsely : Prop := rebuildLinesRow.holds Tryz.pinned (OpenSpec.ofChange rebuildLinesWrong)

/-- 'tscodeclaw20.RebuildWithin': WHATEVER THE INPUT: true; the input reads as it did. -/
def rebuildWithinSpec : ChangeSpec := { name := "rebuildWithin", fn := fun _ => fun
  | [d] => { results := [.lit (.bool true)], args := [d] }
  | _ => none }
def rebuildWithinRow : OpenClaim := { program := "ytncmmbacoknefaagreat", sum := "864c14cc48405f5c109b7d7c26c3e7482975345adbd876a82570f287d9a86f70", func := "tscodec/tscodeclaw20.RebuildWithin", spec := "rebuildWithin", inPlace := ["math/bits.Sub64", "math/bits.Add64"], recurses := true, named := ["math/bits.divideError", "math/bits.overflowError"], apart := false }
def RebuildWithinSaid : Prop := rebuildWithinRow.holds Tryz.pinned (OpenSpec.ofChange rebuildWithinSpec)

/-- ITS FALSE NEIGHBOUR: 'it returns false'. Refute it at one input. -/
def rebuildWithinWrong : ChangeSpec := { name := "rebuildWithin", fn := fun _ => fun
  | [d] => { results := [.lit (.bool false)], args := [d] }
  | _ => none }
def RebuildWithinWrongFalsely : Prop := rebuildWithinRow.holds Tryz.pinned (OpenSpec.ofChange rebuildWithinWrong)

/-- 'tscodeclaw20.RebuildGroups': WHATEVER THE INPUT: true; the input reads as it did. -/
def rebuildGroupsSpec : ChangeSpec := { name := "rebuildGroups", fn := fun _ => fun
  | [d1, d2, d3, d4] => { results := [.lit (.bool true)], args := [d1, d2, d3, d4] }
  | _ => none }
def rebuildGroupsRow : OpenClaim := { program := "ytncmmbacoknefaagreat", sum := "864c14cc48405f5c109b7d7c26c3e7482975345adbd876a82570f287d9a86f70", func := "tscodec/tscodeclaw20.RebuildGroups", spec := "rebuildGroups", inPlace := ["math/bits.Sub64", "math/bits.Add64"], unfollowed := true, recurses := true, named := ["math/bits.divideError", "math/bits.overflowError"], apart := false }
def RebuildGroupsSaid : Prop := rebuildGroupsRow.holds Tryz.pinned (OpenSpec.ofChange rebuildGroupsSpec)

/-- ITS FALSE NEIGHBOUR: 'it returns false'. Refute it at one input. -/
def rebuildGroupsWrong : ChangeSpec := { name := "rebuildGroups", fn := fun _ => fun
  | [d1, d2, d3, d4] => { results := [.lit (.bool false)], args := [d1, d2, d3, d4] }
  | _ => none }
def RebuildGroupsWrongFalsely : Prop := rebuildGroupsRow.holds Tryz.pinned (OpenSpec.ofChange rebuildGroupsWrong)

/-- 'tscodeclaw19.PiecesAlls': WHATEVER THE INPUT: true; the input reads as it did. -/
def piecesAllsSpec : ChangeSpec := { name := "piecesAlls", fn := fun _ => fun
  | [d1, d2, d3] => { results := [.lit (.bool true)], args := [d1, d2, d3] }
  | _ => none }
def piecesAllsRow : OpenClaim := { program := "ytncmmbacoknefaagreat", sum := "864c14cc48405f5c109b7d7c26c3e7482975345adbd876a82570f287d9a86f70", func := "tscodec/tscodeclaw19.PiecesAlls", spec := "piecesAlls", inPlace := ["math/bits.Add64", "math/bits.Sub64"], unfollowed := true, recurses := true, named := ["math/bits.divideError", "math/bits.overflowError"], apart := false }
def PiecesAllsSaid : Prop := piecesAllsRow.holds Tryz.pinned (OpenSpec.ofChange piecesAllsSpec)

/-- ITS FALSE NEIGHBOUR: 'it returns false'. Refute it at one input. -/
def piecesAllsWrong : ChangeSpec := { name := "piecesAlls", fn := fun _ => fun
  | [d1, d2, d3] => { results := [.lit (.bool false)], args := [d1, d2, d3] }
  | _ => none }
def PiecesAllsWrongFalsely : Prop := piecesAllsRow.holds Tryz.pinned (OpenSpec.ofChange piecesAllsWrong)

/-- 'tscodeclaw19.PiecesWithin': WHATEVER THE INPUT: true; the input reads as it did. -/
def piecesWithinSpec : ChangeSpec := { name := "piecesWithin", fn := fun _ => fun
  | [d] => { results := [.lit (.bool true)], args := [d] }
  | _ => none }
def piecesWithinRow : OpenClaim := { program := "ytncmmbacoknefaagreat", sum := "864c14cc48405f5c109b7d7c26c3e7482975345adbd876a82570f287d9a86f70", func := "tscodec/tscodeclaw19.PiecesWithin", spec := "piecesWithin", inPlace := ["math/bits.Add64", "math/bits.Sub64"], unfollowed := true, recurses := true, named := ["math/bits.divideError", "math/bits.overflowError"], apart := false }
def PiecesWithinSaid : Prop := piecesWithinRow.holds Tryz.pinned (OpenSpec.ofChange piecesWithinSpec)

/-- ITS FALSE NEIGHBOUR: 'it returns false'. Refute it at one input. -/
def piecesWithinWrong : ChangeSpec := { name := "piecesWithin", fn := fun _ => fun
  | [d] => { results := [.lit (.bool false)], args := [d] }
  | _ => none }
def PiecesWithinWrongFalsely : Prop := piecesWithinRow.holds Tryz.pinned (OpenSpec.ofChange piecesWithinWrong)

/-- 'tscodeclaw19.PiecesMaximal': WHATEVER THE INPUT: true; the input reads as it did. -/
def piecesMaximalSpec : ChangeSpec := { name := "piecesMaximal", fn := fun _ => fun
  | [d] => { results := [.lit (.bool true)], args := [d] }
  | _ => none }
def piecesMaximalRow : OpenClaim := { program := "ytncmmbacoknefaagreat", sum := "864c14cc48405f5c109b7d7c26c3e7482975345adbd876a82570f287d9a86f70", func := "tscodec/tscodeclaw19.PiecesMaximal", spec := "piecesMaximal", inPlace := ["math/bits.Add64", "math/bits.Sub64"], unfollowed := true, recurses := true, named := ["math/bits.divideError", "math/bits.overflowError"], apart := false }
def PiecesMaximalSaid : Prop := piecesMaximalRow.holds Tryz.pinned (OpenSpec.ofChange piecesMaximalSpec)

/-- ITS FALSE NEIGHBOUR: 'it returns false'. Refute it at one input. -/
def piecesMaximalWrong : ChangeSpec := { name := "piecesMaximal", fn := fun _ => fun
  | [d] => { results := [.lit (.bool false)], args := [d] }
  | _ => none }
def PiecesMaximalWrongFalsely : Prop := piecesMaximalRow.holds Tryz.pinned (OpenSpec.ofChange piecesMaximalWrong)

/-- 'tscodeclaw14.SwingAlls': WHATEVER THE INPUT: true; the input reads as it did. -/
def swingAllsSpec : ChangeSpec := { name := "swingAlls", fn := fun _ => fun
  | [d1, d2, d3] => { results := [.lit (.bool true)], args := [d1, d2, d3] }
  | _ => none }
def swingAllsRow : OpenClaim := { program := "ytncmmbacoknefaagreat", sum := "864c14cc48405f5c109b7d7c26c3e7482975345adbd876a82570f287d9a86f70", func := "tscodec/tscodeclaw14.SwingAlls", spec := "swingAlls", inPlace := ["math/bits.Add64", "math/bits.Sub64"], unfollowed := true, recurses := true, named := ["math/bits.divideError", "math/bits.overflowError"], apart := false }
def SwingAllsSaid : Prop := swingAllsRow.holds Tryz.pinned (OpenSpec.ofChange swingAllsSpec)

/-- ITS FALSE NEIGHBOUR: 'it returns false'. Refute it at one input. -/
def swingAllsWrong : ChangeSpec := { name := "swingAlls", fn := fun _ => fun
  | [d1, d2, d3] => { results := [.lit (.bool false)], args := [d1, d2, d3] }
  | _ => none }
def SwingAllsWrongFalsely : Prop := swingAllsRow.holds Tryz.pinned (OpenSpec.ofChange swingAllsWrong)

/-- 'tscodeclaw14.SwingWithin': WHATEVER THE INPUT: true; the input reads as it did. -/
def swingWithinSpec : ChangeSpec := { name := "swingWithin", fn := fun _ => fun
  | [d] => { results := [.lit (.bool true)], args := [d] }
  | _ => none }
def swingWithinRow : OpenClaim := { program := "ytncmmbacoknefaagreat", sum := "864c14cc48405f5c109b7d7c26c3e7482975345adbd876a82570f287d9a86f70", func := "tscodec/tscodeclaw14.SwingWithin", spec := "swingWithin", inPlace := ["math/bits.Add64", "math/bits.Sub64"], unfollowed := true, recurses := true, named := ["math/bits.divideError", "math/bits.overflowError"], apart := false }
def SwingWithinSaid : Prop := swingWithinRow.holds Tryz.pinned (OpenSpec.ofChange swingWithinSpec)

/-- ITS FALSE NEIGHBOUR: 'it returns false'. Refute it at one input. -/
def swingWithinWrong : ChangeSpec := { name := "swingWithin", fn := fun _ => fun
  | [d] => { results := [.lit (.bool false)], args := [d] }
  | _ => none }
def SwingWithinWrongFalsely : Prop := swingWithinRow.holds Tryz.pinned (OpenSpec.ofChange swingWithinWrong)

/-- 'tscodeclaw14.SwingMaximal': WHATEVER THE INPUT: true; the input reads as it did. -/
def swingMaximalSpec : ChangeSpec := { name := "swingMaximal", fn := fun _ => fun
  | [d] => { results := [.lit (.bool true)], args := [d] }
  | _ => none }
def swingMaximalRow : OpenClaim := { program := "ytncmmbacoknefaagreat", sum := "864c14cc48405f5c109b7d7c26c3e7482975345adbd876a82570f287d9a86f70", func := "tscodec/tscodeclaw14.SwingMaximal", spec := "swingMaximal", inPlace := ["math/bits.Add64", "math/bits.Sub64"], unfollowed := true, recurses := true, named := ["math/bits.divideError", "math/bits.overflowError"], apart := false }
def SwingMaximalSaid : Prop := swingMaximalRow.holds Tryz.pinned (OpenSpec.ofChange swingMaximalSpec)

/-- ITS FALSE NEIGHBOUR: 'it returns false'. Refute it at one input. -/
def swingMaximalWrong : ChangeSpec := { name := "swingMaximal", fn := fun _ => fun
  | [d] => { results := [.lit (.bool false)], args := [d] }
  | _ => none }
def SwingMaximalWrongFalsely : Prop := swingMaximalRow.holds Tryz.pinned (OpenSpec.ofChange swingMaximalWrong)

/-- 'tscodeclaw14.SwingSimplest': WHATEVER THE INPUT: true; the input reads as it did. -/
def swingSimplestSpec : ChangeSpec := { name := "swingSimplest", fn := fun _ => fun
  | [d] => { results := [.lit (.bool true)], args := [d] }
  | _ => none }
def swingSimplestRow : OpenClaim := { program := "ytncmmbacoknefaagreat", sum := "864c14cc48405f5c109b7d7c26c3e7482975345adbd876a82570f287d9a86f70", func := "tscodec/tscodeclaw14.SwingSimplest", spec := "swingSimplest", inPlace := ["math/bits.Add64", "math/bits.Sub64"], unfollowed := true, recurses := true, named := ["math/bits.divideError", "math/bits.overflowError"], apart := false }
def SwingSimplestSaid : Prop := swingSimplestRow.holds Tryz.pinned (OpenSpec.ofChange swingSimplestSpec)

/-- ITS FALSE NEIGHBOUR: 'it returns false'. Refute it at one input. -/
def swingSimplestWrong : ChangeSpec := { name := "swingSimplest", fn := fun _ => fun
  | [d] => { results := [.lit (.bool false)], args := [d] }
  | _ => none }
def SwingSimplestWrongFalsely : Prop := swingSimplestRow.holds Tryz.pinned (OpenSpec.ofChange swingSimplestWrong)

/-- 'tscodeclaw19.PiecesForms': WHATEVER THE INPUT: true; the input reads as it did. -/
def piecesFormsSpec : ChangeSpec := { name := "piecesForms", fn := fun _ => fun
  | [d1, d2, d3, d4, d5] => { results := [.lit (.bool true)], args := [d1, d2, d3, d4, d5] }
  | _ => none }
def piecesFormsRow : OpenClaim := { program := "ytncmmbacoknefaagreat", sum := "864c14cc48405f5c109b7d7c26c3e7482975345adbd876a82570f287d9a86f70", func := "tscodec/tscodeclaw19.PiecesForms", spec := "piecesForms", inPlace := ["math/bits.Sub64", "math/bits.Add64"], unfollowed := true, recurses := true, named := ["math/bits.divideError", "math/bits.overflowError"], apart := false }
def PiecesFormsSaid : Prop := piecesFormsRow.holds Tryz.pinned (OpenSpec.ofChange piecesFormsSpec)

/-- ITS FALSE NEIGHBOUR: 'it returns false'. Refute it at one input. -/
def piecesFormsWrong : ChangeSpec := { name := "piecesForms", fn := fun _ => fun
  | [d1, d2, d3, d4, d5] => { results := [.lit (.bool false)], args := [d1, d2, d3, d4, d5] }
  | _ => none }
def PiecesFormsWrongFalsely : Prop := piecesFormsRow.holds Tryz.pinned (OpenSpec.ofChange piecesFormsWrong)

/-- 'tscodeclaw14.SwingForms': WHATEVER THE INPUT: true; the input reads as it did. -/
def swingFormsSpec : ChangeSpec := { name := "swingForms", fn := fun _ => fun
  | [d1, d2, d3, d4] => { results := [.lit (.bool true)], args := [d1, d2, d3, d4] }
  | _ => none }
def swingFormsRow : OpenClaim := { program := "ytncmmbacoknefaagreat", sum := "864c14cc48405f5c109b7d7c26c3e7482975345adbd876a82570f287d9a86f70", func := "tscodec/tscodeclaw14.SwingForms", spec := "swingForms", inPlace := ["math/bits.Sub64", "math/bits.Add64"], unfollowed := true, recurses := true, named := ["math/bits.divideError", "math/bits.overflowError"], apart := false }
def SwingFormsSaid : Prop := swingFormsRow.holds Tryz.pinned (OpenSpec.ofChange swingFormsSpec)

/-- ITS FALSE NEIGHBOUR: 'it returns false'. Refute it at one input. -/
def swingFormsWrong : ChangeSpec := { name := "swingForms", fn := fun _ => fun
  | [d1, d2, d3, d4] => { results := [.lit (.bool false)], args := [d1, d2, d3, d4] }
  | _ => none }
def SwingFormsWrongFalsely : Prop := swingFormsRow.holds Tryz.pinned (OpenSpec.ofChange swingFormsWrong)

/- THE SECOND FORM. 'bulk': how many values and letters a reading holds, each counted each time it is reached (what is shared counts as often as it is met; a slice's spare places count too). A statement '..UptoSaid' is the law's where the arguments, and the package variables that the reading takes, are together of bulk at most 1048576: NARROWER than '..Said'. Prove '..Said' where nothing that the law and all that it calls make is longer than what came in: it says more and counts as full. Else prove '..UptoSaid'. A law counts once. -/
mutual
def uptoBulk {H : Type} : DataW H → Nat
  | .lit (.string bytes) => bytes.length + 1
  | .lit _ => 1
  | .nil => 1
  | .ptr d => uptoBulk d + 1
  | .slice elems spare => uptoBulkAll elems + uptoBulkAll spare + 1
  | .agg parts => uptoBulkAll parts + 1
  | .iface _ d => uptoBulk d + 1
  | .map entries => uptoBulkEntries entries + 1
  | .held _ => 1
def uptoBulkAll {H : Type} : List (DataW H) → Nat
  | [] => 0
  | d :: r => uptoBulk d + uptoBulkAll r
def uptoBulkEntries {H : Type} : List (Lit × DataW H) → Nat
  | [] => 0
  | x :: r => uptoBulkEntry x + uptoBulkEntries r
def uptoBulkEntry {H : Type} : Lit × DataW H → Nat
  | (.string bytes, d) => bytes.length + uptoBulk d + 1
  | (_, d) => uptoBulk d + 1
 end
def uptoSmall : (H : Type) → List (DataW H) → Bool := fun _ ds => decide (uptoBulkAll ds ≤ 1048576)
def OpenSpec.upto (s : _root_.Go.ChangeSpec) : _root_.Go.OpenSpec := { _root_.Go.OpenSpec.ofChange s with cond := some uptoSmall }

/-- 'tscodeclaw20.RebuildLines', WHERE WHAT IT READS IS OF BULK AT MOST 1048576: true; the input reads as it did. -/
def rebuildLinesUptoRow : OpenClaim := { program := "ytncmmbacoknefaagreat", sum := "864c14cc48405f5c109b7d7c26c3e7482975345adbd876a82570f287d9a86f70", func := "tscodec/tscodeclaw20.RebuildLines", spec := "rebuildLines", inPlace := ["math/bits.Sub64", "math/bits.Add64"], recurses := true, named := ["math/bits.divideError", "math/bits.overflowError"], apart := false, narrowed := true }
def RebuildLinesUptoSaid : Prop := rebuildLinesUptoRow.holds Tryz.pinned (OpenSpec.upto rebuildLinesSpec)

/-- 'tscodeclaw20.RebuildWithin', WHERE WHAT IT READS IS OF BULK AT MOST 1048576: true; the input reads as it did. -/
def rebuildWithinUptoRow : OpenClaim := { program := "ytncmmbacoknefaagreat", sum := "864c14cc48405f5c109b7d7c26c3e7482975345adbd876a82570f287d9a86f70", func := "tscodec/tscodeclaw20.RebuildWithin", spec := "rebuildWithin", inPlace := ["math/bits.Sub64", "math/bits.Add64"], recurses := true, named := ["math/bits.divideError", "math/bits.overflowError"], apart := false, narrowed := true }
def RebuildWithinUptoSaid : Prop := rebuildWithinUptoRow.holds Tryz.pinned (OpenSpec.upto rebuildWithinSpec)

/-- 'tscodeclaw20.RebuildGroups', WHERE WHAT IT READS IS OF BULK AT MOST 1048576: true; the input reads as it did. -/
def rebuildGroupsUptoRow : OpenClaim := { program := "ytncmmbacoknefaagreat", sum := "864c14cc48405f5c109b7d7c26c3e7482975345adbd876a82570f287d9a86f70", func := "tscodec/tscodeclaw20.RebuildGroups", spec := "rebuildGroups", inPlace := ["math/bits.Sub64", "math/bits.Add64"], unfollowed := true, recurses := true, named := ["math/bits.divideError", "math/bits.overflowError"], apart := false, narrowed := true }
def RebuildGroupsUptoSaid : Prop := rebuildGroupsUptoRow.holds Tryz.pinned (OpenSpec.upto rebuildGroupsSpec)

/-- 'tscodeclaw19.PiecesAlls', WHERE WHAT IT READS IS OF BULK AT MOST 1048576: true; the input reads as it did. -/
def piecesAllsUptoRow : OpenClaim := { program := "ytncmmbacoknefaagreat", sum := "864c14cc48405f5c109b7d7c26c3e7482975345adbd876a82570f287d9a86f70", func := "tscodec/tscodeclaw19.PiecesAlls", spec := "piecesAlls", inPlace := ["math/bits.Add64", "math/bits.Sub64"], unfollowed := true, recurses := true, named := ["math/bits.divideError", "math/bits.overflowError"], apart := false, narrowed := true }
def PiecesAllsUptoSaid : Prop := piecesAllsUptoRow.holds Tryz.pinned (OpenSpec.upto piecesAllsSpec)

/-- 'tscodeclaw19.PiecesWithin', WHERE WHAT IT READS IS OF BULK AT MOST 1048576: true; the input reads as it did. -/
def piecesWithinUptoRow : OpenClaim := { program := "ytncmmbacoknefaagreat", sum := "864c14cc48405f5c109b7d7c26c3e7482975345adbd876a82570f287d9a86f70", func := "tscodec/tscodeclaw19.PiecesWithin", spec := "piecesWithin", inPlace := ["math/bits.Add64", "math/bits.Sub64"], unfollowed := true, recurses := true, named := ["math/bits.divideError", "math/bits.overflowError"], apart := false, narrowed := true }
def PiecesWithinUptoSaid : Prop := piecesWithinUptoRow.holds Tryz.pinned (OpenSpec.upto piecesWithinSpec)

/-- 'tscodeclaw19.PiecesMaximal', WHERE WHAT IT READS IS OF BULK AT MOST 1048576: true; the input reads as it did. -/
def piecesMaximalUptoRow : OpenClaim := { program := "ytncmmbacoknefaagreat", sum := "864c14cc48405f5c109b7d7c26c3e7482975345adbd876a82570f287d9a86f70", func := "tscodec/tscodeclaw19.PiecesMaximal", spec := "piecesMaximal", inPlace := ["math/bits.Add64", "math/bits.Sub64"], unfollowed := true, recurses := true, named := ["math/bits.divideError", "math/bits.overflowError"], apart := false, narrowed := true }
def PiecesMaximalUptoSaid : Prop := piecesMaximalUptoRow.holds Tryz.pinned (OpenSpec.upto piecesMaximalSpec)

/-- 'tscodeclaw14.SwingAlls', WHERE WHAT IT READS IS OF BULK AT MOST 1048576: true; the input reads as it did. -/
def swingAllsUptoRow : OpenClaim := { program := "ytncmmbacoknefaagreat", sum := "864c14cc48405f5c109b7d7c26c3e7482975345adbd876a82570f287d9a86f70", func := "tscodec/tscodeclaw14.SwingAlls", spec := "swingAlls", inPlace := ["math/bits.Add64", "math/bits.Sub64"], unfollowed := true, recurses := true, named := ["math/bits.divideError", "math/bits.overflowError"], apart := false, narrowed := true }
def SwingAllsUptoSaid : Prop := swingAllsUptoRow.holds Tryz.pinned (OpenSpec.upto swingAllsSpec)

/-- 'tscodeclaw14.SwingWithin', WHERE WHAT IT READS IS OF BULK AT MOST 1048576: true; the input reads as it did. -/
def swingWithinUptoRow : OpenClaim := { program := "ytncmmbacoknefaagreat", sum := "864c14cc48405f5c109b7d7c26c3e7482975345adbd876a82570f287d9a86f70", func := "tscodec/tscodeclaw14.SwingWithin", spec := "swingWithin", inPlace := ["math/bits.Add64", "math/bits.Sub64"], unfollowed := true, recurses := true, named := ["math/bits.divideError", "math/bits.overflowError"], apart := false, narrowed := true }
def SwingWithinUptoSaid : Prop := swingWithinUptoRow.holds Tryz.pinned (OpenSpec.upto swingWithinSpec)

/-- 'tscodeclaw14.SwingMaximal', WHERE WHAT IT READS IS OF BULK AT MOST 1048576: true; the input reads as it did. -/
def swingMaximalUptoRow : OpenClaim := { program := "ytncmmbacoknefaagreat", sum := "864c14cc48405f5c109b7d7c26c3e7482975345adbd876a82570f287d9a86f70", func := "tscodec/tscodeclaw14.SwingMaximal", spec := "swingMaximal", inPlace := ["math/bits.Add64", "math/bits.Sub64"], unfollowed := true, recurses := true, named := ["math/bits.divideError", "math/bits.overflowError"], apart := false, narrowed := true }
def SwingMaximalUptoSaid : Prop := swingMaximalUptoRow.holds Tryz.pinned (OpenSpec.upto swingMaximalSpec)

/-- 'tscodeclaw14.SwingSimplest', WHERE WHAT IT READS IS OF BULK AT MOST 1048576: true; the input reads as it did. -/
def swingSimplestUptoRow : OpenClaim := { program := "ytncmmbacoknefaagreat", sum := "864c14cc48405f5c109b7d7c26c3e7482975345adbd876a82570f287d9a86f70", func := "tscodec/tscodeclaw14.SwingSimplest", spec := "swingSimplest", inPlace := ["math/bits.Add64", "math/bits.Sub64"], unfollowed := true, recurses := true, named := ["math/bits.divideError", "math/bits.overflowError"], apart := false, narrowed := true }
def SwingSimplestUptoSaid : Prop := swingSimplestUptoRow.holds Tryz.pinned (OpenSpec.upto swingSimplestSpec)

/-- 'tscodeclaw19.PiecesForms', WHERE WHAT IT READS IS OF BULK AT MOST 1048576: true; the input reads as it did. -/
def piecesFormsUptoRow : OpenClaim := { program := "ytncmmbacoknefaagreat", sum := "864c14cc48405f5c109b7d7c26c3e7482975345adbd876a82570f287d9a86f70", func := "tscodec/tscodeclaw19.PiecesForms", spec := "piecesForms", inPlace := ["math/bits.Sub64", "math/bits.Add64"], unfollowed := true, recurses := true, named := ["math/bits.divideError", "math/bits.overflowError"], apart := false, narrowed := true }
def PiecesFormsUptoSaid : Prop := piecesFormsUptoRow.holds Tryz.pinned (OpenSpec.upto piecesFormsSpec)

/-- 'tscodeclaw14.SwingForms', WHERE WHAT IT READS IS OF BULK AT MOST 1048576: true; the input reads as it did. -/
def swingFormsUptoRow : OpenClaim := { program := "ytncmmbacoknefaagreat", sum := "864c14cc48405f5c109b7d7c26c3e7482975345adbd876a82570f287d9a86f70", func := "tscodec/tscodeclaw14.SwingForms", spec := "swingForms", inPlace := ["math/bits.Sub64", "math/bits.Add64"], unfollowed := true, recurses := true, named := ["math/bits.divideError", "math/bits.overflowError"], apart := false, narrowed := true }
def SwingFormsUptoSaid : Prop := swingFormsUptoRow.holds Tryz.pinned (OpenSpec.upto swingFormsSpec)

end Rows
end Go.Proofs.YtncmmbacoknefaaGreat
