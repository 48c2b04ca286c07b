/-
  No cell of these rows narrows 'for every input' (looked for: loops, veiled, ifaces, maps, wideKeys, modest, calm, conditions, laid).
  DERIVED. THE GIVEN ROWS OF THIS SEAT. 10 by the template 'for every input the law returns true; each argument reads behind the call as it read before'; 0 by the template 'total and deterministic' (their statements: YtenaeaojnebokaaTotals.lean).
  GIVEN WITH THE SEED: the statements are not yours to turn. If you find one false, say at which input.
  Laid BY PROGRAM, IN A SANDBOX (cutbox-rows.mjs): the forced cells as the released guide's own fill.sh prints them over the translation e8e5d34da06d8c24… (all of the seat's roots in one cut). By AI agents, Wed Nov 11 2026. No macro, syntax, notation, axiom, sorry.
-/
import Derived.Test.YtenaeaojnebokaaChecked
import GoSem.Claim
import GoSem.ClaimJoined
import GoSem.ClaimMapViews
import Derived.JoinedTies
import Derived.KernelRfl
namespace Go.Proofs.Ytenaeaojnebokaa
/- THE CELL 'sum', in the pinned program and in every row, IS THE sha256 OF THE DUMP (.gsa) THAT YtenaeaojnebokaaProg.lean LOADS. Nothing in Lean hashes anything: it is a label: what it is worth is what the hold of that sum in a sandbox is worth. -/
noncomputable def Try.pinned : Pinned := { name := "ytenaeaojnebokaa", sum := "e8e5d34da06d8c24f5ebb3a96f2a5a496b8eaf80431de6ec042ebd26d2090fa1", checked := Try.checked }
namespace Rows
def none {H : Type} : Left H := { results := [], args := [] }

/-- 'tscodeclaw01.CheckedMiddles': WHATEVER THE INPUT: true; the input reads as it did. -/
def checkedMiddlesSpec : ChangeSpec := { name := "checkedMiddles", fn := fun _ => fun
  | [d1, d2] => { results := [.lit (.bool true)], args := [d1, d2] }
  | _ => none }
def checkedMiddlesRow : OpenClaim := { program := "ytenaeaojnebokaa", sum := "e8e5d34da06d8c24f5ebb3a96f2a5a496b8eaf80431de6ec042ebd26d2090fa1", func := "tscodec/tscodeclaw01.CheckedMiddles", spec := "checkedMiddles", apart := false }
def CheckedMiddlesSaid : Prop := checkedMiddlesRow.holds Try.pinned (OpenSpec.ofChange checkedMiddlesSpec)

/-- ITS FALSE NEIGHBOUR: 'it returns false'. Refute it at one input. -/
def checkedMiddlesWrong : ChangeSpec := { name := "checkedMiddles", fn := fun _ => fun
  | [d1, d2] => { results := [.lit (.bool false)], args := [d1, d2] }
  | _ => none }
def CheckedMiddlesWrongFalsely : Prop := checkedMiddlesRow.holds Try.pinned (OpenSpec.ofChange checkedMiddlesWrong)

/-- 'tscodeclaw01.CheckedApplies': WHATEVER THE INPUT: true; the input reads as it did. -/
def checkedAppliesSpec : ChangeSpec := { name := "checkedApplies", fn := fun _ => fun
  | [d1, d2, d3, d4, d5] => { results := [.lit (.bool true)], args := [d1, d2, d3, d4, d5] }
  | _ => none }
def checkedAppliesRow : OpenClaim := { program := "ytenaeaojnebokaa", sum := "e8e5d34da06d8c24f5ebb3a96f2a5a496b8eaf80431de6ec042ebd26d2090fa1", func := "tscodec/tscodeclaw01.CheckedApplies", spec := "checkedApplies", apart := false }
def CheckedAppliesSaid : Prop := checkedAppliesRow.holds Try.pinned (OpenSpec.ofChange checkedAppliesSpec)

/-- ITS FALSE NEIGHBOUR: 'it returns false'. Refute it at one input. -/
def checkedAppliesWrong : ChangeSpec := { name := "checkedApplies", fn := fun _ => fun
  | [d1, d2, d3, d4, d5] => { results := [.lit (.bool false)], args := [d1, d2, d3, d4, d5] }
  | _ => none }
def CheckedAppliesWrongFalsely : Prop := checkedAppliesRow.holds Try.pinned (OpenSpec.ofChange checkedAppliesWrong)

/-- 'tscodeclaw01.CheckedDivides': WHATEVER THE INPUT: true; the input reads as it did. -/
def checkedDividesSpec : ChangeSpec := { name := "checkedDivides", fn := fun _ => fun
  | [d1, d2, d3] => { results := [.lit (.bool true)], args := [d1, d2, d3] }
  | _ => none }
def checkedDividesRow : OpenClaim := { program := "ytenaeaojnebokaa", sum := "e8e5d34da06d8c24f5ebb3a96f2a5a496b8eaf80431de6ec042ebd26d2090fa1", func := "tscodec/tscodeclaw01.CheckedDivides", spec := "checkedDivides", apart := false }
def CheckedDividesSaid : Prop := checkedDividesRow.holds Try.pinned (OpenSpec.ofChange checkedDividesSpec)

/-- ITS FALSE NEIGHBOUR: 'it returns false'. Refute it at one input. -/
def checkedDividesWrong : ChangeSpec := { name := "checkedDivides", fn := fun _ => fun
  | [d1, d2, d3] => { results := [.lit (.bool false)], args := [d1, d2, d3] }
  | _ => none }
def CheckedDividesWrongFalsely : Prop := checkedDividesRow.holds Try.pinned (OpenSpec.ofChange checkedDividesWrong)

/-- 'tscodeclaw01.CheckedFloors': WHATEVER THE INPUT: true; the input reads as it did. -/
def checkedFloorsSpec : ChangeSpec := { name := "checkedFloors", fn := fun _ => fun
  | [d1, d2] => { results := [.lit (.bool true)], args := [d1, d2] }
  | _ => none }
def checkedFloorsRow : OpenClaim := { program := "ytenaeaojnebokaa", sum := "e8e5d34da06d8c24f5ebb3a96f2a5a496b8eaf80431de6ec042ebd26d2090fa1", func := "tscodec/tscodeclaw01.CheckedFloors", spec := "checkedFloors", apart := false }
def CheckedFloorsSaid : Prop := checkedFloorsRow.holds Try.pinned (OpenSpec.ofChange checkedFloorsSpec)

/-- ITS FALSE NEIGHBOUR: 'it returns false'. Refute it at one input. -/
def checkedFloorsWrong : ChangeSpec := { name := "checkedFloors", fn := fun _ => fun
  | [d1, d2] => { results := [.lit (.bool false)], args := [d1, d2] }
  | _ => none }
def CheckedFloorsWrongFalsely : Prop := checkedFloorsRow.holds Try.pinned (OpenSpec.ofChange checkedFloorsWrong)

/-- 'tscodeclaw15.MidAlls': WHATEVER THE INPUT: true; the input reads as it did. -/
def midAllsSpec : ChangeSpec := { name := "midAlls", fn := fun _ => fun
  | [d1, d2, d3] => { results := [.lit (.bool true)], args := [d1, d2, d3] }
  | _ => none }
def midAllsRow : OpenClaim := { program := "ytenaeaojnebokaa", sum := "e8e5d34da06d8c24f5ebb3a96f2a5a496b8eaf80431de6ec042ebd26d2090fa1", func := "tscodec/tscodeclaw15.MidAlls", spec := "midAlls", unfollowed := true, recurses := true, apart := false }
def MidAllsSaid : Prop := midAllsRow.holds Try.pinned (OpenSpec.ofChange midAllsSpec)

/-- ITS FALSE NEIGHBOUR: 'it returns false'. Refute it at one input. -/
def midAllsWrong : ChangeSpec := { name := "midAlls", fn := fun _ => fun
  | [d1, d2, d3] => { results := [.lit (.bool false)], args := [d1, d2, d3] }
  | _ => none }
def MidAllsWrongFalsely : Prop := midAllsRow.holds Try.pinned (OpenSpec.ofChange midAllsWrong)

/-- 'tscodeclaw15.MidWithin': WHATEVER THE INPUT: true; the input reads as it did. -/
def midWithinSpec : ChangeSpec := { name := "midWithin", fn := fun _ => fun
  | [d1, d2] => { results := [.lit (.bool true)], args := [d1, d2] }
  | _ => none }
def midWithinRow : OpenClaim := { program := "ytenaeaojnebokaa", sum := "e8e5d34da06d8c24f5ebb3a96f2a5a496b8eaf80431de6ec042ebd26d2090fa1", func := "tscodec/tscodeclaw15.MidWithin", spec := "midWithin", unfollowed := true, recurses := true, apart := false }
def MidWithinSaid : Prop := midWithinRow.holds Try.pinned (OpenSpec.ofChange midWithinSpec)

/-- ITS FALSE NEIGHBOUR: 'it returns false'. Refute it at one input. -/
def midWithinWrong : ChangeSpec := { name := "midWithin", fn := fun _ => fun
  | [d1, d2] => { results := [.lit (.bool false)], args := [d1, d2] }
  | _ => none }
def MidWithinWrongFalsely : Prop := midWithinRow.holds Try.pinned (OpenSpec.ofChange midWithinWrong)

/-- 'tscodeclaw15.MidLeast': WHATEVER THE INPUT: true; the input reads as it did. -/
def midLeastSpec : ChangeSpec := { name := "midLeast", fn := fun _ => fun
  | [d1, d2, d3] => { results := [.lit (.bool true)], args := [d1, d2, d3] }
  | _ => none }
def midLeastRow : OpenClaim := { program := "ytenaeaojnebokaa", sum := "e8e5d34da06d8c24f5ebb3a96f2a5a496b8eaf80431de6ec042ebd26d2090fa1", func := "tscodec/tscodeclaw15.MidLeast", spec := "midLeast", unfollowed := true, recurses := true, apart := false }
def MidLeastSaid : Prop := midLeastRow.holds Try.pinned (OpenSpec.ofChange midLeastSpec)

/-- ITS FALSE NEIGHBOUR: 'it returns false'. Refute it at one input. -/
def midLeastWrong : ChangeSpec := { name := "midLeast", fn := fun _ => fun
  | [d1, d2, d3] => { results := [.lit (.bool false)], args := [d1, d2, d3] }
  | _ => none }
def MidLeastWrongFalsely : Prop := midLeastRow.holds Try.pinned (OpenSpec.ofChange midLeastWrong)

/-- 'tscodeclaw15.MidMaximal': WHATEVER THE INPUT: true; the input reads as it did. -/
def midMaximalSpec : ChangeSpec := { name := "midMaximal", fn := fun _ => fun
  | [d] => { results := [.lit (.bool true)], args := [d] }
  | _ => none }
def midMaximalRow : OpenClaim := { program := "ytenaeaojnebokaa", sum := "e8e5d34da06d8c24f5ebb3a96f2a5a496b8eaf80431de6ec042ebd26d2090fa1", func := "tscodec/tscodeclaw15.MidMaximal", spec := "midMaximal", unfollowed := true, recurses := true, apart := false }
def MidMaximalSaid : Prop := midMaximalRow.holds Try.pinned (OpenSpec.ofChange midMaximalSpec)

/-- ITS FALSE NEIGHBOUR: 'it returns false'. Refute it at one input. -/
def midMaximalWrong : ChangeSpec := { name := "midMaximal", fn := fun _ => fun
  | [d] => { results := [.lit (.bool false)], args := [d] }
  | _ => none }
def MidMaximalWrongFalsely : Prop := midMaximalRow.holds Try.pinned (OpenSpec.ofChange midMaximalWrong)

/-- 'tscodeclaw01.CheckedSums': WHATEVER THE INPUT: true; the input reads as it did. -/
def checkedSumsSpec : ChangeSpec := { name := "checkedSums", fn := fun _ => fun
  | [d1, d2, d3] => { results := [.lit (.bool true)], args := [d1, d2, d3] }
  | _ => none }
def checkedSumsRow : OpenClaim := { program := "ytenaeaojnebokaa", sum := "e8e5d34da06d8c24f5ebb3a96f2a5a496b8eaf80431de6ec042ebd26d2090fa1", func := "tscodec/tscodeclaw01.CheckedSums", spec := "checkedSums", apart := false }
def CheckedSumsSaid : Prop := checkedSumsRow.holds Try.pinned (OpenSpec.ofChange checkedSumsSpec)

/-- ITS FALSE NEIGHBOUR: 'it returns false'. Refute it at one input. -/
def checkedSumsWrong : ChangeSpec := { name := "checkedSums", fn := fun _ => fun
  | [d1, d2, d3] => { results := [.lit (.bool false)], args := [d1, d2, d3] }
  | _ => none }
def CheckedSumsWrongFalsely : Prop := checkedSumsRow.holds Try.pinned (OpenSpec.ofChange checkedSumsWrong)

/-- 'tscodeclaw15.MidForms': WHATEVER THE INPUT: true; the input reads as it did. -/
def midFormsSpec : ChangeSpec := { name := "midForms", fn := fun _ => fun
  | [d1, d2, d3, d4] => { results := [.lit (.bool true)], args := [d1, d2, d3, d4] }
  | _ => none }
def midFormsRow : OpenClaim := { program := "ytenaeaojnebokaa", sum := "e8e5d34da06d8c24f5ebb3a96f2a5a496b8eaf80431de6ec042ebd26d2090fa1", func := "tscodec/tscodeclaw15.MidForms", spec := "midForms", unfollowed := true, recurses := true, apart := false }
def MidFormsSaid : Prop := midFormsRow.holds Try.pinned (OpenSpec.ofChange midFormsSpec)

/-- ITS FALSE NEIGHBOUR: 'it returns false'. Refute it at one input. -/
def midFormsWrong : ChangeSpec := { name := "midForms", fn := fun _ => fun
  | [d1, d2, d3, d4] => { results := [.lit (.bool false)], args := [d1, d2, d3, d4] }
  | _ => none }
def MidFormsWrongFalsely : Prop := midFormsRow.holds Try.pinned (OpenSpec.ofChange midFormsWrong)

/- THE SECOND FORM. 'bulk': how many values and letters a reading holds, each counted each time it is reached (what is shared counts as often as it is met; a slice's spare places count too). A statement '..UptoSaid' is the law's where the arguments, and the package variables that the reading takes, are together of bulk at most 1048576: NARROWER than '..Said'. Prove '..Said' where nothing that the law and all that it calls make is longer than what came in: it says more and counts as full. Else prove '..UptoSaid'. A law counts once. -/
mutual
def uptoBulk {H : Type} : DataW H → Nat
  | .lit (.string bytes) => bytes.length + 1
  | .lit _ => 1
  | .nil => 1
  | .ptr d => uptoBulk d + 1
  | .slice elems spare => uptoBulkAll elems + uptoBulkAll spare + 1
  | .agg parts => uptoBulkAll parts + 1
  | .iface _ d => uptoBulk d + 1
  | .map entries => uptoBulkEntries entries + 1
  | .held _ => 1
def uptoBulkAll {H : Type} : List (DataW H) → Nat
  | [] => 0
  | d :: r => uptoBulk d + uptoBulkAll r
def uptoBulkEntries {H : Type} : List (Lit × DataW H) → Nat
  | [] => 0
  | x :: r => uptoBulkEntry x + uptoBulkEntries r
def uptoBulkEntry {H : Type} : Lit × DataW H → Nat
  | (.string bytes, d) => bytes.length + uptoBulk d + 1
  | (_, d) => uptoBulk d + 1
 end
def uptoSmall : (H : Type) → List (DataW H) → Bool := fun _ ds => decide (uptoBulkAll ds ≤ 1048576)
def OpenSpec.upto (s : _root_.Go.ChangeSpec) : _root_.Go.OpenSpec := { _root_.Go.OpenSpec.ofChange s with cond := some uptoSmall }

/-- 'tscodeclaw01.CheckedMiddles', WHERE WHAT IT READS IS OF BULK AT MOST 1048576: true; the input reads as it did. -/
def checkedMiddlesUptoRow : OpenClaim := { program := "ytenaeaojnebokaa", sum := "e8e5d34da06d8c24f5ebb3a96f2a5a496b8eaf80431de6ec042ebd26d2090fa1", func := "tscodec/tscodeclaw01.CheckedMiddles", spec := "checkedMiddles", apart := false, narrowed := true }
def CheckedMiddlesUptoSaid : Prop := checkedMiddlesUptoRow.holds Try.pinned (OpenSpec.upto checkedMiddlesSpec)

/-- 'tscodeclaw01.CheckedApplies', WHERE WHAT IT READS IS OF BULK AT MOST 1048576: true; the input reads as it did. -/
def checkedAppliesUptoRow : OpenClaim := { program := "ytenaeaojnebokaa", sum := "e8e5d34da06d8c24f5ebb3a96f2a5a496b8eaf80431de6ec042ebd26d2090fa1", func := "tscodec/tscodeclaw01.CheckedApplies", spec := "checkedApplies", apart := false, narrowed := true }
def CheckedAppliesUptoSaid : Prop := checkedAppliesUptoRow.holds Try.pinned (OpenSpec.upto checkedAppliesSpec)

/-- 'tscodeclaw01.CheckedDivides', WHERE WHAT IT READS IS OF BULK AT MOST 1048576: true; the input reads as it did. -/
def checkedDividesUptoRow : OpenClaim := { program := "ytenaeaojnebokaa", sum := "e8e5d34da06d8c24f5ebb3a96f2a5a496b8eaf80431de6ec042ebd26d2090fa1", func := "tscodec/tscodeclaw01.CheckedDivides", spec := "checkedDivides", apart := false, narrowed := true }
def CheckedDividesUptoSaid : Prop := checkedDividesUptoRow.holds Try.pinned (OpenSpec.upto checkedDividesSpec)

/-- 'tscodeclaw01.CheckedFloors', WHERE WHAT IT READS IS OF BULK AT MOST 1048576: true; the input reads as it did. -/
def checkedFloorsUptoRow : OpenClaim := { program := "ytenaeaojnebokaa", sum := "e8e5d34da06d8c24f5ebb3a96f2a5a496b8eaf80431de6ec042ebd26d2090fa1", func := "tscodec/tscodeclaw01.CheckedFloors", spec := "checkedFloors", apart := false, narrowed := true }
def CheckedFloorsUptoSaid : Prop := checkedFloorsUptoRow.holds Try.pinned (OpenSpec.upto checkedFloorsSpec)

/-- 'tscodeclaw15.MidAlls', WHERE WHAT IT READS IS OF BULK AT MOST 1048576: true; the input reads as it did. -/
def midAllsUptoRow : OpenClaim := { program := "ytenaeaojnebokaa", sum := "e8e5d34da06d8c24f5ebb3a96f2a5a496b8eaf80431de6ec042ebd26d2090fa1", func := "tscodec/tscodeclaw15.MidAlls", spec := "midAlls", unfollowed := true, recurses := true, apart := false, narrowed := true }
def MidAllsUptoSaid : Prop := midAllsUptoRow.holds Try.pinned (OpenSpec.upto midAllsSpec)

/-- 'tscodeclaw15.MidWithin', WHERE WHAT IT READS IS OF BULK AT MOST 1048576: true; the input reads as it did. -/
def midWithinUptoRow : OpenClaim := { program := "ytenaeaojnebokaa", sum := "e8e5d34da06d8c24f5ebb3a96f2a5a496b8eaf80431de6ec042ebd26d2090fa1", func := "tscodec/tscodeclaw15.MidWithin", spec := "midWithin", unfollowed := true, recurses := true, apart := false, narrowed := true }
def MidWithinUptoSaid : Prop := midWithinUptoRow.holds Try.pinned (OpenSpec.upto midWithinSpec)

/-- 'tscodeclaw15.MidLeast', WHERE WHAT IT READS IS OF BULK AT MOST 1048576: true; the input reads as it did. -/
def midLeastUptoRow : OpenClaim := { program := "ytenaeaojnebokaa", sum := "e8e5d34da06d8c24f5ebb3a96f2a5a496b8eaf80431de6ec042ebd26d2090fa1", func := "tscodec/tscodeclaw15.MidLeast", spec := "midLeast", unfollowed := true, recurses := true, apart := false, narrowed := true }
def MidLeastUptoSaid : Prop := midLeastUptoRow.holds Try.pinned (OpenSpec.upto midLeastSpec)

/-- 'tscodeclaw15.MidMaximal', WHERE WHAT IT READS IS OF BULK AT MOST 1048576: true; the input reads as it did. -/
def midMaximalUptoRow : OpenClaim := { program := "ytenaeaojnebokaa", sum := "e8e5d34da06d8c24f5ebb3a96f2a5a496b8eaf80431de6ec042ebd26d2090fa1", func := "tscodec/tscodeclaw15.MidMaximal", spec := "midMaximal", unfollowed := true, recurses := true, apart := false, narrowed := true }
def MidMaximalUptoSaid : Prop := midMaximalUptoRow.holds Try.pinned (OpenSpec.upto midMaximalSpec)

/-- 'tscodeclaw01.CheckedSums', WHERE WHAT IT READS IS OF BULK AT MOST 1048576: true; the input reads as it did. -/
def checkedSumsUptoRow : OpenClaim := { program := "ytenaeaojnebokaa", sum := "e8e5d34da06d8c24f5ebb3a96f2a5a496b8eaf80431de6ec042ebd26d2090fa1", func := "tscodec/tscodeclaw01.CheckedSums", spec := "checkedSums", apart := false, narrowed := true }
def CheckedSumsUptoSaid : Prop := checkedSumsUptoRow.holds Try.pinned (OpenSpec.upto checkedSumsSpec)

/-- 'tscodeclaw15.MidForms', WHERE WHAT IT READS IS OF BULK AT MOST 1048576: true; the input reads as it did. -/
def midFormsUptoRow : OpenClaim := { program := "ytenaeaojnebokaa", sum := "e8e5d34da06d8c24f5ebb3a96f2a5a496b8eaf80431de6ec042ebd26d2090fa1", func := "tscodec/tscodeclaw15.MidForms", spec := "midForms", unfollowed := true, recurses := true, apart := false, narrowed := true }
def MidFormsUptoSaid : Prop := midFormsUptoRow.holds Try.pinned (OpenSpec.upto midFormsSpec)

end Rows
end Go.Proofs.Ytenaeaojnebokaa
