/-
  DERIVED. GIVEN WITH THE SEED: THE CARDS: each row of YtiiflgfnbgencaaDoorRows.lean that lists a variable, with what it lists TIED to the program's text (the seventh form; the later family's looks); each row that meets fmt, with fmt's text TOLD by the authors' own Lean function (tested against real Go, not proved from fmt's source: count such statements apart). THE CARD IS WHAT COUNTS. Prove the row's statement (the work); the ties are given (YtiiflgfnbgencaaDoorTie.lean); close each card by the builder's one call (the guide's Derived/Test/ToyasCard.lean, 'card_holds'). Laid BY PROGRAM, IN A SANDBOX (cutbox-door.mjs). By AI agents, Wed Nov 11 2026. No macro, syntax, notation, axiom, sorry.
-/
import Derived.Test.YtiiflgfnbgencaaDoorRows
import GoSem.ClaimSeven
namespace Go.Proofs.YtiiflgfnbgencaaDoor
namespace Rows

/-- THE TIED CARD OF 'tscodeclaw02.WideRing'. -/
def wideRingCard : Claim7 := { stood := { row := wideRingRow, standIns := [], harness := (true, "7c9154f34fe96b9c8cae6e0afcff1f718a6fe2a9e5ce1e2b7e9c687b7e7fe878"), looks := false }, kinds := [], alts := [], laidByText := true, laidKinds := [.data, .data, .data], laidTests := true, laidLooks := .later }
def WideRingCardSaid : Prop := Claim7.holds Tryd.pinned (.plain (OpenSpec.ofChange wideRingSpec)) wideRingCard

/-- THE TIED CARD OF 'tscodeclaw02.WideNumbers'. -/
def wideNumbersCard : Claim7 := { stood := { row := wideNumbersRow, standIns := [], harness := (true, "7c9154f34fe96b9c8cae6e0afcff1f718a6fe2a9e5ce1e2b7e9c687b7e7fe878"), looks := false }, kinds := [], alts := [], laidByText := true, laidKinds := [.data, .data, .data], laidTests := true, laidLooks := .later }
def WideNumbersCardSaid : Prop := Claim7.holds Tryd.pinned (.plain (OpenSpec.ofChange wideNumbersSpec)) wideNumbersCard

/-- THE TIED CARD OF 'tscodeclaw02.WideDivides'. -/
def wideDividesCard : Claim7 := { stood := { row := wideDividesRow, standIns := [], harness := (true, "7c9154f34fe96b9c8cae6e0afcff1f718a6fe2a9e5ce1e2b7e9c687b7e7fe878"), looks := false }, kinds := [], alts := [], laidByText := true, laidKinds := [.data, .data, .data], laidTests := true, laidLooks := .later }
def WideDividesCardSaid : Prop := Claim7.holds Tryd.pinned (.plain (OpenSpec.ofChange wideDividesSpec)) wideDividesCard

/-- THE TIED CARD OF 'tscodeclaw02.WideOrder'. -/
def wideOrderCard : Claim7 := { stood := { row := wideOrderRow, standIns := [], harness := (true, "7c9154f34fe96b9c8cae6e0afcff1f718a6fe2a9e5ce1e2b7e9c687b7e7fe878"), looks := false }, kinds := [], alts := [], laidByText := true, laidKinds := [.data, .data, .data], laidTests := true, laidLooks := .later }
def WideOrderCardSaid : Prop := Claim7.holds Tryd.pinned (.plain (OpenSpec.ofChange wideOrderSpec)) wideOrderCard

/-- THE TIED CARD OF 'tscodeclaw02.WideTexts'. -/
def wideTextsCard : Claim7 := { stood := { row := wideTextsRow, standIns := [], harness := (true, "7c9154f34fe96b9c8cae6e0afcff1f718a6fe2a9e5ce1e2b7e9c687b7e7fe878"), looks := false }, kinds := [], alts := [], laidByText := true, laidKinds := [.data, .data, .data], laidTests := true, laidLooks := .later }
def WideTextsCardSaid : Prop := Claim7.holds Tryd.pinned (.plain (OpenSpec.ofChange wideTextsSpec)) wideTextsCard

/-- THE TIED CARD OF 'tscodeclaw02.WideForms'. -/
def wideFormsCard : Claim7 := { stood := { row := wideFormsRow, standIns := [], harness := (true, "7c9154f34fe96b9c8cae6e0afcff1f718a6fe2a9e5ce1e2b7e9c687b7e7fe878"), looks := false }, kinds := [], alts := [], laidByText := true, laidKinds := [.data, .data, .data], laidTests := true, laidLooks := .later }
def WideFormsCardSaid : Prop := Claim7.holds Tryd.pinned (.plain (OpenSpec.ofChange wideFormsSpec)) wideFormsCard

/-- THE SECOND FORM's CARD OF 'tscodeclaw02.WideRing'. -/
def wideRingUptoCard : Claim7 := { stood := { row := wideRingUptoRow, standIns := [], harness := (true, "7c9154f34fe96b9c8cae6e0afcff1f718a6fe2a9e5ce1e2b7e9c687b7e7fe878"), looks := false }, kinds := [], alts := [], laidByText := true, laidKinds := [.data, .data, .data], laidTests := true, laidLooks := .later }
def WideRingUptoCardSaid : Prop := Claim7.holds Tryd.pinned (.plain (OpenSpec.upto wideRingSpec)) wideRingUptoCard

/-- THE SECOND FORM's CARD OF 'tscodeclaw02.WideNumbers'. -/
def wideNumbersUptoCard : Claim7 := { stood := { row := wideNumbersUptoRow, standIns := [], harness := (true, "7c9154f34fe96b9c8cae6e0afcff1f718a6fe2a9e5ce1e2b7e9c687b7e7fe878"), looks := false }, kinds := [], alts := [], laidByText := true, laidKinds := [.data, .data, .data], laidTests := true, laidLooks := .later }
def WideNumbersUptoCardSaid : Prop := Claim7.holds Tryd.pinned (.plain (OpenSpec.upto wideNumbersSpec)) wideNumbersUptoCard

/-- THE SECOND FORM's CARD OF 'tscodeclaw02.WideDivides'. -/
def wideDividesUptoCard : Claim7 := { stood := { row := wideDividesUptoRow, standIns := [], harness := (true, "7c9154f34fe96b9c8cae6e0afcff1f718a6fe2a9e5ce1e2b7e9c687b7e7fe878"), looks := false }, kinds := [], alts := [], laidByText := true, laidKinds := [.data, .data, .data], laidTests := true, laidLooks := .later }
def WideDividesUptoCardSaid : Prop := Claim7.holds Tryd.pinned (.plain (OpenSpec.upto wideDividesSpec)) wideDividesUptoCard

/-- THE SECOND FORM's CARD OF 'tscodeclaw02.WideOrder'. -/
def wideOrderUptoCard : Claim7 := { stood := { row := wideOrderUptoRow, standIns := [], harness := (true, "7c9154f34fe96b9c8cae6e0afcff1f718a6fe2a9e5ce1e2b7e9c687b7e7fe878"), looks := false }, kinds := [], alts := [], laidByText := true, laidKinds := [.data, .data, .data], laidTests := true, laidLooks := .later }
def WideOrderUptoCardSaid : Prop := Claim7.holds Tryd.pinned (.plain (OpenSpec.upto wideOrderSpec)) wideOrderUptoCard

/-- THE SECOND FORM's CARD OF 'tscodeclaw02.WideTexts'. -/
def wideTextsUptoCard : Claim7 := { stood := { row := wideTextsUptoRow, standIns := [], harness := (true, "7c9154f34fe96b9c8cae6e0afcff1f718a6fe2a9e5ce1e2b7e9c687b7e7fe878"), looks := false }, kinds := [], alts := [], laidByText := true, laidKinds := [.data, .data, .data], laidTests := true, laidLooks := .later }
def WideTextsUptoCardSaid : Prop := Claim7.holds Tryd.pinned (.plain (OpenSpec.upto wideTextsSpec)) wideTextsUptoCard

/-- THE SECOND FORM's CARD OF 'tscodeclaw02.WideForms'. -/
def wideFormsUptoCard : Claim7 := { stood := { row := wideFormsUptoRow, standIns := [], harness := (true, "7c9154f34fe96b9c8cae6e0afcff1f718a6fe2a9e5ce1e2b7e9c687b7e7fe878"), looks := false }, kinds := [], alts := [], laidByText := true, laidKinds := [.data, .data, .data], laidTests := true, laidLooks := .later }
def WideFormsUptoCardSaid : Prop := Claim7.holds Tryd.pinned (.plain (OpenSpec.upto wideFormsSpec)) wideFormsUptoCard
end Rows
end Go.Proofs.YtiiflgfnbgencaaDoor
