/-
  DERIVED. GIVEN WITH THE SEED: THE CARDS: each row of YtkfblammcilfhaaGreatDoorRows.lean that lists a variable, with what it lists TIED to the program's text (the seventh form; the later family's looks); each row that meets fmt, with fmt's text TOLD by the authors' own Lean function (tested against real Go, not proved from fmt's source: count such statements apart). THE CARD IS WHAT COUNTS. Prove the row's statement (the work); the ties are given (YtkfblammcilfhaaGreatDoorTie.lean); close each card by the builder's one call (the guide's Derived/Test/ToyasCard.lean, 'card_holds'). Laid BY PROGRAM, IN A SANDBOX (cutbox-door.mjs). By AI agents, Wed Nov 11 2026. No macro, syntax, notation, axiom, sorry.
-/
import Derived.Test.YtkfblammcilfhaaGreatDoorRows
import GoSem.ClaimSeven
namespace Go.Proofs.YtkfblammcilfhaaGreatDoor
namespace Rows

/-- THE TIED CARD OF 'manifoldtop.TopSeqs'. -/
def topSeqsCard : Claim7 := { stood := { row := topSeqsRow, standIns := [], harness := (true, "fe3bf948f87408109fc988edfa475a9853c94568239a86a91671cb0854e8905a"), looks := true }, kinds := [], alts := [], laidByText := true, laidKinds := [.data, .data, .data, .data, .pinned], laidTests := true, laidLooks := .later }
def TopSeqsCardSaid : Prop := Claim7.holds Tryz.pinned (.plain (OpenSpec.ofChange topSeqsSpec)) topSeqsCard

/-- THE TIED CARD OF 'manifoldtop.TopAsks'. -/
def topAsksCard : Claim7 := { stood := { row := topAsksRow, standIns := [], harness := (true, "fe3bf948f87408109fc988edfa475a9853c94568239a86a91671cb0854e8905a"), looks := true }, kinds := [], alts := [], laidByText := true, laidKinds := [.data, .data, .data, .data, .pinned], laidTests := true, laidLooks := .later }
def TopAsksCardSaid : Prop := Claim7.holds Tryz.pinned (.plain (OpenSpec.ofChange topAsksSpec)) topAsksCard

/-- THE TIED CARD OF 'manifoldtop.TopAlone'. -/
def topAloneCard : Claim7 := { stood := { row := topAloneRow, standIns := [], harness := (true, "fe3bf948f87408109fc988edfa475a9853c94568239a86a91671cb0854e8905a"), looks := true }, kinds := [], alts := [], laidByText := true, laidKinds := [.data, .data, .data, .data, .pinned], laidTests := true, laidLooks := .later }
def TopAloneCardSaid : Prop := Claim7.holds Tryz.pinned (.plain (OpenSpec.ofChange topAloneSpec)) topAloneCard

/-- THE TIED CARD OF 'manifoldtop.TopKeys'. -/
def topKeysCard : Claim7 := { stood := { row := topKeysRow, standIns := [], harness := (true, "fe3bf948f87408109fc988edfa475a9853c94568239a86a91671cb0854e8905a"), looks := true }, kinds := [], alts := [], laidByText := true, laidKinds := [.data, .data, .data, .data, .pinned], laidTests := true, laidLooks := .later }
def TopKeysCardSaid : Prop := Claim7.holds Tryz.pinned (.plain (OpenSpec.ofChange topKeysSpec)) topKeysCard

/-- THE TIED CARD OF 'manifoldtop.TopOdd'. -/
def topOddCard : Claim7 := { stood := { row := topOddRow, standIns := [], harness := (true, "fe3bf948f87408109fc988edfa475a9853c94568239a86a91671cb0854e8905a"), looks := true }, kinds := [], alts := [], laidByText := true, laidKinds := [.data, .data, .data, .data, .pinned], laidTests := true, laidLooks := .later }
def TopOddCardSaid : Prop := Claim7.holds Tryz.pinned (.plain (OpenSpec.ofChange topOddSpec)) topOddCard

/-- THE SECOND FORM's CARD OF 'manifoldtop.TopSeqs'. -/
def topSeqsUptoCard : Claim7 := { stood := { row := topSeqsUptoRow, standIns := [], harness := (true, "fe3bf948f87408109fc988edfa475a9853c94568239a86a91671cb0854e8905a"), looks := true }, kinds := [], alts := [], laidByText := true, laidKinds := [.data, .data, .data, .data, .pinned], laidTests := true, laidLooks := .later }
def TopSeqsUptoCardSaid : Prop := Claim7.holds Tryz.pinned (.plain (OpenSpec.upto topSeqsSpec)) topSeqsUptoCard

/-- THE SECOND FORM's CARD OF 'manifoldtop.TopAsks'. -/
def topAsksUptoCard : Claim7 := { stood := { row := topAsksUptoRow, standIns := [], harness := (true, "fe3bf948f87408109fc988edfa475a9853c94568239a86a91671cb0854e8905a"), looks := true }, kinds := [], alts := [], laidByText := true, laidKinds := [.data, .data, .data, .data, .pinned], laidTests := true, laidLooks := .later }
def TopAsksUptoCardSaid : Prop := Claim7.holds Tryz.pinned (.plain (OpenSpec.upto topAsksSpec)) topAsksUptoCard

/-- THE SECOND FORM's CARD OF 'manifoldtop.TopAlone'. -/
def topAloneUptoCard : Claim7 := { stood := { row := topAloneUptoRow, standIns := [], harness := (true, "fe3bf948f87408109fc988edfa475a9853c94568239a86a91671cb0854e8905a"), looks := true }, kinds := [], alts := [], laidByText := true, laidKinds := [.data, .data, .data, .data, .pinned], laidTests := true, laidLooks := .later }
def TopAloneUptoCardSaid : Prop := Claim7.holds Tryz.pinned (.plain (OpenSpec.upto topAloneSpec)) topAloneUptoCard

/-- THE SECOND FORM's CARD OF 'manifoldtop.TopKeys'. -/
def topKeysUptoCard : Claim7 := { stood := { row := topKeysUptoRow, standIns := [], harness := (true, "fe3bf948f87408109fc988edfa475a9853c94568239a86a91671cb0854e8905a"), looks := true }, kinds := [], alts := [], laidByText := true, laidKinds := [.data, .data, .data, .data, .pinned], laidTests := true, laidLooks := .later }
def TopKeysUptoCardSaid : Prop := Claim7.holds Tryz.pinned (.plain (OpenSpec.upto topKeysSpec)) topKeysUptoCard

/-- THE SECOND FORM's CARD OF 'manifoldtop.TopOdd'. -/
def topOddUptoCard : Claim7 := { stood := { row := topOddUptoRow, standIns := [], harness := (true, "fe3bf948f87408109fc988edfa475a9853c94568239a86a91671cb0854e8905a"), looks := true }, kinds := [], alts := [], laidByText := true, laidKinds := [.data, .data, .data, .data, .pinned], laidTests := true, laidLooks := .later }
def TopOddUptoCardSaid : Prop := Claim7.holds Tryz.pinned (.plain (OpenSpec.upto topOddSpec)) topOddUptoCard
end Rows
end Go.Proofs.YtkfblammcilfhaaGreatDoor
