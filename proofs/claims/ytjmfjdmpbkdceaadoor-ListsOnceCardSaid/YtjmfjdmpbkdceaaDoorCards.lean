/-
  DERIVED. GIVEN WITH THE SEED: THE CARDS: each row of YtjmfjdmpbkdceaaDoorRows.lean that lists a variable, with what it lists TIED to the program's text (the seventh form; the later family's looks); each row that meets fmt, with fmt's text TOLD by the authors' own Lean function (tested against real Go, not proved from fmt's source: count such statements apart). THE CARD IS WHAT COUNTS. Prove the row's statement (the work); the ties are given (YtjmfjdmpbkdceaaDoorTie.lean); close each card by the builder's one call (the guide's Derived/Test/ToyasCard.lean, 'card_holds'). Laid BY PROGRAM, IN A SANDBOX (cutbox-door.mjs). By AI agents, Wed Nov 11 2026. No macro, syntax, notation, axiom, sorry.
-/
import Derived.Test.YtjmfjdmpbkdceaaDoorRows
import GoSem.ClaimSeven
namespace Go.Proofs.YtjmfjdmpbkdceaaDoor
namespace Rows

/-- THE TIED CARD OF 'doorkeeperlaw12.ListsMatchReference'. -/
def listsMatchReferenceCard : Claim7 := { stood := { row := listsMatchReferenceRow, standIns := [], harness := (true, "dcb0d0879613484357ce21162cfc26d3f494fa670794b8404c0d289f9c1f6d68"), looks := false }, kinds := [], alts := [], laidByText := true, laidKinds := [.data, .pinned], laidTests := true, laidLooks := .later }
def ListsMatchReferenceCardSaid : Prop := Claim7.holds Tryd.pinned (.plain (OpenSpec.ofChange listsMatchReferenceSpec)) listsMatchReferenceCard

/-- THE TIED CARD OF 'doorkeeperlaw12.ListsJoin'. -/
def listsJoinCard : Claim7 := { stood := { row := listsJoinRow, standIns := [], harness := (true, "dcb0d0879613484357ce21162cfc26d3f494fa670794b8404c0d289f9c1f6d68"), looks := false }, kinds := [], alts := [], laidByText := true, laidKinds := [.data, .pinned], laidTests := true, laidLooks := .later }
def ListsJoinCardSaid : Prop := Claim7.holds Tryd.pinned (.plain (OpenSpec.ofChange listsJoinSpec)) listsJoinCard

/-- THE TIED CARD OF 'doorkeeperlaw12.ListsParts'. -/
def listsPartsCard : Claim7 := { stood := { row := listsPartsRow, standIns := [], harness := (true, "dcb0d0879613484357ce21162cfc26d3f494fa670794b8404c0d289f9c1f6d68"), looks := false }, kinds := [], alts := [], laidByText := true, laidKinds := [.data, .pinned], laidTests := true, laidLooks := .later }
def ListsPartsCardSaid : Prop := Claim7.holds Tryd.pinned (.plain (OpenSpec.ofChange listsPartsSpec)) listsPartsCard

/-- THE TIED CARD OF 'doorkeeperlaw12.ListsCase'. -/
def listsCaseCard : Claim7 := { stood := { row := listsCaseRow, standIns := [], harness := (true, "dcb0d0879613484357ce21162cfc26d3f494fa670794b8404c0d289f9c1f6d68"), looks := false }, kinds := [], alts := [], laidByText := true, laidKinds := [.data, .pinned], laidTests := true, laidLooks := .later }
def ListsCaseCardSaid : Prop := Claim7.holds Tryd.pinned (.plain (OpenSpec.ofChange listsCaseSpec)) listsCaseCard

/-- THE TIED CARD OF 'doorkeeperlaw12.ListsOnce'. -/
def listsOnceCard : Claim7 := { stood := { row := listsOnceRow, standIns := [], harness := (true, "dcb0d0879613484357ce21162cfc26d3f494fa670794b8404c0d289f9c1f6d68"), looks := false }, kinds := [], alts := [], laidByText := true, laidKinds := [.data, .pinned], laidTests := true, laidLooks := .later }
def ListsOnceCardSaid : Prop := Claim7.holds Tryd.pinned (.plain (OpenSpec.ofChange listsOnceSpec)) listsOnceCard

/-- THE SECOND FORM's CARD OF 'doorkeeperlaw12.ListsMatchReference'. -/
def listsMatchReferenceUptoCard : Claim7 := { stood := { row := listsMatchReferenceUptoRow, standIns := [], harness := (true, "dcb0d0879613484357ce21162cfc26d3f494fa670794b8404c0d289f9c1f6d68"), looks := false }, kinds := [], alts := [], laidByText := true, laidKinds := [.data, .pinned], laidTests := true, laidLooks := .later }
def ListsMatchReferenceUptoCardSaid : Prop := Claim7.holds Tryd.pinned (.plain (OpenSpec.upto listsMatchReferenceSpec)) listsMatchReferenceUptoCard

/-- THE SECOND FORM's CARD OF 'doorkeeperlaw12.ListsJoin'. -/
def listsJoinUptoCard : Claim7 := { stood := { row := listsJoinUptoRow, standIns := [], harness := (true, "dcb0d0879613484357ce21162cfc26d3f494fa670794b8404c0d289f9c1f6d68"), looks := false }, kinds := [], alts := [], laidByText := true, laidKinds := [.data, .pinned], laidTests := true, laidLooks := .later }
def ListsJoinUptoCardSaid : Prop := Claim7.holds Tryd.pinned (.plain (OpenSpec.upto listsJoinSpec)) listsJoinUptoCard

/-- THE SECOND FORM's CARD OF 'doorkeeperlaw12.ListsParts'. -/
def listsPartsUptoCard : Claim7 := { stood := { row := listsPartsUptoRow, standIns := [], harness := (true, "dcb0d0879613484357ce21162cfc26d3f494fa670794b8404c0d289f9c1f6d68"), looks := false }, kinds := [], alts := [], laidByText := true, laidKinds := [.data, .pinned], laidTests := true, laidLooks := .later }
def ListsPartsUptoCardSaid : Prop := Claim7.holds Tryd.pinned (.plain (OpenSpec.upto listsPartsSpec)) listsPartsUptoCard

/-- THE SECOND FORM's CARD OF 'doorkeeperlaw12.ListsCase'. -/
def listsCaseUptoCard : Claim7 := { stood := { row := listsCaseUptoRow, standIns := [], harness := (true, "dcb0d0879613484357ce21162cfc26d3f494fa670794b8404c0d289f9c1f6d68"), looks := false }, kinds := [], alts := [], laidByText := true, laidKinds := [.data, .pinned], laidTests := true, laidLooks := .later }
def ListsCaseUptoCardSaid : Prop := Claim7.holds Tryd.pinned (.plain (OpenSpec.upto listsCaseSpec)) listsCaseUptoCard

/-- THE SECOND FORM's CARD OF 'doorkeeperlaw12.ListsOnce'. -/
def listsOnceUptoCard : Claim7 := { stood := { row := listsOnceUptoRow, standIns := [], harness := (true, "dcb0d0879613484357ce21162cfc26d3f494fa670794b8404c0d289f9c1f6d68"), looks := false }, kinds := [], alts := [], laidByText := true, laidKinds := [.data, .pinned], laidTests := true, laidLooks := .later }
def ListsOnceUptoCardSaid : Prop := Claim7.holds Tryd.pinned (.plain (OpenSpec.upto listsOnceSpec)) listsOnceUptoCard
end Rows
end Go.Proofs.YtjmfjdmpbkdceaaDoor
