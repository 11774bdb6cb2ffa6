/-
  DERIVED. GIVEN WITH THE SEED: THE CARDS: each row of YtcanebnegfnhdaaDoorRows.lean that lists a variable, with what it lists TIED to the program's text (the seventh form; the later family's looks); each row that meets fmt, with fmt's text TOLD by the authors' own Lean function (tested against real Go, not proved from fmt's source: count such statements apart). THE CARD IS WHAT COUNTS. Prove the row's statement (the work); the ties are given (YtcanebnegfnhdaaDoorTie.lean); close each card by the builder's one call (the guide's Derived/Test/ToyasCard.lean, 'card_holds'). Laid BY PROGRAM, IN A SANDBOX (cutbox-door.mjs). By AI agents, Wed Nov 11 2026. No macro, syntax, notation, axiom, sorry.
-/
import Derived.Test.YtcanebnegfnhdaaDoorRows
import GoSem.ClaimSeven
namespace Go.Proofs.YtcanebnegfnhdaaDoor
namespace Rows

/-- THE TIED CARD OF 'doorkeeperlaw10.ReqlineParses'. -/
def reqlineParsesCard : Claim7 := { stood := { row := reqlineParsesRow, standIns := [], harness := (true, "e11714903efcc31f0c197978676e15470b2d99dfe189ea140f37a6fbf83795e6"), looks := true }, kinds := [], alts := [], laidByText := true, laidKinds := [.data, .handle, .widerDeep, .funcs, .pinned], laidTests := true, laidLooks := .later }
def ReqlineParsesCardSaid : Prop := Claim7.holds Tryd.pinned (.plain (OpenSpec.ofChange reqlineParsesSpec)) reqlineParsesCard

/-- THE TIED CARD OF 'doorkeeperlaw10.ReqlineTexts'. -/
def reqlineTextsCard : Claim7 := { stood := { row := reqlineTextsRow, standIns := [], harness := (true, "e11714903efcc31f0c197978676e15470b2d99dfe189ea140f37a6fbf83795e6"), looks := true }, kinds := [], alts := [], laidByText := true, laidKinds := [.data, .handle, .widerDeep, .funcs, .pinned], laidTests := true, laidLooks := .later }
def ReqlineTextsCardSaid : Prop := Claim7.holds Tryd.pinned (.plain (OpenSpec.ofChange reqlineTextsSpec)) reqlineTextsCard

/-- THE TIED CARD OF 'doorkeeperlaw10.ReqlineKinds'. -/
def reqlineKindsCard : Claim7 := { stood := { row := reqlineKindsRow, standIns := [], harness := (true, "e11714903efcc31f0c197978676e15470b2d99dfe189ea140f37a6fbf83795e6"), looks := true }, kinds := [], alts := [], laidByText := true, laidKinds := [.data, .handle, .widerDeep, .funcs, .pinned], laidTests := true, laidLooks := .later }
def ReqlineKindsCardSaid : Prop := Claim7.holds Tryd.pinned (.plain (OpenSpec.ofChange reqlineKindsSpec)) reqlineKindsCard

/-- THE TIED CARD OF 'doorkeeperlaw10.ReqlineSpaces'. -/
def reqlineSpacesCard : Claim7 := { stood := { row := reqlineSpacesRow, standIns := [], harness := (true, "e11714903efcc31f0c197978676e15470b2d99dfe189ea140f37a6fbf83795e6"), looks := true }, kinds := [], alts := [], laidByText := true, laidKinds := [.data, .handle, .widerDeep, .funcs, .pinned], laidTests := true, laidLooks := .later }
def ReqlineSpacesCardSaid : Prop := Claim7.holds Tryd.pinned (.plain (OpenSpec.ofChange reqlineSpacesSpec)) reqlineSpacesCard

/-- THE TIED CARD OF 'doorkeeperlaw10.ReqlineVersions'. -/
def reqlineVersionsCard : Claim7 := { stood := { row := reqlineVersionsRow, standIns := [], harness := (true, "e11714903efcc31f0c197978676e15470b2d99dfe189ea140f37a6fbf83795e6"), looks := true }, kinds := [], alts := [], laidByText := true, laidKinds := [.data, .handle, .widerDeep, .funcs, .pinned], laidTests := true, laidLooks := .later }
def ReqlineVersionsCardSaid : Prop := Claim7.holds Tryd.pinned (.plain (OpenSpec.ofChange reqlineVersionsSpec)) reqlineVersionsCard

/-- THE SECOND FORM's CARD OF 'doorkeeperlaw10.ReqlineParses'. -/
def reqlineParsesUptoCard : Claim7 := { stood := { row := reqlineParsesUptoRow, standIns := [], harness := (true, "e11714903efcc31f0c197978676e15470b2d99dfe189ea140f37a6fbf83795e6"), looks := true }, kinds := [], alts := [], laidByText := true, laidKinds := [.data, .handle, .widerDeep, .funcs, .pinned], laidTests := true, laidLooks := .later }
def ReqlineParsesUptoCardSaid : Prop := Claim7.holds Tryd.pinned (.plain (OpenSpec.upto reqlineParsesSpec)) reqlineParsesUptoCard

/-- THE SECOND FORM's CARD OF 'doorkeeperlaw10.ReqlineTexts'. -/
def reqlineTextsUptoCard : Claim7 := { stood := { row := reqlineTextsUptoRow, standIns := [], harness := (true, "e11714903efcc31f0c197978676e15470b2d99dfe189ea140f37a6fbf83795e6"), looks := true }, kinds := [], alts := [], laidByText := true, laidKinds := [.data, .handle, .widerDeep, .funcs, .pinned], laidTests := true, laidLooks := .later }
def ReqlineTextsUptoCardSaid : Prop := Claim7.holds Tryd.pinned (.plain (OpenSpec.upto reqlineTextsSpec)) reqlineTextsUptoCard

/-- THE SECOND FORM's CARD OF 'doorkeeperlaw10.ReqlineKinds'. -/
def reqlineKindsUptoCard : Claim7 := { stood := { row := reqlineKindsUptoRow, standIns := [], harness := (true, "e11714903efcc31f0c197978676e15470b2d99dfe189ea140f37a6fbf83795e6"), looks := true }, kinds := [], alts := [], laidByText := true, laidKinds := [.data, .handle, .widerDeep, .funcs, .pinned], laidTests := true, laidLooks := .later }
def ReqlineKindsUptoCardSaid : Prop := Claim7.holds Tryd.pinned (.plain (OpenSpec.upto reqlineKindsSpec)) reqlineKindsUptoCard

/-- THE SECOND FORM's CARD OF 'doorkeeperlaw10.ReqlineSpaces'. -/
def reqlineSpacesUptoCard : Claim7 := { stood := { row := reqlineSpacesUptoRow, standIns := [], harness := (true, "e11714903efcc31f0c197978676e15470b2d99dfe189ea140f37a6fbf83795e6"), looks := true }, kinds := [], alts := [], laidByText := true, laidKinds := [.data, .handle, .widerDeep, .funcs, .pinned], laidTests := true, laidLooks := .later }
def ReqlineSpacesUptoCardSaid : Prop := Claim7.holds Tryd.pinned (.plain (OpenSpec.upto reqlineSpacesSpec)) reqlineSpacesUptoCard

/-- THE SECOND FORM's CARD OF 'doorkeeperlaw10.ReqlineVersions'. -/
def reqlineVersionsUptoCard : Claim7 := { stood := { row := reqlineVersionsUptoRow, standIns := [], harness := (true, "e11714903efcc31f0c197978676e15470b2d99dfe189ea140f37a6fbf83795e6"), looks := true }, kinds := [], alts := [], laidByText := true, laidKinds := [.data, .handle, .widerDeep, .funcs, .pinned], laidTests := true, laidLooks := .later }
def ReqlineVersionsUptoCardSaid : Prop := Claim7.holds Tryd.pinned (.plain (OpenSpec.upto reqlineVersionsSpec)) reqlineVersionsUptoCard
end Rows
end Go.Proofs.YtcanebnegfnhdaaDoor
