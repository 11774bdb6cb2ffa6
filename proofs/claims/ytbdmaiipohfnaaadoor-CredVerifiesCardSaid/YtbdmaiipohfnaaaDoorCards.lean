/-
  DERIVED. GIVEN WITH THE SEED: THE CARDS: each row of YtbdmaiipohfnaaaDoorRows.lean that lists a variable, with what it lists TIED to the program's text (the seventh form; the later family's looks); each row that meets fmt, with fmt's text TOLD by the authors' own Lean function (tested against real Go, not proved from fmt's source: count such statements apart). THE CARD IS WHAT COUNTS. Prove the row's statement (the work); the ties are given (YtbdmaiipohfnaaaDoorTie.lean); close each card by the builder's one call (the guide's Derived/Test/ToyasCard.lean, 'card_holds'). Laid BY PROGRAM, IN A SANDBOX (cutbox-door.mjs). By AI agents, Wed Nov 11 2026. No macro, syntax, notation, axiom, sorry.
-/
import Derived.Test.YtbdmaiipohfnaaaDoorRows
import GoSem.ClaimSeven
namespace Go.Proofs.YtbdmaiipohfnaaaDoor
namespace Rows

/-- THE TIED CARD OF 'doorkeeperlaw21.CredParses'. -/
def credParsesCard : Claim7 := { stood := { row := credParsesRow, standIns := [], harness := (true, "a205e599eee875557f2625a0c6efbdbf162f1a67d78da81ebb87ccbf3fa71436"), looks := false }, kinds := [], alts := [], laidByText := true, laidKinds := [.data, .data, .pinned], laidTests := true, laidLooks := .later }
def CredParsesCardSaid : Prop := Claim7.holds Tryd.pinned (.plain (OpenSpec.ofChange credParsesSpec)) credParsesCard

/-- THE TIED CARD OF 'doorkeeperlaw21.CredInverse'. -/
def credInverseCard : Claim7 := { stood := { row := credInverseRow, standIns := [], harness := (true, "a205e599eee875557f2625a0c6efbdbf162f1a67d78da81ebb87ccbf3fa71436"), looks := false }, kinds := [], alts := [], laidByText := true, laidKinds := [.data, .data, .pinned], laidTests := true, laidLooks := .later }
def CredInverseCardSaid : Prop := Claim7.holds Tryd.pinned (.plain (OpenSpec.ofChange credInverseSpec)) credInverseCard

/-- THE TIED CARD OF 'doorkeeperlaw21.CredVerifies'. -/
def credVerifiesCard : Claim7 := { stood := { row := credVerifiesRow, standIns := [], harness := (true, "a205e599eee875557f2625a0c6efbdbf162f1a67d78da81ebb87ccbf3fa71436"), looks := false }, kinds := [], alts := [], laidByText := true, laidKinds := [.data, .data, .pinned], laidTests := true, laidLooks := .later }
def CredVerifiesCardSaid : Prop := Claim7.holds Tryd.pinned (.plain (OpenSpec.ofChange credVerifiesSpec)) credVerifiesCard

/-- THE SECOND FORM's CARD OF 'doorkeeperlaw21.CredParses'. -/
def credParsesUptoCard : Claim7 := { stood := { row := credParsesUptoRow, standIns := [], harness := (true, "a205e599eee875557f2625a0c6efbdbf162f1a67d78da81ebb87ccbf3fa71436"), looks := false }, kinds := [], alts := [], laidByText := true, laidKinds := [.data, .data, .pinned], laidTests := true, laidLooks := .later }
def CredParsesUptoCardSaid : Prop := Claim7.holds Tryd.pinned (.plain (OpenSpec.upto credParsesSpec)) credParsesUptoCard

/-- THE SECOND FORM's CARD OF 'doorkeeperlaw21.CredInverse'. -/
def credInverseUptoCard : Claim7 := { stood := { row := credInverseUptoRow, standIns := [], harness := (true, "a205e599eee875557f2625a0c6efbdbf162f1a67d78da81ebb87ccbf3fa71436"), looks := false }, kinds := [], alts := [], laidByText := true, laidKinds := [.data, .data, .pinned], laidTests := true, laidLooks := .later }
def CredInverseUptoCardSaid : Prop := Claim7.holds Tryd.pinned (.plain (OpenSpec.upto credInverseSpec)) credInverseUptoCard

/-- THE SECOND FORM's CARD OF 'doorkeeperlaw21.CredVerifies'. -/
def credVerifiesUptoCard : Claim7 := { stood := { row := credVerifiesUptoRow, standIns := [], harness := (true, "a205e599eee875557f2625a0c6efbdbf162f1a67d78da81ebb87ccbf3fa71436"), looks := false }, kinds := [], alts := [], laidByText := true, laidKinds := [.data, .data, .pinned], laidTests := true, laidLooks := .later }
def CredVerifiesUptoCardSaid : Prop := Claim7.holds Tryd.pinned (.plain (OpenSpec.upto credVerifiesSpec)) credVerifiesUptoCard
end Rows
end Go.Proofs.YtbdmaiipohfnaaaDoor
