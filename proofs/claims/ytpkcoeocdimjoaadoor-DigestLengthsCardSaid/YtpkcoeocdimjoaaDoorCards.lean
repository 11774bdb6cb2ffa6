/-
  DERIVED. GIVEN WITH THE SEED: THE CARDS: each row of YtpkcoeocdimjoaaDoorRows.lean that lists a variable, with what it lists TIED to the program's text (the seventh form; the later family's looks); each row that meets fmt, with fmt's text TOLD by the authors' own Lean function (tested against real Go, not proved from fmt's source: count such statements apart). THE CARD IS WHAT COUNTS. Prove the row's statement (the work); the ties are given (YtpkcoeocdimjoaaDoorTie.lean); close each card by the builder's one call (the guide's Derived/Test/ToyasCard.lean, 'card_holds'). Laid BY PROGRAM, IN A SANDBOX (cutbox-door.mjs). By AI agents, Wed Nov 11 2026. No macro, syntax, notation, axiom, sorry.
-/
import Derived.Test.YtpkcoeocdimjoaaDoorRows
import GoSem.ClaimSeven
namespace Go.Proofs.YtpkcoeocdimjoaaDoor
namespace Rows

/-- THE TIED CARD OF 'doorkeeperlaw08.DigestMatchesReference'. -/
def digestMatchesReferenceCard : Claim7 := { stood := { row := digestMatchesReferenceRow, standIns := [], harness := (true, "daf461d5a197bf546f7e799599711b355ee5cdbc5cfae96c0904b17078893f05"), looks := false }, kinds := [], alts := [], laidByText := true, laidKinds := [.data], laidTests := true, laidLooks := .later }
def DigestMatchesReferenceCardSaid : Prop := Claim7.holds Tryd.pinned (.plain (OpenSpec.ofChange digestMatchesReferenceSpec)) digestMatchesReferenceCard

/-- THE TIED CARD OF 'doorkeeperlaw08.DigestHex'. -/
def digestHexCard : Claim7 := { stood := { row := digestHexRow, standIns := [], harness := (true, "daf461d5a197bf546f7e799599711b355ee5cdbc5cfae96c0904b17078893f05"), looks := false }, kinds := [], alts := [], laidByText := true, laidKinds := [.data], laidTests := true, laidLooks := .later }
def DigestHexCardSaid : Prop := Claim7.holds Tryd.pinned (.plain (OpenSpec.ofChange digestHexSpec)) digestHexCard

/-- THE TIED CARD OF 'doorkeeperlaw08.DigestParses'. -/
def digestParsesCard : Claim7 := { stood := { row := digestParsesRow, standIns := [], harness := (true, "daf461d5a197bf546f7e799599711b355ee5cdbc5cfae96c0904b17078893f05"), looks := false }, kinds := [], alts := [], laidByText := true, laidKinds := [.data], laidTests := true, laidLooks := .later }
def DigestParsesCardSaid : Prop := Claim7.holds Tryd.pinned (.plain (OpenSpec.ofChange digestParsesSpec)) digestParsesCard

/-- THE TIED CARD OF 'doorkeeperlaw08.DigestLengths'. -/
def digestLengthsCard : Claim7 := { stood := { row := digestLengthsRow, standIns := [], harness := (true, "daf461d5a197bf546f7e799599711b355ee5cdbc5cfae96c0904b17078893f05"), looks := false }, kinds := [], alts := [], laidByText := true, laidKinds := [.data], laidTests := true, laidLooks := .later }
def DigestLengthsCardSaid : Prop := Claim7.holds Tryd.pinned (.plain (OpenSpec.ofChange digestLengthsSpec)) digestLengthsCard

/-- THE TIED CARD OF 'doorkeeperlaw08.DigestSalted'. -/
def digestSaltedCard : Claim7 := { stood := { row := digestSaltedRow, standIns := [], harness := (true, "daf461d5a197bf546f7e799599711b355ee5cdbc5cfae96c0904b17078893f05"), looks := false }, kinds := [], alts := [], laidByText := true, laidKinds := [.data], laidTests := true, laidLooks := .later }
def DigestSaltedCardSaid : Prop := Claim7.holds Tryd.pinned (.plain (OpenSpec.ofChange digestSaltedSpec)) digestSaltedCard

/-- THE SECOND FORM's CARD OF 'doorkeeperlaw08.DigestMatchesReference'. -/
def digestMatchesReferenceUptoCard : Claim7 := { stood := { row := digestMatchesReferenceUptoRow, standIns := [], harness := (true, "daf461d5a197bf546f7e799599711b355ee5cdbc5cfae96c0904b17078893f05"), looks := false }, kinds := [], alts := [], laidByText := true, laidKinds := [.data], laidTests := true, laidLooks := .later }
def DigestMatchesReferenceUptoCardSaid : Prop := Claim7.holds Tryd.pinned (.plain (OpenSpec.upto digestMatchesReferenceSpec)) digestMatchesReferenceUptoCard

/-- THE SECOND FORM's CARD OF 'doorkeeperlaw08.DigestHex'. -/
def digestHexUptoCard : Claim7 := { stood := { row := digestHexUptoRow, standIns := [], harness := (true, "daf461d5a197bf546f7e799599711b355ee5cdbc5cfae96c0904b17078893f05"), looks := false }, kinds := [], alts := [], laidByText := true, laidKinds := [.data], laidTests := true, laidLooks := .later }
def DigestHexUptoCardSaid : Prop := Claim7.holds Tryd.pinned (.plain (OpenSpec.upto digestHexSpec)) digestHexUptoCard

/-- THE SECOND FORM's CARD OF 'doorkeeperlaw08.DigestParses'. -/
def digestParsesUptoCard : Claim7 := { stood := { row := digestParsesUptoRow, standIns := [], harness := (true, "daf461d5a197bf546f7e799599711b355ee5cdbc5cfae96c0904b17078893f05"), looks := false }, kinds := [], alts := [], laidByText := true, laidKinds := [.data], laidTests := true, laidLooks := .later }
def DigestParsesUptoCardSaid : Prop := Claim7.holds Tryd.pinned (.plain (OpenSpec.upto digestParsesSpec)) digestParsesUptoCard

/-- THE SECOND FORM's CARD OF 'doorkeeperlaw08.DigestLengths'. -/
def digestLengthsUptoCard : Claim7 := { stood := { row := digestLengthsUptoRow, standIns := [], harness := (true, "daf461d5a197bf546f7e799599711b355ee5cdbc5cfae96c0904b17078893f05"), looks := false }, kinds := [], alts := [], laidByText := true, laidKinds := [.data], laidTests := true, laidLooks := .later }
def DigestLengthsUptoCardSaid : Prop := Claim7.holds Tryd.pinned (.plain (OpenSpec.upto digestLengthsSpec)) digestLengthsUptoCard

/-- THE SECOND FORM's CARD OF 'doorkeeperlaw08.DigestSalted'. -/
def digestSaltedUptoCard : Claim7 := { stood := { row := digestSaltedUptoRow, standIns := [], harness := (true, "daf461d5a197bf546f7e799599711b355ee5cdbc5cfae96c0904b17078893f05"), looks := false }, kinds := [], alts := [], laidByText := true, laidKinds := [.data], laidTests := true, laidLooks := .later }
def DigestSaltedUptoCardSaid : Prop := Claim7.holds Tryd.pinned (.plain (OpenSpec.upto digestSaltedSpec)) digestSaltedUptoCard
end Rows
end Go.Proofs.YtpkcoeocdimjoaaDoor
