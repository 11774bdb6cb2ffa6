/-
  DERIVED. GIVEN WITH THE SEED: THE CARDS: each row of YtbccjajnjndlbaaDoorRows.lean that lists a variable, with what it lists TIED to the program's text (the seventh form; the later family's looks); each row that meets fmt, with fmt's text TOLD by the authors' own Lean function (tested against real Go, not proved from fmt's source: count such statements apart). THE CARD IS WHAT COUNTS. Prove the row's statement (the work); the ties are given (YtbccjajnjndlbaaDoorTie.lean); close each card by the builder's one call (the guide's Derived/Test/ToyasCard.lean, 'card_holds'). Laid BY PROGRAM, IN A SANDBOX (cutbox-door.mjs). By AI agents, Wed Nov 11 2026. No macro, syntax, notation, axiom, sorry.
-/
import Derived.Test.YtbccjajnjndlbaaDoorRows
import GoSem.ClaimSeven
namespace Go.Proofs.YtbccjajnjndlbaaDoor
namespace Rows

/-- THE TIED CARD OF 'doorkeeperlaw03.PercentDecodes'. -/
def percentDecodesCard : Claim7 := { stood := { row := percentDecodesRow, standIns := [], harness := (true, "bdb898143553368342d80c16c1920e6c0b0786d874435fbcd42bcf435131139d"), looks := true }, kinds := [], alts := [], laidByText := true, laidKinds := [.handle], laidTests := true, laidLooks := .later }
def PercentDecodesCardSaid : Prop := Claim7.holds Tryd.pinned (.plain (OpenSpec.ofChange percentDecodesSpec)) percentDecodesCard

/-- THE TIED CARD OF 'doorkeeperlaw03.PercentInverse'. -/
def percentInverseCard : Claim7 := { stood := { row := percentInverseRow, standIns := [], harness := (true, "bdb898143553368342d80c16c1920e6c0b0786d874435fbcd42bcf435131139d"), looks := true }, kinds := [], alts := [], laidByText := true, laidKinds := [.handle], laidTests := true, laidLooks := .later }
def PercentInverseCardSaid : Prop := Claim7.holds Tryd.pinned (.plain (OpenSpec.ofChange percentInverseSpec)) percentInverseCard

/-- THE TIED CARD OF 'doorkeeperlaw03.PercentOnce'. -/
def percentOnceCard : Claim7 := { stood := { row := percentOnceRow, standIns := [], harness := (true, "bdb898143553368342d80c16c1920e6c0b0786d874435fbcd42bcf435131139d"), looks := true }, kinds := [], alts := [], laidByText := true, laidKinds := [.handle], laidTests := true, laidLooks := .later }
def PercentOnceCardSaid : Prop := Claim7.holds Tryd.pinned (.plain (OpenSpec.ofChange percentOnceSpec)) percentOnceCard

/-- THE TIED CARD OF 'doorkeeperlaw03.PercentJoins'. -/
def percentJoinsCard : Claim7 := { stood := { row := percentJoinsRow, standIns := [], harness := (true, "bdb898143553368342d80c16c1920e6c0b0786d874435fbcd42bcf435131139d"), looks := true }, kinds := [], alts := [], laidByText := true, laidKinds := [.handle], laidTests := true, laidLooks := .later }
def PercentJoinsCardSaid : Prop := Claim7.holds Tryd.pinned (.plain (OpenSpec.ofChange percentJoinsSpec)) percentJoinsCard

/-- THE SECOND FORM's CARD OF 'doorkeeperlaw03.PercentDecodes'. -/
def percentDecodesUptoCard : Claim7 := { stood := { row := percentDecodesUptoRow, standIns := [], harness := (true, "bdb898143553368342d80c16c1920e6c0b0786d874435fbcd42bcf435131139d"), looks := true }, kinds := [], alts := [], laidByText := true, laidKinds := [.handle], laidTests := true, laidLooks := .later }
def PercentDecodesUptoCardSaid : Prop := Claim7.holds Tryd.pinned (.plain (OpenSpec.upto percentDecodesSpec)) percentDecodesUptoCard

/-- THE SECOND FORM's CARD OF 'doorkeeperlaw03.PercentInverse'. -/
def percentInverseUptoCard : Claim7 := { stood := { row := percentInverseUptoRow, standIns := [], harness := (true, "bdb898143553368342d80c16c1920e6c0b0786d874435fbcd42bcf435131139d"), looks := true }, kinds := [], alts := [], laidByText := true, laidKinds := [.handle], laidTests := true, laidLooks := .later }
def PercentInverseUptoCardSaid : Prop := Claim7.holds Tryd.pinned (.plain (OpenSpec.upto percentInverseSpec)) percentInverseUptoCard

/-- THE SECOND FORM's CARD OF 'doorkeeperlaw03.PercentOnce'. -/
def percentOnceUptoCard : Claim7 := { stood := { row := percentOnceUptoRow, standIns := [], harness := (true, "bdb898143553368342d80c16c1920e6c0b0786d874435fbcd42bcf435131139d"), looks := true }, kinds := [], alts := [], laidByText := true, laidKinds := [.handle], laidTests := true, laidLooks := .later }
def PercentOnceUptoCardSaid : Prop := Claim7.holds Tryd.pinned (.plain (OpenSpec.upto percentOnceSpec)) percentOnceUptoCard

/-- THE SECOND FORM's CARD OF 'doorkeeperlaw03.PercentJoins'. -/
def percentJoinsUptoCard : Claim7 := { stood := { row := percentJoinsUptoRow, standIns := [], harness := (true, "bdb898143553368342d80c16c1920e6c0b0786d874435fbcd42bcf435131139d"), looks := true }, kinds := [], alts := [], laidByText := true, laidKinds := [.handle], laidTests := true, laidLooks := .later }
def PercentJoinsUptoCardSaid : Prop := Claim7.holds Tryd.pinned (.plain (OpenSpec.upto percentJoinsSpec)) percentJoinsUptoCard
end Rows
end Go.Proofs.YtbccjajnjndlbaaDoor
