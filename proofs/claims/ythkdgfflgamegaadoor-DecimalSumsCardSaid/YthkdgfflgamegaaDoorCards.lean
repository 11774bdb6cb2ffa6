/-
  DERIVED. GIVEN WITH THE SEED: THE CARDS: each row of YthkdgfflgamegaaDoorRows.lean that lists a variable, with what it lists TIED to the program's text (the seventh form; the later family's looks); each row that meets fmt, with fmt's text TOLD by the authors' own Lean function (tested against real Go, not proved from fmt's source: count such statements apart). THE CARD IS WHAT COUNTS. Prove the row's statement (the work); the ties are given (YthkdgfflgamegaaDoorTie.lean); close each card by the builder's one call (the guide's Derived/Test/ToyasCard.lean, 'card_holds'). Laid BY PROGRAM, IN A SANDBOX (cutbox-door.mjs). By AI agents, Wed Nov 11 2026. No macro, syntax, notation, axiom, sorry.
-/
import Derived.Test.YthkdgfflgamegaaDoorRows
import GoSem.ClaimSeven
namespace Go.Proofs.YthkdgfflgamegaaDoor
namespace Rows

/-- THE TIED CARD OF 'doorkeeperlaw05.DecimalReads'. -/
def decimalReadsCard : Claim7 := { stood := { row := decimalReadsRow, standIns := [], harness := (true, "45c33af8e33fff14acf32489eacf77f85a90adb3af47495afa74a9ff09983c0e"), looks := true }, kinds := [], alts := [], laidByText := true, laidKinds := [.handle], laidTests := true, laidLooks := .later }
def DecimalReadsCardSaid : Prop := Claim7.holds Tryd.pinned (.plain (OpenSpec.ofChange decimalReadsSpec)) decimalReadsCard

/-- THE TIED CARD OF 'doorkeeperlaw05.DecimalHex'. -/
def decimalHexCard : Claim7 := { stood := { row := decimalHexRow, standIns := [], harness := (true, "45c33af8e33fff14acf32489eacf77f85a90adb3af47495afa74a9ff09983c0e"), looks := true }, kinds := [], alts := [], laidByText := true, laidKinds := [.handle], laidTests := true, laidLooks := .later }
def DecimalHexCardSaid : Prop := Claim7.holds Tryd.pinned (.plain (OpenSpec.ofChange decimalHexSpec)) decimalHexCard

/-- THE TIED CARD OF 'doorkeeperlaw05.DecimalInverse'. -/
def decimalInverseCard : Claim7 := { stood := { row := decimalInverseRow, standIns := [], harness := (true, "45c33af8e33fff14acf32489eacf77f85a90adb3af47495afa74a9ff09983c0e"), looks := true }, kinds := [], alts := [], laidByText := true, laidKinds := [.handle], laidTests := true, laidLooks := .later }
def DecimalInverseCardSaid : Prop := Claim7.holds Tryd.pinned (.plain (OpenSpec.ofChange decimalInverseSpec)) decimalInverseCard

/-- THE TIED CARD OF 'doorkeeperlaw05.DecimalSums'. -/
def decimalSumsCard : Claim7 := { stood := { row := decimalSumsRow, standIns := [], harness := (true, "45c33af8e33fff14acf32489eacf77f85a90adb3af47495afa74a9ff09983c0e"), looks := true }, kinds := [], alts := [], laidByText := true, laidKinds := [.handle], laidTests := true, laidLooks := .later }
def DecimalSumsCardSaid : Prop := Claim7.holds Tryd.pinned (.plain (OpenSpec.ofChange decimalSumsSpec)) decimalSumsCard

/-- THE SECOND FORM's CARD OF 'doorkeeperlaw05.DecimalReads'. -/
def decimalReadsUptoCard : Claim7 := { stood := { row := decimalReadsUptoRow, standIns := [], harness := (true, "45c33af8e33fff14acf32489eacf77f85a90adb3af47495afa74a9ff09983c0e"), looks := true }, kinds := [], alts := [], laidByText := true, laidKinds := [.handle], laidTests := true, laidLooks := .later }
def DecimalReadsUptoCardSaid : Prop := Claim7.holds Tryd.pinned (.plain (OpenSpec.upto decimalReadsSpec)) decimalReadsUptoCard

/-- THE SECOND FORM's CARD OF 'doorkeeperlaw05.DecimalHex'. -/
def decimalHexUptoCard : Claim7 := { stood := { row := decimalHexUptoRow, standIns := [], harness := (true, "45c33af8e33fff14acf32489eacf77f85a90adb3af47495afa74a9ff09983c0e"), looks := true }, kinds := [], alts := [], laidByText := true, laidKinds := [.handle], laidTests := true, laidLooks := .later }
def DecimalHexUptoCardSaid : Prop := Claim7.holds Tryd.pinned (.plain (OpenSpec.upto decimalHexSpec)) decimalHexUptoCard

/-- THE SECOND FORM's CARD OF 'doorkeeperlaw05.DecimalInverse'. -/
def decimalInverseUptoCard : Claim7 := { stood := { row := decimalInverseUptoRow, standIns := [], harness := (true, "45c33af8e33fff14acf32489eacf77f85a90adb3af47495afa74a9ff09983c0e"), looks := true }, kinds := [], alts := [], laidByText := true, laidKinds := [.handle], laidTests := true, laidLooks := .later }
def DecimalInverseUptoCardSaid : Prop := Claim7.holds Tryd.pinned (.plain (OpenSpec.upto decimalInverseSpec)) decimalInverseUptoCard

/-- THE SECOND FORM's CARD OF 'doorkeeperlaw05.DecimalSums'. -/
def decimalSumsUptoCard : Claim7 := { stood := { row := decimalSumsUptoRow, standIns := [], harness := (true, "45c33af8e33fff14acf32489eacf77f85a90adb3af47495afa74a9ff09983c0e"), looks := true }, kinds := [], alts := [], laidByText := true, laidKinds := [.handle], laidTests := true, laidLooks := .later }
def DecimalSumsUptoCardSaid : Prop := Claim7.holds Tryd.pinned (.plain (OpenSpec.upto decimalSumsSpec)) decimalSumsUptoCard
end Rows
end Go.Proofs.YthkdgfflgamegaaDoor
