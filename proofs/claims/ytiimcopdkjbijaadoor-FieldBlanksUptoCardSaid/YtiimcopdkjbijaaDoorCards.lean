/-
  DERIVED. GIVEN WITH THE SEED: THE CARDS: each row of YtiimcopdkjbijaaDoorRows.lean that lists a variable, with what it lists TIED to the program's text (the seventh form; the later family's looks); each row that meets fmt, with fmt's text TOLD by the authors' own Lean function (tested against real Go, not proved from fmt's source: count such statements apart). THE CARD IS WHAT COUNTS. Prove the row's statement (the work); the ties are given (YtiimcopdkjbijaaDoorTie.lean); close each card by the builder's one call (the guide's Derived/Test/ToyasCard.lean, 'card_holds'). Laid BY PROGRAM, IN A SANDBOX (cutbox-door.mjs). By AI agents, Wed Nov 11 2026. No macro, syntax, notation, axiom, sorry.
-/
import Derived.Test.YtiimcopdkjbijaaDoorRows
import GoSem.ClaimSeven
namespace Go.Proofs.YtiimcopdkjbijaaDoor
namespace Rows

/-- THE TIED CARD OF 'doorkeeperlaw11.FieldParses'. -/
def fieldParsesCard : Claim7 := { stood := { row := fieldParsesRow, standIns := [], harness := (true, "e184ce91afa8bd07904051ef2d391ca1b66a0708254840dacfe43266d4bf20a0"), looks := true }, kinds := [], alts := [], laidByText := true, laidKinds := [.handle], laidTests := true, laidLooks := .later }
def FieldParsesCardSaid : Prop := Claim7.holds Tryd.pinned (.plain (OpenSpec.ofChange fieldParsesSpec)) fieldParsesCard

/-- THE TIED CARD OF 'doorkeeperlaw11.FieldFinds'. -/
def fieldFindsCard : Claim7 := { stood := { row := fieldFindsRow, standIns := [], harness := (true, "e184ce91afa8bd07904051ef2d391ca1b66a0708254840dacfe43266d4bf20a0"), looks := true }, kinds := [], alts := [], laidByText := true, laidKinds := [.handle], laidTests := true, laidLooks := .later }
def FieldFindsCardSaid : Prop := Claim7.holds Tryd.pinned (.plain (OpenSpec.ofChange fieldFindsSpec)) fieldFindsCard

/-- THE TIED CARD OF 'doorkeeperlaw11.FieldAll'. -/
def fieldAllCard : Claim7 := { stood := { row := fieldAllRow, standIns := [], harness := (true, "e184ce91afa8bd07904051ef2d391ca1b66a0708254840dacfe43266d4bf20a0"), looks := true }, kinds := [], alts := [], laidByText := true, laidKinds := [.handle], laidTests := true, laidLooks := .later }
def FieldAllCardSaid : Prop := Claim7.holds Tryd.pinned (.plain (OpenSpec.ofChange fieldAllSpec)) fieldAllCard

/-- THE TIED CARD OF 'doorkeeperlaw11.FieldBlanks'. -/
def fieldBlanksCard : Claim7 := { stood := { row := fieldBlanksRow, standIns := [], harness := (true, "e184ce91afa8bd07904051ef2d391ca1b66a0708254840dacfe43266d4bf20a0"), looks := true }, kinds := [], alts := [], laidByText := true, laidKinds := [.handle], laidTests := true, laidLooks := .later }
def FieldBlanksCardSaid : Prop := Claim7.holds Tryd.pinned (.plain (OpenSpec.ofChange fieldBlanksSpec)) fieldBlanksCard

/-- THE SECOND FORM's CARD OF 'doorkeeperlaw11.FieldParses'. -/
def fieldParsesUptoCard : Claim7 := { stood := { row := fieldParsesUptoRow, standIns := [], harness := (true, "e184ce91afa8bd07904051ef2d391ca1b66a0708254840dacfe43266d4bf20a0"), looks := true }, kinds := [], alts := [], laidByText := true, laidKinds := [.handle], laidTests := true, laidLooks := .later }
def FieldParsesUptoCardSaid : Prop := Claim7.holds Tryd.pinned (.plain (OpenSpec.upto fieldParsesSpec)) fieldParsesUptoCard

/-- THE SECOND FORM's CARD OF 'doorkeeperlaw11.FieldFinds'. -/
def fieldFindsUptoCard : Claim7 := { stood := { row := fieldFindsUptoRow, standIns := [], harness := (true, "e184ce91afa8bd07904051ef2d391ca1b66a0708254840dacfe43266d4bf20a0"), looks := true }, kinds := [], alts := [], laidByText := true, laidKinds := [.handle], laidTests := true, laidLooks := .later }
def FieldFindsUptoCardSaid : Prop := Claim7.holds Tryd.pinned (.plain (OpenSpec.upto fieldFindsSpec)) fieldFindsUptoCard

/-- THE SECOND FORM's CARD OF 'doorkeeperlaw11.FieldAll'. -/
def fieldAllUptoCard : Claim7 := { stood := { row := fieldAllUptoRow, standIns := [], harness := (true, "e184ce91afa8bd07904051ef2d391ca1b66a0708254840dacfe43266d4bf20a0"), looks := true }, kinds := [], alts := [], laidByText := true, laidKinds := [.handle], laidTests := true, laidLooks := .later }
def FieldAllUptoCardSaid : Prop := Claim7.holds Tryd.pinned (.plain (OpenSpec.upto fieldAllSpec)) fieldAllUptoCard

/-- THE SECOND FORM's CARD OF 'doorkeeperlaw11.FieldBlanks'. -/
def fieldBlanksUptoCard : Claim7 := { stood := { row := fieldBlanksUptoRow, standIns := [], harness := (true, "e184ce91afa8bd07904051ef2d391ca1b66a0708254840dacfe43266d4bf20a0"), looks := true }, kinds := [], alts := [], laidByText := true, laidKinds := [.handle], laidTests := true, laidLooks := .later }
def FieldBlanksUptoCardSaid : Prop := Claim7.holds Tryd.pinned (.plain (OpenSpec.upto fieldBlanksSpec)) fieldBlanksUptoCard
end Rows
end Go.Proofs.YtiimcopdkjbijaaDoor
