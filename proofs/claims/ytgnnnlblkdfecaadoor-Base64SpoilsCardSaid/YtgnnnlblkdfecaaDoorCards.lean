/-
  DERIVED. GIVEN WITH THE SEED: THE CARDS: each row of YtgnnnlblkdfecaaDoorRows.lean that lists a variable, with what it lists TIED to the program's text (the seventh form; the later family's looks); each row that meets fmt, with fmt's text TOLD by the authors' own Lean function (tested against real Go, not proved from fmt's source: count such statements apart). THE CARD IS WHAT COUNTS. Prove the row's statement (the work); the ties are given (YtgnnnlblkdfecaaDoorTie.lean); close each card by the builder's one call (the guide's Derived/Test/ToyasCard.lean, 'card_holds'). Laid BY PROGRAM, IN A SANDBOX (cutbox-door.mjs). By AI agents, Wed Nov 11 2026. No macro, syntax, notation, axiom, sorry.
-/
import Derived.Test.YtgnnnlblkdfecaaDoorRows
import GoSem.ClaimSeven
namespace Go.Proofs.YtgnnnlblkdfecaaDoor
namespace Rows

/-- THE TIED CARD OF 'doorkeeperlaw04.Base64Inverse'. -/
def base64InverseCard : Claim7 := { stood := { row := base64InverseRow, standIns := [], harness := (true, "29422f0a460b40a89195ad65231e2ac88643a62eef3c81c450426c4e659b267f"), looks := true }, kinds := [], alts := [], laidByText := true, laidKinds := [.handle], laidTests := true, laidLooks := .later }
def Base64InverseCardSaid : Prop := Claim7.holds Tryd.pinned (.plain (OpenSpec.ofChange base64InverseSpec)) base64InverseCard

/-- THE TIED CARD OF 'doorkeeperlaw04.Base64Decodes'. -/
def base64DecodesCard : Claim7 := { stood := { row := base64DecodesRow, standIns := [], harness := (true, "29422f0a460b40a89195ad65231e2ac88643a62eef3c81c450426c4e659b267f"), looks := true }, kinds := [], alts := [], laidByText := true, laidKinds := [.handle], laidTests := true, laidLooks := .later }
def Base64DecodesCardSaid : Prop := Claim7.holds Tryd.pinned (.plain (OpenSpec.ofChange base64DecodesSpec)) base64DecodesCard

/-- THE TIED CARD OF 'doorkeeperlaw04.Base64Joins'. -/
def base64JoinsCard : Claim7 := { stood := { row := base64JoinsRow, standIns := [], harness := (true, "29422f0a460b40a89195ad65231e2ac88643a62eef3c81c450426c4e659b267f"), looks := true }, kinds := [], alts := [], laidByText := true, laidKinds := [.handle], laidTests := true, laidLooks := .later }
def Base64JoinsCardSaid : Prop := Claim7.holds Tryd.pinned (.plain (OpenSpec.ofChange base64JoinsSpec)) base64JoinsCard

/-- THE TIED CARD OF 'doorkeeperlaw04.Base64Spoils'. -/
def base64SpoilsCard : Claim7 := { stood := { row := base64SpoilsRow, standIns := [], harness := (true, "29422f0a460b40a89195ad65231e2ac88643a62eef3c81c450426c4e659b267f"), looks := true }, kinds := [], alts := [], laidByText := true, laidKinds := [.handle], laidTests := true, laidLooks := .later }
def Base64SpoilsCardSaid : Prop := Claim7.holds Tryd.pinned (.plain (OpenSpec.ofChange base64SpoilsSpec)) base64SpoilsCard

/-- THE SECOND FORM's CARD OF 'doorkeeperlaw04.Base64Inverse'. -/
def base64InverseUptoCard : Claim7 := { stood := { row := base64InverseUptoRow, standIns := [], harness := (true, "29422f0a460b40a89195ad65231e2ac88643a62eef3c81c450426c4e659b267f"), looks := true }, kinds := [], alts := [], laidByText := true, laidKinds := [.handle], laidTests := true, laidLooks := .later }
def Base64InverseUptoCardSaid : Prop := Claim7.holds Tryd.pinned (.plain (OpenSpec.upto base64InverseSpec)) base64InverseUptoCard

/-- THE SECOND FORM's CARD OF 'doorkeeperlaw04.Base64Decodes'. -/
def base64DecodesUptoCard : Claim7 := { stood := { row := base64DecodesUptoRow, standIns := [], harness := (true, "29422f0a460b40a89195ad65231e2ac88643a62eef3c81c450426c4e659b267f"), looks := true }, kinds := [], alts := [], laidByText := true, laidKinds := [.handle], laidTests := true, laidLooks := .later }
def Base64DecodesUptoCardSaid : Prop := Claim7.holds Tryd.pinned (.plain (OpenSpec.upto base64DecodesSpec)) base64DecodesUptoCard

/-- THE SECOND FORM's CARD OF 'doorkeeperlaw04.Base64Joins'. -/
def base64JoinsUptoCard : Claim7 := { stood := { row := base64JoinsUptoRow, standIns := [], harness := (true, "29422f0a460b40a89195ad65231e2ac88643a62eef3c81c450426c4e659b267f"), looks := true }, kinds := [], alts := [], laidByText := true, laidKinds := [.handle], laidTests := true, laidLooks := .later }
def Base64JoinsUptoCardSaid : Prop := Claim7.holds Tryd.pinned (.plain (OpenSpec.upto base64JoinsSpec)) base64JoinsUptoCard

/-- THE SECOND FORM's CARD OF 'doorkeeperlaw04.Base64Spoils'. -/
def base64SpoilsUptoCard : Claim7 := { stood := { row := base64SpoilsUptoRow, standIns := [], harness := (true, "29422f0a460b40a89195ad65231e2ac88643a62eef3c81c450426c4e659b267f"), looks := true }, kinds := [], alts := [], laidByText := true, laidKinds := [.handle], laidTests := true, laidLooks := .later }
def Base64SpoilsUptoCardSaid : Prop := Claim7.holds Tryd.pinned (.plain (OpenSpec.upto base64SpoilsSpec)) base64SpoilsUptoCard
end Rows
end Go.Proofs.YtgnnnlblkdfecaaDoor
