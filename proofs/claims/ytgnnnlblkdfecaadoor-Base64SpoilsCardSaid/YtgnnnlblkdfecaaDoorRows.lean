/-
  NARROWER THAN 'FOR EVERY INPUT', by the rows' own cells (each row's printed sentence says how): Base64Inverse: laid · Base64Decodes: laid · Base64Joins: laid · Base64Spoils: laid.
  DERIVED. THE GIVEN ROWS OF THIS SEAT. 4 by the template 'for every input the law returns true; each argument reads behind the call as it read before'; 0 by the template 'total and deterministic' (their statements: YtgnnnlblkdfecaaDoorTotals.lean).
  GIVEN WITH THE SEED: the statements are not yours to turn. If you find one false, say at which input.
  Laid BY PROGRAM, IN A SANDBOX (cutbox-rows.mjs): the forced cells as the released guide's own fill.sh prints them over the translation f7252b48f2aa178f… (all of the seat's roots in one cut). By AI agents, Wed Nov 11 2026. No macro, syntax, notation, axiom, sorry.
-/
import Derived.Test.YtgnnnlblkdfecaaDoorChecked
import GoSem.Claim
import GoSem.ClaimJoined
import GoSem.ClaimMapViews
import Derived.JoinedTies
import Derived.KernelRfl
namespace Go.Proofs.YtgnnnlblkdfecaaDoor
/- THE CELL 'sum', in the pinned program and in every row, IS THE sha256 OF THE DUMP (.gsa) THAT YtgnnnlblkdfecaaDoorProg.lean LOADS. Nothing in Lean hashes anything: it is a label: what it is worth is what the hold of that sum in a sandbox is worth. -/
noncomputable def Tryd.pinned : Pinned := { name := "ytgnnnlblkdfecaadoor", sum := "f7252b48f2aa178f85257eae3c341ddce61e3f95f02d8717e97d0591f6eb4838", checked := Tryd.checked }
namespace Rows
def none {H : Type} : Left H := { results := [], args := [] }

/- WHAT THE LISTED PACKAGE-LEVEL VARIABLES READ AS WHEN THE CALL BEGINS. Each datum BY PROGRAM (the guide's laid-datum.mjs) off the statement by which the dump's own 'gosem.cut.vars' lays the variable. In a bare row this is a premise. The card (YtgnnnlblkdfecaaDoorCards.lean) ties it to the program's text. -/
def laid_errors_errorType {H : Type} : DataW H := .iface "internal/reflectlite.rtype" (.agg [.ptr (.lit (.string [101, 114, 114, 111, 114]))])

/-- 'doorkeeperlaw04.Base64Inverse': WHATEVER THE INPUT: true; the input reads as it did. -/
def base64InverseSpec : ChangeSpec := { name := "base64Inverse", fn := fun _ => fun
  | [d] => { results := [.lit (.bool true)], args := [d] }
  | _ => none }
def base64InverseRow : OpenClaim := { program := "ytgnnnlblkdfecaadoor", sum := "f7252b48f2aa178f85257eae3c341ddce61e3f95f02d8717e97d0591f6eb4838", func := "doorkeeper/doorkeeperlaw04.Base64Inverse", spec := "base64Inverse", inPlace := ["internal/abi.NoEscape", "internal/bytealg.IndexByteString", "internal/reflectlite.ValueOf", "(internal/reflectlite.Value).Type", "(internal/reflectlite.Value).IsNil", "internal/reflectlite.TypeOf", "(internal/reflectlite.Value).Elem", "(internal/reflectlite.Value).Set"], unfollowed := true, recurses := true, named := ["errors.errorType"], apart := false, laid := [("errors.errorType", laid_errors_errorType)] }
def Base64InverseSaid : Prop := base64InverseRow.holds Tryd.pinned (OpenSpec.ofChange base64InverseSpec)

/-- ITS FALSE NEIGHBOUR: 'it returns false'. Refute it at one input. -/
def base64InverseWrong : ChangeSpec := { name := "base64Inverse", fn := fun _ => fun
  | [d] => { results := [.lit (.bool false)], args := [d] }
  | _ => none }
def Base64InverseWrongFalsely : Prop := base64InverseRow.holds Tryd.pinned (OpenSpec.ofChange base64InverseWrong)

/-- 'doorkeeperlaw04.Base64Decodes': WHATEVER THE INPUT: true; the input reads as it did. -/
def base64DecodesSpec : ChangeSpec := { name := "base64Decodes", fn := fun _ => fun
  | [d] => { results := [.lit (.bool true)], args := [d] }
  | _ => none }
def base64DecodesRow : OpenClaim := { program := "ytgnnnlblkdfecaadoor", sum := "f7252b48f2aa178f85257eae3c341ddce61e3f95f02d8717e97d0591f6eb4838", func := "doorkeeper/doorkeeperlaw04.Base64Decodes", spec := "base64Decodes", inPlace := ["internal/abi.NoEscape", "internal/bytealg.IndexByteString", "internal/reflectlite.ValueOf", "(internal/reflectlite.Value).Type", "(internal/reflectlite.Value).IsNil", "internal/reflectlite.TypeOf", "(internal/reflectlite.Value).Elem", "(internal/reflectlite.Value).Set"], unfollowed := true, recurses := true, named := ["errors.errorType"], apart := false, laid := [("errors.errorType", laid_errors_errorType)] }
def Base64DecodesSaid : Prop := base64DecodesRow.holds Tryd.pinned (OpenSpec.ofChange base64DecodesSpec)

/-- ITS FALSE NEIGHBOUR: 'it returns false'. Refute it at one input. -/
def base64DecodesWrong : ChangeSpec := { name := "base64Decodes", fn := fun _ => fun
  | [d] => { results := [.lit (.bool false)], args := [d] }
  | _ => none }
def Base64DecodesWrongFalsely : Prop := base64DecodesRow.holds Tryd.pinned (OpenSpec.ofChange base64DecodesWrong)

/-- 'doorkeeperlaw04.Base64Joins': WHATEVER THE INPUT: true; the input reads as it did. -/
def base64JoinsSpec : ChangeSpec := { name := "base64Joins", fn := fun _ => fun
  | [d1, d2] => { results := [.lit (.bool true)], args := [d1, d2] }
  | _ => none }
def base64JoinsRow : OpenClaim := { program := "ytgnnnlblkdfecaadoor", sum := "f7252b48f2aa178f85257eae3c341ddce61e3f95f02d8717e97d0591f6eb4838", func := "doorkeeper/doorkeeperlaw04.Base64Joins", spec := "base64Joins", inPlace := ["internal/abi.NoEscape", "internal/bytealg.IndexByteString", "internal/reflectlite.ValueOf", "(internal/reflectlite.Value).Type", "(internal/reflectlite.Value).IsNil", "internal/reflectlite.TypeOf", "(internal/reflectlite.Value).Elem", "(internal/reflectlite.Value).Set"], unfollowed := true, recurses := true, named := ["errors.errorType"], apart := false, laid := [("errors.errorType", laid_errors_errorType)] }
def Base64JoinsSaid : Prop := base64JoinsRow.holds Tryd.pinned (OpenSpec.ofChange base64JoinsSpec)

/-- ITS FALSE NEIGHBOUR: 'it returns false'. Refute it at one input. -/
def base64JoinsWrong : ChangeSpec := { name := "base64Joins", fn := fun _ => fun
  | [d1, d2] => { results := [.lit (.bool false)], args := [d1, d2] }
  | _ => none }
def Base64JoinsWrongFalsely : Prop := base64JoinsRow.holds Tryd.pinned (OpenSpec.ofChange base64JoinsWrong)

/-- 'doorkeeperlaw04.Base64Spoils': WHATEVER THE INPUT: true; the input reads as it did. -/
def base64SpoilsSpec : ChangeSpec := { name := "base64Spoils", fn := fun _ => fun
  | [d1, d2, d3] => { results := [.lit (.bool true)], args := [d1, d2, d3] }
  | _ => none }
def base64SpoilsRow : OpenClaim := { program := "ytgnnnlblkdfecaadoor", sum := "f7252b48f2aa178f85257eae3c341ddce61e3f95f02d8717e97d0591f6eb4838", func := "doorkeeper/doorkeeperlaw04.Base64Spoils", spec := "base64Spoils", inPlace := ["internal/abi.NoEscape", "internal/bytealg.IndexByteString", "internal/reflectlite.ValueOf", "(internal/reflectlite.Value).Type", "(internal/reflectlite.Value).IsNil", "internal/reflectlite.TypeOf", "(internal/reflectlite.Value).Elem", "(internal/reflectlite.Value).Set"], unfollowed := true, recurses := true, named := ["errors.errorType"], apart := false, laid := [("errors.errorType", laid_errors_errorType)] }
def Base64SpoilsSaid : Prop := base64SpoilsRow.holds Tryd.pinned (OpenSpec.ofChange base64SpoilsSpec)

/-- ITS FALSE NEIGHBOUR: 'it returns false'. Refute it at one input. -/
def base64SpoilsWrong : ChangeSpec := { name := "base64Spoils", fn := fun _ => fun
  | [d1, d2, d3] => { results := [.lit (.bool false)], args := [d1, d2, d3] }
  | _ => none }
def Base64SpoilsWrongFalsely : Prop := base64SpoilsRow.holds Tryd.pinned (OpenSpec.ofChange base64SpoilsWrong)

/- THE SECOND FORM. 'bulk': how many values and letters a reading holds, each counted each time it is reached (what is shared counts as often as it is met; a slice's spare places count too). A statement '..UptoSaid' is the law's where the arguments, and the package variables that the reading takes, are together of bulk at most 1048576: NARROWER than '..Said'. Prove '..Said' where nothing that the law and all that it calls make is longer than what came in: it says more and counts as full. Else prove '..UptoSaid'. A law counts once. -/
mutual
def uptoBulk {H : Type} : DataW H → Nat
  | .lit (.string bytes) => bytes.length + 1
  | .lit _ => 1
  | .nil => 1
  | .ptr d => uptoBulk d + 1
  | .slice elems spare => uptoBulkAll elems + uptoBulkAll spare + 1
  | .agg parts => uptoBulkAll parts + 1
  | .iface _ d => uptoBulk d + 1
  | .map entries => uptoBulkEntries entries + 1
  | .held _ => 1
def uptoBulkAll {H : Type} : List (DataW H) → Nat
  | [] => 0
  | d :: r => uptoBulk d + uptoBulkAll r
def uptoBulkEntries {H : Type} : List (Lit × DataW H) → Nat
  | [] => 0
  | x :: r => uptoBulkEntry x + uptoBulkEntries r
def uptoBulkEntry {H : Type} : Lit × DataW H → Nat
  | (.string bytes, d) => bytes.length + uptoBulk d + 1
  | (_, d) => uptoBulk d + 1
 end
def uptoSmall : (H : Type) → List (DataW H) → Bool := fun _ ds => decide (uptoBulkAll ds ≤ 1048576)
def OpenSpec.upto (s : _root_.Go.ChangeSpec) : _root_.Go.OpenSpec := { _root_.Go.OpenSpec.ofChange s with cond := some uptoSmall }

/-- 'doorkeeperlaw04.Base64Inverse', WHERE WHAT IT READS IS OF BULK AT MOST 1048576: true; the input reads as it did. -/
def base64InverseUptoRow : OpenClaim := { program := "ytgnnnlblkdfecaadoor", sum := "f7252b48f2aa178f85257eae3c341ddce61e3f95f02d8717e97d0591f6eb4838", func := "doorkeeper/doorkeeperlaw04.Base64Inverse", spec := "base64Inverse", inPlace := ["internal/abi.NoEscape", "internal/bytealg.IndexByteString", "internal/reflectlite.ValueOf", "(internal/reflectlite.Value).Type", "(internal/reflectlite.Value).IsNil", "internal/reflectlite.TypeOf", "(internal/reflectlite.Value).Elem", "(internal/reflectlite.Value).Set"], unfollowed := true, recurses := true, named := ["errors.errorType"], apart := false, laid := [("errors.errorType", laid_errors_errorType)], narrowed := true }
def Base64InverseUptoSaid : Prop := base64InverseUptoRow.holds Tryd.pinned (OpenSpec.upto base64InverseSpec)

/-- 'doorkeeperlaw04.Base64Decodes', WHERE WHAT IT READS IS OF BULK AT MOST 1048576: true; the input reads as it did. -/
def base64DecodesUptoRow : OpenClaim := { program := "ytgnnnlblkdfecaadoor", sum := "f7252b48f2aa178f85257eae3c341ddce61e3f95f02d8717e97d0591f6eb4838", func := "doorkeeper/doorkeeperlaw04.Base64Decodes", spec := "base64Decodes", inPlace := ["internal/abi.NoEscape", "internal/bytealg.IndexByteString", "internal/reflectlite.ValueOf", "(internal/reflectlite.Value).Type", "(internal/reflectlite.Value).IsNil", "internal/reflectlite.TypeOf", "(internal/reflectlite.Value).Elem", "(internal/reflectlite.Value).Set"], unfollowed := true, recurses := true, named := ["errors.errorType"], apart := false, laid := [("errors.errorType", laid_errors_errorType)], narrowed := true }
def Base64DecodesUptoSaid : Prop := base64DecodesUptoRow.holds Tryd.pinned (OpenSpec.upto base64DecodesSpec)

/-- 'doorkeeperlaw04.Base64Joins', WHERE WHAT IT READS IS OF BULK AT MOST 1048576: true; the input reads as it did. -/
def base64JoinsUptoRow : OpenClaim := { program := "ytgnnnlblkdfecaadoor", sum := "f7252b48f2aa178f85257eae3c341ddce61e3f95f02d8717e97d0591f6eb4838", func := "doorkeeper/doorkeeperlaw04.Base64Joins", spec := "base64Joins", inPlace := ["internal/abi.NoEscape", "internal/bytealg.IndexByteString", "internal/reflectlite.ValueOf", "(internal/reflectlite.Value).Type", "(internal/reflectlite.Value).IsNil", "internal/reflectlite.TypeOf", "(internal/reflectlite.Value).Elem", "(internal/reflectlite.Value).Set"], unfollowed := true, recurses := true, named := ["errors.errorType"], apart := false, laid := [("errors.errorType", laid_errors_errorType)], narrowed := true }
def Base64JoinsUptoSaid : Prop := base64JoinsUptoRow.holds Tryd.pinned (OpenSpec.upto base64JoinsSpec)

/-- 'doorkeeperlaw04.Base64Spoils', WHERE WHAT IT READS IS OF BULK AT MOST 1048576: true; the input reads as it did. -/
def base64SpoilsUptoRow : OpenClaim := { program := "ytgnnnlblkdfecaadoor", sum := "f7252b48f2aa178f85257eae3c341ddce61e3f95f02d8717e97d0591f6eb4838", func := "doorkeeper/doorkeeperlaw04.Base64Spoils", spec := "base64Spoils", inPlace := ["internal/abi.NoEscape", "internal/bytealg.IndexByteString", "internal/reflectlite.ValueOf", "(internal/reflectlite.Value).Type", "(internal/reflectlite.Value).IsNil", "internal/reflectlite.TypeOf", "(internal/reflectlite.Value).Elem", "(internal/reflectlite.Value).Set"], unfollowed := true, recurses := true, named := ["errors.errorType"], apart := false, laid := [("errors.errorType", laid_errors_errorType)], narrowed := true }
def Base64SpoilsUptoSaid : Prop := base64SpoilsUptoRow.holds Tryd.pinned (OpenSpec.upto base64SpoilsSpec)

end Rows
end Go.Proofs.YtgnnnlblkdfecaaDoor
