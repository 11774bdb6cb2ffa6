/-
  NARROWER THAN 'FOR EVERY INPUT', by the rows' own cells (each row's printed sentence says how): DecimalReads: laid · DecimalHex: laid · DecimalInverse: laid · DecimalSums: laid.
  DERIVED. THE GIVEN ROWS OF THIS SEAT. 4 by the template 'for every input the law returns true; each argument reads behind the call as it read before'; 0 by the template 'total and deterministic' (their statements: YthkdgfflgamegaaDoorTotals.lean).
  GIVEN WITH THE SEED: the statements are not yours to turn. If you find one false, say at which input.
  Laid BY PROGRAM, IN A SANDBOX (cutbox-rows.mjs): the forced cells as the released guide's own fill.sh prints them over the translation b491dda52858c51f… (all of the seat's roots in one cut). By AI agents, Wed Nov 11 2026. No macro, syntax, notation, axiom, sorry.
-/
import Derived.Test.YthkdgfflgamegaaDoorChecked
import GoSem.Claim
import GoSem.ClaimJoined
import GoSem.ClaimMapViews
import Derived.JoinedTies
import Derived.KernelRfl
namespace Go.Proofs.YthkdgfflgamegaaDoor
/- THE CELL 'sum', in the pinned program and in every row, IS THE sha256 OF THE DUMP (.gsa) THAT YthkdgfflgamegaaDoorProg.lean LOADS. Nothing in Lean hashes anything: it is a label: what it is worth is what the hold of that sum in a sandbox is worth. -/
noncomputable def Tryd.pinned : Pinned := { name := "ythkdgfflgamegaadoor", sum := "b491dda52858c51f7f11dfb1f5cba78bb8600e55e189ddcf1fd425dd3acfb526", checked := Tryd.checked }
namespace Rows
def none {H : Type} : Left H := { results := [], args := [] }

/- WHAT THE LISTED PACKAGE-LEVEL VARIABLES READ AS WHEN THE CALL BEGINS. Each datum BY PROGRAM (the guide's laid-datum.mjs) off the statement by which the dump's own 'gosem.cut.vars' lays the variable. In a bare row this is a premise. The card (YthkdgfflgamegaaDoorCards.lean) ties it to the program's text. -/
def laid_errors_errorType {H : Type} : DataW H := .iface "internal/reflectlite.rtype" (.agg [.ptr (.lit (.string [101, 114, 114, 111, 114]))])

/-- 'doorkeeperlaw05.DecimalReads': WHATEVER THE INPUT: true; the input reads as it did. -/
def decimalReadsSpec : ChangeSpec := { name := "decimalReads", fn := fun _ => fun
  | [d1, d2] => { results := [.lit (.bool true)], args := [d1, d2] }
  | _ => none }
def decimalReadsRow : OpenClaim := { program := "ythkdgfflgamegaadoor", sum := "b491dda52858c51f7f11dfb1f5cba78bb8600e55e189ddcf1fd425dd3acfb526", func := "doorkeeper/doorkeeperlaw05.DecimalReads", spec := "decimalReads", inPlace := ["internal/reflectlite.ValueOf", "(internal/reflectlite.Value).Type", "(internal/reflectlite.Value).IsNil", "internal/reflectlite.TypeOf", "(internal/reflectlite.Value).Elem", "(internal/reflectlite.Value).Set"], unfollowed := true, recurses := true, named := ["errors.errorType"], apart := false, laid := [("errors.errorType", laid_errors_errorType)] }
def DecimalReadsSaid : Prop := decimalReadsRow.holds Tryd.pinned (OpenSpec.ofChange decimalReadsSpec)

/-- ITS FALSE NEIGHBOUR: 'it returns false'. Refute it at one input. -/
def decimalReadsWrong : ChangeSpec := { name := "decimalReads", fn := fun _ => fun
  | [d1, d2] => { results := [.lit (.bool false)], args := [d1, d2] }
  | _ => none }
def DecimalReadsWrongFalsely : Prop := decimalReadsRow.holds Tryd.pinned (OpenSpec.ofChange decimalReadsWrong)

/-- 'doorkeeperlaw05.DecimalHex': WHATEVER THE INPUT: true; the input reads as it did. -/
def decimalHexSpec : ChangeSpec := { name := "decimalHex", fn := fun _ => fun
  | [d1, d2] => { results := [.lit (.bool true)], args := [d1, d2] }
  | _ => none }
def decimalHexRow : OpenClaim := { program := "ythkdgfflgamegaadoor", sum := "b491dda52858c51f7f11dfb1f5cba78bb8600e55e189ddcf1fd425dd3acfb526", func := "doorkeeper/doorkeeperlaw05.DecimalHex", spec := "decimalHex", inPlace := ["internal/reflectlite.ValueOf", "(internal/reflectlite.Value).Type", "(internal/reflectlite.Value).IsNil", "internal/reflectlite.TypeOf", "(internal/reflectlite.Value).Elem", "(internal/reflectlite.Value).Set"], unfollowed := true, recurses := true, named := ["errors.errorType"], apart := false, laid := [("errors.errorType", laid_errors_errorType)] }
def DecimalHexSaid : Prop := decimalHexRow.holds Tryd.pinned (OpenSpec.ofChange decimalHexSpec)

/-- ITS FALSE NEIGHBOUR: 'it returns false'. Refute it at one input. -/
def decimalHexWrong : ChangeSpec := { name := "decimalHex", fn := fun _ => fun
  | [d1, d2] => { results := [.lit (.bool false)], args := [d1, d2] }
  | _ => none }
def DecimalHexWrongFalsely : Prop := decimalHexRow.holds Tryd.pinned (OpenSpec.ofChange decimalHexWrong)

/-- 'doorkeeperlaw05.DecimalInverse': WHATEVER THE INPUT: true; the input reads as it did. -/
def decimalInverseSpec : ChangeSpec := { name := "decimalInverse", fn := fun _ => fun
  | [d1, d2] => { results := [.lit (.bool true)], args := [d1, d2] }
  | _ => none }
def decimalInverseRow : OpenClaim := { program := "ythkdgfflgamegaadoor", sum := "b491dda52858c51f7f11dfb1f5cba78bb8600e55e189ddcf1fd425dd3acfb526", func := "doorkeeper/doorkeeperlaw05.DecimalInverse", spec := "decimalInverse", inPlace := ["internal/reflectlite.ValueOf", "(internal/reflectlite.Value).Type", "(internal/reflectlite.Value).IsNil", "internal/reflectlite.TypeOf", "(internal/reflectlite.Value).Elem", "(internal/reflectlite.Value).Set"], unfollowed := true, recurses := true, named := ["errors.errorType"], apart := false, laid := [("errors.errorType", laid_errors_errorType)] }
def DecimalInverseSaid : Prop := decimalInverseRow.holds Tryd.pinned (OpenSpec.ofChange decimalInverseSpec)

/-- ITS FALSE NEIGHBOUR: 'it returns false'. Refute it at one input. -/
def decimalInverseWrong : ChangeSpec := { name := "decimalInverse", fn := fun _ => fun
  | [d1, d2] => { results := [.lit (.bool false)], args := [d1, d2] }
  | _ => none }
def DecimalInverseWrongFalsely : Prop := decimalInverseRow.holds Tryd.pinned (OpenSpec.ofChange decimalInverseWrong)

/-- 'doorkeeperlaw05.DecimalSums': WHATEVER THE INPUT: true; the input reads as it did. -/
def decimalSumsSpec : ChangeSpec := { name := "decimalSums", fn := fun _ => fun
  | [d1, d2, d3] => { results := [.lit (.bool true)], args := [d1, d2, d3] }
  | _ => none }
def decimalSumsRow : OpenClaim := { program := "ythkdgfflgamegaadoor", sum := "b491dda52858c51f7f11dfb1f5cba78bb8600e55e189ddcf1fd425dd3acfb526", func := "doorkeeper/doorkeeperlaw05.DecimalSums", spec := "decimalSums", inPlace := ["internal/reflectlite.ValueOf", "(internal/reflectlite.Value).Type", "(internal/reflectlite.Value).IsNil", "internal/reflectlite.TypeOf", "(internal/reflectlite.Value).Elem", "(internal/reflectlite.Value).Set"], unfollowed := true, recurses := true, named := ["errors.errorType"], apart := false, laid := [("errors.errorType", laid_errors_errorType)] }
def DecimalSumsSaid : Prop := decimalSumsRow.holds Tryd.pinned (OpenSpec.ofChange decimalSumsSpec)

/-- ITS FALSE NEIGHBOUR: 'it returns false'. Refute it at one input. -/
def decimalSumsWrong : ChangeSpec := { name := "decimalSums", fn := fun _ => fun
  | [d1, d2, d3] => { results := [.lit (.bool false)], args := [d1, d2, d3] }
  | _ => none }
def DecimalSumsWrongFalsely : Prop := decimalSumsRow.holds Tryd.pinned (OpenSpec.ofChange decimalSumsWrong)

/- THE SECOND FORM. 'bulk': how many values and letters a reading holds, each counted each time it is reached (what is shared counts as often as it is met; a slice's spare places count too). A statement '..UptoSaid' is the law's where the arguments, and the package variables that the reading takes, are together of bulk at most 1048576: NARROWER than '..Said'. Prove '..Said' where nothing that the law and all that it calls make is longer than what came in: it says more and counts as full. Else prove '..UptoSaid'. A law counts once. -/
mutual
def uptoBulk {H : Type} : DataW H → Nat
  | .lit (.string bytes) => bytes.length + 1
  | .lit _ => 1
  | .nil => 1
  | .ptr d => uptoBulk d + 1
  | .slice elems spare => uptoBulkAll elems + uptoBulkAll spare + 1
  | .agg parts => uptoBulkAll parts + 1
  | .iface _ d => uptoBulk d + 1
  | .map entries => uptoBulkEntries entries + 1
  | .held _ => 1
def uptoBulkAll {H : Type} : List (DataW H) → Nat
  | [] => 0
  | d :: r => uptoBulk d + uptoBulkAll r
def uptoBulkEntries {H : Type} : List (Lit × DataW H) → Nat
  | [] => 0
  | x :: r => uptoBulkEntry x + uptoBulkEntries r
def uptoBulkEntry {H : Type} : Lit × DataW H → Nat
  | (.string bytes, d) => bytes.length + uptoBulk d + 1
  | (_, d) => uptoBulk d + 1
 end
def uptoSmall : (H : Type) → List (DataW H) → Bool := fun _ ds => decide (uptoBulkAll ds ≤ 1048576)
def OpenSpec.upto (s : _root_.Go.ChangeSpec) : _root_.Go.OpenSpec := { _root_.Go.OpenSpec.ofChange s with cond := some uptoSmall }

/-- 'doorkeeperlaw05.DecimalReads', WHERE WHAT IT READS IS OF BULK AT MOST 1048576: true; the input reads as it did. -/
def decimalReadsUptoRow : OpenClaim := { program := "ythkdgfflgamegaadoor", sum := "b491dda52858c51f7f11dfb1f5cba78bb8600e55e189ddcf1fd425dd3acfb526", func := "doorkeeper/doorkeeperlaw05.DecimalReads", spec := "decimalReads", inPlace := ["internal/reflectlite.ValueOf", "(internal/reflectlite.Value).Type", "(internal/reflectlite.Value).IsNil", "internal/reflectlite.TypeOf", "(internal/reflectlite.Value).Elem", "(internal/reflectlite.Value).Set"], unfollowed := true, recurses := true, named := ["errors.errorType"], apart := false, laid := [("errors.errorType", laid_errors_errorType)], narrowed := true }
def DecimalReadsUptoSaid : Prop := decimalReadsUptoRow.holds Tryd.pinned (OpenSpec.upto decimalReadsSpec)

/-- 'doorkeeperlaw05.DecimalHex', WHERE WHAT IT READS IS OF BULK AT MOST 1048576: true; the input reads as it did. -/
def decimalHexUptoRow : OpenClaim := { program := "ythkdgfflgamegaadoor", sum := "b491dda52858c51f7f11dfb1f5cba78bb8600e55e189ddcf1fd425dd3acfb526", func := "doorkeeper/doorkeeperlaw05.DecimalHex", spec := "decimalHex", inPlace := ["internal/reflectlite.ValueOf", "(internal/reflectlite.Value).Type", "(internal/reflectlite.Value).IsNil", "internal/reflectlite.TypeOf", "(internal/reflectlite.Value).Elem", "(internal/reflectlite.Value).Set"], unfollowed := true, recurses := true, named := ["errors.errorType"], apart := false, laid := [("errors.errorType", laid_errors_errorType)], narrowed := true }
def DecimalHexUptoSaid : Prop := decimalHexUptoRow.holds Tryd.pinned (OpenSpec.upto decimalHexSpec)

/-- 'doorkeeperlaw05.DecimalInverse', WHERE WHAT IT READS IS OF BULK AT MOST 1048576: true; the input reads as it did. -/
def decimalInverseUptoRow : OpenClaim := { program := "ythkdgfflgamegaadoor", sum := "b491dda52858c51f7f11dfb1f5cba78bb8600e55e189ddcf1fd425dd3acfb526", func := "doorkeeper/doorkeeperlaw05.DecimalInverse", spec := "decimalInverse", inPlace := ["internal/reflectlite.ValueOf", "(internal/reflectlite.Value).Type", "(internal/reflectlite.Value).IsNil", "internal/reflectlite.TypeOf", "(internal/reflectlite.Value).Elem", "(internal/reflectlite.Value).Set"], unfollowed := true, recurses := true, named := ["errors.errorType"], apart := false, laid := [("errors.errorType", laid_errors_errorType)], narrowed := true }
def DecimalInverseUptoSaid : Prop := decimalInverseUptoRow.holds Tryd.pinned (OpenSpec.upto decimalInverseSpec)

/-- 'doorkeeperlaw05.DecimalSums', WHERE WHAT IT READS IS OF BULK AT MOST 1048576: true; the input reads as it did. -/
def decimalSumsUptoRow : OpenClaim := { program := "ythkdgfflgamegaadoor", sum := "b491dda52858c51f7f11dfb1f5cba78bb8600e55e189ddcf1fd425dd3acfb526", func := "doorkeeper/doorkeeperlaw05.DecimalSums", spec := "decimalSums", inPlace := ["internal/reflectlite.ValueOf", "(internal/reflectlite.Value).Type", "(internal/reflectlite.Value).IsNil", "internal/reflectlite.TypeOf", "(internal/reflectlite.Value).Elem", "(internal/reflectlite.Value).Set"], unfollowed := true, recurses := true, named := ["errors.errorType"], apart := false, laid := [("errors.errorType", laid_errors_errorType)], narrowed := true }
def DecimalSumsUptoSaid : Prop := decimalSumsUptoRow.holds Tryd.pinned (OpenSpec.upto decimalSumsSpec)

end Rows
end Go.Proofs.YthkdgfflgamegaaDoor
