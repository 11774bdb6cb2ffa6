/-
  NARROWER THAN 'FOR EVERY INPUT', by the rows' own cells (each row's printed sentence says how): PercentDecodes: laid · PercentInverse: laid · PercentOnce: laid · PercentJoins: laid.
  DERIVED. THE GIVEN ROWS OF THIS SEAT. 4 by the template 'for every input the law returns true; each argument reads behind the call as it read before'; 0 by the template 'total and deterministic' (their statements: YtbccjajnjndlbaaDoorTotals.lean).
  GIVEN WITH THE SEED: the statements are not yours to turn. If you find one false, say at which input.
  Laid BY PROGRAM, IN A SANDBOX (cutbox-rows.mjs): the forced cells as the released guide's own fill.sh prints them over the translation 89061dc436c25d17… (all of the seat's roots in one cut). By AI agents, Wed Nov 11 2026. No macro, syntax, notation, axiom, sorry.
-/
import Derived.Test.YtbccjajnjndlbaaDoorChecked
import GoSem.Claim
import GoSem.ClaimJoined
import GoSem.ClaimMapViews
import Derived.JoinedTies
import Derived.KernelRfl
namespace Go.Proofs.YtbccjajnjndlbaaDoor
/- THE CELL 'sum', in the pinned program and in every row, IS THE sha256 OF THE DUMP (.gsa) THAT YtbccjajnjndlbaaDoorProg.lean LOADS. Nothing in Lean hashes anything: it is a label: what it is worth is what the hold of that sum in a sandbox is worth. -/
noncomputable def Tryd.pinned : Pinned := { name := "ytbccjajnjndlbaadoor", sum := "89061dc436c25d17936cf8e514d6d2158e88df1a8fa69c6cfe220a4f52904c42", checked := Tryd.checked }
namespace Rows
def none {H : Type} : Left H := { results := [], args := [] }

/- WHAT THE LISTED PACKAGE-LEVEL VARIABLES READ AS WHEN THE CALL BEGINS. Each datum BY PROGRAM (the guide's laid-datum.mjs) off the statement by which the dump's own 'gosem.cut.vars' lays the variable. In a bare row this is a premise. The card (YtbccjajnjndlbaaDoorCards.lean) ties it to the program's text. -/
def laid_errors_errorType {H : Type} : DataW H := .iface "internal/reflectlite.rtype" (.agg [.ptr (.lit (.string [101, 114, 114, 111, 114]))])

/-- 'doorkeeperlaw03.PercentDecodes': WHATEVER THE INPUT: true; the input reads as it did. -/
def percentDecodesSpec : ChangeSpec := { name := "percentDecodes", fn := fun _ => fun
  | [d] => { results := [.lit (.bool true)], args := [d] }
  | _ => none }
def percentDecodesRow : OpenClaim := { program := "ytbccjajnjndlbaadoor", sum := "89061dc436c25d17936cf8e514d6d2158e88df1a8fa69c6cfe220a4f52904c42", func := "doorkeeper/doorkeeperlaw03.PercentDecodes", spec := "percentDecodes", inPlace := ["internal/abi.NoEscape", "internal/reflectlite.ValueOf", "(internal/reflectlite.Value).Type", "(internal/reflectlite.Value).IsNil", "internal/reflectlite.TypeOf", "(internal/reflectlite.Value).Elem", "(internal/reflectlite.Value).Set"], unfollowed := true, recurses := true, named := ["errors.errorType"], apart := false, laid := [("errors.errorType", laid_errors_errorType)] }
def PercentDecodesSaid : Prop := percentDecodesRow.holds Tryd.pinned (OpenSpec.ofChange percentDecodesSpec)

/-- ITS FALSE NEIGHBOUR: 'it returns false'. Refute it at one input. -/
def percentDecodesWrong : ChangeSpec := { name := "percentDecodes", fn := fun _ => fun
  | [d] => { results := [.lit (.bool false)], args := [d] }
  | _ => none }
def PercentDecodesWrongFalsely : Prop := percentDecodesRow.holds Tryd.pinned (OpenSpec.ofChange percentDecodesWrong)

/-- 'doorkeeperlaw03.PercentInverse': WHATEVER THE INPUT: true; the input reads as it did. -/
def percentInverseSpec : ChangeSpec := { name := "percentInverse", fn := fun _ => fun
  | [d] => { results := [.lit (.bool true)], args := [d] }
  | _ => none }
def percentInverseRow : OpenClaim := { program := "ytbccjajnjndlbaadoor", sum := "89061dc436c25d17936cf8e514d6d2158e88df1a8fa69c6cfe220a4f52904c42", func := "doorkeeper/doorkeeperlaw03.PercentInverse", spec := "percentInverse", inPlace := ["internal/abi.NoEscape", "internal/reflectlite.ValueOf", "(internal/reflectlite.Value).Type", "(internal/reflectlite.Value).IsNil", "internal/reflectlite.TypeOf", "(internal/reflectlite.Value).Elem", "(internal/reflectlite.Value).Set"], unfollowed := true, recurses := true, named := ["errors.errorType"], apart := false, laid := [("errors.errorType", laid_errors_errorType)] }
def PercentInverseSaid : Prop := percentInverseRow.holds Tryd.pinned (OpenSpec.ofChange percentInverseSpec)

/-- ITS FALSE NEIGHBOUR: 'it returns false'. Refute it at one input. -/
def percentInverseWrong : ChangeSpec := { name := "percentInverse", fn := fun _ => fun
  | [d] => { results := [.lit (.bool false)], args := [d] }
  | _ => none }
def PercentInverseWrongFalsely : Prop := percentInverseRow.holds Tryd.pinned (OpenSpec.ofChange percentInverseWrong)

/-- 'doorkeeperlaw03.PercentOnce': WHATEVER THE INPUT: true; the input reads as it did. -/
def percentOnceSpec : ChangeSpec := { name := "percentOnce", fn := fun _ => fun
  | [d] => { results := [.lit (.bool true)], args := [d] }
  | _ => none }
def percentOnceRow : OpenClaim := { program := "ytbccjajnjndlbaadoor", sum := "89061dc436c25d17936cf8e514d6d2158e88df1a8fa69c6cfe220a4f52904c42", func := "doorkeeper/doorkeeperlaw03.PercentOnce", spec := "percentOnce", inPlace := ["internal/abi.NoEscape", "internal/reflectlite.ValueOf", "(internal/reflectlite.Value).Type", "(internal/reflectlite.Value).IsNil", "internal/reflectlite.TypeOf", "(internal/reflectlite.Value).Elem", "(internal/reflectlite.Value).Set"], unfollowed := true, recurses := true, named := ["errors.errorType"], apart := false, laid := [("errors.errorType", laid_errors_errorType)] }
def PercentOnceSaid : Prop := percentOnceRow.holds Tryd.pinned (OpenSpec.ofChange percentOnceSpec)

/-- ITS FALSE NEIGHBOUR: 'it returns false'. Refute it at one input. -/
def percentOnceWrong : ChangeSpec := { name := "percentOnce", fn := fun _ => fun
  | [d] => { results := [.lit (.bool false)], args := [d] }
  | _ => none }
def PercentOnceWrongFalsely : Prop := percentOnceRow.holds Tryd.pinned (OpenSpec.ofChange percentOnceWrong)

/-- 'doorkeeperlaw03.PercentJoins': WHATEVER THE INPUT: true; the input reads as it did. -/
def percentJoinsSpec : ChangeSpec := { name := "percentJoins", fn := fun _ => fun
  | [d1, d2] => { results := [.lit (.bool true)], args := [d1, d2] }
  | _ => none }
def percentJoinsRow : OpenClaim := { program := "ytbccjajnjndlbaadoor", sum := "89061dc436c25d17936cf8e514d6d2158e88df1a8fa69c6cfe220a4f52904c42", func := "doorkeeper/doorkeeperlaw03.PercentJoins", spec := "percentJoins", inPlace := ["internal/abi.NoEscape", "internal/reflectlite.ValueOf", "(internal/reflectlite.Value).Type", "(internal/reflectlite.Value).IsNil", "internal/reflectlite.TypeOf", "(internal/reflectlite.Value).Elem", "(internal/reflectlite.Value).Set"], unfollowed := true, recurses := true, named := ["errors.errorType"], apart := false, laid := [("errors.errorType", laid_errors_errorType)] }
def PercentJoinsSaid : Prop := percentJoinsRow.holds Tryd.pinned (OpenSpec.ofChange percentJoinsSpec)

/-- ITS FALSE NEIGHBOUR: 'it returns false'. Refute it at one input. -/
def percentJoinsWrong : ChangeSpec := { name := "percentJoins", fn := fun _ => fun
  | [d1, d2] => { results := [.lit (.bool false)], args := [d1, d2] }
  | _ => none }
def PercentJoinsWrongFalsely : Prop := percentJoinsRow.holds Tryd.pinned (OpenSpec.ofChange percentJoinsWrong)

/- THE SECOND FORM. 'bulk': how many values and letters a reading holds, each counted each time it is reached (what is shared counts as often as it is met; a slice's spare places count too). A statement '..UptoSaid' is the law's where the arguments, and the package variables that the reading takes, are together of bulk at most 1048576: NARROWER than '..Said'. Prove '..Said' where nothing that the law and all that it calls make is longer than what came in: it says more and counts as full. Else prove '..UptoSaid'. A law counts once. -/
mutual
def uptoBulk {H : Type} : DataW H → Nat
  | .lit (.string bytes) => bytes.length + 1
  | .lit _ => 1
  | .nil => 1
  | .ptr d => uptoBulk d + 1
  | .slice elems spare => uptoBulkAll elems + uptoBulkAll spare + 1
  | .agg parts => uptoBulkAll parts + 1
  | .iface _ d => uptoBulk d + 1
  | .map entries => uptoBulkEntries entries + 1
  | .held _ => 1
def uptoBulkAll {H : Type} : List (DataW H) → Nat
  | [] => 0
  | d :: r => uptoBulk d + uptoBulkAll r
def uptoBulkEntries {H : Type} : List (Lit × DataW H) → Nat
  | [] => 0
  | x :: r => uptoBulkEntry x + uptoBulkEntries r
def uptoBulkEntry {H : Type} : Lit × DataW H → Nat
  | (.string bytes, d) => bytes.length + uptoBulk d + 1
  | (_, d) => uptoBulk d + 1
 end
def uptoSmall : (H : Type) → List (DataW H) → Bool := fun _ ds => decide (uptoBulkAll ds ≤ 1048576)
def OpenSpec.upto (s : _root_.Go.ChangeSpec) : _root_.Go.OpenSpec := { _root_.Go.OpenSpec.ofChange s with cond := some uptoSmall }

/-- 'doorkeeperlaw03.PercentDecodes', WHERE WHAT IT READS IS OF BULK AT MOST 1048576: true; the input reads as it did. -/
def percentDecodesUptoRow : OpenClaim := { program := "ytbccjajnjndlbaadoor", sum := "89061dc436c25d17936cf8e514d6d2158e88df1a8fa69c6cfe220a4f52904c42", func := "doorkeeper/doorkeeperlaw03.PercentDecodes", spec := "percentDecodes", inPlace := ["internal/abi.NoEscape", "internal/reflectlite.ValueOf", "(internal/reflectlite.Value).Type", "(internal/reflectlite.Value).IsNil", "internal/reflectlite.TypeOf", "(internal/reflectlite.Value).Elem", "(internal/reflectlite.Value).Set"], unfollowed := true, recurses := true, named := ["errors.errorType"], apart := false, laid := [("errors.errorType", laid_errors_errorType)], narrowed := true }
def PercentDecodesUptoSaid : Prop := percentDecodesUptoRow.holds Tryd.pinned (OpenSpec.upto percentDecodesSpec)

/-- 'doorkeeperlaw03.PercentInverse', WHERE WHAT IT READS IS OF BULK AT MOST 1048576: true; the input reads as it did. -/
def percentInverseUptoRow : OpenClaim := { program := "ytbccjajnjndlbaadoor", sum := "89061dc436c25d17936cf8e514d6d2158e88df1a8fa69c6cfe220a4f52904c42", func := "doorkeeper/doorkeeperlaw03.PercentInverse", spec := "percentInverse", inPlace := ["internal/abi.NoEscape", "internal/reflectlite.ValueOf", "(internal/reflectlite.Value).Type", "(internal/reflectlite.Value).IsNil", "internal/reflectlite.TypeOf", "(internal/reflectlite.Value).Elem", "(internal/reflectlite.Value).Set"], unfollowed := true, recurses := true, named := ["errors.errorType"], apart := false, laid := [("errors.errorType", laid_errors_errorType)], narrowed := true }
def PercentInverseUptoSaid : Prop := percentInverseUptoRow.holds Tryd.pinned (OpenSpec.upto percentInverseSpec)

/-- 'doorkeeperlaw03.PercentOnce', WHERE WHAT IT READS IS OF BULK AT MOST 1048576: true; the input reads as it did. -/
def percentOnceUptoRow : OpenClaim := { program := "ytbccjajnjndlbaadoor", sum := "89061dc436c25d17936cf8e514d6d2158e88df1a8fa69c6cfe220a4f52904c42", func := "doorkeeper/doorkeeperlaw03.PercentOnce", spec := "percentOnce", inPlace := ["internal/abi.NoEscape", "internal/reflectlite.ValueOf", "(internal/reflectlite.Value).Type", "(internal/reflectlite.Value).IsNil", "internal/reflectlite.TypeOf", "(internal/reflectlite.Value).Elem", "(internal/reflectlite.Value).Set"], unfollowed := true, recurses := true, named := ["errors.errorType"], apart := false, laid := [("errors.errorType", laid_errors_errorType)], narrowed := true }
def PercentOnceUptoSaid : Prop := percentOnceUptoRow.holds Tryd.pinned (OpenSpec.upto percentOnceSpec)

/-- 'doorkeeperlaw03.PercentJoins', WHERE WHAT IT READS IS OF BULK AT MOST 1048576: true; the input reads as it did. -/
def percentJoinsUptoRow : OpenClaim := { program := "ytbccjajnjndlbaadoor", sum := "89061dc436c25d17936cf8e514d6d2158e88df1a8fa69c6cfe220a4f52904c42", func := "doorkeeper/doorkeeperlaw03.PercentJoins", spec := "percentJoins", inPlace := ["internal/abi.NoEscape", "internal/reflectlite.ValueOf", "(internal/reflectlite.Value).Type", "(internal/reflectlite.Value).IsNil", "internal/reflectlite.TypeOf", "(internal/reflectlite.Value).Elem", "(internal/reflectlite.Value).Set"], unfollowed := true, recurses := true, named := ["errors.errorType"], apart := false, laid := [("errors.errorType", laid_errors_errorType)], narrowed := true }
def PercentJoinsUptoSaid : Prop := percentJoinsUptoRow.holds Tryd.pinned (OpenSpec.upto percentJoinsSpec)

end Rows
end Go.Proofs.YtbccjajnjndlbaaDoor
