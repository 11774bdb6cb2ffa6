/-
  NARROWER THAN 'FOR EVERY INPUT', by the rows' own cells (each row's printed sentence says how): TreeChecks: laid · TreeFinds: laid · TreeKeeps: laid · TreeWalks: laid · TreeOrder: laid.
  DERIVED. THE GIVEN ROWS OF THIS SEAT. 5 by the template 'for every input the law returns true; each argument reads behind the call as it read before'; 0 by the template 'total and deterministic' (their statements: YticinfoljhlnbaaGreatDoorTotals.lean).
  GIVEN WITH THE SEED: the statements are not yours to turn. If you find one false, say at which input.
  Laid BY PROGRAM, IN A SANDBOX (cutbox-rows.mjs): the forced cells as the released guide's own fill.sh prints them over the translation 30f3cb6bfb6aa2c4… (all of the seat's roots in one cut). By AI agents, Wed Nov 11 2026. No macro, syntax, notation, axiom, sorry.
-/
import Derived.Test.YticinfoljhlnbaaGreatDoorChecked
import GoSem.Claim
import GoSem.ClaimJoined
import GoSem.ClaimMapViews
import Derived.JoinedTies
import Derived.KernelRfl
namespace Go.Proofs.YticinfoljhlnbaaGreatDoor
/- THE CELL 'sum', in the pinned program and in every row, IS THE sha256 OF THE DUMP (.gsa) THAT YticinfoljhlnbaaGreatDoorProg.lean LOADS. Nothing in Lean hashes anything: it is a label: what it is worth is what the hold of that sum in a sandbox is worth. -/
noncomputable def Tryz.pinned : Pinned := { name := "yticinfoljhlnbaagreatdoor", sum := "30f3cb6bfb6aa2c4dc0d1361a683e6d56576c1f91f71ac4c2aa8f4bb46a01450", checked := Tryz.checked }
namespace Rows
def none {H : Type} : Left H := { results := [], args := [] }

/- WHAT THE LISTED PACKAGE-LEVEL VARIABLES READ AS WHEN THE CALL BEGINS. Each datum BY PROGRAM (the guide's laid-datum.mjs) off the statement by which the dump's own 'gosem.cut.vars' lays the variable. In a bare row this is a premise. The card (YticinfoljhlnbaaGreatDoorCards.lean) ties it to the program's text. -/
def laid_errors_errorType {H : Type} : DataW H := .iface "internal/reflectlite.rtype" (.agg [.ptr (.lit (.string [101, 114, 114, 111, 114]))])

/-- 'doorkeeperlaw19.TreeChecks': WHATEVER THE INPUT: true; the input reads as it did. -/
def treeChecksSpec : ChangeSpec := { name := "treeChecks", fn := fun _ => fun
  | [d1, d2] => { results := [.lit (.bool true)], args := [d1, d2] }
  | _ => none }
def treeChecksRow : OpenClaim := { program := "yticinfoljhlnbaagreatdoor", sum := "30f3cb6bfb6aa2c4dc0d1361a683e6d56576c1f91f71ac4c2aa8f4bb46a01450", func := "doorkeeper/doorkeeperlaw19.TreeChecks", spec := "treeChecks", inPlace := ["internal/bytealg.IndexByteString", "internal/bytealg.IndexString", "internal/reflectlite.ValueOf", "(internal/reflectlite.Value).Type", "(internal/reflectlite.Value).IsNil", "internal/reflectlite.TypeOf", "(internal/reflectlite.Value).Elem", "(internal/reflectlite.Value).Set"], unfollowed := true, recurses := true, named := ["errors.errorType", "internal/bytealg.MaxLen"], apart := false, laid := [("errors.errorType", laid_errors_errorType)] }
def TreeChecksSaid : Prop := treeChecksRow.holds Tryz.pinned (OpenSpec.ofChange treeChecksSpec)

/-- ITS FALSE NEIGHBOUR: 'it returns false'. Refute it at one input. -/
def treeChecksWrong : ChangeSpec := { name := "treeChecks", fn := fun _ => fun
  | [d1, d2] => { results := [.lit (.bool false)], args := [d1, d2] }
  | _ => none }
def TreeChecksWrongFalsely : Prop := treeChecksRow.holds Tryz.pinned (OpenSpec.ofChange treeChecksWrong)

/-- 'doorkeeperlaw19.TreeFinds': WHATEVER THE INPUT: true; the input reads as it did. -/
def treeFindsSpec : ChangeSpec := { name := "treeFinds", fn := fun _ => fun
  | [d1, d2] => { results := [.lit (.bool true)], args := [d1, d2] }
  | _ => none }
def treeFindsRow : OpenClaim := { program := "yticinfoljhlnbaagreatdoor", sum := "30f3cb6bfb6aa2c4dc0d1361a683e6d56576c1f91f71ac4c2aa8f4bb46a01450", func := "doorkeeper/doorkeeperlaw19.TreeFinds", spec := "treeFinds", inPlace := ["internal/bytealg.IndexByteString", "internal/bytealg.IndexString", "internal/reflectlite.ValueOf", "(internal/reflectlite.Value).Type", "(internal/reflectlite.Value).IsNil", "internal/reflectlite.TypeOf", "(internal/reflectlite.Value).Elem", "(internal/reflectlite.Value).Set"], unfollowed := true, recurses := true, named := ["errors.errorType", "internal/bytealg.MaxLen"], apart := false, laid := [("errors.errorType", laid_errors_errorType)] }
def TreeFindsSaid : Prop := treeFindsRow.holds Tryz.pinned (OpenSpec.ofChange treeFindsSpec)

/-- ITS FALSE NEIGHBOUR: 'it returns false'. Refute it at one input. -/
def treeFindsWrong : ChangeSpec := { name := "treeFinds", fn := fun _ => fun
  | [d1, d2] => { results := [.lit (.bool false)], args := [d1, d2] }
  | _ => none }
def TreeFindsWrongFalsely : Prop := treeFindsRow.holds Tryz.pinned (OpenSpec.ofChange treeFindsWrong)

/-- 'doorkeeperlaw19.TreeKeeps': WHATEVER THE INPUT: true; the input reads as it did. -/
def treeKeepsSpec : ChangeSpec := { name := "treeKeeps", fn := fun _ => fun
  | [d1, d2] => { results := [.lit (.bool true)], args := [d1, d2] }
  | _ => none }
def treeKeepsRow : OpenClaim := { program := "yticinfoljhlnbaagreatdoor", sum := "30f3cb6bfb6aa2c4dc0d1361a683e6d56576c1f91f71ac4c2aa8f4bb46a01450", func := "doorkeeper/doorkeeperlaw19.TreeKeeps", spec := "treeKeeps", inPlace := ["internal/bytealg.IndexByteString", "internal/bytealg.IndexString", "internal/reflectlite.ValueOf", "(internal/reflectlite.Value).Type", "(internal/reflectlite.Value).IsNil", "internal/reflectlite.TypeOf", "(internal/reflectlite.Value).Elem", "(internal/reflectlite.Value).Set"], unfollowed := true, recurses := true, named := ["errors.errorType", "internal/bytealg.MaxLen"], apart := false, laid := [("errors.errorType", laid_errors_errorType)] }
def TreeKeepsSaid : Prop := treeKeepsRow.holds Tryz.pinned (OpenSpec.ofChange treeKeepsSpec)

/-- ITS FALSE NEIGHBOUR: 'it returns false'. Refute it at one input. -/
def treeKeepsWrong : ChangeSpec := { name := "treeKeeps", fn := fun _ => fun
  | [d1, d2] => { results := [.lit (.bool false)], args := [d1, d2] }
  | _ => none }
def TreeKeepsWrongFalsely : Prop := treeKeepsRow.holds Tryz.pinned (OpenSpec.ofChange treeKeepsWrong)

/-- 'doorkeeperlaw19.TreeWalks': WHATEVER THE INPUT: true; the input reads as it did. -/
def treeWalksSpec : ChangeSpec := { name := "treeWalks", fn := fun _ => fun
  | [d1, d2] => { results := [.lit (.bool true)], args := [d1, d2] }
  | _ => none }
def treeWalksRow : OpenClaim := { program := "yticinfoljhlnbaagreatdoor", sum := "30f3cb6bfb6aa2c4dc0d1361a683e6d56576c1f91f71ac4c2aa8f4bb46a01450", func := "doorkeeper/doorkeeperlaw19.TreeWalks", spec := "treeWalks", inPlace := ["internal/bytealg.IndexByteString", "internal/bytealg.IndexString", "internal/reflectlite.ValueOf", "(internal/reflectlite.Value).Type", "(internal/reflectlite.Value).IsNil", "internal/reflectlite.TypeOf", "(internal/reflectlite.Value).Elem", "(internal/reflectlite.Value).Set"], unfollowed := true, recurses := true, named := ["errors.errorType", "internal/bytealg.MaxLen"], apart := false, laid := [("errors.errorType", laid_errors_errorType)] }
def TreeWalksSaid : Prop := treeWalksRow.holds Tryz.pinned (OpenSpec.ofChange treeWalksSpec)

/-- ITS FALSE NEIGHBOUR: 'it returns false'. Refute it at one input. -/
def treeWalksWrong : ChangeSpec := { name := "treeWalks", fn := fun _ => fun
  | [d1, d2] => { results := [.lit (.bool false)], args := [d1, d2] }
  | _ => none }
def TreeWalksWrongFalsely : Prop := treeWalksRow.holds Tryz.pinned (OpenSpec.ofChange treeWalksWrong)

/-- 'doorkeeperlaw19.TreeOrder': WHATEVER THE INPUT: true; the input reads as it did. -/
def treeOrderSpec : ChangeSpec := { name := "treeOrder", fn := fun _ => fun
  | [d1, d2] => { results := [.lit (.bool true)], args := [d1, d2] }
  | _ => none }
def treeOrderRow : OpenClaim := { program := "yticinfoljhlnbaagreatdoor", sum := "30f3cb6bfb6aa2c4dc0d1361a683e6d56576c1f91f71ac4c2aa8f4bb46a01450", func := "doorkeeper/doorkeeperlaw19.TreeOrder", spec := "treeOrder", inPlace := ["internal/bytealg.IndexByteString", "internal/bytealg.IndexString", "internal/reflectlite.ValueOf", "(internal/reflectlite.Value).Type", "(internal/reflectlite.Value).IsNil", "internal/reflectlite.TypeOf", "(internal/reflectlite.Value).Elem", "(internal/reflectlite.Value).Set"], unfollowed := true, recurses := true, named := ["errors.errorType", "internal/bytealg.MaxLen"], apart := false, laid := [("errors.errorType", laid_errors_errorType)] }
def TreeOrderSaid : Prop := treeOrderRow.holds Tryz.pinned (OpenSpec.ofChange treeOrderSpec)

/-- ITS FALSE NEIGHBOUR: 'it returns false'. Refute it at one input. -/
def treeOrderWrong : ChangeSpec := { name := "treeOrder", fn := fun _ => fun
  | [d1, d2] => { results := [.lit (.bool false)], args := [d1, d2] }
  | _ => none }
def TreeOrderWrongFalsely : Prop := treeOrderRow.holds Tryz.pinned (OpenSpec.ofChange treeOrderWrong)

/- THE SECOND FORM. 'bulk': how many values and letters a reading holds, each counted each time it is reached (what is shared counts as often as it is met; a slice's spare places count too). A statement '..UptoSaid' is the law's where the arguments, and the package variables that the reading takes, are together of bulk at most 1048576: NARROWER than '..Said'. Prove '..Said' where nothing that the law and all that it calls make is longer than what came in: it says more and counts as full. Else prove '..UptoSaid'. A law counts once. -/
mutual
def uptoBulk {H : Type} : DataW H → Nat
  | .lit (.string bytes) => bytes.length + 1
  | .lit _ => 1
  | .nil => 1
  | .ptr d => uptoBulk d + 1
  | .slice elems spare => uptoBulkAll elems + uptoBulkAll spare + 1
  | .agg parts => uptoBulkAll parts + 1
  | .iface _ d => uptoBulk d + 1
  | .map entries => uptoBulkEntries entries + 1
  | .held _ => 1
def uptoBulkAll {H : Type} : List (DataW H) → Nat
  | [] => 0
  | d :: r => uptoBulk d + uptoBulkAll r
def uptoBulkEntries {H : Type} : List (Lit × DataW H) → Nat
  | [] => 0
  | x :: r => uptoBulkEntry x + uptoBulkEntries r
def uptoBulkEntry {H : Type} : Lit × DataW H → Nat
  | (.string bytes, d) => bytes.length + uptoBulk d + 1
  | (_, d) => uptoBulk d + 1
 end
def uptoSmall : (H : Type) → List (DataW H) → Bool := fun _ ds => decide (uptoBulkAll ds ≤ 1048576)
def OpenSpec.upto (s : _root_.Go.ChangeSpec) : _root_.Go.OpenSpec := { _root_.Go.OpenSpec.ofChange s with cond := some uptoSmall }

/-- 'doorkeeperlaw19.TreeChecks', WHERE WHAT IT READS IS OF BULK AT MOST 1048576: true; the input reads as it did. -/
def treeChecksUptoRow : OpenClaim := { program := "yticinfoljhlnbaagreatdoor", sum := "30f3cb6bfb6aa2c4dc0d1361a683e6d56576c1f91f71ac4c2aa8f4bb46a01450", func := "doorkeeper/doorkeeperlaw19.TreeChecks", spec := "treeChecks", inPlace := ["internal/bytealg.IndexByteString", "internal/bytealg.IndexString", "internal/reflectlite.ValueOf", "(internal/reflectlite.Value).Type", "(internal/reflectlite.Value).IsNil", "internal/reflectlite.TypeOf", "(internal/reflectlite.Value).Elem", "(internal/reflectlite.Value).Set"], unfollowed := true, recurses := true, named := ["errors.errorType", "internal/bytealg.MaxLen"], apart := false, laid := [("errors.errorType", laid_errors_errorType)], narrowed := true }
def TreeChecksUptoSaid : Prop := treeChecksUptoRow.holds Tryz.pinned (OpenSpec.upto treeChecksSpec)

/-- 'doorkeeperlaw19.TreeFinds', WHERE WHAT IT READS IS OF BULK AT MOST 1048576: true; the input reads as it did. -/
def treeFindsUptoRow : OpenClaim := { program := "yticinfoljhlnbaagreatdoor", sum := "30f3cb6bfb6aa2c4dc0d1361a683e6d56576c1f91f71ac4c2aa8f4bb46a01450", func := "doorkeeper/doorkeeperlaw19.TreeFinds", spec := "treeFinds", inPlace := ["internal/bytealg.IndexByteString", "internal/bytealg.IndexString", "internal/reflectlite.ValueOf", "(internal/reflectlite.Value).Type", "(internal/reflectlite.Value).IsNil", "internal/reflectlite.TypeOf", "(internal/reflectlite.Value).Elem", "(internal/reflectlite.Value).Set"], unfollowed := true, recurses := true, named := ["errors.errorType", "internal/bytealg.MaxLen"], apart := false, laid := [("errors.errorType", laid_errors_errorType)], narrowed := true }
def TreeFindsUptoSaid : Prop := treeFindsUptoRow.holds Tryz.pinned (OpenSpec.upto treeFindsSpec)

/-- 'doorkeeperlaw19.TreeKeeps', WHERE WHAT IT READS IS OF BULK AT MOST 1048576: true; the input reads as it did. -/
def treeKeepsUptoRow : OpenClaim := { program := "yticinfoljhlnbaagreatdoor", sum := "30f3cb6bfb6aa2c4dc0d1361a683e6d56576c1f91f71ac4c2aa8f4bb46a01450", func := "doorkeeper/doorkeeperlaw19.TreeKeeps", spec := "treeKeeps", inPlace := ["internal/bytealg.IndexByteString", "internal/bytealg.IndexString", "internal/reflectlite.ValueOf", "(internal/reflectlite.Value).Type", "(internal/reflectlite.Value).IsNil", "internal/reflectlite.TypeOf", "(internal/reflectlite.Value).Elem", "(internal/reflectlite.Value).Set"], unfollowed := true, recurses := true, named := ["errors.errorType", "internal/bytealg.MaxLen"], apart := false, laid := [("errors.errorType", laid_errors_errorType)], narrowed := true }
def TreeKeepsUptoSaid : Prop := treeKeepsUptoRow.holds Tryz.pinned (OpenSpec.upto treeKeepsSpec)

/-- 'doorkeeperlaw19.TreeWalks', WHERE WHAT IT READS IS OF BULK AT MOST 1048576: true; the input reads as it did. -/
def treeWalksUptoRow : OpenClaim := { program := "yticinfoljhlnbaagreatdoor", sum := "30f3cb6bfb6aa2c4dc0d1361a683e6d56576c1f91f71ac4c2aa8f4bb46a01450", func := "doorkeeper/doorkeeperlaw19.TreeWalks", spec := "treeWalks", inPlace := ["internal/bytealg.IndexByteString", "internal/bytealg.IndexString", "internal/reflectlite.ValueOf", "(internal/reflectlite.Value).Type", "(internal/reflectlite.Value).IsNil", "internal/reflectlite.TypeOf", "(internal/reflectlite.Value).Elem", "(internal/reflectlite.Value).Set"], unfollowed := true, recurses := true, named := ["errors.errorType", "internal/bytealg.MaxLen"], apart := false, laid := [("errors.errorType", laid_errors_errorType)], narrowed := true }
def TreeWalksUptoSaid : Prop := treeWalksUptoRow.holds Tryz.pinned (OpenSpec.upto treeWalksSpec)

/-- 'doorkeeperlaw19.TreeOrder', WHERE WHAT IT READS IS OF BULK AT MOST 1048576: true; the input reads as it did. -/
def treeOrderUptoRow : OpenClaim := { program := "yticinfoljhlnbaagreatdoor", sum := "30f3cb6bfb6aa2c4dc0d1361a683e6d56576c1f91f71ac4c2aa8f4bb46a01450", func := "doorkeeper/doorkeeperlaw19.TreeOrder", spec := "treeOrder", inPlace := ["internal/bytealg.IndexByteString", "internal/bytealg.IndexString", "internal/reflectlite.ValueOf", "(internal/reflectlite.Value).Type", "(internal/reflectlite.Value).IsNil", "internal/reflectlite.TypeOf", "(internal/reflectlite.Value).Elem", "(internal/reflectlite.Value).Set"], unfollowed := true, recurses := true, named := ["errors.errorType", "internal/bytealg.MaxLen"], apart := false, laid := [("errors.errorType", laid_errors_errorType)], narrowed := true }
def TreeOrderUptoSaid : Prop := treeOrderUptoRow.holds Tryz.pinned (OpenSpec.upto treeOrderSpec)

end Rows
end Go.Proofs.YticinfoljhlnbaaGreatDoor
