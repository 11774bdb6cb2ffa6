/-
  No cell of these rows narrows 'for every input' (looked for: loops, veiled, ifaces, maps, wideKeys, modest, calm, conditions, laid).
  DERIVED. THE GIVEN ROWS OF THIS SEAT. 4 by the template 'for every input the law returns true; each argument reads behind the call as it read before'; 0 by the template 'total and deterministic' (their statements: YtpeefiakmidkcaaTotals.lean).
  GIVEN WITH THE SEED: the statements are not yours to turn. If you find one false, say at which input.
  Laid BY PROGRAM, IN A SANDBOX (cutbox-rows.mjs): the forced cells as the released guide's own fill.sh prints them over the translation 60d8df2c203cde26… (all of the seat's roots in one cut). By AI agents, Wed Nov 11 2026. No macro, syntax, notation, axiom, sorry.
-/
import Derived.Test.YtpeefiakmidkcaaChecked
import GoSem.Claim
import GoSem.ClaimJoined
import GoSem.ClaimMapViews
import Derived.JoinedTies
import Derived.KernelRfl
namespace Go.Proofs.Ytpeefiakmidkcaa
/- THE CELL 'sum', in the pinned program and in every row, IS THE sha256 OF THE DUMP (.gsa) THAT YtpeefiakmidkcaaProg.lean LOADS. Nothing in Lean hashes anything: it is a label: what it is worth is what the hold of that sum in a sandbox is worth. -/
noncomputable def Try.pinned : Pinned := { name := "ytpeefiakmidkcaa", sum := "60d8df2c203cde26d13f6c94ffcfbb43805515b183a885860f5b755fea9d7a53", checked := Try.checked }
namespace Rows
def none {H : Type} : Left H := { results := [], args := [] }

/-- 'doorkeeperlaw06.EqualWalks': WHATEVER THE INPUT: true; the input reads as it did. -/
def equalWalksSpec : ChangeSpec := { name := "equalWalks", fn := fun _ => fun
  | [d1, d2] => { results := [.lit (.bool true)], args := [d1, d2] }
  | _ => none }
def equalWalksRow : OpenClaim := { program := "ytpeefiakmidkcaa", sum := "60d8df2c203cde26d13f6c94ffcfbb43805515b183a885860f5b755fea9d7a53", func := "doorkeeper/doorkeeperlaw06.EqualWalks", spec := "equalWalks", unfollowed := true, recurses := true, apart := false }
def EqualWalksSaid : Prop := equalWalksRow.holds Try.pinned (OpenSpec.ofChange equalWalksSpec)

/-- ITS FALSE NEIGHBOUR: 'it returns false'. Refute it at one input. -/
def equalWalksWrong : ChangeSpec := { name := "equalWalks", fn := fun _ => fun
  | [d1, d2] => { results := [.lit (.bool false)], args := [d1, d2] }
  | _ => none }
def EqualWalksWrongFalsely : Prop := equalWalksRow.holds Try.pinned (OpenSpec.ofChange equalWalksWrong)

/-- 'doorkeeperlaw06.EqualSteps': WHATEVER THE INPUT: true; the input reads as it did. -/
def equalStepsSpec : ChangeSpec := { name := "equalSteps", fn := fun _ => fun
  | [d1, d2] => { results := [.lit (.bool true)], args := [d1, d2] }
  | _ => none }
def equalStepsRow : OpenClaim := { program := "ytpeefiakmidkcaa", sum := "60d8df2c203cde26d13f6c94ffcfbb43805515b183a885860f5b755fea9d7a53", func := "doorkeeper/doorkeeperlaw06.EqualSteps", spec := "equalSteps", unfollowed := true, recurses := true, apart := false }
def EqualStepsSaid : Prop := equalStepsRow.holds Try.pinned (OpenSpec.ofChange equalStepsSpec)

/-- ITS FALSE NEIGHBOUR: 'it returns false'. Refute it at one input. -/
def equalStepsWrong : ChangeSpec := { name := "equalSteps", fn := fun _ => fun
  | [d1, d2] => { results := [.lit (.bool false)], args := [d1, d2] }
  | _ => none }
def EqualStepsWrongFalsely : Prop := equalStepsRow.holds Try.pinned (OpenSpec.ofChange equalStepsWrong)

/-- 'doorkeeperlaw06.EqualOne': WHATEVER THE INPUT: true; the input reads as it did. -/
def equalOneSpec : ChangeSpec := { name := "equalOne", fn := fun _ => fun
  | [d1, d2] => { results := [.lit (.bool true)], args := [d1, d2] }
  | _ => none }
def equalOneRow : OpenClaim := { program := "ytpeefiakmidkcaa", sum := "60d8df2c203cde26d13f6c94ffcfbb43805515b183a885860f5b755fea9d7a53", func := "doorkeeper/doorkeeperlaw06.EqualOne", spec := "equalOne", unfollowed := true, recurses := true, apart := false }
def EqualOneSaid : Prop := equalOneRow.holds Try.pinned (OpenSpec.ofChange equalOneSpec)

/-- ITS FALSE NEIGHBOUR: 'it returns false'. Refute it at one input. -/
def equalOneWrong : ChangeSpec := { name := "equalOne", fn := fun _ => fun
  | [d1, d2] => { results := [.lit (.bool false)], args := [d1, d2] }
  | _ => none }
def EqualOneWrongFalsely : Prop := equalOneRow.holds Try.pinned (OpenSpec.ofChange equalOneWrong)

/-- 'doorkeeperlaw06.EqualPrefix': WHATEVER THE INPUT: true; the input reads as it did. -/
def equalPrefixSpec : ChangeSpec := { name := "equalPrefix", fn := fun _ => fun
  | [d1, d2] => { results := [.lit (.bool true)], args := [d1, d2] }
  | _ => none }
def equalPrefixRow : OpenClaim := { program := "ytpeefiakmidkcaa", sum := "60d8df2c203cde26d13f6c94ffcfbb43805515b183a885860f5b755fea9d7a53", func := "doorkeeper/doorkeeperlaw06.EqualPrefix", spec := "equalPrefix", unfollowed := true, recurses := true, apart := false }
def EqualPrefixSaid : Prop := equalPrefixRow.holds Try.pinned (OpenSpec.ofChange equalPrefixSpec)

/-- ITS FALSE NEIGHBOUR: 'it returns false'. Refute it at one input. -/
def equalPrefixWrong : ChangeSpec := { name := "equalPrefix", fn := fun _ => fun
  | [d1, d2] => { results := [.lit (.bool false)], args := [d1, d2] }
  | _ => none }
def EqualPrefixWrongFalsely : Prop := equalPrefixRow.holds Try.pinned (OpenSpec.ofChange equalPrefixWrong)

/- THE SECOND FORM. 'bulk': how many values and letters a reading holds, each counted each time it is reached (what is shared counts as often as it is met; a slice's spare places count too). A statement '..UptoSaid' is the law's where the arguments, and the package variables that the reading takes, are together of bulk at most 1048576: NARROWER than '..Said'. Prove '..Said' where nothing that the law and all that it calls make is longer than what came in: it says more and counts as full. Else prove '..UptoSaid'. A law counts once. -/
mutual
def uptoBulk {H : Type} : DataW H → Nat
  | .lit (.string bytes) => bytes.length + 1
  | .lit _ => 1
  | .nil => 1
  | .ptr d => uptoBulk d + 1
  | .slice elems spare => uptoBulkAll elems + uptoBulkAll spare + 1
  | .agg parts => uptoBulkAll parts + 1
  | .iface _ d => uptoBulk d + 1
  | .map entries => uptoBulkEntries entries + 1
  | .held _ => 1
def uptoBulkAll {H : Type} : List (DataW H) → Nat
  | [] => 0
  | d :: r => uptoBulk d + uptoBulkAll r
def uptoBulkEntries {H : Type} : List (Lit × DataW H) → Nat
  | [] => 0
  | x :: r => uptoBulkEntry x + uptoBulkEntries r
def uptoBulkEntry {H : Type} : Lit × DataW H → Nat
  | (.string bytes, d) => bytes.length + uptoBulk d + 1
  | (_, d) => uptoBulk d + 1
 end
def uptoSmall : (H : Type) → List (DataW H) → Bool := fun _ ds => decide (uptoBulkAll ds ≤ 1048576)
def OpenSpec.upto (s : _root_.Go.ChangeSpec) : _root_.Go.OpenSpec := { _root_.Go.OpenSpec.ofChange s with cond := some uptoSmall }

/-- 'doorkeeperlaw06.EqualWalks', WHERE WHAT IT READS IS OF BULK AT MOST 1048576: true; the input reads as it did. -/
def equalWalksUptoRow : OpenClaim := { program := "ytpeefiakmidkcaa", sum := "60d8df2c203cde26d13f6c94ffcfbb43805515b183a885860f5b755fea9d7a53", func := "doorkeeper/doorkeeperlaw06.EqualWalks", spec := "equalWalks", unfollowed := true, recurses := true, apart := false, narrowed := true }
def EqualWalksUptoSaid : Prop := equalWalksUptoRow.holds Try.pinned (OpenSpec.upto equalWalksSpec)

/-- 'doorkeeperlaw06.EqualSteps', WHERE WHAT IT READS IS OF BULK AT MOST 1048576: true; the input reads as it did. -/
def equalStepsUptoRow : OpenClaim := { program := "ytpeefiakmidkcaa", sum := "60d8df2c203cde26d13f6c94ffcfbb43805515b183a885860f5b755fea9d7a53", func := "doorkeeper/doorkeeperlaw06.EqualSteps", spec := "equalSteps", unfollowed := true, recurses := true, apart := false, narrowed := true }
def EqualStepsUptoSaid : Prop := equalStepsUptoRow.holds Try.pinned (OpenSpec.upto equalStepsSpec)

/-- 'doorkeeperlaw06.EqualOne', WHERE WHAT IT READS IS OF BULK AT MOST 1048576: true; the input reads as it did. -/
def equalOneUptoRow : OpenClaim := { program := "ytpeefiakmidkcaa", sum := "60d8df2c203cde26d13f6c94ffcfbb43805515b183a885860f5b755fea9d7a53", func := "doorkeeper/doorkeeperlaw06.EqualOne", spec := "equalOne", unfollowed := true, recurses := true, apart := false, narrowed := true }
def EqualOneUptoSaid : Prop := equalOneUptoRow.holds Try.pinned (OpenSpec.upto equalOneSpec)

/-- 'doorkeeperlaw06.EqualPrefix', WHERE WHAT IT READS IS OF BULK AT MOST 1048576: true; the input reads as it did. -/
def equalPrefixUptoRow : OpenClaim := { program := "ytpeefiakmidkcaa", sum := "60d8df2c203cde26d13f6c94ffcfbb43805515b183a885860f5b755fea9d7a53", func := "doorkeeper/doorkeeperlaw06.EqualPrefix", spec := "equalPrefix", unfollowed := true, recurses := true, apart := false, narrowed := true }
def EqualPrefixUptoSaid : Prop := equalPrefixUptoRow.holds Try.pinned (OpenSpec.upto equalPrefixSpec)

end Rows
end Go.Proofs.Ytpeefiakmidkcaa
