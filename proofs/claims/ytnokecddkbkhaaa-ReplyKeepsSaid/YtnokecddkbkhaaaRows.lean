/-
  No cell of these rows narrows 'for every input' (looked for: loops, veiled, ifaces, maps, wideKeys, modest, calm, conditions, laid).
  DERIVED. THE GIVEN ROWS OF THIS SEAT. 4 by the template 'for every input the law returns true; each argument reads behind the call as it read before'; 0 by the template 'total and deterministic' (their statements: YtnokecddkbkhaaaTotals.lean).
  GIVEN WITH THE SEED: the statements are not yours to turn. If you find one false, say at which input.
  Laid BY PROGRAM, IN A SANDBOX (cutbox-rows.mjs): the forced cells as the released guide's own fill.sh prints them over the translation 29cbcc7b9aa6c7e7… (all of the seat's roots in one cut). By AI agents, Wed Nov 11 2026. No macro, syntax, notation, axiom, sorry.
-/
import Derived.Test.YtnokecddkbkhaaaChecked
import GoSem.Claim
import GoSem.ClaimJoined
import GoSem.ClaimMapViews
import Derived.JoinedTies
import Derived.KernelRfl
namespace Go.Proofs.Ytnokecddkbkhaaa
/- THE CELL 'sum', in the pinned program and in every row, IS THE sha256 OF THE DUMP (.gsa) THAT YtnokecddkbkhaaaProg.lean LOADS. Nothing in Lean hashes anything: it is a label: what it is worth is what the hold of that sum in a sandbox is worth. -/
noncomputable def Try.pinned : Pinned := { name := "ytnokecddkbkhaaa", sum := "29cbcc7b9aa6c7e70596b11fc5337c2862c4e6dce57cf17b2e98ae99dc5ff09b", checked := Try.checked }
namespace Rows
def none {H : Type} : Left H := { results := [], args := [] }

/-- 'doorkeeperlaw25.ReplyMatchesReference': WHATEVER THE INPUT: true; the input reads as it did. -/
def replyMatchesReferenceSpec : ChangeSpec := { name := "replyMatchesReference", fn := fun _ => fun
  | [d1, d2, d3, d4] => { results := [.lit (.bool true)], args := [d1, d2, d3, d4] }
  | _ => none }
def replyMatchesReferenceRow : OpenClaim := { program := "ytnokecddkbkhaaa", sum := "29cbcc7b9aa6c7e70596b11fc5337c2862c4e6dce57cf17b2e98ae99dc5ff09b", func := "doorkeeper/doorkeeperlaw25.ReplyMatchesReference", spec := "replyMatchesReference", inPlace := ["internal/reflectlite.TypeOf", "internal/abi.NoEscape", "internal/bytealg.MakeNoZero"], unfollowed := true, recurses := true, apart := false }
def ReplyMatchesReferenceSaid : Prop := replyMatchesReferenceRow.holds Try.pinned (OpenSpec.ofChange replyMatchesReferenceSpec)

/-- ITS FALSE NEIGHBOUR: 'it returns false'. Refute it at one input. -/
def replyMatchesReferenceWrong : ChangeSpec := { name := "replyMatchesReference", fn := fun _ => fun
  | [d1, d2, d3, d4] => { results := [.lit (.bool false)], args := [d1, d2, d3, d4] }
  | _ => none }
def ReplyMatchesReferenceWrongFalsely : Prop := replyMatchesReferenceRow.holds Try.pinned (OpenSpec.ofChange replyMatchesReferenceWrong)

/-- 'doorkeeperlaw25.ReplyFinishes': WHATEVER THE INPUT: true; the input reads as it did. -/
def replyFinishesSpec : ChangeSpec := { name := "replyFinishes", fn := fun _ => fun
  | [d1, d2, d3, d4, d5] => { results := [.lit (.bool true)], args := [d1, d2, d3, d4, d5] }
  | _ => none }
def replyFinishesRow : OpenClaim := { program := "ytnokecddkbkhaaa", sum := "29cbcc7b9aa6c7e70596b11fc5337c2862c4e6dce57cf17b2e98ae99dc5ff09b", func := "doorkeeper/doorkeeperlaw25.ReplyFinishes", spec := "replyFinishes", inPlace := ["internal/reflectlite.TypeOf", "internal/abi.NoEscape", "internal/bytealg.MakeNoZero"], unfollowed := true, recurses := true, apart := false }
def ReplyFinishesSaid : Prop := replyFinishesRow.holds Try.pinned (OpenSpec.ofChange replyFinishesSpec)

/-- ITS FALSE NEIGHBOUR: 'it returns false'. Refute it at one input. -/
def replyFinishesWrong : ChangeSpec := { name := "replyFinishes", fn := fun _ => fun
  | [d1, d2, d3, d4, d5] => { results := [.lit (.bool false)], args := [d1, d2, d3, d4, d5] }
  | _ => none }
def ReplyFinishesWrongFalsely : Prop := replyFinishesRow.holds Try.pinned (OpenSpec.ofChange replyFinishesWrong)

/-- 'doorkeeperlaw25.ReplySafe': WHATEVER THE INPUT: true; the input reads as it did. -/
def replySafeSpec : ChangeSpec := { name := "replySafe", fn := fun _ => fun
  | [d1, d2, d3] => { results := [.lit (.bool true)], args := [d1, d2, d3] }
  | _ => none }
def replySafeRow : OpenClaim := { program := "ytnokecddkbkhaaa", sum := "29cbcc7b9aa6c7e70596b11fc5337c2862c4e6dce57cf17b2e98ae99dc5ff09b", func := "doorkeeper/doorkeeperlaw25.ReplySafe", spec := "replySafe", inPlace := ["internal/reflectlite.TypeOf", "internal/abi.NoEscape", "internal/bytealg.MakeNoZero"], unfollowed := true, recurses := true, apart := false }
def ReplySafeSaid : Prop := replySafeRow.holds Try.pinned (OpenSpec.ofChange replySafeSpec)

/-- ITS FALSE NEIGHBOUR: 'it returns false'. Refute it at one input. -/
def replySafeWrong : ChangeSpec := { name := "replySafe", fn := fun _ => fun
  | [d1, d2, d3] => { results := [.lit (.bool false)], args := [d1, d2, d3] }
  | _ => none }
def ReplySafeWrongFalsely : Prop := replySafeRow.holds Try.pinned (OpenSpec.ofChange replySafeWrong)

/-- 'doorkeeperlaw25.ReplyKeeps': WHATEVER THE INPUT: true; the input reads as it did. -/
def replyKeepsSpec : ChangeSpec := { name := "replyKeeps", fn := fun _ => fun
  | [d1, d2] => { results := [.lit (.bool true)], args := [d1, d2] }
  | _ => none }
def replyKeepsRow : OpenClaim := { program := "ytnokecddkbkhaaa", sum := "29cbcc7b9aa6c7e70596b11fc5337c2862c4e6dce57cf17b2e98ae99dc5ff09b", func := "doorkeeper/doorkeeperlaw25.ReplyKeeps", spec := "replyKeeps", inPlace := ["internal/reflectlite.TypeOf", "internal/abi.NoEscape", "internal/bytealg.MakeNoZero"], unfollowed := true, recurses := true, apart := false }
def ReplyKeepsSaid : Prop := replyKeepsRow.holds Try.pinned (OpenSpec.ofChange replyKeepsSpec)

/-- ITS FALSE NEIGHBOUR: 'it returns false'. Refute it at one input. -/
def replyKeepsWrong : ChangeSpec := { name := "replyKeeps", fn := fun _ => fun
  | [d1, d2] => { results := [.lit (.bool false)], args := [d1, d2] }
  | _ => none }
def ReplyKeepsWrongFalsely : Prop := replyKeepsRow.holds Try.pinned (OpenSpec.ofChange replyKeepsWrong)

/- THE SECOND FORM. 'bulk': how many values and letters a reading holds, each counted each time it is reached (what is shared counts as often as it is met; a slice's spare places count too). A statement '..UptoSaid' is the law's where the arguments, and the package variables that the reading takes, are together of bulk at most 1048576: NARROWER than '..Said'. Prove '..Said' where nothing that the law and all that it calls make is longer than what came in: it says more and counts as full. Else prove '..UptoSaid'. A law counts once. -/
mutual
def uptoBulk {H : Type} : DataW H → Nat
  | .lit (.string bytes) => bytes.length + 1
  | .lit _ => 1
  | .nil => 1
  | .ptr d => uptoBulk d + 1
  | .slice elems spare => uptoBulkAll elems + uptoBulkAll spare + 1
  | .agg parts => uptoBulkAll parts + 1
  | .iface _ d => uptoBulk d + 1
  | .map entries => uptoBulkEntries entries + 1
  | .held _ => 1
def uptoBulkAll {H : Type} : List (DataW H) → Nat
  | [] => 0
  | d :: r => uptoBulk d + uptoBulkAll r
def uptoBulkEntries {H : Type} : List (Lit × DataW H) → Nat
  | [] => 0
  | x :: r => uptoBulkEntry x + uptoBulkEntries r
def uptoBulkEntry {H : Type} : Lit × DataW H → Nat
  | (.string bytes, d) => bytes.length + uptoBulk d + 1
  | (_, d) => uptoBulk d + 1
 end
def uptoSmall : (H : Type) → List (DataW H) → Bool := fun _ ds => decide (uptoBulkAll ds ≤ 1048576)
def OpenSpec.upto (s : _root_.Go.ChangeSpec) : _root_.Go.OpenSpec := { _root_.Go.OpenSpec.ofChange s with cond := some uptoSmall }

/-- 'doorkeeperlaw25.ReplyMatchesReference', WHERE WHAT IT READS IS OF BULK AT MOST 1048576: true; the input reads as it did. -/
def replyMatchesReferenceUptoRow : OpenClaim := { program := "ytnokecddkbkhaaa", sum := "29cbcc7b9aa6c7e70596b11fc5337c2862c4e6dce57cf17b2e98ae99dc5ff09b", func := "doorkeeper/doorkeeperlaw25.ReplyMatchesReference", spec := "replyMatchesReference", inPlace := ["internal/reflectlite.TypeOf", "internal/abi.NoEscape", "internal/bytealg.MakeNoZero"], unfollowed := true, recurses := true, apart := false, narrowed := true }
def ReplyMatchesReferenceUptoSaid : Prop := replyMatchesReferenceUptoRow.holds Try.pinned (OpenSpec.upto replyMatchesReferenceSpec)

/-- 'doorkeeperlaw25.ReplyFinishes', WHERE WHAT IT READS IS OF BULK AT MOST 1048576: true; the input reads as it did. -/
def replyFinishesUptoRow : OpenClaim := { program := "ytnokecddkbkhaaa", sum := "29cbcc7b9aa6c7e70596b11fc5337c2862c4e6dce57cf17b2e98ae99dc5ff09b", func := "doorkeeper/doorkeeperlaw25.ReplyFinishes", spec := "replyFinishes", inPlace := ["internal/reflectlite.TypeOf", "internal/abi.NoEscape", "internal/bytealg.MakeNoZero"], unfollowed := true, recurses := true, apart := false, narrowed := true }
def ReplyFinishesUptoSaid : Prop := replyFinishesUptoRow.holds Try.pinned (OpenSpec.upto replyFinishesSpec)

/-- 'doorkeeperlaw25.ReplySafe', WHERE WHAT IT READS IS OF BULK AT MOST 1048576: true; the input reads as it did. -/
def replySafeUptoRow : OpenClaim := { program := "ytnokecddkbkhaaa", sum := "29cbcc7b9aa6c7e70596b11fc5337c2862c4e6dce57cf17b2e98ae99dc5ff09b", func := "doorkeeper/doorkeeperlaw25.ReplySafe", spec := "replySafe", inPlace := ["internal/reflectlite.TypeOf", "internal/abi.NoEscape", "internal/bytealg.MakeNoZero"], unfollowed := true, recurses := true, apart := false, narrowed := true }
def ReplySafeUptoSaid : Prop := replySafeUptoRow.holds Try.pinned (OpenSpec.upto replySafeSpec)

/-- 'doorkeeperlaw25.ReplyKeeps', WHERE WHAT IT READS IS OF BULK AT MOST 1048576: true; the input reads as it did. -/
def replyKeepsUptoRow : OpenClaim := { program := "ytnokecddkbkhaaa", sum := "29cbcc7b9aa6c7e70596b11fc5337c2862c4e6dce57cf17b2e98ae99dc5ff09b", func := "doorkeeper/doorkeeperlaw25.ReplyKeeps", spec := "replyKeeps", inPlace := ["internal/reflectlite.TypeOf", "internal/abi.NoEscape", "internal/bytealg.MakeNoZero"], unfollowed := true, recurses := true, apart := false, narrowed := true }
def ReplyKeepsUptoSaid : Prop := replyKeepsUptoRow.holds Try.pinned (OpenSpec.upto replyKeepsSpec)

end Rows
end Go.Proofs.Ytnokecddkbkhaaa
