/-
  No cell of these rows narrows 'for every input' (looked for: loops, veiled, ifaces, maps, wideKeys, modest, calm, conditions, laid).
  DERIVED. THE GIVEN ROWS OF THIS SEAT. 4 by the template 'for every input the law returns true; each argument reads behind the call as it read before'; 0 by the template 'total and deterministic' (their statements: YtcdbjmahnhhoeaaTotals.lean).
  GIVEN WITH THE SEED: the statements are not yours to turn. If you find one false, say at which input.
  Laid BY PROGRAM, IN A SANDBOX (cutbox-rows.mjs): the forced cells as the released guide's own fill.sh prints them over the translation 60f235f224a67cd1… (all of the seat's roots in one cut). By AI agents, Wed Nov 11 2026. No macro, syntax, notation, axiom, sorry.
-/
import Derived.Test.YtcdbjmahnhhoeaaChecked
import GoSem.Claim
import GoSem.ClaimJoined
import GoSem.ClaimMapViews
import Derived.JoinedTies
import Derived.KernelRfl
namespace Go.Proofs.Ytcdbjmahnhhoeaa
/- THE CELL 'sum', in the pinned program and in every row, IS THE sha256 OF THE DUMP (.gsa) THAT YtcdbjmahnhhoeaaProg.lean LOADS. Nothing in Lean hashes anything: it is a label: what it is worth is what the hold of that sum in a sandbox is worth. -/
noncomputable def Try.pinned : Pinned := { name := "ytcdbjmahnhhoeaa", sum := "60f235f224a67cd1e5bb9529340dd0829152f6cbb2d8844f440dc3cc8edb0fc5", checked := Try.checked }
namespace Rows
def none {H : Type} : Left H := { results := [], args := [] }

/-- 'doorkeeperlaw24.FindMatchesReference': WHATEVER THE INPUT: true; the input reads as it did. -/
def findMatchesReferenceSpec : ChangeSpec := { name := "findMatchesReference", fn := fun _ => fun
  | [d1, d2, d3, d4, d5] => { results := [.lit (.bool true)], args := [d1, d2, d3, d4, d5] }
  | _ => none }
def findMatchesReferenceRow : OpenClaim := { program := "ytcdbjmahnhhoeaa", sum := "60f235f224a67cd1e5bb9529340dd0829152f6cbb2d8844f440dc3cc8edb0fc5", func := "doorkeeper/doorkeeperlaw24.FindMatchesReference", spec := "findMatchesReference", inPlace := ["internal/bytealg.IndexByteString", "internal/bytealg.IndexString"], unfollowed := true, recurses := true, named := ["internal/bytealg.MaxLen"], apart := false }
def FindMatchesReferenceSaid : Prop := findMatchesReferenceRow.holds Try.pinned (OpenSpec.ofChange findMatchesReferenceSpec)

/-- ITS FALSE NEIGHBOUR: 'it returns false'. Refute it at one input. -/
def findMatchesReferenceWrong : ChangeSpec := { name := "findMatchesReference", fn := fun _ => fun
  | [d1, d2, d3, d4, d5] => { results := [.lit (.bool false)], args := [d1, d2, d3, d4, d5] }
  | _ => none }
def FindMatchesReferenceWrongFalsely : Prop := findMatchesReferenceRow.holds Try.pinned (OpenSpec.ofChange findMatchesReferenceWrong)

/-- 'doorkeeperlaw24.FindConfines': WHATEVER THE INPUT: true; the input reads as it did. -/
def findConfinesSpec : ChangeSpec := { name := "findConfines", fn := fun _ => fun
  | [d1, d2, d3, d4] => { results := [.lit (.bool true)], args := [d1, d2, d3, d4] }
  | _ => none }
def findConfinesRow : OpenClaim := { program := "ytcdbjmahnhhoeaa", sum := "60f235f224a67cd1e5bb9529340dd0829152f6cbb2d8844f440dc3cc8edb0fc5", func := "doorkeeper/doorkeeperlaw24.FindConfines", spec := "findConfines", inPlace := ["internal/bytealg.IndexByteString", "internal/bytealg.IndexString"], unfollowed := true, recurses := true, named := ["internal/bytealg.MaxLen"], apart := false }
def FindConfinesSaid : Prop := findConfinesRow.holds Try.pinned (OpenSpec.ofChange findConfinesSpec)

/-- ITS FALSE NEIGHBOUR: 'it returns false'. Refute it at one input. -/
def findConfinesWrong : ChangeSpec := { name := "findConfines", fn := fun _ => fun
  | [d1, d2, d3, d4] => { results := [.lit (.bool false)], args := [d1, d2, d3, d4] }
  | _ => none }
def FindConfinesWrongFalsely : Prop := findConfinesRow.holds Try.pinned (OpenSpec.ofChange findConfinesWrong)

/-- 'doorkeeperlaw24.FindLooks': WHATEVER THE INPUT: true; the input reads as it did. -/
def findLooksSpec : ChangeSpec := { name := "findLooks", fn := fun _ => fun
  | [d1, d2, d3, d4, d5] => { results := [.lit (.bool true)], args := [d1, d2, d3, d4, d5] }
  | _ => none }
def findLooksRow : OpenClaim := { program := "ytcdbjmahnhhoeaa", sum := "60f235f224a67cd1e5bb9529340dd0829152f6cbb2d8844f440dc3cc8edb0fc5", func := "doorkeeper/doorkeeperlaw24.FindLooks", spec := "findLooks", inPlace := ["internal/bytealg.IndexByteString", "internal/bytealg.IndexString"], unfollowed := true, recurses := true, named := ["internal/bytealg.MaxLen"], apart := false }
def FindLooksSaid : Prop := findLooksRow.holds Try.pinned (OpenSpec.ofChange findLooksSpec)

/-- ITS FALSE NEIGHBOUR: 'it returns false'. Refute it at one input. -/
def findLooksWrong : ChangeSpec := { name := "findLooks", fn := fun _ => fun
  | [d1, d2, d3, d4, d5] => { results := [.lit (.bool false)], args := [d1, d2, d3, d4, d5] }
  | _ => none }
def FindLooksWrongFalsely : Prop := findLooksRow.holds Try.pinned (OpenSpec.ofChange findLooksWrong)

/-- 'doorkeeperlaw24.FindFull': WHATEVER THE INPUT: true; the input reads as it did. -/
def findFullSpec : ChangeSpec := { name := "findFull", fn := fun _ => fun
  | [d1, d2] => { results := [.lit (.bool true)], args := [d1, d2] }
  | _ => none }
def findFullRow : OpenClaim := { program := "ytcdbjmahnhhoeaa", sum := "60f235f224a67cd1e5bb9529340dd0829152f6cbb2d8844f440dc3cc8edb0fc5", func := "doorkeeper/doorkeeperlaw24.FindFull", spec := "findFull", inPlace := ["internal/bytealg.IndexByteString", "internal/bytealg.IndexString"], unfollowed := true, recurses := true, named := ["internal/bytealg.MaxLen"], apart := false }
def FindFullSaid : Prop := findFullRow.holds Try.pinned (OpenSpec.ofChange findFullSpec)

/-- ITS FALSE NEIGHBOUR: 'it returns false'. Refute it at one input. -/
def findFullWrong : ChangeSpec := { name := "findFull", fn := fun _ => fun
  | [d1, d2] => { results := [.lit (.bool false)], args := [d1, d2] }
  | _ => none }
def FindFullWrongFalsely : Prop := findFullRow.holds Try.pinned (OpenSpec.ofChange findFullWrong)

/- THE SECOND FORM. 'bulk': how many values and letters a reading holds, each counted each time it is reached (what is shared counts as often as it is met; a slice's spare places count too). A statement '..UptoSaid' is the law's where the arguments, and the package variables that the reading takes, are together of bulk at most 1048576: NARROWER than '..Said'. Prove '..Said' where nothing that the law and all that it calls make is longer than what came in: it says more and counts as full. Else prove '..UptoSaid'. A law counts once. -/
mutual
def uptoBulk {H : Type} : DataW H → Nat
  | .lit (.string bytes) => bytes.length + 1
  | .lit _ => 1
  | .nil => 1
  | .ptr d => uptoBulk d + 1
  | .slice elems spare => uptoBulkAll elems + uptoBulkAll spare + 1
  | .agg parts => uptoBulkAll parts + 1
  | .iface _ d => uptoBulk d + 1
  | .map entries => uptoBulkEntries entries + 1
  | .held _ => 1
def uptoBulkAll {H : Type} : List (DataW H) → Nat
  | [] => 0
  | d :: r => uptoBulk d + uptoBulkAll r
def uptoBulkEntries {H : Type} : List (Lit × DataW H) → Nat
  | [] => 0
  | x :: r => uptoBulkEntry x + uptoBulkEntries r
def uptoBulkEntry {H : Type} : Lit × DataW H → Nat
  | (.string bytes, d) => bytes.length + uptoBulk d + 1
  | (_, d) => uptoBulk d + 1
 end
def uptoSmall : (H : Type) → List (DataW H) → Bool := fun _ ds => decide (uptoBulkAll ds ≤ 1048576)
def OpenSpec.upto (s : _root_.Go.ChangeSpec) : _root_.Go.OpenSpec := { _root_.Go.OpenSpec.ofChange s with cond := some uptoSmall }

/-- 'doorkeeperlaw24.FindMatchesReference', WHERE WHAT IT READS IS OF BULK AT MOST 1048576: true; the input reads as it did. -/
def findMatchesReferenceUptoRow : OpenClaim := { program := "ytcdbjmahnhhoeaa", sum := "60f235f224a67cd1e5bb9529340dd0829152f6cbb2d8844f440dc3cc8edb0fc5", func := "doorkeeper/doorkeeperlaw24.FindMatchesReference", spec := "findMatchesReference", inPlace := ["internal/bytealg.IndexByteString", "internal/bytealg.IndexString"], unfollowed := true, recurses := true, named := ["internal/bytealg.MaxLen"], apart := false, narrowed := true }
def FindMatchesReferenceUptoSaid : Prop := findMatchesReferenceUptoRow.holds Try.pinned (OpenSpec.upto findMatchesReferenceSpec)

/-- 'doorkeeperlaw24.FindConfines', WHERE WHAT IT READS IS OF BULK AT MOST 1048576: true; the input reads as it did. -/
def findConfinesUptoRow : OpenClaim := { program := "ytcdbjmahnhhoeaa", sum := "60f235f224a67cd1e5bb9529340dd0829152f6cbb2d8844f440dc3cc8edb0fc5", func := "doorkeeper/doorkeeperlaw24.FindConfines", spec := "findConfines", inPlace := ["internal/bytealg.IndexByteString", "internal/bytealg.IndexString"], unfollowed := true, recurses := true, named := ["internal/bytealg.MaxLen"], apart := false, narrowed := true }
def FindConfinesUptoSaid : Prop := findConfinesUptoRow.holds Try.pinned (OpenSpec.upto findConfinesSpec)

/-- 'doorkeeperlaw24.FindLooks', WHERE WHAT IT READS IS OF BULK AT MOST 1048576: true; the input reads as it did. -/
def findLooksUptoRow : OpenClaim := { program := "ytcdbjmahnhhoeaa", sum := "60f235f224a67cd1e5bb9529340dd0829152f6cbb2d8844f440dc3cc8edb0fc5", func := "doorkeeper/doorkeeperlaw24.FindLooks", spec := "findLooks", inPlace := ["internal/bytealg.IndexByteString", "internal/bytealg.IndexString"], unfollowed := true, recurses := true, named := ["internal/bytealg.MaxLen"], apart := false, narrowed := true }
def FindLooksUptoSaid : Prop := findLooksUptoRow.holds Try.pinned (OpenSpec.upto findLooksSpec)

/-- 'doorkeeperlaw24.FindFull', WHERE WHAT IT READS IS OF BULK AT MOST 1048576: true; the input reads as it did. -/
def findFullUptoRow : OpenClaim := { program := "ytcdbjmahnhhoeaa", sum := "60f235f224a67cd1e5bb9529340dd0829152f6cbb2d8844f440dc3cc8edb0fc5", func := "doorkeeper/doorkeeperlaw24.FindFull", spec := "findFull", inPlace := ["internal/bytealg.IndexByteString", "internal/bytealg.IndexString"], unfollowed := true, recurses := true, named := ["internal/bytealg.MaxLen"], apart := false, narrowed := true }
def FindFullUptoSaid : Prop := findFullUptoRow.holds Try.pinned (OpenSpec.upto findFullSpec)

end Rows
end Go.Proofs.Ytcdbjmahnhhoeaa
