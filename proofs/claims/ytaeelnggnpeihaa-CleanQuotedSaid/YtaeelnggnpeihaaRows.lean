/-
  No cell of these rows narrows 'for every input' (looked for: loops, veiled, ifaces, maps, wideKeys, modest, calm, conditions, laid).
  DERIVED. THE GIVEN ROWS OF THIS SEAT. 5 by the template 'for every input the law returns true; each argument reads behind the call as it read before'; 0 by the template 'total and deterministic' (their statements: YtaeelnggnpeihaaTotals.lean).
  GIVEN WITH THE SEED: the statements are not yours to turn. If you find one false, say at which input.
  Laid BY PROGRAM, IN A SANDBOX (cutbox-rows.mjs): the forced cells as the released guide's own fill.sh prints them over the translation 285fe16b7fc199aa… (all of the seat's roots in one cut). By AI agents, Wed Nov 11 2026. No macro, syntax, notation, axiom, sorry.
-/
import Derived.Test.YtaeelnggnpeihaaChecked
import GoSem.Claim
import GoSem.ClaimJoined
import GoSem.ClaimMapViews
import Derived.JoinedTies
import Derived.KernelRfl
namespace Go.Proofs.Ytaeelnggnpeihaa
/- THE CELL 'sum', in the pinned program and in every row, IS THE sha256 OF THE DUMP (.gsa) THAT YtaeelnggnpeihaaProg.lean LOADS. Nothing in Lean hashes anything: it is a label: what it is worth is what the hold of that sum in a sandbox is worth. -/
noncomputable def Try.pinned : Pinned := { name := "ytaeelnggnpeihaa", sum := "285fe16b7fc199aa6bcc6b281f7daaaf6e972370bcdfd86dcf01b58a94e816cc", checked := Try.checked }
namespace Rows
def none {H : Type} : Left H := { results := [], args := [] }

/-- 'doorkeeperlaw07.CleanSafe': WHATEVER THE INPUT: true; the input reads as it did. -/
def cleanSafeSpec : ChangeSpec := { name := "cleanSafe", fn := fun _ => fun
  | [d] => { results := [.lit (.bool true)], args := [d] }
  | _ => none }
def cleanSafeRow : OpenClaim := { program := "ytaeelnggnpeihaa", sum := "285fe16b7fc199aa6bcc6b281f7daaaf6e972370bcdfd86dcf01b58a94e816cc", func := "doorkeeper/doorkeeperlaw07.CleanSafe", spec := "cleanSafe", inPlace := ["internal/bytealg.IndexByteString", "internal/bytealg.IndexString"], unfollowed := true, recurses := true, named := ["internal/bytealg.MaxLen"], apart := false }
def CleanSafeSaid : Prop := cleanSafeRow.holds Try.pinned (OpenSpec.ofChange cleanSafeSpec)

/-- ITS FALSE NEIGHBOUR: 'it returns false'. Refute it at one input. -/
def cleanSafeWrong : ChangeSpec := { name := "cleanSafe", fn := fun _ => fun
  | [d] => { results := [.lit (.bool false)], args := [d] }
  | _ => none }
def CleanSafeWrongFalsely : Prop := cleanSafeRow.holds Try.pinned (OpenSpec.ofChange cleanSafeWrong)

/-- 'doorkeeperlaw07.CleanQuotes': WHATEVER THE INPUT: true; the input reads as it did. -/
def cleanQuotesSpec : ChangeSpec := { name := "cleanQuotes", fn := fun _ => fun
  | [d] => { results := [.lit (.bool true)], args := [d] }
  | _ => none }
def cleanQuotesRow : OpenClaim := { program := "ytaeelnggnpeihaa", sum := "285fe16b7fc199aa6bcc6b281f7daaaf6e972370bcdfd86dcf01b58a94e816cc", func := "doorkeeper/doorkeeperlaw07.CleanQuotes", spec := "cleanQuotes", inPlace := ["internal/bytealg.IndexByteString", "internal/bytealg.IndexString"], unfollowed := true, recurses := true, named := ["internal/bytealg.MaxLen"], apart := false }
def CleanQuotesSaid : Prop := cleanQuotesRow.holds Try.pinned (OpenSpec.ofChange cleanQuotesSpec)

/-- ITS FALSE NEIGHBOUR: 'it returns false'. Refute it at one input. -/
def cleanQuotesWrong : ChangeSpec := { name := "cleanQuotes", fn := fun _ => fun
  | [d] => { results := [.lit (.bool false)], args := [d] }
  | _ => none }
def CleanQuotesWrongFalsely : Prop := cleanQuotesRow.holds Try.pinned (OpenSpec.ofChange cleanQuotesWrong)

/-- 'doorkeeperlaw07.CleanUnquotes': WHATEVER THE INPUT: true; the input reads as it did. -/
def cleanUnquotesSpec : ChangeSpec := { name := "cleanUnquotes", fn := fun _ => fun
  | [d] => { results := [.lit (.bool true)], args := [d] }
  | _ => none }
def cleanUnquotesRow : OpenClaim := { program := "ytaeelnggnpeihaa", sum := "285fe16b7fc199aa6bcc6b281f7daaaf6e972370bcdfd86dcf01b58a94e816cc", func := "doorkeeper/doorkeeperlaw07.CleanUnquotes", spec := "cleanUnquotes", inPlace := ["internal/bytealg.IndexByteString", "internal/bytealg.IndexString"], unfollowed := true, recurses := true, named := ["internal/bytealg.MaxLen"], apart := false }
def CleanUnquotesSaid : Prop := cleanUnquotesRow.holds Try.pinned (OpenSpec.ofChange cleanUnquotesSpec)

/-- ITS FALSE NEIGHBOUR: 'it returns false'. Refute it at one input. -/
def cleanUnquotesWrong : ChangeSpec := { name := "cleanUnquotes", fn := fun _ => fun
  | [d] => { results := [.lit (.bool false)], args := [d] }
  | _ => none }
def CleanUnquotesWrongFalsely : Prop := cleanUnquotesRow.holds Try.pinned (OpenSpec.ofChange cleanUnquotesWrong)

/-- 'doorkeeperlaw07.CleanJoins': WHATEVER THE INPUT: true; the input reads as it did. -/
def cleanJoinsSpec : ChangeSpec := { name := "cleanJoins", fn := fun _ => fun
  | [d1, d2] => { results := [.lit (.bool true)], args := [d1, d2] }
  | _ => none }
def cleanJoinsRow : OpenClaim := { program := "ytaeelnggnpeihaa", sum := "285fe16b7fc199aa6bcc6b281f7daaaf6e972370bcdfd86dcf01b58a94e816cc", func := "doorkeeper/doorkeeperlaw07.CleanJoins", spec := "cleanJoins", inPlace := ["internal/bytealg.IndexByteString", "internal/bytealg.IndexString"], unfollowed := true, recurses := true, named := ["internal/bytealg.MaxLen"], apart := false }
def CleanJoinsSaid : Prop := cleanJoinsRow.holds Try.pinned (OpenSpec.ofChange cleanJoinsSpec)

/-- ITS FALSE NEIGHBOUR: 'it returns false'. Refute it at one input. -/
def cleanJoinsWrong : ChangeSpec := { name := "cleanJoins", fn := fun _ => fun
  | [d1, d2] => { results := [.lit (.bool false)], args := [d1, d2] }
  | _ => none }
def CleanJoinsWrongFalsely : Prop := cleanJoinsRow.holds Try.pinned (OpenSpec.ofChange cleanJoinsWrong)

/-- 'doorkeeperlaw07.CleanQuoted': WHATEVER THE INPUT: true; the input reads as it did. -/
def cleanQuotedSpec : ChangeSpec := { name := "cleanQuoted", fn := fun _ => fun
  | [d] => { results := [.lit (.bool true)], args := [d] }
  | _ => none }
def cleanQuotedRow : OpenClaim := { program := "ytaeelnggnpeihaa", sum := "285fe16b7fc199aa6bcc6b281f7daaaf6e972370bcdfd86dcf01b58a94e816cc", func := "doorkeeper/doorkeeperlaw07.CleanQuoted", spec := "cleanQuoted", inPlace := ["internal/bytealg.IndexByteString", "internal/bytealg.IndexString"], unfollowed := true, recurses := true, named := ["internal/bytealg.MaxLen"], apart := false }
def CleanQuotedSaid : Prop := cleanQuotedRow.holds Try.pinned (OpenSpec.ofChange cleanQuotedSpec)

/-- ITS FALSE NEIGHBOUR: 'it returns false'. Refute it at one input. -/
def cleanQuotedWrong : ChangeSpec := { name := "cleanQuoted", fn := fun _ => fun
  | [d] => { results := [.lit (.bool false)], args := [d] }
  | _ => none }
def CleanQuotedWrongFalsely : Prop := cleanQuotedRow.holds Try.pinned (OpenSpec.ofChange cleanQuotedWrong)

/- THE SECOND FORM. 'bulk': how many values and letters a reading holds, each counted each time it is reached (what is shared counts as often as it is met; a slice's spare places count too). A statement '..UptoSaid' is the law's where the arguments, and the package variables that the reading takes, are together of bulk at most 1048576: NARROWER than '..Said'. Prove '..Said' where nothing that the law and all that it calls make is longer than what came in: it says more and counts as full. Else prove '..UptoSaid'. A law counts once. -/
mutual
def uptoBulk {H : Type} : DataW H → Nat
  | .lit (.string bytes) => bytes.length + 1
  | .lit _ => 1
  | .nil => 1
  | .ptr d => uptoBulk d + 1
  | .slice elems spare => uptoBulkAll elems + uptoBulkAll spare + 1
  | .agg parts => uptoBulkAll parts + 1
  | .iface _ d => uptoBulk d + 1
  | .map entries => uptoBulkEntries entries + 1
  | .held _ => 1
def uptoBulkAll {H : Type} : List (DataW H) → Nat
  | [] => 0
  | d :: r => uptoBulk d + uptoBulkAll r
def uptoBulkEntries {H : Type} : List (Lit × DataW H) → Nat
  | [] => 0
  | x :: r => uptoBulkEntry x + uptoBulkEntries r
def uptoBulkEntry {H : Type} : Lit × DataW H → Nat
  | (.string bytes, d) => bytes.length + uptoBulk d + 1
  | (_, d) => uptoBulk d + 1
 end
def uptoSmall : (H : Type) → List (DataW H) → Bool := fun _ ds => decide (uptoBulkAll ds ≤ 1048576)
def OpenSpec.upto (s : _root_.Go.ChangeSpec) : _root_.Go.OpenSpec := { _root_.Go.OpenSpec.ofChange s with cond := some uptoSmall }

/-- 'doorkeeperlaw07.CleanSafe', WHERE WHAT IT READS IS OF BULK AT MOST 1048576: true; the input reads as it did. -/
def cleanSafeUptoRow : OpenClaim := { program := "ytaeelnggnpeihaa", sum := "285fe16b7fc199aa6bcc6b281f7daaaf6e972370bcdfd86dcf01b58a94e816cc", func := "doorkeeper/doorkeeperlaw07.CleanSafe", spec := "cleanSafe", inPlace := ["internal/bytealg.IndexByteString", "internal/bytealg.IndexString"], unfollowed := true, recurses := true, named := ["internal/bytealg.MaxLen"], apart := false, narrowed := true }
def CleanSafeUptoSaid : Prop := cleanSafeUptoRow.holds Try.pinned (OpenSpec.upto cleanSafeSpec)

/-- 'doorkeeperlaw07.CleanQuotes', WHERE WHAT IT READS IS OF BULK AT MOST 1048576: true; the input reads as it did. -/
def cleanQuotesUptoRow : OpenClaim := { program := "ytaeelnggnpeihaa", sum := "285fe16b7fc199aa6bcc6b281f7daaaf6e972370bcdfd86dcf01b58a94e816cc", func := "doorkeeper/doorkeeperlaw07.CleanQuotes", spec := "cleanQuotes", inPlace := ["internal/bytealg.IndexByteString", "internal/bytealg.IndexString"], unfollowed := true, recurses := true, named := ["internal/bytealg.MaxLen"], apart := false, narrowed := true }
def CleanQuotesUptoSaid : Prop := cleanQuotesUptoRow.holds Try.pinned (OpenSpec.upto cleanQuotesSpec)

/-- 'doorkeeperlaw07.CleanUnquotes', WHERE WHAT IT READS IS OF BULK AT MOST 1048576: true; the input reads as it did. -/
def cleanUnquotesUptoRow : OpenClaim := { program := "ytaeelnggnpeihaa", sum := "285fe16b7fc199aa6bcc6b281f7daaaf6e972370bcdfd86dcf01b58a94e816cc", func := "doorkeeper/doorkeeperlaw07.CleanUnquotes", spec := "cleanUnquotes", inPlace := ["internal/bytealg.IndexByteString", "internal/bytealg.IndexString"], unfollowed := true, recurses := true, named := ["internal/bytealg.MaxLen"], apart := false, narrowed := true }
def CleanUnquotesUptoSaid : Prop := cleanUnquotesUptoRow.holds Try.pinned (OpenSpec.upto cleanUnquotesSpec)

/-- 'doorkeeperlaw07.CleanJoins', WHERE WHAT IT READS IS OF BULK AT MOST 1048576: true; the input reads as it did. -/
def cleanJoinsUptoRow : OpenClaim := { program := "ytaeelnggnpeihaa", sum := "285fe16b7fc199aa6bcc6b281f7daaaf6e972370bcdfd86dcf01b58a94e816cc", func := "doorkeeper/doorkeeperlaw07.CleanJoins", spec := "cleanJoins", inPlace := ["internal/bytealg.IndexByteString", "internal/bytealg.IndexString"], unfollowed := true, recurses := true, named := ["internal/bytealg.MaxLen"], apart := false, narrowed := true }
def CleanJoinsUptoSaid : Prop := cleanJoinsUptoRow.holds Try.pinned (OpenSpec.upto cleanJoinsSpec)

/-- 'doorkeeperlaw07.CleanQuoted', WHERE WHAT IT READS IS OF BULK AT MOST 1048576: true; the input reads as it did. -/
def cleanQuotedUptoRow : OpenClaim := { program := "ytaeelnggnpeihaa", sum := "285fe16b7fc199aa6bcc6b281f7daaaf6e972370bcdfd86dcf01b58a94e816cc", func := "doorkeeper/doorkeeperlaw07.CleanQuoted", spec := "cleanQuoted", inPlace := ["internal/bytealg.IndexByteString", "internal/bytealg.IndexString"], unfollowed := true, recurses := true, named := ["internal/bytealg.MaxLen"], apart := false, narrowed := true }
def CleanQuotedUptoSaid : Prop := cleanQuotedUptoRow.holds Try.pinned (OpenSpec.upto cleanQuotedSpec)

end Rows
end Go.Proofs.Ytaeelnggnpeihaa
