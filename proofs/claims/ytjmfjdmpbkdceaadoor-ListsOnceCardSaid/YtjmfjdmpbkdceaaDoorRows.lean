/-
  NARROWER THAN 'FOR EVERY INPUT', by the rows' own cells (each row's printed sentence says how): ListsMatchReference: laid · ListsJoin: laid · ListsParts: laid · ListsCase: laid · ListsOnce: laid.
  DERIVED. THE GIVEN ROWS OF THIS SEAT. 5 by the template 'for every input the law returns true; each argument reads behind the call as it read before'; 0 by the template 'total and deterministic' (their statements: YtjmfjdmpbkdceaaDoorTotals.lean).
  GIVEN WITH THE SEED: the statements are not yours to turn. If you find one false, say at which input.
  Laid BY PROGRAM, IN A SANDBOX (cutbox-rows.mjs): the forced cells as the released guide's own fill.sh prints them over the translation 3088108c8a687f84… (all of the seat's roots in one cut). By AI agents, Wed Nov 11 2026. No macro, syntax, notation, axiom, sorry.
-/
import Derived.Test.YtjmfjdmpbkdceaaDoorChecked
import GoSem.PinnedTables
import GoSem.Claim
import GoSem.ClaimJoined
import GoSem.ClaimMapViews
import Derived.JoinedTies
import Derived.KernelRfl
namespace Go.Proofs.YtjmfjdmpbkdceaaDoor
/- THE CELL 'sum', in the pinned program and in every row, IS THE sha256 OF THE DUMP (.gsa) THAT YtjmfjdmpbkdceaaDoorProg.lean LOADS. Nothing in Lean hashes anything: it is a label: what it is worth is what the hold of that sum in a sandbox is worth. -/
noncomputable def Tryd.pinned : Pinned := { name := "ytjmfjdmpbkdceaadoor", sum := "3088108c8a687f84ac78167e07d0826fcb69611b10b819fe41b2783724801ca3", checked := Tryd.checked }
namespace Rows
def none {H : Type} : Left H := { results := [], args := [] }

/- WHAT THE LISTED PACKAGE-LEVEL VARIABLES READ AS WHEN THE CALL BEGINS. Each datum BY PROGRAM (the guide's laid-datum.mjs) off the statement by which the dump's own 'gosem.cut.vars' lays the variable. In a bare row this is a premise. The card (YtjmfjdmpbkdceaaDoorCards.lean) ties it to the program's text. -/
def laid_unicode_utf8_acceptRanges {H : Type} : DataW H := .agg [.agg [.lit (.int .u8 128), .lit (.int .u8 191)], .agg [.lit (.int .u8 160), .lit (.int .u8 191)], .agg [.lit (.int .u8 128), .lit (.int .u8 159)], .agg [.lit (.int .u8 144), .lit (.int .u8 191)], .agg [.lit (.int .u8 128), .lit (.int .u8 143)], .agg [.lit (.int .u8 0), .lit (.int .u8 0)], .agg [.lit (.int .u8 0), .lit (.int .u8 0)], .agg [.lit (.int .u8 0), .lit (.int .u8 0)], .agg [.lit (.int .u8 0), .lit (.int .u8 0)], .agg [.lit (.int .u8 0), .lit (.int .u8 0)], .agg [.lit (.int .u8 0), .lit (.int .u8 0)], .agg [.lit (.int .u8 0), .lit (.int .u8 0)], .agg [.lit (.int .u8 0), .lit (.int .u8 0)], .agg [.lit (.int .u8 0), .lit (.int .u8 0)], .agg [.lit (.int .u8 0), .lit (.int .u8 0)], .agg [.lit (.int .u8 0), .lit (.int .u8 0)]]
/-- One of Go's own tables, pinned by name: the form's constant. -/
def laid_unicode_utf8_first : DataW Unit := Go.Pinned.utf8First

/-- 'doorkeeperlaw12.ListsMatchReference': WHATEVER THE INPUT: true; the input reads as it did. -/
def listsMatchReferenceSpec : ChangeSpec := { name := "listsMatchReference", fn := fun _ => fun
  | [d1, d2] => { results := [.lit (.bool true)], args := [d1, d2] }
  | _ => none }
def listsMatchReferenceRow : OpenClaim := { program := "ytjmfjdmpbkdceaadoor", sum := "3088108c8a687f84ac78167e07d0826fcb69611b10b819fe41b2783724801ca3", func := "doorkeeper/doorkeeperlaw12.ListsMatchReference", spec := "listsMatchReference", inPlace := ["internal/bytealg.IndexByteString", "internal/bytealg.IndexString", "internal/abi.NoEscape", "internal/bytealg.MakeNoZero"], unfollowed := true, recurses := true, named := ["unicode/utf8.first", "unicode/utf8.acceptRanges", "internal/bytealg.MaxLen"], apart := false, laid := [("unicode/utf8.acceptRanges", laid_unicode_utf8_acceptRanges), ("unicode/utf8.first", laid_unicode_utf8_first)] }
def ListsMatchReferenceSaid : Prop := listsMatchReferenceRow.holds Tryd.pinned (OpenSpec.ofChange listsMatchReferenceSpec)

/-- ITS FALSE NEIGHBOUR: 'it returns false'. Refute it at one input. -/
def listsMatchReferenceWrong : ChangeSpec := { name := "listsMatchReference", fn := fun _ => fun
  | [d1, d2] => { results := [.lit (.bool false)], args := [d1, d2] }
  | _ => none }
def ListsMatchReferenceWrongFalsely : Prop := listsMatchReferenceRow.holds Tryd.pinned (OpenSpec.ofChange listsMatchReferenceWrong)

/-- 'doorkeeperlaw12.ListsJoin': WHATEVER THE INPUT: true; the input reads as it did. -/
def listsJoinSpec : ChangeSpec := { name := "listsJoin", fn := fun _ => fun
  | [d] => { results := [.lit (.bool true)], args := [d] }
  | _ => none }
def listsJoinRow : OpenClaim := { program := "ytjmfjdmpbkdceaadoor", sum := "3088108c8a687f84ac78167e07d0826fcb69611b10b819fe41b2783724801ca3", func := "doorkeeper/doorkeeperlaw12.ListsJoin", spec := "listsJoin", inPlace := ["internal/bytealg.IndexByteString", "internal/bytealg.IndexString", "internal/abi.NoEscape", "internal/bytealg.MakeNoZero"], unfollowed := true, recurses := true, named := ["unicode/utf8.first", "unicode/utf8.acceptRanges", "internal/bytealg.MaxLen"], apart := false, laid := [("unicode/utf8.acceptRanges", laid_unicode_utf8_acceptRanges), ("unicode/utf8.first", laid_unicode_utf8_first)] }
def ListsJoinSaid : Prop := listsJoinRow.holds Tryd.pinned (OpenSpec.ofChange listsJoinSpec)

/-- ITS FALSE NEIGHBOUR: 'it returns false'. Refute it at one input. -/
def listsJoinWrong : ChangeSpec := { name := "listsJoin", fn := fun _ => fun
  | [d] => { results := [.lit (.bool false)], args := [d] }
  | _ => none }
def ListsJoinWrongFalsely : Prop := listsJoinRow.holds Tryd.pinned (OpenSpec.ofChange listsJoinWrong)

/-- 'doorkeeperlaw12.ListsParts': WHATEVER THE INPUT: true; the input reads as it did. -/
def listsPartsSpec : ChangeSpec := { name := "listsParts", fn := fun _ => fun
  | [d1, d2] => { results := [.lit (.bool true)], args := [d1, d2] }
  | _ => none }
def listsPartsRow : OpenClaim := { program := "ytjmfjdmpbkdceaadoor", sum := "3088108c8a687f84ac78167e07d0826fcb69611b10b819fe41b2783724801ca3", func := "doorkeeper/doorkeeperlaw12.ListsParts", spec := "listsParts", inPlace := ["internal/bytealg.IndexByteString", "internal/bytealg.IndexString", "internal/abi.NoEscape", "internal/bytealg.MakeNoZero"], unfollowed := true, recurses := true, named := ["unicode/utf8.first", "unicode/utf8.acceptRanges", "internal/bytealg.MaxLen"], apart := false, laid := [("unicode/utf8.acceptRanges", laid_unicode_utf8_acceptRanges), ("unicode/utf8.first", laid_unicode_utf8_first)] }
def ListsPartsSaid : Prop := listsPartsRow.holds Tryd.pinned (OpenSpec.ofChange listsPartsSpec)

/-- ITS FALSE NEIGHBOUR: 'it returns false'. Refute it at one input. -/
def listsPartsWrong : ChangeSpec := { name := "listsParts", fn := fun _ => fun
  | [d1, d2] => { results := [.lit (.bool false)], args := [d1, d2] }
  | _ => none }
def ListsPartsWrongFalsely : Prop := listsPartsRow.holds Tryd.pinned (OpenSpec.ofChange listsPartsWrong)

/-- 'doorkeeperlaw12.ListsCase': WHATEVER THE INPUT: true; the input reads as it did. -/
def listsCaseSpec : ChangeSpec := { name := "listsCase", fn := fun _ => fun
  | [d1, d2] => { results := [.lit (.bool true)], args := [d1, d2] }
  | _ => none }
def listsCaseRow : OpenClaim := { program := "ytjmfjdmpbkdceaadoor", sum := "3088108c8a687f84ac78167e07d0826fcb69611b10b819fe41b2783724801ca3", func := "doorkeeper/doorkeeperlaw12.ListsCase", spec := "listsCase", inPlace := ["internal/bytealg.IndexByteString", "internal/bytealg.IndexString", "internal/abi.NoEscape", "internal/bytealg.MakeNoZero"], unfollowed := true, recurses := true, named := ["unicode/utf8.first", "unicode/utf8.acceptRanges", "internal/bytealg.MaxLen"], apart := false, laid := [("unicode/utf8.acceptRanges", laid_unicode_utf8_acceptRanges), ("unicode/utf8.first", laid_unicode_utf8_first)] }
def ListsCaseSaid : Prop := listsCaseRow.holds Tryd.pinned (OpenSpec.ofChange listsCaseSpec)

/-- ITS FALSE NEIGHBOUR: 'it returns false'. Refute it at one input. -/
def listsCaseWrong : ChangeSpec := { name := "listsCase", fn := fun _ => fun
  | [d1, d2] => { results := [.lit (.bool false)], args := [d1, d2] }
  | _ => none }
def ListsCaseWrongFalsely : Prop := listsCaseRow.holds Tryd.pinned (OpenSpec.ofChange listsCaseWrong)

/-- 'doorkeeperlaw12.ListsOnce': WHATEVER THE INPUT: true; the input reads as it did. -/
def listsOnceSpec : ChangeSpec := { name := "listsOnce", fn := fun _ => fun
  | [d1, d2] => { results := [.lit (.bool true)], args := [d1, d2] }
  | _ => none }
def listsOnceRow : OpenClaim := { program := "ytjmfjdmpbkdceaadoor", sum := "3088108c8a687f84ac78167e07d0826fcb69611b10b819fe41b2783724801ca3", func := "doorkeeper/doorkeeperlaw12.ListsOnce", spec := "listsOnce", inPlace := ["internal/bytealg.IndexByteString", "internal/bytealg.IndexString", "internal/abi.NoEscape", "internal/bytealg.MakeNoZero"], unfollowed := true, recurses := true, named := ["unicode/utf8.first", "unicode/utf8.acceptRanges", "internal/bytealg.MaxLen"], apart := false, laid := [("unicode/utf8.acceptRanges", laid_unicode_utf8_acceptRanges), ("unicode/utf8.first", laid_unicode_utf8_first)] }
def ListsOnceSaid : Prop := listsOnceRow.holds Tryd.pinned (OpenSpec.ofChange listsOnceSpec)

/-- ITS FALSE NEIGHBOUR: 'it returns false'. Refute it at one input. -/
def listsOnceWrong : ChangeSpec := { name := "listsOnce", fn := fun _ => fun
  | [d1, d2] => { results := [.lit (.bool false)], args := [d1, d2] }
  | _ => none }
def ListsOnceWrongFalsely : Prop := listsOnceRow.holds Tryd.pinned (OpenSpec.ofChange listsOnceWrong)

/- THE SECOND FORM. 'bulk': how many values and letters a reading holds, each counted each time it is reached (what is shared counts as often as it is met; a slice's spare places count too). A statement '..UptoSaid' is the law's where the arguments, and the package variables that the reading takes, are together of bulk at most 1048576: NARROWER than '..Said'. Prove '..Said' where nothing that the law and all that it calls make is longer than what came in: it says more and counts as full. Else prove '..UptoSaid'. A law counts once. -/
mutual
def uptoBulk {H : Type} : DataW H → Nat
  | .lit (.string bytes) => bytes.length + 1
  | .lit _ => 1
  | .nil => 1
  | .ptr d => uptoBulk d + 1
  | .slice elems spare => uptoBulkAll elems + uptoBulkAll spare + 1
  | .agg parts => uptoBulkAll parts + 1
  | .iface _ d => uptoBulk d + 1
  | .map entries => uptoBulkEntries entries + 1
  | .held _ => 1
def uptoBulkAll {H : Type} : List (DataW H) → Nat
  | [] => 0
  | d :: r => uptoBulk d + uptoBulkAll r
def uptoBulkEntries {H : Type} : List (Lit × DataW H) → Nat
  | [] => 0
  | x :: r => uptoBulkEntry x + uptoBulkEntries r
def uptoBulkEntry {H : Type} : Lit × DataW H → Nat
  | (.string bytes, d) => bytes.length + uptoBulk d + 1
  | (_, d) => uptoBulk d + 1
 end
def uptoSmall : (H : Type) → List (DataW H) → Bool := fun _ ds => decide (uptoBulkAll ds ≤ 1048576)
def OpenSpec.upto (s : _root_.Go.ChangeSpec) : _root_.Go.OpenSpec := { _root_.Go.OpenSpec.ofChange s with cond := some uptoSmall }

/-- 'doorkeeperlaw12.ListsMatchReference', WHERE WHAT IT READS IS OF BULK AT MOST 1048576: true; the input reads as it did. -/
def listsMatchReferenceUptoRow : OpenClaim := { program := "ytjmfjdmpbkdceaadoor", sum := "3088108c8a687f84ac78167e07d0826fcb69611b10b819fe41b2783724801ca3", func := "doorkeeper/doorkeeperlaw12.ListsMatchReference", spec := "listsMatchReference", inPlace := ["internal/bytealg.IndexByteString", "internal/bytealg.IndexString", "internal/abi.NoEscape", "internal/bytealg.MakeNoZero"], unfollowed := true, recurses := true, named := ["unicode/utf8.first", "unicode/utf8.acceptRanges", "internal/bytealg.MaxLen"], apart := false, laid := [("unicode/utf8.acceptRanges", laid_unicode_utf8_acceptRanges), ("unicode/utf8.first", laid_unicode_utf8_first)], narrowed := true }
def ListsMatchReferenceUptoSaid : Prop := listsMatchReferenceUptoRow.holds Tryd.pinned (OpenSpec.upto listsMatchReferenceSpec)

/-- 'doorkeeperlaw12.ListsJoin', WHERE WHAT IT READS IS OF BULK AT MOST 1048576: true; the input reads as it did. -/
def listsJoinUptoRow : OpenClaim := { program := "ytjmfjdmpbkdceaadoor", sum := "3088108c8a687f84ac78167e07d0826fcb69611b10b819fe41b2783724801ca3", func := "doorkeeper/doorkeeperlaw12.ListsJoin", spec := "listsJoin", inPlace := ["internal/bytealg.IndexByteString", "internal/bytealg.IndexString", "internal/abi.NoEscape", "internal/bytealg.MakeNoZero"], unfollowed := true, recurses := true, named := ["unicode/utf8.first", "unicode/utf8.acceptRanges", "internal/bytealg.MaxLen"], apart := false, laid := [("unicode/utf8.acceptRanges", laid_unicode_utf8_acceptRanges), ("unicode/utf8.first", laid_unicode_utf8_first)], narrowed := true }
def ListsJoinUptoSaid : Prop := listsJoinUptoRow.holds Tryd.pinned (OpenSpec.upto listsJoinSpec)

/-- 'doorkeeperlaw12.ListsParts', WHERE WHAT IT READS IS OF BULK AT MOST 1048576: true; the input reads as it did. -/
def listsPartsUptoRow : OpenClaim := { program := "ytjmfjdmpbkdceaadoor", sum := "3088108c8a687f84ac78167e07d0826fcb69611b10b819fe41b2783724801ca3", func := "doorkeeper/doorkeeperlaw12.ListsParts", spec := "listsParts", inPlace := ["internal/bytealg.IndexByteString", "internal/bytealg.IndexString", "internal/abi.NoEscape", "internal/bytealg.MakeNoZero"], unfollowed := true, recurses := true, named := ["unicode/utf8.first", "unicode/utf8.acceptRanges", "internal/bytealg.MaxLen"], apart := false, laid := [("unicode/utf8.acceptRanges", laid_unicode_utf8_acceptRanges), ("unicode/utf8.first", laid_unicode_utf8_first)], narrowed := true }
def ListsPartsUptoSaid : Prop := listsPartsUptoRow.holds Tryd.pinned (OpenSpec.upto listsPartsSpec)

/-- 'doorkeeperlaw12.ListsCase', WHERE WHAT IT READS IS OF BULK AT MOST 1048576: true; the input reads as it did. -/
def listsCaseUptoRow : OpenClaim := { program := "ytjmfjdmpbkdceaadoor", sum := "3088108c8a687f84ac78167e07d0826fcb69611b10b819fe41b2783724801ca3", func := "doorkeeper/doorkeeperlaw12.ListsCase", spec := "listsCase", inPlace := ["internal/bytealg.IndexByteString", "internal/bytealg.IndexString", "internal/abi.NoEscape", "internal/bytealg.MakeNoZero"], unfollowed := true, recurses := true, named := ["unicode/utf8.first", "unicode/utf8.acceptRanges", "internal/bytealg.MaxLen"], apart := false, laid := [("unicode/utf8.acceptRanges", laid_unicode_utf8_acceptRanges), ("unicode/utf8.first", laid_unicode_utf8_first)], narrowed := true }
def ListsCaseUptoSaid : Prop := listsCaseUptoRow.holds Tryd.pinned (OpenSpec.upto listsCaseSpec)

/-- 'doorkeeperlaw12.ListsOnce', WHERE WHAT IT READS IS OF BULK AT MOST 1048576: true; the input reads as it did. -/
def listsOnceUptoRow : OpenClaim := { program := "ytjmfjdmpbkdceaadoor", sum := "3088108c8a687f84ac78167e07d0826fcb69611b10b819fe41b2783724801ca3", func := "doorkeeper/doorkeeperlaw12.ListsOnce", spec := "listsOnce", inPlace := ["internal/bytealg.IndexByteString", "internal/bytealg.IndexString", "internal/abi.NoEscape", "internal/bytealg.MakeNoZero"], unfollowed := true, recurses := true, named := ["unicode/utf8.first", "unicode/utf8.acceptRanges", "internal/bytealg.MaxLen"], apart := false, laid := [("unicode/utf8.acceptRanges", laid_unicode_utf8_acceptRanges), ("unicode/utf8.first", laid_unicode_utf8_first)], narrowed := true }
def ListsOnceUptoSaid : Prop := listsOnceUptoRow.holds Tryd.pinned (OpenSpec.upto listsOnceSpec)

end Rows
end Go.Proofs.YtjmfjdmpbkdceaaDoor
