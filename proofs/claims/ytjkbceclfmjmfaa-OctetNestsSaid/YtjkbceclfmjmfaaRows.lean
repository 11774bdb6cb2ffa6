/-
  No cell of these rows narrows 'for every input' (looked for: loops, veiled, ifaces, maps, wideKeys, modest, calm, conditions, laid).
  DERIVED. THE GIVEN ROWS OF THIS SEAT. 5 by the template 'for every input the law returns true; each argument reads behind the call as it read before'; 0 by the template 'total and deterministic' (their statements: YtjkbceclfmjmfaaTotals.lean).
  GIVEN WITH THE SEED: the statements are not yours to turn. If you find one false, say at which input.
  Laid BY PROGRAM, IN A SANDBOX (cutbox-rows.mjs): the forced cells as the released guide's own fill.sh prints them over the translation 9f8504595b21dbf9… (all of the seat's roots in one cut). By AI agents, Wed Nov 11 2026. No macro, syntax, notation, axiom, sorry.
-/
import Derived.Test.YtjkbceclfmjmfaaChecked
import GoSem.Claim
import GoSem.ClaimJoined
import GoSem.ClaimMapViews
import Derived.JoinedTies
import Derived.KernelRfl
namespace Go.Proofs.Ytjkbceclfmjmfaa
/- THE CELL 'sum', in the pinned program and in every row, IS THE sha256 OF THE DUMP (.gsa) THAT YtjkbceclfmjmfaaProg.lean LOADS. Nothing in Lean hashes anything: it is a label: what it is worth is what the hold of that sum in a sandbox is worth. -/
noncomputable def Try.pinned : Pinned := { name := "ytjkbceclfmjmfaa", sum := "9f8504595b21dbf99a6c1332d8717d3fcd1971c689db800f5edd49bf64596ab8", checked := Try.checked }
namespace Rows
def none {H : Type} : Left H := { results := [], args := [] }

/-- 'doorkeeperlaw02.OctetClasses': WHATEVER THE INPUT: true; the input reads as it did. -/
def octetClassesSpec : ChangeSpec := { name := "octetClasses", fn := fun _ => fun
  | [d] => { results := [.lit (.bool true)], args := [d] }
  | _ => none }
def octetClassesRow : OpenClaim := { program := "ytjkbceclfmjmfaa", sum := "9f8504595b21dbf99a6c1332d8717d3fcd1971c689db800f5edd49bf64596ab8", func := "doorkeeper/doorkeeperlaw02.OctetClasses", spec := "octetClasses", unfollowed := true, recurses := true, apart := false }
def OctetClassesSaid : Prop := octetClassesRow.holds Try.pinned (OpenSpec.ofChange octetClassesSpec)

/-- ITS FALSE NEIGHBOUR: 'it returns false'. Refute it at one input. -/
def octetClassesWrong : ChangeSpec := { name := "octetClasses", fn := fun _ => fun
  | [d] => { results := [.lit (.bool false)], args := [d] }
  | _ => none }
def OctetClassesWrongFalsely : Prop := octetClassesRow.holds Try.pinned (OpenSpec.ofChange octetClassesWrong)

/-- 'doorkeeperlaw02.OctetTexts': WHATEVER THE INPUT: true; the input reads as it did. -/
def octetTextsSpec : ChangeSpec := { name := "octetTexts", fn := fun _ => fun
  | [d] => { results := [.lit (.bool true)], args := [d] }
  | _ => none }
def octetTextsRow : OpenClaim := { program := "ytjkbceclfmjmfaa", sum := "9f8504595b21dbf99a6c1332d8717d3fcd1971c689db800f5edd49bf64596ab8", func := "doorkeeper/doorkeeperlaw02.OctetTexts", spec := "octetTexts", unfollowed := true, recurses := true, apart := false }
def OctetTextsSaid : Prop := octetTextsRow.holds Try.pinned (OpenSpec.ofChange octetTextsSpec)

/-- ITS FALSE NEIGHBOUR: 'it returns false'. Refute it at one input. -/
def octetTextsWrong : ChangeSpec := { name := "octetTexts", fn := fun _ => fun
  | [d] => { results := [.lit (.bool false)], args := [d] }
  | _ => none }
def OctetTextsWrongFalsely : Prop := octetTextsRow.holds Try.pinned (OpenSpec.ofChange octetTextsWrong)

/-- 'doorkeeperlaw02.OctetAgain': WHATEVER THE INPUT: true; the input reads as it did. -/
def octetAgainSpec : ChangeSpec := { name := "octetAgain", fn := fun _ => fun
  | [d] => { results := [.lit (.bool true)], args := [d] }
  | _ => none }
def octetAgainRow : OpenClaim := { program := "ytjkbceclfmjmfaa", sum := "9f8504595b21dbf99a6c1332d8717d3fcd1971c689db800f5edd49bf64596ab8", func := "doorkeeper/doorkeeperlaw02.OctetAgain", spec := "octetAgain", unfollowed := true, recurses := true, apart := false }
def OctetAgainSaid : Prop := octetAgainRow.holds Try.pinned (OpenSpec.ofChange octetAgainSpec)

/-- ITS FALSE NEIGHBOUR: 'it returns false'. Refute it at one input. -/
def octetAgainWrong : ChangeSpec := { name := "octetAgain", fn := fun _ => fun
  | [d] => { results := [.lit (.bool false)], args := [d] }
  | _ => none }
def OctetAgainWrongFalsely : Prop := octetAgainRow.holds Try.pinned (OpenSpec.ofChange octetAgainWrong)

/-- 'doorkeeperlaw02.OctetJoins': WHATEVER THE INPUT: true; the input reads as it did. -/
def octetJoinsSpec : ChangeSpec := { name := "octetJoins", fn := fun _ => fun
  | [d1, d2, d3, d4] => { results := [.lit (.bool true)], args := [d1, d2, d3, d4] }
  | _ => none }
def octetJoinsRow : OpenClaim := { program := "ytjkbceclfmjmfaa", sum := "9f8504595b21dbf99a6c1332d8717d3fcd1971c689db800f5edd49bf64596ab8", func := "doorkeeper/doorkeeperlaw02.OctetJoins", spec := "octetJoins", unfollowed := true, recurses := true, apart := false }
def OctetJoinsSaid : Prop := octetJoinsRow.holds Try.pinned (OpenSpec.ofChange octetJoinsSpec)

/-- ITS FALSE NEIGHBOUR: 'it returns false'. Refute it at one input. -/
def octetJoinsWrong : ChangeSpec := { name := "octetJoins", fn := fun _ => fun
  | [d1, d2, d3, d4] => { results := [.lit (.bool false)], args := [d1, d2, d3, d4] }
  | _ => none }
def OctetJoinsWrongFalsely : Prop := octetJoinsRow.holds Try.pinned (OpenSpec.ofChange octetJoinsWrong)

/-- 'doorkeeperlaw02.OctetNests': WHATEVER THE INPUT: true; the input reads as it did. -/
def octetNestsSpec : ChangeSpec := { name := "octetNests", fn := fun _ => fun
  | [d] => { results := [.lit (.bool true)], args := [d] }
  | _ => none }
def octetNestsRow : OpenClaim := { program := "ytjkbceclfmjmfaa", sum := "9f8504595b21dbf99a6c1332d8717d3fcd1971c689db800f5edd49bf64596ab8", func := "doorkeeper/doorkeeperlaw02.OctetNests", spec := "octetNests", unfollowed := true, recurses := true, apart := false }
def OctetNestsSaid : Prop := octetNestsRow.holds Try.pinned (OpenSpec.ofChange octetNestsSpec)

/-- ITS FALSE NEIGHBOUR: 'it returns false'. Refute it at one input. -/
def octetNestsWrong : ChangeSpec := { name := "octetNests", fn := fun _ => fun
  | [d] => { results := [.lit (.bool false)], args := [d] }
  | _ => none }
def OctetNestsWrongFalsely : Prop := octetNestsRow.holds Try.pinned (OpenSpec.ofChange octetNestsWrong)

/- THE SECOND FORM. 'bulk': how many values and letters a reading holds, each counted each time it is reached (what is shared counts as often as it is met; a slice's spare places count too). A statement '..UptoSaid' is the law's where the arguments, and the package variables that the reading takes, are together of bulk at most 1048576: NARROWER than '..Said'. Prove '..Said' where nothing that the law and all that it calls make is longer than what came in: it says more and counts as full. Else prove '..UptoSaid'. A law counts once. -/
mutual
def uptoBulk {H : Type} : DataW H → Nat
  | .lit (.string bytes) => bytes.length + 1
  | .lit _ => 1
  | .nil => 1
  | .ptr d => uptoBulk d + 1
  | .slice elems spare => uptoBulkAll elems + uptoBulkAll spare + 1
  | .agg parts => uptoBulkAll parts + 1
  | .iface _ d => uptoBulk d + 1
  | .map entries => uptoBulkEntries entries + 1
  | .held _ => 1
def uptoBulkAll {H : Type} : List (DataW H) → Nat
  | [] => 0
  | d :: r => uptoBulk d + uptoBulkAll r
def uptoBulkEntries {H : Type} : List (Lit × DataW H) → Nat
  | [] => 0
  | x :: r => uptoBulkEntry x + uptoBulkEntries r
def uptoBulkEntry {H : Type} : Lit × DataW H → Nat
  | (.string bytes, d) => bytes.length + uptoBulk d + 1
  | (_, d) => uptoBulk d + 1
 end
def uptoSmall : (H : Type) → List (DataW H) → Bool := fun _ ds => decide (uptoBulkAll ds ≤ 1048576)
def OpenSpec.upto (s : _root_.Go.ChangeSpec) : _root_.Go.OpenSpec := { _root_.Go.OpenSpec.ofChange s with cond := some uptoSmall }

/-- 'doorkeeperlaw02.OctetClasses', WHERE WHAT IT READS IS OF BULK AT MOST 1048576: true; the input reads as it did. -/
def octetClassesUptoRow : OpenClaim := { program := "ytjkbceclfmjmfaa", sum := "9f8504595b21dbf99a6c1332d8717d3fcd1971c689db800f5edd49bf64596ab8", func := "doorkeeper/doorkeeperlaw02.OctetClasses", spec := "octetClasses", unfollowed := true, recurses := true, apart := false, narrowed := true }
def OctetClassesUptoSaid : Prop := octetClassesUptoRow.holds Try.pinned (OpenSpec.upto octetClassesSpec)

/-- 'doorkeeperlaw02.OctetTexts', WHERE WHAT IT READS IS OF BULK AT MOST 1048576: true; the input reads as it did. -/
def octetTextsUptoRow : OpenClaim := { program := "ytjkbceclfmjmfaa", sum := "9f8504595b21dbf99a6c1332d8717d3fcd1971c689db800f5edd49bf64596ab8", func := "doorkeeper/doorkeeperlaw02.OctetTexts", spec := "octetTexts", unfollowed := true, recurses := true, apart := false, narrowed := true }
def OctetTextsUptoSaid : Prop := octetTextsUptoRow.holds Try.pinned (OpenSpec.upto octetTextsSpec)

/-- 'doorkeeperlaw02.OctetAgain', WHERE WHAT IT READS IS OF BULK AT MOST 1048576: true; the input reads as it did. -/
def octetAgainUptoRow : OpenClaim := { program := "ytjkbceclfmjmfaa", sum := "9f8504595b21dbf99a6c1332d8717d3fcd1971c689db800f5edd49bf64596ab8", func := "doorkeeper/doorkeeperlaw02.OctetAgain", spec := "octetAgain", unfollowed := true, recurses := true, apart := false, narrowed := true }
def OctetAgainUptoSaid : Prop := octetAgainUptoRow.holds Try.pinned (OpenSpec.upto octetAgainSpec)

/-- 'doorkeeperlaw02.OctetJoins', WHERE WHAT IT READS IS OF BULK AT MOST 1048576: true; the input reads as it did. -/
def octetJoinsUptoRow : OpenClaim := { program := "ytjkbceclfmjmfaa", sum := "9f8504595b21dbf99a6c1332d8717d3fcd1971c689db800f5edd49bf64596ab8", func := "doorkeeper/doorkeeperlaw02.OctetJoins", spec := "octetJoins", unfollowed := true, recurses := true, apart := false, narrowed := true }
def OctetJoinsUptoSaid : Prop := octetJoinsUptoRow.holds Try.pinned (OpenSpec.upto octetJoinsSpec)

/-- 'doorkeeperlaw02.OctetNests', WHERE WHAT IT READS IS OF BULK AT MOST 1048576: true; the input reads as it did. -/
def octetNestsUptoRow : OpenClaim := { program := "ytjkbceclfmjmfaa", sum := "9f8504595b21dbf99a6c1332d8717d3fcd1971c689db800f5edd49bf64596ab8", func := "doorkeeper/doorkeeperlaw02.OctetNests", spec := "octetNests", unfollowed := true, recurses := true, apart := false, narrowed := true }
def OctetNestsUptoSaid : Prop := octetNestsUptoRow.holds Try.pinned (OpenSpec.upto octetNestsSpec)

end Rows
end Go.Proofs.Ytjkbceclfmjmfaa
