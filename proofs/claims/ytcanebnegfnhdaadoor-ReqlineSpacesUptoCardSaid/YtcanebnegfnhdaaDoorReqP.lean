/-
  reqline.Parse: the rules, and what it computes.
-/
import Derived.Test.YtcanebnegfnhdaaDoorReqA
import Derived.Test.YtcanebnegfnhdaaDoorSpl
import Derived.Test.YtcanebnegfnhdaaDoorJoi
import Derived.Test.YtcanebnegfnhdaaDoorFlt
import Derived.Test.YtcanebnegfnhdaaDoorSxOpen
namespace Go.Proofs.YtcanebnegfnhdaaDoor
open Go.Sx Go.RowKit
set_option linter.unusedVariables false
set_option linter.unusedSimpArgs false
set_option maxRecDepth 100000

def partN : Nat → Nat
  | 0 => 0
  | 1 => 1
  | _ => 2
def statN : Nat → Int
  | 3 => 505
  | _ => 400
def ruleF : Nat → Value
  | 0 => .func (.func 94) #[] #[]
  | 1 => .func (.func 95) #[] #[]
  | 2 => .func (.func 98) #[] #[]
  | _ => .func (.func 99) #[] #[]
def keepB : Nat → List UInt8 → Bool
  | 0, s => isToken s
  | 1, s => tgtB s
  | 2, s => verB s
  | _, s => supB s
def ruleC : List Value := (List.range 4).flatMap fun k => [.int .i64 (partN k : Nat), ruleF k, .int .i64 (statN k)]
/-- What package reqline holds of its rules. -/
def RulesT (w : World) : Prop := ∀ j u, ruleC[j]? = some u → w.cell? ⟨0, j, none⟩ = some u
theorem RulesT.keep {w0 w : World} {F : Heap} (h : RulesT w0) (hp : Hp w0 [] F w) : RulesT w := fun j u hj => hp.cell_old0 (h j u hj)
theorem four_cases {k : Nat} (h : k < 4) : k = 0 ∨ k = 1 ∨ k = 2 ∨ k = 3 := by omega
theorem ruleP {k : Nat} (h : k < 4) : partV Tryd.prog 48 ruleC.toArray (k * psize Tryd.prog 48) = some (.agg #[.int .i64 (partN k : Nat), ruleF k, .int .i64 (statN k)]) := by
  rcases four_cases h with rfl | rfl | rfl | rfl <;> kernel_rfl
theorem ruleF_one (k : Nat) : (ruleF k).oneCell' = true := by
  unfold ruleF; split <;> rfl
theorem ruleV {k : Nat} (h : k < 4) (s : List UInt8) (hl : s.length ≤ 9000000000000000000) : PureV Tryd.prog (ruleF k) [.string ⟨s.toArray⟩] (.bool (keepB k s)) := by
  rcases four_cases h with rfl | rfl | rfl | rfl
  · exact (isToken_spec s hl).toV
  · exact (target_spec s hl).toV
  · exact (version_spec s hl).toV
  · exact (supported_spec s).toV
theorem partN_lt (k : Nat) : partN k < 3 := by unfold partN; split <;> omega
def minorF (v : List UInt8) : Int := ((v.getD 7 0).toNat : Int) - 48
/-- Method, target, minor version, status (0: none), offset. -/
def reqL : List (List UInt8) → List UInt8 × List UInt8 × Int × Int × Int
  | [m, t, v] => if isToken m = false then ([], [], 0, 400, 0) else if tgtB t = false then ([], [], 0, 400, (m.length + 1 : Nat)) else if verB v = false then ([], [], 0, 400, (m.length + t.length + 2 : Nat)) else if supB v = false then ([], [], 0, 505, (m.length + t.length + 2 : Nat)) else (m, t, minorF v, 0, 0)
  | _ => ([], [], 0, 400, 0)
theorem reqL_no {L : List (List UInt8)} (h : ¬ L.length = 3) : reqL L = ([], [], 0, 400, 0) := by
  match L, h with
  | [], _ => rfl
  | [_], _ => rfl
  | [_, _], _ => rfl
  | [_, _, _], h => exact absurd rfl h
  | _ :: _ :: _ :: _ :: _, _ => rfl
def reqV (r : List UInt8 × List UInt8 × Int × Int × Int) : Value := .tuple #[.agg #[strV r.1, strV r.2.1, .int .i64 r.2.2.1], if r.2.2.2.1 = 0 then .nilIface else fltV r.2.2.2.1 r.2.2.2.2]
theorem reqL_bad {m t v : List UInt8} {k : Nat} (hk : k < 4) (hall : ∀ j, j < k → keepB j ([m, t, v].getD (partN j) []) = true) (hb : keepB k ([m, t, v].getD (partN k) []) = false) :
    reqL [m, t, v] = ([], [], 0, statN k, (((joinB [32] ([m, t, v].take (partN k))).length + min (partN k) 1 : Nat) : Int)) := by
  rcases four_cases hk with rfl | rfl | rfl | rfl
  · have h0 : isToken m = false := hb
    show (if isToken m = false then _ else _) = _
    rw [if_pos h0]; rfl
  · have h0 : isToken m = true := hall 0 (by omega)
    have h1 : tgtB t = false := hb
    show (if isToken m = false then _ else if tgtB t = false then _ else _) = _
    rw [if_neg (by simp [h0]), if_pos h1]
    simp [partN, joinB, statN]
  · have h0 : isToken m = true := hall 0 (by omega)
    have h1 : tgtB t = true := hall 1 (by omega)
    have h2 : verB v = false := hb
    show (if isToken m = false then _ else if tgtB t = false then _ else if verB v = false then _ else _) = _
    rw [if_neg (by simp [h0]), if_neg (by simp [h1]), if_pos h2]
    simp [partN, joinB, statN]; omega
  · have h0 : isToken m = true := hall 0 (by omega)
    have h1 : tgtB t = true := hall 1 (by omega)
    have h2 : verB v = true := hall 2 (by omega)
    have h3 : supB v = false := hb
    show (if isToken m = false then _ else if tgtB t = false then _ else if verB v = false then _ else if supB v = false then _ else _) = _
    rw [if_neg (by simp [h0]), if_neg (by simp [h1]), if_neg (by simp [h2]), if_pos h3]
    simp [partN, joinB, statN]; omega
theorem reqL_ok {m t v : List UInt8} (hall : ∀ j, j < 4 → keepB j ([m, t, v].getD (partN j) []) = true) : reqL [m, t, v] = (m, t, minorF v, 0, 0) := by
  have h0 : isToken m = true := hall 0 (by omega)
  have h1 : tgtB t = true := hall 1 (by omega)
  have h2 : verB v = true := hall 2 (by omega)
  have h3 : supB v = true := hall 3 (by omega)
  show (if isToken m = false then _ else if tgtB t = false then _ else if verB v = false then _ else if supB v = false then _ else _) = _
  rw [if_neg (by simp [h0]), if_neg (by simp [h1]), if_neg (by simp [h2]), if_neg (by simp [h3])]

end Go.Proofs.YtcanebnegfnhdaaDoor
