/-
  Files, and which lists of them are right.
-/
import Derived.Test.YticinfoljhlnbaaGreatDoorOct
namespace Go.Proofs.YticinfoljhlnbaaGreatDoor
open Go.Sx Go.RowKit
set_option linter.unusedVariables false
set_option linter.unusedSimpArgs false
set_option maxRecDepth 100000

/-! ### Files, and which lists of them are right -/
abbrev Path := List (List UInt8)
structure FileV where
  path : Path
  dir : Bool
  typ : List UInt8
  body : List UInt8
deriving DecidableEq
def slashC : List UInt8 := [47, 92, 0]
def plainS (s : List UInt8) : Bool := decide (s ≠ []) && decide (s ≠ [46]) && decide (s ≠ [46, 46]) && !(s.any fun c => decide (c ∈ slashC))
def aboveB (a b : Path) : Bool := decide (a.length < b.length) && decide (a = b.take a.length)
def detailB (f : FileV) : Bool := if f.dir then decide (f.typ = []) && decide (f.body.length = 0) else decide (f.typ ≠ []) && f.typ.all fieldB && decide (trim f.typ = f.typ)
def pairB (i : Nat) (f : FileV) (k : Nat) (g : FileV) : Bool := (decide (k < i) && decide (g.path = f.path)) || (!g.dir && aboveB g.path f.path)
def clashB (l : List FileV) (i : Nat) (f : FileV) : Bool := l.zipIdx.any fun q => pairB i f q.2 q.1
def rightF (l : List FileV) (i : Nat) (f : FileV) : Bool := !clashB l i f && decide (f.path ≠ []) && f.path.all plainS && detailB f
def rightB (l : List FileV) (i : Nat) : Bool := match l[i]? with
  | none => true
  | some f => rightF l i f
def checkN (l : List FileV) : Option Nat := (List.range l.length).find? fun i => !rightB l i
def checkL (l : List FileV) : Int := match checkN l with
  | none => -1
  | some i => i
theorem clash_no {l : List FileV} {i : Nat} {f : FileV} (h : ∀ k g, l[k]? = some g → pairB i f k g = false) : clashB l i f = false := by
  unfold clashB
  rw [List.any_eq_false]
  rintro ⟨g, k⟩ hm
  have := List.mem_zipIdx hm
  simp only [Nat.zero_le, Nat.zero_add, true_and, Nat.sub_zero] at this
  rw [h k g ((List.getElem?_eq_getElem this.1).trans (congrArg some this.2.symm))]; simp
theorem clash_yes {l : List FileV} {i k : Nat} {f g : FileV} (h : l[k]? = some g) (hp : pairB i f k g = true) : clashB l i f = true := by
  unfold clashB
  rw [List.any_eq_true]
  refine ⟨(g, k), ?_, hp⟩
  rw [List.mem_iff_getElem?]
  exact ⟨k, by rw [List.getElem?_zipIdx, h]; simp⟩
theorem clash_none {l : List FileV} {i : Nat} {f : FileV} (h : clashB l i f = false) {k : Nat} {g : FileV} (hg : l[k]? = some g) : pairB i f k g = false := by
  cases e : pairB i f k g with
  | false => rfl
  | true => rw [clash_yes hg e] at h; cases h
theorem check_none {l : List FileV} (h : ∀ i f, l[i]? = some f → rightF l i f = true) : checkL l = -1 := by
  have : checkN l = none := by
    unfold checkN
    rw [List.find?_eq_none]
    intro i _
    unfold rightB
    cases e : l[i]? with
    | none => simp
    | some f => simp [h i f e]
  unfold checkL; rw [this]
theorem check_some {l : List FileV} {i : Nat} {f : FileV} (h : ∀ j g, j < i → l[j]? = some g → rightF l j g = true) (hf : l[i]? = some f) (hn : rightF l i f = false) : checkL l = (i : Int) := by
  have hi := (List.getElem?_eq_some_iff.1 hf).1
  have : checkN l = some i := by
    unfold checkN
    rw [List.find?_range_eq_some]
    refine ⟨by unfold rightB; rw [hf]; simp [hn], by simpa using hi, fun j hj => ?_⟩
    unfold rightB
    cases e : l[j]? with
    | none => simp
    | some g => simp [h j g hj e]
  unfold checkL; rw [this]
theorem check_right {l : List FileV} (h : checkL l < 0) : ∀ i f, l[i]? = some f → rightF l i f = true := by
  have : checkN l = none := by
    unfold checkL at h
    cases e : checkN l with
    | none => rfl
    | some i => rw [e] at h; simp only at h; omega
  unfold checkN at this
  rw [List.find?_eq_none] at this
  intro i f hf
  have := this i (by simpa using (List.getElem?_eq_some_iff.1 hf).1)
  unfold rightB at this
  rw [hf] at this
  simpa using this
theorem all_no {p : List UInt8 → Bool} {es : List (List UInt8)} {j : Nat} {y : List UInt8} (h : es[j]? = some y) (hp : p y = false) : es.all p = false := by
  rw [List.all_eq_false]
  exact ⟨y, List.mem_of_getElem? h, by rw [hp]; simp⟩
theorem any_yes {p : List UInt8 → Bool} {es : List (List UInt8)} {j : Nat} {y : List UInt8} (h : es[j]? = some y) (hp : p y = true) : es.any p = true := List.any_eq_true.2 ⟨y, List.mem_of_getElem? h, hp⟩
theorem all_next {p : List UInt8 → Bool} {es : List (List UInt8)} {j : Nat} {y : List UInt8} (h : es[j]? = some y) (hp : p y = true) (ha : (es.take j).all p = true) : (es.take (j + 1)).all p = true := by
  rw [List.take_add_one, h, Option.toList_some, List.all_append, ha]; simp [hp]
theorem any_next {p : List UInt8 → Bool} {es : List (List UInt8)} {j : Nat} {y : List UInt8} (h : es[j]? = some y) (hp : p y = false) (ha : (es.take j).any p = false) : (es.take (j + 1)).any p = false := by
  rw [List.take_add_one, h, Option.toList_some, List.any_append, ha]; simp [hp]
def fewP (L : Path) : Bool := L.all (fun v => decide (v.length ≤ 100)) && decide (L.length ≤ 30)
theorem fewP_of {L : Path} (h : fewP L = true) : L.length ≤ 30 ∧ ∀ v ∈ L, v.length ≤ 100 := by
  unfold fewP at h
  rw [Bool.and_eq_true, List.all_eq_true] at h
  exact ⟨of_decide_eq_true h.2, fun v hv => of_decide_eq_true (h.1 v hv)⟩
theorem strs_one {L : List (List UInt8)} : ∀ u ∈ L.map strV, u.oneCell' = true := by
  intro u hu
  obtain ⟨x, _, rfl⟩ := List.mem_map.1 hu
  rfl

end Go.Proofs.YticinfoljhlnbaaGreatDoor
