/-
  Files as they lie in memory.
-/
import Derived.Test.YticinfoljhlnbaaGreatDoorTreA
namespace Go.Proofs.YticinfoljhlnbaaGreatDoor
open Go.Sx Go.RowKit
set_option linter.unusedVariables false
set_option linter.unusedSimpArgs false
set_option maxRecDepth 100000

/-! ### Files as they lie in memory -/
structure FS where
  f : FileV
  A : Option Addr
  c : Nat
  B : Option Addr
  d : Nat
def FS.cells (x : FS) : List Value := [.slice x.A x.f.path.length x.c, .bool x.f.dir, strV x.f.typ, .slice x.B x.f.body.length x.d]
abbrev FS.val (x : FS) : Value := .agg x.cells.toArray
def FSok (w : World) (x : FS) : Prop := Rd w (.slice x.A x.f.path.length x.c) x.f.path.length (x.f.path.map strV) ∧ x.f.path.length ≤ x.c ∧ Rd w (.slice x.B x.f.body.length x.d) x.f.body.length (bytesV x.f.body) ∧ x.f.body.length ≤ x.d
theorem FSok.keep {w0 w : World} {F : Heap} {x : FS} (h : FSok w0 x) (hp : Hp w0 [] F w) : FSok w x := ⟨h.1.keep hp, h.2.1, h.2.2.1.keep hp, h.2.2.2⟩
def filesC (X : List FS) : List Value := X.flatMap FS.cells
theorem filesC_length (X : List FS) : (filesC X).length = X.length * 4 := by
  unfold filesC
  induction X with
  | nil => rfl
  | cons x X ih => rw [List.flatMap_cons, List.length_append, ih, List.length_cons, Nat.succ_mul, Nat.add_comm]; rfl
theorem filesC_at : ∀ {X : List FS} {i : Nat} {x : FS} {j : Nat} {u : Value}, X[i]? = some x → x.cells[j]? = some u → (filesC X)[i * 4 + j]? = some u
  | [], _, _, _, _, h, _ => by simp at h
  | y :: X, 0, x, j, u, h, hu => by
    simp only [List.getElem?_cons_zero, Option.some.injEq] at h; subst h
    have hj : j < y.cells.length := (List.getElem?_eq_some_iff.1 hu).1
    show (y.cells ++ filesC X)[0 * 4 + j]? = some u
    rw [Nat.zero_mul, Nat.zero_add, List.getElem?_append_left hj]; exact hu
  | y :: X, i + 1, x, j, u, h, hu => by
    have ih := filesC_at (X := X) (i := i) (by simpa using h) hu
    show (y.cells ++ filesC X)[(i + 1) * 4 + j]? = some u
    rw [List.getElem?_append_right (show y.cells.length ≤ _ from Nat.le_trans (show y.cells.length ≤ 4 from Nat.le_refl _) (by omega)), show (i + 1) * 4 + j - y.cells.length = i * 4 + j by show (i + 1) * 4 + j - 4 = _; omega]
    exact ih
theorem file_cell {w : World} {bb oo n c k : Nat} {X : List FS} {x : FS} (hr : Rd w (.slice (some ⟨bb, oo, none⟩) n c) n (filesC X)) (hx : X[k]? = some x) {j : Nat} {u : Value} (hu : x.cells[j]? = some u) : w.cell? ⟨bb, oo + k * 4 + j, none⟩ = some u := by
  rw [Nat.add_assoc]; exact hr.cell (filesC_at hx hu)
theorem file_some {w : World} {A : Option Addr} {n c k : Nat} {X : List FS} {x : FS} (hr : Rd w (.slice A n c) n (filesC X)) (hx : X[k]? = some x) : ∃ b o, A = some ⟨b, o, none⟩ :=
  hr.some (fun e => by have := filesC_at (j := 0) hx rfl; rw [e] at this; simp at this)
def filesF (X : List FS) : List FileV := X.map (·.f)
theorem filesF_at {X : List FS} {k : Nat} {x : FS} (h : X[k]? = some x) : (filesF X)[k]? = some x.f := by simp [filesF, h]
theorem filesF_length (X : List FS) : (filesF X).length = X.length := by simp [filesF]
theorem cells_one (x : FS) : ∀ u ∈ x.cells, u.oneCell' = true := by
  intro u hu
  simp only [FS.cells, List.mem_cons, List.not_mem_nil, or_false] at hu
  rcases hu with rfl | rfl | rfl | rfl <;> rfl
theorem files_one {X : List FS} : ∀ u ∈ filesC X, u.oneCell' = true := by
  intro u hu
  obtain ⟨x, _, hx⟩ := List.mem_flatMap.1 hu
  simp only [FS.cells, List.mem_cons, List.not_mem_nil, or_false] at hx
  rcases hx with rfl | rfl | rfl | rfl <;> rfl
def fewF (f : FileV) : Bool := fewP f.path && decide (f.typ.length ≤ 100) && decide (f.body.length ≤ 1000)
def fewT (l : List FileV) : Bool := l.all fewF && decide (l.length ≤ 30)
theorem fewF_of {f : FileV} (h : fewF f = true) : fewP f.path = true ∧ f.typ.length ≤ 100 ∧ f.body.length ≤ 1000 := by
  simp only [fewF, Bool.and_eq_true, decide_eq_true_eq] at h
  exact ⟨h.1.1, h.1.2, h.2⟩
theorem fewT_of {l : List FileV} (h : fewT l = true) : l.length ≤ 30 ∧ ∀ f ∈ l, fewF f = true := by
  simp only [fewT, Bool.and_eq_true, decide_eq_true_eq, List.all_eq_true] at h
  exact ⟨h.2, h.1⟩
theorem allF_no {p : FileV → Bool} {l : List FileV} {k : Nat} {f : FileV} (h : l[k]? = some f) (hp : p f = false) : l.all p = false := by
  rw [List.all_eq_false]; exact ⟨f, List.mem_of_getElem? h, by rw [hp]; simp⟩
theorem allF_next {p : FileV → Bool} {l : List FileV} {k : Nat} {f : FileV} (h : l[k]? = some f) (hp : p f = true) (ha : (l.take k).all p = true) : (l.take (k + 1)).all p = true := by
  rw [List.take_add_one, h, Option.toList_some, List.all_append, ha]; simp [hp]
theorem rightF_yes {l : List FileV} {i : Nat} {f : FileV} (h1 : ∀ k g, l[k]? = some g → pairB i f k g = false) (h2 : f.path ≠ []) (h3 : f.path.all plainS = true) (h4 : detailB f = true) : rightF l i f = true := by
  unfold rightF; rw [clash_no h1, decide_eq_true h2, h3, h4]; rfl
theorem rightF_clash {l : List FileV} {i k : Nat} {f g : FileV} (h : l[k]? = some g) (hp : pairB i f k g = true) : rightF l i f = false := by
  unfold rightF; rw [clash_yes h hp]; rfl
theorem rightF_nil {l : List FileV} {i : Nat} {f : FileV} (h : f.path = []) : rightF l i f = false := by
  unfold rightF; rw [decide_eq_false (by simp [h])]; simp
theorem rightF_plain {l : List FileV} {i : Nat} {f : FileV} (h : f.path.all plainS = false) : rightF l i f = false := by
  unfold rightF; rw [h]; simp
theorem rightF_detail {l : List FileV} {i : Nat} {f : FileV} (h : detailB f = false) : rightF l i f = false := by
  unfold rightF; rw [h]; simp
theorem zero_len {α : Type} {l : List α} (h : (l.length : Int) = 0) : l = [] := List.eq_nil_of_length_eq_zero (by omega)
theorem few_right {l : List FileV} {i : Nat} {f : FileV} (h : fewT l = true) (hf : l[i]? = some f) : f.path.length ≤ 30 ∧ (∀ v ∈ f.path, v.length ≤ 1000000) ∧ f.typ.length ≤ 100 ∧ f.body.length ≤ 1000 := by
  obtain ⟨h1, h2, h3⟩ := fewF_of ((fewT_of h).2 f (List.mem_of_getElem? hf))
  exact ⟨(fewP_of h1).1, fun v hv => Nat.le_trans ((fewP_of h1).2 v hv) (by decide), h2, h3⟩

end Go.Proofs.YticinfoljhlnbaaGreatDoor
