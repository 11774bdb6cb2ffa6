/-
  Struct, array and slice literals; rows that grow (written in part by mkbuild.py). No conditions: for every program.
-/
import Derived.Test.YticinfoljhlnbaaGreatDoorSxFn
import Derived.Laws.AppendOwn
namespace Go.Sx
open Go.RowKit
set_option linter.unusedVariables false
set_option linter.unusedSimpArgs false

theorem fold_set (L : List Value) : ∀ (off : Nat) (cs : List Value), off + L.length ≤ cs.length →
    L.zipIdx.foldl (fun (a : Array Value) (p : Value × Nat) => a.setIfInBounds (off + p.2) p.1) cs.toArray = (cs.take off ++ L ++ cs.drop (off + L.length)).toArray := by
  suffices h : ∀ (L : List Value) (k off : Nat) (cs : List Value), off + k + L.length ≤ cs.length →
      (L.zipIdx k).foldl (fun (a : Array Value) (p : Value × Nat) => a.setIfInBounds (off + p.2) p.1) cs.toArray = (cs.take (off + k) ++ L ++ cs.drop (off + k + L.length)).toArray by
    intro off cs hl; simpa using h L 0 off cs (by omega)
  intro L
  induction L with
  | nil => intro k off cs _; simp
  | cons v r ih =>
    intro k off cs hl
    simp only [List.length_cons] at hl
    simp only [List.zipIdx_cons, List.foldl_cons, List.setIfInBounds_toArray]
    rw [ih (k + 1) off (cs.set (off + k) v) (by rw [List.length_set]; omega)]
    rw [show off + (k + 1) = off + k + 1 by omega, take_set_succ cs (off + k) v (by omega), List.drop_set_of_lt (by omega)]
    simp only [List.length_cons, List.append_assoc, List.cons_append, List.nil_append]
    rw [show off + k + 1 + r.length = off + k + (r.length + 1) by omega]

/-- A part that is put in its place. -/
theorem fill_cons {place : Nat → Option (Nat × Nat)} {cs L : List Value} {i off s : Nat} {v : Value} {rest : List (Nat × Value)} (hp : place i = some (off, s)) (hv : v.cells = L.toArray) (hs : L.length = s) (hl : off + s ≤ cs.length) :
    Instr.fill place cs.toArray ((i, v) :: rest) = Instr.fill place (cs.take off ++ L ++ cs.drop (off + s)).toArray rest := by
  have h := fold_set L off cs (by omega)
  rw [hs] at h
  simp only [Instr.fill, hp, hv]
  rw [if_neg (by simp; omega)]
  congr 1
  rw [← h, ← Array.foldl_toList, Array.toList_zipIdx]

section
variable {P : Program} {ops : Array Oper} {Q : Exit → Act → World → Prop} {rest : List Oper} {n : Nat} {l : Env} {w0 w : World} {M F : Heap}
variable {d : Tmp} {ty : TypeId} {pos : String} {af : Array Edge}

theorem R_build0    {t : TypeId}  (f : List Value) (hb : P.built t [] = some f.toArray) :
    Runs P n l { dst := some d, op := .build t #[], type := ty, pos := pos, after := af, guard := none } (.agg f.toArray) w := fun A hf => by
  have e := run_build (P := P) w t ([] : List (Nat × Value)).toArray f.toArray (by simpa using hb)
  simp [execOp,  e]
theorem W_build0    {t : TypeId}  (f : List Value) (hb : P.built t [] = some f.toArray) (hd : Nat.blt d n = true)
    (h : W P ops Q rest n (.cons d (.agg f.toArray) l) w) : W P ops Q ({ dst := some d, op := .build t #[], type := ty, pos := pos, after := af, guard := none } :: rest) n l w :=
  W_val rfl (inb_of hd) (R_build0  f hb) h
theorem R_build1 {x0 : Operand} {v0 : Value} {i0 : Nat} {t : TypeId} (h0 : ev l x0 = some v0) (f : Value → List Value) (hb : P.built t [(i0, v0)] = some (f v0).toArray) :
    Runs P n l { dst := some d, op := .build t #[(i0, x0)], type := ty, pos := pos, after := af, guard := none } (.agg (f v0).toArray) w := fun A hf => by
  have e := run_build (P := P) w t ([(i0, v0)] : List (Nat × Value)).toArray (f v0).toArray (by simpa using hb)
  simp [execOp, hf.eval h0,  e]
theorem W_build1 {x0 : Operand} {v0 : Value} {i0 : Nat} {t : TypeId} (h0 : ev l x0 = some v0) (f : Value → List Value) (hb : P.built t [(i0, v0)] = some (f v0).toArray) (hd : Nat.blt d n = true)
    (h : W P ops Q rest n (.cons d (.agg (f v0).toArray) l) w) : W P ops Q ({ dst := some d, op := .build t #[(i0, x0)], type := ty, pos := pos, after := af, guard := none } :: rest) n l w :=
  W_val rfl (inb_of hd) (R_build1 h0 f hb) h
theorem R_build2 {x0 x1 : Operand} {v0 v1 : Value} {i0 i1 : Nat} {t : TypeId} (h0 : ev l x0 = some v0) (h1 : ev l x1 = some v1) (f : Value → Value → List Value) (hb : P.built t [(i0, v0), (i1, v1)] = some (f v0 v1).toArray) :
    Runs P n l { dst := some d, op := .build t #[(i0, x0), (i1, x1)], type := ty, pos := pos, after := af, guard := none } (.agg (f v0 v1).toArray) w := fun A hf => by
  have e := run_build (P := P) w t ([(i0, v0), (i1, v1)] : List (Nat × Value)).toArray (f v0 v1).toArray (by simpa using hb)
  simp [execOp, hf.eval h0, hf.eval h1,  e]
theorem W_build2 {x0 x1 : Operand} {v0 v1 : Value} {i0 i1 : Nat} {t : TypeId} (h0 : ev l x0 = some v0) (h1 : ev l x1 = some v1) (f : Value → Value → List Value) (hb : P.built t [(i0, v0), (i1, v1)] = some (f v0 v1).toArray) (hd : Nat.blt d n = true)
    (h : W P ops Q rest n (.cons d (.agg (f v0 v1).toArray) l) w) : W P ops Q ({ dst := some d, op := .build t #[(i0, x0), (i1, x1)], type := ty, pos := pos, after := af, guard := none } :: rest) n l w :=
  W_val rfl (inb_of hd) (R_build2 h0 h1 f hb) h
theorem R_build3 {x0 x1 x2 : Operand} {v0 v1 v2 : Value} {i0 i1 i2 : Nat} {t : TypeId} (h0 : ev l x0 = some v0) (h1 : ev l x1 = some v1) (h2 : ev l x2 = some v2) (f : Value → Value → Value → List Value) (hb : P.built t [(i0, v0), (i1, v1), (i2, v2)] = some (f v0 v1 v2).toArray) :
    Runs P n l { dst := some d, op := .build t #[(i0, x0), (i1, x1), (i2, x2)], type := ty, pos := pos, after := af, guard := none } (.agg (f v0 v1 v2).toArray) w := fun A hf => by
  have e := run_build (P := P) w t ([(i0, v0), (i1, v1), (i2, v2)] : List (Nat × Value)).toArray (f v0 v1 v2).toArray (by simpa using hb)
  simp [execOp, hf.eval h0, hf.eval h1, hf.eval h2,  e]
theorem W_build3 {x0 x1 x2 : Operand} {v0 v1 v2 : Value} {i0 i1 i2 : Nat} {t : TypeId} (h0 : ev l x0 = some v0) (h1 : ev l x1 = some v1) (h2 : ev l x2 = some v2) (f : Value → Value → Value → List Value) (hb : P.built t [(i0, v0), (i1, v1), (i2, v2)] = some (f v0 v1 v2).toArray) (hd : Nat.blt d n = true)
    (h : W P ops Q rest n (.cons d (.agg (f v0 v1 v2).toArray) l) w) : W P ops Q ({ dst := some d, op := .build t #[(i0, x0), (i1, x1), (i2, x2)], type := ty, pos := pos, after := af, guard := none } :: rest) n l w :=
  W_val rfl (inb_of hd) (R_build3 h0 h1 h2 f hb) h
theorem R_build4 {x0 x1 x2 x3 : Operand} {v0 v1 v2 v3 : Value} {i0 i1 i2 i3 : Nat} {t : TypeId} (h0 : ev l x0 = some v0) (h1 : ev l x1 = some v1) (h2 : ev l x2 = some v2) (h3 : ev l x3 = some v3) (f : Value → Value → Value → Value → List Value) (hb : P.built t [(i0, v0), (i1, v1), (i2, v2), (i3, v3)] = some (f v0 v1 v2 v3).toArray) :
    Runs P n l { dst := some d, op := .build t #[(i0, x0), (i1, x1), (i2, x2), (i3, x3)], type := ty, pos := pos, after := af, guard := none } (.agg (f v0 v1 v2 v3).toArray) w := fun A hf => by
  have e := run_build (P := P) w t ([(i0, v0), (i1, v1), (i2, v2), (i3, v3)] : List (Nat × Value)).toArray (f v0 v1 v2 v3).toArray (by simpa using hb)
  simp [execOp, hf.eval h0, hf.eval h1, hf.eval h2, hf.eval h3,  e]
theorem W_build4 {x0 x1 x2 x3 : Operand} {v0 v1 v2 v3 : Value} {i0 i1 i2 i3 : Nat} {t : TypeId} (h0 : ev l x0 = some v0) (h1 : ev l x1 = some v1) (h2 : ev l x2 = some v2) (h3 : ev l x3 = some v3) (f : Value → Value → Value → Value → List Value) (hb : P.built t [(i0, v0), (i1, v1), (i2, v2), (i3, v3)] = some (f v0 v1 v2 v3).toArray) (hd : Nat.blt d n = true)
    (h : W P ops Q rest n (.cons d (.agg (f v0 v1 v2 v3).toArray) l) w) : W P ops Q ({ dst := some d, op := .build t #[(i0, x0), (i1, x1), (i2, x2), (i3, x3)], type := ty, pos := pos, after := af, guard := none } :: rest) n l w :=
  W_val rfl (inb_of hd) (R_build4 h0 h1 h2 h3 f hb) h
theorem R_build5 {x0 x1 x2 x3 x4 : Operand} {v0 v1 v2 v3 v4 : Value} {i0 i1 i2 i3 i4 : Nat} {t : TypeId} (h0 : ev l x0 = some v0) (h1 : ev l x1 = some v1) (h2 : ev l x2 = some v2) (h3 : ev l x3 = some v3) (h4 : ev l x4 = some v4) (f : Value → Value → Value → Value → Value → List Value) (hb : P.built t [(i0, v0), (i1, v1), (i2, v2), (i3, v3), (i4, v4)] = some (f v0 v1 v2 v3 v4).toArray) :
    Runs P n l { dst := some d, op := .build t #[(i0, x0), (i1, x1), (i2, x2), (i3, x3), (i4, x4)], type := ty, pos := pos, after := af, guard := none } (.agg (f v0 v1 v2 v3 v4).toArray) w := fun A hf => by
  have e := run_build (P := P) w t ([(i0, v0), (i1, v1), (i2, v2), (i3, v3), (i4, v4)] : List (Nat × Value)).toArray (f v0 v1 v2 v3 v4).toArray (by simpa using hb)
  simp [execOp, hf.eval h0, hf.eval h1, hf.eval h2, hf.eval h3, hf.eval h4,  e]
theorem W_build5 {x0 x1 x2 x3 x4 : Operand} {v0 v1 v2 v3 v4 : Value} {i0 i1 i2 i3 i4 : Nat} {t : TypeId} (h0 : ev l x0 = some v0) (h1 : ev l x1 = some v1) (h2 : ev l x2 = some v2) (h3 : ev l x3 = some v3) (h4 : ev l x4 = some v4) (f : Value → Value → Value → Value → Value → List Value) (hb : P.built t [(i0, v0), (i1, v1), (i2, v2), (i3, v3), (i4, v4)] = some (f v0 v1 v2 v3 v4).toArray) (hd : Nat.blt d n = true)
    (h : W P ops Q rest n (.cons d (.agg (f v0 v1 v2 v3 v4).toArray) l) w) : W P ops Q ({ dst := some d, op := .build t #[(i0, x0), (i1, x1), (i2, x2), (i3, x3), (i4, x4)], type := ty, pos := pos, after := af, guard := none } :: rest) n l w :=
  W_val rfl (inb_of hd) (R_build5 h0 h1 h2 h3 h4 f hb) h
theorem R_build6 {x0 x1 x2 x3 x4 x5 : Operand} {v0 v1 v2 v3 v4 v5 : Value} {i0 i1 i2 i3 i4 i5 : Nat} {t : TypeId} (h0 : ev l x0 = some v0) (h1 : ev l x1 = some v1) (h2 : ev l x2 = some v2) (h3 : ev l x3 = some v3) (h4 : ev l x4 = some v4) (h5 : ev l x5 = some v5) (f : Value → Value → Value → Value → Value → Value → List Value) (hb : P.built t [(i0, v0), (i1, v1), (i2, v2), (i3, v3), (i4, v4), (i5, v5)] = some (f v0 v1 v2 v3 v4 v5).toArray) :
    Runs P n l { dst := some d, op := .build t #[(i0, x0), (i1, x1), (i2, x2), (i3, x3), (i4, x4), (i5, x5)], type := ty, pos := pos, after := af, guard := none } (.agg (f v0 v1 v2 v3 v4 v5).toArray) w := fun A hf => by
  have e := run_build (P := P) w t ([(i0, v0), (i1, v1), (i2, v2), (i3, v3), (i4, v4), (i5, v5)] : List (Nat × Value)).toArray (f v0 v1 v2 v3 v4 v5).toArray (by simpa using hb)
  simp [execOp, hf.eval h0, hf.eval h1, hf.eval h2, hf.eval h3, hf.eval h4, hf.eval h5,  e]
theorem W_build6 {x0 x1 x2 x3 x4 x5 : Operand} {v0 v1 v2 v3 v4 v5 : Value} {i0 i1 i2 i3 i4 i5 : Nat} {t : TypeId} (h0 : ev l x0 = some v0) (h1 : ev l x1 = some v1) (h2 : ev l x2 = some v2) (h3 : ev l x3 = some v3) (h4 : ev l x4 = some v4) (h5 : ev l x5 = some v5) (f : Value → Value → Value → Value → Value → Value → List Value) (hb : P.built t [(i0, v0), (i1, v1), (i2, v2), (i3, v3), (i4, v4), (i5, v5)] = some (f v0 v1 v2 v3 v4 v5).toArray) (hd : Nat.blt d n = true)
    (h : W P ops Q rest n (.cons d (.agg (f v0 v1 v2 v3 v4 v5).toArray) l) w) : W P ops Q ({ dst := some d, op := .build t #[(i0, x0), (i1, x1), (i2, x2), (i3, x3), (i4, x4), (i5, x5)], type := ty, pos := pos, after := af, guard := none } :: rest) n l w :=
  W_val rfl (inb_of hd) (R_build6 h0 h1 h2 h3 h4 h5 f hb) h
theorem R_build7 {x0 x1 x2 x3 x4 x5 x6 : Operand} {v0 v1 v2 v3 v4 v5 v6 : Value} {i0 i1 i2 i3 i4 i5 i6 : Nat} {t : TypeId} (h0 : ev l x0 = some v0) (h1 : ev l x1 = some v1) (h2 : ev l x2 = some v2) (h3 : ev l x3 = some v3) (h4 : ev l x4 = some v4) (h5 : ev l x5 = some v5) (h6 : ev l x6 = some v6) (f : Value → Value → Value → Value → Value → Value → Value → List Value) (hb : P.built t [(i0, v0), (i1, v1), (i2, v2), (i3, v3), (i4, v4), (i5, v5), (i6, v6)] = some (f v0 v1 v2 v3 v4 v5 v6).toArray) :
    Runs P n l { dst := some d, op := .build t #[(i0, x0), (i1, x1), (i2, x2), (i3, x3), (i4, x4), (i5, x5), (i6, x6)], type := ty, pos := pos, after := af, guard := none } (.agg (f v0 v1 v2 v3 v4 v5 v6).toArray) w := fun A hf => by
  have e := run_build (P := P) w t ([(i0, v0), (i1, v1), (i2, v2), (i3, v3), (i4, v4), (i5, v5), (i6, v6)] : List (Nat × Value)).toArray (f v0 v1 v2 v3 v4 v5 v6).toArray (by simpa using hb)
  simp [execOp, hf.eval h0, hf.eval h1, hf.eval h2, hf.eval h3, hf.eval h4, hf.eval h5, hf.eval h6,  e]
theorem W_build7 {x0 x1 x2 x3 x4 x5 x6 : Operand} {v0 v1 v2 v3 v4 v5 v6 : Value} {i0 i1 i2 i3 i4 i5 i6 : Nat} {t : TypeId} (h0 : ev l x0 = some v0) (h1 : ev l x1 = some v1) (h2 : ev l x2 = some v2) (h3 : ev l x3 = some v3) (h4 : ev l x4 = some v4) (h5 : ev l x5 = some v5) (h6 : ev l x6 = some v6) (f : Value → Value → Value → Value → Value → Value → Value → List Value) (hb : P.built t [(i0, v0), (i1, v1), (i2, v2), (i3, v3), (i4, v4), (i5, v5), (i6, v6)] = some (f v0 v1 v2 v3 v4 v5 v6).toArray) (hd : Nat.blt d n = true)
    (h : W P ops Q rest n (.cons d (.agg (f v0 v1 v2 v3 v4 v5 v6).toArray) l) w) : W P ops Q ({ dst := some d, op := .build t #[(i0, x0), (i1, x1), (i2, x2), (i3, x3), (i4, x4), (i5, x5), (i6, x6)], type := ty, pos := pos, after := af, guard := none } :: rest) n l w :=
  W_val rfl (inb_of hd) (R_build7 h0 h1 h2 h3 h4 h5 h6 f hb) h
theorem R_build8 {x0 x1 x2 x3 x4 x5 x6 x7 : Operand} {v0 v1 v2 v3 v4 v5 v6 v7 : Value} {i0 i1 i2 i3 i4 i5 i6 i7 : Nat} {t : TypeId} (h0 : ev l x0 = some v0) (h1 : ev l x1 = some v1) (h2 : ev l x2 = some v2) (h3 : ev l x3 = some v3) (h4 : ev l x4 = some v4) (h5 : ev l x5 = some v5) (h6 : ev l x6 = some v6) (h7 : ev l x7 = some v7) (f : Value → Value → Value → Value → Value → Value → Value → Value → List Value) (hb : P.built t [(i0, v0), (i1, v1), (i2, v2), (i3, v3), (i4, v4), (i5, v5), (i6, v6), (i7, v7)] = some (f v0 v1 v2 v3 v4 v5 v6 v7).toArray) :
    Runs P n l { dst := some d, op := .build t #[(i0, x0), (i1, x1), (i2, x2), (i3, x3), (i4, x4), (i5, x5), (i6, x6), (i7, x7)], type := ty, pos := pos, after := af, guard := none } (.agg (f v0 v1 v2 v3 v4 v5 v6 v7).toArray) w := fun A hf => by
  have e := run_build (P := P) w t ([(i0, v0), (i1, v1), (i2, v2), (i3, v3), (i4, v4), (i5, v5), (i6, v6), (i7, v7)] : List (Nat × Value)).toArray (f v0 v1 v2 v3 v4 v5 v6 v7).toArray (by simpa using hb)
  simp [execOp, hf.eval h0, hf.eval h1, hf.eval h2, hf.eval h3, hf.eval h4, hf.eval h5, hf.eval h6, hf.eval h7,  e]
theorem W_build8 {x0 x1 x2 x3 x4 x5 x6 x7 : Operand} {v0 v1 v2 v3 v4 v5 v6 v7 : Value} {i0 i1 i2 i3 i4 i5 i6 i7 : Nat} {t : TypeId} (h0 : ev l x0 = some v0) (h1 : ev l x1 = some v1) (h2 : ev l x2 = some v2) (h3 : ev l x3 = some v3) (h4 : ev l x4 = some v4) (h5 : ev l x5 = some v5) (h6 : ev l x6 = some v6) (h7 : ev l x7 = some v7) (f : Value → Value → Value → Value → Value → Value → Value → Value → List Value) (hb : P.built t [(i0, v0), (i1, v1), (i2, v2), (i3, v3), (i4, v4), (i5, v5), (i6, v6), (i7, v7)] = some (f v0 v1 v2 v3 v4 v5 v6 v7).toArray) (hd : Nat.blt d n = true)
    (h : W P ops Q rest n (.cons d (.agg (f v0 v1 v2 v3 v4 v5 v6 v7).toArray) l) w) : W P ops Q ({ dst := some d, op := .build t #[(i0, x0), (i1, x1), (i2, x2), (i3, x3), (i4, x4), (i5, x5), (i6, x6), (i7, x7)], type := ty, pos := pos, after := af, guard := none } :: rest) n l w :=
  W_val rfl (inb_of hd) (R_build8 h0 h1 h2 h3 h4 h5 h6 h7 f hb) h
theorem R_build9 {x0 x1 x2 x3 x4 x5 x6 x7 x8 : Operand} {v0 v1 v2 v3 v4 v5 v6 v7 v8 : Value} {i0 i1 i2 i3 i4 i5 i6 i7 i8 : Nat} {t : TypeId} (h0 : ev l x0 = some v0) (h1 : ev l x1 = some v1) (h2 : ev l x2 = some v2) (h3 : ev l x3 = some v3) (h4 : ev l x4 = some v4) (h5 : ev l x5 = some v5) (h6 : ev l x6 = some v6) (h7 : ev l x7 = some v7) (h8 : ev l x8 = some v8) (f : Value → Value → Value → Value → Value → Value → Value → Value → Value → List Value) (hb : P.built t [(i0, v0), (i1, v1), (i2, v2), (i3, v3), (i4, v4), (i5, v5), (i6, v6), (i7, v7), (i8, v8)] = some (f v0 v1 v2 v3 v4 v5 v6 v7 v8).toArray) :
    Runs P n l { dst := some d, op := .build t #[(i0, x0), (i1, x1), (i2, x2), (i3, x3), (i4, x4), (i5, x5), (i6, x6), (i7, x7), (i8, x8)], type := ty, pos := pos, after := af, guard := none } (.agg (f v0 v1 v2 v3 v4 v5 v6 v7 v8).toArray) w := fun A hf => by
  have e := run_build (P := P) w t ([(i0, v0), (i1, v1), (i2, v2), (i3, v3), (i4, v4), (i5, v5), (i6, v6), (i7, v7), (i8, v8)] : List (Nat × Value)).toArray (f v0 v1 v2 v3 v4 v5 v6 v7 v8).toArray (by simpa using hb)
  simp [execOp, hf.eval h0, hf.eval h1, hf.eval h2, hf.eval h3, hf.eval h4, hf.eval h5, hf.eval h6, hf.eval h7, hf.eval h8,  e]
theorem W_build9 {x0 x1 x2 x3 x4 x5 x6 x7 x8 : Operand} {v0 v1 v2 v3 v4 v5 v6 v7 v8 : Value} {i0 i1 i2 i3 i4 i5 i6 i7 i8 : Nat} {t : TypeId} (h0 : ev l x0 = some v0) (h1 : ev l x1 = some v1) (h2 : ev l x2 = some v2) (h3 : ev l x3 = some v3) (h4 : ev l x4 = some v4) (h5 : ev l x5 = some v5) (h6 : ev l x6 = some v6) (h7 : ev l x7 = some v7) (h8 : ev l x8 = some v8) (f : Value → Value → Value → Value → Value → Value → Value → Value → Value → List Value) (hb : P.built t [(i0, v0), (i1, v1), (i2, v2), (i3, v3), (i4, v4), (i5, v5), (i6, v6), (i7, v7), (i8, v8)] = some (f v0 v1 v2 v3 v4 v5 v6 v7 v8).toArray) (hd : Nat.blt d n = true)
    (h : W P ops Q rest n (.cons d (.agg (f v0 v1 v2 v3 v4 v5 v6 v7 v8).toArray) l) w) : W P ops Q ({ dst := some d, op := .build t #[(i0, x0), (i1, x1), (i2, x2), (i3, x3), (i4, x4), (i5, x5), (i6, x6), (i7, x7), (i8, x8)], type := ty, pos := pos, after := af, guard := none } :: rest) n l w :=
  W_val rfl (inb_of hd) (R_build9 h0 h1 h2 h3 h4 h5 h6 h7 h8 f hb) h
theorem R_build10 {x0 x1 x2 x3 x4 x5 x6 x7 x8 x9 : Operand} {v0 v1 v2 v3 v4 v5 v6 v7 v8 v9 : Value} {i0 i1 i2 i3 i4 i5 i6 i7 i8 i9 : Nat} {t : TypeId} (h0 : ev l x0 = some v0) (h1 : ev l x1 = some v1) (h2 : ev l x2 = some v2) (h3 : ev l x3 = some v3) (h4 : ev l x4 = some v4) (h5 : ev l x5 = some v5) (h6 : ev l x6 = some v6) (h7 : ev l x7 = some v7) (h8 : ev l x8 = some v8) (h9 : ev l x9 = some v9) (f : Value → Value → Value → Value → Value → Value → Value → Value → Value → Value → List Value) (hb : P.built t [(i0, v0), (i1, v1), (i2, v2), (i3, v3), (i4, v4), (i5, v5), (i6, v6), (i7, v7), (i8, v8), (i9, v9)] = some (f v0 v1 v2 v3 v4 v5 v6 v7 v8 v9).toArray) :
    Runs P n l { dst := some d, op := .build t #[(i0, x0), (i1, x1), (i2, x2), (i3, x3), (i4, x4), (i5, x5), (i6, x6), (i7, x7), (i8, x8), (i9, x9)], type := ty, pos := pos, after := af, guard := none } (.agg (f v0 v1 v2 v3 v4 v5 v6 v7 v8 v9).toArray) w := fun A hf => by
  have e := run_build (P := P) w t ([(i0, v0), (i1, v1), (i2, v2), (i3, v3), (i4, v4), (i5, v5), (i6, v6), (i7, v7), (i8, v8), (i9, v9)] : List (Nat × Value)).toArray (f v0 v1 v2 v3 v4 v5 v6 v7 v8 v9).toArray (by simpa using hb)
  simp [execOp, hf.eval h0, hf.eval h1, hf.eval h2, hf.eval h3, hf.eval h4, hf.eval h5, hf.eval h6, hf.eval h7, hf.eval h8, hf.eval h9,  e]
theorem W_build10 {x0 x1 x2 x3 x4 x5 x6 x7 x8 x9 : Operand} {v0 v1 v2 v3 v4 v5 v6 v7 v8 v9 : Value} {i0 i1 i2 i3 i4 i5 i6 i7 i8 i9 : Nat} {t : TypeId} (h0 : ev l x0 = some v0) (h1 : ev l x1 = some v1) (h2 : ev l x2 = some v2) (h3 : ev l x3 = some v3) (h4 : ev l x4 = some v4) (h5 : ev l x5 = some v5) (h6 : ev l x6 = some v6) (h7 : ev l x7 = some v7) (h8 : ev l x8 = some v8) (h9 : ev l x9 = some v9) (f : Value → Value → Value → Value → Value → Value → Value → Value → Value → Value → List Value) (hb : P.built t [(i0, v0), (i1, v1), (i2, v2), (i3, v3), (i4, v4), (i5, v5), (i6, v6), (i7, v7), (i8, v8), (i9, v9)] = some (f v0 v1 v2 v3 v4 v5 v6 v7 v8 v9).toArray) (hd : Nat.blt d n = true)
    (h : W P ops Q rest n (.cons d (.agg (f v0 v1 v2 v3 v4 v5 v6 v7 v8 v9).toArray) l) w) : W P ops Q ({ dst := some d, op := .build t #[(i0, x0), (i1, x1), (i2, x2), (i3, x3), (i4, x4), (i5, x5), (i6, x6), (i7, x7), (i8, x8), (i9, x9)], type := ty, pos := pos, after := af, guard := none } :: rest) n l w :=
  W_val rfl (inb_of hd) (R_build10 h0 h1 h2 h3 h4 h5 h6 h7 h8 h9 f hb) h
theorem R_build11 {x0 x1 x2 x3 x4 x5 x6 x7 x8 x9 x10 : Operand} {v0 v1 v2 v3 v4 v5 v6 v7 v8 v9 v10 : Value} {i0 i1 i2 i3 i4 i5 i6 i7 i8 i9 i10 : Nat} {t : TypeId} (h0 : ev l x0 = some v0) (h1 : ev l x1 = some v1) (h2 : ev l x2 = some v2) (h3 : ev l x3 = some v3) (h4 : ev l x4 = some v4) (h5 : ev l x5 = some v5) (h6 : ev l x6 = some v6) (h7 : ev l x7 = some v7) (h8 : ev l x8 = some v8) (h9 : ev l x9 = some v9) (h10 : ev l x10 = some v10) (f : Value → Value → Value → Value → Value → Value → Value → Value → Value → Value → Value → List Value) (hb : P.built t [(i0, v0), (i1, v1), (i2, v2), (i3, v3), (i4, v4), (i5, v5), (i6, v6), (i7, v7), (i8, v8), (i9, v9), (i10, v10)] = some (f v0 v1 v2 v3 v4 v5 v6 v7 v8 v9 v10).toArray) :
    Runs P n l { dst := some d, op := .build t #[(i0, x0), (i1, x1), (i2, x2), (i3, x3), (i4, x4), (i5, x5), (i6, x6), (i7, x7), (i8, x8), (i9, x9), (i10, x10)], type := ty, pos := pos, after := af, guard := none } (.agg (f v0 v1 v2 v3 v4 v5 v6 v7 v8 v9 v10).toArray) w := fun A hf => by
  have e := run_build (P := P) w t ([(i0, v0), (i1, v1), (i2, v2), (i3, v3), (i4, v4), (i5, v5), (i6, v6), (i7, v7), (i8, v8), (i9, v9), (i10, v10)] : List (Nat × Value)).toArray (f v0 v1 v2 v3 v4 v5 v6 v7 v8 v9 v10).toArray (by simpa using hb)
  simp [execOp, hf.eval h0, hf.eval h1, hf.eval h2, hf.eval h3, hf.eval h4, hf.eval h5, hf.eval h6, hf.eval h7, hf.eval h8, hf.eval h9, hf.eval h10,  e]
theorem W_build11 {x0 x1 x2 x3 x4 x5 x6 x7 x8 x9 x10 : Operand} {v0 v1 v2 v3 v4 v5 v6 v7 v8 v9 v10 : Value} {i0 i1 i2 i3 i4 i5 i6 i7 i8 i9 i10 : Nat} {t : TypeId} (h0 : ev l x0 = some v0) (h1 : ev l x1 = some v1) (h2 : ev l x2 = some v2) (h3 : ev l x3 = some v3) (h4 : ev l x4 = some v4) (h5 : ev l x5 = some v5) (h6 : ev l x6 = some v6) (h7 : ev l x7 = some v7) (h8 : ev l x8 = some v8) (h9 : ev l x9 = some v9) (h10 : ev l x10 = some v10) (f : Value → Value → Value → Value → Value → Value → Value → Value → Value → Value → Value → List Value) (hb : P.built t [(i0, v0), (i1, v1), (i2, v2), (i3, v3), (i4, v4), (i5, v5), (i6, v6), (i7, v7), (i8, v8), (i9, v9), (i10, v10)] = some (f v0 v1 v2 v3 v4 v5 v6 v7 v8 v9 v10).toArray) (hd : Nat.blt d n = true)
    (h : W P ops Q rest n (.cons d (.agg (f v0 v1 v2 v3 v4 v5 v6 v7 v8 v9 v10).toArray) l) w) : W P ops Q ({ dst := some d, op := .build t #[(i0, x0), (i1, x1), (i2, x2), (i3, x3), (i4, x4), (i5, x5), (i6, x6), (i7, x7), (i8, x8), (i9, x9), (i10, x10)], type := ty, pos := pos, after := af, guard := none } :: rest) n l w :=
  W_val rfl (inb_of hd) (R_build11 h0 h1 h2 h3 h4 h5 h6 h7 h8 h9 h10 f hb) h
theorem R_build12 {x0 x1 x2 x3 x4 x5 x6 x7 x8 x9 x10 x11 : Operand} {v0 v1 v2 v3 v4 v5 v6 v7 v8 v9 v10 v11 : Value} {i0 i1 i2 i3 i4 i5 i6 i7 i8 i9 i10 i11 : Nat} {t : TypeId} (h0 : ev l x0 = some v0) (h1 : ev l x1 = some v1) (h2 : ev l x2 = some v2) (h3 : ev l x3 = some v3) (h4 : ev l x4 = some v4) (h5 : ev l x5 = some v5) (h6 : ev l x6 = some v6) (h7 : ev l x7 = some v7) (h8 : ev l x8 = some v8) (h9 : ev l x9 = some v9) (h10 : ev l x10 = some v10) (h11 : ev l x11 = some v11) (f : Value → Value → Value → Value → Value → Value → Value → Value → Value → Value → Value → Value → List Value) (hb : P.built t [(i0, v0), (i1, v1), (i2, v2), (i3, v3), (i4, v4), (i5, v5), (i6, v6), (i7, v7), (i8, v8), (i9, v9), (i10, v10), (i11, v11)] = some (f v0 v1 v2 v3 v4 v5 v6 v7 v8 v9 v10 v11).toArray) :
    Runs P n l { dst := some d, op := .build t #[(i0, x0), (i1, x1), (i2, x2), (i3, x3), (i4, x4), (i5, x5), (i6, x6), (i7, x7), (i8, x8), (i9, x9), (i10, x10), (i11, x11)], type := ty, pos := pos, after := af, guard := none } (.agg (f v0 v1 v2 v3 v4 v5 v6 v7 v8 v9 v10 v11).toArray) w := fun A hf => by
  have e := run_build (P := P) w t ([(i0, v0), (i1, v1), (i2, v2), (i3, v3), (i4, v4), (i5, v5), (i6, v6), (i7, v7), (i8, v8), (i9, v9), (i10, v10), (i11, v11)] : List (Nat × Value)).toArray (f v0 v1 v2 v3 v4 v5 v6 v7 v8 v9 v10 v11).toArray (by simpa using hb)
  simp [execOp, hf.eval h0, hf.eval h1, hf.eval h2, hf.eval h3, hf.eval h4, hf.eval h5, hf.eval h6, hf.eval h7, hf.eval h8, hf.eval h9, hf.eval h10, hf.eval h11,  e]
theorem W_build12 {x0 x1 x2 x3 x4 x5 x6 x7 x8 x9 x10 x11 : Operand} {v0 v1 v2 v3 v4 v5 v6 v7 v8 v9 v10 v11 : Value} {i0 i1 i2 i3 i4 i5 i6 i7 i8 i9 i10 i11 : Nat} {t : TypeId} (h0 : ev l x0 = some v0) (h1 : ev l x1 = some v1) (h2 : ev l x2 = some v2) (h3 : ev l x3 = some v3) (h4 : ev l x4 = some v4) (h5 : ev l x5 = some v5) (h6 : ev l x6 = some v6) (h7 : ev l x7 = some v7) (h8 : ev l x8 = some v8) (h9 : ev l x9 = some v9) (h10 : ev l x10 = some v10) (h11 : ev l x11 = some v11) (f : Value → Value → Value → Value → Value → Value → Value → Value → Value → Value → Value → Value → List Value) (hb : P.built t [(i0, v0), (i1, v1), (i2, v2), (i3, v3), (i4, v4), (i5, v5), (i6, v6), (i7, v7), (i8, v8), (i9, v9), (i10, v10), (i11, v11)] = some (f v0 v1 v2 v3 v4 v5 v6 v7 v8 v9 v10 v11).toArray) (hd : Nat.blt d n = true)
    (h : W P ops Q rest n (.cons d (.agg (f v0 v1 v2 v3 v4 v5 v6 v7 v8 v9 v10 v11).toArray) l) w) : W P ops Q ({ dst := some d, op := .build t #[(i0, x0), (i1, x1), (i2, x2), (i3, x3), (i4, x4), (i5, x5), (i6, x6), (i7, x7), (i8, x8), (i9, x9), (i10, x10), (i11, x11)], type := ty, pos := pos, after := af, guard := none } :: rest) n l w :=
  W_val rfl (inb_of hd) (R_build12 h0 h1 h2 h3 h4 h5 h6 h7 h8 h9 h10 h11 f hb) h

theorem zero_cells {z : Value} {s m : Nat} : ((Array.range (m * s)).map (z.cells[· % z.cells.size]!)).size = m * s := by simp
/-- A slice literal: 'parts' lie one behind the other. -/
theorem run_bslice {t e : TypeId} {s : Nat} {z : Value} {vs : List Value} {cs : List Value} (ht : P.underlying t = some (.slice e)) (hs : psize? P e = some s) (hz : zeroV P e = some z) (hb : vs.length * s ≤ 16777216)
    (hc : ∀ v ∈ vs, v.cells.size = s) (hcs : (vs.map fun v => v.cells.toList).flatten = cs) :
    (Instr.buildSlice t vs.length (vs.zipIdx.map fun p => (p.2, p.1)).toArray).run P w = .ok (.slice (some ⟨w.heap.size, 0, none⟩) vs.length vs.length) (w.alloc (.cells cs.toArray e)) := by
  have key : ∀ (us : List Value) (k : Nat) (cur : List Value), (∀ v ∈ us, v.cells.size = s) → cur.length = (k + us.length) * s →
      Instr.fill (fun i => some (i * s, s)) cur.toArray ((us.zipIdx k).map fun p => (p.2, p.1)) = some ((cur.take (k * s) ++ (us.map fun v => v.cells.toList).flatten).toArray) := by
    intro us
    induction us with
    | nil => intro k cur _ hl; simp only [List.length_nil, Nat.add_zero] at hl; simp [Instr.fill, ← hl]
    | cons u r ih =>
      intro k cur hc hl
      have hu : u.cells.toList.length = s := by simpa using hc u (by simp)
      have hmul : (k + (r.length + 1)) * s = k * s + s + r.length * s := by rw [Nat.add_mul, Nat.add_mul]; omega
      simp only [List.length_cons] at hl
      simp only [List.zipIdx_cons, List.map_cons]
      rw [fill_cons (place := fun i => some (i * s, s)) (L := u.cells.toList) rfl (by simp) hu (by omega)]
      rw [ih (k + 1) _ (fun v hv => hc v (by simp [hv])) (by
        simp only [List.length_append, List.length_take, List.length_drop, hu]
        rw [show (k + 1 + r.length) = k + (r.length + 1) by omega, hmul]; omega)]
      congr 2
      rw [show (k + 1) * s = k * s + s by rw [Nat.add_mul]; omega]
      simp only [List.flatten_cons]
      rw [← List.append_assoc]
      congr 1
      have h1 : (cur.take (k * s) ++ u.cells.toList).length = k * s + s := by simp only [List.length_append, List.length_take, hu]; omega
      rw [← h1]; exact List.take_left
  have hlen : ((Array.range (vs.length * s)).map (z.cells[· % z.cells.size]!)).toList.length = (0 + vs.length) * s := by simp
  have hk := key vs 0 _ hc hlen
  simp only [Array.toArray_toList, Nat.zero_mul, List.take_zero, List.nil_append, hcs] at hk
  unfold Instr.buildSlice
  have hb' : ¬ vs.length * s > 2 ^ 24 := by omega
  simp only [Sem.run_bind, run_underlying ht, Result.andThen_ok, run_size hs, if_neg hb']
  by_cases h0 : vs.length * s = 0
  · have hcs0 : cs = [] := by
      rcases Nat.mul_eq_zero.1 h0 with h | h
      · have : vs = [] := List.eq_nil_of_length_eq_zero h
        subst this; simpa using hcs.symm
      · subst h
        rw [← hcs]
        apply List.flatten_eq_nil_iff.2
        intro x hx
        obtain ⟨v, hv, rfl⟩ := List.mem_map.1 hx
        have := hc v hv
        simpa using this
    have hf : Instr.fill (fun i => some (i * s, s)) (#[] : Array Value) ((vs.zipIdx.map fun p => (p.2, p.1))) = some #[] := by
      have : ((Array.range (vs.length * s)).map (z.cells[· % z.cells.size]!)) = #[] := Array.eq_empty_of_size_eq_zero (by simp [h0])
      rw [this, hcs0] at hk; simpa using hk
    have hz0 : ∀ f : Nat → Value, (Array.range (vs.length * s)).map f = #[] := fun f => Array.eq_empty_of_size_eq_zero (by simp [h0])
    simp only [if_pos h0, Sem.run_pure, Result.andThen_ok, hz0, hf, hcs0]
    simp [newRow]
  · simp only [if_neg h0, Sem.run_bind, run_zero hz, Result.andThen_ok, Sem.run_pure, hk]
    simp [newRow]


theorem W_bslice0 {t e : TypeId} {s : Nat} {z : Value}   (hp : Hp w0 M F w) (ht : P.underlying t = some (.slice e)) (hs : psize? P e = some s) (hz : zeroV P e = some z)   (f : List Value) (hb : Nat.ble (0 * s) 16777216 = true)
    (hcs : (([] : List Value).map fun v => v.cells.toList).flatten = f) (hd : Nat.blt d n = true)
    (h : ∀ b w', Hp w0 M ((b, .cells f.toArray e) :: F) w' → W P ops Q rest n (.cons d (.slice (some ⟨b, 0, none⟩) 0 0) l) w') :
    W P ops Q ({ dst := some d, op := .buildSlice t 0 #[], type := ty, pos := pos, after := af, guard := none } :: rest) n l w := by
  refine W_val rfl (inb_of hd) (fun A hf => ?_) (h _ _ (hp.alloc _))
  have e1 := run_bslice (P := P) (w := w) (vs := []) ht hs hz (Nat.le_of_ble_eq_true hb) (by simp [*]) hcs
  simp only [List.length_cons, List.length_nil, List.zipIdx_cons, List.zipIdx_nil, List.map_cons, List.map_nil, Nat.zero_add, Nat.reduceAdd] at e1
  simp [execOp,  e1]
theorem W_bslice1 {t e : TypeId} {s : Nat} {z : Value} {x0 : Operand} {v0 : Value} (hp : Hp w0 M F w) (ht : P.underlying t = some (.slice e)) (hs : psize? P e = some s) (hz : zeroV P e = some z) (h0 : ev l x0 = some v0) (c0 : v0.cells.size = s) (f : Value → List Value) (hb : Nat.ble (1 * s) 16777216 = true)
    (hcs : (([v0] : List Value).map fun v => v.cells.toList).flatten = (f v0)) (hd : Nat.blt d n = true)
    (h : ∀ b w', Hp w0 M ((b, .cells (f v0).toArray e) :: F) w' → W P ops Q rest n (.cons d (.slice (some ⟨b, 0, none⟩) 1 1) l) w') :
    W P ops Q ({ dst := some d, op := .buildSlice t 1 #[(0, x0)], type := ty, pos := pos, after := af, guard := none } :: rest) n l w := by
  refine W_val rfl (inb_of hd) (fun A hf => ?_) (h _ _ (hp.alloc _))
  have e1 := run_bslice (P := P) (w := w) (vs := [v0]) ht hs hz (Nat.le_of_ble_eq_true hb) (by simp [*]) hcs
  simp only [List.length_cons, List.length_nil, List.zipIdx_cons, List.zipIdx_nil, List.map_cons, List.map_nil, Nat.zero_add, Nat.reduceAdd] at e1
  simp [execOp, hf.eval h0,  e1]
theorem W_bslice2 {t e : TypeId} {s : Nat} {z : Value} {x0 x1 : Operand} {v0 v1 : Value} (hp : Hp w0 M F w) (ht : P.underlying t = some (.slice e)) (hs : psize? P e = some s) (hz : zeroV P e = some z) (h0 : ev l x0 = some v0) (h1 : ev l x1 = some v1) (c0 : v0.cells.size = s) (c1 : v1.cells.size = s) (f : Value → Value → List Value) (hb : Nat.ble (2 * s) 16777216 = true)
    (hcs : (([v0, v1] : List Value).map fun v => v.cells.toList).flatten = (f v0 v1)) (hd : Nat.blt d n = true)
    (h : ∀ b w', Hp w0 M ((b, .cells (f v0 v1).toArray e) :: F) w' → W P ops Q rest n (.cons d (.slice (some ⟨b, 0, none⟩) 2 2) l) w') :
    W P ops Q ({ dst := some d, op := .buildSlice t 2 #[(0, x0), (1, x1)], type := ty, pos := pos, after := af, guard := none } :: rest) n l w := by
  refine W_val rfl (inb_of hd) (fun A hf => ?_) (h _ _ (hp.alloc _))
  have e1 := run_bslice (P := P) (w := w) (vs := [v0, v1]) ht hs hz (Nat.le_of_ble_eq_true hb) (by simp [*]) hcs
  simp only [List.length_cons, List.length_nil, List.zipIdx_cons, List.zipIdx_nil, List.map_cons, List.map_nil, Nat.zero_add, Nat.reduceAdd] at e1
  simp [execOp, hf.eval h0, hf.eval h1,  e1]
theorem W_bslice3 {t e : TypeId} {s : Nat} {z : Value} {x0 x1 x2 : Operand} {v0 v1 v2 : Value} (hp : Hp w0 M F w) (ht : P.underlying t = some (.slice e)) (hs : psize? P e = some s) (hz : zeroV P e = some z) (h0 : ev l x0 = some v0) (h1 : ev l x1 = some v1) (h2 : ev l x2 = some v2) (c0 : v0.cells.size = s) (c1 : v1.cells.size = s) (c2 : v2.cells.size = s) (f : Value → Value → Value → List Value) (hb : Nat.ble (3 * s) 16777216 = true)
    (hcs : (([v0, v1, v2] : List Value).map fun v => v.cells.toList).flatten = (f v0 v1 v2)) (hd : Nat.blt d n = true)
    (h : ∀ b w', Hp w0 M ((b, .cells (f v0 v1 v2).toArray e) :: F) w' → W P ops Q rest n (.cons d (.slice (some ⟨b, 0, none⟩) 3 3) l) w') :
    W P ops Q ({ dst := some d, op := .buildSlice t 3 #[(0, x0), (1, x1), (2, x2)], type := ty, pos := pos, after := af, guard := none } :: rest) n l w := by
  refine W_val rfl (inb_of hd) (fun A hf => ?_) (h _ _ (hp.alloc _))
  have e1 := run_bslice (P := P) (w := w) (vs := [v0, v1, v2]) ht hs hz (Nat.le_of_ble_eq_true hb) (by simp [*]) hcs
  simp only [List.length_cons, List.length_nil, List.zipIdx_cons, List.zipIdx_nil, List.map_cons, List.map_nil, Nat.zero_add, Nat.reduceAdd] at e1
  simp [execOp, hf.eval h0, hf.eval h1, hf.eval h2,  e1]
theorem W_bslice4 {t e : TypeId} {s : Nat} {z : Value} {x0 x1 x2 x3 : Operand} {v0 v1 v2 v3 : Value} (hp : Hp w0 M F w) (ht : P.underlying t = some (.slice e)) (hs : psize? P e = some s) (hz : zeroV P e = some z) (h0 : ev l x0 = some v0) (h1 : ev l x1 = some v1) (h2 : ev l x2 = some v2) (h3 : ev l x3 = some v3) (c0 : v0.cells.size = s) (c1 : v1.cells.size = s) (c2 : v2.cells.size = s) (c3 : v3.cells.size = s) (f : Value → Value → Value → Value → List Value) (hb : Nat.ble (4 * s) 16777216 = true)
    (hcs : (([v0, v1, v2, v3] : List Value).map fun v => v.cells.toList).flatten = (f v0 v1 v2 v3)) (hd : Nat.blt d n = true)
    (h : ∀ b w', Hp w0 M ((b, .cells (f v0 v1 v2 v3).toArray e) :: F) w' → W P ops Q rest n (.cons d (.slice (some ⟨b, 0, none⟩) 4 4) l) w') :
    W P ops Q ({ dst := some d, op := .buildSlice t 4 #[(0, x0), (1, x1), (2, x2), (3, x3)], type := ty, pos := pos, after := af, guard := none } :: rest) n l w := by
  refine W_val rfl (inb_of hd) (fun A hf => ?_) (h _ _ (hp.alloc _))
  have e1 := run_bslice (P := P) (w := w) (vs := [v0, v1, v2, v3]) ht hs hz (Nat.le_of_ble_eq_true hb) (by simp [*]) hcs
  simp only [List.length_cons, List.length_nil, List.zipIdx_cons, List.zipIdx_nil, List.map_cons, List.map_nil, Nat.zero_add, Nat.reduceAdd] at e1
  simp [execOp, hf.eval h0, hf.eval h1, hf.eval h2, hf.eval h3,  e1]
theorem W_bslice5 {t e : TypeId} {s : Nat} {z : Value} {x0 x1 x2 x3 x4 : Operand} {v0 v1 v2 v3 v4 : Value} (hp : Hp w0 M F w) (ht : P.underlying t = some (.slice e)) (hs : psize? P e = some s) (hz : zeroV P e = some z) (h0 : ev l x0 = some v0) (h1 : ev l x1 = some v1) (h2 : ev l x2 = some v2) (h3 : ev l x3 = some v3) (h4 : ev l x4 = some v4) (c0 : v0.cells.size = s) (c1 : v1.cells.size = s) (c2 : v2.cells.size = s) (c3 : v3.cells.size = s) (c4 : v4.cells.size = s) (f : Value → Value → Value → Value → Value → List Value) (hb : Nat.ble (5 * s) 16777216 = true)
    (hcs : (([v0, v1, v2, v3, v4] : List Value).map fun v => v.cells.toList).flatten = (f v0 v1 v2 v3 v4)) (hd : Nat.blt d n = true)
    (h : ∀ b w', Hp w0 M ((b, .cells (f v0 v1 v2 v3 v4).toArray e) :: F) w' → W P ops Q rest n (.cons d (.slice (some ⟨b, 0, none⟩) 5 5) l) w') :
    W P ops Q ({ dst := some d, op := .buildSlice t 5 #[(0, x0), (1, x1), (2, x2), (3, x3), (4, x4)], type := ty, pos := pos, after := af, guard := none } :: rest) n l w := by
  refine W_val rfl (inb_of hd) (fun A hf => ?_) (h _ _ (hp.alloc _))
  have e1 := run_bslice (P := P) (w := w) (vs := [v0, v1, v2, v3, v4]) ht hs hz (Nat.le_of_ble_eq_true hb) (by simp [*]) hcs
  simp only [List.length_cons, List.length_nil, List.zipIdx_cons, List.zipIdx_nil, List.map_cons, List.map_nil, Nat.zero_add, Nat.reduceAdd] at e1
  simp [execOp, hf.eval h0, hf.eval h1, hf.eval h2, hf.eval h3, hf.eval h4,  e1]
theorem W_bslice6 {t e : TypeId} {s : Nat} {z : Value} {x0 x1 x2 x3 x4 x5 : Operand} {v0 v1 v2 v3 v4 v5 : Value} (hp : Hp w0 M F w) (ht : P.underlying t = some (.slice e)) (hs : psize? P e = some s) (hz : zeroV P e = some z) (h0 : ev l x0 = some v0) (h1 : ev l x1 = some v1) (h2 : ev l x2 = some v2) (h3 : ev l x3 = some v3) (h4 : ev l x4 = some v4) (h5 : ev l x5 = some v5) (c0 : v0.cells.size = s) (c1 : v1.cells.size = s) (c2 : v2.cells.size = s) (c3 : v3.cells.size = s) (c4 : v4.cells.size = s) (c5 : v5.cells.size = s) (f : Value → Value → Value → Value → Value → Value → List Value) (hb : Nat.ble (6 * s) 16777216 = true)
    (hcs : (([v0, v1, v2, v3, v4, v5] : List Value).map fun v => v.cells.toList).flatten = (f v0 v1 v2 v3 v4 v5)) (hd : Nat.blt d n = true)
    (h : ∀ b w', Hp w0 M ((b, .cells (f v0 v1 v2 v3 v4 v5).toArray e) :: F) w' → W P ops Q rest n (.cons d (.slice (some ⟨b, 0, none⟩) 6 6) l) w') :
    W P ops Q ({ dst := some d, op := .buildSlice t 6 #[(0, x0), (1, x1), (2, x2), (3, x3), (4, x4), (5, x5)], type := ty, pos := pos, after := af, guard := none } :: rest) n l w := by
  refine W_val rfl (inb_of hd) (fun A hf => ?_) (h _ _ (hp.alloc _))
  have e1 := run_bslice (P := P) (w := w) (vs := [v0, v1, v2, v3, v4, v5]) ht hs hz (Nat.le_of_ble_eq_true hb) (by simp [*]) hcs
  simp only [List.length_cons, List.length_nil, List.zipIdx_cons, List.zipIdx_nil, List.map_cons, List.map_nil, Nat.zero_add, Nat.reduceAdd] at e1
  simp [execOp, hf.eval h0, hf.eval h1, hf.eval h2, hf.eval h3, hf.eval h4, hf.eval h5,  e1]
theorem W_bslice7 {t e : TypeId} {s : Nat} {z : Value} {x0 x1 x2 x3 x4 x5 x6 : Operand} {v0 v1 v2 v3 v4 v5 v6 : Value} (hp : Hp w0 M F w) (ht : P.underlying t = some (.slice e)) (hs : psize? P e = some s) (hz : zeroV P e = some z) (h0 : ev l x0 = some v0) (h1 : ev l x1 = some v1) (h2 : ev l x2 = some v2) (h3 : ev l x3 = some v3) (h4 : ev l x4 = some v4) (h5 : ev l x5 = some v5) (h6 : ev l x6 = some v6) (c0 : v0.cells.size = s) (c1 : v1.cells.size = s) (c2 : v2.cells.size = s) (c3 : v3.cells.size = s) (c4 : v4.cells.size = s) (c5 : v5.cells.size = s) (c6 : v6.cells.size = s) (f : Value → Value → Value → Value → Value → Value → Value → List Value) (hb : Nat.ble (7 * s) 16777216 = true)
    (hcs : (([v0, v1, v2, v3, v4, v5, v6] : List Value).map fun v => v.cells.toList).flatten = (f v0 v1 v2 v3 v4 v5 v6)) (hd : Nat.blt d n = true)
    (h : ∀ b w', Hp w0 M ((b, .cells (f v0 v1 v2 v3 v4 v5 v6).toArray e) :: F) w' → W P ops Q rest n (.cons d (.slice (some ⟨b, 0, none⟩) 7 7) l) w') :
    W P ops Q ({ dst := some d, op := .buildSlice t 7 #[(0, x0), (1, x1), (2, x2), (3, x3), (4, x4), (5, x5), (6, x6)], type := ty, pos := pos, after := af, guard := none } :: rest) n l w := by
  refine W_val rfl (inb_of hd) (fun A hf => ?_) (h _ _ (hp.alloc _))
  have e1 := run_bslice (P := P) (w := w) (vs := [v0, v1, v2, v3, v4, v5, v6]) ht hs hz (Nat.le_of_ble_eq_true hb) (by simp [*]) hcs
  simp only [List.length_cons, List.length_nil, List.zipIdx_cons, List.zipIdx_nil, List.map_cons, List.map_nil, Nat.zero_add, Nat.reduceAdd] at e1
  simp [execOp, hf.eval h0, hf.eval h1, hf.eval h2, hf.eval h3, hf.eval h4, hf.eval h5, hf.eval h6,  e1]
theorem W_bslice8 {t e : TypeId} {s : Nat} {z : Value} {x0 x1 x2 x3 x4 x5 x6 x7 : Operand} {v0 v1 v2 v3 v4 v5 v6 v7 : Value} (hp : Hp w0 M F w) (ht : P.underlying t = some (.slice e)) (hs : psize? P e = some s) (hz : zeroV P e = some z) (h0 : ev l x0 = some v0) (h1 : ev l x1 = some v1) (h2 : ev l x2 = some v2) (h3 : ev l x3 = some v3) (h4 : ev l x4 = some v4) (h5 : ev l x5 = some v5) (h6 : ev l x6 = some v6) (h7 : ev l x7 = some v7) (c0 : v0.cells.size = s) (c1 : v1.cells.size = s) (c2 : v2.cells.size = s) (c3 : v3.cells.size = s) (c4 : v4.cells.size = s) (c5 : v5.cells.size = s) (c6 : v6.cells.size = s) (c7 : v7.cells.size = s) (f : Value → Value → Value → Value → Value → Value → Value → Value → List Value) (hb : Nat.ble (8 * s) 16777216 = true)
    (hcs : (([v0, v1, v2, v3, v4, v5, v6, v7] : List Value).map fun v => v.cells.toList).flatten = (f v0 v1 v2 v3 v4 v5 v6 v7)) (hd : Nat.blt d n = true)
    (h : ∀ b w', Hp w0 M ((b, .cells (f v0 v1 v2 v3 v4 v5 v6 v7).toArray e) :: F) w' → W P ops Q rest n (.cons d (.slice (some ⟨b, 0, none⟩) 8 8) l) w') :
    W P ops Q ({ dst := some d, op := .buildSlice t 8 #[(0, x0), (1, x1), (2, x2), (3, x3), (4, x4), (5, x5), (6, x6), (7, x7)], type := ty, pos := pos, after := af, guard := none } :: rest) n l w := by
  refine W_val rfl (inb_of hd) (fun A hf => ?_) (h _ _ (hp.alloc _))
  have e1 := run_bslice (P := P) (w := w) (vs := [v0, v1, v2, v3, v4, v5, v6, v7]) ht hs hz (Nat.le_of_ble_eq_true hb) (by simp [*]) hcs
  simp only [List.length_cons, List.length_nil, List.zipIdx_cons, List.zipIdx_nil, List.map_cons, List.map_nil, Nat.zero_add, Nat.reduceAdd] at e1
  simp [execOp, hf.eval h0, hf.eval h1, hf.eval h2, hf.eval h3, hf.eval h4, hf.eval h5, hf.eval h6, hf.eval h7,  e1]

/-! Rows that grow -/
/-- 'v' is the call's own row of 'n' elements ('sz' cells each), whose cells are 'xs'; 'Hs' is its block, if it has one. -/
def OS (e : TypeId) (sz : Nat) (v : Value) (n : Nat) (xs : List Value) (Hs : Heap) : Prop :=
  xs.length = n * sz ∧ ((v = .slice none 0 0 ∧ n = 0 ∧ Hs = []) ∨
    ∃ (b cap : Nat) (cur : List Value) (fz : Nat × Nat), v = .slice (some ⟨b, 0, none⟩) n cap ∧ n ≤ cap ∧ cap ≤ maxLen ∧ cur.length = cap * sz ∧ cur.take (n * sz) = xs ∧ (fz.2 = 0 ∨ cur.length ≤ fz.1) ∧ Hs = [(b, .cells cur.toArray e fz)])
theorem OS.nil {e : TypeId} {sz : Nat} : OS e sz (.slice none 0 0) 0 [] [] := ⟨by simp, .inl ⟨rfl, rfl, rfl⟩⟩
theorem OS.lit {e : TypeId} {sz b k : Nat} {cs : List Value} (hl : cs.length = k * sz) (hk : k ≤ maxLen) : OS e sz (.slice (some ⟨b, 0, none⟩) k k) k cs [(b, .cells cs.toArray e)] :=
  ⟨hl, .inr ⟨b, k, cs, (0, 0), rfl, Nat.le_refl _, hk, hl, by rw [← hl]; exact List.take_length, .inl rfl, rfl⟩⟩
theorem OS.made {e : TypeId} {sz b c k : Nat} {cs : List Value} (hl : cs.length = c * sz) (hk : k ≤ c) (hc : c ≤ maxLen) : OS e sz (.slice (some ⟨b, 0, none⟩) k c) k (cs.take (k * sz)) [(b, .cells cs.toArray e)] :=
  ⟨by rw [List.length_take, hl]; exact Nat.min_eq_left (Nat.mul_le_mul_right _ hk), .inr ⟨b, c, cs, (0, 0), rfl, hk, hc, hl, rfl, .inl rfl, rfl⟩⟩
/-- It is a slice value of its length. -/
theorem OS.form {e : TypeId} {sz : Nat} {v : Value} {k : Nat} {xs : List Value} {Hs : Heap} (h : OS e sz v k xs Hs) : ∃ A c, v = .slice A k c := by
  rcases h.2 with ⟨rfl, rfl, _⟩ | ⟨b, cap, cur, fz, rfl, _⟩
  · exact ⟨_, _, rfl⟩
  · exact ⟨_, _, rfl⟩
/-- Its cells, as they lie in the memory. -/
theorem OS.cells {e : TypeId} {sz : Nat} {v : Value} {k : Nat} {xs : List Value} {Hs A B : Heap} (h : OS e sz v k xs Hs) (hp : Hp w0 M (A ++ (Hs ++ B)) w) (hk : 0 < k) :
    ∃ b c, v = .slice (some ⟨b, 0, none⟩) k c ∧ ∀ j u, xs[j]? = some u → w.cell? ⟨b, j, none⟩ = some u := by
  rcases h.2 with ⟨rfl, rfl, _⟩ | ⟨b, cap, cur, fz, rfl, h1, h2, h3, h4, h5, rfl⟩
  · omega
  · refine ⟨b, cap, rfl, fun j u hj => ?_⟩
    have hjl : j < k * sz := by rw [← h.1]; exact (List.getElem?_eq_some_iff.1 hj).1
    rw [← h4, List.getElem?_take_of_lt hjl] at hj
    exact cell_of_block (hp.own (b, .cells cur.toArray e fz) (by simp)) (by simpa using hj)

theorem OS.rd {e : TypeId} {sz : Nat} {v : Value} {k : Nat} {xs : List Value} {Hs A B : Heap} (h : OS e sz v k xs Hs) (hp : Hp w0 M (A ++ (Hs ++ B)) w) : Rd w v k xs := by
  rcases h.2 with ⟨rfl, rfl, _⟩ | ⟨b, cap, cur, fz, rfl, h1, h2, h3, h4, h5, rfl⟩
  · have : xs = [] := List.eq_nil_of_length_eq_zero (by simpa using h.1)
    subst this; exact Rd.nil w
  · exact Rd.own hp (b := b) (cs := cur) (e := e) (fz := fz) (by simp) (h4 ▸ List.take_prefix _ _)
def pbytes? (P : Program) (t : TypeId) : Option Nat := (P.info? t).map (·.bytes)
theorem info_of {P : Program} {e : TypeId} {s by_ : Nat} {z : Value} (h1 : psize? P e = some s) (h2 : pbytes? P e = some by_) (h3 : zeroV P e = some z) : ∃ i, P.info? e = some i ∧ i.size = s ∧ i.bytes = by_ ∧ i.zero = some z := by
  unfold psize? at h1; unfold pbytes? at h2; unfold zeroV at h3
  cases hi : P.info? e with
  | none => simp [hi] at h1
  | some i => exact ⟨i, rfl, by simpa [hi] using h1, by simpa [hi] using h2, by simpa [hi] using h3⟩

theorem append_in {t e xt ty' : TypeId} {i : TypeInfo} {dx : TypeDesc} {x : Value} {b : Addr} {k cap m : Nat} {news : List Value} {w1 : World} (ht : P.underlying t = some (.slice e)) (hdx : P.underlying xt = some dx) (hn : (∃ q, dx = .slice q) ∨ dx = .string) (hi : P.info? e = some i)
    (hlen : (Builtin.lenOf x).run P w = .ok m w) (hroom : k + m ≤ cap) (hc : (Builtin.firstCells i.size m x).run P w = .ok news.toArray w) (hst : (storeCells (b.add (k * i.size)) news).run P w = .ok () w1) :
    (Builtin.append_ #[t, xt] ty' #[.slice (some b) k cap, x]).run P w = .ok (.slice (some b) (k + m) cap) w1 := by
  rcases hn with ⟨q, rfl⟩ | rfl <;> simp [Builtin.append_, run_underlying ht, run_underlying hdx, sizeOf, typeInfo, hi, hlen, hroom, hc, hst]
theorem append_in0 {t e xt ty' : TypeId} {i : TypeInfo} {dx : TypeDesc} {x : Value} (ht : P.underlying t = some (.slice e)) (hdx : P.underlying xt = some dx) (hn : (∃ q, dx = .slice q) ∨ dx = .string) (hi : P.info? e = some i)
    (hlen : (Builtin.lenOf x).run P w = .ok 0 w) (hc : (Builtin.firstCells i.size 0 x).run P w = .ok #[] w) :
    (Builtin.append_ #[t, xt] ty' #[.slice none 0 0, x]).run P w = .ok (.slice none 0 0) w := by
  rcases hn with ⟨q, rfl⟩ | rfl <;> simp [Builtin.append_, run_underlying ht, run_underlying hdx, sizeOf, typeInfo, hi, hlen, hc]
theorem app_assoc3 (a b : List Value) (Z : Array Value) : a.toArray ++ (b.toArray ++ Z) = (a ++ b).toArray ++ Z := by
  apply Array.ext'; simp
theorem append_out {t e xt ty' : TypeId} {i : TypeInfo} {dx : TypeDesc} {x z : Value} {base : Option Addr} {k cap m : Nat} {olds news : List Value} (ht : P.underlying t = some (.slice e)) (hdx : P.underlying xt = some dx) (hn : (∃ q, dx = .slice q) ∨ dx = .string) (hi : P.info? e = some i) (hz : i.zero = some z)
    (hlen : (Builtin.lenOf x).run P w = .ok m w) (hroom : ¬ k + m ≤ cap) (hc : (Builtin.firstCells i.size m x).run P w.drew = .ok news.toArray w.drew) (hold : (Builtin.firstCells i.size k (.slice base k cap)).run P w.drew = .ok olds.toArray w.drew)
    (h48 : Builtin.nextslicecap (k + m) cap * i.bytes ≤ 281474976710656) (h63 : k + m ≤ 9223372036854775807) :
    (Builtin.append_ #[t, xt] ty' #[.slice base k cap, x]).run P w = .ok (.slice (some ⟨w.heap.size, 0, none⟩) (k + m) (grownCap w (k + m) cap e)) (w.drew.alloc (.cells (olds.toArray ++ news.toArray ++ Builtin.zeroCells z.cells (grownCap w (k + m) cap e - (k + m))) e)) := by
  have h48' : ¬ (281474976710656 < Builtin.nextslicecap (k + m) cap * i.bytes) := by omega
  have h63' : ¬ (9223372036854775807 < ((k : Int) + (m : Int))) := by omega
  rcases hn with ⟨q, rfl⟩ | rfl <;> simp [Builtin.append_, run_underlying ht, run_underlying hdx, sizeOf, typeInfo, zeroValue, hi, hz, hlen, hroom, hc, hold, h48', h63', Question.forced, newRow, grownCap] <;> rw [app_assoc3]

/-- What append does to the call's own row: 'news' are the cells that are put behind it, however they are told. -/
theorem append_own {t e xt : TypeId} {ty' : TypeId} {s by_ : Nat} {z x : Value} (ht : P.underlying t = some (.slice e)) (hs : psize? P e = some s) (hby : pbytes? P e = some by_) (hz : zeroV P e = some z) (hzs : z.cells.size = s) (hs0 : 0 < s)
    {A B Hs : Heap} {v : Value} {k m : Nat} {xs news : List Value} (hp : Hp w0 M (A ++ (Hs ++ B)) w) (hos : OS e s v k xs Hs) (hl : news.length = m * s)
    (hlen : (Builtin.lenOf x).run P w = .ok m w) (hxt : ∃ dx, P.underlying xt = some dx ∧ ((∃ q, dx = .slice q) ∨ dx = .string))
    (hcells : ∀ w', w'.heap = w.heap → (Builtin.firstCells s m x).run P w' = .ok news.toArray w') (h1 : ∀ u ∈ news, u.oneCell' = true) (h63 : k + m ≤ maxLen) (hbytes : (k + m) * by_ ≤ 140737488355328) :
    ∃ v' Hs' w', (Builtin.append_ #[t, xt] ty' #[v, x]).run P w = .ok v' w' ∧ OS e s v' (k + m) (xs ++ news) Hs' ∧ Hp w0 M (A ++ (Hs' ++ B)) w' := by
  obtain ⟨i, hi, rfl, rfl, hiz⟩ := info_of hs hby hz
  obtain ⟨dx, hdx, hn⟩ := hxt
  have hsmall : k + m ≤ 9223372036854775807 := by simp only [maxLen] at h63; omega
  have hlen2 : (xs ++ news).length = (k + m) * i.size := by rw [List.length_append, hos.1, hl, Nat.add_mul]
  have hu : (underlying xt).run P w = .ok dx w := by simp [run_underlying hdx]
  rcases hos.2 with ⟨rfl, rfl, rfl⟩ | ⟨b, cap, cur, fz, rfl, g1, g2, g3, g4, g5, rfl⟩
  · -- nothing yet
    have hx0 : xs = [] := List.eq_nil_of_length_eq_zero (by simpa using hos.1)
    subst hx0
    by_cases hm : m = 0
    · subst hm
      have hn0 : news = [] := List.eq_nil_of_length_eq_zero (by simpa using hl)
      subst hn0
      refine ⟨.slice none 0 0, [], w, ?_, OS.nil, hp⟩
      have hc := hcells w rfl
      exact append_in0 ht hdx hn hi hlen (by simpa using hc)
    · have hm0 : 0 < m := by omega
      have hc := hcells w.drew rfl
      have hfit : Builtin.nextslicecap m 0 * i.bytes ≤ 281474976710656 := growslice_fits (by omega) (by simpa using hbytes)
      have hge := grownCap_ge w m 0 e
      have hcm : grownCap w m 0 e ≤ maxLen := grownCap_le_maxLen w m 0 e (by omega)
      refine ⟨.slice (some ⟨w.heap.size, 0, none⟩) m (grownCap w m 0 e), [(w.heap.size, .cells (news ++ (Builtin.zeroCells z.cells (grownCap w m 0 e - m)).toList).toArray e)], w.drew.alloc (.cells (news ++ (Builtin.zeroCells z.cells (grownCap w m 0 e - m)).toList).toArray e), ?_, ?_, ?_⟩
      · have e1 : (news ++ (Builtin.zeroCells z.cells (grownCap w m 0 e - m)).toList).toArray = news.toArray ++ Builtin.zeroCells z.cells (grownCap w m 0 e - m) := by simp
        have e2 := append_out (P := P) (ty' := ty') (base := none) (k := 0) (cap := 0) (olds := []) ht hdx hn hi hiz hlen (by omega) hc (by simp [Builtin.firstCells]) (by simpa using hfit) (by omega)
        simp only [Nat.zero_add, Array.empty_append] at e2
        rw [e1]; simpa using e2
      · refine ⟨by simpa using hlen2, .inr ⟨_, _, _, (0, 0), by simp, by simpa using hge, hcm, ?_, ?_, .inl rfl, rfl⟩⟩
        · simp only [List.length_append, Array.length_toList, size_zeroCells, hzs, hl, ← Nat.add_mul]; congr 1; omega
        · simp only [List.nil_append, Nat.zero_add, ← hl]; exact List.take_left
      · have := hp.drew.alloc (.cells (news ++ (Builtin.zeroCells z.cells (grownCap w m 0 e - m)).toList).toArray e)
        refine this.perm ?_
        simpa using (List.perm_middle (a := (w.heap.size, Obj.cells (news ++ (Builtin.zeroCells z.cells (grownCap w m 0 e - m)).toList).toArray e)) (l₁ := A) (l₂ := B)).symm
  · have hb := hp.own (b, .cells cur.toArray e fz) (by simp)
    by_cases hroom : k + m ≤ cap
    · -- there is room
      have hmul : (k + m) * i.size ≤ cap * i.size := Nat.mul_le_mul_right _ hroom
      rw [Nat.add_mul, ← hl] at hmul
      have hst := run_stores (P := P) (b := b) (o := k * i.size) (t := e) (fz := fz) news 0 cur w hb (by omega) (by omega) h1
      simp only [Nat.add_zero] at hst
      have hc := hcells w rfl
      refine ⟨.slice (some ⟨b, 0, none⟩) (k + m) cap, [(b, .cells (cur.take (k * i.size) ++ news ++ cur.drop (k * i.size + news.length)).toArray e fz)], w.setRow b (cur.take (k * i.size) ++ news ++ cur.drop (k * i.size + news.length)).toArray, ?_, ?_, ?_⟩
      · exact append_in ht hdx hn hi hlen hroom hc (by rw [Addr.add_lit, Nat.zero_add]; exact hst)
      · refine ⟨hlen2, .inr ⟨b, cap, _, fz, rfl, hroom, g2, ?_, ?_, ?_, rfl⟩⟩
        · simp only [List.length_append, List.length_take, List.length_drop]; omega
        · rw [g4, ← hlen2]; exact List.take_left
        · simp only [List.length_append, List.length_take, List.length_drop]; omega
      · simpa using Hp.setF (cs := (cur.take (k * i.size) ++ news ++ cur.drop (k * i.size + news.length)).toArray) (by simpa using hp)
    · -- it grows
      have hold : ∀ j u, xs[j]? = some u → w.cell? ((⟨b, 0, none⟩ : Addr).add j) = some u := fun j u hj => by
        have hjl : j < k * i.size := by rw [← hos.1]; exact (List.getElem?_eq_some_iff.1 hj).1
        rw [← g4, List.getElem?_take_of_lt hjl] at hj
        rw [Addr.add_lit, Nat.zero_add]
        exact cell_of_block hb (by simpa using hj)
      have hfold := run_firstCells_some (P := P) w.drew i.size k ⟨b, 0, none⟩ k cap xs hos.1 (by simpa using hold)
      have hc := hcells w.drew rfl
      have hfit : Builtin.nextslicecap (k + m) cap * i.bytes ≤ 281474976710656 := growslice_fits (by omega) hbytes
      have hge := grownCap_ge w (k + m) cap e
      have hcm : grownCap w (k + m) cap e ≤ maxLen := grownCap_le_maxLen w (k + m) cap e h63
      let cells := (xs ++ news ++ (Builtin.zeroCells z.cells (grownCap w (k + m) cap e - (k + m))).toList)
      refine ⟨.slice (some ⟨w.heap.size, 0, none⟩) (k + m) (grownCap w (k + m) cap e), [(w.heap.size, .cells cells.toArray e)], w.drew.alloc (.cells cells.toArray e), ?_, ?_, ?_⟩
      · have e1 : cells.toArray = xs.toArray ++ news.toArray ++ Builtin.zeroCells z.cells (grownCap w (k + m) cap e - (k + m)) := by simp [cells]
        rw [e1]; exact append_out ht hdx hn hi hiz hlen hroom hc hfold hfit hsmall
      · refine ⟨hlen2, .inr ⟨_, _, _, (0, 0), rfl, hge, hcm, ?_, ?_, .inl rfl, rfl⟩⟩
        · simp only [cells, List.length_append, Array.length_toList, size_zeroCells, hzs, hl, hos.1, ← Nat.add_mul]; congr 1; omega
        · simp only [cells, ← hlen2]; exact List.take_left
      · have h2 := (hp.drew.alloc (.cells cells.toArray e)).perm (F' := A ++ ((w.heap.size, .cells cells.toArray e) :: (b, .cells cur.toArray e fz) :: B)) (by
          simpa using (List.perm_middle (a := (w.heap.size, Obj.cells cells.toArray e)) (l₁ := A) (l₂ := (b, .cells cur.toArray e fz) :: B)).symm)
        refine h2.drop ?_
        refine (List.Sublist.refl A).append ?_
        simp

theorem lenOf_sl {ad : Option Addr} {m c : Nat} : (Builtin.lenOf (.slice ad m c)).run P w = .ok m w := by simp [Builtin.lenOf]
theorem lenOf_str {a : List UInt8} : (Builtin.lenOf (.string ⟨a.toArray⟩)).run P w = .ok a.length w := by simp [Builtin.lenOf, ByteArray.size]
def bytesV (a : List UInt8) : List Value := a.map fun b => .int .u8 b.toNat
theorem firstCells_str {a : List UInt8} : (Builtin.firstCells 1 a.length (.string ⟨a.toArray⟩)).run P w = .ok (bytesV a).toArray w := by
  simp [Builtin.firstCells, bytesV, ByteArray.data_extract]
theorem bytesV_one {a : List UInt8} : ∀ u ∈ bytesV a, u.oneCell' = true := by
  intro u hu
  obtain ⟨b, _, rfl⟩ := List.mem_map.1 hu
  rfl

theorem W_append_of {t e xt : TypeId} {ts : Array TypeId} {s by_ m k : Nat} {z x v : Value} {y1 y2 : Operand} {A B Hs : Heap} {xs news : List Value} (hts : ts = #[t, xt])
    (hp : Hp w0 M F w) (hF : F = A ++ (Hs ++ B)) (ht : P.underlying t = some (.slice e)) (hs : psize? P e = some s) (hby : pbytes? P e = some by_) (hz : zeroV P e = some z) (hzs : z.cells.size = s) (hs0 : Nat.blt 0 s = true)
    (hy1 : ev l y1 = some v) (hy2 : ev l y2 = some x) (hos : OS e s v k xs Hs) (hl : news.length = m * s)
    (hlen : (Builtin.lenOf x).run P w = .ok m w) (hxt : ∃ dx, P.underlying xt = some dx ∧ ((∃ q, dx = .slice q) ∨ dx = .string)) (hcells : ∀ w', w'.heap = w.heap → (Builtin.firstCells s m x).run P w' = .ok news.toArray w') (h1 : ∀ u ∈ news, u.oneCell' = true)
    (h63 : k + m ≤ maxLen) (hbytes : (k + m) * by_ ≤ 140737488355328) (hd : Nat.blt d n = true)
    (h : ∀ v' Hs' w', OS e s v' (k + m) (xs ++ news) Hs' → Hp w0 M (A ++ (Hs' ++ B)) w' → W P ops Q rest n (.cons d v' l) w') :
    W P ops Q ({ dst := some d, op := .call { callee := .builtin .append, args := #[y1, y2], argTypes := ts }, type := ty, pos := pos, after := af, guard := none } :: rest) n l w := by
  subst hF hts
  obtain ⟨v', Hs', w', hr, ho, hp'⟩ := append_own (P := P) (ty' := ty) ht hs hby hz hzs (by simpa using hs0) hp hos hl hlen hxt hcells h1 h63 hbytes
  refine W_val rfl (inb_of hd) (v := v') (w' := w') (fun A' hf => ?_) (h v' Hs' w' ho hp')
  simp [execOp, resolve, invoke, builtin, hf.eval hy1, hf.eval hy2, hr]

theorem rd_firstCells {x : Value} {m s : Nat} {news : List Value} (h : Rd w x m news) (hl : news.length = m * s) : ∀ w', w'.heap = w.heap → (Builtin.firstCells s m x).run P w' = .ok news.toArray w' := by
  intro w' hw'
  obtain ⟨A, c, rfl, h⟩ := h
  cases A with
  | none =>
    have : news = [] := by
      rcases news with _ | ⟨u, r⟩
      · rfl
      · obtain ⟨b, o, e, _⟩ := h (by simp); cases e
    subst this; simp [Builtin.firstCells]
  | some a =>
    refine run_firstCells_some (P := P) w' s m a m c news hl fun j u hj => ?_
    obtain ⟨b, o, e, hc⟩ := h (fun e => by simp [e] at hj)
    cases e
    have := hc j u hj
    rw [Addr.add_lit]
    simp only [World.cell?, hw'] at this ⊢
    exact this
/-- 'append(v, x)' of the elements of a slice. -/
theorem W_append_sl {t e : TypeId} {ts : Array TypeId} {s by_ m k : Nat} {z v x : Value} {y1 y2 : Operand} {A B Hs : Heap} {xs : List Value} (news : List Value) (hts : ts = #[t, t])
    (hp : Hp w0 M F w) (hF : F = A ++ (Hs ++ B)) (ht : P.underlying t = some (.slice e)) (hs : psize? P e = some s) (hby : pbytes? P e = some by_) (hz : zeroV P e = some z) (hzs : z.cells.size = s) (hs0 : Nat.blt 0 s = true)
    (hy1 : ev l y1 = some v) (hy2 : ev l y2 = some x) (hos : OS e s v k xs Hs) (hrd : Rd w x m news) (hl : news.length = m * s) (h1 : ∀ u ∈ news, u.oneCell' = true)
    (h63 : k + m ≤ maxLen) (hbytes : (k + m) * by_ ≤ 140737488355328) (hd : Nat.blt d n = true)
    (h : ∀ v' Hs' w', OS e s v' (k + m) (xs ++ news) Hs' → Hp w0 M (A ++ (Hs' ++ B)) w' → W P ops Q rest n (.cons d v' l) w') :
    W P ops Q ({ dst := some d, op := .call { callee := .builtin .append, args := #[y1, y2], argTypes := ts }, type := ty, pos := pos, after := af, guard := none } :: rest) n l w := by
  have hlen : (Builtin.lenOf x).run P w = .ok m w := by obtain ⟨A', c, rfl, _⟩ := hrd; exact lenOf_sl
  exact W_append_of hts hp hF ht hs hby hz hzs hs0 hy1 hy2 hos hl hlen ⟨_, ht, .inl ⟨_, rfl⟩⟩ (rd_firstCells hrd hl) h1 h63 hbytes hd h
theorem W_append_nil {t e : TypeId} {ts : Array TypeId} {s by_ k : Nat} {z v : Value} {y1 y2 : Operand} {A B Hs : Heap} {xs : List Value} (hts : ts = #[t, t])
    (hp : Hp w0 M F w) (hF : F = A ++ (Hs ++ B)) (ht : P.underlying t = some (.slice e)) (hs : psize? P e = some s) (hby : pbytes? P e = some by_) (hz : zeroV P e = some z) (hzs : z.cells.size = s) (hs0 : Nat.blt 0 s = true)
    (hy1 : ev l y1 = some v) (hy2 : ev l y2 = some (.slice none 0 0)) (hos : OS e s v k xs Hs) (h63 : k ≤ maxLen) (hbytes : k * by_ ≤ 140737488355328) (hd : Nat.blt d n = true)
    (h : ∀ v' Hs' w', OS e s v' k xs Hs' → Hp w0 M (A ++ (Hs' ++ B)) w' → W P ops Q rest n (.cons d v' l) w') :
    W P ops Q ({ dst := some d, op := .call { callee := .builtin .append, args := #[y1, y2], argTypes := ts }, type := ty, pos := pos, after := af, guard := none } :: rest) n l w :=
  W_append_of (m := 0) (news := []) hts hp hF ht hs hby hz hzs hs0 hy1 hy2 hos (by simp) lenOf_sl ⟨_, ht, .inl ⟨_, rfl⟩⟩
    (fun w' hw' => by simp [Builtin.firstCells]) (by simp) (by simpa using h63) (by simpa using hbytes) hd (fun v' Hs' w' ho hp' => h v' Hs' w' (by simpa using ho) hp')
theorem W_append_str {t e xt : TypeId} {ts : Array TypeId} {k : Nat} {v : Value} {a : List UInt8} {y1 y2 : Operand} {A B Hs : Heap} {xs : List Value} (hts : ts = #[t, xt])
    (hp : Hp w0 M F w) (hF : F = A ++ (Hs ++ B)) (ht : P.underlying t = some (.slice e)) (hxt : P.underlying xt = some .string) (hs : psize? P e = some 1) (hby : pbytes? P e = some 1) (hz : zeroV P e = some (.int .u8 0))
    (hy1 : ev l y1 = some v) (hy2 : ev l y2 = some (.string ⟨a.toArray⟩)) (hos : OS e 1 v k xs Hs) (h63 : k + a.length ≤ 140737488355328) (hd : Nat.blt d n = true)
    (h : ∀ v' Hs' w', OS e 1 v' (k + a.length) (xs ++ bytesV a) Hs' → Hp w0 M (A ++ (Hs' ++ B)) w' → W P ops Q rest n (.cons d v' l) w') :
    W P ops Q ({ dst := some d, op := .call { callee := .builtin .append, args := #[y1, y2], argTypes := ts }, type := ty, pos := pos, after := af, guard := none } :: rest) n l w :=
  W_append_of (m := a.length) (news := bytesV a) hts hp hF ht hs hby hz rfl rfl hy1 hy2 hos (by simp [bytesV]) lenOf_str ⟨_, hxt, .inr rfl⟩
    (fun w' hw' => firstCells_str) bytesV_one (by simp only [maxLen]; omega) (by omega) hd h
end
end Go.Sx
