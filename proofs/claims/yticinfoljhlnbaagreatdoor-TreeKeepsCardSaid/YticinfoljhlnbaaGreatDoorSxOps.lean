/-
  One rule an operation: what it comes to, slot by slot (written by mkops.py). No conditions: for every program.
-/
import Derived.Test.YticinfoljhlnbaaGreatDoorSxCore
namespace Go.Sx
open Go.RowKit
set_option linter.unusedVariables false
set_option linter.unusedSimpArgs false

/-- An operation that comes to a value and leaves the world alone. -/
def Runs (P : Program) (n : Nat) (l : Env) (o : Oper) (v : Value) (w : World) : Prop := ∀ a, Fr n l a → (execOp a.eval o).run P w = .ok (.value v) w
theorem inb_of {n d : Nat} (h : Nat.blt d n = true) : inb n (some d) = true := by
  simpa [inb] using h
theorem bytes_append (a b : List UInt8) : (⟨a.toArray⟩ : ByteArray) ++ ⟨b.toArray⟩ = ⟨(a ++ b).toArray⟩ := by
  apply ByteArray.ext
  simp
theorem bytes_get (a : List UInt8) (i : Nat) : (⟨a.toArray⟩ : ByteArray)[i]? = a[i]? := by
  rcases Nat.lt_or_ge i a.length with h | h
  · have h' : i < (ByteArray.mk a.toArray).size := by simpa [ByteArray.size] using h
    rw [List.getElem?_eq_getElem h, ByteArray.getElem?_lt' _ _ h']; rfl
  · have h' : ¬ i < (ByteArray.mk a.toArray).size := by simpa [ByteArray.size] using h
    rw [List.getElem?_eq_none h, ByteArray.getElem?_ge' _ _ h']
theorem beq_dec (a b : List UInt8) : (a == b) = decide (a = b) := by
  by_cases h : a = b <;> simp [h]
theorem bytes_extract (a : List UInt8) (i j : Nat) : (⟨a.toArray⟩ : ByteArray).extract i j = ⟨((a.drop i).take (j - i)).toArray⟩ := by
  apply ByteArray.ext
  simp [ByteArray.data_extract]

/-! Sizes and parts by the program's tables -/
def psize? (P : Program) (t : TypeId) : Option Nat := (P.info? t).map (·.size)
def psize (P : Program) (t : TypeId) : Nat := (psize? P t).getD 0
def isAggD : TypeDesc → Bool
  | .struct _ | .array _ _ => true
  | _ => false
def partV (P : Program) (t : TypeId) (cs : Array Value) (off : Nat) : Option Value :=
  match P.underlying t with
  | some d => if isAggD d then (psize? P t).map fun s => .agg (cs.extract off (off + s)) else cs[off]?
  | none => none
def _root_.Go.TypeDesc.isIface : TypeDesc → Bool
  | .interface _ => true
  | _ => false

section
variable {P : Program} {w : World}
theorem run_size {t : TypeId} {s : Nat} (h : psize? P t = some s) : (sizeOf t).run P w = .ok s w := by
  unfold psize? at h
  cases hi : P.info? t with
  | none => simp [hi] at h
  | some i => simp only [hi, Option.map_some, Option.some.injEq] at h; simp [sizeOf, typeInfo, hi, h]
theorem run_isAgg {t : TypeId} {d : TypeDesc} (h : P.underlying t = some d) : (isAgg t).run P w = .ok (isAggD d) w := by
  unfold isAgg
  simp only [Sem.run_bind, run_underlying h, Result.andThen_ok]
  cases d <;> simp [isAggD]
theorem run_part {t : TypeId} {cs : Array Value} {off : Nat} {v : Value} (h : partV P t cs off = some v) : (part t cs off).run P w = .ok v w := by
  unfold partV at h
  cases hu : P.underlying t with
  | none => simp [hu] at h
  | some d =>
    simp only [hu] at h
    unfold part
    simp only [Sem.run_bind, run_isAgg hu, Result.andThen_ok]
    split at h
    · rename_i hd
      rw [if_pos hd]
      cases hs : psize? P t with
      | none => simp [hs] at h
      | some s => simp only [hs, Option.map_some, Option.some.injEq] at h; simp [run_size hs, h]
    · rename_i hd
      rw [if_neg hd, h]
      simp
theorem run_field {t : TypeId} {f : Nat} {fs : Array Field} {fd : Field} {cs : Array Value} {v : Value} (ht : P.underlying t = some (.struct fs)) (hfd : fs[f]? = some fd)
    (hp : partV P fd.type cs fd.offset = some v) : (Instr.field t (.agg cs) f).run P w = .ok v w := by
  unfold Instr.field
  simp [run_underlying ht, hfd, asAgg, run_part hp]
theorem run_index_s {t : TypeId} {a : List UInt8} {k : IntKind} {i : Int} {b : UInt8} (ht : P.underlying t = some .string) (h0 : 0 ≤ i) (hb : a[i.toNat]? = some b) :
    (Instr.index t (.string ⟨a.toArray⟩) (.int k i)).run P w = .ok (.int .u8 b.toNat) w := by
  unfold Instr.index
  simp [asIntOf, run_underlying ht, h0, bytes_get, hb]
theorem run_index_array {t e : TypeId} {m : Nat} {cs : Array Value} {k : IntKind} {i : Int} {v : Value} (ht : P.underlying t = some (.array m e)) (h0 : 0 ≤ i) (h1 : i < m)
    (hp : partV P e cs (i.toNat * psize P e) = some v) : (Instr.index t (.agg cs) (.int k i)).run P w = .ok v w := by
  cases hs : psize? P e with
  | none =>
    exfalso
    have hu : P.info? e = none := by
      unfold psize? at hs
      cases hi : P.info? e with
      | none => rfl
      | some i => simp [hi] at hs
    have : P.underlying e = none := by simp [Program.underlying, hu]
    simp [partV, this] at hp
  | some s =>
    have : psize P e = s := by simp [psize, hs]
    rw [this] at hp
    unfold Instr.index
    simp [asIntOf, run_underlying ht, h0, h1, run_size hs, run_part hp]
theorem run_mkiface {t : TypeId} {d : TypeDesc} {v : Value} (ht : P.underlying t = some d) (hd : d.isIface = false) : (Instr.makeInterface t v).run P w = .ok (.iface t v) w := by
  unfold Instr.makeInterface
  simp only [Sem.run_bind, run_underlying ht, Result.andThen_ok]
  cases d <;> simp_all [TypeDesc.isIface]
theorem run_fieldAt {t : TypeId} {f b o s : Nat} {fs : Array Field} {fd : Field} (ht : P.underlying t = some (.struct fs)) (hfd : fs[f]? = some fd) (hz : psize? P fd.type = some (s + 1)) :
    (Instr.fieldAt t (.pointer (some ⟨b, o, none⟩)) f).run P w = .ok (.pointer (some ⟨b, o + fd.offset, none⟩)) w := by
  unfold Instr.fieldAt
  simp [run_underlying ht, hfd, Instr.sureAddr, fieldPlace, Addr.add, run_size hz]
theorem run_indexAt_sl {t e : TypeId} {b o m c s : Nat} {k : IntKind} {i : Int} (ht : P.underlying t = some (.slice e)) (he : psize? P e = some s) (h0 : 0 ≤ i) (h1 : i < m) :
    (Instr.indexAt t (.slice (some ⟨b, o, none⟩) m c) (.int k i)).run P w = .ok (.pointer (some ⟨b, o + i.toNat * s, none⟩)) w := by
  unfold Instr.indexAt
  simp [asIntOf, run_underlying ht, h0, h1, run_size he, Addr.add]
theorem run_indexAt_ar {t e : TypeId} {b o m s : Nat} {k : IntKind} {i : Int} (ht : P.underlying t = some (.array m e)) (he : psize? P e = some s) (h0 : 0 ≤ i) (h1 : i < m) :
    (Instr.indexAt t (.pointer (some ⟨b, o, none⟩)) (.int k i)).run P w = .ok (.pointer (some ⟨b, o + i.toNat * s, none⟩)) w := by
  unfold Instr.indexAt
  simp [asIntOf, run_underlying ht, h0, h1, run_size he, Instr.sureAddr, Addr.add]

theorem run_slice_slh {t : TypeId} {a : List UInt8} {k k' : IntKind} {i j : Int} (ht : P.underlying t = some .string) (h0 : 0 ≤ i) (h1 : i ≤ j) (h2 : j ≤ a.length) :
    (Instr.sliceAt t (.string ⟨a.toArray⟩) (some (.int k i)) (some (.int k' j)) none).run P w = .ok (.string ⟨((a.drop i.toNat).take (j.toNat - i.toNat)).toArray⟩) w := by
  have hs : (⟨a.toArray⟩ : ByteArray).size = a.length := by simp [ByteArray.size]
  unfold Instr.sliceAt Instr.slice Instr.sliceBounds
  simp only [Sem.run_bind, run_underlying ht, Result.andThen_ok, Option.isSome_none, Bool.false_eq_true, if_false, Sem.run_pure,
    run_sliceBound w k' j (⟨a.toArray⟩ : ByteArray).size _ (by omega) (show j ≤ ((ByteArray.mk a.toArray).size : Int) by rw [hs]; exact h2), run_sliceBound w k i j.toNat _ h0 (by omega), bytes_extract]
theorem run_slice_sl {t : TypeId} {a : List UInt8} {k : IntKind} {i : Int} (ht : P.underlying t = some .string) (h0 : 0 ≤ i) (h1 : i ≤ a.length) :
    (Instr.sliceAt t (.string ⟨a.toArray⟩) (some (.int k i)) none none).run P w = .ok (.string ⟨(a.drop i.toNat).toArray⟩) w := by
  have hs : (⟨a.toArray⟩ : ByteArray).size = a.length := by simp [ByteArray.size]
  have e : (a.drop i.toNat).take (a.length - i.toNat) = a.drop i.toNat := List.take_of_length_le (by simp)
  unfold Instr.sliceAt Instr.slice Instr.sliceBounds
  simp only [Sem.run_bind, run_underlying ht, Result.andThen_ok, Option.isSome_none, Bool.false_eq_true, if_false, Sem.run_pure,
    run_sliceBound w k i a.length _ h0 h1, bytes_extract, hs, e]
theorem run_slice_sh {t : TypeId} {a : List UInt8} {k' : IntKind} {j : Int} (ht : P.underlying t = some .string) (h0 : 0 ≤ j) (h2 : j ≤ a.length) :
    (Instr.sliceAt t (.string ⟨a.toArray⟩) none (some (.int k' j)) none).run P w = .ok (.string ⟨(a.take j.toNat).toArray⟩) w := by
  have hs : (⟨a.toArray⟩ : ByteArray).size = a.length := by simp [ByteArray.size]
  unfold Instr.sliceAt Instr.slice Instr.sliceBounds
  simp only [Sem.run_bind, run_underlying ht, Result.andThen_ok, Option.isSome_none, Bool.false_eq_true, if_false, Sem.run_pure,
    run_sliceBound w k' j (⟨a.toArray⟩ : ByteArray).size _ h0 (by rw [hs]; omega), bytes_extract, List.drop_zero, Nat.sub_zero]
theorem run_slice_sn {t : TypeId} {a : List UInt8} (ht : P.underlying t = some .string) :
    (Instr.sliceAt t (.string ⟨a.toArray⟩) none none none).run P w = .ok (.string ⟨a.toArray⟩) w := by
  have hs : (⟨a.toArray⟩ : ByteArray).size = a.length := by simp [ByteArray.size]
  have e : a.take a.length = a := List.take_of_length_le (Nat.le_refl _)
  unfold Instr.sliceAt Instr.slice Instr.sliceBounds
  simp only [Sem.run_bind, run_underlying ht, Result.andThen_ok, Option.isSome_none, Bool.false_eq_true, if_false, Sem.run_pure, bytes_extract, List.drop_zero, Nat.sub_zero, hs, e]
end

section
variable {P : Program} {ops : Array Oper} {Q : Exit → Act → World → Prop} {rest : List Oper} {n : Nat} {l : Env} {w : World}

theorem R_move {d : Tmp} {ty : TypeId} {pos : String} {af : Array Edge} {x : Operand} {v : Value} (hx : ev l x = some v) :
    Runs P n l { dst := some d, op := .move x, type := ty, pos := pos, after := af, guard := none } (v) w := (fun A hf => by
    simp [execOp, hf.eval hx])
theorem W_move {d : Tmp} {ty : TypeId} {pos : String} {af : Array Edge} {x : Operand} {v : Value} (hx : ev l x = some v) (hd : Nat.blt d n = true)
    (h : W P ops Q rest n (.cons d (v) l) w) : W P ops Q ({ dst := some d, op := .move x, type := ty, pos := pos, after := af, guard := none } :: rest) n l w :=
  W_val rfl (inb_of hd) (R_move hx) h
theorem R_assign {d : Tmp} {ty : TypeId} {pos : String} {af : Array Edge} {x : Operand} {v : Value} (hx : ev l x = some v) :
    Runs P n l { dst := some d, op := .assign x, type := ty, pos := pos, after := af, guard := none } (v) w := (fun A hf => by
    simp [execOp, hf.eval hx])
theorem W_assign {d : Tmp} {ty : TypeId} {pos : String} {af : Array Edge} {x : Operand} {v : Value} (hx : ev l x = some v) (hd : Nat.blt d n = true)
    (h : W P ops Q rest n (.cons d (v) l) w) : W P ops Q ({ dst := some d, op := .assign x, type := ty, pos := pos, after := af, guard := none } :: rest) n l w :=
  W_val rfl (inb_of hd) (R_assign hx) h
theorem R_pick_t {d : Tmp} {ty : TypeId} {pos : String} {af : Array Edge} {c x y : Operand} {v : Value} (hc : ev l c = some (.bool true)) (hx : ev l x = some v) :
    Runs P n l { dst := some d, op := .pick c x y, type := ty, pos := pos, after := af, guard := none } (v) w := (fun A hf => by
    simp [execOp, hf.eval hc, hf.eval hx, asBool])
theorem W_pick_t {d : Tmp} {ty : TypeId} {pos : String} {af : Array Edge} {c x y : Operand} {v : Value} (hc : ev l c = some (.bool true)) (hx : ev l x = some v) (hd : Nat.blt d n = true)
    (h : W P ops Q rest n (.cons d (v) l) w) : W P ops Q ({ dst := some d, op := .pick c x y, type := ty, pos := pos, after := af, guard := none } :: rest) n l w :=
  W_val rfl (inb_of hd) (R_pick_t hc hx) h
theorem R_pick_f {d : Tmp} {ty : TypeId} {pos : String} {af : Array Edge} {c x y : Operand} {v : Value} (hc : ev l c = some (.bool false)) (hy : ev l y = some v) :
    Runs P n l { dst := some d, op := .pick c x y, type := ty, pos := pos, after := af, guard := none } (v) w := (fun A hf => by
    simp [execOp, hf.eval hc, hf.eval hy, asBool])
theorem W_pick_f {d : Tmp} {ty : TypeId} {pos : String} {af : Array Edge} {c x y : Operand} {v : Value} (hc : ev l c = some (.bool false)) (hy : ev l y = some v) (hd : Nat.blt d n = true)
    (h : W P ops Q rest n (.cons d (v) l) w) : W P ops Q ({ dst := some d, op := .pick c x y, type := ty, pos := pos, after := af, guard := none } :: rest) n l w :=
  W_val rfl (inb_of hd) (R_pick_f hc hy) h
theorem R_pick_b {d : Tmp} {ty : TypeId} {pos : String} {af : Array Edge} {c x y : Operand} {b p q : Bool} (hc : ev l c = some (.bool b)) (hx : ev l x = some (.bool p)) (hy : ev l y = some (.bool q)) :
    Runs P n l { dst := some d, op := .pick c x y, type := ty, pos := pos, after := af, guard := none } (.bool (if b then p else q)) w := (fun A hf => by
    cases b <;> simp [execOp, hf.eval hc, hf.eval hx, hf.eval hy, asBool])
theorem W_pick_b {d : Tmp} {ty : TypeId} {pos : String} {af : Array Edge} {c x y : Operand} {b p q : Bool} (hc : ev l c = some (.bool b)) (hx : ev l x = some (.bool p)) (hy : ev l y = some (.bool q)) (hd : Nat.blt d n = true)
    (h : W P ops Q rest n (.cons d (.bool (if b then p else q)) l) w) : W P ops Q ({ dst := some d, op := .pick c x y, type := ty, pos := pos, after := af, guard := none } :: rest) n l w :=
  W_val rfl (inb_of hd) (R_pick_b hc hx hy) h
theorem R_add {d : Tmp} {ty : TypeId} {pos : String} {af : Array Edge} {x y : Operand} {t t' : TypeId} {k : IntKind} {a b : Int} {r : Int} (hx : ev l x = some (.int k a)) (hy : ev l y = some (.int k b)) (hr : k.wrap (a + b) = r) :
    Runs P n l { dst := some d, op := .binOp .add t x y t', type := ty, pos := pos, after := af, guard := none } (.int k r) w := (fun A hf => by
    simp [execOp, hf.eval hx, hf.eval hy, eqGuard, binOp, Op.intArith, hr])
theorem W_add {d : Tmp} {ty : TypeId} {pos : String} {af : Array Edge} {x y : Operand} {t t' : TypeId} {k : IntKind} {a b : Int} {r : Int} (hx : ev l x = some (.int k a)) (hy : ev l y = some (.int k b)) (hr : k.wrap (a + b) = r) (hd : Nat.blt d n = true)
    (h : W P ops Q rest n (.cons d (.int k r) l) w) : W P ops Q ({ dst := some d, op := .binOp .add t x y t', type := ty, pos := pos, after := af, guard := none } :: rest) n l w :=
  W_val rfl (inb_of hd) (R_add hx hy hr) h
theorem R_sub {d : Tmp} {ty : TypeId} {pos : String} {af : Array Edge} {x y : Operand} {t t' : TypeId} {k : IntKind} {a b : Int} {r : Int} (hx : ev l x = some (.int k a)) (hy : ev l y = some (.int k b)) (hr : k.wrap (a - b) = r) :
    Runs P n l { dst := some d, op := .binOp .sub t x y t', type := ty, pos := pos, after := af, guard := none } (.int k r) w := (fun A hf => by
    simp [execOp, hf.eval hx, hf.eval hy, eqGuard, binOp, Op.intArith, hr])
theorem W_sub {d : Tmp} {ty : TypeId} {pos : String} {af : Array Edge} {x y : Operand} {t t' : TypeId} {k : IntKind} {a b : Int} {r : Int} (hx : ev l x = some (.int k a)) (hy : ev l y = some (.int k b)) (hr : k.wrap (a - b) = r) (hd : Nat.blt d n = true)
    (h : W P ops Q rest n (.cons d (.int k r) l) w) : W P ops Q ({ dst := some d, op := .binOp .sub t x y t', type := ty, pos := pos, after := af, guard := none } :: rest) n l w :=
  W_val rfl (inb_of hd) (R_sub hx hy hr) h
theorem R_mul {d : Tmp} {ty : TypeId} {pos : String} {af : Array Edge} {x y : Operand} {t t' : TypeId} {k : IntKind} {a b : Int} {r : Int} (hx : ev l x = some (.int k a)) (hy : ev l y = some (.int k b)) (hr : k.wrap (a * b) = r) :
    Runs P n l { dst := some d, op := .binOp .mul t x y t', type := ty, pos := pos, after := af, guard := none } (.int k r) w := (fun A hf => by
    simp [execOp, hf.eval hx, hf.eval hy, eqGuard, binOp, Op.intArith, hr])
theorem W_mul {d : Tmp} {ty : TypeId} {pos : String} {af : Array Edge} {x y : Operand} {t t' : TypeId} {k : IntKind} {a b : Int} {r : Int} (hx : ev l x = some (.int k a)) (hy : ev l y = some (.int k b)) (hr : k.wrap (a * b) = r) (hd : Nat.blt d n = true)
    (h : W P ops Q rest n (.cons d (.int k r) l) w) : W P ops Q ({ dst := some d, op := .binOp .mul t x y t', type := ty, pos := pos, after := af, guard := none } :: rest) n l w :=
  W_val rfl (inb_of hd) (R_mul hx hy hr) h
theorem R_quo {d : Tmp} {ty : TypeId} {pos : String} {af : Array Edge} {x y : Operand} {t t' : TypeId} {k : IntKind} {a b : Int} {r : Int} (hx : ev l x = some (.int k a)) (hy : ev l y = some (.int k b)) (h0 : b ≠ 0) (hr : k.wrap (a.tdiv b) = r) :
    Runs P n l { dst := some d, op := .binOp .quo t x y t', type := ty, pos := pos, after := af, guard := none } (.int k r) w := (fun A hf => by
    simp [execOp, hf.eval hx, hf.eval hy, eqGuard, binOp, Op.intDiv, h0, hr])
theorem W_quo {d : Tmp} {ty : TypeId} {pos : String} {af : Array Edge} {x y : Operand} {t t' : TypeId} {k : IntKind} {a b : Int} {r : Int} (hx : ev l x = some (.int k a)) (hy : ev l y = some (.int k b)) (h0 : b ≠ 0) (hr : k.wrap (a.tdiv b) = r) (hd : Nat.blt d n = true)
    (h : W P ops Q rest n (.cons d (.int k r) l) w) : W P ops Q ({ dst := some d, op := .binOp .quo t x y t', type := ty, pos := pos, after := af, guard := none } :: rest) n l w :=
  W_val rfl (inb_of hd) (R_quo hx hy h0 hr) h
theorem R_rem {d : Tmp} {ty : TypeId} {pos : String} {af : Array Edge} {x y : Operand} {t t' : TypeId} {k : IntKind} {a b : Int} {r : Int} (hx : ev l x = some (.int k a)) (hy : ev l y = some (.int k b)) (h0 : b ≠ 0) (hr : a.tmod b = r) :
    Runs P n l { dst := some d, op := .binOp .rem t x y t', type := ty, pos := pos, after := af, guard := none } (.int k r) w := (fun A hf => by
    simp [execOp, hf.eval hx, hf.eval hy, eqGuard, binOp, Op.intDiv, h0, hr])
theorem W_rem {d : Tmp} {ty : TypeId} {pos : String} {af : Array Edge} {x y : Operand} {t t' : TypeId} {k : IntKind} {a b : Int} {r : Int} (hx : ev l x = some (.int k a)) (hy : ev l y = some (.int k b)) (h0 : b ≠ 0) (hr : a.tmod b = r) (hd : Nat.blt d n = true)
    (h : W P ops Q rest n (.cons d (.int k r) l) w) : W P ops Q ({ dst := some d, op := .binOp .rem t x y t', type := ty, pos := pos, after := af, guard := none } :: rest) n l w :=
  W_val rfl (inb_of hd) (R_rem hx hy h0 hr) h
theorem R_band {d : Tmp} {ty : TypeId} {pos : String} {af : Array Edge} {x y : Operand} {t t' : TypeId} {k : IntKind} {a b : Int} {r : Int} (hx : ev l x = some (.int k a)) (hy : ev l y = some (.int k b)) (hr : k.wrap ((BitVec.ofInt k.bits a &&& BitVec.ofInt k.bits b).toNat : Int) = r) :
    Runs P n l { dst := some d, op := .binOp .and t x y t', type := ty, pos := pos, after := af, guard := none } (.int k r) w := (fun A hf => by
    simp only [execOp, hf.eval hx, hf.eval hy, eqGuard, binOp, Op.intBits]; rw [← hr]; simp only [ne_eq, not_true_eq_false, if_false]; rfl)
theorem W_band {d : Tmp} {ty : TypeId} {pos : String} {af : Array Edge} {x y : Operand} {t t' : TypeId} {k : IntKind} {a b : Int} {r : Int} (hx : ev l x = some (.int k a)) (hy : ev l y = some (.int k b)) (hr : k.wrap ((BitVec.ofInt k.bits a &&& BitVec.ofInt k.bits b).toNat : Int) = r) (hd : Nat.blt d n = true)
    (h : W P ops Q rest n (.cons d (.int k r) l) w) : W P ops Q ({ dst := some d, op := .binOp .and t x y t', type := ty, pos := pos, after := af, guard := none } :: rest) n l w :=
  W_val rfl (inb_of hd) (R_band hx hy hr) h
theorem R_bor {d : Tmp} {ty : TypeId} {pos : String} {af : Array Edge} {x y : Operand} {t t' : TypeId} {k : IntKind} {a b : Int} {r : Int} (hx : ev l x = some (.int k a)) (hy : ev l y = some (.int k b)) (hr : k.wrap ((BitVec.ofInt k.bits a ||| BitVec.ofInt k.bits b).toNat : Int) = r) :
    Runs P n l { dst := some d, op := .binOp .or t x y t', type := ty, pos := pos, after := af, guard := none } (.int k r) w := (fun A hf => by
    simp only [execOp, hf.eval hx, hf.eval hy, eqGuard, binOp, Op.intBits]; rw [← hr]; simp only [ne_eq, not_true_eq_false, if_false]; rfl)
theorem W_bor {d : Tmp} {ty : TypeId} {pos : String} {af : Array Edge} {x y : Operand} {t t' : TypeId} {k : IntKind} {a b : Int} {r : Int} (hx : ev l x = some (.int k a)) (hy : ev l y = some (.int k b)) (hr : k.wrap ((BitVec.ofInt k.bits a ||| BitVec.ofInt k.bits b).toNat : Int) = r) (hd : Nat.blt d n = true)
    (h : W P ops Q rest n (.cons d (.int k r) l) w) : W P ops Q ({ dst := some d, op := .binOp .or t x y t', type := ty, pos := pos, after := af, guard := none } :: rest) n l w :=
  W_val rfl (inb_of hd) (R_bor hx hy hr) h
theorem R_bxor {d : Tmp} {ty : TypeId} {pos : String} {af : Array Edge} {x y : Operand} {t t' : TypeId} {k : IntKind} {a b : Int} {r : Int} (hx : ev l x = some (.int k a)) (hy : ev l y = some (.int k b)) (hr : k.wrap ((BitVec.ofInt k.bits a ^^^ BitVec.ofInt k.bits b).toNat : Int) = r) :
    Runs P n l { dst := some d, op := .binOp .xor t x y t', type := ty, pos := pos, after := af, guard := none } (.int k r) w := (fun A hf => by
    simp only [execOp, hf.eval hx, hf.eval hy, eqGuard, binOp, Op.intBits]; rw [← hr]; simp only [ne_eq, not_true_eq_false, if_false]; rfl)
theorem W_bxor {d : Tmp} {ty : TypeId} {pos : String} {af : Array Edge} {x y : Operand} {t t' : TypeId} {k : IntKind} {a b : Int} {r : Int} (hx : ev l x = some (.int k a)) (hy : ev l y = some (.int k b)) (hr : k.wrap ((BitVec.ofInt k.bits a ^^^ BitVec.ofInt k.bits b).toNat : Int) = r) (hd : Nat.blt d n = true)
    (h : W P ops Q rest n (.cons d (.int k r) l) w) : W P ops Q ({ dst := some d, op := .binOp .xor t x y t', type := ty, pos := pos, after := af, guard := none } :: rest) n l w :=
  W_val rfl (inb_of hd) (R_bxor hx hy hr) h
theorem R_bandNot {d : Tmp} {ty : TypeId} {pos : String} {af : Array Edge} {x y : Operand} {t t' : TypeId} {k : IntKind} {a b : Int} {r : Int} (hx : ev l x = some (.int k a)) (hy : ev l y = some (.int k b)) (hr : k.wrap ((BitVec.ofInt k.bits a &&& ~~~BitVec.ofInt k.bits b).toNat : Int) = r) :
    Runs P n l { dst := some d, op := .binOp .andNot t x y t', type := ty, pos := pos, after := af, guard := none } (.int k r) w := (fun A hf => by
    simp only [execOp, hf.eval hx, hf.eval hy, eqGuard, binOp, Op.intBits]; rw [← hr]; simp only [ne_eq, not_true_eq_false, if_false]; rfl)
theorem W_bandNot {d : Tmp} {ty : TypeId} {pos : String} {af : Array Edge} {x y : Operand} {t t' : TypeId} {k : IntKind} {a b : Int} {r : Int} (hx : ev l x = some (.int k a)) (hy : ev l y = some (.int k b)) (hr : k.wrap ((BitVec.ofInt k.bits a &&& ~~~BitVec.ofInt k.bits b).toNat : Int) = r) (hd : Nat.blt d n = true)
    (h : W P ops Q rest n (.cons d (.int k r) l) w) : W P ops Q ({ dst := some d, op := .binOp .andNot t x y t', type := ty, pos := pos, after := af, guard := none } :: rest) n l w :=
  W_val rfl (inb_of hd) (R_bandNot hx hy hr) h
theorem R_shl {d : Tmp} {ty : TypeId} {pos : String} {af : Array Edge} {x y : Operand} {t t' : TypeId} {k k' : IntKind} {a b : Int} {r : Int} (hx : ev l x = some (.int k a)) (hy : ev l y = some (.int k' b)) (h0 : 0 ≤ b) (hr : k.wrap (a * 2 ^ (min b.toNat k.bits)) = r) :
    Runs P n l { dst := some d, op := .binOp .shl t x y t', type := ty, pos := pos, after := af, guard := none } (.int k r) w := (fun A hf => by
    have h0' : ¬ b < 0 := by omega
    simp [execOp, hf.eval hx, hf.eval hy, eqGuard, binOp, Op.shift, h0', hr])
theorem W_shl {d : Tmp} {ty : TypeId} {pos : String} {af : Array Edge} {x y : Operand} {t t' : TypeId} {k k' : IntKind} {a b : Int} {r : Int} (hx : ev l x = some (.int k a)) (hy : ev l y = some (.int k' b)) (h0 : 0 ≤ b) (hr : k.wrap (a * 2 ^ (min b.toNat k.bits)) = r) (hd : Nat.blt d n = true)
    (h : W P ops Q rest n (.cons d (.int k r) l) w) : W P ops Q ({ dst := some d, op := .binOp .shl t x y t', type := ty, pos := pos, after := af, guard := none } :: rest) n l w :=
  W_val rfl (inb_of hd) (R_shl hx hy h0 hr) h
theorem R_shr {d : Tmp} {ty : TypeId} {pos : String} {af : Array Edge} {x y : Operand} {t t' : TypeId} {k k' : IntKind} {a b : Int} {r : Int} (hx : ev l x = some (.int k a)) (hy : ev l y = some (.int k' b)) (h0 : 0 ≤ b) (hr : a.fdiv (2 ^ (min b.toNat k.bits)) = r) :
    Runs P n l { dst := some d, op := .binOp .shr t x y t', type := ty, pos := pos, after := af, guard := none } (.int k r) w := (fun A hf => by
    have h0' : ¬ b < 0 := by omega
    simp [execOp, hf.eval hx, hf.eval hy, eqGuard, binOp, Op.shift, h0', hr])
theorem W_shr {d : Tmp} {ty : TypeId} {pos : String} {af : Array Edge} {x y : Operand} {t t' : TypeId} {k k' : IntKind} {a b : Int} {r : Int} (hx : ev l x = some (.int k a)) (hy : ev l y = some (.int k' b)) (h0 : 0 ≤ b) (hr : a.fdiv (2 ^ (min b.toNat k.bits)) = r) (hd : Nat.blt d n = true)
    (h : W P ops Q rest n (.cons d (.int k r) l) w) : W P ops Q ({ dst := some d, op := .binOp .shr t x y t', type := ty, pos := pos, after := af, guard := none } :: rest) n l w :=
  W_val rfl (inb_of hd) (R_shr hx hy h0 hr) h
theorem R_lss {d : Tmp} {ty : TypeId} {pos : String} {af : Array Edge} {x y : Operand} {t t' : TypeId} {k : IntKind} {a b : Int} (hx : ev l x = some (.int k a)) (hy : ev l y = some (.int k b)) :
    Runs P n l { dst := some d, op := .binOp .lss t x y t', type := ty, pos := pos, after := af, guard := none } (.bool (decide (a < b))) w := (fun A hf => by
    simp [execOp, hf.eval hx, hf.eval hy, eqGuard, binOp, Op.intCmp])
theorem W_lss {d : Tmp} {ty : TypeId} {pos : String} {af : Array Edge} {x y : Operand} {t t' : TypeId} {k : IntKind} {a b : Int} (hx : ev l x = some (.int k a)) (hy : ev l y = some (.int k b)) (hd : Nat.blt d n = true)
    (h : W P ops Q rest n (.cons d (.bool (decide (a < b))) l) w) : W P ops Q ({ dst := some d, op := .binOp .lss t x y t', type := ty, pos := pos, after := af, guard := none } :: rest) n l w :=
  W_val rfl (inb_of hd) (R_lss hx hy) h
theorem R_lss_t {d : Tmp} {ty : TypeId} {pos : String} {af : Array Edge} {x y : Operand} {t t' : TypeId} {k : IntKind} {a b : Int} (hx : ev l x = some (.int k a)) (hy : ev l y = some (.int k b)) (hp : a < b) :
    Runs P n l { dst := some d, op := .binOp .lss t x y t', type := ty, pos := pos, after := af, guard := none } (.bool true) w := (fun A hf => by
    simp [execOp, hf.eval hx, hf.eval hy, eqGuard, binOp, Op.intCmp, hp])
theorem W_lss_t {d : Tmp} {ty : TypeId} {pos : String} {af : Array Edge} {x y : Operand} {t t' : TypeId} {k : IntKind} {a b : Int} (hx : ev l x = some (.int k a)) (hy : ev l y = some (.int k b)) (hp : a < b) (hd : Nat.blt d n = true)
    (h : W P ops Q rest n (.cons d (.bool true) l) w) : W P ops Q ({ dst := some d, op := .binOp .lss t x y t', type := ty, pos := pos, after := af, guard := none } :: rest) n l w :=
  W_val rfl (inb_of hd) (R_lss_t hx hy hp) h
theorem R_lss_f {d : Tmp} {ty : TypeId} {pos : String} {af : Array Edge} {x y : Operand} {t t' : TypeId} {k : IntKind} {a b : Int} (hx : ev l x = some (.int k a)) (hy : ev l y = some (.int k b)) (hp : b ≤ a) :
    Runs P n l { dst := some d, op := .binOp .lss t x y t', type := ty, pos := pos, after := af, guard := none } (.bool false) w := (fun A hf => by
    have hp' : ¬ (a < b) := by omega
    simp only [execOp, hf.eval hx, hf.eval hy, eqGuard, binOp, Op.intCmp, GT.gt, GE.ge, decide_eq_false hp']; simp)
theorem W_lss_f {d : Tmp} {ty : TypeId} {pos : String} {af : Array Edge} {x y : Operand} {t t' : TypeId} {k : IntKind} {a b : Int} (hx : ev l x = some (.int k a)) (hy : ev l y = some (.int k b)) (hp : b ≤ a) (hd : Nat.blt d n = true)
    (h : W P ops Q rest n (.cons d (.bool false) l) w) : W P ops Q ({ dst := some d, op := .binOp .lss t x y t', type := ty, pos := pos, after := af, guard := none } :: rest) n l w :=
  W_val rfl (inb_of hd) (R_lss_f hx hy hp) h
theorem R_leq {d : Tmp} {ty : TypeId} {pos : String} {af : Array Edge} {x y : Operand} {t t' : TypeId} {k : IntKind} {a b : Int} (hx : ev l x = some (.int k a)) (hy : ev l y = some (.int k b)) :
    Runs P n l { dst := some d, op := .binOp .leq t x y t', type := ty, pos := pos, after := af, guard := none } (.bool (decide (a ≤ b))) w := (fun A hf => by
    simp [execOp, hf.eval hx, hf.eval hy, eqGuard, binOp, Op.intCmp])
theorem W_leq {d : Tmp} {ty : TypeId} {pos : String} {af : Array Edge} {x y : Operand} {t t' : TypeId} {k : IntKind} {a b : Int} (hx : ev l x = some (.int k a)) (hy : ev l y = some (.int k b)) (hd : Nat.blt d n = true)
    (h : W P ops Q rest n (.cons d (.bool (decide (a ≤ b))) l) w) : W P ops Q ({ dst := some d, op := .binOp .leq t x y t', type := ty, pos := pos, after := af, guard := none } :: rest) n l w :=
  W_val rfl (inb_of hd) (R_leq hx hy) h
theorem R_leq_t {d : Tmp} {ty : TypeId} {pos : String} {af : Array Edge} {x y : Operand} {t t' : TypeId} {k : IntKind} {a b : Int} (hx : ev l x = some (.int k a)) (hy : ev l y = some (.int k b)) (hp : a ≤ b) :
    Runs P n l { dst := some d, op := .binOp .leq t x y t', type := ty, pos := pos, after := af, guard := none } (.bool true) w := (fun A hf => by
    simp [execOp, hf.eval hx, hf.eval hy, eqGuard, binOp, Op.intCmp, hp])
theorem W_leq_t {d : Tmp} {ty : TypeId} {pos : String} {af : Array Edge} {x y : Operand} {t t' : TypeId} {k : IntKind} {a b : Int} (hx : ev l x = some (.int k a)) (hy : ev l y = some (.int k b)) (hp : a ≤ b) (hd : Nat.blt d n = true)
    (h : W P ops Q rest n (.cons d (.bool true) l) w) : W P ops Q ({ dst := some d, op := .binOp .leq t x y t', type := ty, pos := pos, after := af, guard := none } :: rest) n l w :=
  W_val rfl (inb_of hd) (R_leq_t hx hy hp) h
theorem R_leq_f {d : Tmp} {ty : TypeId} {pos : String} {af : Array Edge} {x y : Operand} {t t' : TypeId} {k : IntKind} {a b : Int} (hx : ev l x = some (.int k a)) (hy : ev l y = some (.int k b)) (hp : b < a) :
    Runs P n l { dst := some d, op := .binOp .leq t x y t', type := ty, pos := pos, after := af, guard := none } (.bool false) w := (fun A hf => by
    have hp' : ¬ (a ≤ b) := by omega
    simp only [execOp, hf.eval hx, hf.eval hy, eqGuard, binOp, Op.intCmp, GT.gt, GE.ge, decide_eq_false hp']; simp)
theorem W_leq_f {d : Tmp} {ty : TypeId} {pos : String} {af : Array Edge} {x y : Operand} {t t' : TypeId} {k : IntKind} {a b : Int} (hx : ev l x = some (.int k a)) (hy : ev l y = some (.int k b)) (hp : b < a) (hd : Nat.blt d n = true)
    (h : W P ops Q rest n (.cons d (.bool false) l) w) : W P ops Q ({ dst := some d, op := .binOp .leq t x y t', type := ty, pos := pos, after := af, guard := none } :: rest) n l w :=
  W_val rfl (inb_of hd) (R_leq_f hx hy hp) h
theorem R_gtr {d : Tmp} {ty : TypeId} {pos : String} {af : Array Edge} {x y : Operand} {t t' : TypeId} {k : IntKind} {a b : Int} (hx : ev l x = some (.int k a)) (hy : ev l y = some (.int k b)) :
    Runs P n l { dst := some d, op := .binOp .gtr t x y t', type := ty, pos := pos, after := af, guard := none } (.bool (decide (b < a))) w := (fun A hf => by
    simp [execOp, hf.eval hx, hf.eval hy, eqGuard, binOp, Op.intCmp])
theorem W_gtr {d : Tmp} {ty : TypeId} {pos : String} {af : Array Edge} {x y : Operand} {t t' : TypeId} {k : IntKind} {a b : Int} (hx : ev l x = some (.int k a)) (hy : ev l y = some (.int k b)) (hd : Nat.blt d n = true)
    (h : W P ops Q rest n (.cons d (.bool (decide (b < a))) l) w) : W P ops Q ({ dst := some d, op := .binOp .gtr t x y t', type := ty, pos := pos, after := af, guard := none } :: rest) n l w :=
  W_val rfl (inb_of hd) (R_gtr hx hy) h
theorem R_gtr_t {d : Tmp} {ty : TypeId} {pos : String} {af : Array Edge} {x y : Operand} {t t' : TypeId} {k : IntKind} {a b : Int} (hx : ev l x = some (.int k a)) (hy : ev l y = some (.int k b)) (hp : b < a) :
    Runs P n l { dst := some d, op := .binOp .gtr t x y t', type := ty, pos := pos, after := af, guard := none } (.bool true) w := (fun A hf => by
    simp [execOp, hf.eval hx, hf.eval hy, eqGuard, binOp, Op.intCmp, hp])
theorem W_gtr_t {d : Tmp} {ty : TypeId} {pos : String} {af : Array Edge} {x y : Operand} {t t' : TypeId} {k : IntKind} {a b : Int} (hx : ev l x = some (.int k a)) (hy : ev l y = some (.int k b)) (hp : b < a) (hd : Nat.blt d n = true)
    (h : W P ops Q rest n (.cons d (.bool true) l) w) : W P ops Q ({ dst := some d, op := .binOp .gtr t x y t', type := ty, pos := pos, after := af, guard := none } :: rest) n l w :=
  W_val rfl (inb_of hd) (R_gtr_t hx hy hp) h
theorem R_gtr_f {d : Tmp} {ty : TypeId} {pos : String} {af : Array Edge} {x y : Operand} {t t' : TypeId} {k : IntKind} {a b : Int} (hx : ev l x = some (.int k a)) (hy : ev l y = some (.int k b)) (hp : a ≤ b) :
    Runs P n l { dst := some d, op := .binOp .gtr t x y t', type := ty, pos := pos, after := af, guard := none } (.bool false) w := (fun A hf => by
    have hp' : ¬ (b < a) := by omega
    simp only [execOp, hf.eval hx, hf.eval hy, eqGuard, binOp, Op.intCmp, GT.gt, GE.ge, decide_eq_false hp']; simp)
theorem W_gtr_f {d : Tmp} {ty : TypeId} {pos : String} {af : Array Edge} {x y : Operand} {t t' : TypeId} {k : IntKind} {a b : Int} (hx : ev l x = some (.int k a)) (hy : ev l y = some (.int k b)) (hp : a ≤ b) (hd : Nat.blt d n = true)
    (h : W P ops Q rest n (.cons d (.bool false) l) w) : W P ops Q ({ dst := some d, op := .binOp .gtr t x y t', type := ty, pos := pos, after := af, guard := none } :: rest) n l w :=
  W_val rfl (inb_of hd) (R_gtr_f hx hy hp) h
theorem R_geq {d : Tmp} {ty : TypeId} {pos : String} {af : Array Edge} {x y : Operand} {t t' : TypeId} {k : IntKind} {a b : Int} (hx : ev l x = some (.int k a)) (hy : ev l y = some (.int k b)) :
    Runs P n l { dst := some d, op := .binOp .geq t x y t', type := ty, pos := pos, after := af, guard := none } (.bool (decide (b ≤ a))) w := (fun A hf => by
    simp [execOp, hf.eval hx, hf.eval hy, eqGuard, binOp, Op.intCmp])
theorem W_geq {d : Tmp} {ty : TypeId} {pos : String} {af : Array Edge} {x y : Operand} {t t' : TypeId} {k : IntKind} {a b : Int} (hx : ev l x = some (.int k a)) (hy : ev l y = some (.int k b)) (hd : Nat.blt d n = true)
    (h : W P ops Q rest n (.cons d (.bool (decide (b ≤ a))) l) w) : W P ops Q ({ dst := some d, op := .binOp .geq t x y t', type := ty, pos := pos, after := af, guard := none } :: rest) n l w :=
  W_val rfl (inb_of hd) (R_geq hx hy) h
theorem R_geq_t {d : Tmp} {ty : TypeId} {pos : String} {af : Array Edge} {x y : Operand} {t t' : TypeId} {k : IntKind} {a b : Int} (hx : ev l x = some (.int k a)) (hy : ev l y = some (.int k b)) (hp : b ≤ a) :
    Runs P n l { dst := some d, op := .binOp .geq t x y t', type := ty, pos := pos, after := af, guard := none } (.bool true) w := (fun A hf => by
    simp [execOp, hf.eval hx, hf.eval hy, eqGuard, binOp, Op.intCmp, hp])
theorem W_geq_t {d : Tmp} {ty : TypeId} {pos : String} {af : Array Edge} {x y : Operand} {t t' : TypeId} {k : IntKind} {a b : Int} (hx : ev l x = some (.int k a)) (hy : ev l y = some (.int k b)) (hp : b ≤ a) (hd : Nat.blt d n = true)
    (h : W P ops Q rest n (.cons d (.bool true) l) w) : W P ops Q ({ dst := some d, op := .binOp .geq t x y t', type := ty, pos := pos, after := af, guard := none } :: rest) n l w :=
  W_val rfl (inb_of hd) (R_geq_t hx hy hp) h
theorem R_geq_f {d : Tmp} {ty : TypeId} {pos : String} {af : Array Edge} {x y : Operand} {t t' : TypeId} {k : IntKind} {a b : Int} (hx : ev l x = some (.int k a)) (hy : ev l y = some (.int k b)) (hp : a < b) :
    Runs P n l { dst := some d, op := .binOp .geq t x y t', type := ty, pos := pos, after := af, guard := none } (.bool false) w := (fun A hf => by
    have hp' : ¬ (b ≤ a) := by omega
    simp only [execOp, hf.eval hx, hf.eval hy, eqGuard, binOp, Op.intCmp, GT.gt, GE.ge, decide_eq_false hp']; simp)
theorem W_geq_f {d : Tmp} {ty : TypeId} {pos : String} {af : Array Edge} {x y : Operand} {t t' : TypeId} {k : IntKind} {a b : Int} (hx : ev l x = some (.int k a)) (hy : ev l y = some (.int k b)) (hp : a < b) (hd : Nat.blt d n = true)
    (h : W P ops Q rest n (.cons d (.bool false) l) w) : W P ops Q ({ dst := some d, op := .binOp .geq t x y t', type := ty, pos := pos, after := af, guard := none } :: rest) n l w :=
  W_val rfl (inb_of hd) (R_geq_f hx hy hp) h
theorem R_eql {d : Tmp} {ty : TypeId} {pos : String} {af : Array Edge} {x y : Operand} {t t' : TypeId} {k : IntKind} {a b : Int} (hx : ev l x = some (.int k a)) (hy : ev l y = some (.int k b)) :
    Runs P n l { dst := some d, op := .binOp .eql t x y t', type := ty, pos := pos, after := af, guard := none } (.bool (decide (a = b))) w := (fun A hf => by
    simp only [execOp, hf.eval hx, hf.eval hy, eqGuard, binOp, Op.intCmp]; by_cases h : a = b <;> simp [h])
theorem W_eql {d : Tmp} {ty : TypeId} {pos : String} {af : Array Edge} {x y : Operand} {t t' : TypeId} {k : IntKind} {a b : Int} (hx : ev l x = some (.int k a)) (hy : ev l y = some (.int k b)) (hd : Nat.blt d n = true)
    (h : W P ops Q rest n (.cons d (.bool (decide (a = b))) l) w) : W P ops Q ({ dst := some d, op := .binOp .eql t x y t', type := ty, pos := pos, after := af, guard := none } :: rest) n l w :=
  W_val rfl (inb_of hd) (R_eql hx hy) h
theorem R_eql_t {d : Tmp} {ty : TypeId} {pos : String} {af : Array Edge} {x y : Operand} {t t' : TypeId} {k : IntKind} {a b : Int} (hx : ev l x = some (.int k a)) (hy : ev l y = some (.int k b)) (hp : a = b) :
    Runs P n l { dst := some d, op := .binOp .eql t x y t', type := ty, pos := pos, after := af, guard := none } (.bool true) w := (fun A hf => by
    simp [execOp, hf.eval hx, hf.eval hy, eqGuard, binOp, Op.intCmp, hp])
theorem W_eql_t {d : Tmp} {ty : TypeId} {pos : String} {af : Array Edge} {x y : Operand} {t t' : TypeId} {k : IntKind} {a b : Int} (hx : ev l x = some (.int k a)) (hy : ev l y = some (.int k b)) (hp : a = b) (hd : Nat.blt d n = true)
    (h : W P ops Q rest n (.cons d (.bool true) l) w) : W P ops Q ({ dst := some d, op := .binOp .eql t x y t', type := ty, pos := pos, after := af, guard := none } :: rest) n l w :=
  W_val rfl (inb_of hd) (R_eql_t hx hy hp) h
theorem R_eql_f {d : Tmp} {ty : TypeId} {pos : String} {af : Array Edge} {x y : Operand} {t t' : TypeId} {k : IntKind} {a b : Int} (hx : ev l x = some (.int k a)) (hy : ev l y = some (.int k b)) (hp : a ≠ b) :
    Runs P n l { dst := some d, op := .binOp .eql t x y t', type := ty, pos := pos, after := af, guard := none } (.bool false) w := (fun A hf => by
    simp [execOp, hf.eval hx, hf.eval hy, eqGuard, binOp, Op.intCmp, hp])
theorem W_eql_f {d : Tmp} {ty : TypeId} {pos : String} {af : Array Edge} {x y : Operand} {t t' : TypeId} {k : IntKind} {a b : Int} (hx : ev l x = some (.int k a)) (hy : ev l y = some (.int k b)) (hp : a ≠ b) (hd : Nat.blt d n = true)
    (h : W P ops Q rest n (.cons d (.bool false) l) w) : W P ops Q ({ dst := some d, op := .binOp .eql t x y t', type := ty, pos := pos, after := af, guard := none } :: rest) n l w :=
  W_val rfl (inb_of hd) (R_eql_f hx hy hp) h
theorem R_neq {d : Tmp} {ty : TypeId} {pos : String} {af : Array Edge} {x y : Operand} {t t' : TypeId} {k : IntKind} {a b : Int} (hx : ev l x = some (.int k a)) (hy : ev l y = some (.int k b)) :
    Runs P n l { dst := some d, op := .binOp .neq t x y t', type := ty, pos := pos, after := af, guard := none } (.bool (!decide (a = b))) w := (fun A hf => by
    simp only [execOp, hf.eval hx, hf.eval hy, eqGuard, binOp, Op.intCmp]; by_cases h : a = b <;> simp [h])
theorem W_neq {d : Tmp} {ty : TypeId} {pos : String} {af : Array Edge} {x y : Operand} {t t' : TypeId} {k : IntKind} {a b : Int} (hx : ev l x = some (.int k a)) (hy : ev l y = some (.int k b)) (hd : Nat.blt d n = true)
    (h : W P ops Q rest n (.cons d (.bool (!decide (a = b))) l) w) : W P ops Q ({ dst := some d, op := .binOp .neq t x y t', type := ty, pos := pos, after := af, guard := none } :: rest) n l w :=
  W_val rfl (inb_of hd) (R_neq hx hy) h
theorem R_neq_t {d : Tmp} {ty : TypeId} {pos : String} {af : Array Edge} {x y : Operand} {t t' : TypeId} {k : IntKind} {a b : Int} (hx : ev l x = some (.int k a)) (hy : ev l y = some (.int k b)) (hp : a ≠ b) :
    Runs P n l { dst := some d, op := .binOp .neq t x y t', type := ty, pos := pos, after := af, guard := none } (.bool true) w := (fun A hf => by
    simp [execOp, hf.eval hx, hf.eval hy, eqGuard, binOp, Op.intCmp, hp])
theorem W_neq_t {d : Tmp} {ty : TypeId} {pos : String} {af : Array Edge} {x y : Operand} {t t' : TypeId} {k : IntKind} {a b : Int} (hx : ev l x = some (.int k a)) (hy : ev l y = some (.int k b)) (hp : a ≠ b) (hd : Nat.blt d n = true)
    (h : W P ops Q rest n (.cons d (.bool true) l) w) : W P ops Q ({ dst := some d, op := .binOp .neq t x y t', type := ty, pos := pos, after := af, guard := none } :: rest) n l w :=
  W_val rfl (inb_of hd) (R_neq_t hx hy hp) h
theorem R_neq_f {d : Tmp} {ty : TypeId} {pos : String} {af : Array Edge} {x y : Operand} {t t' : TypeId} {k : IntKind} {a b : Int} (hx : ev l x = some (.int k a)) (hy : ev l y = some (.int k b)) (hp : a = b) :
    Runs P n l { dst := some d, op := .binOp .neq t x y t', type := ty, pos := pos, after := af, guard := none } (.bool false) w := (fun A hf => by
    simp [execOp, hf.eval hx, hf.eval hy, eqGuard, binOp, Op.intCmp, hp])
theorem W_neq_f {d : Tmp} {ty : TypeId} {pos : String} {af : Array Edge} {x y : Operand} {t t' : TypeId} {k : IntKind} {a b : Int} (hx : ev l x = some (.int k a)) (hy : ev l y = some (.int k b)) (hp : a = b) (hd : Nat.blt d n = true)
    (h : W P ops Q rest n (.cons d (.bool false) l) w) : W P ops Q ({ dst := some d, op := .binOp .neq t x y t', type := ty, pos := pos, after := af, guard := none } :: rest) n l w :=
  W_val rfl (inb_of hd) (R_neq_f hx hy hp) h
theorem R_sadd {d : Tmp} {ty : TypeId} {pos : String} {af : Array Edge} {x y : Operand} {t t' : TypeId} {a b : List UInt8} (hx : ev l x = some (.string ⟨a.toArray⟩)) (hy : ev l y = some (.string ⟨b.toArray⟩)) (hr : a.length + b.length ≤ 9223372036854775807) :
    Runs P n l { dst := some d, op := .binOp .add t x y t', type := ty, pos := pos, after := af, guard := none } (.string ⟨(a ++ b).toArray⟩) w := (fun A hf => by
    have hr' : ¬ ((((⟨a.toArray⟩ : ByteArray).size + (⟨b.toArray⟩ : ByteArray).size : Nat) : Int) > IntKind.i64.max) := by
      show ¬ (((a.toArray.size + b.toArray.size : Nat) : Int) > 9223372036854775807)
      simp; omega
    simp only [execOp, hf.eval hx, hf.eval hy, eqGuard, binOp, Op.stringOp, if_neg hr']
    simp [bytes_append])
theorem W_sadd {d : Tmp} {ty : TypeId} {pos : String} {af : Array Edge} {x y : Operand} {t t' : TypeId} {a b : List UInt8} (hx : ev l x = some (.string ⟨a.toArray⟩)) (hy : ev l y = some (.string ⟨b.toArray⟩)) (hr : a.length + b.length ≤ 9223372036854775807) (hd : Nat.blt d n = true)
    (h : W P ops Q rest n (.cons d (.string ⟨(a ++ b).toArray⟩) l) w) : W P ops Q ({ dst := some d, op := .binOp .add t x y t', type := ty, pos := pos, after := af, guard := none } :: rest) n l w :=
  W_val rfl (inb_of hd) (R_sadd hx hy hr) h
theorem R_seql {d : Tmp} {ty : TypeId} {pos : String} {af : Array Edge} {x y : Operand} {t t' : TypeId} {a b : List UInt8} (hx : ev l x = some (.string ⟨a.toArray⟩)) (hy : ev l y = some (.string ⟨b.toArray⟩)) :
    Runs P n l { dst := some d, op := .binOp .eql t x y t', type := ty, pos := pos, after := af, guard := none } (.bool (decide (a = b))) w := (fun A hf => by
    simp only [execOp, hf.eval hx, hf.eval hy, eqGuard, binOp, Op.stringOp, ByteArray.toList_mk]; simp [beq_dec])
theorem W_seql {d : Tmp} {ty : TypeId} {pos : String} {af : Array Edge} {x y : Operand} {t t' : TypeId} {a b : List UInt8} (hx : ev l x = some (.string ⟨a.toArray⟩)) (hy : ev l y = some (.string ⟨b.toArray⟩)) (hd : Nat.blt d n = true)
    (h : W P ops Q rest n (.cons d (.bool (decide (a = b))) l) w) : W P ops Q ({ dst := some d, op := .binOp .eql t x y t', type := ty, pos := pos, after := af, guard := none } :: rest) n l w :=
  W_val rfl (inb_of hd) (R_seql hx hy) h
theorem R_sneq {d : Tmp} {ty : TypeId} {pos : String} {af : Array Edge} {x y : Operand} {t t' : TypeId} {a b : List UInt8} (hx : ev l x = some (.string ⟨a.toArray⟩)) (hy : ev l y = some (.string ⟨b.toArray⟩)) :
    Runs P n l { dst := some d, op := .binOp .neq t x y t', type := ty, pos := pos, after := af, guard := none } (.bool (!decide (a = b))) w := (fun A hf => by
    simp only [execOp, hf.eval hx, hf.eval hy, eqGuard, binOp, Op.stringOp, ByteArray.toList_mk]; simp [beq_dec])
theorem W_sneq {d : Tmp} {ty : TypeId} {pos : String} {af : Array Edge} {x y : Operand} {t t' : TypeId} {a b : List UInt8} (hx : ev l x = some (.string ⟨a.toArray⟩)) (hy : ev l y = some (.string ⟨b.toArray⟩)) (hd : Nat.blt d n = true)
    (h : W P ops Q rest n (.cons d (.bool (!decide (a = b))) l) w) : W P ops Q ({ dst := some d, op := .binOp .neq t x y t', type := ty, pos := pos, after := af, guard := none } :: rest) n l w :=
  W_val rfl (inb_of hd) (R_sneq hx hy) h
theorem R_slss {d : Tmp} {ty : TypeId} {pos : String} {af : Array Edge} {x y : Operand} {t t' : TypeId} {a b : List UInt8} (hx : ev l x = some (.string ⟨a.toArray⟩)) (hy : ev l y = some (.string ⟨b.toArray⟩)) :
    Runs P n l { dst := some d, op := .binOp .lss t x y t', type := ty, pos := pos, after := af, guard := none } (.bool (Op.bytesLess a b)) w := (fun A hf => by
    simp only [execOp, hf.eval hx, hf.eval hy, eqGuard, binOp, Op.stringOp, ByteArray.toList_mk]; simp [beq_dec])
theorem W_slss {d : Tmp} {ty : TypeId} {pos : String} {af : Array Edge} {x y : Operand} {t t' : TypeId} {a b : List UInt8} (hx : ev l x = some (.string ⟨a.toArray⟩)) (hy : ev l y = some (.string ⟨b.toArray⟩)) (hd : Nat.blt d n = true)
    (h : W P ops Q rest n (.cons d (.bool (Op.bytesLess a b)) l) w) : W P ops Q ({ dst := some d, op := .binOp .lss t x y t', type := ty, pos := pos, after := af, guard := none } :: rest) n l w :=
  W_val rfl (inb_of hd) (R_slss hx hy) h
theorem R_sleq {d : Tmp} {ty : TypeId} {pos : String} {af : Array Edge} {x y : Operand} {t t' : TypeId} {a b : List UInt8} (hx : ev l x = some (.string ⟨a.toArray⟩)) (hy : ev l y = some (.string ⟨b.toArray⟩)) :
    Runs P n l { dst := some d, op := .binOp .leq t x y t', type := ty, pos := pos, after := af, guard := none } (.bool (Op.bytesLess a b || decide (a = b))) w := (fun A hf => by
    simp only [execOp, hf.eval hx, hf.eval hy, eqGuard, binOp, Op.stringOp, ByteArray.toList_mk]; simp [beq_dec])
theorem W_sleq {d : Tmp} {ty : TypeId} {pos : String} {af : Array Edge} {x y : Operand} {t t' : TypeId} {a b : List UInt8} (hx : ev l x = some (.string ⟨a.toArray⟩)) (hy : ev l y = some (.string ⟨b.toArray⟩)) (hd : Nat.blt d n = true)
    (h : W P ops Q rest n (.cons d (.bool (Op.bytesLess a b || decide (a = b))) l) w) : W P ops Q ({ dst := some d, op := .binOp .leq t x y t', type := ty, pos := pos, after := af, guard := none } :: rest) n l w :=
  W_val rfl (inb_of hd) (R_sleq hx hy) h
theorem R_sgtr {d : Tmp} {ty : TypeId} {pos : String} {af : Array Edge} {x y : Operand} {t t' : TypeId} {a b : List UInt8} (hx : ev l x = some (.string ⟨a.toArray⟩)) (hy : ev l y = some (.string ⟨b.toArray⟩)) :
    Runs P n l { dst := some d, op := .binOp .gtr t x y t', type := ty, pos := pos, after := af, guard := none } (.bool (!(Op.bytesLess a b || decide (a = b)))) w := (fun A hf => by
    simp only [execOp, hf.eval hx, hf.eval hy, eqGuard, binOp, Op.stringOp, ByteArray.toList_mk]; simp [beq_dec])
theorem W_sgtr {d : Tmp} {ty : TypeId} {pos : String} {af : Array Edge} {x y : Operand} {t t' : TypeId} {a b : List UInt8} (hx : ev l x = some (.string ⟨a.toArray⟩)) (hy : ev l y = some (.string ⟨b.toArray⟩)) (hd : Nat.blt d n = true)
    (h : W P ops Q rest n (.cons d (.bool (!(Op.bytesLess a b || decide (a = b)))) l) w) : W P ops Q ({ dst := some d, op := .binOp .gtr t x y t', type := ty, pos := pos, after := af, guard := none } :: rest) n l w :=
  W_val rfl (inb_of hd) (R_sgtr hx hy) h
theorem R_sgeq {d : Tmp} {ty : TypeId} {pos : String} {af : Array Edge} {x y : Operand} {t t' : TypeId} {a b : List UInt8} (hx : ev l x = some (.string ⟨a.toArray⟩)) (hy : ev l y = some (.string ⟨b.toArray⟩)) :
    Runs P n l { dst := some d, op := .binOp .geq t x y t', type := ty, pos := pos, after := af, guard := none } (.bool (!Op.bytesLess a b)) w := (fun A hf => by
    simp only [execOp, hf.eval hx, hf.eval hy, eqGuard, binOp, Op.stringOp, ByteArray.toList_mk]; simp [beq_dec])
theorem W_sgeq {d : Tmp} {ty : TypeId} {pos : String} {af : Array Edge} {x y : Operand} {t t' : TypeId} {a b : List UInt8} (hx : ev l x = some (.string ⟨a.toArray⟩)) (hy : ev l y = some (.string ⟨b.toArray⟩)) (hd : Nat.blt d n = true)
    (h : W P ops Q rest n (.cons d (.bool (!Op.bytesLess a b)) l) w) : W P ops Q ({ dst := some d, op := .binOp .geq t x y t', type := ty, pos := pos, after := af, guard := none } :: rest) n l w :=
  W_val rfl (inb_of hd) (R_sgeq hx hy) h
theorem R_seql_t {d : Tmp} {ty : TypeId} {pos : String} {af : Array Edge} {x y : Operand} {t t' : TypeId} {a b : List UInt8} (hx : ev l x = some (.string ⟨a.toArray⟩)) (hy : ev l y = some (.string ⟨b.toArray⟩)) (hp : a = b) :
    Runs P n l { dst := some d, op := .binOp .eql t x y t', type := ty, pos := pos, after := af, guard := none } (.bool true) w := (fun A hf => by
    simp only [execOp, hf.eval hx, hf.eval hy, eqGuard, binOp, Op.stringOp, ByteArray.toList_mk]; simp [hp])
theorem W_seql_t {d : Tmp} {ty : TypeId} {pos : String} {af : Array Edge} {x y : Operand} {t t' : TypeId} {a b : List UInt8} (hx : ev l x = some (.string ⟨a.toArray⟩)) (hy : ev l y = some (.string ⟨b.toArray⟩)) (hp : a = b) (hd : Nat.blt d n = true)
    (h : W P ops Q rest n (.cons d (.bool true) l) w) : W P ops Q ({ dst := some d, op := .binOp .eql t x y t', type := ty, pos := pos, after := af, guard := none } :: rest) n l w :=
  W_val rfl (inb_of hd) (R_seql_t hx hy hp) h
theorem R_seql_f {d : Tmp} {ty : TypeId} {pos : String} {af : Array Edge} {x y : Operand} {t t' : TypeId} {a b : List UInt8} (hx : ev l x = some (.string ⟨a.toArray⟩)) (hy : ev l y = some (.string ⟨b.toArray⟩)) (hp : a ≠ b) :
    Runs P n l { dst := some d, op := .binOp .eql t x y t', type := ty, pos := pos, after := af, guard := none } (.bool false) w := (fun A hf => by
    simp only [execOp, hf.eval hx, hf.eval hy, eqGuard, binOp, Op.stringOp, ByteArray.toList_mk]; simp [hp])
theorem W_seql_f {d : Tmp} {ty : TypeId} {pos : String} {af : Array Edge} {x y : Operand} {t t' : TypeId} {a b : List UInt8} (hx : ev l x = some (.string ⟨a.toArray⟩)) (hy : ev l y = some (.string ⟨b.toArray⟩)) (hp : a ≠ b) (hd : Nat.blt d n = true)
    (h : W P ops Q rest n (.cons d (.bool false) l) w) : W P ops Q ({ dst := some d, op := .binOp .eql t x y t', type := ty, pos := pos, after := af, guard := none } :: rest) n l w :=
  W_val rfl (inb_of hd) (R_seql_f hx hy hp) h
theorem R_sneq_t {d : Tmp} {ty : TypeId} {pos : String} {af : Array Edge} {x y : Operand} {t t' : TypeId} {a b : List UInt8} (hx : ev l x = some (.string ⟨a.toArray⟩)) (hy : ev l y = some (.string ⟨b.toArray⟩)) (hp : a ≠ b) :
    Runs P n l { dst := some d, op := .binOp .neq t x y t', type := ty, pos := pos, after := af, guard := none } (.bool true) w := (fun A hf => by
    simp only [execOp, hf.eval hx, hf.eval hy, eqGuard, binOp, Op.stringOp, ByteArray.toList_mk]; simp [hp])
theorem W_sneq_t {d : Tmp} {ty : TypeId} {pos : String} {af : Array Edge} {x y : Operand} {t t' : TypeId} {a b : List UInt8} (hx : ev l x = some (.string ⟨a.toArray⟩)) (hy : ev l y = some (.string ⟨b.toArray⟩)) (hp : a ≠ b) (hd : Nat.blt d n = true)
    (h : W P ops Q rest n (.cons d (.bool true) l) w) : W P ops Q ({ dst := some d, op := .binOp .neq t x y t', type := ty, pos := pos, after := af, guard := none } :: rest) n l w :=
  W_val rfl (inb_of hd) (R_sneq_t hx hy hp) h
theorem R_sneq_f {d : Tmp} {ty : TypeId} {pos : String} {af : Array Edge} {x y : Operand} {t t' : TypeId} {a b : List UInt8} (hx : ev l x = some (.string ⟨a.toArray⟩)) (hy : ev l y = some (.string ⟨b.toArray⟩)) (hp : a = b) :
    Runs P n l { dst := some d, op := .binOp .neq t x y t', type := ty, pos := pos, after := af, guard := none } (.bool false) w := (fun A hf => by
    simp only [execOp, hf.eval hx, hf.eval hy, eqGuard, binOp, Op.stringOp, ByteArray.toList_mk]; simp [hp])
theorem W_sneq_f {d : Tmp} {ty : TypeId} {pos : String} {af : Array Edge} {x y : Operand} {t t' : TypeId} {a b : List UInt8} (hx : ev l x = some (.string ⟨a.toArray⟩)) (hy : ev l y = some (.string ⟨b.toArray⟩)) (hp : a = b) (hd : Nat.blt d n = true)
    (h : W P ops Q rest n (.cons d (.bool false) l) w) : W P ops Q ({ dst := some d, op := .binOp .neq t x y t', type := ty, pos := pos, after := af, guard := none } :: rest) n l w :=
  W_val rfl (inb_of hd) (R_sneq_f hx hy hp) h
theorem R_beql {d : Tmp} {ty : TypeId} {pos : String} {af : Array Edge} {x y : Operand} {t t' : TypeId} {a b : Bool} (ht : P.underlying t = some .bool) (hx : ev l x = some (.bool a)) (hy : ev l y = some (.bool b)) :
    Runs P n l { dst := some d, op := .binOp .eql t x y t', type := ty, pos := pos, after := af, guard := none } (.bool (a == b)) w := (fun A hf => by
    simp [execOp, hf.eval hx, hf.eval hy, eqGuard, run_eql_bool w t a b ht])
theorem W_beql {d : Tmp} {ty : TypeId} {pos : String} {af : Array Edge} {x y : Operand} {t t' : TypeId} {a b : Bool} (ht : P.underlying t = some .bool) (hx : ev l x = some (.bool a)) (hy : ev l y = some (.bool b)) (hd : Nat.blt d n = true)
    (h : W P ops Q rest n (.cons d (.bool (a == b)) l) w) : W P ops Q ({ dst := some d, op := .binOp .eql t x y t', type := ty, pos := pos, after := af, guard := none } :: rest) n l w :=
  W_val rfl (inb_of hd) (R_beql ht hx hy) h
theorem R_bneq {d : Tmp} {ty : TypeId} {pos : String} {af : Array Edge} {x y : Operand} {t t' : TypeId} {a b : Bool} (ht : P.underlying t = some .bool) (hx : ev l x = some (.bool a)) (hy : ev l y = some (.bool b)) :
    Runs P n l { dst := some d, op := .binOp .neq t x y t', type := ty, pos := pos, after := af, guard := none } (.bool (a != b)) w := (fun A hf => by
    simp [execOp, hf.eval hx, hf.eval hy, eqGuard, run_neq_bool w t a b ht, bne])
theorem W_bneq {d : Tmp} {ty : TypeId} {pos : String} {af : Array Edge} {x y : Operand} {t t' : TypeId} {a b : Bool} (ht : P.underlying t = some .bool) (hx : ev l x = some (.bool a)) (hy : ev l y = some (.bool b)) (hd : Nat.blt d n = true)
    (h : W P ops Q rest n (.cons d (.bool (a != b)) l) w) : W P ops Q ({ dst := some d, op := .binOp .neq t x y t', type := ty, pos := pos, after := af, guard := none } :: rest) n l w :=
  W_val rfl (inb_of hd) (R_bneq ht hx hy) h
theorem R_beql_t {d : Tmp} {ty : TypeId} {pos : String} {af : Array Edge} {x y : Operand} {t t' : TypeId} {a b : Bool} (ht : P.underlying t = some .bool) (hx : ev l x = some (.bool a)) (hy : ev l y = some (.bool b)) (hp : a = b) :
    Runs P n l { dst := some d, op := .binOp .eql t x y t', type := ty, pos := pos, after := af, guard := none } (.bool true) w := (fun A hf => by
    subst hp; simp [execOp, hf.eval hx, hf.eval hy, eqGuard, run_eql_bool w t a a ht])
theorem W_beql_t {d : Tmp} {ty : TypeId} {pos : String} {af : Array Edge} {x y : Operand} {t t' : TypeId} {a b : Bool} (ht : P.underlying t = some .bool) (hx : ev l x = some (.bool a)) (hy : ev l y = some (.bool b)) (hp : a = b) (hd : Nat.blt d n = true)
    (h : W P ops Q rest n (.cons d (.bool true) l) w) : W P ops Q ({ dst := some d, op := .binOp .eql t x y t', type := ty, pos := pos, after := af, guard := none } :: rest) n l w :=
  W_val rfl (inb_of hd) (R_beql_t ht hx hy hp) h
theorem R_beql_f {d : Tmp} {ty : TypeId} {pos : String} {af : Array Edge} {x y : Operand} {t t' : TypeId} {a b : Bool} (ht : P.underlying t = some .bool) (hx : ev l x = some (.bool a)) (hy : ev l y = some (.bool b)) (hp : a = !b) :
    Runs P n l { dst := some d, op := .binOp .eql t x y t', type := ty, pos := pos, after := af, guard := none } (.bool false) w := (fun A hf => by
    subst hp; simp [execOp, hf.eval hx, hf.eval hy, eqGuard, run_eql_bool w t _ b ht])
theorem W_beql_f {d : Tmp} {ty : TypeId} {pos : String} {af : Array Edge} {x y : Operand} {t t' : TypeId} {a b : Bool} (ht : P.underlying t = some .bool) (hx : ev l x = some (.bool a)) (hy : ev l y = some (.bool b)) (hp : a = !b) (hd : Nat.blt d n = true)
    (h : W P ops Q rest n (.cons d (.bool false) l) w) : W P ops Q ({ dst := some d, op := .binOp .eql t x y t', type := ty, pos := pos, after := af, guard := none } :: rest) n l w :=
  W_val rfl (inb_of hd) (R_beql_f ht hx hy hp) h
theorem R_bneq_f {d : Tmp} {ty : TypeId} {pos : String} {af : Array Edge} {x y : Operand} {t t' : TypeId} {a b : Bool} (ht : P.underlying t = some .bool) (hx : ev l x = some (.bool a)) (hy : ev l y = some (.bool b)) (hp : a = b) :
    Runs P n l { dst := some d, op := .binOp .neq t x y t', type := ty, pos := pos, after := af, guard := none } (.bool false) w := (fun A hf => by
    subst hp; simp [execOp, hf.eval hx, hf.eval hy, eqGuard, run_neq_bool w t a a ht, bne])
theorem W_bneq_f {d : Tmp} {ty : TypeId} {pos : String} {af : Array Edge} {x y : Operand} {t t' : TypeId} {a b : Bool} (ht : P.underlying t = some .bool) (hx : ev l x = some (.bool a)) (hy : ev l y = some (.bool b)) (hp : a = b) (hd : Nat.blt d n = true)
    (h : W P ops Q rest n (.cons d (.bool false) l) w) : W P ops Q ({ dst := some d, op := .binOp .neq t x y t', type := ty, pos := pos, after := af, guard := none } :: rest) n l w :=
  W_val rfl (inb_of hd) (R_bneq_f ht hx hy hp) h
theorem R_bneq_t {d : Tmp} {ty : TypeId} {pos : String} {af : Array Edge} {x y : Operand} {t t' : TypeId} {a b : Bool} (ht : P.underlying t = some .bool) (hx : ev l x = some (.bool a)) (hy : ev l y = some (.bool b)) (hp : a = !b) :
    Runs P n l { dst := some d, op := .binOp .neq t x y t', type := ty, pos := pos, after := af, guard := none } (.bool true) w := (fun A hf => by
    subst hp; simp [execOp, hf.eval hx, hf.eval hy, eqGuard, run_neq_bool w t _ b ht, bne])
theorem W_bneq_t {d : Tmp} {ty : TypeId} {pos : String} {af : Array Edge} {x y : Operand} {t t' : TypeId} {a b : Bool} (ht : P.underlying t = some .bool) (hx : ev l x = some (.bool a)) (hy : ev l y = some (.bool b)) (hp : a = !b) (hd : Nat.blt d n = true)
    (h : W P ops Q rest n (.cons d (.bool true) l) w) : W P ops Q ({ dst := some d, op := .binOp .neq t x y t', type := ty, pos := pos, after := af, guard := none } :: rest) n l w :=
  W_val rfl (inb_of hd) (R_bneq_t ht hx hy hp) h
theorem R_not {d : Tmp} {ty : TypeId} {pos : String} {af : Array Edge} {x : Operand} {t : TypeId} {a : Bool} (hx : ev l x = some (.bool a)) :
    Runs P n l { dst := some d, op := .unOp .not t x, type := ty, pos := pos, after := af, guard := none } (.bool (!a)) w := (fun A hf => by
    simp [execOp, hf.eval hx, Op.unary])
theorem W_not {d : Tmp} {ty : TypeId} {pos : String} {af : Array Edge} {x : Operand} {t : TypeId} {a : Bool} (hx : ev l x = some (.bool a)) (hd : Nat.blt d n = true)
    (h : W P ops Q rest n (.cons d (.bool (!a)) l) w) : W P ops Q ({ dst := some d, op := .unOp .not t x, type := ty, pos := pos, after := af, guard := none } :: rest) n l w :=
  W_val rfl (inb_of hd) (R_not hx) h
theorem R_not_t {d : Tmp} {ty : TypeId} {pos : String} {af : Array Edge} {x : Operand} {t : TypeId} (hx : ev l x = some (.bool true)) :
    Runs P n l { dst := some d, op := .unOp .not t x, type := ty, pos := pos, after := af, guard := none } (.bool false) w := (fun A hf => by
    simp [execOp, hf.eval hx, Op.unary])
theorem W_not_t {d : Tmp} {ty : TypeId} {pos : String} {af : Array Edge} {x : Operand} {t : TypeId} (hx : ev l x = some (.bool true)) (hd : Nat.blt d n = true)
    (h : W P ops Q rest n (.cons d (.bool false) l) w) : W P ops Q ({ dst := some d, op := .unOp .not t x, type := ty, pos := pos, after := af, guard := none } :: rest) n l w :=
  W_val rfl (inb_of hd) (R_not_t hx) h
theorem R_not_f {d : Tmp} {ty : TypeId} {pos : String} {af : Array Edge} {x : Operand} {t : TypeId} (hx : ev l x = some (.bool false)) :
    Runs P n l { dst := some d, op := .unOp .not t x, type := ty, pos := pos, after := af, guard := none } (.bool true) w := (fun A hf => by
    simp [execOp, hf.eval hx, Op.unary])
theorem W_not_f {d : Tmp} {ty : TypeId} {pos : String} {af : Array Edge} {x : Operand} {t : TypeId} (hx : ev l x = some (.bool false)) (hd : Nat.blt d n = true)
    (h : W P ops Q rest n (.cons d (.bool true) l) w) : W P ops Q ({ dst := some d, op := .unOp .not t x, type := ty, pos := pos, after := af, guard := none } :: rest) n l w :=
  W_val rfl (inb_of hd) (R_not_f hx) h
theorem R_neg {d : Tmp} {ty : TypeId} {pos : String} {af : Array Edge} {x : Operand} {t : TypeId} {k : IntKind} {a r : Int} (hx : ev l x = some (.int k a)) (hr : k.wrap (0 - a) = r) :
    Runs P n l { dst := some d, op := .unOp .neg t x, type := ty, pos := pos, after := af, guard := none } (.int k r) w := (fun A hf => by
    simp only [execOp, hf.eval hx, Op.unary, Op.intArith]; rw [← hr]; rfl)
theorem W_neg {d : Tmp} {ty : TypeId} {pos : String} {af : Array Edge} {x : Operand} {t : TypeId} {k : IntKind} {a r : Int} (hx : ev l x = some (.int k a)) (hr : k.wrap (0 - a) = r) (hd : Nat.blt d n = true)
    (h : W P ops Q rest n (.cons d (.int k r) l) w) : W P ops Q ({ dst := some d, op := .unOp .neg t x, type := ty, pos := pos, after := af, guard := none } :: rest) n l w :=
  W_val rfl (inb_of hd) (R_neg hx hr) h
theorem R_compl {d : Tmp} {ty : TypeId} {pos : String} {af : Array Edge} {x : Operand} {t : TypeId} {k : IntKind} {a r : Int} (hx : ev l x = some (.int k a)) (hr : k.wrap ((BitVec.ofInt k.bits (if k.signed then -1 else k.max) ^^^ BitVec.ofInt k.bits a).toNat : Int) = r) :
    Runs P n l { dst := some d, op := .unOp .xor t x, type := ty, pos := pos, after := af, guard := none } (.int k r) w := (fun A hf => by
    simp only [execOp, hf.eval hx, Op.unary, Op.intBits]; rw [← hr]; rfl)
theorem W_compl {d : Tmp} {ty : TypeId} {pos : String} {af : Array Edge} {x : Operand} {t : TypeId} {k : IntKind} {a r : Int} (hx : ev l x = some (.int k a)) (hr : k.wrap ((BitVec.ofInt k.bits (if k.signed then -1 else k.max) ^^^ BitVec.ofInt k.bits a).toNat : Int) = r) (hd : Nat.blt d n = true)
    (h : W P ops Q rest n (.cons d (.int k r) l) w) : W P ops Q ({ dst := some d, op := .unOp .xor t x, type := ty, pos := pos, after := af, guard := none } :: rest) n l w :=
  W_val rfl (inb_of hd) (R_compl hx hr) h
theorem R_len_s {d : Tmp} {ty : TypeId} {pos : String} {af : Array Edge} {x : Operand} {t : TypeId} {a : List UInt8} (ht : P.underlying t = some .string) (hx : ev l x = some (.string ⟨a.toArray⟩)) :
    Runs P n l { dst := some d, op := .call { callee := .builtin .len, args := #[x], argTypes := #[t] }, type := ty, pos := pos, after := af, guard := none } (.int .i64 a.length) w := (fun A hf => by
    simp only [execOp, resolve, invoke, builtin]; simp [hf.eval hx, run_len_string w t _ _ ht, ByteArray.size, goInt])
theorem W_len_s {d : Tmp} {ty : TypeId} {pos : String} {af : Array Edge} {x : Operand} {t : TypeId} {a : List UInt8} (ht : P.underlying t = some .string) (hx : ev l x = some (.string ⟨a.toArray⟩)) (hd : Nat.blt d n = true)
    (h : W P ops Q rest n (.cons d (.int .i64 a.length) l) w) : W P ops Q ({ dst := some d, op := .call { callee := .builtin .len, args := #[x], argTypes := #[t] }, type := ty, pos := pos, after := af, guard := none } :: rest) n l w :=
  W_val rfl (inb_of hd) (R_len_s ht hx) h
theorem R_len_sl {d : Tmp} {ty : TypeId} {pos : String} {af : Array Edge} {x : Operand} {t e : TypeId} {ad : Option Addr} {m c : Nat} (ht : P.underlying t = some (.slice e)) (hx : ev l x = some (.slice ad m c)) :
    Runs P n l { dst := some d, op := .call { callee := .builtin .len, args := #[x], argTypes := #[t] }, type := ty, pos := pos, after := af, guard := none } (.int .i64 m) w := (fun A hf => by
    simp only [execOp, resolve, invoke, builtin]; simp [hf.eval hx, Builtin.len_, run_underlying ht, goInt])
theorem W_len_sl {d : Tmp} {ty : TypeId} {pos : String} {af : Array Edge} {x : Operand} {t e : TypeId} {ad : Option Addr} {m c : Nat} (ht : P.underlying t = some (.slice e)) (hx : ev l x = some (.slice ad m c)) (hd : Nat.blt d n = true)
    (h : W P ops Q rest n (.cons d (.int .i64 m) l) w) : W P ops Q ({ dst := some d, op := .call { callee := .builtin .len, args := #[x], argTypes := #[t] }, type := ty, pos := pos, after := af, guard := none } :: rest) n l w :=
  W_val rfl (inb_of hd) (R_len_sl ht hx) h
theorem R_len_ar {d : Tmp} {ty : TypeId} {pos : String} {af : Array Edge} {x : Operand} {t e : TypeId} {m : Nat} {v : Value} (ht : P.underlying t = some (.array m e)) (hx : ev l x = some v) :
    Runs P n l { dst := some d, op := .call { callee := .builtin .len, args := #[x], argTypes := #[t] }, type := ty, pos := pos, after := af, guard := none } (.int .i64 m) w := (fun A hf => by
    simp only [execOp, resolve, invoke, builtin]; simp [hf.eval hx, Builtin.len_, run_underlying ht, goInt])
theorem W_len_ar {d : Tmp} {ty : TypeId} {pos : String} {af : Array Edge} {x : Operand} {t e : TypeId} {m : Nat} {v : Value} (ht : P.underlying t = some (.array m e)) (hx : ev l x = some v) (hd : Nat.blt d n = true)
    (h : W P ops Q rest n (.cons d (.int .i64 m) l) w) : W P ops Q ({ dst := some d, op := .call { callee := .builtin .len, args := #[x], argTypes := #[t] }, type := ty, pos := pos, after := af, guard := none } :: rest) n l w :=
  W_val rfl (inb_of hd) (R_len_ar ht hx) h
theorem R_len_par {d : Tmp} {ty : TypeId} {pos : String} {af : Array Edge} {x : Operand} {t u e : TypeId} {m : Nat} {v : Value} (ht : P.underlying t = some (.pointer u)) (hu : P.underlying u = some (.array m e)) (hx : ev l x = some v) :
    Runs P n l { dst := some d, op := .call { callee := .builtin .len, args := #[x], argTypes := #[t] }, type := ty, pos := pos, after := af, guard := none } (.int .i64 m) w := (fun A hf => by
    simp only [execOp, resolve, invoke, builtin]; simp [hf.eval hx, Builtin.len_, run_underlying ht, run_underlying hu, goInt])
theorem W_len_par {d : Tmp} {ty : TypeId} {pos : String} {af : Array Edge} {x : Operand} {t u e : TypeId} {m : Nat} {v : Value} (ht : P.underlying t = some (.pointer u)) (hu : P.underlying u = some (.array m e)) (hx : ev l x = some v) (hd : Nat.blt d n = true)
    (h : W P ops Q rest n (.cons d (.int .i64 m) l) w) : W P ops Q ({ dst := some d, op := .call { callee := .builtin .len, args := #[x], argTypes := #[t] }, type := ty, pos := pos, after := af, guard := none } :: rest) n l w :=
  W_val rfl (inb_of hd) (R_len_par ht hu hx) h
theorem R_max {d : Tmp} {ty : TypeId} {pos : String} {af : Array Edge} {x y : Operand} {ts : Array TypeId} {k : IntKind} {a b r : Int} (hx : ev l x = some (.int k a)) (hy : ev l y = some (.int k b)) (hr : (if b > a then b else a) = r) :
    Runs P n l { dst := some d, op := .call { callee := .builtin .max, args := #[x, y], argTypes := ts }, type := ty, pos := pos, after := af, guard := none } (.int k r) w := (fun A hf => by
    simp only [execOp, resolve, invoke, builtin]; simp [hf.eval hx, hf.eval hy, run_max_int2, hr])
theorem W_max {d : Tmp} {ty : TypeId} {pos : String} {af : Array Edge} {x y : Operand} {ts : Array TypeId} {k : IntKind} {a b r : Int} (hx : ev l x = some (.int k a)) (hy : ev l y = some (.int k b)) (hr : (if b > a then b else a) = r) (hd : Nat.blt d n = true)
    (h : W P ops Q rest n (.cons d (.int k r) l) w) : W P ops Q ({ dst := some d, op := .call { callee := .builtin .max, args := #[x, y], argTypes := ts }, type := ty, pos := pos, after := af, guard := none } :: rest) n l w :=
  W_val rfl (inb_of hd) (R_max hx hy hr) h
theorem R_min {d : Tmp} {ty : TypeId} {pos : String} {af : Array Edge} {x y : Operand} {ts : Array TypeId} {k : IntKind} {a b r : Int} (hx : ev l x = some (.int k a)) (hy : ev l y = some (.int k b)) (hr : (if b < a then b else a) = r) :
    Runs P n l { dst := some d, op := .call { callee := .builtin .min, args := #[x, y], argTypes := ts }, type := ty, pos := pos, after := af, guard := none } (.int k r) w := (fun A hf => by
    simp only [execOp, resolve, invoke, builtin]; simp [hf.eval hx, hf.eval hy, run_min_int2, hr])
theorem W_min {d : Tmp} {ty : TypeId} {pos : String} {af : Array Edge} {x y : Operand} {ts : Array TypeId} {k : IntKind} {a b r : Int} (hx : ev l x = some (.int k a)) (hy : ev l y = some (.int k b)) (hr : (if b < a then b else a) = r) (hd : Nat.blt d n = true)
    (h : W P ops Q rest n (.cons d (.int k r) l) w) : W P ops Q ({ dst := some d, op := .call { callee := .builtin .min, args := #[x, y], argTypes := ts }, type := ty, pos := pos, after := af, guard := none } :: rest) n l w :=
  W_val rfl (inb_of hd) (R_min hx hy hr) h
theorem R_index_s {d : Tmp} {ty : TypeId} {pos : String} {af : Array Edge} {x y : Operand} {t : TypeId} {a : List UInt8} {k : IntKind} {i : Int} {b : UInt8} (ht : P.underlying t = some .string) (hx : ev l x = some (.string ⟨a.toArray⟩)) (hy : ev l y = some (.int k i)) (h0 : 0 ≤ i) (hb : a[i.toNat]? = some b) :
    Runs P n l { dst := some d, op := .index t x y, type := ty, pos := pos, after := af, guard := none } (.int .u8 b.toNat) w := (fun A hf => by
    simp only [execOp, hf.eval hx, hf.eval hy]; simp [run_index_s ht h0 hb])
theorem W_index_s {d : Tmp} {ty : TypeId} {pos : String} {af : Array Edge} {x y : Operand} {t : TypeId} {a : List UInt8} {k : IntKind} {i : Int} {b : UInt8} (ht : P.underlying t = some .string) (hx : ev l x = some (.string ⟨a.toArray⟩)) (hy : ev l y = some (.int k i)) (h0 : 0 ≤ i) (hb : a[i.toNat]? = some b) (hd : Nat.blt d n = true)
    (h : W P ops Q rest n (.cons d (.int .u8 b.toNat) l) w) : W P ops Q ({ dst := some d, op := .index t x y, type := ty, pos := pos, after := af, guard := none } :: rest) n l w :=
  W_val rfl (inb_of hd) (R_index_s ht hx hy h0 hb) h
theorem R_index_a {d : Tmp} {ty : TypeId} {pos : String} {af : Array Edge} {x y : Operand} {t e : TypeId} {m : Nat} {cs : Array Value} {k : IntKind} {i : Int} {v : Value} (ht : P.underlying t = some (.array m e)) (hx : ev l x = some (.agg cs)) (hy : ev l y = some (.int k i)) (h0 : 0 ≤ i) (h1 : i < m) (hp : partV P e cs (i.toNat * psize P e) = some v) :
    Runs P n l { dst := some d, op := .index t x y, type := ty, pos := pos, after := af, guard := none } (v) w := (fun A hf => by
    simp only [execOp, hf.eval hx, hf.eval hy]; simp [run_index_array ht h0 h1 hp])
theorem W_index_a {d : Tmp} {ty : TypeId} {pos : String} {af : Array Edge} {x y : Operand} {t e : TypeId} {m : Nat} {cs : Array Value} {k : IntKind} {i : Int} {v : Value} (ht : P.underlying t = some (.array m e)) (hx : ev l x = some (.agg cs)) (hy : ev l y = some (.int k i)) (h0 : 0 ≤ i) (h1 : i < m) (hp : partV P e cs (i.toNat * psize P e) = some v) (hd : Nat.blt d n = true)
    (h : W P ops Q rest n (.cons d (v) l) w) : W P ops Q ({ dst := some d, op := .index t x y, type := ty, pos := pos, after := af, guard := none } :: rest) n l w :=
  W_val rfl (inb_of hd) (R_index_a ht hx hy h0 h1 hp) h
theorem R_field {d : Tmp} {ty : TypeId} {pos : String} {af : Array Edge} {x : Operand} {t : TypeId} {f : Nat} {fs : Array Field} {fd : Field} {cs : Array Value} {v : Value} (ht : P.underlying t = some (.struct fs)) (hfd : fs[f]? = some fd) (hx : ev l x = some (.agg cs)) (hp : partV P fd.type cs fd.offset = some v) :
    Runs P n l { dst := some d, op := .field t x f, type := ty, pos := pos, after := af, guard := none } (v) w := (fun A hf => by
    simp only [execOp, hf.eval hx]; simp [run_field ht hfd hp])
theorem W_field {d : Tmp} {ty : TypeId} {pos : String} {af : Array Edge} {x : Operand} {t : TypeId} {f : Nat} {fs : Array Field} {fd : Field} {cs : Array Value} {v : Value} (ht : P.underlying t = some (.struct fs)) (hfd : fs[f]? = some fd) (hx : ev l x = some (.agg cs)) (hp : partV P fd.type cs fd.offset = some v) (hd : Nat.blt d n = true)
    (h : W P ops Q rest n (.cons d (v) l) w) : W P ops Q ({ dst := some d, op := .field t x f, type := ty, pos := pos, after := af, guard := none } :: rest) n l w :=
  W_val rfl (inb_of hd) (R_field ht hfd hx hp) h
theorem R_extract {d : Tmp} {ty : TypeId} {pos : String} {af : Array Edge} {x : Operand} {i : Nat} {vs : Array Value} {v : Value} (hx : ev l x = some (.tuple vs)) (hi : vs[i]? = some v) :
    Runs P n l { dst := some d, op := .extract x i, type := ty, pos := pos, after := af, guard := none } (v) w := (fun A hf => by
    simp only [execOp, hf.eval hx]; simp [Instr.extract, hi])
theorem W_extract {d : Tmp} {ty : TypeId} {pos : String} {af : Array Edge} {x : Operand} {i : Nat} {vs : Array Value} {v : Value} (hx : ev l x = some (.tuple vs)) (hi : vs[i]? = some v) (hd : Nat.blt d n = true)
    (h : W P ops Q rest n (.cons d (v) l) w) : W P ops Q ({ dst := some d, op := .extract x i, type := ty, pos := pos, after := af, guard := none } :: rest) n l w :=
  W_val rfl (inb_of hd) (R_extract hx hi) h
theorem R_conv_i {d : Tmp} {ty : TypeId} {pos : String} {af : Array Edge} {x : Operand} {s t : TypeId} {k k' : IntKind} {us : TypeDesc} {a r : Int} (hs : P.underlying s = some us) (ht : P.underlying t = some (.int k)) (hx : ev l x = some (.int k' a)) (hr : k.wrap a = r) :
    Runs P n l { dst := some d, op := .convert s t x, type := ty, pos := pos, after := af, guard := none } (.int k r) w := (fun A hf => by
    simp only [execOp, hf.eval hx, convert]; simp [run_underlying hs, run_underlying ht, Conv.intToInt, hr])
theorem W_conv_i {d : Tmp} {ty : TypeId} {pos : String} {af : Array Edge} {x : Operand} {s t : TypeId} {k k' : IntKind} {us : TypeDesc} {a r : Int} (hs : P.underlying s = some us) (ht : P.underlying t = some (.int k)) (hx : ev l x = some (.int k' a)) (hr : k.wrap a = r) (hd : Nat.blt d n = true)
    (h : W P ops Q rest n (.cons d (.int k r) l) w) : W P ops Q ({ dst := some d, op := .convert s t x, type := ty, pos := pos, after := af, guard := none } :: rest) n l w :=
  W_val rfl (inb_of hd) (R_conv_i hs ht hx hr) h
theorem R_conv_ss {d : Tmp} {ty : TypeId} {pos : String} {af : Array Edge} {x : Operand} {s t : TypeId} {a : ByteArray} {us : TypeDesc} (hs : P.underlying s = some us) (ht : P.underlying t = some .string) (hx : ev l x = some (.string a)) :
    Runs P n l { dst := some d, op := .convert s t x, type := ty, pos := pos, after := af, guard := none } (.string a) w := (fun A hf => by
    simp only [execOp, hf.eval hx, convert]; simp [run_underlying hs, run_underlying ht])
theorem W_conv_ss {d : Tmp} {ty : TypeId} {pos : String} {af : Array Edge} {x : Operand} {s t : TypeId} {a : ByteArray} {us : TypeDesc} (hs : P.underlying s = some us) (ht : P.underlying t = some .string) (hx : ev l x = some (.string a)) (hd : Nat.blt d n = true)
    (h : W P ops Q rest n (.cons d (.string a) l) w) : W P ops Q ({ dst := some d, op := .convert s t x, type := ty, pos := pos, after := af, guard := none } :: rest) n l w :=
  W_val rfl (inb_of hd) (R_conv_ss hs ht hx) h
theorem R_mkiface {d : Tmp} {ty : TypeId} {pos : String} {af : Array Edge} {x : Operand} {t : TypeId} {v : Value} {td : TypeDesc} (ht : P.underlying t = some td) (hd' : td.isIface = false) (hx : ev l x = some v) :
    Runs P n l { dst := some d, op := .makeInterface t x, type := ty, pos := pos, after := af, guard := none } (.iface t v) w := (fun A hf => by
    simp only [execOp, hf.eval hx]; simp [run_mkiface ht hd'])
theorem W_mkiface {d : Tmp} {ty : TypeId} {pos : String} {af : Array Edge} {x : Operand} {t : TypeId} {v : Value} {td : TypeDesc} (ht : P.underlying t = some td) (hd' : td.isIface = false) (hx : ev l x = some v) (hd : Nat.blt d n = true)
    (h : W P ops Q rest n (.cons d (.iface t v) l) w) : W P ops Q ({ dst := some d, op := .makeInterface t x, type := ty, pos := pos, after := af, guard := none } :: rest) n l w :=
  W_val rfl (inb_of hd) (R_mkiface ht hd' hx) h
theorem R_mkfunc0 {d : Tmp} {ty : TypeId} {pos : String} {af : Array Edge} {fn : Fn}  :
    Runs P n l { dst := some d, op := .makeFunc fn #[] #[], type := ty, pos := pos, after := af, guard := none } (.func fn #[] #[]) w := (fun A hf => by
    simp [execOp, Instr.makeFunc])
theorem W_mkfunc0 {d : Tmp} {ty : TypeId} {pos : String} {af : Array Edge} {fn : Fn}  (hd : Nat.blt d n = true)
    (h : W P ops Q rest n (.cons d (.func fn #[] #[]) l) w) : W P ops Q ({ dst := some d, op := .makeFunc fn #[] #[], type := ty, pos := pos, after := af, guard := none } :: rest) n l w :=
  W_val rfl (inb_of hd) (R_mkfunc0 ) h
theorem R_mkfunc_c1 {d : Tmp} {ty : TypeId} {pos : String} {af : Array Edge} {fn : Fn} {x : Operand} {v : Value} (hx : ev l x = some v) :
    Runs P n l { dst := some d, op := .makeFunc fn #[] #[x], type := ty, pos := pos, after := af, guard := none } (.func fn #[] #[v]) w := (fun A hf => by
    simp [execOp, Instr.makeFunc, hf.eval hx])
theorem W_mkfunc_c1 {d : Tmp} {ty : TypeId} {pos : String} {af : Array Edge} {fn : Fn} {x : Operand} {v : Value} (hx : ev l x = some v) (hd : Nat.blt d n = true)
    (h : W P ops Q rest n (.cons d (.func fn #[] #[v]) l) w) : W P ops Q ({ dst := some d, op := .makeFunc fn #[] #[x], type := ty, pos := pos, after := af, guard := none } :: rest) n l w :=
  W_val rfl (inb_of hd) (R_mkfunc_c1 hx) h
theorem R_mkfunc_c2 {d : Tmp} {ty : TypeId} {pos : String} {af : Array Edge} {fn : Fn} {x y : Operand} {v u : Value} (hx : ev l x = some v) (hy : ev l y = some u) :
    Runs P n l { dst := some d, op := .makeFunc fn #[] #[x, y], type := ty, pos := pos, after := af, guard := none } (.func fn #[] #[v, u]) w := (fun A hf => by
    simp [execOp, Instr.makeFunc, hf.eval hx, hf.eval hy])
theorem W_mkfunc_c2 {d : Tmp} {ty : TypeId} {pos : String} {af : Array Edge} {fn : Fn} {x y : Operand} {v u : Value} (hx : ev l x = some v) (hy : ev l y = some u) (hd : Nat.blt d n = true)
    (h : W P ops Q rest n (.cons d (.func fn #[] #[v, u]) l) w) : W P ops Q ({ dst := some d, op := .makeFunc fn #[] #[x, y], type := ty, pos := pos, after := af, guard := none } :: rest) n l w :=
  W_val rfl (inb_of hd) (R_mkfunc_c2 hx hy) h
theorem R_mkfunc_c3 {d : Tmp} {ty : TypeId} {pos : String} {af : Array Edge} {fn : Fn} {x y z : Operand} {v u t : Value} (hx : ev l x = some v) (hy : ev l y = some u) (hz : ev l z = some t) :
    Runs P n l { dst := some d, op := .makeFunc fn #[] #[x, y, z], type := ty, pos := pos, after := af, guard := none } (.func fn #[] #[v, u, t]) w := (fun A hf => by
    simp [execOp, Instr.makeFunc, hf.eval hx, hf.eval hy, hf.eval hz])
theorem W_mkfunc_c3 {d : Tmp} {ty : TypeId} {pos : String} {af : Array Edge} {fn : Fn} {x y z : Operand} {v u t : Value} (hx : ev l x = some v) (hy : ev l y = some u) (hz : ev l z = some t) (hd : Nat.blt d n = true)
    (h : W P ops Q rest n (.cons d (.func fn #[] #[v, u, t]) l) w) : W P ops Q ({ dst := some d, op := .makeFunc fn #[] #[x, y, z], type := ty, pos := pos, after := af, guard := none } :: rest) n l w :=
  W_val rfl (inb_of hd) (R_mkfunc_c3 hx hy hz) h
theorem R_mkfunc_f1 {d : Tmp} {ty : TypeId} {pos : String} {af : Array Edge} {fn : Fn} {x : Operand} {v : Value} (hx : ev l x = some v) :
    Runs P n l { dst := some d, op := .makeFunc fn #[x] #[], type := ty, pos := pos, after := af, guard := none } (.func fn #[v] #[]) w := (fun A hf => by
    simp [execOp, Instr.makeFunc, hf.eval hx])
theorem W_mkfunc_f1 {d : Tmp} {ty : TypeId} {pos : String} {af : Array Edge} {fn : Fn} {x : Operand} {v : Value} (hx : ev l x = some v) (hd : Nat.blt d n = true)
    (h : W P ops Q rest n (.cons d (.func fn #[v] #[]) l) w) : W P ops Q ({ dst := some d, op := .makeFunc fn #[x] #[], type := ty, pos := pos, after := af, guard := none } :: rest) n l w :=
  W_val rfl (inb_of hd) (R_mkfunc_f1 hx) h
theorem R_nilCheck_p {d : Tmp} {ty : TypeId} {pos : String} {af : Array Edge} {x : Operand} {a : Addr} (hx : ev l x = some (.pointer (some a))) :
    Runs P n l { dst := some d, op := .nilCheck x, type := ty, pos := pos, after := af, guard := none } (.pointer (some a)) w := (fun A hf => by
    simp [execOp, hf.eval hx])
theorem W_nilCheck_p {d : Tmp} {ty : TypeId} {pos : String} {af : Array Edge} {x : Operand} {a : Addr} (hx : ev l x = some (.pointer (some a))) (hd : Nat.blt d n = true)
    (h : W P ops Q rest n (.cons d (.pointer (some a)) l) w) : W P ops Q ({ dst := some d, op := .nilCheck x, type := ty, pos := pos, after := af, guard := none } :: rest) n l w :=
  W_val rfl (inb_of hd) (R_nilCheck_p hx) h
theorem R_fieldAddr {d : Tmp} {ty : TypeId} {pos : String} {af : Array Edge} {x : Operand} {t : TypeId} {f b o s : Nat} {fs : Array Field} {fd : Field} (ht : P.underlying t = some (.struct fs)) (hfd : fs[f]? = some fd) (hz : psize? P fd.type = some (s + 1)) (hx : ev l x = some (.pointer (some ⟨b, o, none⟩))) :
    Runs P n l { dst := some d, op := .fieldAddr t x f, type := ty, pos := pos, after := af, guard := none } (.pointer (some ⟨b, o + fd.offset, none⟩)) w := (fun A hf => by
    simp only [execOp, hf.eval hx]; simp [run_fieldAt ht hfd hz])
theorem W_fieldAddr {d : Tmp} {ty : TypeId} {pos : String} {af : Array Edge} {x : Operand} {t : TypeId} {f b o s : Nat} {fs : Array Field} {fd : Field} (ht : P.underlying t = some (.struct fs)) (hfd : fs[f]? = some fd) (hz : psize? P fd.type = some (s + 1)) (hx : ev l x = some (.pointer (some ⟨b, o, none⟩))) (hd : Nat.blt d n = true)
    (h : W P ops Q rest n (.cons d (.pointer (some ⟨b, o + fd.offset, none⟩)) l) w) : W P ops Q ({ dst := some d, op := .fieldAddr t x f, type := ty, pos := pos, after := af, guard := none } :: rest) n l w :=
  W_val rfl (inb_of hd) (R_fieldAddr ht hfd hz hx) h
theorem R_indexAddr_sl {d : Tmp} {ty : TypeId} {pos : String} {af : Array Edge} {x y : Operand} {t e : TypeId} {b o m c : Nat} {k : IntKind} {i : Int} {s : Nat} (ht : P.underlying t = some (.slice e)) (he : psize? P e = some s) (hx : ev l x = some (.slice (some ⟨b, o, none⟩) m c)) (hy : ev l y = some (.int k i)) (h0 : 0 ≤ i) (h1 : i < m) :
    Runs P n l { dst := some d, op := .indexAddr t x y, type := ty, pos := pos, after := af, guard := none } (.pointer (some ⟨b, o + i.toNat * s, none⟩)) w := (fun A hf => by
    simp only [execOp, hf.eval hx, hf.eval hy]; simp [run_indexAt_sl ht he h0 h1])
theorem W_indexAddr_sl {d : Tmp} {ty : TypeId} {pos : String} {af : Array Edge} {x y : Operand} {t e : TypeId} {b o m c : Nat} {k : IntKind} {i : Int} {s : Nat} (ht : P.underlying t = some (.slice e)) (he : psize? P e = some s) (hx : ev l x = some (.slice (some ⟨b, o, none⟩) m c)) (hy : ev l y = some (.int k i)) (h0 : 0 ≤ i) (h1 : i < m) (hd : Nat.blt d n = true)
    (h : W P ops Q rest n (.cons d (.pointer (some ⟨b, o + i.toNat * s, none⟩)) l) w) : W P ops Q ({ dst := some d, op := .indexAddr t x y, type := ty, pos := pos, after := af, guard := none } :: rest) n l w :=
  W_val rfl (inb_of hd) (R_indexAddr_sl ht he hx hy h0 h1) h
theorem R_indexAddr_ar {d : Tmp} {ty : TypeId} {pos : String} {af : Array Edge} {x y : Operand} {t e : TypeId} {b o m : Nat} {k : IntKind} {i : Int} {s : Nat} (ht : P.underlying t = some (.array m e)) (he : psize? P e = some s) (hx : ev l x = some (.pointer (some ⟨b, o, none⟩))) (hy : ev l y = some (.int k i)) (h0 : 0 ≤ i) (h1 : i < m) :
    Runs P n l { dst := some d, op := .indexAddr t x y, type := ty, pos := pos, after := af, guard := none } (.pointer (some ⟨b, o + i.toNat * s, none⟩)) w := (fun A hf => by
    simp only [execOp, hf.eval hx, hf.eval hy]; simp [run_indexAt_ar ht he h0 h1])
theorem W_indexAddr_ar {d : Tmp} {ty : TypeId} {pos : String} {af : Array Edge} {x y : Operand} {t e : TypeId} {b o m : Nat} {k : IntKind} {i : Int} {s : Nat} (ht : P.underlying t = some (.array m e)) (he : psize? P e = some s) (hx : ev l x = some (.pointer (some ⟨b, o, none⟩))) (hy : ev l y = some (.int k i)) (h0 : 0 ≤ i) (h1 : i < m) (hd : Nat.blt d n = true)
    (h : W P ops Q rest n (.cons d (.pointer (some ⟨b, o + i.toNat * s, none⟩)) l) w) : W P ops Q ({ dst := some d, op := .indexAddr t x y, type := ty, pos := pos, after := af, guard := none } :: rest) n l w :=
  W_val rfl (inb_of hd) (R_indexAddr_ar ht he hx hy h0 h1) h
theorem R_slice_slh {d : Tmp} {ty : TypeId} {pos : String} {af : Array Edge} {x y z : Operand} {t : TypeId} {a : List UInt8} {k : IntKind} {i : Int} {k' : IntKind} {j : Int} (ht : P.underlying t = some .string) (hx : ev l x = some (.string ⟨a.toArray⟩)) (hy : ev l y = some (.int k i)) (hz : ev l z = some (.int k' j)) (h0 : 0 ≤ i) (h1 : i ≤ j) (h2 : j ≤ a.length) :
    Runs P n l { dst := some d, op := .slice t x (some y) (some z) none, type := ty, pos := pos, after := af, guard := none } (.string ⟨((a.drop i.toNat).take (j.toNat - i.toNat)).toArray⟩) w := (fun A hf => by
    have e := run_slice_slh (P := P) (w := w) ht (k := k) (k' := k') h0 h1 h2; simp only [execOp, hf.eval hx, hf.eval hy, hf.eval hz, Option.map_some, Option.map_none] at e ⊢; simp [e])
theorem W_slice_slh {d : Tmp} {ty : TypeId} {pos : String} {af : Array Edge} {x y z : Operand} {t : TypeId} {a : List UInt8} {k : IntKind} {i : Int} {k' : IntKind} {j : Int} (ht : P.underlying t = some .string) (hx : ev l x = some (.string ⟨a.toArray⟩)) (hy : ev l y = some (.int k i)) (hz : ev l z = some (.int k' j)) (h0 : 0 ≤ i) (h1 : i ≤ j) (h2 : j ≤ a.length) (hd : Nat.blt d n = true)
    (h : W P ops Q rest n (.cons d (.string ⟨((a.drop i.toNat).take (j.toNat - i.toNat)).toArray⟩) l) w) : W P ops Q ({ dst := some d, op := .slice t x (some y) (some z) none, type := ty, pos := pos, after := af, guard := none } :: rest) n l w :=
  W_val rfl (inb_of hd) (R_slice_slh ht hx hy hz h0 h1 h2) h
theorem R_slice_sl {d : Tmp} {ty : TypeId} {pos : String} {af : Array Edge} {x y : Operand} {t : TypeId} {a : List UInt8} {k : IntKind} {i : Int} (ht : P.underlying t = some .string) (hx : ev l x = some (.string ⟨a.toArray⟩)) (hy : ev l y = some (.int k i)) (h0 : 0 ≤ i) (h1 : i ≤ a.length) :
    Runs P n l { dst := some d, op := .slice t x (some y) none none, type := ty, pos := pos, after := af, guard := none } (.string ⟨(a.drop i.toNat).toArray⟩) w := (fun A hf => by
    have e := run_slice_sl (P := P) (w := w) ht (k := k) h0 h1; simp only [execOp, hf.eval hx, hf.eval hy, Option.map_some, Option.map_none] at e ⊢; simp [e])
theorem W_slice_sl {d : Tmp} {ty : TypeId} {pos : String} {af : Array Edge} {x y : Operand} {t : TypeId} {a : List UInt8} {k : IntKind} {i : Int} (ht : P.underlying t = some .string) (hx : ev l x = some (.string ⟨a.toArray⟩)) (hy : ev l y = some (.int k i)) (h0 : 0 ≤ i) (h1 : i ≤ a.length) (hd : Nat.blt d n = true)
    (h : W P ops Q rest n (.cons d (.string ⟨(a.drop i.toNat).toArray⟩) l) w) : W P ops Q ({ dst := some d, op := .slice t x (some y) none none, type := ty, pos := pos, after := af, guard := none } :: rest) n l w :=
  W_val rfl (inb_of hd) (R_slice_sl ht hx hy h0 h1) h
theorem R_slice_sh {d : Tmp} {ty : TypeId} {pos : String} {af : Array Edge} {x z : Operand} {t : TypeId} {a : List UInt8} {k' : IntKind} {j : Int} (ht : P.underlying t = some .string) (hx : ev l x = some (.string ⟨a.toArray⟩)) (hz : ev l z = some (.int k' j)) (h0 : 0 ≤ j) (h2 : j ≤ a.length) :
    Runs P n l { dst := some d, op := .slice t x none (some z) none, type := ty, pos := pos, after := af, guard := none } (.string ⟨(a.take j.toNat).toArray⟩) w := (fun A hf => by
    have e := run_slice_sh (P := P) (w := w) ht (k' := k') h0 h2; simp only [execOp, hf.eval hx, hf.eval hz, Option.map_some, Option.map_none] at e ⊢; simp [e])
theorem W_slice_sh {d : Tmp} {ty : TypeId} {pos : String} {af : Array Edge} {x z : Operand} {t : TypeId} {a : List UInt8} {k' : IntKind} {j : Int} (ht : P.underlying t = some .string) (hx : ev l x = some (.string ⟨a.toArray⟩)) (hz : ev l z = some (.int k' j)) (h0 : 0 ≤ j) (h2 : j ≤ a.length) (hd : Nat.blt d n = true)
    (h : W P ops Q rest n (.cons d (.string ⟨(a.take j.toNat).toArray⟩) l) w) : W P ops Q ({ dst := some d, op := .slice t x none (some z) none, type := ty, pos := pos, after := af, guard := none } :: rest) n l w :=
  W_val rfl (inb_of hd) (R_slice_sh ht hx hz h0 h2) h
theorem R_slice_sn {d : Tmp} {ty : TypeId} {pos : String} {af : Array Edge} {x : Operand} {t : TypeId} {a : List UInt8} (ht : P.underlying t = some .string) (hx : ev l x = some (.string ⟨a.toArray⟩)) :
    Runs P n l { dst := some d, op := .slice t x none none none, type := ty, pos := pos, after := af, guard := none } (.string ⟨(a).toArray⟩) w := (fun A hf => by
    have e := run_slice_sn (P := P) (w := w) ht (a := a); simp only [execOp, hf.eval hx, Option.map_some, Option.map_none] at e ⊢; simp [e])
theorem W_slice_sn {d : Tmp} {ty : TypeId} {pos : String} {af : Array Edge} {x : Operand} {t : TypeId} {a : List UInt8} (ht : P.underlying t = some .string) (hx : ev l x = some (.string ⟨a.toArray⟩)) (hd : Nat.blt d n = true)
    (h : W P ops Q rest n (.cons d (.string ⟨(a).toArray⟩) l) w) : W P ops Q ({ dst := some d, op := .slice t x none none none, type := ty, pos := pos, after := af, guard := none } :: rest) n l w :=
  W_val rfl (inb_of hd) (R_slice_sn ht hx) h
end
end Go.Sx
