/-
  Contracts of functions that only compute, calls of them, and small facts on numbers. No conditions: for every program.
-/
import Derived.Test.YticinfoljhlnbaaGreatDoorSxHoist
namespace Go.Sx
open Go.RowKit
set_option linter.unusedVariables false

/-- Called with these values, in whatever world, it returns this value; nothing that was there turns. -/
def PureF (P : Program) (f : FuncId) (args : List Value) (r : Value) : Prop :=
  GoFn P f ∧ ∀ w, Calls P f args.toArray w fun e w' => ∃ v, e = .returned v ∧ v = r ∧ Hp w [] [] w'
theorem PureF.intro {P : Program} {f : FuncId} {fn : Func} {c : Code} {args : List Value} {r : Value} (hg : GoFn P f) (hf : P.funcs[f]? = some fn) (hb : fn.body = some c) (hn : Nat.ble args.length fn.ntmps = true)
    (h : ∀ w0, Hp w0 [] [] w0 → K P c (bodyPost P fn fun e w' => ∃ v, e = .returned v ∧ v = r ∧ Hp w0 [] [] w') fn.ntmps (.args args) w0) : PureF P f args r :=
  ⟨hg, fun w => calls_of_K hf hb hn (h w (Hp.refl w))⟩
theorem PureF.eq {P : Program} {f : FuncId} {args : List Value} {r r' : Value} (h : PureF P f args r) (e : r = r') : PureF P f args r' := e ▸ h
theorem PureF.callV {P : Program} {f : FuncId} {args : List Value} {r : Value} (h : PureF P f args r) (w : World) : CallV P (.func (.func f) #[] #[]) args w fun v w' => v = r ∧ Hp w [] [] w' :=
  .static h.1 (h.2 w)
/-- A function value that only computes. -/
def PureV (P : Program) (fv : Value) (args : List Value) (r : Value) : Prop := ∀ w, CallV P fv args w fun v w' => v = r ∧ Hp w [] [] w'
theorem PureF.toV {P : Program} {f : FuncId} {args : List Value} {r : Value} (h : PureF P f args r) : PureV P (.func (.func f) #[] #[]) args r := fun w => h.callV w
theorem PureF.closure {P : Program} {f : FuncId} {args cap : List Value} {r : Value} (h : PureF P f (args ++ cap) r) : PureV P (.func (.func f) #[] cap.toArray) args r := fun w => .closure h.1 (h.2 w)

section
variable {P : Program} {ops : Array Oper} {Q : Exit → Act → World → Prop} {rest : List Oper} {n : Nat} {l : Env} {w0 w : World} {M F : Heap} {C : World → Prop} {Z : Act → Prop}
variable {d : Tmp} {ty : TypeId} {pos : String} {af : Array Edge}
theorem W_pcall {f : FuncId} {xs : List Operand} {ts : Array TypeId} {vs : List Value} {r : Value} (hp : Hp w0 M F w) (hxs : evs l xs = some vs) (hc : PureF P f vs r) (hd : Nat.blt d n = true)
    (h : ∀ w', Hp w0 M F w' → W P ops Q rest n (.cons d r l) w') :
    W P ops Q ({ dst := some d, op := .call { callee := .value (.func f), args := xs.toArray, argTypes := ts }, type := ty, pos := pos, after := af, guard := none } :: rest) n l w :=
  W_call rfl hxs hd (hc.callV w) fun v w' ⟨e, hw'⟩ => e ▸ h w' (hp.call0 hw')
theorem W_vcall {x : Operand} {xs : List Operand} {ts : Array TypeId} {fv : Value} {vs : List Value} {r : Value} (hp : Hp w0 M F w) (hx : ev l x = some fv) (hxs : evs l xs = some vs) (hc : PureV P fv vs r) (hd : Nat.blt d n = true)
    (h : ∀ w', Hp w0 M F w' → W P ops Q rest n (.cons d r l) w') :
    W P ops Q ({ dst := some d, op := .call { callee := .value x, args := xs.toArray, argTypes := ts }, type := ty, pos := pos, after := af, guard := none } :: rest) n l w :=
  W_call hx hxs hd (hc w) fun v w' ⟨e, hw'⟩ => e ▸ h w' (hp.call0 hw')
theorem Wq_pcall {f : FuncId} {xs : List Operand} {ts : Array TypeId} {vs : List Value} {r : Value} (hxs : evs l xs = some vs) (hc : PureF P f vs r) (hd : Nat.blt d n = true)
    (h : Wq P ops (Hp w0 M F) Z rest n (.cons d r l)) :
    Wq P ops (Hp w0 M F) Z ({ dst := some d, op := .call { callee := .value (.func f), args := xs.toArray, argTypes := ts }, type := ty, pos := pos, after := af, guard := none } :: rest) n l :=
  Wq_call rfl hxs hd (fun w hw => (hc.callV w).mono fun v w' ⟨e, hw'⟩ => ⟨e, hw.call0 hw'⟩) h
theorem Wq_vcall {x : Operand} {xs : List Operand} {ts : Array TypeId} {fv : Value} {vs : List Value} {r : Value} (hx : ev l x = some fv) (hxs : evs l xs = some vs) (hc : PureV P fv vs r) (hd : Nat.blt d n = true)
    (h : Wq P ops (Hp w0 M F) Z rest n (.cons d r l)) :
    Wq P ops (Hp w0 M F) Z ({ dst := some d, op := .call { callee := .value x, args := xs.toArray, argTypes := ts }, type := ty, pos := pos, after := af, guard := none } :: rest) n l :=
  Wq_call hx hxs hd (fun w hw => (hc w).mono fun v w' ⟨e, hw'⟩ => ⟨e, hw.call0 hw'⟩) h
/-- A call with a contract of its own: new blocks G, of which R tells. -/
theorem W_rcall {x : Operand} {xs : List Operand} {ts : Array TypeId} {fv : Value} {vs : List Value} {R : Value → Heap → Prop} (hp : Hp w0 M F w) (hx : ev l x = some fv) (hxs : evs l xs = some vs) (hd : Nat.blt d n = true)
    (hc : CallV P fv vs w fun v w' => ∃ G, Hp w [] G w' ∧ R v G)
    (h : ∀ v G w', R v G → Hp w0 M (G ++ F) w' → W P ops Q rest n (.cons d v l) w') :
    W P ops Q ({ dst := some d, op := .call { callee := .value x, args := xs.toArray, argTypes := ts }, type := ty, pos := pos, after := af, guard := none } :: rest) n l w :=
  W_call hx hxs hd hc fun v w' ⟨G, hw', hr⟩ => h v G w' hr (hp.call hw')
end

/-- Called with these values in this very world, it returns this value; nothing that was there turns. -/
def PureAt (P : Program) (f : FuncId) (args : List Value) (r : Value) (w : World) : Prop :=
  GoFn P f ∧ Calls P f args.toArray w fun e w' => ∃ v, e = .returned v ∧ v = r ∧ Hp w [] [] w'
theorem PureF.at {P : Program} {f : FuncId} {args : List Value} {r : Value} (h : PureF P f args r) (w : World) : PureAt P f args r w := ⟨h.1, h.2 w⟩
theorem PureAt.intro {P : Program} {f : FuncId} {fn : Func} {c : Code} {args : List Value} {r : Value} {w0 : World} (hg : GoFn P f) (hf : P.funcs[f]? = some fn) (hb : fn.body = some c) (hn : Nat.ble args.length fn.ntmps = true)
    (h : Hp w0 [] [] w0 → K P c (bodyPost P fn fun e w' => ∃ v, e = .returned v ∧ v = r ∧ Hp w0 [] [] w') fn.ntmps (.args args) w0) : PureAt P f args r w0 :=
  ⟨hg, calls_of_K hf hb hn (h (Hp.refl w0))⟩
theorem PureAt.eq {P : Program} {f : FuncId} {args : List Value} {r r' : Value} {w : World} (h : PureAt P f args r w) (e : r = r') : PureAt P f args r' w := e ▸ h
section
variable {P : Program} {ops : Array Oper} {Q : Exit → Act → World → Prop} {rest : List Oper} {n : Nat} {l : Env} {w0 w : World} {M F : Heap} {C : World → Prop} {Z : Act → Prop}
variable {d : Tmp} {ty : TypeId} {pos : String} {af : Array Edge}
theorem W_acall {f : FuncId} {xs : List Operand} {ts : Array TypeId} {vs : List Value} {r : Value} (hp : Hp w0 M F w) (hxs : evs l xs = some vs) (hc : PureAt P f vs r w) (hd : Nat.blt d n = true)
    (h : ∀ w', Hp w0 M F w' → W P ops Q rest n (.cons d r l) w') :
    W P ops Q ({ dst := some d, op := .call { callee := .value (.func f), args := xs.toArray, argTypes := ts }, type := ty, pos := pos, after := af, guard := none } :: rest) n l w :=
  W_call rfl hxs hd (.static hc.1 hc.2) fun v w' ⟨e, hw'⟩ => e ▸ h w' (hp.call0 hw')
theorem Wq_acall {f : FuncId} {xs : List Operand} {ts : Array TypeId} {vs : List Value} {r : Value} (hxs : evs l xs = some vs) (hc : ∀ w, Hp w0 M F w → PureAt P f vs r w) (hd : Nat.blt d n = true)
    (h : Wq P ops (Hp w0 M F) Z rest n (.cons d r l)) :
    Wq P ops (Hp w0 M F) Z ({ dst := some d, op := .call { callee := .value (.func f), args := xs.toArray, argTypes := ts }, type := ty, pos := pos, after := af, guard := none } :: rest) n l :=
  Wq_call rfl hxs hd (fun w hw => (CallV.static (hc w hw).1 (hc w hw).2).mono fun v w' ⟨e, hw'⟩ => ⟨e, hw.call0 hw'⟩) h
end
/-- A slice value that reads, in this world, as n elements whose cells are these. -/
def Rd (w : World) (v : Value) (n : Nat) (cells : List Value) : Prop :=
  ∃ A c, v = .slice A n c ∧ (cells ≠ [] → ∃ b o, A = some ⟨b, o, none⟩ ∧ ∀ j u, cells[j]? = some u → w.cell? ⟨b, o + j, none⟩ = some u)
theorem Rd.keep {w0 w : World} {F : Heap} {v : Value} {n : Nat} {cells : List Value} (h : Rd w0 v n cells) (hp : Hp w0 [] F w) : Rd w v n cells := by
  obtain ⟨A, c, rfl, h⟩ := h
  refine ⟨A, c, rfl, fun hne => ?_⟩
  obtain ⟨b, o, rfl, hc⟩ := h hne
  exact ⟨b, o, rfl, fun j u hj => hp.cell_old0 (hc j u hj)⟩
theorem Rd.own {w0 w : World} {M F : Heap} (hp : Hp w0 M F w) {b n c : Nat} {cs cells : List Value} {e : TypeId} {fz : Nat × Nat} (hm : (b, Obj.cells cs.toArray e fz) ∈ F) (hc : cells <+: cs) : Rd w (.slice (some ⟨b, 0, none⟩) n c) n cells := by
  refine ⟨_, _, rfl, fun _ => ⟨b, 0, rfl, fun j u hj => ?_⟩⟩
  obtain ⟨r, rfl⟩ := hc
  rw [Nat.zero_add]
  exact hp.cellF hm (by rw [List.getElem?_append_left (List.getElem?_eq_some_iff.1 hj).1]; exact hj)
theorem Rd.at {w : World} {b o n c m s : Nat} {xs cs : List Value} (h : Rd w (.slice (some ⟨b, o, none⟩) n c) n xs) (hcs : (xs.drop m).take s = cs) : ∀ j u, cs[j]? = some u → w.cell? ⟨b, o + m + j, none⟩ = some u := by
  intro j u hj
  obtain ⟨A, c', e, h⟩ := h
  cases e
  have hx : xs[m + j]? = some u := by
    subst hcs
    have hl := (List.getElem?_eq_some_iff.1 hj).1
    simp only [List.length_take, List.length_drop] at hl
    rw [List.getElem?_take_of_lt (by omega), List.getElem?_drop] at hj
    exact hj
  obtain ⟨b', o', e, hc⟩ := h (fun e => by simp [e] at hx)
  cases e
  rw [Nat.add_assoc]; exact hc _ _ hx
theorem Rd.cell {w : World} {b o n c m : Nat} {xs : List Value} {u : Value} (h : Rd w (.slice (some ⟨b, o, none⟩) n c) n xs) (hu : xs[m]? = some u) : w.cell? ⟨b, o + m, none⟩ = some u := by
  obtain ⟨A, c', e, h⟩ := h
  cases e
  obtain ⟨b', o', e, hc⟩ := h (fun e => by simp [e] at hu)
  cases e
  exact hc _ _ hu
theorem Rd.some {w : World} {n c : Nat} {A : Option Addr} {xs : List Value} (h : Rd w (.slice A n c) n xs) (hn : xs ≠ []) : ∃ b o, A = some ⟨b, o, none⟩ := by
  obtain ⟨A', c', e, h⟩ := h
  cases e
  obtain ⟨b, o, e, _⟩ := h hn
  exact ⟨b, o, e⟩
theorem Rd.nil (w : World) : Rd w (.slice none 0 0) 0 [] := ⟨_, _, rfl, fun h => absurd rfl h⟩
theorem idx_getD {a : List UInt8} {i : Nat} (h : i < a.length) : a[i]? = some (a.getD i 0) := by
  simp [List.getD_eq_getElem?_getD, List.getElem?_eq_getElem h]
theorem partV_s {P : Program} {t : TypeId} {td : TypeDesc} {cs : Array Value} {off : Nat} {v : Value} (ht : P.underlying t = some td) (hd : isAggD td = false) (hv : cs[off]? = some v) : partV P t cs off = some v := by
  simp [partV, ht, hd, hv]
theorem partV_a {P : Program} {t : TypeId} {td : TypeDesc} {cs ds : List Value} {off s : Nat} (ht : P.underlying t = some td) (hd : isAggD td = true) (hs : psize? P t = some s) (hv : (cs.drop off).take s = ds) : partV P t cs.toArray off = some (.agg ds.toArray) := by
  simp [partV, ht, hd, hs, ← hv]
/-! Numbers -/
theorem wr_i64 {x : Int} (h : -9223372036854775808 ≤ x ∧ x ≤ 9223372036854775807) : IntKind.i64.wrap x = x := by
  simp [IntKind.wrap, IntKind.signed, IntKind.bits]; omega
theorem wr_i32 {x : Int} (h : -2147483648 ≤ x ∧ x ≤ 2147483647) : IntKind.i32.wrap x = x := by
  simp [IntKind.wrap, IntKind.signed, IntKind.bits]; omega
theorem wr_u8 {x : Int} (h : 0 ≤ x ∧ x ≤ 255) : IntKind.u8.wrap x = x := by
  simp [IntKind.wrap, IntKind.signed, IntKind.bits]; omega
theorem wr_u32 {x : Int} (h : 0 ≤ x ∧ x ≤ 4294967295) : IntKind.u32.wrap x = x := by
  simp [IntKind.wrap, IntKind.signed, IntKind.bits]; omega
theorem wr_u64 {x : Int} (h : 0 ≤ x ∧ x ≤ 18446744073709551615) : IntKind.u64.wrap x = x := by
  simp [IntKind.wrap, IntKind.signed, IntKind.bits]; omega
theorem quo_nn {k : IntKind} {a b r : Int} (ha : 0 ≤ a) (hr : k.wrap (a / b) = r) : k.wrap (a.tdiv b) = r := by
  rw [Int.tdiv_eq_ediv_of_nonneg ha]; exact hr
theorem rem_nn {a b : Int} (ha : 0 ≤ a) : a.tmod b = a % b := Int.tmod_eq_emod_of_nonneg ha
theorem ofInt_nat (n m : Nat) : BitVec.ofInt n (m : Int) = BitVec.ofNat n m := BitVec.ofInt_natCast n m
theorem b8_bv (x : UInt8) : BitVec.ofInt 8 (x.toNat : Int) = x.toBitVec := by
  rw [ofInt_nat]; exact BitVec.ofNat_toNat 8 x.toBitVec |>.trans (by simp)
theorem b32_bv (x : UInt32) : BitVec.ofInt 32 (x.toNat : Int) = x.toBitVec := by
  rw [ofInt_nat]; exact BitVec.ofNat_toNat 32 x.toBitVec |>.trans (by simp)
theorem wr_u8_nat (x : UInt8) : IntKind.u8.wrap (x.toNat : Int) = x.toNat := wr_u8 (by have := x.toNat_lt; omega)
theorem wr_u32_nat (x : UInt32) : IntKind.u32.wrap (x.toNat : Int) = x.toNat := wr_u32 (by have := x.toNat_lt; omega)
theorem b8_xor (x y : UInt8) : IntKind.u8.wrap ((BitVec.ofInt IntKind.u8.bits (x.toNat : Int) ^^^ BitVec.ofInt IntKind.u8.bits (y.toNat : Int)).toNat : Int) = ((x ^^^ y).toNat : Int) := by
  show IntKind.u8.wrap ((BitVec.ofInt 8 (x.toNat : Int) ^^^ BitVec.ofInt 8 (y.toNat : Int)).toNat : Int) = _
  rw [b8_bv, b8_bv]; exact wr_u8_nat (x ^^^ y)
theorem b8_or (x y : UInt8) : IntKind.u8.wrap ((BitVec.ofInt IntKind.u8.bits (x.toNat : Int) ||| BitVec.ofInt IntKind.u8.bits (y.toNat : Int)).toNat : Int) = ((x ||| y).toNat : Int) := by
  show IntKind.u8.wrap ((BitVec.ofInt 8 (x.toNat : Int) ||| BitVec.ofInt 8 (y.toNat : Int)).toNat : Int) = _
  rw [b8_bv, b8_bv]; exact wr_u8_nat (x ||| y)
theorem b8_and (x y : UInt8) : IntKind.u8.wrap ((BitVec.ofInt IntKind.u8.bits (x.toNat : Int) &&& BitVec.ofInt IntKind.u8.bits (y.toNat : Int)).toNat : Int) = ((x &&& y).toNat : Int) := by
  show IntKind.u8.wrap ((BitVec.ofInt 8 (x.toNat : Int) &&& BitVec.ofInt 8 (y.toNat : Int)).toNat : Int) = _
  rw [b8_bv, b8_bv]; exact wr_u8_nat (x &&& y)
theorem b32_xor (x y : UInt32) : IntKind.u32.wrap ((BitVec.ofInt IntKind.u32.bits (x.toNat : Int) ^^^ BitVec.ofInt IntKind.u32.bits (y.toNat : Int)).toNat : Int) = ((x ^^^ y).toNat : Int) := by
  show IntKind.u32.wrap ((BitVec.ofInt 32 (x.toNat : Int) ^^^ BitVec.ofInt 32 (y.toNat : Int)).toNat : Int) = _
  rw [b32_bv, b32_bv]; exact wr_u32_nat (x ^^^ y)
theorem b32_or (x y : UInt32) : IntKind.u32.wrap ((BitVec.ofInt IntKind.u32.bits (x.toNat : Int) ||| BitVec.ofInt IntKind.u32.bits (y.toNat : Int)).toNat : Int) = ((x ||| y).toNat : Int) := by
  show IntKind.u32.wrap ((BitVec.ofInt 32 (x.toNat : Int) ||| BitVec.ofInt 32 (y.toNat : Int)).toNat : Int) = _
  rw [b32_bv, b32_bv]; exact wr_u32_nat (x ||| y)
theorem b32_and (x y : UInt32) : IntKind.u32.wrap ((BitVec.ofInt IntKind.u32.bits (x.toNat : Int) &&& BitVec.ofInt IntKind.u32.bits (y.toNat : Int)).toNat : Int) = ((x &&& y).toNat : Int) := by
  show IntKind.u32.wrap ((BitVec.ofInt 32 (x.toNat : Int) &&& BitVec.ofInt 32 (y.toNat : Int)).toNat : Int) = _
  rw [b32_bv, b32_bv]; exact wr_u32_nat (x &&& y)
theorem u8_lt (c : UInt8) : (c.toNat : Int) < 256 := by have := c.toNat_lt; omega
end Go.Sx
