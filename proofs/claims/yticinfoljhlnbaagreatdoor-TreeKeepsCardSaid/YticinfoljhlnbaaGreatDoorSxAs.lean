/-
  Interfaces: assertions, methods of a value in an interface, and the functions of internal/reflectlite that errors.As calls. No conditions: for every program.
-/
import Derived.Test.YticinfoljhlnbaaGreatDoorSxSlice
import Derived.Stop.Asserts
namespace Go.Sx
open Go.RowKit Go.Extern
set_option linter.unusedVariables false
set_option linter.unusedSimpArgs false
section
variable {P : Program} {ops : Array Oper} {Q : Exit → Act → World → Prop} {rest : List Oper} {n : Nat} {l : Env} {w0 w : World} {M F : Heap}
variable {d : Tmp} {ty : TypeId} {pos : String} {af : Array Edge}
theorem R_assert {x : Operand} {s t : TypeId} {ok : Bool} {u : Value} (v : Value) (hx : ev l x = some u) (hr : (Instr.typeAssert u s t ok).run P w = .ok v w) :
    Runs P n l { dst := some d, op := .typeAssert x s t ok, type := ty, pos := pos, after := af, guard := none } v w := fun A hf => by
  simp [execOp, hf.eval hx, hr]
theorem R_bin {op : BinOp} {t t' : TypeId} {x y : Operand} {a b : Value} (v : Value) (hx : ev l x = some a) (hy : ev l y = some b) (hr : (do eqGuard op t x y a b; binOp op t a b : Sem Value).run P w = .ok v w) :
    Runs P n l { dst := some d, op := .binOp op t x y t', type := ty, pos := pos, after := af, guard := none } v w := fun A hf => by
  simp only [execOp, hf.eval hx, hf.eval hy]
  rw [Sem.run_bind, hr]; rfl
theorem R_invoke {x : Operand} {name : String} {xs : List Operand} {ts : Array TypeId} {u : Value} {vs : List Value} (v : Value) (hx : ev l x = some u) (hxs : evs l xs = some vs) (hr : (callMethod u name vs.toArray).run P w = .ok (.value v) w) :
    Runs P n l { dst := some d, op := .call { callee := .invoke x name, args := xs.toArray, argTypes := ts }, type := ty, pos := pos, after := af, guard := none } v w := fun A hf => by
  have e1 : xs.toArray.map A.eval = vs.toArray := by simp [hf.evals hxs]
  simp [execOp, resolve, hf.eval hx, e1, invoke, hr]
theorem W_invoke_go {x : Operand} {name : String} {xs : List Operand} {ts : Array TypeId} {u r : Value} {vs as : List Value} {f : FuncId} (hp : Hp w0 M F w) (hx : ev l x = some u) (hxs : evs l xs = some vs) (hc : PureF P f as r) (hr : (callMethod u name vs.toArray).run P w = .ok (.enter f as.toArray) w) (hd : Nat.blt d n = true)
    (h : ∀ w', Hp w0 M F w' → W P ops Q rest n (.cons d r l) w') :
    W P ops Q ({ dst := some d, op := .call { callee := .invoke x name, args := xs.toArray, argTypes := ts }, type := ty, pos := pos, after := af, guard := none } :: rest) n l w :=
  W_enter (R := fun v w' => v = r ∧ Hp w [] [] w') rfl (inb_of hd) (fun A hf => by
    have e1 : xs.toArray.map A.eval = vs.toArray := by simp [hf.evals hxs]
    simp [execOp, resolve, hf.eval hx, e1, invoke, hr]) (hc.2 w) fun v w' ⟨e, hw'⟩ => e ▸ h w' (hp.call0 hw')
theorem R_ext {f : FuncId} {e : Array Value → Sem Value} {xs : List Operand} {ts : Array TypeId} {vs : List Value} (v : Value) (hE : ExtFn P f e) (hxs : evs l xs = some vs) (hr : (e vs.toArray).run P w = .ok v w) :
    Runs P n l { dst := some d, op := .call { callee := .value (.func f), args := xs.toArray, argTypes := ts }, type := ty, pos := pos, after := af, guard := none } v w := by
  obtain ⟨fn, hf, hname, hb, hn, he⟩ := hE
  exact R_extern hf hname hb hn he hxs hr
theorem W_ext {f : FuncId} {e : Array Value → Sem Value} {xs : List Operand} {ts : Array TypeId} {vs : List Value} {v : Value} {w2 : World} (hE : ExtFn P f e) (hxs : evs l xs = some vs) (hr : (e vs.toArray).run P w = .ok v w2) (hd : Nat.blt d n = true)
    (h : W P ops Q rest n (.cons d v l) w2) :
    W P ops Q ({ dst := some d, op := .call { callee := .value (.func f), args := xs.toArray, argTypes := ts }, type := ty, pos := pos, after := af, guard := none } :: rest) n l w := by
  obtain ⟨fn, hf, hname, hb, hn, he⟩ := hE
  refine W_val rfl (inb_of hd) (w' := w2) (v := v) (fun A hA => ?_) h
  have e1 : xs.toArray.map A.eval = vs.toArray := by simp [hA.evals hxs]
  have e2 := run_callFunc_extern (P := P) hf hname hb hn he vs.toArray w
  rw [hr] at e2
  have e3 : A.eval (.func f) = .func (.func f) #[] #[] := hA.eval (x := .func f) rfl
  simp [execOp, resolve, Deferred.ofValue, e3, e1, invoke, e2]
/-- A function without a body that makes one block. -/
theorem W_ext_alloc {f : FuncId} {e : Array Value → Sem Value} {xs : List Operand} {ts : Array TypeId} {vs : List Value} (g : Nat → Value) (o : Obj) (hp : Hp w0 M F w) (hE : ExtFn P f e) (hxs : evs l xs = some vs) (hr : (e vs.toArray).run P w = .ok (g w.heap.size) (w.alloc o)) (hd : Nat.blt d n = true)
    (h : ∀ b w', Hp w0 M ((b, o) :: F) w' → W P ops Q rest n (.cons d (g b) l) w') :
    W P ops Q ({ dst := some d, op := .call { callee := .value (.func f), args := xs.toArray, argTypes := ts }, type := ty, pos := pos, after := af, guard := none } :: rest) n l w :=
  W_ext hE hxs hr hd (h _ _ (hp.alloc o))
end

/-! '==' of two interface values of one integer type. -/
section
variable {P : Program} (w : World)
theorem run_equalIn_ii (d : Nat) {ti tn : TypeId} {ms : Array (String × TypeId)} {i : TypeInfo} {k : IntKind} (a b : Int) (hi : P.underlying ti = some (.interface ms)) (hn : P.underlying tn = some (.int k)) (hinfo : P.info? tn = some i) (hcomp : i.comparable = true) :
    (Op.equalIn (d + 2) ti (.iface tn (.int k a)) (.iface tn (.int k b))).run P w = .ok (a == b) w := by
  simp [Op.equalIn, run_underlying hi, run_underlying hn, typeInfo, hinfo, hcomp]
theorem run_eql_ii {ti tn : TypeId} {ms : Array (String × TypeId)} {i : TypeInfo} {k : IntKind} (a b : Int) (x y : Operand) (hi : P.underlying ti = some (.interface ms)) (hn : P.underlying tn = some (.int k)) (hinfo : P.info? tn = some i) (hcomp : i.comparable = true) :
    (do eqGuard .eql ti x y (.iface tn (.int k a)) (.iface tn (.int k b)); binOp .eql ti (.iface tn (.int k a)) (.iface tn (.int k b)) : Sem Value).run P w = .ok (.bool (a == b)) w := by
  have h := run_equalIn_ii (P := P) w 9998 a b hi hn hinfo hcomp
  have e : (binOp .eql ti (.iface tn (.int k a)) (.iface tn (.int k b))).run P w = .ok (.bool (a == b)) w := by
    simp only [binOp]
    simp [Op.equal, Op.maxDepth, h]
  have g : (eqGuard .eql ti x y (.iface tn (.int k a)) (.iface tn (.int k b))) = pure () := rfl
  rw [g]
  simpa using e
end

/-! internal/reflectlite -/
theorem rl_method (z : Sem Value) (f : TypeId → Addr → Nat → Nat → Sem Value) (v : Value) :
    ReflectliteValue.method z f #[v] = (do match ← ReflectliteValue.parts v with | none => z | some (t, a, fl) => f t a fl (fl % 32)) := rfl
theorem rl_set (v x : Value) : ReflectliteValue.set #[v, x] = (do
    let (some (dst, a, fl), some (src, b, _)) := (← ReflectliteValue.parts v, ← ReflectliteValue.parts x)
      | unsupported (.noEntry "extern/(internal/reflectlite.Value).Set.zeroValue")
    if fl / ReflectliteValue.flagAddr % 2 == 0 then unsupported (.noEntry "extern/(internal/reflectlite.Value).Set.unaddressable")
    let val ← loadVar src b
    if ← Rtype.directlyAssignable dst src then storeVar dst a val
    else if ← Rtype.implements dst src then
      if (← Rtype.kind src) == 20 then
        match val with
        | .nilIface => unsupported (.noEntry "extern/reflectlite: a nil value of one interface type handed on as a value of another")
        | _ => storeVar dst a val
      else storeVar dst a (.iface src val)
    else panicString ("reflectlite.Set: value of type " ++ (← Rtype.spelt src) ++ " is not assignable to type " ++ (← Rtype.spelt dst))
    pure (.tuple #[])) := rfl
theorem run_isNil {P : Program} {w : World} {v : Value} {t : TypeId} {td : TypeDesc} {a p : Addr} (hp : (ReflectliteValue.parts v).run P w = .ok (some (t, a, 150)) w) (ht : P.underlying t = some td) (hd : isAggD td = false) (ha : w.cell? a = some (.pointer (some p))) (z : Sem Value) :
    (ReflectliteValue.method z ReflectliteValue.isNil #[v]).run P w = .ok (.bool false) w := by
  rw [rl_method]
  simp only [Sem.run_bind, hp, Result.andThen_ok]
  simp [ReflectliteValue.isNil, run_load_s ht hd ha]
theorem run_elemV {P : Program} {w : World} {v r : Value} {t e : TypeId} {td : TypeDesc} {a p : Addr} (hp : (ReflectliteValue.parts v).run P w = .ok (some (t, a, 150)) w) (ht : P.underlying t = some td) (hd : isAggD td = false) (ha : w.cell? a = some (.pointer (some p)))
    (he : (Rtype.elem? t).run P w = .ok (some e) w) (hm : (ReflectliteValue.mk e p ReflectliteValue.flagAddr).run P w = .ok r w) (z : Sem Value) :
    (ReflectliteValue.method z ReflectliteValue.elem #[v]).run P w = .ok r w := by
  rw [rl_method]
  simp only [Sem.run_bind, hp, Result.andThen_ok]
  simp [ReflectliteValue.elem, run_load_s ht hd ha, he, hm]
theorem run_setV {P : Program} {w w2 : World} {v x val : Value} {t : TypeId} {a b : Addr} {f1 f2 : Nat} (hv : (ReflectliteValue.parts v).run P w = .ok (some (t, a, f1)) w) (hx : (ReflectliteValue.parts x).run P w = .ok (some (t, b, f2)) w) (hf : f1 / ReflectliteValue.flagAddr % 2 = 1)
    (hl : (loadVar t b).run P w = .ok val w) (hd : (Rtype.directlyAssignable t t).run P w = .ok true w) (hs : (storeVar t a val).run P w = .ok () w2) :
    (ReflectliteValue.set #[v, x]).run P w = .ok (.tuple #[]) w2 := by
  rw [rl_set]
  simp [Sem.run_bind, hv, hx, hf, hl, hd, hs]
end Go.Sx
