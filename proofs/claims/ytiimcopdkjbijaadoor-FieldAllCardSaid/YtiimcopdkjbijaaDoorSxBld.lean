/-
  What strings.Builder's methods need: pointers compared and turned, a function without a body that hands back its argument, the text over a row of bytes. No conditions: for every program.
-/
import Derived.Test.YtiimcopdkjbijaaDoorSxAs
import Derived.Lib.Builder
import Derived.Lib.UnsafeStr
namespace Go.Sx
open Go.RowKit Go.Extern
set_option linter.unusedVariables false
set_option linter.unusedSimpArgs false
section
variable {P : Program} {ops : Array Oper} {Q : Exit → Act → World → Prop} {rest : List Oper} {n : Nat} {l : Env} {w0 w : World} {M F : Heap}
variable {d : Tmp} {ty : TypeId} {pos : String} {af : Array Edge}
theorem R_convr {x : Operand} {s t : TypeId} {u : Value} (v : Value) (hx : ev l x = some u) (hr : (convert s t u).run P w = .ok v w) :
    Runs P n l { dst := some d, op := .convert s t x, type := ty, pos := pos, after := af, guard := none } v w := fun A hf => by
  simp [execOp, hf.eval hx, hr]
theorem Hp.shapeF {b : Nat} {cs : List Value} {e : TypeId} {fz : Nat × Nat} (hp : Hp w0 M F w) (hm : (b, Obj.cells cs.toArray e fz) ∈ F) : w.shape? b = some (e, cs.length) := by
  have h : w.heap[b]? = some (.cells cs.toArray e fz) := hp.own (b, .cells cs.toArray e fz) (by simp [hm])
  simp [World.shape?, h]
/-- The bytes that a text was made over stand fast: what is known of the other blocks stays. -/
theorem Hp.freeze {A B : Heap} {b o k : Nat} {cur : Array Value} {t : TypeId} {fz : Nat × Nat} (h : Hp w0 M (A ++ (b, .cells cur t fz) :: B) w) : ∃ fz', Hp w0 M (A ++ (b, .cells cur t fz') :: B) (w.freeze ⟨b, o, none⟩ k) := by
  have hb : w.heap[b]? = some (.cells cur t fz) := h.own (b, .cells cur t fz) (by simp)
  have hlt := (Array.getElem?_eq_some_iff.1 hb).1
  by_cases hk : k = 0
  · exact ⟨fz, by simpa [World.freeze, hk] using h⟩
  · obtain ⟨f1, f2⟩ := fz
    refine ⟨if f1 == f2 then (o, o + k) else (min f1 o, max f2 (o + k)), ?_⟩
    refine h.set_at (A := M ++ A) (B := B) (b := b) (o := .cells cur t (f1, f2)) (o' := .cells cur t (if f1 == f2 then (o, o + k) else (min f1 o, max f2 (o + k)))) (by simp) (by simp) rfl (by simp) ?_ ?_ ?_ ?_ ?_ ?_
    · simp [World.freeze, hk]
    · simp [World.freeze, hk]
    · simp [World.freeze, hk]
    · simp [World.freeze, hk]
    · simp [World.freeze, hk, Array.getElem?_modify, hb]
    · intro j hj; simp [World.freeze, hk, Array.getElem?_modify, Ne.symm hj]
theorem R_builtin {bi : Builtin} {xs : List Operand} {ts : Array TypeId} {vs : List Value} (v : Value) (hxs : evs l xs = some vs) (hr : ∀ cs, (builtin bi ts ty cs vs.toArray).run P w = .ok (.value v) w) :
    Runs P n l { dst := some d, op := .call { callee := .builtin bi, args := xs.toArray, argTypes := ts }, type := ty, pos := pos, after := af, guard := none } v w := fun A hf => by
  have e1 : xs.toArray.map A.eval = vs.toArray := by simp [hf.evals hxs]
  simp only [execOp, resolve, Sem.run_bind, Sem.run_pure, Result.andThen_ok, invoke, e1]
  exact hr _
theorem W_builtin {bi : Builtin} {xs : List Operand} {ts : Array TypeId} {vs : List Value} {v : Value} {w2 : World} (hxs : evs l xs = some vs) (hr : ∀ cs, (builtin bi ts ty cs vs.toArray).run P w = .ok (.value v) w2) (hd : Nat.blt d n = true)
    (h : W P ops Q rest n (.cons d v l) w2) : W P ops Q ({ dst := some d, op := .call { callee := .builtin bi, args := xs.toArray, argTypes := ts }, type := ty, pos := pos, after := af, guard := none } :: rest) n l w :=
  W_val rfl (inb_of hd) (fun A hf => by
    have e1 : xs.toArray.map A.eval = vs.toArray := by simp [hf.evals hxs]
    simp only [execOp, resolve, Sem.run_bind, Sem.run_pure, Result.andThen_ok, invoke, e1]
    exact hr _) h
/-- '[]byte(..)' of a slice of bytes: the same slice, its block marked. -/
theorem W_conv_bb {t e : TypeId} {x : Operand} {b k c : Nat} {cur : List Value} {ct : TypeId} {fz : Nat × Nat} {A B : Heap} (hp : Hp w0 M (A ++ (b, .cells cur.toArray ct fz) :: B) w) (ht : P.underlying t = some (.slice e)) (he : P.underlying e = some (.int .u8))
    (hx : ev l x = some (.slice (some ⟨b, 0, none⟩) k c)) (hd : Nat.blt d n = true)
    (h : ∀ fz' w', Hp w0 M (A ++ (b, .cells cur.toArray ct fz') :: B) w' → W P ops Q rest n (.cons d (.slice (some ⟨b, 0, none⟩) k c) l) w') :
    W P ops Q ({ dst := some d, op := .convert t t x, type := ty, pos := pos, after := af, guard := none } :: rest) n l w := by
  have hb : w.heap[b]? = some (.cells cur.toArray ct fz) := hp.own (b, .cells cur.toArray ct fz) (by simp)
  have hsh : (shape b).run P w = .ok (some (ct, cur.length)) w := by
    have : w.shape? b = some (ct, cur.length) := by simp [World.shape?, hb]
    rw [← this]; rfl
  obtain ⟨fz', hp'⟩ := hp.freeze (o := cur.length) (k := 1)
  refine W_val rfl (inb_of hd) (w' := w.freeze ⟨b, cur.length, none⟩ 1) (fun a hf => ?_) (h fz' _ hp')
  have : (convert t t (.slice (some ⟨b, 0, none⟩) k c)).run P w = .ok (.slice (some ⟨b, 0, none⟩) k c) (w.freeze ⟨b, cur.length, none⟩ 1) := by
    simp [convert, run_underlying ht, run_underlying he, markStringish, hsh]
  simp [execOp, hf.eval hx, this]
end
end Go.Sx
