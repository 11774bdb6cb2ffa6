/-
  What strings.Builder's methods need: pointers compared and turned, a function without a body that hands back its argument, the text over a row of bytes. No conditions: for every program.
-/
import Derived.Test.YticinfoljhlnbaaGreatDoorSxAs
import Derived.Lib.Builder
import Derived.Lib.UnsafeStr
import Derived.Lib.MakeNoZero
import Derived.Test.YticinfoljhlnbaaGreatDoorSxHeld
namespace Go.Sx
open Go.RowKit Go.Extern
set_option linter.unusedVariables false
set_option linter.unusedSimpArgs false
section
variable {P : Program} {ops : Array Oper} {Q : Exit → Act → World → Prop} {rest : List Oper} {n : Nat} {l : Env} {w0 w : World} {M F : Heap}
variable {d : Tmp} {ty : TypeId} {pos : String} {af : Array Edge}
theorem R_convr {x : Operand} {s t : TypeId} {u : Value} (v : Value) (hx : ev l x = some u) (hr : (convert s t u).run P w = .ok v w) :
    Runs P n l { dst := some d, op := .convert s t x, type := ty, pos := pos, after := af, guard := none } v w := fun A hf => by
  simp [execOp, hf.eval hx, hr]
theorem Hp.shapeF {b : Nat} {cs : List Value} {e : TypeId} {fz : Nat × Nat} (hp : Hp w0 M F w) (hm : (b, Obj.cells cs.toArray e fz) ∈ F) : w.shape? b = some (e, cs.length) := by
  have h : w.heap[b]? = some (.cells cs.toArray e fz) := hp.own (b, .cells cs.toArray e fz) (by simp [hm])
  simp [World.shape?, h]
/-- The bytes that a text was made over stand fast: what is known of the other blocks stays. -/
theorem Hp.freeze {A B : Heap} {b o k : Nat} {cur : Array Value} {t : TypeId} {fz : Nat × Nat} (h : Hp w0 M (A ++ (b, .cells cur t fz) :: B) w) : ∃ fz', Hp w0 M (A ++ (b, .cells cur t fz') :: B) (w.freeze ⟨b, o, none⟩ k) := by
  have hb : w.heap[b]? = some (.cells cur t fz) := h.own (b, .cells cur t fz) (by simp)
  have hlt := (Array.getElem?_eq_some_iff.1 hb).1
  by_cases hk : k = 0
  · exact ⟨fz, by simpa [World.freeze, hk] using h⟩
  · obtain ⟨f1, f2⟩ := fz
    refine ⟨if f1 == f2 then (o, o + k) else (min f1 o, max f2 (o + k)), ?_⟩
    refine h.set_at (A := M ++ A) (B := B) (b := b) (o := .cells cur t (f1, f2)) (o' := .cells cur t (if f1 == f2 then (o, o + k) else (min f1 o, max f2 (o + k)))) (by simp) (by simp) rfl (by simp) ?_ ?_ ?_ ?_ ?_ ?_
    · simp [World.freeze, hk]
    · simp [World.freeze, hk]
    · simp [World.freeze, hk]
    · simp [World.freeze, hk]
    · simp [World.freeze, hk, Array.getElem?_modify, hb]
    · intro j hj; simp [World.freeze, hk, Array.getElem?_modify, Ne.symm hj]
theorem R_builtin {bi : Builtin} {xs : List Operand} {ts : Array TypeId} {vs : List Value} (v : Value) (hxs : evs l xs = some vs) (hr : ∀ cs, (builtin bi ts ty cs vs.toArray).run P w = .ok (.value v) w) :
    Runs P n l { dst := some d, op := .call { callee := .builtin bi, args := xs.toArray, argTypes := ts }, type := ty, pos := pos, after := af, guard := none } v w := fun A hf => by
  have e1 : xs.toArray.map A.eval = vs.toArray := by simp [hf.evals hxs]
  simp only [execOp, resolve, Sem.run_bind, Sem.run_pure, Result.andThen_ok, invoke, e1]
  exact hr _
theorem W_builtin {bi : Builtin} {xs : List Operand} {ts : Array TypeId} {vs : List Value} {v : Value} {w2 : World} (hxs : evs l xs = some vs) (hr : ∀ cs, (builtin bi ts ty cs vs.toArray).run P w = .ok (.value v) w2) (hd : Nat.blt d n = true)
    (h : W P ops Q rest n (.cons d v l) w2) : W P ops Q ({ dst := some d, op := .call { callee := .builtin bi, args := xs.toArray, argTypes := ts }, type := ty, pos := pos, after := af, guard := none } :: rest) n l w :=
  W_val rfl (inb_of hd) (fun A hf => by
    have e1 : xs.toArray.map A.eval = vs.toArray := by simp [hf.evals hxs]
    simp only [execOp, resolve, Sem.run_bind, Sem.run_pure, Result.andThen_ok, invoke, e1]
    exact hr _) h
/-- '[]byte(..)' of a slice of bytes: the same slice, its block marked. -/
theorem W_conv_bb {t e : TypeId} {x : Operand} {b k c : Nat} {cur : List Value} {ct : TypeId} {fz : Nat × Nat} {A B : Heap} (hp : Hp w0 M (A ++ (b, .cells cur.toArray ct fz) :: B) w) (ht : P.underlying t = some (.slice e)) (he : P.underlying e = some (.int .u8))
    (hx : ev l x = some (.slice (some ⟨b, 0, none⟩) k c)) (hd : Nat.blt d n = true)
    (h : ∀ fz' w', Hp w0 M (A ++ (b, .cells cur.toArray ct fz') :: B) w' → W P ops Q rest n (.cons d (.slice (some ⟨b, 0, none⟩) k c) l) w') :
    W P ops Q ({ dst := some d, op := .convert t t x, type := ty, pos := pos, after := af, guard := none } :: rest) n l w := by
  have hb : w.heap[b]? = some (.cells cur.toArray ct fz) := hp.own (b, .cells cur.toArray ct fz) (by simp)
  have hsh : (shape b).run P w = .ok (some (ct, cur.length)) w := by
    have : w.shape? b = some (ct, cur.length) := by simp [World.shape?, hb]
    rw [← this]; rfl
  obtain ⟨fz', hp'⟩ := hp.freeze (o := cur.length) (k := 1)
  refine W_val rfl (inb_of hd) (w' := w.freeze ⟨b, cur.length, none⟩ 1) (fun a hf => ?_) (h fz' _ hp')
  have : (convert t t (.slice (some ⟨b, 0, none⟩) k c)).run P w = .ok (.slice (some ⟨b, 0, none⟩) k c) (w.freeze ⟨b, cur.length, none⟩ 1) := by
    simp [convert, run_underlying ht, run_underlying he, markStringish, hsh]
  simp [execOp, hf.eval hx, this]
theorem R_cap_sl {x : Operand} {t e : TypeId} {ad : Option Addr} {m c : Nat} (ht : P.underlying t = some (.slice e)) (hx : ev l x = some (.slice ad m c)) :
    Runs P n l { dst := some d, op := .call { callee := .builtin .cap, args := #[x], argTypes := #[t] }, type := ty, pos := pos, after := af, guard := none } (.int .i64 c) w := (fun A hf => by
    simp only [execOp, resolve, invoke, builtin]; simp [hf.eval hx, Builtin.cap_, run_underlying ht, goInt])
theorem W_cap_sl {x : Operand} {t e : TypeId} {ad : Option Addr} {m c : Nat} (ht : P.underlying t = some (.slice e)) (hx : ev l x = some (.slice ad m c)) (hd : Nat.blt d n = true)
    (h : W P ops Q rest n (.cons d (.int .i64 c) l) w) : W P ops Q ({ dst := some d, op := .call { callee := .builtin .cap, args := #[x], argTypes := #[t] }, type := ty, pos := pos, after := af, guard := none } :: rest) n l w :=
  W_val rfl (inb_of hd) (R_cap_sl ht hx) h
/-- 'n' bytes of whatever content. -/
theorem W_madenz {f : FuncId} {ps : Array TypeId} {x : Operand} {ts : Array TypeId} {t e : TypeId} {k : Nat} {i : Int} (hp : Hp w0 M F w) (hE : ExtFn P f (BytealgMakeNoZero.makeNoZero ps #[t])) (hx : ev l x = some (.int .i64 i)) (hi : i = (k : Int)) (ht : P.underlying t = some (.slice e)) (hk : k ≤ 281474976710656) (hd : Nat.blt d n = true)
    (h : ∀ b (cs : List Value) w', k ≤ cs.length → cs.length ≤ maxLen → Hp w0 M ((b, .cells cs.toArray e) :: F) w' → W P ops Q rest n (.cons d (.slice (some ⟨b, 0, none⟩) k cs.length) l) w') :
    W P ops Q ({ dst := some d, op := .call { callee := .value (.func f), args := #[x], argTypes := ts }, type := ty, pos := pos, after := af, guard := none } :: rest) n l w := by
  subst hi
  obtain ⟨cs, hr, h1, h2⟩ := Lib.run_makeNoZero (P := P) w ps t e ht k hk
  obtain ⟨cl, rfl⟩ : ∃ cl : List Value, cs = cl.toArray := ⟨cs.toList, by simp⟩
  simp only [List.size_toArray] at hr h1 h2
  exact W_ext (xs := [x]) (vs := [.int .i64 (k : Int)]) hE (by simp [evs, hx]) hr hd (h _ cl _ h1 (h2 (by simp only [maxLen]; omega)) (hp.drew.drew.alloc _))
/-- A copy of nothing. -/
theorem R_copy_nil {t e : TypeId} {x y : Operand} {ad : Option Addr} {s k c : Nat} (ht : P.underlying t = some (.slice e)) (hs : psize? P e = some s) (hx : ev l x = some (.slice ad k c)) (hy : ev l y = some (.slice none 0 0)) :
    Runs P n l { dst := some d, op := .call { callee := .builtin .copy, args := #[x, y], argTypes := #[t, t] }, type := ty, pos := pos, after := af, guard := none } (.int .i64 0) w := fun A hf => by
  cases ad <;> simp [execOp, resolve, invoke, builtin, hf.eval hx, hf.eval hy, Builtin.copy_, run_underlying ht, run_size hs, Builtin.lenOf, Builtin.firstCells, storeCells, goInt]
/-- 'append(v, "")' is v. -/
theorem append_none {t e xt ty' : TypeId} {k : Nat} {v : Value} {xs : List Value} {Hs : Heap} (ht : P.underlying t = some (.slice e)) (hxt : P.underlying xt = some .string) (hs : psize? P e = some 1) (hby : pbytes? P e = some 1) (hz : zeroV P e = some (.int .u8 0)) (hos : OS e 1 v k xs Hs) :
    (Builtin.append_ #[t, xt] ty' #[v, .string ⟨#[]⟩]).run P w = .ok v w := by
  obtain ⟨i, hi, his, _, _⟩ := info_of hs hby hz
  have hl : (Builtin.lenOf (.string ⟨#[]⟩)).run P w = .ok 0 w := lenOf_str (a := [])
  rcases hos.2 with ⟨rfl, rfl, rfl⟩ | ⟨b, cap, cur, fz, rfl, g1, g2, g3, g4, g5, rfl⟩
  · exact append_in0 ht hxt (.inr rfl) hi hl (by rw [his]; exact firstCells_str (a := []))
  · have := append_in (P := P) (ty' := ty') (k := k) (m := 0) (cap := cap) (b := ⟨b, 0, none⟩) (news := []) (w1 := w) ht hxt (.inr rfl) hi hl (by omega) (by rw [his]; exact firstCells_str (a := [])) (by simp [storeCells])
    simpa using this
theorem W_append_none {t e xt : TypeId} {ts : Array TypeId} {k : Nat} {v : Value} {y1 y2 : Operand} {xs : List Value} {Hs : Heap} (hts : ts = #[t, xt]) (ht : P.underlying t = some (.slice e)) (hxt : P.underlying xt = some .string) (hs : psize? P e = some 1) (hby : pbytes? P e = some 1) (hz : zeroV P e = some (.int .u8 0))
    (hy1 : ev l y1 = some v) (hy2 : ev l y2 = some (.string ⟨#[]⟩)) (hos : OS e 1 v k xs Hs) (hd : Nat.blt d n = true) (h : W P ops Q rest n (.cons d v l) w) :
    W P ops Q ({ dst := some d, op := .call { callee := .builtin .append, args := #[y1, y2], argTypes := ts }, type := ty, pos := pos, after := af, guard := none } :: rest) n l w := by
  subst hts
  refine W_val rfl (inb_of hd) (fun A' hf => ?_) h
  simp [execOp, resolve, invoke, builtin, hf.eval hy1, hf.eval hy2, append_none (P := P) (ty' := ty) (w := w) ht hxt hs hby hz hos]
/-- No row, or one with room. -/
def CapOk (v : Value) : Prop := v = .slice none 0 0 ∨ ∃ b n c, v = .slice (some ⟨b, 0, none⟩) n c ∧ c ≠ 0
theorem OSb.capOk {e : TypeId} {v : Value} {a : List UInt8} {Hs : Heap} (h : OSb e v a Hs) (ha : a ≠ []) : CapOk v := by
  have hl : 0 < a.length := by cases a with | nil => exact absurd rfl ha | cons => simp
  rcases (show OS _ _ _ _ _ _ from h).2 with ⟨rfl, h0, _⟩ | ⟨b, cap, cur, fz, rfl, h1, _⟩
  · exact .inl rfl
  · exact .inr ⟨b, _, cap, rfl, by omega⟩
end
end Go.Sx
