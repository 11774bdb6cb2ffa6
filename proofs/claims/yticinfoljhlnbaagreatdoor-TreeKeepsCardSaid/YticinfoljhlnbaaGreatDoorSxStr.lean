/-
  Texts: a range over a text, the functions without a body, a number as a text; what UTF-8 says of bytes. No conditions: for every program.
-/
import Derived.Test.YticinfoljhlnbaaGreatDoorSxConv
import Derived.Test.YticinfoljhlnbaaGreatDoorSxFn
import Derived.Scope
import Derived.Laws.RangeString
import Derived.Laws.Externs
import Derived.Lib.Bytealg
import Derived.Lib.IndexLaws
namespace Go.Sx
open Go.RowKit
set_option linter.unusedVariables false
set_option linter.unusedSimpArgs false
section
variable {P : Program} {Q : Exit → Act → World → Prop} {n : Nat} {l : Env} {w : World}
theorem K_scope {c : Code} (h : K P c (Exit.noGoto Q) n l w) : K P (.scope c) Q n l w := fun a hf => wp_scope_straight (h a hf)
theorem N_scope_normal (h : N Q .normal n l w) : N (Exit.noGoto Q) .normal n l w := fun a hf => h a hf
theorem N_scope_ret (h : N Q .ret n l w) : N (Exit.noGoto Q) .ret n l w := fun a hf => h a hf
theorem N_scope_exit {id : Nat} (h : N Q (.exit id) n l w) : N (Exit.noGoto Q) (.exit id) n l w := fun a hf => h a hf
end

section
variable {P : Program} {ops : Array Oper} {Q : Exit → Act → World → Prop} {rest : List Oper} {n : Nat} {l : Env} {w0 w : World} {M F : Heap} {C : World → Prop} {Z : Act → Prop}
variable {d : Tmp} {ty : TypeId} {pos : String} {af : Array Edge}

/-! A function without a body -/
theorem R_extern {f : FuncId} {fn : Func} {e : Array Value → Sem Value} {xs : List Operand} {ts : Array TypeId} {vs : List Value} {v : Value} (hf : P.funcs[f]? = some fn) (hname : (fn.name == "runtime.NumGoroutine") = false)
    (hb : fn.body.isNone = true) (hn : Extern.findNext fn = none) (he : Extern.find fn = some e) (hxs : evs l xs = some vs) (hr : (e vs.toArray).run P w = .ok v w) :
    Runs P n l { dst := some d, op := .call { callee := .value (.func f), args := xs.toArray, argTypes := ts }, type := ty, pos := pos, after := af, guard := none } v w := fun A hA => by
  have e1 : xs.toArray.map A.eval = vs.toArray := by simp [hA.evals hxs]
  have e2 := run_callFunc_extern (P := P) hf hname hb hn he vs.toArray w
  rw [hr] at e2
  have e3 : A.eval (.func f) = .func (.func f) #[] #[] := hA.eval (x := .func f) rfl
  simp [execOp, resolve, Deferred.ofValue, e3, e1, invoke, e2]
/-- A function without a body, and what stands for it. -/
def ExtFn (P : Program) (f : FuncId) (e : Array Value → Sem Value) : Prop := ∃ fn, P.funcs[f]? = some fn ∧ (fn.name == "runtime.NumGoroutine") = false ∧ fn.body.isNone = true ∧ Extern.findNext fn = none ∧ Extern.find fn = some e
theorem R_idxbyte {f : FuncId} {x y : Operand} {ts : Array TypeId} {a : List UInt8} {c : UInt8} (hE : ExtFn P f Extern.BytealgIndexByte.indexByte) (hx : ev l x = some (.string ⟨a.toArray⟩)) (hy : ev l y = some (.int .u8 (c.toNat : Int))) :
    Runs P n l { dst := some d, op := .call { callee := .value (.func f), args := #[x, y], argTypes := ts }, type := ty, pos := pos, after := af, guard := none } (.int .i64 (Lib.indexByte a c)) w := by
  obtain ⟨fn, hf, hname, hb, hn, he⟩ := hE
  exact R_extern (xs := [x, y]) (vs := [.string ⟨a.toArray⟩, .int .u8 (c.toNat : Int)]) hf hname hb hn he (by simp [evs, hx, hy]) (by
    have := Lib.run_indexByteString (P := P) ⟨a.toArray⟩ (c.toNat : Int) w
    simpa using this)

/-! A range over a text -/
theorem W_range {x : Operand} {t : TypeId} {a : List UInt8} (hp : Hp w0 M F w) (ht : P.underlying t = some .string) (hx : ev l x = some (.string ⟨a.toArray⟩)) (hd : Nat.blt d n = true)
    (h : ∀ b w', Hp w0 M ((b, .stringIter ⟨a.toArray⟩ 0) :: F) w' → W P ops Q rest n (.cons d (.pointer (some ⟨b, 0, none⟩)) l) w') :
    W P ops Q ({ dst := some d, op := .range t x, type := ty, pos := pos, after := af, guard := none } :: rest) n l w :=
  W_val rfl (inb_of hd) (fun A hf => by
    have := run_range_string (P := P) w t ⟨a.toArray⟩ ht
    simp only [execOp, hf.eval hx]; simp [this, World.iter]) (h _ _ (hp.alloc _))
theorem run_next_str {ty : TypeId} {b pos : Nat} {s : ByteArray} (h : w.heap[b]? = some (.stringIter s pos)) :
    (Instr.next (.pointer (some ⟨b, 0, none⟩)) true ty).run P w = if pos < s.size then .ok (.tuple #[.bool true, .int .i64 pos, .int .i32 (Utf8.decode s pos).1]) { w with heap := w.heap.setIfInBounds b (.stringIter s (pos + (Utf8.decode s pos).2)) } else .ok (.tuple #[.bool false]) w := by
  by_cases hs : pos < s.size
  · simp [Instr.next, getObj, setObj, Sem.run, h, hs, goInt, Result.andThen]
  · simp [Instr.next, getObj, setObj, Sem.run, h, hs]
theorem Hp.setIter {w0 w : World} {M A B : Heap} {b : Nat} {s : ByteArray} {p q : Nat} (h : Hp w0 M (A ++ (b, .stringIter s p) :: B) w) : Hp w0 M (A ++ (b, .stringIter s q) :: B) { w with heap := w.heap.setIfInBounds b (.stringIter s q) } := by
  have hb : w.heap[b]? = some (.stringIter s p) := h.own (b, .stringIter s p) (by simp)
  have hlt := (Array.getElem?_eq_some_iff.1 hb).1
  exact h.set_at (A := M ++ A) (B := B) (b := b) (o := .stringIter s p) (o' := .stringIter s q) (by simp) (by simp) rfl (by simp) rfl rfl rfl (by simp) (by simp [hlt]) (fun k hk => by simp [Array.getElem?_setIfInBounds, Ne.symm hk])
theorem W_next_end {x : Operand} {b k : Nat} {a : List UInt8} {A B : Heap} (hp : Hp w0 M (A ++ (b, .stringIter ⟨a.toArray⟩ k) :: B) w) (hx : ev l x = some (.pointer (some ⟨b, 0, none⟩))) (hk : a.length ≤ k) (hd : Nat.blt d n = true)
    (h : W P ops Q rest n (.cons d (.tuple #[.bool false]) l) w) : W P ops Q ({ dst := some d, op := .next x true, type := ty, pos := pos, after := af, guard := none } :: rest) n l w :=
  W_val rfl (inb_of hd) (fun A' hf => by
    have := run_next_str (P := P) (ty := ty) (hp.own (b, .stringIter ⟨a.toArray⟩ k) (by simp))
    rw [if_neg (by simp [ByteArray.size]; omega)] at this
    simp only [execOp, hf.eval hx]; simp [this]) h
theorem W_next_some {x : Operand} {b k r wd : Nat} {a : List UInt8} {A B : Heap} (hp : Hp w0 M (A ++ (b, .stringIter ⟨a.toArray⟩ k) :: B) w) (hx : ev l x = some (.pointer (some ⟨b, 0, none⟩))) (hk : k < a.length) (hdec : Utf8.decode ⟨a.toArray⟩ k = (r, wd)) (hd : Nat.blt d n = true)
    (h : ∀ w', Hp w0 M (A ++ (b, .stringIter ⟨a.toArray⟩ (k + wd)) :: B) w' → W P ops Q rest n (.cons d (.tuple #[.bool true, .int .i64 k, .int .i32 (r : Int)]) l) w') :
    W P ops Q ({ dst := some d, op := .next x true, type := ty, pos := pos, after := af, guard := none } :: rest) n l w := by
  have e1 : (Utf8.decode ⟨a.toArray⟩ k).1 = r := by rw [hdec]
  have e2 : (Utf8.decode ⟨a.toArray⟩ k).2 = wd := by rw [hdec]
  subst e1 e2
  exact W_val rfl (inb_of hd) (fun A' hf => by
    have := run_next_str (P := P) (ty := ty) (hp.own (b, .stringIter ⟨a.toArray⟩ k) (by simp))
    rw [if_pos (by simpa [ByteArray.size] using hk)] at this
    simp only [execOp, hf.eval hx]; simp [this]) (h _ hp.setIter)
theorem R_conv_is {x : Operand} {s t : TypeId} {ks : IntKind} {i : Int} {e : List UInt8} (hs : P.underlying s = some (.int ks)) (ht : P.underlying t = some .string) (hx : ev l x = some (.int ks i)) (he : Utf8.encode i = ⟨e.toArray⟩) :
    Runs P n l { dst := some d, op := .convert s t x, type := ty, pos := pos, after := af, guard := none } (.string ⟨e.toArray⟩) w := fun A hf => by
  simp [execOp, hf.eval hx, ← he, Go.convert, Conv.intToString, run_underlying hs, run_underlying ht, Sem.run]
end

/-! UTF-8 -/
theorem get_of {a : List UInt8} {k : Nat} {c : UInt8} (h : a[k]? = some c) : (ByteArray.mk a.toArray).get! k = c := by
  have hk := (List.getElem?_eq_some_iff.1 h)
  obtain ⟨hlt, he⟩ := hk
  simp [ByteArray.get!, hlt, he]
theorem decode_low {a : List UInt8} {k : Nat} {c : UInt8} (h : a[k]? = some c) (hc : c.toNat < 128) : Utf8.decode ⟨a.toArray⟩ k = (c.toNat, 1) := by
  simp only [Utf8.decode, Nat.add_zero, get_of h, hc, if_true]
/-- A byte from 128 on: a rune from 128 on, over bytes from 128 on. -/
theorem decode_high {a : List UInt8} {k : Nat} {c : UInt8} (h : a[k]? = some c) (hc : 128 ≤ c.toNat) :
    128 ≤ (Utf8.decode ⟨a.toArray⟩ k).1 ∧ (Utf8.decode ⟨a.toArray⟩ k).1 ≤ 1114111 ∧ 1 ≤ (Utf8.decode ⟨a.toArray⟩ k).2 ∧ k + (Utf8.decode ⟨a.toArray⟩ k).2 ≤ a.length ∧
      ∀ j, k ≤ j → j < k + (Utf8.decode ⟨a.toArray⟩ k).2 → ∀ x, a[j]? = some x → 128 ≤ x.toNat := by
  have hlt := (List.getElem?_eq_some_iff.1 h).1
  have one : ∀ r : Nat, 128 ≤ r → r ≤ 1114111 → 128 ≤ r ∧ r ≤ 1114111 ∧ 1 ≤ 1 ∧ k + 1 ≤ a.length ∧ ∀ j, k ≤ j → j < k + 1 → ∀ x, a[j]? = some x → 128 ≤ x.toNat := by
    intro r h1 h2
    refine ⟨h1, h2, by omega, by omega, fun j hj hj2 x hx => ?_⟩
    obtain rfl : j = k := by omega
    rw [h] at hx; obtain rfl := Option.some.inj hx; exact hc
  have hget : ∀ i, i < a.length → ∀ x, a[i]? = some x → (ByteArray.mk a.toArray).get! i = x := fun i _ x hx => get_of hx
  have hcont : ∀ m, m < (ByteArray.mk a.toArray).size → ((ByteArray.mk a.toArray).get! m).toNat / 64 = 2 → ∀ x, a[m]? = some x → 128 ≤ x.toNat := by
    intro m hm hd x hx
    rw [get_of hx] at hd; omega
  have hsz : (ByteArray.mk a.toArray).size = a.length := by simp [ByteArray.size]
  simp only [Utf8.decode, Nat.add_zero, get_of h]
  rw [if_neg (by omega)]
  split
  · rename_i h1
    simp only [Bool.and_eq_true, beq_iff_eq, decide_eq_true_eq] at h1
    split
    · refine ⟨by omega, by have := c.toNat_lt; omega, by omega, by omega, fun j hj hj2 x hx => ?_⟩
      rcases Nat.lt_or_ge j (k + 1) with h3 | h3
      · obtain rfl : j = k := by omega
        rw [h] at hx; obtain rfl := Option.some.inj hx; exact hc
      · obtain rfl : j = k + 1 := by omega
        exact hcont _ h1.2.1 h1.2.2 x hx
    · exact one _ (by decide) (by decide)
  · split
    · rename_i h1
      simp only [Bool.and_eq_true, beq_iff_eq, decide_eq_true_eq] at h1
      split
      · rename_i h2
        simp only [Bool.and_eq_true, decide_eq_true_eq, ge_iff_le] at h2
        refine ⟨by omega, by have := c.toNat_lt; omega, by omega, by omega, fun j hj hj2 x hx => ?_⟩
        rcases Nat.lt_or_ge j (k + 1) with h3 | h3
        · obtain rfl : j = k := by omega
          rw [h] at hx; obtain rfl := Option.some.inj hx; exact hc
        · rcases Nat.lt_or_ge j (k + 2) with h4 | h4
          · obtain rfl : j = k + 1 := by omega
            exact hcont _ h1.1.2.1 h1.1.2.2 x hx
          · obtain rfl : j = k + 2 := by omega
            exact hcont _ h1.2.1 h1.2.2 x hx
      · exact one _ (by decide) (by decide)
    · split
      · rename_i h1
        simp only [Bool.and_eq_true, beq_iff_eq, decide_eq_true_eq] at h1
        split
        · rename_i h2
          simp only [Bool.and_eq_true, decide_eq_true_eq, ge_iff_le] at h2
          have hv := h2.2
          refine ⟨by omega, ?_, by omega, by omega, fun j hj hj2 x hx => ?_⟩
          · simp only [Utf8.valid, Bool.or_eq_true, Bool.and_eq_true, decide_eq_true_eq] at hv
            omega
          · rcases Nat.lt_or_ge j (k + 1) with h3 | h3
            · obtain rfl : j = k := by omega
              rw [h] at hx; obtain rfl := Option.some.inj hx; exact hc
            · rcases Nat.lt_or_ge j (k + 2) with h4 | h4
              · obtain rfl : j = k + 1 := by omega
                exact hcont _ h1.1.1.2.1 h1.1.1.2.2 x hx
              · rcases Nat.lt_or_ge j (k + 3) with h5 | h5
                · obtain rfl : j = k + 2 := by omega
                  exact hcont _ h1.1.2.1 h1.1.2.2 x hx
                · obtain rfl : j = k + 3 := by omega
                  exact hcont _ h1.2.1 h1.2.2 x hx
        · exact one _ (by decide) (by decide)
      · exact one _ (by decide) (by decide)
/-- What a range over a text meets at k. -/
theorem next_cases (a : List UInt8) (k : Nat) : a.length ≤ k ∨ (∃ c : UInt8, a[k]? = some c ∧ c.toNat < 128 ∧ k < a.length ∧ Utf8.decode ⟨a.toArray⟩ k = (c.toNat, 1)) ∨
    (∃ r wd, k < a.length ∧ Utf8.decode ⟨a.toArray⟩ k = (r, wd) ∧ 128 ≤ r ∧ r ≤ 1114111 ∧ 1 ≤ wd ∧ k + wd ≤ a.length ∧ ∀ j, k ≤ j → j < k + wd → ∀ x, a[j]? = some x → 128 ≤ x.toNat) := by
  rcases Nat.lt_or_ge k a.length with h | h
  · right
    have hc : a[k]? = some a[k] := List.getElem?_eq_getElem h
    rcases Nat.lt_or_ge (a[k]).toNat 128 with h1 | h1
    · exact .inl ⟨a[k], hc, h1, h, decode_low hc h1⟩
    · obtain ⟨p1, p2, p3, p4, p5⟩ := decode_high hc h1
      exact .inr ⟨_, _, h, rfl, p1, p2, p3, p4, p5⟩
  · exact .inl h
theorem next_low {a : List UInt8} (k : Nat) (ha : ∀ x ∈ a, x.toNat < 128) : a.length ≤ k ∨ (∃ c : UInt8, a[k]? = some c ∧ c.toNat < 128 ∧ k < a.length ∧ Utf8.decode ⟨a.toArray⟩ k = (c.toNat, 1)) := by
  rcases next_cases a k with h | h | ⟨r, wd, h1, h2, h3, h4, h5, h6, h7⟩
  · exact .inl h
  · exact .inr h
  · have hc : a[k]? = some a[k] := List.getElem?_eq_getElem h1
    have := h7 k (Nat.le_refl _) (by omega) _ hc
    have := ha _ (List.mem_of_getElem? hc); omega
/-- A rune from 128 on that is valid: two to four bytes, the last one from 128 on. -/
theorem encode_high {r : Int} (h : 128 ≤ r) : ∃ (L : List UInt8) (c : UInt8), Utf8.encode r = ⟨(L ++ [c]).toArray⟩ ∧ 1 ≤ L.length ∧ L.length ≤ 3 ∧ 128 ≤ c.toNat := by
  unfold Utf8.encode
  have hl : ∀ x : Nat, 128 ≤ (UInt8.ofNat (0x80 + x % 64)).toNat := fun x => by rw [UInt8.toNat_ofNat']; omega
  have key : ∀ c : Nat, 128 ≤ c → ∃ (L : List UInt8) (x : UInt8), (if c < 0x80 then (⟨#[UInt8.ofNat c]⟩ : ByteArray) else if c < 0x800 then ⟨#[UInt8.ofNat (0xC0 + c / 64), UInt8.ofNat (0x80 + c % 64)]⟩
      else if c < 0x10000 then ⟨#[UInt8.ofNat (0xE0 + c / 4096), UInt8.ofNat (0x80 + c / 64 % 64), UInt8.ofNat (0x80 + c % 64)]⟩
      else ⟨#[UInt8.ofNat (0xF0 + c / 262144), UInt8.ofNat (0x80 + c / 4096 % 64), UInt8.ofNat (0x80 + c / 64 % 64), UInt8.ofNat (0x80 + c % 64)]⟩) = ⟨(L ++ [x]).toArray⟩ ∧ 1 ≤ L.length ∧ L.length ≤ 3 ∧ 128 ≤ x.toNat := by
    intro c hc
    rw [if_neg (by omega)]
    split
    · exact ⟨[_], _, rfl, by simp, by simp, hl c⟩
    · split
      · exact ⟨[_, _], _, rfl, by simp, by simp, hl c⟩
      · exact ⟨[_, _, _], _, rfl, by simp, by simp, hl c⟩
  refine key _ ?_
  split
  · omega
  · decide
end Go.Sx
