/-
  '==' and '!=' on values that are the same: numbers, bools, strings, and structs and arrays of these. No conditions: for every program.
-/
import Derived.Test.YticinfoljhlnbaaGreatDoorSxBld
import Derived.Laws.StructEq
namespace Go.Sx
open Go.RowKit
set_option linter.unusedVariables false
set_option linter.unusedSimpArgs false

def okFs (P : Program) (rec : TypeId → Value → Bool) (xs : Array Value) : List Field → Bool
  | [] => true
  | f :: fs => (match partV P f.type xs f.offset with | some v => rec f.type v | none => false) && okFs P rec xs fs
def okEl (P : Program) (rec : TypeId → Value → Bool) (xs : Array Value) (e : TypeId) (s : Nat) : Nat → Bool
  | 0 => true
  | i + 1 => (match partV P e xs (i * s) with | some v => rec e v | none => false) && okEl P rec xs e s i
/-- Well shaped, and of a type whose '==' only looks. -/
def okV (P : Program) : Nat → TypeId → Value → Bool
  | 0, _, _ => false
  | d + 1, t, x => match P.underlying t, x with
    | some .bool, .bool _ => true
    | some (.int _), .int _ _ => true
    | some .string, .string _ => true
    | some (.struct fs), .agg xs => !P.stoodInHeld t && okFs P (okV P d) xs fs.toList
    | some (.array n e), .agg xs => (psize? P e).isSome && okEl P (okV P d) xs e (psize P e) n
    | _, _ => false

section
variable {P : Program}
theorem okEl_at {rec : TypeId → Value → Bool} {xs : Array Value} {e s : Nat} : ∀ {n : Nat}, okEl P rec xs e s n = true → ∀ i, i < n → ∃ v, partV P e xs (i * s) = some v ∧ rec e v = true
  | 0, _, i, hi => by omega
  | n + 1, h, i, hi => by
    simp only [okEl, Bool.and_eq_true] at h
    rcases Nat.lt_or_ge i n with hin | hin
    · exact okEl_at h.2 i hin
    · obtain rfl : i = n := by omega
      cases hp : partV P e xs (i * s) with
      | none => simp [hp] at h
      | some v => exact ⟨v, rfl, by simpa [hp] using h.1⟩
theorem equalIn_self : ∀ {d : Nat} {t : TypeId} {x : Value}, okV P d t x = true → ∀ w, (Op.equalIn d t x x).run P w = .ok true w
  | 0, t, x, h, w => by simp [okV] at h
  | d + 1, t, x, h, w => by
    unfold okV at h
    split at h
    · rename_i h1; simp [Op.equalIn, run_underlying h1]
    · rename_i h1; simp [Op.equalIn, run_underlying h1]
    · rename_i h1; simp only [Op.equalIn, Sem.run_bind, run_underlying h1, Result.andThen_ok]; simp [beq_toListBytes]
    · rename_i fs xs h1
      simp only [Bool.and_eq_true, Bool.not_eq_true'] at h
      have hf : P.fieldsOf t = fs := by simp [Program.fieldsOf, h1]
      rw [run_equalIn_struct w d t xs xs (by rw [hf]; exact h1) h.1, hf]
      have key : ∀ L : List Field, okFs P (okV P d) xs L = true → (Op.eqFields d xs xs L).run P w = .ok true w := by
        intro L
        induction L with
        | nil => intro _; simp [Op.eqFields]
        | cons f L ih =>
          intro hL
          simp only [okFs, Bool.and_eq_true] at hL
          cases hp : partV P f.type xs f.offset with
          | none => simp [hp] at hL
          | some v =>
            have hv : okV P d f.type v = true := by simpa [hp] using hL.1
            have e := equalIn_self hv w
            simp only [Op.eqFields, Sem.run_ite]
            split
            · simp [run_part hp, e, ih hL.2]
            · exact ih hL.2
      exact key _ h.2
    · rename_i n e xs h1
      simp only [Bool.and_eq_true] at h
      obtain ⟨s, hs⟩ := Option.isSome_iff_exists.1 h.1
      have hs' : psize P e = s := by simp [psize, hs]
      rw [hs'] at h
      have hat := okEl_at h.2
      simp only [Op.equalIn, Sem.run_bind, run_underlying h1, Result.andThen_ok, run_size hs]
      have key : ∀ (L : List Nat), (∀ i ∈ L, i < n) → ∀ init : Option Bool × Unit, init.1 = none →
          ((forIn L init fun i r => do
            let a ← part e xs (i * s)
            let b ← part e xs (i * s)
            let r ← Op.equalIn d e a b
            if r = false then pure (ForInStep.done (some false, ()))
            else pure (ForInStep.yield (none, ()))) : Sem (Option Bool × Unit)).run P w = .ok (none, ()) w := by
        intro L
        induction L with
        | nil => intro _ init hi; obtain ⟨a, b⟩ := init; simp at hi; subst hi; simp
        | cons i L ih =>
          intro hL init hi
          obtain ⟨v, hv, hok⟩ := hat i (hL i (by simp))
          have e1 := equalIn_self hok w
          simp only [List.forIn_cons, Sem.run_bind, run_part hv, Result.andThen_ok, e1, Bool.true_eq_false, if_false, Sem.run_pure]
          exact ih (fun j hj => hL j (by simp [hj])) _ rfl
      have := key (List.range' 0 n) (fun i hi => by simp at hi; omega) (none, ()) rfl
      simp only [Std.Legacy.Range.forIn_eq_forIn_range', Std.Legacy.Range.size, Nat.sub_zero, Nat.add_sub_cancel, Nat.div_one]
      simp [this]
    · simp at h
end
section
variable {P : Program} {ops : Array Oper} {Q : Exit → Act → World → Prop} {rest : List Oper} {n : Nat} {l : Env} {w : World}
variable {d : Tmp} {ty : TypeId} {pos : String} {af : Array Edge}
theorem R_aeql_t {x y : Operand} {t t' : TypeId} {xs ys : Array Value} (hg : P.eqGuardType P.depth t = false) (hx : ev l x = some (.agg xs)) (hy : ev l y = some (.agg ys)) (e : xs = ys) (ok : okV P 10000 t (.agg xs) = true) :
    Runs P n l { dst := some d, op := .binOp .eql t x y t', type := ty, pos := pos, after := af, guard := none } (.bool true) w := fun A hf => by
  subst e
  have h1 := run_eqGuard_agg w .eql t x y xs xs hg
  have h2 := equalIn_self ok w
  simp [execOp, hf.eval hx, hf.eval hy, h1, run_eql_struct, h2]
theorem R_aneq_f {x y : Operand} {t t' : TypeId} {xs ys : Array Value} (hg : P.eqGuardType P.depth t = false) (hx : ev l x = some (.agg xs)) (hy : ev l y = some (.agg ys)) (e : xs = ys) (ok : okV P 10000 t (.agg xs) = true) :
    Runs P n l { dst := some d, op := .binOp .neq t x y t', type := ty, pos := pos, after := af, guard := none } (.bool false) w := fun A hf => by
  subst e
  have h1 := run_eqGuard_agg w .neq t x y xs xs hg
  have h2 := equalIn_self ok w
  simp [execOp, hf.eval hx, hf.eval hy, h1, run_neq_struct, h2]
theorem W_aeql_t {x y : Operand} {t t' : TypeId} {xs ys : Array Value} (hg : P.eqGuardType P.depth t = false) (hx : ev l x = some (.agg xs)) (hy : ev l y = some (.agg ys)) (e : xs = ys) (ok : okV P 10000 t (.agg xs) = true) (hd : Nat.blt d n = true)
    (h : W P ops Q rest n (.cons d (.bool true) l) w) : W P ops Q ({ dst := some d, op := .binOp .eql t x y t', type := ty, pos := pos, after := af, guard := none } :: rest) n l w := W_val rfl (inb_of hd) (R_aeql_t hg hx hy e ok) h
theorem W_aneq_f {x y : Operand} {t t' : TypeId} {xs ys : Array Value} (hg : P.eqGuardType P.depth t = false) (hx : ev l x = some (.agg xs)) (hy : ev l y = some (.agg ys)) (e : xs = ys) (ok : okV P 10000 t (.agg xs) = true) (hd : Nat.blt d n = true)
    (h : W P ops Q rest n (.cons d (.bool false) l) w) : W P ops Q ({ dst := some d, op := .binOp .neq t x y t', type := ty, pos := pos, after := af, guard := none } :: rest) n l w := W_val rfl (inb_of hd) (R_aneq_f hg hx hy e ok) h
theorem equalIn_str {q : Nat} {t : TypeId} {a b : List UInt8} (ht : P.underlying t = some .string) : (Op.equalIn (q + 1) t (.string ⟨a.toArray⟩) (.string ⟨b.toArray⟩)).run P w = .ok (decide (a = b)) w := by
  simp only [Op.equalIn, Sem.run_bind, run_underlying ht, Result.andThen_ok]
  simp [beq_toListBytes, ByteArray.toList_mk, beq_dec]
/-- '==' of two structs of two strings. -/
theorem equalIn_ss {t : TypeId} {f0 f1 : Field} {a b c e : List UInt8} (ht : P.underlying t = some (.struct #[f0, f1])) (hs : P.stoodInHeld t = false) (n0 : (f0.name == "_") = false) (n1 : (f1.name == "_") = false) (o0 : f0.offset = 0) (o1 : f1.offset = 1) (s0 : P.underlying f0.type = some .string) (s1 : P.underlying f1.type = some .string) :
    (Op.equalIn 10000 t (.agg #[.string ⟨a.toArray⟩, .string ⟨b.toArray⟩]) (.agg #[.string ⟨c.toArray⟩, .string ⟨e.toArray⟩])).run P w = .ok (decide ((a, b) = (c, e))) w := by
  have hf : P.fieldsOf t = #[f0, f1] := by simp [Program.fieldsOf, ht]
  have n0' : f0.name ≠ "_" := by simpa using n0
  have n1' : f1.name ≠ "_" := by simpa using n1
  rw [run_equalIn_struct w 9999 t _ _ (by rw [hf]; exact ht) hs, hf]
  have p0 : ∀ x y : List UInt8, (part f0.type #[.string ⟨x.toArray⟩, .string ⟨y.toArray⟩] f0.offset).run P w = .ok (.string ⟨x.toArray⟩) w := fun x y => run_part (partV_s s0 rfl (by rw [o0]; rfl))
  have p1 : ∀ x y : List UInt8, (part f1.type #[.string ⟨x.toArray⟩, .string ⟨y.toArray⟩] f1.offset).run P w = .ok (.string ⟨y.toArray⟩) w := fun x y => run_part (partV_s s1 rfl (by rw [o1]; rfl))
  have e0 := equalIn_str (P := P) (w := w) (q := 9998) (a := a) (b := c) s0
  have e1 := equalIn_str (P := P) (w := w) (q := 9998) (a := b) (b := e) s1
  show (Op.eqFields 9999 _ _ [f0, f1]).run P w = _
  simp only [Op.eqFields, n0', n1', p0, p1, e0, e1, Sem.run_bind, Sem.run_ite, Result.andThen_ok, ne_eq, not_false_eq_true, if_true, Sem.run_pure]
  by_cases h0 : a = c <;> by_cases h1 : b = e <;> simp [h0, h1]
theorem R_sseq {x y : Operand} {t t' : TypeId} {f0 f1 : Field} {a b c e : List UInt8} (hg : P.eqGuardType P.depth t = false) (ht : P.underlying t = some (.struct #[f0, f1])) (hs : P.stoodInHeld t = false) (n0 : (f0.name == "_") = false) (n1 : (f1.name == "_") = false) (o0 : f0.offset = 0) (o1 : f1.offset = 1) (s0 : P.underlying f0.type = some .string) (s1 : P.underlying f1.type = some .string)
    (hx : ev l x = some (.agg #[.string ⟨a.toArray⟩, .string ⟨b.toArray⟩])) (hy : ev l y = some (.agg #[.string ⟨c.toArray⟩, .string ⟨e.toArray⟩])) :
    Runs P n l { dst := some d, op := .binOp .eql t x y t', type := ty, pos := pos, after := af, guard := none } (.bool (decide ((a, b) = (c, e)))) w := fun A hf => by
  have h1 := run_eqGuard_agg (P := P) w .eql t x y #[.string ⟨a.toArray⟩, .string ⟨b.toArray⟩] #[.string ⟨c.toArray⟩, .string ⟨e.toArray⟩] hg
  have h2 := equalIn_ss (P := P) (w := w) (a := a) (b := b) (c := c) (e := e) ht hs n0 n1 o0 o1 s0 s1
  simp only [execOp, hf.eval hx, hf.eval hy]
  simp [h1, run_eql_struct, h2]
theorem R_ssne {x y : Operand} {t t' : TypeId} {f0 f1 : Field} {a b c e : List UInt8} (hg : P.eqGuardType P.depth t = false) (ht : P.underlying t = some (.struct #[f0, f1])) (hs : P.stoodInHeld t = false) (n0 : (f0.name == "_") = false) (n1 : (f1.name == "_") = false) (o0 : f0.offset = 0) (o1 : f1.offset = 1) (s0 : P.underlying f0.type = some .string) (s1 : P.underlying f1.type = some .string)
    (hx : ev l x = some (.agg #[.string ⟨a.toArray⟩, .string ⟨b.toArray⟩])) (hy : ev l y = some (.agg #[.string ⟨c.toArray⟩, .string ⟨e.toArray⟩])) :
    Runs P n l { dst := some d, op := .binOp .neq t x y t', type := ty, pos := pos, after := af, guard := none } (.bool (!decide ((a, b) = (c, e)))) w := fun A hf => by
  have h1 := run_eqGuard_agg (P := P) w .neq t x y #[.string ⟨a.toArray⟩, .string ⟨b.toArray⟩] #[.string ⟨c.toArray⟩, .string ⟨e.toArray⟩] hg
  have h2 := equalIn_ss (P := P) (w := w) (a := a) (b := b) (c := c) (e := e) ht hs n0 n1 o0 o1 s0 s1
  simp only [execOp, hf.eval hx, hf.eval hy]
  simp [h1, run_neq_struct, h2]
theorem R_ssne_r {x y : Operand} {t t' : TypeId} {f0 f1 : Field} {a b c e : List UInt8} (r : Bool) (hg : P.eqGuardType P.depth t = false) (ht : P.underlying t = some (.struct #[f0, f1])) (hs : P.stoodInHeld t = false) (n0 : (f0.name == "_") = false) (n1 : (f1.name == "_") = false) (o0 : f0.offset = 0) (o1 : f1.offset = 1) (s0 : P.underlying f0.type = some .string) (s1 : P.underlying f1.type = some .string)
    (hx : ev l x = some (.agg #[.string ⟨a.toArray⟩, .string ⟨b.toArray⟩])) (hy : ev l y = some (.agg #[.string ⟨c.toArray⟩, .string ⟨e.toArray⟩])) (hr : (!decide ((a, b) = (c, e))) = r) :
    Runs P n l { dst := some d, op := .binOp .neq t x y t', type := ty, pos := pos, after := af, guard := none } (.bool r) w := hr ▸ R_ssne hg ht hs n0 n1 o0 o1 s0 s1 hx hy
end
end Go.Sx
