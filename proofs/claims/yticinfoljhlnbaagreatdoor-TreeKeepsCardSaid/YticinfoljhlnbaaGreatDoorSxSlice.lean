/-
  Functions that return new memory, cuts of slices, shifts and masks. No conditions: for every program.
-/
import Derived.Test.YticinfoljhlnbaaGreatDoorSxStr
import Derived.Test.YticinfoljhlnbaaGreatDoorSxMake
namespace Go.Sx
open Go.RowKit
set_option linter.unusedVariables false
set_option linter.unusedSimpArgs false

/-- Called with these values in this very world, it returns a value with new blocks G, of which R tells; nothing that was there turns. -/
def RetB (P : Program) (f : FuncId) (args : List Value) (R : Value → Heap → Prop) (w : World) : Prop :=
  GoFn P f ∧ Calls P f args.toArray w fun e w' => ∃ v, e = .returned v ∧ ∃ G, Hp w [] G w' ∧ R v G
theorem RetB.intro {P : Program} {f : FuncId} {fn : Func} {c : Code} {args : List Value} {R : Value → Heap → Prop} {w0 : World} (hg : GoFn P f) (hf : P.funcs[f]? = some fn) (hb : fn.body = some c) (hn : Nat.ble args.length fn.ntmps = true)
    (h : Hp w0 [] [] w0 → K P c (bodyPost P fn fun e w' => ∃ v, e = .returned v ∧ ∃ G, Hp w0 [] G w' ∧ R v G) fn.ntmps (.args args) w0) : RetB P f args R w0 :=
  ⟨hg, calls_of_K hf hb hn (h (Hp.refl w0))⟩
theorem RetB.mono {P : Program} {f : FuncId} {args : List Value} {R R' : Value → Heap → Prop} {w : World} (h : RetB P f args R w) (hr : ∀ v G, R v G → R' v G) : RetB P f args R' w :=
  ⟨h.1, h.2.mono fun e w' ⟨v, he, G, hp, hR⟩ => ⟨v, he, G, hp, hr v G hR⟩⟩
theorem PureAt.toB {P : Program} {f : FuncId} {args : List Value} {r : Value} {w : World} (h : PureAt P f args r w) : RetB P f args (fun v G => v = r ∧ G = []) w :=
  ⟨h.1, h.2.mono fun e w' ⟨v, he, hv, hp⟩ => ⟨v, he, [], hp, hv, rfl⟩⟩
section
variable {P : Program} {ops : Array Oper} {Q : Exit → Act → World → Prop} {rest : List Oper} {n : Nat} {l : Env} {w0 w : World} {M F : Heap}
variable {d : Tmp} {ty : TypeId} {pos : String} {af : Array Edge}
theorem W_bcall {f : FuncId} {xs : List Operand} {ts : Array TypeId} {vs : List Value} {R : Value → Heap → Prop} (hp : Hp w0 M F w) (hxs : evs l xs = some vs) (hc : RetB P f vs R w) (hd : Nat.blt d n = true)
    (h : ∀ v G w', R v G → Hp w0 M (G ++ F) w' → W P ops Q rest n (.cons d v l) w') :
    W P ops Q ({ dst := some d, op := .call { callee := .value (.func f), args := xs.toArray, argTypes := ts }, type := ty, pos := pos, after := af, guard := none } :: rest) n l w :=
  W_rcall hp rfl hxs hd (.static hc.1 hc.2) h

/-! Cuts of slices -/
theorem rd_cut {w : World} {A : Option Addr} {n c i j s : Nat} {cells : List Value} (hr : Rd w (.slice A n c) n cells) (hj : j ≤ c) :
    Rd w (.slice (if c = i then A else A.map (·.add (i * s))) (j - i) (c - i)) (j - i) ((cells.drop (i * s)).take ((j - i) * s)) := by
  refine ⟨_, _, rfl, fun hne => ?_⟩
  have hij : i < j := by
    rcases Nat.lt_or_ge i j with h | h
    · exact h
    · exact absurd (by rw [show j - i = 0 by omega]; simp) hne
  have hc0 : cells ≠ [] := fun e => hne (by simp [e])
  obtain ⟨b, o, rfl⟩ := hr.some hc0
  rw [if_neg (by omega)]
  refine ⟨b, o + i * s, by simp [Addr.add], fun k u hk => ?_⟩
  have hx : cells[i * s + k]? = some u := by
    have hl := (List.getElem?_eq_some_iff.1 hk).1
    simp only [List.length_take, List.length_drop] at hl
    rwa [List.getElem?_take_of_lt (by omega), List.getElem?_drop] at hk
  rw [Nat.add_assoc]; exact hr.cell hx
theorem rd_cut_h {w : World} {A : Option Addr} {n c j s : Nat} {cells : List Value} (hr : Rd w (.slice A n c) n cells) : Rd w (.slice A j c) j (cells.take (j * s)) := by
  refine ⟨_, _, rfl, fun hne => ?_⟩
  have hc0 : cells ≠ [] := fun e => hne (by simp [e])
  obtain ⟨b, o, rfl⟩ := hr.some hc0
  refine ⟨b, o, rfl, fun k u hk => ?_⟩
  have hl := (List.getElem?_eq_some_iff.1 hk).1
  simp only [List.length_take] at hl
  exact hr.cell (by rwa [List.getElem?_take_of_lt (by omega)] at hk)
theorem R_cut_lh {t e : TypeId} {s m c : Nat} {A : Option Addr} {k k' : IntKind} {i j : Int} {x y z : Operand} (ht : P.underlying t = some (.slice e)) (hs : psize? P e = some s) (hx : ev l x = some (.slice A m c)) (hy : ev l y = some (.int k i)) (hz : ev l z = some (.int k' j)) (h0 : 0 ≤ i) (h1 : i ≤ j) (h2 : j ≤ c) :
    Runs P n l { dst := some d, op := .slice t x (some y) (some z) none, type := ty, pos := pos, after := af, guard := none } (.slice (if c = i.toNat then A else A.map (·.add (i.toNat * s))) (j.toNat - i.toNat) (c - i.toNat)) w := fun a hf => by
  have := (run_cut (P := P) (w := w) (m := m) (c := c) (ad := A) (klo := k) (khi := k') (i := i) (j := j) (lo := 0) (hi := 0) ht hs).1 h0 h1 h2
  simp [execOp, hf.eval hx, hf.eval hy, hf.eval hz, this]
theorem R_cut_l {t e : TypeId} {s m c : Nat} {A : Option Addr} {k : IntKind} {i : Int} {x y : Operand} (ht : P.underlying t = some (.slice e)) (hs : psize? P e = some s) (hx : ev l x = some (.slice A m c)) (hy : ev l y = some (.int k i)) (h0 : 0 ≤ i) (h1 : i ≤ m) :
    Runs P n l { dst := some d, op := .slice t x (some y) none none, type := ty, pos := pos, after := af, guard := none } (.slice (if c = i.toNat then A else A.map (·.add (i.toNat * s))) (m - i.toNat) (c - i.toNat)) w := fun a hf => by
  have := (run_cut (P := P) (w := w) (m := m) (c := c) (ad := A) (klo := k) (khi := k) (i := i) (j := 0) (lo := 0) (hi := 0) ht hs).2.1 h0 h1
  simp [execOp, hf.eval hx, hf.eval hy, this]
theorem R_cut_h {t e : TypeId} {s m c : Nat} {A : Option Addr} {k : IntKind} {j : Int} {x z : Operand} (ht : P.underlying t = some (.slice e)) (hs : psize? P e = some s) (hx : ev l x = some (.slice A m c)) (hz : ev l z = some (.int k j)) (h0 : 0 ≤ j) (h1 : j ≤ c) :
    Runs P n l { dst := some d, op := .slice t x none (some z) none, type := ty, pos := pos, after := af, guard := none } (.slice A j.toNat c) w := fun a hf => by
  have := (run_cut (P := P) (w := w) (m := m) (c := c) (ad := A) (klo := k) (khi := k) (i := 0) (j := j) (lo := 0) (hi := 0) ht hs).2.2 h0 h1
  simp [execOp, hf.eval hx, hf.eval hz, this]
/-- 'x[m:]': what it reads as; where it lies and its room stay open. -/
theorem W_cut_l {t e : TypeId} {s N c m : Nat} {A : Option Addr} {k : IntKind} {i : Int} {x y : Operand} {w1 : World} {cells : List Value} (hr : Rd w1 (.slice A N c) N cells) (hl : cells.length = N * s) (hNc : N ≤ c) (ht : P.underlying t = some (.slice e)) (hs : psize? P e = some s)
    (hx : ev l x = some (.slice A N c)) (hy : ev l y = some (.int k i)) (hi : i = (m : Int)) (hm : m ≤ N) (hd : Nat.blt d n = true)
    (h : ∀ A' c', N - m ≤ c' → Rd w1 (.slice A' (N - m) c') (N - m) (cells.drop (m * s)) → W P ops Q rest n (.cons d (.slice A' (N - m) c') l) w) :
    W P ops Q ({ dst := some d, op := .slice t x (some y) none none, type := ty, pos := pos, after := af, guard := none } :: rest) n l w := by
  subst hi
  refine W_val rfl (inb_of hd) (R_cut_l ht hs hx hy (by omega) (by omega)) ?_
  simp only [Int.toNat_natCast]
  refine h _ _ (by omega) ?_
  have := rd_cut (i := m) (s := s) hr hNc
  rwa [List.take_of_length_le (by simp only [List.length_drop, hl, Nat.sub_mul]; omega)] at this
/-- 'x[m:]' of a row that reads alike in a class of worlds. -/
theorem W_cut_lX {t e : TypeId} {s N c m : Nat} {A : Option Addr} {k : IntKind} {i : Int} {x y : Operand} {X : World → Prop} {cells : List Value} (hr : ∀ w1, X w1 → Rd w1 (.slice A N c) N cells) (hl : cells.length = N * s) (hNc : N ≤ c) (ht : P.underlying t = some (.slice e)) (hs : psize? P e = some s)
    (hx : ev l x = some (.slice A N c)) (hy : ev l y = some (.int k i)) (hi : i = (m : Int)) (hm : m ≤ N) (hd : Nat.blt d n = true)
    (h : ∀ A' c', N - m ≤ c' → (∀ w1, X w1 → Rd w1 (.slice A' (N - m) c') (N - m) (cells.drop (m * s))) → W P ops Q rest n (.cons d (.slice A' (N - m) c') l) w) :
    W P ops Q ({ dst := some d, op := .slice t x (some y) none none, type := ty, pos := pos, after := af, guard := none } :: rest) n l w := by
  subst hi
  refine W_val rfl (inb_of hd) (R_cut_l ht hs hx hy (by omega) (by omega)) ?_
  simp only [Int.toNat_natCast]
  refine h _ _ (by omega) fun w1 hX => ?_
  have := rd_cut (i := m) (s := s) (hr w1 hX) hNc
  rwa [List.take_of_length_le (by simp only [List.length_drop, hl, Nat.sub_mul]; omega)] at this
/-- 'x[:m]' -/
theorem W_cut_h {t e : TypeId} {s N c m : Nat} {A : Option Addr} {k : IntKind} {j : Int} {x z : Operand} {w1 : World} {cells : List Value} (hr : Rd w1 (.slice A N c) N cells) (hNc : N ≤ c) (ht : P.underlying t = some (.slice e)) (hs : psize? P e = some s)
    (hx : ev l x = some (.slice A N c)) (hz : ev l z = some (.int k j)) (hj : j = (m : Int)) (hm : m ≤ N) (hd : Nat.blt d n = true)
    (h : Rd w1 (.slice A m c) m (cells.take (m * s)) → W P ops Q rest n (.cons d (.slice A m c) l) w) :
    W P ops Q ({ dst := some d, op := .slice t x none (some z) none, type := ty, pos := pos, after := af, guard := none } :: rest) n l w := by
  subst hj
  refine W_val rfl (inb_of hd) (R_cut_h ht hs hx hz (by omega) (by omega)) ?_
  simp only [Int.toNat_natCast]
  exact h (rd_cut_h hr)
/-- 'x[i:m]' -/
theorem W_cut_lh {t e : TypeId} {s N c i m : Nat} {A : Option Addr} {k k' : IntKind} {a b : Int} {x y z : Operand} {w1 : World} {cells : List Value} (hr : Rd w1 (.slice A N c) N cells) (hNc : N ≤ c) (ht : P.underlying t = some (.slice e)) (hs : psize? P e = some s)
    (hx : ev l x = some (.slice A N c)) (hy : ev l y = some (.int k a)) (hz : ev l z = some (.int k' b)) (hi : a = (i : Int)) (hj : b = (m : Int)) (him : i ≤ m) (hm : m ≤ N) (hd : Nat.blt d n = true)
    (h : ∀ A' c', m - i ≤ c' → Rd w1 (.slice A' (m - i) c') (m - i) ((cells.drop (i * s)).take ((m - i) * s)) → W P ops Q rest n (.cons d (.slice A' (m - i) c') l) w) :
    W P ops Q ({ dst := some d, op := .slice t x (some y) (some z) none, type := ty, pos := pos, after := af, guard := none } :: rest) n l w := by
  subst hi hj
  refine W_val rfl (inb_of hd) (R_cut_lh ht hs hx hy hz (by omega) (by omega) (by omega)) ?_
  simp only [Int.toNat_natCast]
  exact h _ _ (by omega) (rd_cut (i := i) (s := s) hr (by omega))
end

section
variable {P : Program} {ops : Array Oper} {Q : Exit → Act → World → Prop} {rest : List Oper} {n : Nat} {l : Env} {w0 w : World} {M F : Heap}
variable {d : Tmp} {ty : TypeId} {pos : String} {af : Array Edge}
/-- A slice literal of any length. -/
theorem W_bslice_l {t e : TypeId} {s m : Nat} {z : Value} {arr : Array (Nat × Operand)} {xs : List Operand} {vs cs : List Value} (hp : Hp w0 M F w) (ht : P.underlying t = some (.slice e)) (hs : psize? P e = some s) (hz : zeroV P e = some z) (ha : arr = (xs.zipIdx.map fun p => (p.2, p.1)).toArray)
    (hxs : evs l xs = some vs) (hm : vs.length = m) (hb : m * s ≤ 16777216) (hc : ∀ v ∈ vs, v.cells.size = s) (hcs : (vs.map fun v => v.cells.toList).flatten = cs) (hd : Nat.blt d n = true)
    (h : ∀ b w', Hp w0 M ((b, .cells cs.toArray e) :: F) w' → W P ops Q rest n (.cons d (.slice (some ⟨b, 0, none⟩) m m) l) w') :
    W P ops Q ({ dst := some d, op := .buildSlice t m arr, type := ty, pos := pos, after := af, guard := none } :: rest) n l w := by
  subst ha hm
  refine W_val rfl (inb_of hd) (fun A hf => ?_) (h _ _ (hp.alloc _))
  have e1 := run_bslice (P := P) (w := w) (vs := vs) ht hs hz hb hc hcs
  have e2 : (xs.zipIdx.map fun p => (p.2, p.1)).toArray.map (fun p => (p.1, A.eval p.2)) = (vs.zipIdx.map fun p => (p.2, p.1)).toArray := by
    rw [← hf.evals hxs, List.zipIdx_map]
    simp [Function.comp_def]
  simp only [execOp, e2]
  simp [e1]
end

/-! Shifts and masks -/
theorem shl_c {k : IntKind} {a b r : Int} {m : Nat} (hb : min b.toNat k.bits = m) (hr : k.wrap (a * 2 ^ m) = r) : k.wrap (a * 2 ^ (min b.toNat k.bits)) = r := by rw [hb]; exact hr
theorem shr_c {k : IntKind} {a b : Int} {m : Nat} (hb : min b.toNat k.bits = m) (h0 : 0 ≤ a) : a.fdiv (2 ^ (min b.toNat k.bits)) = a / 2 ^ m := by
  rw [hb, Int.fdiv_eq_ediv_of_nonneg _ (Int.le_of_lt (Int.pow_pos (by decide)))]
theorem shr_n {k : IntKind} {b : Int} {N m : Nat} (hb : min b.toNat k.bits = m) : (N : Int).fdiv (2 ^ (min b.toNat k.bits)) = ((N / 2 ^ m : Nat) : Int) := by
  rw [shr_c hb (by omega), Int.natCast_ediv]; simp
theorem ofInt_toNat {q x : Nat} (h : x < 2 ^ q) : (BitVec.ofInt q (x : Int)).toNat = x := by
  rw [BitVec.ofInt_natCast, BitVec.toNat_ofNat, Nat.mod_eq_of_lt h]
theorem or_add {q m y : Nat} (h : y < 2 ^ m) : q * 2 ^ m ||| y = q * 2 ^ m + y := by
  rw [← Nat.shiftLeft_eq, Nat.shiftLeft_add_eq_or_of_lt h]
theorem bor32 {A B : Int} {q y m : Nat} (hA : A = ((q * 2 ^ m : Nat) : Int)) (hB : B = (y : Int)) (hy : y < 2 ^ m) (hq : q * 2 ^ m + y < 4294967296) :
    IntKind.u32.wrap ((BitVec.ofInt IntKind.u32.bits A ||| BitVec.ofInt IntKind.u32.bits B).toNat : Int) = ((q * 2 ^ m + y : Nat) : Int) := by
  subst hA hB
  show IntKind.u32.wrap ((BitVec.ofInt 32 _ ||| BitVec.ofInt 32 _).toNat : Int) = _
  rw [BitVec.toNat_or, ofInt_toNat (by omega), ofInt_toNat (by omega), or_add hy]
  exact wr_u32 (by omega)
theorem band32 {A B : Int} {x m : Nat} (hA : A = (x : Int)) (hB : B = ((2 ^ m - 1 : Nat) : Int)) (hx : x < 4294967296) (hm : m ≤ 31) :
    IntKind.u32.wrap ((BitVec.ofInt IntKind.u32.bits A &&& BitVec.ofInt IntKind.u32.bits B).toNat : Int) = ((x % 2 ^ m : Nat) : Int) := by
  subst hA hB
  show IntKind.u32.wrap ((BitVec.ofInt 32 _ &&& BitVec.ofInt 32 _).toNat : Int) = _
  have h2 : 2 ^ m ≤ 2 ^ 31 := Nat.pow_le_pow_right (by decide) hm
  rw [BitVec.toNat_and, ofInt_toNat (by omega), ofInt_toNat (by omega), Nat.and_two_pow_sub_one_eq_mod]
  have := Nat.mod_lt x (Nat.two_pow_pos m)
  exact wr_u32 (by omega)
theorem band64 {A B : Int} {x m : Nat} (hA : A = (x : Int)) (hB : B = ((2 ^ m - 1 : Nat) : Int)) (hx : x < 9223372036854775808) (hm : m ≤ 62) :
    IntKind.i64.wrap ((BitVec.ofInt IntKind.i64.bits A &&& BitVec.ofInt IntKind.i64.bits B).toNat : Int) = ((x % 2 ^ m : Nat) : Int) := by
  subst hA hB
  show IntKind.i64.wrap ((BitVec.ofInt 64 _ &&& BitVec.ofInt 64 _).toNat : Int) = _
  have h2 : 2 ^ m ≤ 2 ^ 62 := Nat.pow_le_pow_right (by decide) hm
  rw [BitVec.toNat_and, ofInt_toNat (by omega), ofInt_toNat (by omega), Nat.and_two_pow_sub_one_eq_mod]
  have := Nat.mod_le x (2 ^ m)
  exact wr_i64 (by omega)
def intsV (l : List Nat) : List Value := l.map fun n : Nat => .int .i64 (n : Int)
theorem intsV_one {l : List Nat} : ∀ u ∈ intsV l, u.oneCell' = true := by
  intro u hu
  obtain ⟨b, _, rfl⟩ := List.mem_map.1 hu
  rfl
theorem intsV_at {l : List Nat} {k n : Nat} (h : l[k]? = some n) : (intsV l)[k]? = some (.int .i64 (n : Int)) := by simp [intsV, h]
theorem intsV_append (a b : List Nat) : intsV (a ++ b) = intsV a ++ intsV b := by simp [intsV]
theorem intsV_length (a : List Nat) : (intsV a).length = a.length := by simp [intsV]
/-- A growing row of numbers. -/
def OSi (e : TypeId) (v : Value) (a : List Nat) (Hs : Heap) : Prop := OS e 1 v a.length (intsV a) Hs
theorem OSi.nil {e : TypeId} : OSi e (.slice none 0 0) [] [] := OS.nil
theorem OSi.form {e : TypeId} {v : Value} {a : List Nat} {Hs : Heap} (h : OSi e v a Hs) : ∃ A c, v = .slice A a.length c := OS.form h
theorem OSi.app {e : TypeId} {v : Value} {a b : List Nat} {m : Nat} {xs : List Value} {Hs : Heap} (hm : m = b.length) (hx : xs = intsV b) (h : OS e 1 v (a.length + m) (intsV a ++ xs) Hs) : OSi e v (a ++ b) Hs := by
  subst hm hx; unfold OSi; rw [List.length_append, intsV_append]; exact h
theorem OS.room {e : TypeId} {sz : Nat} {A : Option Addr} {n c : Nat} {xs : List Value} {Hs : Heap} (h : OS e sz (.slice A n c) n xs Hs) : n ≤ c := by
  rcases h.2 with ⟨e, _, _⟩ | ⟨b, cap, cur, fz, e, h1, _⟩
  · cases e; exact Nat.le_refl _
  · cases e; exact h1
end Go.Sx
