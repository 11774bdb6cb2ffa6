/-
  Regions whose order is drawn: a quiet head (each operation yields one value in every world of a class and stays in the class), walked once in the text's order; then a tail that waits for all of the head. No conditions: for every program.
-/
import Derived.Test.YticinfoljhlnbaaGreatDoorSxMem
import Derived.StillTail
import Derived.Deep.Quiet
namespace Go.Sx
open Go.RowKit
set_option linter.unusedVariables false

section
variable {P : Program} {ops : Array Oper} {C : World → Prop}

/-- Head operations alone, in whatever order; then T. -/
def Heads (P : Program) (ops : Array Oper) (C : World → Prop) (n : Nat) (T : Array Bool → Act → Prop) : Nat → Array Bool → Act → Prop
  | 0, done, a => T done a
  | f + 1, done, a => Region.ready .any ops done ≠ [] ∧ ∀ i ∈ Region.ready .any ops done, i < n ∧ qOp P ops C i (Heads P ops C n T f (done.setIfInBounds i true)) a

theorem Heads.any {n g : Nat} {T : Array Bool → Act → Prop} {Q : Exit → Act → World → Prop} (hT : ∀ done a w, C w → T done a → wpAny P .any ops Q g done a w) (f : Nat) :
    ∀ (done : Array Bool) (a : Act) (w : World), C w → Heads P ops C n T f done a → wpAny P .any ops Q (f + g) done a w := by
  induction f with
  | zero => intro done a w hw h; simpa using hT done a w hw h
  | succ f ih =>
    intro done a w hw h
    have e : f + 1 + g = (f + g) + 1 := by omega
    rw [e]
    refine ⟨fun h0 => (h.1 h0).elim, fun i hi => ?_⟩
    exact wpOp_of_qOp hw (fun a' w' hw' h' => ih _ a' w' hw' h') (h.2 i hi).2

/-- One that may come now may be taken to come first. -/
theorem Heads.first {n i : Nat} {oi : Oper} {v : Value} {T : Array Bool → Act → Prop} (hi : ops[i]? = some oi) (hsel : ∀ (j : Nat) (o : Oper) cs b, ops[j]? = some o → o.op ≠ .select cs b)
    (hs : Region.sinkB .any ops n = true) (hc : Region.chainB .any ops n = true) (hn : n < ops.size) (hin : i < n) (hT : ∀ done a, T done a → ∀ j ∈ Region.ready .any ops done, n ≤ j) (f : Nat) :
    ∀ (done : Array Bool) (a : Act), HeadInv .any ops n done →
      (∀ j oj, ops[j]? = some oj → j ≠ i → done.getD j true = false → (∀ e ∈ oj.after, Region.binds .any e = true → e.on ≠ i) → oi.apart ops oj = true) →
      i ∈ Region.ready .any ops done → YieldsIn P ops C oi v a → Heads P ops C n T f (done.setIfInBounds i true) (a.put oi.dst v) → Heads P ops C n T (f + 1) done a := by
  induction f with
  | zero =>
    intro done a inv _ hr hy h
    have hbelow : ∀ j ∈ Region.ready .any ops done, j < n := fun j hj => Nat.lt_of_not_le fun hle => tail_waits hs hc hn inv _ i rfl hin (mem_ready.1 hr).1 j hle hj
    refine ⟨fun h0 => ?_, fun j hj => ⟨hbelow j hj, ?_⟩⟩
    · rw [h0] at hr; simp at hr
    · rcases Nat.decEq j i with hne | heq
      · exact absurd (hT _ _ h j (ready_mono hj hne)) (Nat.not_le.2 (hbelow j hj))
      · subst heq; exact hy.qOp hi h
  | succ f ih =>
    intro done a inv hfree hr hy h
    have hun := (mem_ready.1 hr).1
    have hbelow : ∀ j ∈ Region.ready .any ops done, j < n := fun j hj => Nat.lt_of_not_le fun hle => tail_waits hs hc hn inv _ i rfl hin hun j hle hj
    refine ⟨fun h0 => ?_, fun j hj => ⟨hbelow j hj, ?_⟩⟩
    · rw [h0] at hr; simp at hr
    · rcases Nat.decEq j i with hne | heq
      · obtain ⟨hjun, oj, hoj, hall⟩ := mem_ready.1 hj
        have hwait : ∀ e ∈ oj.after, Region.binds .any e = true → e.on ≠ i := by
          intro e he hb hon
          have hd := hall e he hb
          rw [hon, getD_both hun] at hd
          exact Bool.noConfusion hd
        have step := qOp_put hoj (hfree j oj hoj hne hjun hwait) (fun cs b => hsel i oi cs b hi) (fun cs b => hsel j oj cs b hoj) hy (h.2 j (ready_mono hj hne)).2
        refine qOp_mono (fun a' h' => ?_) step
        refine ih (done.setIfInBounds j true) a' (inv.set hj (hbelow j hj)) (fun k ok hk hki hku hkw => hfree k ok hk hki ?_ hkw) (ready_mono hr (Ne.symm hne)) h'.1 ?_
        · rcases Nat.decEq j k with hjk | hjk
          · rwa [getD_set_ne true hjk] at hku
          · subst hjk; exact hjun
        · have := h'.2; rwa [Array.setIfInBounds_comm _ _ (Ne.symm hne)] at this
      · subst heq; exact hy.qOp hi h

theorem Heads.lex {n g : Nat} {Z : Act → Prop} (hsel : Region.noSelect ops = true) (hs : Region.sinkB .any ops n = true) (hc : Region.chainB .any ops n = true) (hn : n < ops.size) :
    ∀ (L : List Oper) (k : Nat) (done : Array Bool) (a : Act), (∀ j, j < L.length → L[j]? = ops[k + j]?) → k + L.length = n → HeadInv .any ops n done →
      Region.lexHead .any ops g L.length k done = true → wpQuiet P ops C Z L a → Heads P ops C n (fun d a' => Region.seqB .any ops g n d = true ∧ Z a') L.length done a := by
  intro L
  induction L with
  | nil =>
    intro k done a _ hk _ hB h
    obtain rfl : k = n := hk
    exact ⟨hB, h⟩
  | cons o L ih =>
    intro k done a hl hk inv hB h
    have h0 : ops[k]? = some o := (hl 0 (Nat.succ_pos _)).symm
    simp only [List.length_cons, Region.lexHead, Bool.and_eq_true] at hB hk
    have hkn : k < n := by omega
    have hr : k ∈ Region.ready .any ops done := List.contains_iff_mem.1 hB.1.1
    have hst : qOp P ops C k (wpQuiet P ops C Z L) a := by
      unfold qOp; rw [h0]; exact h
    obtain ⟨v, hy, hK⟩ := yieldsIn_of_qOp h0 hst
    refine Heads.first h0 (Region.noSelect_spec hsel) hs hc hn hkn (fun d a' hL => seqB_ready hL.1) L.length done a inv (Region.free_spec h0 hB.1.2) hr hy ?_
    refine ih (k + 1) _ _ (fun j hj => ?_) (by omega) (inv.set hr hkn) hB.2 hK
    have := hl (j + 1) (Nat.succ_lt_succ hj)
    rwa [List.getElem?_cons_succ, show k + (j + 1) = k + 1 + j by omega] at this

theorem wp_quiet_tail {id : Nat} {Q : Exit → Act → World → Prop} {a : Act} {w : World} {L : List Oper} (n : Nat) (hm : P.follows .mixedOrders = true) (hB : Region.lexTailB .any L.toArray n = true) (hC : C w.drew)
    (h : wpQuiet P L.toArray C (fun a' => ∀ w', C w' → wpList P L.toArray Q (L.drop n) a' w') (L.take n) a) : (Code.region id L.toArray true).wp P Q a w := by
  simp only [Region.lexTailB, Bool.and_eq_true, decide_eq_true_eq] at hB
  obtain ⟨⟨⟨⟨hsel, hn⟩, hs⟩, hc⟩, hlex⟩ := hB
  have hlt : n < L.length := by simpa using hn
  have hA : (L.take n).length = n := by simp; omega
  have hD : (L.drop n).length = L.length - n := by simp
  refine wp_region_any hm ?_
  have inv0 : HeadInv .any L.toArray n (Array.replicate L.toArray.size false) :=
    ⟨by simp, fun j oj _ hl => Bool.noConfusion ((getD_replicate_false _ _).symm.trans hl), fun t _ ht => getD_in (by simpa using ht) (getD_replicate_false _ _)⟩
  have key := Heads.lex (P := P) (C := C) (g := (L.drop n).length) (Z := fun a' => ∀ w', C w' → wpList P L.toArray Q (L.drop n) a' w') hsel hs hc hn (L.take n) 0 _ a
    (fun j hj => by rw [hA] at hj; simp [List.getElem?_take_of_lt hj]) (by simpa using hA) inv0 (by rw [hA, hD]; simpa using hlex) h
  have fin := Heads.any (Q := Q) (g := (L.drop n).length) (fun d a' w' hw' hT =>
    wpAny_of_seq (L.drop n) n d a' w' (fun j => by simp) hT.1 (hT.2 w' hw')) _ _ _ _ hC key
  have e : (L.take n).length + (L.drop n).length = L.toArray.size := by rw [hA, hD]; simp; omega
  rwa [e] at fin
end

/-! The quiet walk, from a known frame. -/
def Wq (P : Program) (ops : Array Oper) (C : World → Prop) (Z : Act → Prop) (rest : List Oper) (n : Nat) (l : Env) : Prop := ∀ a, Fr n l a → wpQuiet P ops C Z rest a
section
variable {P : Program} {ops : Array Oper} {Q : Exit → Act → World → Prop} {rest : List Oper} {n : Nat} {l : Env} {w w' : World} {o : Oper} {v : Value} {C : World → Prop} {Z : Act → Prop}
theorem Wq_nil (h : ∀ a, Fr n l a → Z a) : Wq P ops C Z [] n l := fun a hf => h a hf
theorem Wq_val {d : Tmp} {op : Op} {ty : TypeId} {pos : String} {af : Array Edge} (h1 : ∀ w, C w → Runs P n l { dst := some d, op := op, type := ty, pos := pos, after := af, guard := none } v w) (hd : Nat.blt d n = true)
    (h : Wq P ops C Z rest n (.cons d v l)) : Wq P ops C Z ({ dst := some d, op := op, type := ty, pos := pos, after := af, guard := none } :: rest) n l := by
  intro a hf
  unfold wpQuiet
  rw [if_pos (by simp [Region.wanted])]
  refine ⟨v, fun w hw => ?_, h _ (hf.put (inb_of hd) v)⟩
  unfold Oper.quietAt
  rw [h1 w hw a hf]
  exact ⟨rfl, rfl⟩
theorem Wq_call {d : Tmp} {ty : TypeId} {pos : String} {af : Array Edge} {x : Operand} {xs : List Operand} {ts : Array TypeId} {fv : Value} {vs : List Value} (hx : ev l x = some fv) (hxs : evs l xs = some vs) (hd : Nat.blt d n = true)
    (hc : ∀ w, C w → CallV P fv vs w fun u w' => u = v ∧ C w') (h : Wq P ops C Z rest n (.cons d v l)) :
    Wq P ops C Z ({ dst := some d, op := .call { callee := .value x, args := xs.toArray, argTypes := ts }, type := ty, pos := pos, after := af, guard := none } :: rest) n l := by
  intro a hf
  unfold wpQuiet
  rw [if_pos (by simp [Region.wanted])]
  refine ⟨v, fun w hw => ?_, h _ (hf.put (inb_of hd) v)⟩
  obtain ⟨f, A, c, rfl, h2, h3⟩ := hc w hw
  have e : xs.toArray.map a.eval = vs.toArray := by simp [hf.evals hxs]
  have hrun : (execOp a.eval { dst := some d, op := .call { callee := .value x, args := xs.toArray, argTypes := ts }, type := ty, pos := pos, after := af, guard := none }).run P w = .ok (.enter f (A ++ vs.toArray ++ c)) w := by
    simp [execOp, resolve, Deferred.ofValue, hf.eval hx, e, invoke, run_callFunc h2]
  unfold Oper.quietAt
  rw [hrun]
  refine ⟨rfl, h3.mono ?_⟩
  rintro e w' ⟨u, rfl, rfl, hC⟩
  exact ⟨rfl, hC⟩
theorem Wq_guard_yes {d : Option Tmp} {op : Op} {t : TypeId} {pos : String} {af : Array Edge} {j : Nat} {b : Bool} (hy : yields l ops j = some (.bool b))
    (h : Wq P ops C Z ({ dst := d, op := op, type := t, pos := pos, after := af, guard := none } :: rest) n l) :
    Wq P ops C Z ({ dst := d, op := op, type := t, pos := pos, after := af, guard := some (j, b) } :: rest) n l := by
  intro a hf
  have h := h a hf
  unfold wpQuiet at h ⊢
  rw [if_pos (by simp [Region.wanted])] at h
  rw [if_pos (by simp [Region.wanted, hf.yielded hy])]
  exact h
theorem Wq_guard_no {d : Option Tmp} {op : Op} {t : TypeId} {pos : String} {af : Array Edge} {j : Nat} {b c : Bool} (hd : inb n d = true) (hy : yields l ops j = some (.bool c)) (hc : c = !b)
    (h : Wq P ops C Z rest n (puts l d undef)) :
    Wq P ops C Z ({ dst := d, op := op, type := t, pos := pos, after := af, guard := some (j, b) } :: rest) n l := by
  intro a hf
  unfold wpQuiet
  rw [if_neg (by simp [Region.wanted, hf.yielded hy, hc])]
  exact h _ (hf.put hd undef)
theorem Wq_guard_un {d : Option Tmp} {op : Op} {t : TypeId} {pos : String} {af : Array Edge} {j : Nat} {b : Bool} (hd : inb n d = true) (hy : yields l ops j = some undef)
    (h : Wq P ops C Z rest n (puts l d undef)) :
    Wq P ops C Z ({ dst := d, op := op, type := t, pos := pos, after := af, guard := some (j, b) } :: rest) n l := by
  intro a hf
  unfold wpQuiet
  rw [if_neg (by simp [Region.wanted, hf.yielded_none hy])]
  exact h _ (hf.put hd undef)
theorem Wq_guard_lit_u {d : Option Tmp} {op : Op} {t : TypeId} {pos : String} {af : Array Edge} {j : Nat} {b : Bool} (hy : yields l ops j = some undef)
    (h : Wq P ops C Z ({ dst := d, op := op, type := t, pos := pos, after := af, guard := some (j, b) } :: rest) n l) :
    Wq P ops C Z ({ dst := d, op := op, type := t, pos := pos, after := af, guard := some (j, b) } :: rest) n l := h
theorem Wq_guard_lit_t {d : Option Tmp} {op : Op} {t : TypeId} {pos : String} {af : Array Edge} {j : Nat} {b : Bool} (hy : yields l ops j = some (.bool true))
    (h : Wq P ops C Z ({ dst := d, op := op, type := t, pos := pos, after := af, guard := some (j, b) } :: rest) n l) :
    Wq P ops C Z ({ dst := d, op := op, type := t, pos := pos, after := af, guard := some (j, b) } :: rest) n l := h
theorem Wq_guard_lit_f {d : Option Tmp} {op : Op} {t : TypeId} {pos : String} {af : Array Edge} {j : Nat} {b : Bool} (hy : yields l ops j = some (.bool false))
    (h : Wq P ops C Z ({ dst := d, op := op, type := t, pos := pos, after := af, guard := some (j, b) } :: rest) n l) :
    Wq P ops C Z ({ dst := d, op := op, type := t, pos := pos, after := af, guard := some (j, b) } :: rest) n l := h
theorem Wq_guard_split {d : Option Tmp} {op : Op} {t : TypeId} {pos : String} {af : Array Edge} {j s : Nat} {b c : Bool} (hs : (ops[j]?).bind (·.dst) = some s) (hy : look l s = some (.bool c)) (hj : inb n (some s) = true)
    (h1 : c = true → Wq P ops C Z ({ dst := d, op := op, type := t, pos := pos, after := af, guard := some (j, b) } :: rest) n (.cons s (.bool true) l))
    (h2 : c = false → Wq P ops C Z ({ dst := d, op := op, type := t, pos := pos, after := af, guard := some (j, b) } :: rest) n (.cons s (.bool false) l)) :
    Wq P ops C Z ({ dst := d, op := op, type := t, pos := pos, after := af, guard := some (j, b) } :: rest) n l := by
  intro a hf
  have key : Fr n (.cons s (.bool c) l) a := ⟨hf.size, hf.defers, fun t v ht => by
    by_cases e : t = s
    · subst e; rw [look_cons_same] at ht; rw [← ht]; exact hf.get _ _ hy
    · rw [look_cons_ne e] at ht; exact hf.get _ _ ht⟩
  cases c with
  | true => exact h1 rfl a key
  | false => exact h2 rfl a key

theorem Wq_guard_split_d {d : Option Tmp} {op : Op} {t : TypeId} {pos : String} {af : Array Edge} {j s : Nat} {b : Bool} {p : Prop} {dp : Decidable p} (hs : (ops[j]?).bind (·.dst) = some s) (hy : look l s = some (.bool (@decide p dp))) (hj : inb n (some s) = true)
    (h1 : p → Wq P ops C Z ({ dst := d, op := op, type := t, pos := pos, after := af, guard := some (j, b) } :: rest) n (.cons s (.bool true) l)) (h2 : ¬ p → Wq P ops C Z ({ dst := d, op := op, type := t, pos := pos, after := af, guard := some (j, b) } :: rest) n (.cons s (.bool false) l)) : Wq P ops C Z ({ dst := d, op := op, type := t, pos := pos, after := af, guard := some (j, b) } :: rest) n l :=
  Wq_guard_split hs hy hj (fun h => h1 (of_decide_eq_true h)) (fun h => h2 (of_decide_eq_false h))
theorem Wq_guard_split_n {d : Option Tmp} {op : Op} {t : TypeId} {pos : String} {af : Array Edge} {j s : Nat} {b : Bool} {p : Prop} {dp : Decidable p} (hs : (ops[j]?).bind (·.dst) = some s) (hy : look l s = some (.bool (!@decide p dp))) (hj : inb n (some s) = true)
    (h1 : ¬ p → Wq P ops C Z ({ dst := d, op := op, type := t, pos := pos, after := af, guard := some (j, b) } :: rest) n (.cons s (.bool true) l)) (h2 : p → Wq P ops C Z ({ dst := d, op := op, type := t, pos := pos, after := af, guard := some (j, b) } :: rest) n (.cons s (.bool false) l)) : Wq P ops C Z ({ dst := d, op := op, type := t, pos := pos, after := af, guard := some (j, b) } :: rest) n l :=
  Wq_guard_split hs hy hj (fun h => h1 (of_decide_eq_false (by simpa using h))) (fun h => h2 (of_decide_eq_true (by simpa using h)))
theorem Wq_guard_split_nb {d : Option Tmp} {op : Op} {t : TypeId} {pos : String} {af : Array Edge} {j s : Nat} {b : Bool} {c : Bool} (hs : (ops[j]?).bind (·.dst) = some s) (hy : look l s = some (.bool (!c))) (hj : inb n (some s) = true)
    (h1 : c = false → Wq P ops C Z ({ dst := d, op := op, type := t, pos := pos, after := af, guard := some (j, b) } :: rest) n (.cons s (.bool true) l)) (h2 : c = true → Wq P ops C Z ({ dst := d, op := op, type := t, pos := pos, after := af, guard := some (j, b) } :: rest) n (.cons s (.bool false) l)) : Wq P ops C Z ({ dst := d, op := op, type := t, pos := pos, after := af, guard := some (j, b) } :: rest) n l :=
  Wq_guard_split hs hy hj (fun h => h1 (by simpa using h)) (fun h => h2 (by simpa using h))

/-- A region that draws, all of it quiet: the class of worlds is 'what is known of the memory'. -/
theorem K_quiet {id : Nat} {L : List Oper} {w0 : World} {M F : Heap} (hm : P.follows .mixedOrders = true) (hp : Hp w0 M F w) (hB : Region.lexB .any L.toArray = true)
    (h : Wq P L.toArray (Hp w0 M F) (fun a' => ∀ w', Hp w0 M F w' → Q .normal a' w') L n l) : K P (.region id L.toArray true) Q n l w := fun a hf =>
  wp_region_quiet (C := Hp w0 M F) hm hB hp.drew (by simpa using h a hf)
theorem Wq_end {w0 : World} {M F : Heap} (h : ∀ w', Hp w0 M F w' → N Q .normal n l w') : Wq P ops C (fun a' => ∀ w', Hp w0 M F w' → Q .normal a' w') [] n l := fun a hf w' hw' => h w' hw' a hf
theorem K_quiet_tail {id : Nat} {A B : List Oper} {w0 : World} {M F : Heap} (hm : P.follows .mixedOrders = true) (hp : Hp w0 M F w) {C : World → Prop} (hC : C w.drew) (hB : Region.lexTailB .any (A ++ B).toArray A.length = true)
    (h : Wq P (A ++ B).toArray C (fun a' => ∀ w', C w' → wpList P (A ++ B).toArray Q B a' w') A n l) : K P (.region id (A ++ B).toArray true) Q n l w := fun a hf =>
  wp_quiet_tail (C := C) A.length hm hB hC (by simpa using h a hf)
theorem Wq_tail {B : List Oper} (h : ∀ w', C w' → W P ops Q B n l w') : Wq P ops C (fun a' => ∀ w', C w' → wpList P ops Q B a' w') [] n l := fun a hf w' hw' => h w' hw' a hf
end
end Go.Sx
