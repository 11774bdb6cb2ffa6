/-
  Regions whose order is drawn, with loads that stand apart from the calls (over Derived/OrdersHeld.lean): the steps are told as a list, each one 'taken first' (it yields its value in every world that meets S) or 'the only one that may come up'. No conditions: for every program.
-/
import Derived.Test.YtiimcopdkjbijaaDoorSxHoist
import Derived.OrdersHeld
namespace Go.Sx
open Go.RowKit
set_option linter.unusedVariables false

section
variable {P : Program} {ops : Array Oper} {S : World → Prop} {Q : Exit → Act → World → Prop}
def QH (S : World → Prop) (T : Act → World → Prop) (Q : Exit → Act → World → Prop) : Exit → Act → World → Prop
  | .normal, a, w => S w ∧ T a w
  | e, a, w => NoDie Q e a w
def wpHeld (P : Program) (ops : Array Oper) (S : World → Prop) (Q : Exit → Act → World → Prop) : List (Oper × Bool) → Act → World → Prop
  | [], a, w => Q .normal a w
  | (o, true) :: r, a, w => S w ∧ ∃ v, YieldsIf P ops S o v a ∧ wpHeld P ops S Q r (a.put o.dst v) w
  | (o, false) :: r, a, w => wpList P ops (QH S (wpHeld P ops S Q r) Q) [o] a w
def heldB (ops : Array Oper) : List (Nat × Bool) → Array Bool → Bool
  | [], done => (Region.ready .any ops done).isEmpty
  | (k, true) :: r, done => (Region.ready .any ops done).contains k && Region.free .any ops done k && heldB ops r (done.setIfInBounds k true)
  | (k, false) :: r, done => decide (Region.ready .any ops done = [k]) && heldB ops r (done.setIfInBounds k true)
theorem wp_QH {o : Oper} {a : Act} {w : World} {T : Act → World → Prop} (h : o.wp P a w (wpList P ops (QH S T Q) []) (QH S T Q)) : o.wp P a w (fun a' w' => S w' ∧ T a' w') (NoDie Q) := by
  unfold Oper.wp at *
  generalize (execOp a.eval o).run P w = r at *
  cases r with
  | ok n w' =>
    cases n <;> simp only [Oper.upon] at h ⊢
    case value u => exact h
    case skip => exact h
    case defer d => exact h
    case enter f args =>
      refine Calls.mono h fun e w'' he => ?_
      cases e with
      | returned u => exact he
      | panicked c => exact he
      | outgrown => exact he
    case row row args => exact Rows.mono h fun u w'' he => he
  | halt x w' =>
    cases x <;> simp only [Oper.upon] at h ⊢
    case panic u => exact h
theorem held_any (hsel : Region.noSelect ops = true) : ∀ (ks : List (Nat × Bool)) (L : List (Oper × Bool)) (done : Array Bool) (a : Act) (w : World),
    ks.map (fun s => (ops[s.1]?, s.2)) = L.map (fun x => (some x.1, x.2)) → heldB ops ks done = true → wpHeld P ops S Q L a w → wpAnyH P .any ops (NoDie Q) S ks.length done a w := by
  intro ks
  induction ks with
  | nil =>
    intro L done a w hl hB h
    obtain rfl : L = [] := by simpa using hl.symm
    exact ⟨by simpa [heldB] using hB, fun c e => (by cases e), h⟩
  | cons s ks ih =>
    intro L done a w hl hB h
    rcases L with _ | ⟨⟨o, f⟩, L⟩
    · simp at hl
    obtain ⟨k, g⟩ := s
    simp only [List.map_cons, List.cons.injEq, Prod.mk.injEq] at hl
    obtain ⟨⟨h0, rfl⟩, hl⟩ := hl
    cases g with
    | true =>
      simp only [heldB, Bool.and_eq_true] at hB
      obtain ⟨hS, v, hy, hK⟩ := h
      exact wpAnyH_take h0 hsel hB.1.2 hB.1.1 (fun c a w hq => absurd rfl (hq.1 c)) hy hS (ih L _ _ w hl hB.2 hK)
    | false =>
      simp only [heldB, Bool.and_eq_true, decide_eq_true_eq] at hB
      refine ⟨fun h1 => (by rw [hB.1] at h1; cases h1), fun i hi => ?_⟩
      rw [hB.1] at hi
      obtain rfl : i = k := by simpa using hi
      have key : wpOp P ops (NoDie Q) i (fun a' w' => S w' ∧ wpHeld P ops S Q L a' w') a w := by
        unfold wpOp
        simp only [h0]
        have h' : wpList P ops (QH S (wpHeld P ops S Q L) Q) [o] a w := h
        unfold wpList at h'
        split
        · rename_i hw
          rw [if_pos hw] at h'
          rcases h' with h' | ⟨h1, h2⟩
          · exact .inl (wp_QH h')
          · exact .inr ⟨h1, h2⟩
        · rename_i hw
          rw [if_neg hw] at h'
          exact h'
      exact wpOp_mono (fun a' w' h' => ⟨h'.1, ih L _ a' w' hl hB.2 h'.2⟩) key
end

section
variable {P : Program} {ops : Array Oper} {Q : Exit → Act → World → Prop} {rest : List (Oper × Bool)} {n : Nat} {l : Env} {w w' : World} {o : Oper} {v : Value} {S : World → Prop}
/-- The walk of such a region, from a known frame. -/
def Wh (P : Program) (ops : Array Oper) (S : World → Prop) (Q : Exit → Act → World → Prop) (rest : List (Oper × Bool)) (n : Nat) (l : Env) (w : World) : Prop := ∀ a, Fr n l a → wpHeld P ops S Q rest a w
theorem Wh_nil (h : N Q .normal n l w) : Wh P ops S Q [] n l w := fun a hf => h a hf
theorem Wh_step (h : W P ops (QH S (wpHeld P ops S Q rest) Q) [o] n l w) : Wh P ops S Q ((o, false) :: rest) n l w := fun a hf => h a hf
theorem Wh_next (hS : S w) (h : Wh P ops S Q rest n l w) : N (QH S (wpHeld P ops S Q rest) Q) .normal n l w := fun a hf => ⟨hS, h a hf⟩
theorem Wh_val (hS : S w) {d : Tmp} {op : Op} {ty : TypeId} {pos : String} {af : Array Edge} (h1 : ∀ w, S w → Runs P n l { dst := some d, op := op, type := ty, pos := pos, after := af, guard := none } v w) (hd : Nat.blt d n = true)
    (h : Wh P ops S Q rest n (.cons d v l) w) : Wh P ops S Q (({ dst := some d, op := op, type := ty, pos := pos, after := af, guard := none }, true) :: rest) n l w := fun a hf =>
  ⟨hS, v, .inl ⟨by simp [Region.wanted], fun w hw => h1 w hw a hf⟩, h _ (hf.put (inb_of hd) v)⟩
theorem Wh_guard_yes {d : Option Tmp} {op : Op} {t : TypeId} {pos : String} {af : Array Edge} {j : Nat} {b : Bool} (hy : yields l ops j = some (.bool b))
    (h : Wh P ops S Q (({ dst := d, op := op, type := t, pos := pos, after := af, guard := none }, true) :: rest) n l w) :
    Wh P ops S Q (({ dst := d, op := op, type := t, pos := pos, after := af, guard := some (j, b) }, true) :: rest) n l w := by
  intro a hf
  obtain ⟨hS, v, hyy, hK⟩ := h a hf
  refine ⟨hS, v, ?_, hK⟩
  rcases hyy with ⟨_, hv⟩ | ⟨hw, rfl⟩
  · exact .inl ⟨by simp [Region.wanted, hf.yielded hy], hv⟩
  · simp [Region.wanted] at hw
theorem Wh_guard_no (hS : S w) {d : Option Tmp} {op : Op} {t : TypeId} {pos : String} {af : Array Edge} {j : Nat} {b c : Bool} (hd : inb n d = true) (hy : yields l ops j = some (.bool c)) (hc : c = !b)
    (h : Wh P ops S Q rest n (puts l d undef) w) :
    Wh P ops S Q (({ dst := d, op := op, type := t, pos := pos, after := af, guard := some (j, b) }, true) :: rest) n l w := by
  intro a hf
  exact ⟨hS, undef, .inr ⟨by simp [Region.wanted, hf.yielded hy, hc], rfl⟩, h _ (hf.put hd undef)⟩
theorem Wh_guard_un (hS : S w) {d : Option Tmp} {op : Op} {t : TypeId} {pos : String} {af : Array Edge} {j : Nat} {b : Bool} (hd : inb n d = true) (hy : yields l ops j = some undef)
    (h : Wh P ops S Q rest n (puts l d undef) w) :
    Wh P ops S Q (({ dst := d, op := op, type := t, pos := pos, after := af, guard := some (j, b) }, true) :: rest) n l w := by
  intro a hf
  exact ⟨hS, undef, .inr ⟨by simp [Region.wanted, hf.yielded_none hy], rfl⟩, h _ (hf.put hd undef)⟩
theorem Wh_guard_lit_u {f : Bool} {d : Option Tmp} {op : Op} {t : TypeId} {pos : String} {af : Array Edge} {j : Nat} {b : Bool} (hy : yields l ops j = some undef)
    (h : Wh P ops S Q (({ dst := d, op := op, type := t, pos := pos, after := af, guard := some (j, b) }, f) :: rest) n l w) :
    Wh P ops S Q (({ dst := d, op := op, type := t, pos := pos, after := af, guard := some (j, b) }, f) :: rest) n l w := h
theorem Wh_guard_lit_t {f : Bool} {d : Option Tmp} {op : Op} {t : TypeId} {pos : String} {af : Array Edge} {j : Nat} {b : Bool} (hy : yields l ops j = some (.bool true))
    (h : Wh P ops S Q (({ dst := d, op := op, type := t, pos := pos, after := af, guard := some (j, b) }, f) :: rest) n l w) :
    Wh P ops S Q (({ dst := d, op := op, type := t, pos := pos, after := af, guard := some (j, b) }, f) :: rest) n l w := h
theorem Wh_guard_lit_f {f : Bool} {d : Option Tmp} {op : Op} {t : TypeId} {pos : String} {af : Array Edge} {j : Nat} {b : Bool} (hy : yields l ops j = some (.bool false))
    (h : Wh P ops S Q (({ dst := d, op := op, type := t, pos := pos, after := af, guard := some (j, b) }, f) :: rest) n l w) :
    Wh P ops S Q (({ dst := d, op := op, type := t, pos := pos, after := af, guard := some (j, b) }, f) :: rest) n l w := h
theorem Wh_guard_split {f : Bool} {d : Option Tmp} {op : Op} {t : TypeId} {pos : String} {af : Array Edge} {j s : Nat} {b c : Bool} (hs : (ops[j]?).bind (·.dst) = some s) (hy : look l s = some (.bool c)) (hj : inb n (some s) = true)
    (h1 : c = true → Wh P ops S Q (({ dst := d, op := op, type := t, pos := pos, after := af, guard := some (j, b) }, f) :: rest) n (.cons s (.bool true) l) w)
    (h2 : c = false → Wh P ops S Q (({ dst := d, op := op, type := t, pos := pos, after := af, guard := some (j, b) }, f) :: rest) n (.cons s (.bool false) l) w) :
    Wh P ops S Q (({ dst := d, op := op, type := t, pos := pos, after := af, guard := some (j, b) }, f) :: rest) n l w := by
  intro a hf
  have key : Fr n (.cons s (.bool c) l) a := ⟨hf.size, hf.defers, fun t v ht => by
    by_cases e : t = s
    · subst e; rw [look_cons_same] at ht; rw [← ht]; exact hf.get _ _ hy
    · rw [look_cons_ne e] at ht; exact hf.get _ _ ht⟩
  cases c with
  | true => exact h1 rfl a key
  | false => exact h2 rfl a key
theorem Wh_guard_split_d {f : Bool} {d : Option Tmp} {op : Op} {t : TypeId} {pos : String} {af : Array Edge} {j s : Nat} {b : Bool} {p : Prop} {dp : Decidable p} (hs : (ops[j]?).bind (·.dst) = some s) (hy : look l s = some (.bool (@decide p dp))) (hj : inb n (some s) = true)
    (h1 : p → Wh P ops S Q (({ dst := d, op := op, type := t, pos := pos, after := af, guard := some (j, b) }, f) :: rest) n (.cons s (.bool true) l) w) (h2 : ¬ p → Wh P ops S Q (({ dst := d, op := op, type := t, pos := pos, after := af, guard := some (j, b) }, f) :: rest) n (.cons s (.bool false) l) w) : Wh P ops S Q (({ dst := d, op := op, type := t, pos := pos, after := af, guard := some (j, b) }, f) :: rest) n l w :=
  Wh_guard_split hs hy hj (fun h => h1 (of_decide_eq_true h)) (fun h => h2 (of_decide_eq_false h))
theorem Wh_guard_split_n {f : Bool} {d : Option Tmp} {op : Op} {t : TypeId} {pos : String} {af : Array Edge} {j s : Nat} {b : Bool} {p : Prop} {dp : Decidable p} (hs : (ops[j]?).bind (·.dst) = some s) (hy : look l s = some (.bool (!@decide p dp))) (hj : inb n (some s) = true)
    (h1 : ¬ p → Wh P ops S Q (({ dst := d, op := op, type := t, pos := pos, after := af, guard := some (j, b) }, f) :: rest) n (.cons s (.bool true) l) w) (h2 : p → Wh P ops S Q (({ dst := d, op := op, type := t, pos := pos, after := af, guard := some (j, b) }, f) :: rest) n (.cons s (.bool false) l) w) : Wh P ops S Q (({ dst := d, op := op, type := t, pos := pos, after := af, guard := some (j, b) }, f) :: rest) n l w :=
  Wh_guard_split hs hy hj (fun h => h1 (of_decide_eq_false (by simpa using h))) (fun h => h2 (of_decide_eq_true (by simpa using h)))
theorem Wh_guard_split_nb {f : Bool} {d : Option Tmp} {op : Op} {t : TypeId} {pos : String} {af : Array Edge} {j s : Nat} {b : Bool} {c : Bool} (hs : (ops[j]?).bind (·.dst) = some s) (hy : look l s = some (.bool (!c))) (hj : inb n (some s) = true)
    (h1 : c = false → Wh P ops S Q (({ dst := d, op := op, type := t, pos := pos, after := af, guard := some (j, b) }, f) :: rest) n (.cons s (.bool true) l) w) (h2 : c = true → Wh P ops S Q (({ dst := d, op := op, type := t, pos := pos, after := af, guard := some (j, b) }, f) :: rest) n (.cons s (.bool false) l) w) : Wh P ops S Q (({ dst := d, op := op, type := t, pos := pos, after := af, guard := some (j, b) }, f) :: rest) n l w :=
  Wh_guard_split hs hy hj (fun h => h1 (by simpa using h)) (fun h => h2 (by simpa using h))
theorem K_held {id : Nat} {L : List Oper} {w0 : World} {M F : Heap} (S : World → Prop) (ks : List (Nat × Bool)) (LS : List (Oper × Bool)) (hm : P.follows .mixedOrders = true) (hp : Hp w0 M F w) (hsel : Region.noSelect L.toArray = true)
    (hlen : ks.length = L.toArray.size) (hB : heldB L.toArray ks (Array.replicate L.toArray.size false) = true) (hk : ks.map (fun s => (L.toArray[s.1]?, s.2)) = LS.map (fun x => (some x.1, x.2)))
    (h : ∀ w', Hp w0 M F w' → Wh P L.toArray S Q LS n l w') : K P (.region id L.toArray true) Q n l w := fun a hf => by
  refine Code.wp_mono (Q := NoDie Q) (fun e a w h => h.2) ?_
  refine wp_region_held (S := S) hm ?_
  have := held_any (P := P) (S := S) (Q := Q) hsel ks LS _ a _ hk hB (h w.drew hp.drew a hf)
  rwa [hlen] at this
theorem K_heldp {id : Nat} {L : List Oper} {w0 : World} {M F : Heap} (ks : List (Nat × Bool)) (LS : List (Oper × Bool)) (hm : P.follows .mixedOrders = true) (hp : Hp w0 M F w) (hsel : Region.noSelect L.toArray = true)
    (hlen : ks.length = L.toArray.size) (hB : heldB L.toArray ks (Array.replicate L.toArray.size false) = true) (hk : ks.map (fun s => (L.toArray[s.1]?, s.2)) = LS.map (fun x => (some x.1, x.2)))
    (h : ∀ w', Hp w0 M F w' → Wh P L.toArray (Hp w0 M F) Q LS n l w') : K P (.region id L.toArray true) Q n l w := K_held (Hp w0 M F) ks LS hm hp hsel hlen hB hk h
end
end Go.Sx
