/-
  Regions whose order is drawn, with loads that stand apart from the calls (over Derived/OrdersHeld.lean): the steps are told as a list, each one 'taken first' (it yields its value in every world that meets S) or 'the only one that may come up'. No conditions: for every program.
-/
import Derived.Test.YticinfoljhlnbaaGreatDoorSxHoist
import Derived.OrdersHeld
namespace Go.Sx
open Go.RowKit
set_option linter.unusedVariables false

section
variable {P : Program} {ops : Array Oper} {S : World → Prop} {Q : Exit → Act → World → Prop}
def QH (S : World → Prop) (T : Act → World → Prop) (Q : Exit → Act → World → Prop) : Exit → Act → World → Prop
  | .normal, a, w => S w ∧ T a w
  | e, a, w => NoDie Q e a w
/-- The plan of a walk: numbers, and operations. -/
inductive KP where
  | done
  | first (k : Nat) (r : KP)
  | only (k : Nat) (r : KP)
  | two (k : Nat) (r : KP) (k' : Nat) (r' : KP)
  | three (k : Nat) (r : KP) (k' : Nat) (r' : KP) (k'' : Nat) (r'' : KP)
inductive HP where
  | done
  | first (o : Oper) (r : HP)
  | only (o : Oper) (r : HP)
  | two (o : Oper) (r : HP) (o' : Oper) (r' : HP)
  | three (o : Oper) (r : HP) (o' : Oper) (r' : HP) (o'' : Oper) (r'' : HP)
inductive OkT (ops : Array Oper) : KP → HP → Prop where
  | done : OkT ops .done .done
  | first {k : Nat} {o : Oper} {r : KP} {q : HP} (h : ops[k]? = some o) (t : OkT ops r q) : OkT ops (.first k r) (.first o q)
  | only {k : Nat} {o : Oper} {r : KP} {q : HP} (h : ops[k]? = some o) (t : OkT ops r q) : OkT ops (.only k r) (.only o q)
  | two {k k' : Nat} {o o' : Oper} {r r' : KP} {q q' : HP} (h : ops[k]? = some o) (t : OkT ops r q) (h' : ops[k']? = some o') (t' : OkT ops r' q') : OkT ops (.two k r k' r') (.two o q o' q')
  | three {k k' k'' : Nat} {o o' o'' : Oper} {r r' r'' : KP} {q q' q'' : HP} (h : ops[k]? = some o) (t : OkT ops r q) (h' : ops[k']? = some o') (t' : OkT ops r' q') (h'' : ops[k'']? = some o'') (t'' : OkT ops r'' q'') : OkT ops (.three k r k' r' k'' r'') (.three o q o' q' o'' q'')
def wpHeld (P : Program) (ops : Array Oper) (S : World → Prop) (Q : Exit → Act → World → Prop) : HP → Act → World → Prop
  | .done, a, w => Q .normal a w
  | .first o r, a, w => S w ∧ ∃ v, YieldsIf P ops S o v a ∧ wpHeld P ops S Q r (a.put o.dst v) w
  | .only o r, a, w => wpList P ops (QH S (wpHeld P ops S Q r) Q) [o] a w
  | .two o r o' r', a, w => wpList P ops (QH S (wpHeld P ops S Q r) Q) [o] a w ∧ wpList P ops (QH S (wpHeld P ops S Q r') Q) [o'] a w
  | .three o r o' r' o'' r'', a, w => wpList P ops (QH S (wpHeld P ops S Q r) Q) [o] a w ∧ wpList P ops (QH S (wpHeld P ops S Q r') Q) [o'] a w ∧ wpList P ops (QH S (wpHeld P ops S Q r'') Q) [o''] a w
def heldB (ops : Array Oper) : KP → Nat → Array Bool → Bool
  | .done, 0, done => (Region.ready .any ops done).isEmpty
  | .first k r, f + 1, done => (Region.ready .any ops done).contains k && Region.free .any ops done k && heldB ops r f (done.setIfInBounds k true)
  | .only k r, f + 1, done => decide (Region.ready .any ops done = [k]) && heldB ops r f (done.setIfInBounds k true)
  | .two k r k' r', f + 1, done => decide (Region.ready .any ops done = [k, k']) && heldB ops r f (done.setIfInBounds k true) && heldB ops r' f (done.setIfInBounds k' true)
  | .three k r k' r' k'' r'', f + 1, done => decide (Region.ready .any ops done = [k, k', k'']) && heldB ops r f (done.setIfInBounds k true) && heldB ops r' f (done.setIfInBounds k' true) && heldB ops r'' f (done.setIfInBounds k'' true)
  | _, _, _ => false
theorem wp_QH {o : Oper} {a : Act} {w : World} {T : Act → World → Prop} (h : o.wp P a w (wpList P ops (QH S T Q) []) (QH S T Q)) : o.wp P a w (fun a' w' => S w' ∧ T a' w') (NoDie Q) := by
  unfold Oper.wp at *
  generalize (execOp a.eval o).run P w = r at *
  cases r with
  | ok n w' =>
    cases n <;> simp only [Oper.upon] at h ⊢
    case value u => exact h
    case skip => exact h
    case defer d => exact h
    case enter f args =>
      refine Calls.mono h fun e w'' he => ?_
      cases e with
      | returned u => exact he
      | panicked c => exact he
      | outgrown => exact he
    case row row args => exact Rows.mono h fun u w'' he => he
  | halt x w' =>
    cases x <;> simp only [Oper.upon] at h ⊢
    case panic u => exact h
theorem wpOp_QH {i : Nat} {o : Oper} {a : Act} {w : World} {T : Act → World → Prop} (h0 : ops[i]? = some o) (h : wpList P ops (QH S T Q) [o] a w) : wpOp P ops (NoDie Q) i (fun a' w' => S w' ∧ T a' w') a w := by
  unfold wpOp
  simp only [h0]
  unfold wpList at h
  split
  · rename_i hw
    rw [if_pos hw] at h
    rcases h with h | ⟨h1, h2⟩
    · exact .inl (wp_QH h)
    · exact .inr ⟨h1, h2⟩
  · rename_i hw
    rw [if_neg hw] at h
    exact h
theorem held_any (hsel : Region.noSelect ops = true) {kp : KP} {hp : HP} (hok : OkT ops kp hp) : ∀ (f : Nat) (done : Array Bool) (a : Act) (w : World),
    heldB ops kp f done = true → wpHeld P ops S Q hp a w → wpAnyH P .any ops (NoDie Q) S f done a w := by
  induction hok with
  | done =>
    intro f done a w hB h
    cases f with
    | zero => exact ⟨by simpa [heldB] using hB, fun c e => (by cases e), h⟩
    | succ f => simp [heldB] at hB
  | first h0 t ih =>
    intro f done a w hB h
    cases f with
    | zero => simp [heldB] at hB
    | succ f =>
      simp only [heldB, Bool.and_eq_true] at hB
      obtain ⟨hS, v, hy, hK⟩ := h
      exact wpAnyH_take h0 hsel hB.1.2 hB.1.1 (fun c a w hq => absurd rfl (hq.1 c)) hy hS (ih f _ _ w hB.2 hK)
  | only h0 t ih =>
    intro f done a w hB h
    cases f with
    | zero => simp [heldB] at hB
    | succ f =>
      simp only [heldB, Bool.and_eq_true, decide_eq_true_eq] at hB
      refine ⟨fun h1 => (by rw [hB.1] at h1; cases h1), fun i hi => ?_⟩
      rw [hB.1] at hi
      obtain rfl := List.mem_singleton.1 hi
      exact wpOp_mono (fun a' w' h' => ⟨h'.1, ih f _ a' w' hB.2 h'.2⟩) (wpOp_QH h0 h)
  | two h0 t h0' t' ih ih' =>
    intro f done a w hB h
    cases f with
    | zero => simp [heldB] at hB
    | succ f =>
      simp only [heldB, Bool.and_eq_true, decide_eq_true_eq] at hB
      refine ⟨fun h1 => (by rw [hB.1.1] at h1; cases h1), fun i hi => ?_⟩
      rw [hB.1.1] at hi
      rcases List.mem_cons.1 hi with rfl | hi
      · exact wpOp_mono (fun a' w' h' => ⟨h'.1, ih f _ a' w' hB.1.2 h'.2⟩) (wpOp_QH h0 h.1)
      · obtain rfl := List.mem_singleton.1 hi
        exact wpOp_mono (fun a' w' h' => ⟨h'.1, ih' f _ a' w' hB.2 h'.2⟩) (wpOp_QH h0' h.2)
  | three h0 t h0' t' h0'' t'' ih ih' ih'' =>
    intro f done a w hB h
    cases f with
    | zero => simp [heldB] at hB
    | succ f =>
      simp only [heldB, Bool.and_eq_true, decide_eq_true_eq] at hB
      refine ⟨fun h1 => (by rw [hB.1.1.1] at h1; cases h1), fun i hi => ?_⟩
      rw [hB.1.1.1] at hi
      rcases List.mem_cons.1 hi with rfl | hi
      · exact wpOp_mono (fun a' w' h' => ⟨h'.1, ih f _ a' w' hB.1.1.2 h'.2⟩) (wpOp_QH h0 h.1)
      · rcases List.mem_cons.1 hi with rfl | hi
        · exact wpOp_mono (fun a' w' h' => ⟨h'.1, ih' f _ a' w' hB.1.2 h'.2⟩) (wpOp_QH h0' h.2.1)
        · obtain rfl := List.mem_singleton.1 hi
          exact wpOp_mono (fun a' w' h' => ⟨h'.1, ih'' f _ a' w' hB.2 h'.2⟩) (wpOp_QH h0'' h.2.2)
end

section
variable {P : Program} {ops : Array Oper} {Q : Exit → Act → World → Prop} {rest rest' rest'' : HP} {n : Nat} {l : Env} {w w' : World} {o o' o'' : Oper} {v : Value} {S : World → Prop}
/-- The walk of such a region, from a known frame. -/
def Wh (P : Program) (ops : Array Oper) (S : World → Prop) (Q : Exit → Act → World → Prop) (rest : HP) (n : Nat) (l : Env) (w : World) : Prop := ∀ a, Fr n l a → wpHeld P ops S Q rest a w
theorem Wh_nil (h : N Q .normal n l w) : Wh P ops S Q .done n l w := fun a hf => h a hf
theorem Wh_step (h : W P ops (QH S (wpHeld P ops S Q rest) Q) [o] n l w) : Wh P ops S Q (.only o rest) n l w := fun a hf => h a hf
theorem Wh_two (h : W P ops (QH S (wpHeld P ops S Q rest) Q) [o] n l w) (h' : W P ops (QH S (wpHeld P ops S Q rest') Q) [o'] n l w) : Wh P ops S Q (.two o rest o' rest') n l w := fun a hf => ⟨h a hf, h' a hf⟩
theorem Wh_three (h : W P ops (QH S (wpHeld P ops S Q rest) Q) [o] n l w) (h' : W P ops (QH S (wpHeld P ops S Q rest') Q) [o'] n l w) (h'' : W P ops (QH S (wpHeld P ops S Q rest'') Q) [o''] n l w) : Wh P ops S Q (.three o rest o' rest' o'' rest'') n l w := fun a hf => ⟨h a hf, h' a hf, h'' a hf⟩
theorem Wh_next (hS : S w) (h : Wh P ops S Q rest n l w) : N (QH S (wpHeld P ops S Q rest) Q) .normal n l w := fun a hf => ⟨hS, h a hf⟩
theorem Wh_val (hS : S w) {d : Tmp} {op : Op} {ty : TypeId} {pos : String} {af : Array Edge} (h1 : ∀ w, S w → Runs P n l { dst := some d, op := op, type := ty, pos := pos, after := af, guard := none } v w) (hd : Nat.blt d n = true)
    (h : Wh P ops S Q rest n (.cons d v l) w) : Wh P ops S Q (.first { dst := some d, op := op, type := ty, pos := pos, after := af, guard := none } rest) n l w := fun a hf =>
  ⟨hS, v, .inl ⟨by simp [Region.wanted], fun w hw => h1 w hw a hf⟩, h _ (hf.put (inb_of hd) v)⟩
theorem Wh_guard_yes {d : Option Tmp} {op : Op} {t : TypeId} {pos : String} {af : Array Edge} {j : Nat} {b : Bool} (hy : yields l ops j = some (.bool b))
    (h : Wh P ops S Q (.first { dst := d, op := op, type := t, pos := pos, after := af, guard := none } rest) n l w) :
    Wh P ops S Q (.first { dst := d, op := op, type := t, pos := pos, after := af, guard := some (j, b) } rest) n l w := by
  intro a hf
  obtain ⟨hS, v, hyy, hK⟩ := h a hf
  refine ⟨hS, v, ?_, hK⟩
  rcases hyy with ⟨_, hv⟩ | ⟨hw, rfl⟩
  · exact .inl ⟨by simp [Region.wanted, hf.yielded hy], hv⟩
  · simp [Region.wanted] at hw
theorem Wh_guard_no (hS : S w) {d : Option Tmp} {op : Op} {t : TypeId} {pos : String} {af : Array Edge} {j : Nat} {b c : Bool} (hd : inb n d = true) (hy : yields l ops j = some (.bool c)) (hc : c = !b)
    (h : Wh P ops S Q rest n (puts l d undef) w) :
    Wh P ops S Q (.first { dst := d, op := op, type := t, pos := pos, after := af, guard := some (j, b) } rest) n l w := by
  intro a hf
  exact ⟨hS, undef, .inr ⟨by simp [Region.wanted, hf.yielded hy, hc], rfl⟩, h _ (hf.put hd undef)⟩
theorem Wh_guard_un (hS : S w) {d : Option Tmp} {op : Op} {t : TypeId} {pos : String} {af : Array Edge} {j : Nat} {b : Bool} (hd : inb n d = true) (hy : yields l ops j = some undef)
    (h : Wh P ops S Q rest n (puts l d undef) w) :
    Wh P ops S Q (.first { dst := d, op := op, type := t, pos := pos, after := af, guard := some (j, b) } rest) n l w := by
  intro a hf
  exact ⟨hS, undef, .inr ⟨by simp [Region.wanted, hf.yielded_none hy], rfl⟩, h _ (hf.put hd undef)⟩
theorem Wh_guard_lit_u {d : Option Tmp} {op : Op} {t : TypeId} {pos : String} {af : Array Edge} {j : Nat} {b : Bool} (hy : yields l ops j = some undef)
    (h : Wh P ops S Q (.first { dst := d, op := op, type := t, pos := pos, after := af, guard := some (j, b) } rest) n l w) :
    Wh P ops S Q (.first { dst := d, op := op, type := t, pos := pos, after := af, guard := some (j, b) } rest) n l w := h
theorem Wh_guard_lit_t {d : Option Tmp} {op : Op} {t : TypeId} {pos : String} {af : Array Edge} {j : Nat} {b : Bool} (hy : yields l ops j = some (.bool true))
    (h : Wh P ops S Q (.first { dst := d, op := op, type := t, pos := pos, after := af, guard := some (j, b) } rest) n l w) :
    Wh P ops S Q (.first { dst := d, op := op, type := t, pos := pos, after := af, guard := some (j, b) } rest) n l w := h
theorem Wh_guard_lit_f {d : Option Tmp} {op : Op} {t : TypeId} {pos : String} {af : Array Edge} {j : Nat} {b : Bool} (hy : yields l ops j = some (.bool false))
    (h : Wh P ops S Q (.first { dst := d, op := op, type := t, pos := pos, after := af, guard := some (j, b) } rest) n l w) :
    Wh P ops S Q (.first { dst := d, op := op, type := t, pos := pos, after := af, guard := some (j, b) } rest) n l w := h
theorem Wh_guard_split {d : Option Tmp} {op : Op} {t : TypeId} {pos : String} {af : Array Edge} {j s : Nat} {b c : Bool} (hs : (ops[j]?).bind (·.dst) = some s) (hy : look l s = some (.bool c)) (hj : inb n (some s) = true)
    (h1 : c = true → Wh P ops S Q (.first { dst := d, op := op, type := t, pos := pos, after := af, guard := some (j, b) } rest) n (.cons s (.bool true) l) w)
    (h2 : c = false → Wh P ops S Q (.first { dst := d, op := op, type := t, pos := pos, after := af, guard := some (j, b) } rest) n (.cons s (.bool false) l) w) :
    Wh P ops S Q (.first { dst := d, op := op, type := t, pos := pos, after := af, guard := some (j, b) } rest) n l w := by
  intro a hf
  have key : Fr n (.cons s (.bool c) l) a := ⟨hf.size, hf.defers, fun t v ht => by
    by_cases e : t = s
    · subst e; rw [look_cons_same] at ht; rw [← ht]; exact hf.get _ _ hy
    · rw [look_cons_ne e] at ht; exact hf.get _ _ ht⟩
  cases c with
  | true => exact h1 rfl a key
  | false => exact h2 rfl a key
theorem Wh_guard_split_d {d : Option Tmp} {op : Op} {t : TypeId} {pos : String} {af : Array Edge} {j s : Nat} {b : Bool} {p : Prop} {dp : Decidable p} (hs : (ops[j]?).bind (·.dst) = some s) (hy : look l s = some (.bool (@decide p dp))) (hj : inb n (some s) = true)
    (h1 : p → Wh P ops S Q (.first { dst := d, op := op, type := t, pos := pos, after := af, guard := some (j, b) } rest) n (.cons s (.bool true) l) w) (h2 : ¬ p → Wh P ops S Q (.first { dst := d, op := op, type := t, pos := pos, after := af, guard := some (j, b) } rest) n (.cons s (.bool false) l) w) : Wh P ops S Q (.first { dst := d, op := op, type := t, pos := pos, after := af, guard := some (j, b) } rest) n l w :=
  Wh_guard_split hs hy hj (fun h => h1 (of_decide_eq_true h)) (fun h => h2 (of_decide_eq_false h))
theorem Wh_guard_split_n {d : Option Tmp} {op : Op} {t : TypeId} {pos : String} {af : Array Edge} {j s : Nat} {b : Bool} {p : Prop} {dp : Decidable p} (hs : (ops[j]?).bind (·.dst) = some s) (hy : look l s = some (.bool (!@decide p dp))) (hj : inb n (some s) = true)
    (h1 : ¬ p → Wh P ops S Q (.first { dst := d, op := op, type := t, pos := pos, after := af, guard := some (j, b) } rest) n (.cons s (.bool true) l) w) (h2 : p → Wh P ops S Q (.first { dst := d, op := op, type := t, pos := pos, after := af, guard := some (j, b) } rest) n (.cons s (.bool false) l) w) : Wh P ops S Q (.first { dst := d, op := op, type := t, pos := pos, after := af, guard := some (j, b) } rest) n l w :=
  Wh_guard_split hs hy hj (fun h => h1 (of_decide_eq_false (by simpa using h))) (fun h => h2 (of_decide_eq_true (by simpa using h)))
theorem Wh_guard_split_nb {d : Option Tmp} {op : Op} {t : TypeId} {pos : String} {af : Array Edge} {j s : Nat} {b : Bool} {c : Bool} (hs : (ops[j]?).bind (·.dst) = some s) (hy : look l s = some (.bool (!c))) (hj : inb n (some s) = true)
    (h1 : c = false → Wh P ops S Q (.first { dst := d, op := op, type := t, pos := pos, after := af, guard := some (j, b) } rest) n (.cons s (.bool true) l) w) (h2 : c = true → Wh P ops S Q (.first { dst := d, op := op, type := t, pos := pos, after := af, guard := some (j, b) } rest) n (.cons s (.bool false) l) w) : Wh P ops S Q (.first { dst := d, op := op, type := t, pos := pos, after := af, guard := some (j, b) } rest) n l w :=
  Wh_guard_split hs hy hj (fun h => h1 (by simpa using h)) (fun h => h2 (by simpa using h))
theorem K_held {id : Nat} {L : List Oper} {w0 : World} {M F : Heap} (S : World → Prop) (kp : KP) {hp' : HP} (hm : P.follows .mixedOrders = true) (hp : Hp w0 M F w) (hsel : Region.noSelect L.toArray = true)
    (hB : heldB L.toArray kp L.toArray.size (Array.replicate L.toArray.size false) = true) (hk : OkT L.toArray kp hp')
    (h : ∀ w', Hp w0 M F w' → Wh P L.toArray S Q hp' n l w') : K P (.region id L.toArray true) Q n l w := fun a hf => by
  refine Code.wp_mono (Q := NoDie Q) (fun e a w h => h.2) ?_
  refine wp_region_held (S := S) hm ?_
  exact held_any (P := P) (S := S) (Q := Q) hsel hk _ _ a _ hB (h w.drew hp.drew a hf)
theorem K_heldp {id : Nat} {L : List Oper} {w0 : World} {M F : Heap} (kp : KP) {hp' : HP} (hm : P.follows .mixedOrders = true) (hp : Hp w0 M F w) (hsel : Region.noSelect L.toArray = true)
    (hB : heldB L.toArray kp L.toArray.size (Array.replicate L.toArray.size false) = true) (hk : OkT L.toArray kp hp')
    (h : ∀ w', Hp w0 M F w' → Wh P L.toArray (Hp w0 M F) Q hp' n l w') : K P (.region id L.toArray true) Q n l w := K_held (Hp w0 M F) kp hm hp hsel hB hk h
end
/-! The same over the list of what is done: less for the kernel to carry out -/
def inL : List Nat → Nat → Bool
  | [], _ => false
  | x :: r, j => bif Nat.beq x j then true else inL r j
def readyL (ops : Array Oper) (ds : List Nat) : List Nat :=
  (List.range ops.size).filter fun i => !inL ds i && ((ops[i]?).map (·.after.all fun e => !Region.binds .any e || inL ds e.on)).getD false
def freeL (ops : Array Oper) (ds : List Nat) (i : Nat) : Bool :=
  match ops[i]? with
  | none => false
  | some oi => (List.range ops.size).all fun j => j == i || inL ds j || match ops[j]? with
      | some oj => oj.after.any (fun e => Region.binds .any e && e.on == i) || oi.apart ops oj
      | none => true
def heldL (ops : Array Oper) : KP → Nat → List Nat → Bool
  | .done, 0, ds => (readyL ops ds).isEmpty
  | .first k r, f + 1, ds => (readyL ops ds).contains k && freeL ops ds k && heldL ops r f (k :: ds)
  | .only k r, f + 1, ds => decide (readyL ops ds = [k]) && heldL ops r f (k :: ds)
  | .two k r k' r', f + 1, ds => decide (readyL ops ds = [k, k']) && heldL ops r f (k :: ds) && heldL ops r' f (k' :: ds)
  | .three k r k' r' k'' r'', f + 1, ds => decide (readyL ops ds = [k, k', k'']) && heldL ops r f (k :: ds) && heldL ops r' f (k' :: ds) && heldL ops r'' f (k'' :: ds)
  | _, _, _ => false
def RelL (ops : Array Oper) (done : Array Bool) (ds : List Nat) : Prop := done.size = ops.size ∧ ∀ j, done.getD j false = inL ds j
theorem inL_cons (k j : Nat) (ds : List Nat) : inL (k :: ds) j = (decide (k = j) || inL ds j) := by
  rw [inL]
  by_cases h : k = j
  · subst h; simp
  · have : Nat.beq k j = false := by
      cases e : Nat.beq k j with
      | true => exact absurd (Nat.eq_of_beq_eq_true e) h
      | false => rfl
    simp [this, h]
theorem RelL.set {ops : Array Oper} {done : Array Bool} {ds : List Nat} (h : RelL ops done ds) {k : Nat} (hk : k < ops.size) : RelL ops (done.setIfInBounds k true) (k :: ds) := by
  refine ⟨by simp [h.1], fun j => ?_⟩
  rw [inL_cons, ← h.2 j]
  simp only [Array.getD_eq_getD_getElem?, Array.getElem?_setIfInBounds]
  by_cases e : k = j
  · subst e; simp [h.1, hk]
  · simp [e]
theorem RelL.true {ops : Array Oper} {done : Array Bool} {ds : List Nat} (h : RelL ops done ds) {j : Nat} (hj : j < ops.size) : done.getD j true = inL ds j := by
  rw [← h.2 j]
  have : j < done.size := by rw [h.1]; exact hj
  simp [Array.getD_eq_getD_getElem?, this]
theorem RelL.ready {ops : Array Oper} {done : Array Bool} {ds : List Nat} (h : RelL ops done ds) : Region.ready .any ops done = readyL ops ds := by
  unfold Region.ready readyL
  refine List.filter_congr fun i hi => ?_
  rw [h.true (List.mem_range.1 hi)]
  simp only [h.2]
theorem RelL.free {ops : Array Oper} {done : Array Bool} {ds : List Nat} (h : RelL ops done ds) (i : Nat) : Region.free .any ops done i = freeL ops ds i := by
  unfold Region.free freeL
  cases ops[i]? with
  | none => rfl
  | some oi =>
    simp only
    rw [Bool.eq_iff_iff, List.all_eq_true, List.all_eq_true]
    constructor
    · intro hh j hj; have := hh j hj; rwa [h.true (List.mem_range.1 hj)] at this
    · intro hh j hj; have := hh j hj; rwa [← h.true (List.mem_range.1 hj)] at this
theorem readyL_lt {ops : Array Oper} {ds : List Nat} {k : Nat} (h : k ∈ readyL ops ds) : k < ops.size := List.mem_range.1 (List.mem_filter.1 h).1
theorem heldL_held {ops : Array Oper} : ∀ (kp : KP) (f : Nat) (ds : List Nat) (done : Array Bool), RelL ops done ds → heldL ops kp f ds = true → heldB ops kp f done = true := by
  intro kp
  induction kp with
  | done =>
    intro f ds done hr h
    cases f with
    | zero => simp only [heldL, heldB] at h ⊢; rw [hr.ready]; exact h
    | succ f => simp [heldL] at h
  | first k r ih =>
    intro f ds done hr h
    cases f with
    | zero => simp [heldL] at h
    | succ f =>
      simp only [heldL, heldB, Bool.and_eq_true] at h ⊢
      rw [hr.ready, hr.free]
      exact ⟨h.1, ih f _ _ (hr.set (readyL_lt (by simpa using h.1.1))) h.2⟩
  | only k r ih =>
    intro f ds done hr h
    cases f with
    | zero => simp [heldL] at h
    | succ f =>
      simp only [heldL, heldB, Bool.and_eq_true, decide_eq_true_eq] at h ⊢
      rw [hr.ready]
      exact ⟨h.1, ih f _ _ (hr.set (readyL_lt (by rw [h.1]; simp))) h.2⟩
  | two k r k' r' ih ih' =>
    intro f ds done hr h
    cases f with
    | zero => simp [heldL] at h
    | succ f =>
      simp only [heldL, heldB, Bool.and_eq_true, decide_eq_true_eq] at h ⊢
      rw [hr.ready]
      exact ⟨⟨h.1.1, ih f _ _ (hr.set (readyL_lt (by rw [h.1.1]; simp))) h.1.2⟩, ih' f _ _ (hr.set (readyL_lt (by rw [h.1.1]; simp))) h.2⟩
  | three k r k' r' k'' r'' ih ih' ih'' =>
    intro f ds done hr h
    cases f with
    | zero => simp [heldL] at h
    | succ f =>
      simp only [heldL, heldB, Bool.and_eq_true, decide_eq_true_eq] at h ⊢
      rw [hr.ready]
      exact ⟨⟨⟨h.1.1.1, ih f _ _ (hr.set (readyL_lt (by rw [h.1.1.1]; simp))) h.1.1.2⟩, ih' f _ _ (hr.set (readyL_lt (by rw [h.1.1.1]; simp))) h.1.2⟩, ih'' f _ _ (hr.set (readyL_lt (by rw [h.1.1.1]; simp))) h.2⟩
theorem heldL_start {ops : Array Oper} {kp : KP} (h : heldL ops kp ops.size [] = true) : heldB ops kp ops.size (Array.replicate ops.size false) = true :=
  heldL_held kp _ _ _ ⟨by simp, fun j => by
    simp only [inL, Array.getD_eq_getD_getElem?, Array.getElem?_replicate]
    split <;> rfl⟩ h
end Go.Sx
