/-
  A small program logic of this work's own over the model's 'wpList' and 'Code.wp': a frame known slot by slot, a list of owned blocks.
  No conditions: each rule is proved for every program.
-/
import Derived.WalkKit
import Derived.KernelRfl
namespace Go.Sx
open Go.RowKit
set_option linter.unusedVariables false

/-! ## Frames known slot by slot -/
/-- What is known of the slots; the front wins. -/
inductive Env where
  | nil
  | cons (d : Nat) (v : Value) (l : Env)
  | lst (xs : List (Nat × Value)) (l : Env)
  | strip (ws : List Nat) (l : Env)
  | args (vs : List Value)
  | marks (ds : List Deferred) (l : Env)
def memN : List Nat → Nat → Bool
  | [], _ => false
  | x :: r, t => bif Nat.beq x t then true else memN r t
def lookL : List (Nat × Value) → Nat → Option Value
  | [], _ => none
  | (d, v) :: r, t => bif Nat.beq t d then some v else lookL r t
def look : Env → Nat → Option Value
  | .nil, _ => none
  | .cons d v l, t => bif Nat.beq t d then some v else look l t
  | .lst xs l, t => match lookL xs t with
    | some v => some v
    | none => look l t
  | .strip ws l, t => bif memN ws t then none else look l t
  | .args vs, t => vs[t]?
  | .marks _ l, t => look l t
/-- The deferred calls of the activation. -/
def dsOf : Env → List Deferred
  | .nil => []
  | .cons _ _ l => dsOf l
  | .lst _ l => dsOf l
  | .strip _ l => dsOf l
  | .args _ => []
  | .marks ds _ => ds
theorem memN_iff {ws : List Nat} {t : Nat} : memN ws t = true ↔ t ∈ ws := by
  induction ws with
  | nil => simp [memN]
  | cons x r ih =>
    simp only [memN, List.mem_cons]
    cases h : Nat.beq x t with
    | true => simp [Nat.eq_of_beq_eq_true h]
    | false =>
      have hne : t ≠ x := fun e => Nat.ne_of_beq_eq_false h e.symm
      simp [ih, hne]
theorem look_cons_same {l : Env} {d : Nat} {v : Value} : look (.cons d v l) d = some v := by simp [look]
theorem look_cons_ne {l : Env} {d t : Nat} {v : Value} (h : t ≠ d) : look (.cons d v l) t = look l t := by
  have : Nat.beq t d = false := by cases e : Nat.beq t d with
    | true => exact absurd (Nat.eq_of_beq_eq_true e) h
    | false => rfl
  simp [look, this]

structure Fr (n : Nat) (l : Env) (a : Act) : Prop where
  size : a.tmps.size = n
  defers : a.defers = dsOf l
  get : ∀ t v, look l t = some v → a.tmps[t]? = some v

def ev (l : Env) : Operand → Option Value
  | .tmp t => look l t
  | .const v => some v
  | .global g => some (.pointer (some ⟨g, 0, none⟩))
  | .func f => some (.func (.func f) #[] #[])

theorem Fr.eval {n : Nat} {l : Env} {a : Act} (h : Fr n l a) {x : Operand} {v : Value} (hx : ev l x = some v) : a.eval x = v := by
  cases x with
  | tmp t => have := h.get t v hx; simp [Act.eval, Array.getD_eq_getD_getElem?, this]
  | const c => simpa [ev, Act.eval] using hx
  | global g => simpa [ev, Act.eval] using hx
  | func f => simpa [ev, Act.eval] using hx

def puts (l : Env) (d : Option Tmp) (v : Value) : Env := match d with
  | some d => .cons d v l
  | none => l
def inb (n : Nat) (d : Option Tmp) : Bool := match d with
  | some d => decide (d < n)
  | none => true

theorem Fr.put {n : Nat} {l : Env} {a : Act} (h : Fr n l a) {d : Option Tmp} (hd : inb n d = true) (v : Value) : Fr n (puts l d v) (a.put d v) := by
  cases d with
  | none => exact h
  | some d =>
    have hd : d < n := by simpa [inb] using hd
    refine ⟨by simp [Act.put, h.size], by simp [Act.put, h.defers, puts, dsOf], fun t u ht => ?_⟩
    have hs : d < a.tmps.size := by rw [h.size]; exact hd
    simp only [Act.put, Array.getElem?_setIfInBounds]
    by_cases e : t = d
    · subst e; rw [puts, look_cons_same] at ht; simp_all
    · rw [puts, look_cons_ne e] at ht; rw [if_neg (fun c => e c.symm)]; exact h.get t u ht

def sub (l l' : Env) : Prop := ∀ t v, look l' t = some v → look l t = some v
/-- The same, and the deferred calls are the same. -/
def subS (l l' : Env) : Prop := sub l l' ∧ dsOf l = dsOf l'
theorem Fr.sub {n : Nat} {l l' : Env} {a : Act} (h : Fr n l a) (hs : subS l l') : Fr n l' a :=
  ⟨h.size, h.defers.trans hs.2, fun t v ht => h.get t v (hs.1 t v ht)⟩
theorem sub_refl (l : Env) : subS l l := ⟨fun _ _ h => h, rfl⟩
theorem sub_nil (l : Env) : sub l .nil := fun _ _ h => by simp [look] at h
theorem sub_lst_nil {l l' : Env} (h : sub l l') : sub l (.lst [] l') := fun t v ht => h t v (by simpa [look, lookL] using ht)
theorem sub_lst {l : Env} {t : Nat} {v : Value} {xs : List (Nat × Value)} {l' : Env} (h : look l t = some v) (h' : sub l (.lst xs l')) : sub l (.lst ((t, v) :: xs) l') := by
  intro u x hu
  by_cases e : u = t
  · subst e; simp [look, lookL] at hu; rw [h, hu]
  · have hb : Nat.beq u t = false := by
      cases e' : Nat.beq u t with
      | true => exact absurd (Nat.eq_of_beq_eq_true e') e
      | false => rfl
    exact h' u x (by simpa [look, lookL, hb] using hu)
theorem sub_lst_eq {l : Env} {t : Nat} {v y : Value} {xs : List (Nat × Value)} {l' : Env} (h : look l t = some y) (e : y = v) (h' : sub l (.lst xs l')) : sub l (.lst ((t, v) :: xs) l') := sub_lst (e ▸ h) h'
theorem sub_strip (ws : List Nat) (l : Env) : subS l (.strip ws l) := ⟨fun t v h => by
  simp only [look] at h
  cases e : memN ws t with
  | true => simp [e] at h
  | false => simpa [e] using h, rfl⟩
theorem look_strip {ws : List Nat} {l : Env} {t : Nat} {v : Value} (h : look (.strip ws l) t = some v) : memN ws t = false := by
  simp only [look] at h
  cases e : memN ws t with
  | true => simp [e] at h
  | false => rfl
theorem sub_s_cons {d : Nat} {v : Value} {l L : Env} {ws : List Nat} (hd : memN ws d = true) (h : subS l (.strip ws L)) : subS (.cons d v l) (.strip ws L) := by
  refine ⟨?_, h.2⟩
  intro t x ht
  have hn := look_strip ht
  rw [look_cons_ne (fun e => by subst e; rw [hd] at hn; cases hn)]
  exact h.1 t x ht
def keysIn (ws : List Nat) : List (Nat × Value) → Bool
  | [] => true
  | p :: r => bif memN ws p.1 then keysIn ws r else false
theorem lookL_none {ws : List Nat} : ∀ {xs : List (Nat × Value)} (hk : keysIn ws xs = true) {t : Nat} (hn : memN ws t = false), lookL xs t = none
  | [], _, _, _ => rfl
  | (d, v) :: r, hk, t, hn => by
    simp only [keysIn] at hk
    cases e : memN ws d with
    | false => simp [e] at hk
    | true =>
      have hne : Nat.beq t d = false := by
        cases e' : Nat.beq t d with
        | true => have := Nat.eq_of_beq_eq_true e'; subst this; rw [e] at hn; cases hn
        | false => rfl
      simp only [e, cond_true] at hk
      simp [lookL, hne, lookL_none hk hn]
theorem sub_s_lst {xs : List (Nat × Value)} {l L : Env} {ws : List Nat} (hk : keysIn ws xs = true) (h : subS l (.strip ws L)) : subS (.lst xs l) (.strip ws L) := by
  refine ⟨?_, h.2⟩
  intro t x ht
  simp only [look, lookL_none hk (look_strip ht)]
  exact h.1 t x ht
def allIn (ws : List Nat) : List Nat → Bool
  | [] => true
  | x :: r => bif memN ws x then allIn ws r else false
theorem allIn_mem {ws : List Nat} : ∀ {vs : List Nat}, allIn ws vs = true → ∀ t, t ∈ vs → t ∈ ws
  | [], _, _, h => by simp at h
  | x :: r, hk, t, h => by
    simp only [allIn] at hk
    cases e : memN ws x with
    | false => simp [e] at hk
    | true =>
      simp only [e, cond_true] at hk
      rcases List.mem_cons.1 h with rfl | h
      · exact memN_iff.1 e
      · exact allIn_mem hk t h
theorem sub_s_strip {vs ws : List Nat} {l L : Env} (hk : allIn ws vs = true) (h : subS l (.strip ws L)) : subS (.strip vs l) (.strip ws L) := by
  refine ⟨?_, h.2⟩
  intro t x ht
  have hn := look_strip ht
  have hv : memN vs t = false := by
    cases e : memN vs t with
    | false => rfl
    | true => have := memN_iff.2 (allIn_mem hk t (memN_iff.1 e)); rw [this] at hn; cases hn
  have := h.1 t x ht
  simpa [look, hv] using this

/-! ## Operations in a row -/
def W (P : Program) (ops : Array Oper) (Q : Exit → Act → World → Prop) (rest : List Oper) (n : Nat) (l : Env) (w : World) : Prop :=
  ∀ a, Fr n l a → wpList P ops Q rest a w
/-- Code, from a known frame. -/
def K (P : Program) (c : Code) (Q : Exit → Act → World → Prop) (n : Nat) (l : Env) (w : World) : Prop := ∀ a, Fr n l a → c.wp P Q a w
/-- An exit, from a known frame. -/
def N (Q : Exit → Act → World → Prop) (e : Exit) (n : Nat) (l : Env) (w : World) : Prop := ∀ a, Fr n l a → Q e a w

section
variable {P : Program} {ops : Array Oper} {Q : Exit → Act → World → Prop} {rest : List Oper} {n : Nat} {l : Env} {w w' : World} {o : Oper} {v : Value}

theorem W_nil (h : N Q .normal n l w) : W P ops Q [] n l w := fun a hf => wpList_nil (h a hf)

/-- An operation that comes to a value. -/
theorem W_val (hg : o.guard = none) (hd : inb n o.dst = true) (h1 : ∀ a, Fr n l a → (execOp a.eval o).run P w = .ok (.value v) w')
    (h : W P ops Q rest n (puts l o.dst v) w') : W P ops Q (o :: rest) n l w := by
  intro a hf
  refine wpList_plain hg fun k hk => ?_
  unfold Oper.wp
  rw [h1 a hf]
  exact hk _ _ (h _ (hf.put hd v))
theorem W_skip (hg : o.guard = none) (hd : o.dst = none) (h1 : ∀ a, Fr n l a → (execOp a.eval o).run P w = .ok .skip w')
    (h : W P ops Q rest n l w') : W P ops Q (o :: rest) n l w := by
  intro a hf
  refine wpList_plain hg fun k hk => ?_
  unfold Oper.wp
  rw [h1 a hf]
  refine hk _ _ ?_
  rw [hd]
  exact h _ hf
theorem W_panic {x : Value} (hg : o.guard = none) (h1 : ∀ a, Fr n l a → (execOp a.eval o).run P w = .halt (.panic x) w')
    (h : N Q (.panic [{ v := x, recovered := false }]) n l w') : W P ops Q (o :: rest) n l w := by
  intro a hf
  refine wpList_plain hg fun k hk => ?_
  unfold Oper.wp
  rw [h1 a hf]
  exact h a hf

/-- A call of a Go function. -/
theorem W_enter {f : FuncId} {args : Array Value} (hg : o.guard = none) (hd : inb n o.dst = true) (h1 : ∀ a, Fr n l a → (execOp a.eval o).run P w = .ok (.enter f args) w')
    {R : Value → World → Prop} (hc : Calls P f args w' fun e w'' => ∃ v, e = .returned v ∧ R v w'')
    (h : ∀ v w'', R v w'' → W P ops Q rest n (puts l o.dst v) w'') : W P ops Q (o :: rest) n l w := by
  intro a hf
  refine wpList_plain hg fun k hk => ?_
  unfold Oper.wp
  rw [h1 a hf]
  refine hc.mono ?_
  rintro e w'' ⟨v, rfl, hr⟩
  exact hk _ _ (h v w'' hr _ (hf.put hd v))

/-! A guard -/
def yields (l : Env) (ops : Array Oper) (j : Nat) : Option Value := ((ops[j]?).bind (·.dst)).bind (look l)
theorem Fr.yielded {a : Act} (hf : Fr n l a) {j : Nat} {b : Bool} (h : yields l ops j = some (.bool b)) : Go.yielded ops a.tmps j = some b := by
  unfold yields at h
  unfold Go.yielded
  cases hd : (ops[j]?).bind (·.dst) with
  | none => simp [hd] at h
  | some d =>
    simp only [hd, Option.bind_some] at h ⊢
    rw [hf.get d _ h]
theorem W_guard_yes {d : Option Tmp} {op : Op} {t : TypeId} {pos : String} {af : Array Edge} {j : Nat} {b : Bool} (hy : yields l ops j = some (.bool b))
    (h : W P ops Q ({ dst := d, op := op, type := t, pos := pos, after := af, guard := none } :: rest) n l w) :
    W P ops Q ({ dst := d, op := op, type := t, pos := pos, after := af, guard := some (j, b) } :: rest) n l w := by
  intro a hf
  have h := h a hf
  unfold wpList at h ⊢
  rw [if_pos (by simp [Region.wanted])] at h
  rw [if_pos (by simp [Region.wanted, hf.yielded hy])]
  exact h
theorem W_guard_no {d : Option Tmp} {op : Op} {t : TypeId} {pos : String} {af : Array Edge} {j : Nat} {b c : Bool} (hd : inb n d = true) (hy : yields l ops j = some (.bool c)) (hc : c = !b)
    (h : W P ops Q rest n (puts l d undef) w) :
    W P ops Q ({ dst := d, op := op, type := t, pos := pos, after := af, guard := some (j, b) } :: rest) n l w := by
  intro a hf
  unfold wpList
  rw [if_neg (by simp [Region.wanted, hf.yielded hy, hc])]
  exact h _ (hf.put hd undef)
theorem Fr.yielded_none {a : Act} (hf : Fr n l a) {j : Nat} (h : yields l ops j = some undef) : Go.yielded ops a.tmps j = none := by
  unfold yields at h
  unfold Go.yielded
  cases hd : (ops[j]?).bind (·.dst) with
  | none => simp [hd] at h
  | some d =>
    simp only [hd, Option.bind_some] at h ⊢
    rw [hf.get d _ h]
    rfl
theorem W_guard_un {d : Option Tmp} {op : Op} {t : TypeId} {pos : String} {af : Array Edge} {j : Nat} {b : Bool} (hd : inb n d = true) (hy : yields l ops j = some undef)
    (h : W P ops Q rest n (puts l d undef) w) :
    W P ops Q ({ dst := d, op := op, type := t, pos := pos, after := af, guard := some (j, b) } :: rest) n l w := by
  intro a hf
  unfold wpList
  rw [if_neg (by simp [Region.wanted, hf.yielded_none hy])]
  exact h _ (hf.put hd undef)
theorem W_guard_lit_u {d : Option Tmp} {op : Op} {t : TypeId} {pos : String} {af : Array Edge} {j : Nat} {b : Bool} (hy : yields l ops j = some undef)
    (h : W P ops Q ({ dst := d, op := op, type := t, pos := pos, after := af, guard := some (j, b) } :: rest) n l w) :
    W P ops Q ({ dst := d, op := op, type := t, pos := pos, after := af, guard := some (j, b) } :: rest) n l w := h
theorem W_guard_lit_t {d : Option Tmp} {op : Op} {t : TypeId} {pos : String} {af : Array Edge} {j : Nat} {b : Bool} (hy : yields l ops j = some (.bool true))
    (h : W P ops Q ({ dst := d, op := op, type := t, pos := pos, after := af, guard := some (j, b) } :: rest) n l w) :
    W P ops Q ({ dst := d, op := op, type := t, pos := pos, after := af, guard := some (j, b) } :: rest) n l w := h
theorem W_guard_lit_f {d : Option Tmp} {op : Op} {t : TypeId} {pos : String} {af : Array Edge} {j : Nat} {b : Bool} (hy : yields l ops j = some (.bool false))
    (h : W P ops Q ({ dst := d, op := op, type := t, pos := pos, after := af, guard := some (j, b) } :: rest) n l w) :
    W P ops Q ({ dst := d, op := op, type := t, pos := pos, after := af, guard := some (j, b) } :: rest) n l w := h
theorem W_guard_split {d : Option Tmp} {op : Op} {t : TypeId} {pos : String} {af : Array Edge} {j s : Nat} {b c : Bool} (hs : (ops[j]?).bind (·.dst) = some s) (hy : look l s = some (.bool c)) (hj : inb n (some s) = true)
    (h1 : c = true → W P ops Q ({ dst := d, op := op, type := t, pos := pos, after := af, guard := some (j, b) } :: rest) n (.cons s (.bool true) l) w)
    (h2 : c = false → W P ops Q ({ dst := d, op := op, type := t, pos := pos, after := af, guard := some (j, b) } :: rest) n (.cons s (.bool false) l) w) :
    W P ops Q ({ dst := d, op := op, type := t, pos := pos, after := af, guard := some (j, b) } :: rest) n l w := by
  intro a hf
  have key : Fr n (.cons s (.bool c) l) a := ⟨hf.size, hf.defers, fun t v ht => by
    by_cases e : t = s
    · subst e; rw [look_cons_same] at ht; rw [← ht]; exact hf.get _ _ hy
    · rw [look_cons_ne e] at ht; exact hf.get _ _ ht⟩
  cases c with
  | true => exact h1 rfl a key
  | false => exact h2 rfl a key
theorem W_guard_split_d {d : Option Tmp} {op : Op} {t : TypeId} {pos : String} {af : Array Edge} {j s : Nat} {b : Bool} {p : Prop} {dp : Decidable p} (hs : (ops[j]?).bind (·.dst) = some s) (hy : look l s = some (.bool (@decide p dp))) (hj : inb n (some s) = true)
    (h1 : p → W P ops Q ({ dst := d, op := op, type := t, pos := pos, after := af, guard := some (j, b) } :: rest) n (.cons s (.bool true) l) w) (h2 : ¬ p → W P ops Q ({ dst := d, op := op, type := t, pos := pos, after := af, guard := some (j, b) } :: rest) n (.cons s (.bool false) l) w) : W P ops Q ({ dst := d, op := op, type := t, pos := pos, after := af, guard := some (j, b) } :: rest) n l w :=
  W_guard_split hs hy hj (fun h => h1 (of_decide_eq_true h)) (fun h => h2 (of_decide_eq_false h))
theorem W_guard_split_n {d : Option Tmp} {op : Op} {t : TypeId} {pos : String} {af : Array Edge} {j s : Nat} {b : Bool} {p : Prop} {dp : Decidable p} (hs : (ops[j]?).bind (·.dst) = some s) (hy : look l s = some (.bool (!@decide p dp))) (hj : inb n (some s) = true)
    (h1 : ¬ p → W P ops Q ({ dst := d, op := op, type := t, pos := pos, after := af, guard := some (j, b) } :: rest) n (.cons s (.bool true) l) w) (h2 : p → W P ops Q ({ dst := d, op := op, type := t, pos := pos, after := af, guard := some (j, b) } :: rest) n (.cons s (.bool false) l) w) : W P ops Q ({ dst := d, op := op, type := t, pos := pos, after := af, guard := some (j, b) } :: rest) n l w :=
  W_guard_split hs hy hj (fun h => h1 (of_decide_eq_false (by simpa using h))) (fun h => h2 (of_decide_eq_true (by simpa using h)))
theorem W_guard_split_nb {d : Option Tmp} {op : Op} {t : TypeId} {pos : String} {af : Array Edge} {j s : Nat} {b : Bool} {c : Bool} (hs : (ops[j]?).bind (·.dst) = some s) (hy : look l s = some (.bool (!c))) (hj : inb n (some s) = true)
    (h1 : c = false → W P ops Q ({ dst := d, op := op, type := t, pos := pos, after := af, guard := some (j, b) } :: rest) n (.cons s (.bool true) l) w) (h2 : c = true → W P ops Q ({ dst := d, op := op, type := t, pos := pos, after := af, guard := some (j, b) } :: rest) n (.cons s (.bool false) l) w) : W P ops Q ({ dst := d, op := op, type := t, pos := pos, after := af, guard := some (j, b) } :: rest) n l w :=
  W_guard_split hs hy hj (fun h => h1 (by simpa using h)) (fun h => h2 (by simpa using h))
end

/-! ## Code -/
section
variable {P : Program} {Q : Exit → Act → World → Prop} {n : Nat} {l : Env} {w : World}
theorem K_seq {x y : Code} (h : K P x (Exit.then (fun a w => y.wp P Q a w) Q) n l w) : K P (.seq x y) Q n l w := fun a hf => wp_seq (h a hf)
theorem K_region {id : Nat} {L : List Oper} (h : W P L.toArray Q L n l w) : K P (.region id L.toArray false) Q n l w := fun a hf => wp_region_lit (h a hf)
theorem K_skip (h : N Q .normal n l w) : K P .skip Q n l w := fun a hf => wp_skip (h a hf)
theorem K_ret (h : N Q .ret n l w) : K P .ret Q n l w := fun a hf => wp_ret (h a hf)
theorem K_exit {id : Nat} (h : N Q (.exit id) n l w) : K P (.exit id) Q n l w := fun a hf => wp_exit (h a hf)
theorem K_label {id : Nat} (h : N Q .normal n l w) : K P (.label id) Q n l w := fun a hf => wp_label (h a hf)
theorem K_block {id : Nat} {c : Code} (h : K P c (Exit.inBlock id Q) n l w) : K P (.block id c) Q n l w := fun a hf => wp_block (h a hf)
theorem K_cond {c : Operand} {x y : Code} {t : Bool} (hc : ev l c = some (.bool t)) (ht : t = true → K P x Q n l w) (hf : t = false → K P y Q n l w) : K P (.cond c x y) Q n l w :=
  fun a ha => wp_cond_split (ha.eval hc) (fun h => ht h a ha) (fun h => hf h a ha)
theorem K_cond_t {s : Tmp} {x y : Code} {t : Bool} (hs : look l s = some (.bool t)) (ht : t = true → K P x Q n (.cons s (.bool true) l) w) (hf : t = false → K P y Q n (.cons s (.bool false) l) w) : K P (.cond (.tmp s) x y) Q n l w := by
  intro a ha
  have key : Fr n (.cons s (.bool t) l) a := ⟨ha.size, ha.defers, fun u v hu => by
    by_cases e : u = s
    · subst e; rw [look_cons_same] at hu; rw [← hu]; exact ha.get _ _ hs
    · rw [look_cons_ne e] at hu; exact ha.get _ _ hu⟩
  exact wp_cond_split (ha.eval (x := .tmp s) hs) (fun h => by subst h; exact ht rfl a key) (fun h => by subst h; exact hf rfl a key)
theorem K_cond_d {s : Tmp} {x y : Code} {p : Prop} {d : Decidable p} (hs : look l s = some (.bool (@decide p d))) (ht : p → K P x Q n (.cons s (.bool true) l) w) (hf : ¬ p → K P y Q n (.cons s (.bool false) l) w) : K P (.cond (.tmp s) x y) Q n l w :=
  K_cond_t hs (fun h => ht (of_decide_eq_true h)) (fun h => hf (of_decide_eq_false h))
theorem K_cond_n {s : Tmp} {x y : Code} {p : Prop} {d : Decidable p} (hs : look l s = some (.bool (!@decide p d))) (ht : ¬ p → K P x Q n (.cons s (.bool true) l) w) (hf : p → K P y Q n (.cons s (.bool false) l) w) : K P (.cond (.tmp s) x y) Q n l w :=
  K_cond_t hs (fun h => ht (of_decide_eq_false (by simpa using h))) (fun h => hf (of_decide_eq_true (by simpa using h)))
theorem K_cond_nb {s : Tmp} {x y : Code} {b : Bool} (hs : look l s = some (.bool (!b))) (ht : b = false → K P x Q n (.cons s (.bool true) l) w) (hf : b = true → K P y Q n (.cons s (.bool false) l) w) : K P (.cond (.tmp s) x y) Q n l w :=
  K_cond_t hs (fun h => ht (by simpa using h)) (fun h => hf (by simpa using h))
theorem K_cond_true {c : Operand} {x y : Code} (hc : ev l c = some (.bool true)) (h : K P x Q n l w) : K P (.cond c x y) Q n l w := K_cond hc (fun _ => h) (fun h => by cases h)
theorem K_cond_false {c : Operand} {x y : Code} (hc : ev l c = some (.bool false)) (h : K P y Q n l w) : K P (.cond c x y) Q n l w := K_cond hc (fun h => by cases h) (fun _ => h)
/-- What holds from now on: forget all but some slots. -/
theorem K_weak {c : Code} {l' : Env} (h : K P c Q n l' w) (hs : subS l l') : K P c Q n l w := fun a ha => h a (ha.sub hs)

theorem N_then_k {y : Code} {Q₁ Q₂ : Exit → Act → World → Prop} (h : K P y Q₁ n l w) : N (Exit.then (fun a w => y.wp P Q₁ a w) Q₂) .normal n l w := fun a hf => h a hf
theorem N_then_exit {k : Act → World → Prop} {id : Nat} (h : N Q (.exit id) n l w) : N (Exit.then k Q) (.exit id) n l w := fun a hf => h a hf
theorem N_then_ret {k : Act → World → Prop} (h : N Q .ret n l w) : N (Exit.then k Q) .ret n l w := fun a hf => h a hf
theorem N_then_panic {k : Act → World → Prop} {c : List PanicEntry} (h : N Q (.panic c) n l w) : N (Exit.then k Q) (.panic c) n l w := fun a hf => h a hf
theorem N_block_normal {id : Nat} (h : N Q .normal n l w) : N (Exit.inBlock id Q) .normal n l w := fun a hf => h a hf
theorem N_block_ret {id : Nat} (h : N Q .ret n l w) : N (Exit.inBlock id Q) .ret n l w := fun a hf => h a hf
theorem N_block_panic {id : Nat} {c : List PanicEntry} (h : N Q (.panic c) n l w) : N (Exit.inBlock id Q) (.panic c) n l w := fun a hf => h a hf
theorem N_block_exit {id : Nat} (h : N Q .normal n l w) : N (Exit.inBlock id Q) (.exit id) n l w := fun a hf => by
  show (if id = id then Q .normal a w else Q (.exit id) a w)
  rw [if_pos rfl]; exact h a hf
theorem N_block_other {id j : Nat} (hne : Nat.beq j id = false) (h : N Q (.exit j) n l w) : N (Exit.inBlock id Q) (.exit j) n l w := fun a hf => by
  show (if j = id then Q .normal a w else Q (.exit j) a w)
  rw [if_neg (fun e => by subst e; simp at hne)]; exact h a hf

/-- A loop: 's' is where it stands, 'lf s' what is known of the slots, 'J s' of the world, 'm s' goes down. -/
def Again {σ : Type} (n : Nat) (lf : σ → Env) (J : σ → World → Prop) (m : σ → Nat) (s : σ) : Act → World → Prop :=
  fun a w => ∃ s', Fr n (lf s') a ∧ J s' w ∧ m s' < m s
theorem sub_start {l : Env} {xs : List (Nat × Value)} {ws : List Nat} (h : sub l (.lst xs .nil)) : subS l (.lst xs (.strip ws l)) := by
  refine ⟨?_, rfl⟩
  intro t v ht
  simp only [look] at ht
  cases e : lookL xs t with
  | some u => exact h t v (by simpa [look, e] using ht)
  | none => exact (sub_strip ws l).1 t v (by simpa [look, e] using ht)
theorem sub_end {l L : Env} {xs : List (Nat × Value)} {ws : List Nat} (h : sub l (.lst xs .nil)) (h' : subS l (.strip ws L)) : subS l (.lst xs (.strip ws L)) := by
  refine ⟨?_, h'.2⟩
  intro t v ht
  cases e : lookL xs t with
  | some u => exact h t v (by simpa [look, e] using ht)
  | none => exact h'.1 t v (by simpa [look, e] using ht)
theorem K_loop {σ : Type} (ws : List Nat) (lf : σ → List (Nat × Value)) (J : σ → World → Prop) (m : σ → Nat) (s : σ) {c : Code} (hs : sub l (.lst (lf s) .nil)) (hJ : J s w)
    (round : ∀ s w, J s w → K P c (Exit.then (Again n (fun s => .lst (lf s) (.strip ws l)) J m s) Q) n (.lst (lf s) (.strip ws l)) w) : K P (.loop c) Q n l w := by
  intro a ha b k cs
  have key : ∀ q s a w, m s = q → Fr n (.lst (lf s) (.strip ws l)) a → J s w →
      ∃ e a' w', Q e a' w' ∧ Arrives P (lone (b.at a (.code c :: .inLoop c :: k)) cs w) b k cs e a' w' := by
    intro q
    induction q using Nat.strongRecOn with
    | _ q ih =>
      intro s a w hq hf hj
      obtain ⟨e, a₁, w₁, hq1, harr⟩ := round s w hj a hf b (.inLoop c :: k) cs
      cases e with
      | normal =>
        obtain ⟨s', f', j', hlt⟩ := hq1
        obtain ⟨e₂, a₂, w₂, hq₂, harr₂⟩ := ih (m s') (hq ▸ hlt) s' a₁ w₁ rfl f' j'
        exact ⟨e₂, a₂, w₂, hq₂, .of_steps (Steps.trans harr (.one step_inLoop)) harr₂⟩
      | exit id => exact ⟨_, a₁, w₁, hq1, .pass (x := .inLoop c) rfl (fun _ _ => .inl (by simp)) harr⟩
      | goto l => exact ⟨_, a₁, w₁, hq1, .pass (x := .inLoop c) rfl (fun _ _ => .inl (by simp)) harr⟩
      | ret => exact ⟨_, a₁, w₁, hq1, .pass (x := .inLoop c) rfl (fun _ _ => .inl (by simp)) harr⟩
      | panic ch => exact ⟨_, a₁, w₁, hq1, .pass (x := .inLoop c) rfl (fun _ _ => .inl (by simp)) harr⟩
      | outgrown => exact ⟨_, a₁, w₁, hq1, .pass (x := .inLoop c) rfl (fun _ _ => .inl (by simp)) harr⟩
  obtain ⟨e, a', w', hq, harr⟩ := key _ s a w rfl (ha.sub (sub_start hs)) hJ
  exact ⟨e, a', w', hq, .of_steps (.one step_loop) harr⟩
theorem N_again {σ : Type} {lf : σ → Env} {J : σ → World → Prop} {m : σ → Nat} {s : σ} (s' : σ) (hs : subS l (lf s')) (hJ : J s' w) (hm : m s' < m s) :
    N (Exit.then (Again n lf J m s) Q) .normal n l w := fun a ha => ⟨s', ha.sub hs, hJ, hm⟩

/-- Where ways meet: what is known from here on. -/
def Mid {σ : Type} (n : Nat) (lf : σ → Env) (J : σ → World → Prop) : Act → World → Prop := fun a w => ∃ s, Fr n (lf s) a ∧ J s w
theorem K_mid {σ : Type} (ws : List Nat) (lf : σ → List (Nat × Value)) (J : σ → World → Prop) {x y : Code}
    (h1 : K P x (Exit.then (Mid n (fun s => .lst (lf s) (.strip ws l)) J) Q) n l w) (h2 : ∀ s w, J s w → K P y Q n (.lst (lf s) (.strip ws l)) w) : K P (.seq x y) Q n l w :=
  fun a ha => wp_seq fun b k cs => by
    obtain ⟨e, a', w', he, harr⟩ := h1 a ha b k cs
    refine ⟨e, a', w', ?_, harr⟩
    cases e with
    | normal => obtain ⟨s, hf, hj⟩ := he; exact h2 s w' hj a' hf
    | _ => exact he
theorem N_mid {σ : Type} {lf : σ → Env} {J : σ → World → Prop} (s' : σ) (hs : subS l (lf s')) (hJ : J s' w) :
    N (Exit.then (Mid n lf J) Q) .normal n l w := fun a ha => ⟨s', ha.sub hs, hJ⟩

/-- The function's end. -/
theorem N_done {fn : Func} {R : Ending → World → Prop} {e : Exit} {v : Value} (he : e = .normal ∨ e = .ret) (hr : ∀ a, Fr n l a → (results fn a.tmps).run P w = .ok v w) (hR : R (.returned v) w) (hds : dsOf l = [] := by rfl) :
    N (bodyPost P fn R) e n l w := fun a ha => by
  rcases he with rfl | rfl <;> exact ⟨ha.defers.trans hds, v, hr a ha, hR⟩
theorem Fr.getD {a : Act} (hf : Fr n l a) {t : Nat} {v : Value} (h : look l t = some v) : a.tmps.getD t undef = v := by
  simp [Array.getD_eq_getD_getElem?, hf.get t v h]
theorem N_done0 {fn : Func} {R : Ending → World → Prop} {e : Exit} (he : e = .normal ∨ e = .ret) (hf : fn.results = #[]) (hR : R (.returned (.tuple #[])) w) (hds : dsOf l = [] := by rfl) :
    N (bodyPost P fn R) e n l w := N_done he (fun a ha => results_none hf _ _ _) hR hds
theorem N_done1 {fn : Func} {R : Ending → World → Prop} {e : Exit} {t : Tmp} {v : Value} (he : e = .normal ∨ e = .ret) (hf : fn.results = #[.tmp t]) (hv : look l t = some v) (hR : R (.returned v) w) (hds : dsOf l = [] := by rfl) :
    N (bodyPost P fn R) e n l w := N_done he (fun a ha => by rw [results_tmp hf, ha.getD hv]) hR hds
theorem N_done2 {fn : Func} {R : Ending → World → Prop} {e : Exit} {t u : Tmp} {v x : Value} (he : e = .normal ∨ e = .ret) (hf : fn.results = #[.tmp t, .tmp u]) (hv : look l t = some v) (hx : look l u = some x)
    (hR : R (.returned (.tuple #[v, x])) w) (hds : dsOf l = [] := by rfl) : N (bodyPost P fn R) e n l w := N_done he (fun a ha => by rw [results_tmp2 hf, ha.getD hv, ha.getD hx]) hR hds

/-- Into a function: its arguments in the first slots. -/
theorem calls_of_K {f : FuncId} {fn : Func} {c : Code} {args : List Value} {R : Ending → World → Prop} (hf : P.funcs[f]? = some fn) (hb : fn.body = some c) (hn : Nat.ble args.length fn.ntmps = true)
    (h : K P c (bodyPost P fn R) fn.ntmps (.args args) w) : Calls P f args.toArray w R := by
  have hn : args.length ≤ fn.ntmps := Nat.le_of_ble_eq_true hn
  refine calls_of_wp hf hb (h _ ⟨by simp; omega, rfl, fun t v ht => ?_⟩)
  have h2 : args[t]? = some v := ht
  have hlt : t < args.length := by
    rcases Nat.lt_or_ge t args.length with h | h
    · exact h
    · simp [h] at h2
  show (args.toArray ++ _)[t]? = some v
  rw [Array.getElem?_append_left (by simpa using hlt)]
  simpa using h2
end
end Go.Sx
