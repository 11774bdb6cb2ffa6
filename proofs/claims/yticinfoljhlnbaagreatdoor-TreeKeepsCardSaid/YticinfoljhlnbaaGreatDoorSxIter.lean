/-
  Ranges over functions: rounds, calls of yield, and the contract of an iterator. No conditions: for every program.
-/
import Derived.Test.YticinfoljhlnbaaGreatDoorSxSlice
import Derived.Test.YticinfoljhlnbaaGreatDoorSxHeld
import Derived.OrdersIn
import Derived.RangeFuncRecord
import Derived.RangeFuncLeaves
import Derived.TacticsIn
import Derived.MapKept
namespace Go.Sx
open Go.RowKit
set_option linter.unusedVariables false
set_option linter.unusedSimpArgs false

/-- The wide fence, in a round of loop r or in none. -/
def fw (r : Option Nat) : Fence := { Fence.wide with round := r }
/-- Code in a round's frame (or a plain one), from a known frame. -/
def KI (r : Option Nat) (P : Program) (c : Code) (Q : Exit → Act → World → Prop) (n : Nat) (l : Env) (w : World) : Prop := ∀ a, Fr n l a → c.wpIn (fw r) 0 P Q a w
/-- The operations of a region, calls of yield among them. -/
def WI (r : Option Nat) (P : Program) (ops : Array Oper) (Q : Exit → Act → World → Prop) (rest : List Oper) (n : Nat) (l : Env) (w : World) : Prop := ∀ a, Fr n l a → wpListIn (fw r) 0 P ops Q rest a w
def QN (T : Act → World → Prop) (Q : Exit → Act → World → Prop) : Exit → Act → World → Prop
  | .normal, a, w => T a w
  | .outgrown, _, _ => False
  | e, a, w => Q e a w
theorem callsIn_fw {r : Option Nat} {P : Program} {f : FuncId} {args : Array Value} {w : World} {R : Ending → World → Prop} : CallsIn (fw r) 0 P f args w R ↔ Calls P f args w R := callsIn_wide (n := 0)
section
variable {P : Program} {Q : Exit → Act → World → Prop} {n : Nat} {l : Env} {w : World} {r : Option Nat}
theorem K_of_I {c : Code} (h : KI none P c Q n l w) : K P c Q n l w := fun a ha => wpIn_wide.1 (h a ha)
theorem KI_of {c : Code} (h : K P c Q n l w) : KI none P c Q n l w := fun a ha => wpIn_wide.2 (h a ha)
theorem KI_seq {x y : Code} (h : KI r P x (Exit.then (fun a w => y.wpIn (fw r) 0 P Q a w) Q) n l w) : KI r P (.seq x y) Q n l w := fun a hf => wpIn_seq (h a hf)
theorem KI_skip (h : N Q .normal n l w) : KI r P .skip Q n l w := fun a hf => wpIn_skip (h a hf)
theorem KI_ret (h : N Q .ret n l w) : KI r P .ret Q n l w := fun a hf => wpIn_ret (h a hf)
theorem KI_exit {id : Nat} (h : N Q (.exit id) n l w) : KI r P (.exit id) Q n l w := fun a hf => wpIn_exit (h a hf)
theorem KI_label {id : Nat} (h : N Q .normal n l w) : KI r P (.label id) Q n l w := fun a hf => wpIn_label (h a hf)
theorem KI_block {id : Nat} {c : Code} (h : KI r P c (Exit.inBlock id Q) n l w) : KI r P (.block id c) Q n l w := fun a hf => wpIn_block (h a hf)
theorem KI_cond_t {s : Tmp} {x y : Code} {t : Bool} (hs : look l s = some (.bool t)) (ht : t = true → KI r P x Q n (.cons s (.bool true) l) w) (hf : t = false → KI r P y Q n (.cons s (.bool false) l) w) : KI r P (.cond (.tmp s) x y) Q n l w := by
  intro a ha
  have key : Fr n (.cons s (.bool t) l) a := ⟨ha.size, ha.defers, fun u v hu => by
    by_cases e : u = s
    · subst e; rw [look_cons_same] at hu; rw [← hu]; exact ha.get _ _ hs
    · rw [look_cons_ne e] at hu; exact ha.get _ _ hu⟩
  exact wpIn_cond_split (ha.eval (x := .tmp s) hs) (fun h => by subst h; exact ht rfl a key) (fun h => by subst h; exact hf rfl a key)
theorem KI_cond_d {s : Tmp} {x y : Code} {p : Prop} {d : Decidable p} (hs : look l s = some (.bool (@decide p d))) (ht : p → KI r P x Q n (.cons s (.bool true) l) w) (hf : ¬ p → KI r P y Q n (.cons s (.bool false) l) w) : KI r P (.cond (.tmp s) x y) Q n l w :=
  KI_cond_t hs (fun h => ht (of_decide_eq_true h)) (fun h => hf (of_decide_eq_false h))
theorem KI_cond_n {s : Tmp} {x y : Code} {p : Prop} {d : Decidable p} (hs : look l s = some (.bool (!@decide p d))) (ht : ¬ p → KI r P x Q n (.cons s (.bool true) l) w) (hf : p → KI r P y Q n (.cons s (.bool false) l) w) : KI r P (.cond (.tmp s) x y) Q n l w :=
  KI_cond_t hs (fun h => ht (of_decide_eq_false (by simpa using h))) (fun h => hf (of_decide_eq_true (by simpa using h)))
theorem KI_cond_nb {s : Tmp} {x y : Code} {b : Bool} (hs : look l s = some (.bool (!b))) (ht : b = false → KI r P x Q n (.cons s (.bool true) l) w) (hf : b = true → KI r P y Q n (.cons s (.bool false) l) w) : KI r P (.cond (.tmp s) x y) Q n l w :=
  KI_cond_t hs (fun h => ht (by simpa using h)) (fun h => hf (by simpa using h))
theorem NI_then_k {y : Code} {Q₁ Q₂ : Exit → Act → World → Prop} (h : KI r P y Q₁ n l w) : N (Exit.then (fun a w => y.wpIn (fw r) 0 P Q₁ a w) Q₂) .normal n l w := fun a hf => h a hf

/-- What plain walks show of an operation holds in a round too. -/
theorem wpIn_of_wp {o : Oper} {a : Act} {T : Act → World → Prop} {Q' : Exit → Act → World → Prop} (hq : ∀ c a w, Q' (.panic c) a w → Q (.panic c) a w) (ho : ∀ a w, ¬ Q' .outgrown a w) (hnd : ∀ c, o.op ≠ .defer c) (h : o.wp P a w T Q') : o.wpIn (fw r) 0 P a w T Q := by
  unfold Oper.wp at h
  unfold Oper.wpIn
  refine ⟨fun _ _ => trivial, ?_⟩
  rw [show (fw r).round = r from rfl, Oper.semAt_eq r _ _ hnd]
  generalize (execOp a.eval o).run P w = res at *
  cases res with
  | ok m w' =>
    cases m <;> simp only [Oper.upon, Oper.uponIn] at h ⊢
    case value u => exact h
    case skip => exact h
    case defer d => exact h
    case enter f args =>
      refine ⟨fun hd => by simp [fw, Fence.wide] at hd, callsIn_fw.2 (Calls.mono h fun e w'' he => ?_)⟩
      cases e with
      | returned u => exact he
      | panicked c => exact hq _ _ _ he
      | outgrown => obtain ⟨_, _, he⟩ := he; exact (ho _ _ he).elim
    case row row args =>
      refine ⟨fun hd => by simp [fw, Fence.wide] at hd, fun c cs _ => ?_⟩
      obtain ⟨v, w'', hR, hs⟩ := h c cs
      exact ⟨v, w'', hR, stepsIn_wide.2 hs⟩
  | halt x w' =>
    cases x <;> simp only [Oper.upon, Oper.uponIn] at h ⊢
    case panic u => exact hq _ _ _ h
def noDefer : List Oper → Bool
  | [] => true
  | o :: L => (match o.op with | .defer _ => false | _ => true) && noDefer L
theorem noDefer_cons {o : Oper} {L : List Oper} (h : noDefer (o :: L) = true) : (∀ c, o.op ≠ .defer c) ∧ noDefer L = true := by
  simp only [noDefer, Bool.and_eq_true] at h
  refine ⟨fun c e => ?_, h.2⟩
  rw [e] at h; simp at h
theorem wpListIn_of_wpList {ops : Array Oper} {B : List Oper} : ∀ (A : List Oper) (a : Act) (w : World), noDefer A = true → wpList P ops (QN (wpListIn (fw r) 0 P ops Q B) Q) A a w → wpListIn (fw r) 0 P ops Q (A ++ B) a w
  | [], a, w, _, h => h
  | o :: A, a, w, hn, h => by
    have hn' := noDefer_cons hn
    have ih := fun a w => wpListIn_of_wpList (ops := ops) (B := B) A a w hn'.2
    unfold wpList at h
    show wpListIn (fw r) 0 P ops Q (o :: (A ++ B)) a w
    unfold wpListIn
    split
    · rename_i hw
      rw [if_pos hw] at h
      rcases h with h | ⟨_, _, _, h⟩
      · exact Oper.wpIn_mono ih (wpIn_of_wp (r := r) (Q' := QN (wpListIn (fw r) 0 P ops Q B) Q) (fun _ _ _ h => h) (fun _ _ h => h) hn'.1 h)
      · exact h.elim
    · rename_i hw
      rw [if_neg hw] at h
      exact ⟨fun _ _ => trivial, ih _ _ h⟩
theorem noDefer_at : ∀ {L : List Oper}, noDefer L = true → ∀ (i : Nat) (o : Oper), L[i]? = some o → ∀ c, o.op ≠ .defer c
  | [], _, _, _, h => by simp at h
  | x :: L, hn, 0, o, h => by simp at h; subst h; exact (noDefer_cons hn).1
  | x :: L, hn, i + 1, o, h => noDefer_at (noDefer_cons hn).2 i o (by simpa using h)
theorem wpAnyIn_of {ops : Array Oper} {md : Region.Mode} {Q' : Exit → Act → World → Prop} (hq : ∀ c a w, Q' (.panic c) a w → Q (.panic c) a w) (ho : ∀ a w, ¬ Q' .outgrown a w) (hz : ∀ a w, Q' .normal a w → Q .normal a w) (hnd : ∀ (i : Nat) (o : Oper), ops[i]? = some o → ∀ c, o.op ≠ .defer c) :
    ∀ (f : Nat) (d : Array Bool) (a : Act) (w : World), wpAny P md ops Q' f d a w → wpAnyIn (fw r) 0 P md ops Q f d a w := by
  intro f
  induction f with
  | zero => intro d a w h; exact ⟨h.1, hz _ _ h.2⟩
  | succ f ih =>
    intro d a w h
    refine ⟨fun h0 => hz _ _ (h.1 h0), fun i hi => ?_⟩
    have h1 := h.2 i hi
    unfold wpOp at h1
    unfold wpOpIn
    split
    · rename_i ho'; simp only [ho'] at h1; exact ih _ _ _ h1
    · rename_i o ho'
      simp only [ho'] at h1
      split
      · rename_i hw
        rw [if_pos hw] at h1
        rcases h1 with h1 | ⟨_, _, _, h1⟩
        · exact Oper.wpIn_mono (ih _) (wpIn_of_wp (r := r) hq ho (hnd i o ho') h1)
        · exact (ho _ _ h1).elim
      · rename_i hw
        rw [if_neg hw] at h1
        exact ⟨fun _ _ => trivial, ih _ _ _ h1⟩
theorem KI_held {id : Nat} {L : List Oper} {w0 : World} {M F : Heap} (S : World → Prop) (kp : KP) {hp' : HP} (hm : P.follows .mixedOrders = true) (hp : Hp w0 M F w) (hsel : Region.noSelect L.toArray = true)
    (hB : heldB L.toArray kp L.toArray.size (Array.replicate L.toArray.size false) = true) (hk : OkT L.toArray kp hp') (hn : noDefer L = true)
    (h : ∀ w', Hp w0 M F w' → Wh P L.toArray S (QN (fun a w => Q .normal a w) Q) hp' n l w') : KI r P (.region id L.toArray true) Q n l w := fun a hf => by
  refine wpIn_region_any hm (wpAnyIn_of (r := r) (Q := Q) (Q' := NoDie (QN (fun a w => Q .normal a w) Q)) (fun c a w h => absurd rfl (h.1 c)) (fun a w h => h.2) (fun a w h => h.2) ?_ _ _ _ _ ?_)
  · intro i o ho; exact noDefer_at hn i o (by simpa using ho)
  · exact wpAny_of_held _ _ _ _ (held_any (P := P) (S := S) (Q := QN (fun a w => Q .normal a w) Q) hsel hk _ _ a _ hB (h w.drew hp.drew a hf))
theorem KI_heldp {id : Nat} {L : List Oper} {w0 : World} {M F : Heap} (kp : KP) {hp' : HP} (hm : P.follows .mixedOrders = true) (hp : Hp w0 M F w) (hsel : Region.noSelect L.toArray = true)
    (hB : heldB L.toArray kp L.toArray.size (Array.replicate L.toArray.size false) = true) (hk : OkT L.toArray kp hp') (hn : noDefer L = true)
    (h : ∀ w', Hp w0 M F w' → Wh P L.toArray (Hp w0 M F) (QN (fun a w => Q .normal a w) Q) hp' n l w') : KI r P (.region id L.toArray true) Q n l w := KI_held (Hp w0 M F) kp hm hp hsel hB hk hn h
theorem KI_quiet {id : Nat} {L : List Oper} {w0 : World} {M F : Heap} (hm : P.follows .mixedOrders = true) (hp : Hp w0 M F w) (hB : Region.lexB .any L.toArray = true) (hn : noDefer L = true)
    (h : Wq P L.toArray (Hp w0 M F) (fun a' => ∀ w', Hp w0 M F w' → Q .normal a' w') L n l) : KI r P (.region id L.toArray true) Q n l w := fun a hf => by
  have hB' := hB
  simp only [Region.lexB, Bool.and_eq_true] at hB
  refine wpIn_region_any hm (wpAnyIn_of (r := r) (Q := Q) (Q' := QN (fun a w => Q .normal a w) Q) (fun _ _ _ h => h) (fun _ _ h => h) (fun _ _ h => h) ?_ _ _ _ _ (wpAny_of_quiet (C := Hp w0 M F) (Q' := QN (fun a w => Q .normal a w) Q) (Q := fun a' => ∀ w', Hp w0 M F w' → Q .normal a' w') (fun _ w' hw' h => h w' hw') _ _ _ _ hp.drew ?_))
  · intro i o ho; exact noDefer_at hn i o (by simpa using ho)
  · have := wpAnyQ_lex (C := Hp w0 M F) (md := .any) hB.1 L.toArray.toList 0 (Array.replicate L.toArray.size false) a (by simp) (by simpa using hB.2) (by simpa using h a hf)
    simpa using this
theorem KI_region {id : Nat} {L : List Oper} (h : WI r P L.toArray Q L n l w) : KI r P (.region id L.toArray false) Q n l w := fun a hf => wpIn_region_lit (h a hf)
theorem K_regionY {id : Nat} {L : List Oper} (h : WI none P L.toArray Q L n l w) : K P (.region id L.toArray false) Q n l w := K_of_I (KI_region h)
theorem WI_nil {ops : Array Oper} (h : N Q .normal n l w) : WI r P ops Q [] n l w := fun a hf => h a hf
theorem WI_pre {ops : Array Oper} {A B L : List Oper} (hL : L = A ++ B) (hn : noDefer A = true) (h : W P ops (QN (wpListIn (fw r) 0 P ops Q B) Q) A n l w) : WI r P ops Q L n l w := by
  subst hL; exact fun a hf => wpListIn_of_wpList A a w hn (h a hf)
theorem NI_next {ops : Array Oper} {B : List Oper} (h : WI r P ops Q B n l w) : N (QN (wpListIn (fw r) 0 P ops Q B) Q) .normal n l w := fun a hf => h a hf
/-- A region without a call of yield, in a round. -/
theorem KI_regionP {id : Nat} {L : List Oper} (hn : noDefer L = true) (h : W P L.toArray (QN (fun a w => Q .normal a w) Q) L n l w) : KI r P (.region id L.toArray false) Q n l w :=
  KI_region (WI_pre (A := L) (B := []) (by simp) hn h)
theorem NI_end (h : N Q .normal n l w) : N (QN (fun a w => Q .normal a w) Q) .normal n l w := fun a hf => h a hf

/-- A call of yield. -/
def YieldC (P : Program) (k : Nat) (args : List Value) (w : World) (R : Value → World → Prop) : Prop :=
  ∃ f tmps assign body, (Instr.yield k args.toArray).run P w = .ok (.round k f tmps assign body) w ∧ RoundIn Fence.wide 0 P k f tmps assign body w fun e w' => ∃ v, e = .returned v ∧ R v w'
theorem YieldC.mono {k : Nat} {args : List Value} {R R' : Value → World → Prop} (h : YieldC P k args w R) (hr : ∀ v w', R v w' → R' v w') : YieldC P k args w R' := by
  obtain ⟨f, t, a, b, h1, h2⟩ := h
  exact ⟨f, t, a, b, h1, h2.mono fun e w' ⟨v, he, hv⟩ => ⟨v, he, hr v w' hv⟩⟩
theorem WI_yield {ops : Array Oper} {rest : List Oper} {d : Tmp} {ty : TypeId} {pos : String} {af : Array Edge} {x : Operand} {xs : List Operand} {ts : Array TypeId} {vs : List Value} {k : Nat} {R : Value → World → Prop}
    (hx : ev l x = some (.func (.yield k) #[] #[])) (hxs : evs l xs = some vs) (hd : Nat.blt d n = true) (hc : YieldC P k vs w R) (h : ∀ v w', R v w' → WI r P ops Q rest n (.cons d v l) w') :
    WI r P ops Q ({ dst := some d, op := .call { callee := .value x, args := xs.toArray, argTypes := ts }, type := ty, pos := pos, after := af, guard := none } :: rest) n l w := by
  intro a hf
  refine wpListIn_plain rfl fun T hT => ?_
  obtain ⟨f, tm, as, bo, h1, h2⟩ := hc
  unfold Oper.wpIn
  refine ⟨fun _ _ => trivial, ?_⟩
  rw [show (fw r).round = r from rfl, Oper.semAt_eq r _ _ (fun c => by simp)]
  have e : xs.toArray.map a.eval = vs.toArray := by simp [hf.evals hxs]
  have e2 : (execOp a.eval { dst := some d, op := .call { callee := .value x, args := xs.toArray, argTypes := ts }, type := ty, pos := pos, after := af, guard := none }).run P w = .ok (.round k f tm as bo) w := by
    simp [execOp, resolve, Deferred.ofValue, hf.eval hx, e, invoke, h1]
  rw [e2]
  refine ⟨fun hd => by simp [fw, Fence.wide] at hd, RoundIn.mono h2 fun en w' he => ?_⟩
  obtain ⟨v, rfl, hv⟩ := he
  exact hT _ _ (h v w' hv _ (hf.put (inb_of hd) v))
end
theorem roundIn_fw {r : Option Nat} {P : Program} {k : Nat} {f : FuncId} {tmps : Array Value} {assign body : Code} {w : World} {R : Ending → World → Prop} (h : RoundIn Fence.wide 0 P k f tmps assign body w R) : RoundIn (fw r) 0 P k f tmps assign body w R := h

/-! ### The contract of an iterator -/
/-- B: its own blocks; xs: what comes, as yield is handed it. -/
def SeqC (P : Program) (fv : Value) (xs : List Value) (B : Heap) (w0 : World) : Prop :=
  ∀ (k : Nat) (J Jx : Nat → Heap → Prop) (X : Heap) (w : World), Hp w0 [] (B ++ X) w → J 0 X →
    (∀ i x O X w, xs[i]? = some x → J i X → Hp w0 [] (O ++ X) w → YieldC P k [x] w fun v w' => ∃ X', Hp w0 [] (O ++ X') w' ∧ ((v = .bool true ∧ J (i + 1) X') ∨ (v = .bool false ∧ Jx (i + 1) X'))) →
    CallV P fv [.func (.yield k) #[] #[]] w fun _ w' => ∃ X', Hp w0 [] X' w' ∧ (J xs.length X' ∨ ∃ i, i ≤ xs.length ∧ Jx i X')
def markD (D : Nat) : Deferred := { target := .collected D, args := #[] }
def defD (D : Nat) : Nat × Obj := (D, .deferred (some []))
/-- How a round may be left. -/
def roundQ (w0 : World) (I : Nat → Heap → Prop) (Ix : Code → Nat → Heap → Prop) (O : Heap) (i : Nat) : Exit → Act → World → Prop
  | .normal, _, w' => ∃ Y', Hp w0 [] (O ++ Y') w' ∧ I (i + 1) Y'
  | .ret, _, w' => ∃ Y', Hp w0 [] (O ++ Y') w' ∧ Ix .ret (i + 1) Y'
  | .exit id, _, w' => ∃ Y', Hp w0 [] (O ++ Y') w' ∧ Ix (.exit id) (i + 1) Y'
  | _, _, _ => False
theorem Hp.setPut {w0 w : World} {M A B : Heap} {b : Nat} {o : Obj} (o' : Obj) (h : Hp w0 M (A ++ (b, o) :: B) w) : Hp w0 M (A ++ (b, o') :: B) (w.putObj b o') := by
  have hb := h.own (b, o) (by simp)
  obtain ⟨h2, h3⟩ := MapKept.heap_set (o' := o') hb
  exact h.set_at (A := M ++ A) (B := B) (b := b) (o := o) (o' := o') (by simp) (by simp) rfl (by simp) rfl rfl rfl (by simp [World.putObj]) h2 h3
section
variable {P : Program} {Q : Exit → Act → World → Prop} {n : Nat} {l : Env} {w0 w : World} {F : Heap}
theorem K_rangeFunc {g : Operand} {p : Tmp} {assign body : Code} {xs : List Value} {B Y0 : Heap} {fv : Value} (I : Nat → Heap → Prop) (Ix : Code → Nat → Heap → Prop) (la : Value → Env)
    (hp : Hp w0 [] F w) (hF : F.Perm (B ++ Y0)) (hg : ev l g = some fv) (hseq : SeqC P fv xs B w0) (h0 : I 0 Y0) (hpn : Nat.blt p n = true)
    (hassign : ∀ r x w (T : Act → World → Prop), (∀ a, Fr n (la x) a → T a w) → KI (some r) P assign (Exit.then T (fun _ _ _ => False)) n (.cons p x (.marks [] l)) w)
    (hbody : ∀ r i x O Y w, xs[i]? = some x → I i Y → Hp w0 [] (O ++ Y) w → KI (some r) P body (roundQ w0 I Ix O i) n (la x) w)
    (hdone : ∀ D Y w, I xs.length Y → Hp w0 [] (defD D :: Y) w → N Q .normal n (.marks (markD D :: dsOf l) l) w)
    (hstop : ∀ D c i Y w, i ≤ xs.length → Ix c i Y → Hp w0 [] (defD D :: Y) w → K P c Q n (.marks (markD D :: dsOf l) l) w) :
    K P (.rangeFunc g #[p] assign body) Q n l w := by
  refine K_of_I fun a ha => ?_
  refine wpIn_rangeFunc ?_
  intro fn _
  rw [show (fw none).round = none from rfl]
  obtain ⟨rec, hrec⟩ : ∃ rec : LoopState → Option Code → Loop, rec = fun st pe => { state := st, pending := pe, fn, tmps := a.tmps, params := #[p], assign, body, defers := w.heap.size } := ⟨_, rfl⟩
  obtain ⟨W1, hW1⟩ : ∃ W1, (w.alloc (.deferred (some []))).alloc (.loop (rec .ready none)) = W1 := ⟨_, rfl⟩
  obtain ⟨k, hk⟩ : ∃ k, w.heap.size + 1 = k := ⟨_, rfl⟩
  obtain ⟨D, hD⟩ : ∃ D, w.heap.size = D := ⟨_, rfl⟩
  have hp1 : Hp w0 [] ((k, .loop (rec .ready none)) :: defD D :: F) W1 := by
    have := (hp.alloc (.deferred (some []))).alloc (.loop (rec .ready none))
    rw [hW1] at this
    simpa [defD, ← hk, ← hD] using this
  have hfr : Fr n (.marks (markD D :: dsOf l) l) { a with defers := [{ target := .collected D, args := #[] }] ++ a.defers } :=
    ⟨ha.size, by simp [dsOf, markD, ha.defers], fun t v ht => ha.get t v ht⟩
  have hxf : ∀ x, Fr n (.cons p x (.marks [] l)) { tmps := a.tmps.setIfInBounds p x, defers := [] } := fun x => by
    have h1 : Fr n (.marks [] l) { tmps := a.tmps, defers := [] } := ⟨ha.size, rfl, fun t v ht => ha.get t v ht⟩
    exact h1.put (inb_of hpn) x
  have hcall := hseq k (fun i X => ∃ Y, X = (k, .loop (rec .ready none)) :: defD D :: Y ∧ I i Y) (fun i X => ∃ c Y, X = (k, .loop (rec .done (some c))) :: defD D :: Y ∧ Ix c i Y)
    ((k, .loop (rec .ready none)) :: defD D :: Y0) W1 (hp1.perm (((hF.cons _).cons _).trans (by
      refine List.Perm.trans ?_ List.perm_append_comm
      exact (List.perm_append_comm.cons _).cons _))) ⟨Y0, rfl, h0⟩ (by
    rintro i x O X w2 hx ⟨Y, rfl, hI⟩ hp2
    have hl : w2.heap[k]? = some (.loop (rec .ready none)) := hp2.own (k, .loop (rec .ready none)) (by simp)
    have hy := run_yield (P := P) (args := [x].toArray) hl (by rw [hrec]; rfl)
    rw [hrec] at hy
    refine ⟨fn, _, assign, body, hy, roundIn_of_wpIn (F := Fence.wide) trivial ?_⟩
    have e1 : ((#[p] : Array Tmp).zip [x].toArray).foldl (fun (t : Array Value) (q : Tmp × Value) => t.setIfInBounds q.1 q.2) a.tmps = a.tmps.setIfInBounds p x := by simp
    refine cast (congrArg (fun tm => Code.wpIn (Fence.wide.inRound k) 0 P assign _ { tmps := tm, defers := [] } w2) e1.symm) ?_
    refine hassign k x w2 _ (fun a1 hf1 => ?_) _ (hxf x)
    refine ⟨_, run_beginRound hl (by rw [hrec]), ?_⟩
    have hp3 := Hp.setPut (.loop { rec .ready none with state := .busy }) (A := O) hp2
    have hb := hbody k i x (O ++ [(k, .loop { rec .ready none with state := .busy }), defD D]) Y _ hx hI (by simpa using hp3) a1 hf1
    have fin : ∀ (jump : Option Code) (Y' : Heap) (w3 : World), Hp w0 [] ((O ++ [(k, .loop { rec .ready none with state := .busy }), defD D]) ++ Y') w3 →
        (Instr.endRound k jump).run P w3 = .ok (.bool jump.isNone) (w3.putObj k (.loop (rec (if jump.isNone then .ready else .done) jump))) ∧
        Hp w0 [] (O ++ (k, .loop (rec (if jump.isNone then .ready else .done) jump)) :: defD D :: Y') (w3.putObj k (.loop (rec (if jump.isNone then .ready else .done) jump))) := fun jump Y' w3 hp4 => by
      have hl3 : w3.heap[k]? = some (.loop { rec .ready none with state := .busy }) := hp4.own (k, .loop { rec .ready none with state := .busy }) (by simp)
      have h5 := run_endRound (P := P) jump hl3
      have hp4' : Hp w0 [] (O ++ (k, .loop { rec .ready none with state := .busy }) :: (defD D :: Y')) w3 := by simpa using hp4
      have h6 := Hp.setPut (.loop (rec (if jump.isNone then .ready else .done) jump)) hp4'
      refine ⟨?_, by simpa using h6⟩
      rw [h5]; rw [hrec]
    refine wpIn_mono hb ?_
    rintro e a3 w3 hq
    cases e with
    | normal =>
      obtain ⟨Y', hp4, hI'⟩ := hq
      obtain ⟨hr, hp5⟩ := fin none Y' w3 hp4
      exact ⟨_, _, hr, _, rfl, _, hp5, .inl ⟨rfl, Y', rfl, hI'⟩⟩
    | ret =>
      obtain ⟨Y', hp4, hI'⟩ := hq
      obtain ⟨hr, hp5⟩ := fin (some .ret) Y' w3 hp4
      exact ⟨_, _, hr, _, rfl, _, hp5, .inr ⟨rfl, _, Y', rfl, hI'⟩⟩
    | exit id =>
      obtain ⟨Y', hp4, hI'⟩ := hq
      obtain ⟨hr, hp5⟩ := fin (some (.exit id)) Y' w3 hp4
      exact ⟨_, _, hr, _, rfl, _, hp5, .inr ⟨rfl, _, Y', rfl, hI'⟩⟩
    | goto t => exact hq.elim
    | panic ch => exact hq.elim
    | outgrown => exact hq.elim)
  obtain ⟨f, first, cap, rfl, hgo, hcalls⟩ := hcall
  refine ⟨k, [{ target := .collected D, args := #[] }], W1, { target := .fn (.func f) cap, args := first ++ #[.func (.yield k) #[] #[]] }, W1, f, first ++ #[.func (.yield k) #[] #[]] ++ cap, W1, ?_, ?_, fun _ _ => trivial, ?_, fun hd => by simp [fw, Fence.wide] at hd, ?_⟩
  · rw [← hW1, hrec, ← hk, ← hD]; exact run_enterLoop_outer _ _ _ _ _
  · have he := ha.eval hg
    simp only [resolve, rangeCall, he]
    simp [Deferred.ofValue, Act.eval]
  · simp [invoke, run_callFunc hgo]
  · refine callsIn_fw.2 (hcalls.mono ?_)
    rintro e w3 ⟨v, rfl, X', hp2, ⟨Y, rfl, hI⟩ | ⟨i, hi, c, Y, rfl, hI⟩⟩
    · have hl : w3.heap[k]? = some (.loop (rec .ready none)) := hp2.own (k, .loop (rec .ready none)) (by simp)
      refine ⟨none, _, by have := run_endLoop (P := P) hl (by rw [hrec]; simp); rw [hrec] at this; exact this, ?_⟩
      refine hdone D Y _ hI ?_ _ hfr
      exact (Hp.setPut (A := []) _ hp2).drop (List.sublist_cons_self _ _)
    · have hl : w3.heap[k]? = some (.loop (rec .done (some c))) := hp2.own (k, .loop (rec .done (some c))) (by simp)
      refine ⟨some c, _, by have := run_endLoop (P := P) hl (by rw [hrec]; simp); rw [hrec] at this; exact this, ?_⟩
      exact KI_of (hstop D c i Y _ hi hI ((Hp.setPut (A := []) _ hp2).drop (List.sublist_cons_self _ _))) _ hfr

/-- The assignment to one variable. -/
theorem K_range1 {g : Operand} {p q : Tmp} {body : Code} {xs : List Value} {B Y0 : Heap} {fv : Value} {id : Nat} {ty : TypeId} {pos : String} {af : Array Edge} (I : Nat → Heap → Prop) (Ix : Code → Nat → Heap → Prop)
    (hp : Hp w0 [] F w) (hF : F.Perm (B ++ Y0)) (hg : ev l g = some fv) (hseq : SeqC P fv xs B w0) (h0 : I 0 Y0) (hpn : Nat.blt p n = true) (hqn : Nat.blt q n = true)
    (hbody : ∀ r i x O Y w, xs[i]? = some x → I i Y → Hp w0 [] (O ++ Y) w → KI (some r) P body (roundQ w0 I Ix O i) n (.cons q x (.cons p x (.marks [] l))) w)
    (hdone : ∀ D Y w, I xs.length Y → Hp w0 [] (defD D :: Y) w → N Q .normal n (.marks (markD D :: dsOf l) l) w)
    (hstop : ∀ D c i Y w, i ≤ xs.length → Ix c i Y → Hp w0 [] (defD D :: Y) w → K P c Q n (.marks (markD D :: dsOf l) l) w) :
    K P (.rangeFunc g #[p] (.region id #[{ dst := some q, op := .assign (.tmp p), type := ty, pos := pos, after := af, guard := none }] false) body) Q n l w := by
  refine K_rangeFunc I Ix (fun x => .cons q x (.cons p x (.marks [] l))) hp hF hg hseq h0 hpn ?_ hbody hdone hstop
  intro r x w T hT
  refine KI_regionP (L := [_]) rfl ?_
  refine W_assign (v := x) (by simp [ev, look_cons_same]) hqn ?_
  exact W_nil (NI_end hT)

/-! ### A function whose body holds a range over a function -/
def bodyM (P : Program) (fn : Func) (R : Ending → World → Prop) : Exit → Act → World → Prop := bodyPostM Fence.wide 0 P fn R
theorem leavesM {fn : Func} {tmps : Array Value} {R : Ending → World → Prop} : ∀ {Ds : List Nat} {X : Heap} {w : World}, Hp w0 [] (Ds.map defD ++ X) w → (∀ w', Hp w0 [] X w' → ∃ v, (results fn tmps).run P w' = .ok v w' ∧ R (.returned v) w') →
    LeavesInM Fence.wide 0 P fn tmps R (Ds.map markD) .returning w
  | [], X, w, hp, h => h w hp
  | D :: Ds, X, w, hp, h => by
    have hl : w.heap[D]? = some (.deferred (some [])) := hp.own (defD D) (by simp)
    refine ⟨by simp, .inl ⟨D, _, rfl, run_takeDeferred hl, ?_⟩⟩
    exact leavesM (Ds := Ds) ((Hp.setPut (A := []) _ hp).drop (List.sublist_cons_self _ _)) h
theorem N_doneM {fn : Func} {R : Ending → World → Prop} {e : Exit} {rs : List ResultVar} {vs : List Value} {v : Value} (Ds : List Nat) {X : Heap} (he : e = .normal ∨ e = .ret) (hds : dsOf l = Ds.map markD) (hp : Hp w0 [] (Ds.map defD ++ X) w)
    (hf : fn.results = rs.toArray) (hv : ∀ w', Hp w0 [] X w' → RVs P w' l rs vs) (hr : packV vs = v) (hR : ∀ w', Hp w0 [] X w' → R (.returned v) w') : N (bodyM P fn R) e n l w := by
  intro a ha
  have key : LeavesInM Fence.wide 0 P fn a.tmps R a.defers .returning w := by
    rw [ha.defers, hds]
    refine leavesM hp fun w' hw' => ⟨v, ?_, hR w' hw'⟩
    unfold results
    rw [hf, List.mapM_toArray]
    simp only [Sem.run_bind, Sem.run_map]
    rw [rvs_run ha (hv w' hw')]
    · rw [← hr]
      match vs with
      | [] => simp [packV]
      | [v] => simp [packV]
      | _ :: _ :: _ => simp [packV]
    · intro u; rfl
    · intro p t; rfl
  rcases he with rfl | rfl <;> exact key
theorem calls_of_KM {f : FuncId} {fn : Func} {c : Code} {args : List Value} {R : Ending → World → Prop} (hf : P.funcs[f]? = some fn) (hb : fn.body = some c) (hn : Nat.ble args.length fn.ntmps = true)
    (h : K P c (bodyM P fn R) fn.ntmps (.args args) w) : Calls P f args.toArray w R := by
  have hn : args.length ≤ fn.ntmps := Nat.le_of_ble_eq_true hn
  refine (callsIn_wide (n := 0)).1 (callsIn_of_wp_marks hf hb trivial (wpIn_wide.2 (h _ ⟨by simp; omega, rfl, fun t v ht => ?_⟩)) rfl)
  have h2 : args[t]? = some v := ht
  have hlt : t < args.length := by
    rcases Nat.lt_or_ge t args.length with h | h
    · exact h
    · simp [h] at h2
  show (args.toArray ++ _)[t]? = some v
  rw [Array.getElem?_append_left (by simpa using hlt)]
  simpa using h2
end

/-! ### Guards among calls of yield; loops that leave marks; calls that use up blocks -/
section
variable {P : Program} {ops : Array Oper} {Q : Exit → Act → World → Prop} {rest : List Oper} {n : Nat} {l : Env} {w0 w : World} {F : Heap} {r : Option Nat}
theorem WI_guard_yes {d : Option Tmp} {op : Op} {t : TypeId} {pos : String} {af : Array Edge} {j : Nat} {b : Bool} (hy : yields l ops j = some (.bool b))
    (h : WI r P ops Q ({ dst := d, op := op, type := t, pos := pos, after := af, guard := none } :: rest) n l w) :
    WI r P ops Q ({ dst := d, op := op, type := t, pos := pos, after := af, guard := some (j, b) } :: rest) n l w := by
  intro a hf
  have h := h a hf
  unfold wpListIn at h ⊢
  rw [if_pos (by simp [Region.wanted])] at h
  rw [if_pos (by simp [Region.wanted, hf.yielded hy])]
  exact h
theorem st_refl (l : Env) : sub l l := fun _ _ h => h
theorem st_strip (ws : List Nat) (l : Env) : sub l (.strip ws l) := (sub_strip ws l).1
theorem st_marks {ds : List Deferred} {l L : Env} (h : sub l L) : sub (.marks ds l) L := h
theorem st_cons {d : Nat} {v : Value} {l L : Env} {ws : List Nat} (hd : memN ws d = true) (h : sub l (.strip ws L)) : sub (.cons d v l) (.strip ws L) := by
  intro t x ht
  have hn := look_strip ht
  rw [look_cons_ne (fun e => by subst e; rw [hd] at hn; cases hn)]
  exact h t x ht
theorem st_lst {xs : List (Nat × Value)} {l L : Env} {ws : List Nat} (hk : keysIn ws xs = true) (h : sub l (.strip ws L)) : sub (.lst xs l) (.strip ws L) := by
  intro t x ht
  simp only [look, lookL_none hk (look_strip ht)]
  exact h t x ht
theorem st_s_strip {vs ws : List Nat} {l L : Env} (hk : allIn ws vs = true) (h : sub l (.strip ws L)) : sub (.strip vs l) (.strip ws L) := by
  intro t x ht
  have hn := look_strip ht
  have hv : memN vs t = false := by
    cases e : memN vs t with
    | false => rfl
    | true => have := memN_iff.2 (allIn_mem hk t (memN_iff.1 e)); rw [this] at hn; cases hn
  have := h t x ht
  simpa [look, hv] using this
theorem sub_endM {l L : Env} {xs : List (Nat × Value)} {ws : List Nat} {ds : List Deferred} (h : sub l (.lst xs .nil)) (h' : sub l (.strip ws L)) (hd : dsOf l = ds) : subS l (.lst xs (.marks ds (.strip ws L))) := by
  refine ⟨?_, hd⟩
  intro t v ht
  cases e : lookL xs t with
  | some u => exact h t v (by simpa [look, e] using ht)
  | none => exact h' t v (by simpa [look, e] using ht)
theorem K_loopM {σ : Type} (ws : List Nat) (lf : σ → List (Nat × Value)) (ds : σ → List Deferred) (J : σ → World → Prop) (m : σ → Nat) (s : σ) {c : Code} (hs : sub l (.lst (lf s) .nil)) (hd : dsOf l = ds s) (hJ : J s w)
    (round : ∀ s w, J s w → K P c (Exit.then (Again n (fun s => .lst (lf s) (.marks (ds s) (.strip ws l))) J m s) Q) n (.lst (lf s) (.marks (ds s) (.strip ws l))) w) : K P (.loop c) Q n l w := by
  intro a ha b k cs
  have key : ∀ q s a w, m s = q → Fr n (.lst (lf s) (.marks (ds s) (.strip ws l))) a → J s w →
      ∃ e a' w', Q e a' w' ∧ Arrives P (lone (b.at a (.code c :: .inLoop c :: k)) cs w) b k cs e a' w' := by
    intro q
    induction q using Nat.strongRecOn with
    | _ q ih =>
      intro s a w hq hf hj
      obtain ⟨e, a₁, w₁, hq1, harr⟩ := round s w hj a hf b (.inLoop c :: k) cs
      cases e with
      | normal =>
        obtain ⟨s', f', j', hlt⟩ := hq1
        obtain ⟨e₂, a₂, w₂, hq₂, harr₂⟩ := ih (m s') (hq ▸ hlt) s' a₁ w₁ rfl f' j'
        exact ⟨e₂, a₂, w₂, hq₂, .of_steps (Steps.trans harr (.one step_inLoop)) harr₂⟩
      | exit id => exact ⟨_, a₁, w₁, hq1, .pass (x := .inLoop c) rfl (fun _ _ => .inl (by simp)) harr⟩
      | goto l => exact ⟨_, a₁, w₁, hq1, .pass (x := .inLoop c) rfl (fun _ _ => .inl (by simp)) harr⟩
      | ret => exact ⟨_, a₁, w₁, hq1, .pass (x := .inLoop c) rfl (fun _ _ => .inl (by simp)) harr⟩
      | panic ch => exact ⟨_, a₁, w₁, hq1, .pass (x := .inLoop c) rfl (fun _ _ => .inl (by simp)) harr⟩
      | outgrown => exact ⟨_, a₁, w₁, hq1, .pass (x := .inLoop c) rfl (fun _ _ => .inl (by simp)) harr⟩
  obtain ⟨e, a', w', hq, harr⟩ := key _ s a w rfl (ha.sub (sub_endM hs (st_strip ws l) hd)) hJ
  exact ⟨e, a', w', hq, .of_steps (.one step_loop) harr⟩
end
/-- Called with these values in a world with the own blocks B (to be used up), it returns a value with new blocks G. -/
def XC (P : Program) (f : FuncId) (args : List Value) (B : Heap) (w0 : World) (R : Value → Heap → Prop) : Prop :=
  GoFn P f ∧ ∀ F w, Hp w0 [] (B ++ F) w → Calls P f args.toArray w fun e w' => ∃ v, e = .returned v ∧ ∃ G, Hp w0 [] (G ++ F) w' ∧ R v G
section
variable {P : Program} {ops : Array Oper} {Q : Exit → Act → World → Prop} {rest : List Oper} {n : Nat} {l : Env} {w0 w : World} {F : Heap}
theorem W_xcall {f : FuncId} {xs : List Operand} {ts : Array TypeId} {vs : List Value} {B F' : Heap} {R : Value → Heap → Prop} {d : Tmp} {ty : TypeId} {pos : String} {af : Array Edge} (hp : Hp w0 [] F w) (hF : F.Perm (B ++ F')) (hxs : evs l xs = some vs) (hc : XC P f vs B w0 R) (hd : Nat.blt d n = true)
    (h : ∀ v G w', R v G → Hp w0 [] (G ++ F') w' → W P ops Q rest n (.cons d v l) w') :
    W P ops Q ({ dst := some d, op := .call { callee := .value (.func f), args := xs.toArray, argTypes := ts }, type := ty, pos := pos, after := af, guard := none } :: rest) n l w :=
  W_call rfl hxs hd (.static hc.1 (hc.2 F' w (hp.perm hF))) fun v w' ⟨G, hw', hr⟩ => h v G w' hr hw'
end
theorem perm_mid3 {O H F : Heap} {b : Nat × Obj} : (O ++ (b :: (H ++ F))).Perm (b :: (H ++ (O ++ F))) := by
  refine List.perm_middle.trans (List.Perm.cons _ ?_)
  rw [← List.append_assoc, ← List.append_assoc]
  exact List.Perm.append_right _ List.perm_append_comm
end Go.Sx
